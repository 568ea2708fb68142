/-
Contracts and plain laws, merged out of own texts.
-/
import Derived.Test.YtipfkbkkndacjaaGreatDoorM2
import Derived.Lib.AppendZeros
import Derived.Laws.OwnMore
import Derived.Deep.Slices
import Derived.Deep.Fields
import Derived.ChangeSame
import Derived.Below
import Derived.Carry
import Derived.ChangeOld
import Derived.ProofKit
import Derived.OpenShut
import Derived.SizedLaws
import Derived.HandedShaped
import Derived.LaidMore
import Derived.Stop.Joined
import Derived.SevenTiedAt
import Derived.MakeChecks
import Derived.Lib.ConvBytes
import Derived.Laws.AppendOwn
import Derived.Laws.BitsAllLaws
import Derived.Laws.Bits64
import Derived.Lib.SlBytesRow
import Derived.Lib.AppendStr
import Derived.Laws.BytesArg
import Derived.Laws.Cover3
import Derived.Shelf.Strings.Builder1
import Derived.Shelf.Strings.Builder2
import Derived.Shelf.Small.Utf8
import Derived.Shelf.Small.Bits
import Derived.Shelf.Small.Strs
import Derived.Shelf.Small.Wraps
import Derived.Shelf.Strings.BuilderF
import Derived.Shelf.Strconv.Atoi
import Derived.Shelf.Strconv.Itoa0
import Derived.Shelf.Strconv.Itoa1
import Derived.Shelf.LaysM
import Derived.Shelf.Strconv.Itoa2
import Derived.Shelf.Strconv.Itoa3
import Derived.Shelf.Strconv.AtoiErrFast
import Derived.Shelf.Strconv.ParseIntEmpty
import Derived.Shelf.Strconv.AtoiFail
import Derived.Shelf.Strconv.Clone
import Derived.Shelf.Strconv.SyntaxError
import Derived.Shelf.LaysC
import Derived.Shelf.Strconv.ToError
import Derived.Shelf.Strconv.Lower
import Derived.Shelf.Strconv.ParseUint10
import Derived.Shelf.Strconv.ParseUint10Empty
import Derived.Shelf.Strconv.ParseUint10Any
import Derived.Shelf.Strconv.ParseInt10
import Derived.Shelf.Strconv.AtoiLong
import Derived.Shelf.Strconv.AtoiInnerAll
import Derived.Shelf.Strconv.RangeError
import Derived.Shelf.Strconv.ToErrorRange
import Derived.Shelf.Strconv.AtoiAll
import Derived.Shelf.Strconv.ErrVarAll
import Derived.Shelf.Strings.Search1
import Derived.Shelf.Strings.Search2
import Derived.Shelf.Strings.Search3
import Derived.Shelf.Strings.Shaped
import Derived.Shelf.Sort.Plain
import Derived.Shelf.Strings.Prefix
import Derived.Shelf.Strings.Runes
import Derived.Shelf.Bits.Mul64
import Derived.Shelf.Strings.Repeat
import Derived.Shelf.Slices.Turned
import Derived.Ground.Names2Prog
import Derived.Shelf.Slices.CompactI
import Derived.Shelf.Slices.SearchI
import Derived.Shelf.Slices.Cells
import Derived.Shelf.Slices.In.SortNone
import Derived.Test.YtipfkbkkndacjaaGreatDoorProg
import Derived.Scope
import Derived.Laws.Runes
import Derived.Lib.IndexLaws
import Derived.Lib.AtoiAll
set_option linter.unusedVariables false
set_option linter.unusedSimpArgs false
set_option maxHeartbeats 4000000
set_option maxRecDepth 20000
namespace Go.Eng
open Go Go.RowKit Go.Proofs
inductive ZL:Str->List T3->Prop
 | nil:ZL [] []
 | sp {c:UInt8} {r:Str} {ts:List T3} (hc:Z1E c=true) (h:ZL r ts):ZL (c :: r) ts
 | tok {s:Str} {t:Tkn} {ts:List T3} (hs:s≠[]) (h1:Z1E (s.getD 0 0)=false) (h2:s.getD 0 0≠35) (hr:JV s=.ok t) (h:ZL (s.drop t.text.length) ts):ZL s (of3 t :: ts)
theorem ZbT (nl:Str->Nat) (s:Str) {u:Str} {ts:List T3} (h:ZL u ts):∀ (f at_:Nat) (l:List Tkn),s.drop at_=u->s.length - at_<f->
 ∃ (l1:List Tkn) (p:Int),JQ nl s f at_ l=.ok (l++l1++[⟨0,p,[],0⟩])/\l1.map of3=ts:=by
 induction h with
 | nil=>
   intro f at_ l hu hf;have hn:¬ at_<s.length:=by
    intro ag;have:=congrArg List.length hu;simp at this;omega
   cases f with
   | zero=>omega
   | succ f=>
     refine ⟨[],(at_:Int),?_,rfl⟩;simp only [JQ,if_neg hn,XD]
 | @sp c r ts hc h ih=>
   intro f at_ l hu hf;have ag:at_<s.length:=by
    have:=congrArg List.length hu;simp at this;omega
   cases f with
   | zero=>omega
   | succ f=>
     have hd:s.drop (at_+1)=r:=by rw [<- List.drop_drop,hu];rfl
     obtain ⟨l1,p,g1,g2⟩:=ih f (at_+1) l hd (by omega);refine ⟨l1,p,?_,g2⟩;simp only [JQ];rw [if_pos ag,hu];simp only [Xz];rw [if_pos hc];exact g1
 | @tok u t ts hs h1 h2 hr h ih=>
   intro f at_ l hu hf;have ag:at_<s.length:=by
    have:=congrArg List.length hu;have h0:0<u.length:=XW.2 hs;simp at this;omega
   have aO:=Z2I hs (by rintro ku;rw [ku] at h1;exact absurd h1 (by decide)) hr;have br:0<t.text.length:=XW.2 aO.1.text;cases f with
   | zero=>omega
   | succ f=>
     have hd:s.drop (at_+t.text.length)=u.drop t.text.length:=by rw [<- List.drop_drop,hu]
     obtain ⟨l1,p,g1,g2⟩:=ih f (at_+t.text.length) (l++[{ t with pos:=at_ }]) hd (by omega);refine ⟨{ t with pos:=(at_:Int) } :: l1,p,?_,by simp [g2,of3]⟩;simp only [JQ];rw [if_pos ag,hu,if_neg (by rw [h1];decide),if_neg h2,hr];simp only;rw [g1];simp
theorem ZfS {l1:List Tkn}:∀ (l0 l2:List Tkn),At (l0++l1++l2) l0.length (l1.map of3):=by
 induction l1 with
 | nil=>intro l0 l2;trivial
 | cons t r ih=>
   intro l0 l2;refine ⟨?_,?_⟩;have:cur (l0++t :: r++l2) l0.length=t:=by unfold cur;simp
   rw [this];have:=ih (l0++[t]) l2;simp only [Xy,List.singleton_append,Xc,Xe,Xf] at this ⊢;exact this
theorem Z6X {s:Str} {ts:List T3} (hl:s.length<=4000) (h:ZL s ts):∃ (l1:List Tkn) (p:Int),Z00 s=.ok (l1++[⟨0,p,[],0⟩])/\l1.map of3=ts/\At (l1++[⟨0,p,[],0⟩]) 0 ts:=by
 obtain ⟨l1,p,g1,g2⟩:=ZbT nlM s h (s.length+1) 0 [] (by simp) (by omega);refine ⟨l1,p,?_,g2,?_⟩;unfold Z00;rw [if_neg (by omega),g1];simp;have:=ZfS (l1:=l1) [] [⟨0,p,[],0⟩];rw [g2] at this;exact this
def ZaA (r:Str):Prop:=r=[]\/(ldB (r.getD 0 0)=false/\r.getD 0 0≠61)
theorem Z2z {p:UInt8->Bool}:∀ {w r:Str},(∀ c∈w,p c=true)->(r=[]\/p (r.getD 0 0)=false)->(w++r).takeWhile p=w
 | [], r, h, hr => by
   rcases hr with rfl|hr
   rfl
   . cases r with
     | nil=>rfl
     | cons a r=>
       simp only [Xz] at hr;simp [hr]
 | a :: w, r, h, hr => by
   simp only [XA,Ya0];rw [if_pos (h a (by simp)),Z2z (λc hc=>h c (by simp [hc])) hr]
theorem ZfT {c:UInt8} (h:Z5A c=true):ldB c=true:=by simp [ldB,h]
theorem ZfU {c:UInt8} (h:ZQ c=true):ldB c=true:=by simp [ldB,h]
theorem ZbU {c:UInt8} (h:ZQ c=true):Z5A c=false:=by
 unfold ZQ at h;unfold Z5A;simp at h ⊢;omega
theorem ZbV {c:UInt8} (h:ldB c=true):Z1E c=false/\c≠35/\c≠64:=by
 refine ⟨?_,?_,?_⟩
 . cases hs:Z1E c with
   | false=>rfl
   | true=>
     unfold Z1E at hs;simp only [Yav,decide_eq_true_eq] at hs;rcases hs with ((rfl|rfl)|rfl)|rfl<;>(revert h;decide)
 rintro rfl;revert h;decide;rintro rfl;revert h;decide
theorem ZaA.ld {r:Str} (h:ZaA r):r=[]\/ldB (r.getD 0 0)=false:=h.imp id (·.1)
theorem ZaA.dig {r:Str} (h:ZaA r):r=[]\/ZQ (r.getD 0 0)=false:=h.imp id (λh=>by
 have:=h.1;unfold ldB at this;simp only [Bool.or_eq_false_iff] at this;exact this.2)
structure Zjf (w:Str):Prop where
 ne:w≠[]
 len:w.length<=12
 first:Z5A (w.getD 0 0)=true
 all:∀ c∈w,ldB c=true
section
variable {r:Str} {ts:List T3}
theorem ZL.word {w:Str} (hw:Zjf w) (hr:ZaA r) (h:ZL r ts):ZL (w++r) ((1,w,0) :: ts):=by
 obtain ⟨a,q,rfl⟩:∃ a q,w=a :: q:=by cases w with|nil=>exact absurd rfl hw.ne|cons a q=>exact ⟨a,q,rfl⟩
 have hf:Z5A a=true:=by simpa using hw.first
 have hn:=ZbV (ZfT hf);have pY:=Z2z hw.all hr.ld;have dJ:JV (a :: q++r)=.ok ⟨1,0,a :: q,0⟩:=by
  unfold JV;simp only [XA,Xz,hf,if_true];unfold Z4T;simp only;rw [<- XA,pY,if_neg (by have:=hw.len;omega)];simp
 refine ZL.tok (t:=⟨1,0,a :: q,0⟩) (by simp) (by simpa using hn.1) (by simpa using hn.2.1) dJ ?_;simpa using h
theorem Zjg (a:Str) (c:UInt8):Z0u (a++[c])=10 * Z0u a+(c.toNat - 48):=by simp [Z0u,Yau]
theorem ZbW (u:Nat):Z0u (Lib.decDigits u)=u:=by
 induction u using Nat.strongRecOn with
 | _ u ih=>
   have h1:∀ k,k<10->(UInt8.ofNat (48+k)).toNat - 48=k:=by decide
   by_cases h:u<10;rw [Lib.decDigits,dif_pos h];have:=h1 u h;simp only [Z0u,X2,List.foldl_nil,Nat.mul_zero,XN];exact this;rw [Lib.decDigits,dif_neg h,Zjg,ih _ (by omega),h1 _ (by omega)];omega
theorem Z3a (u:Nat):Lib.decDigits u≠[]:=by
 rw [Lib.decDigits];split;simp;simp
theorem Z7l (u:Nat):1<(Lib.decDigits u).length->(Lib.decDigits u).getD 0 0≠48:=by
 induction u using Nat.strongRecOn with
 | _ u ih=>
   have h1:∀ k,k<10->1<=k->UInt8.ofNat (48+k)≠48:=by decide
   intro hl;by_cases h:u<10;rw [Lib.decDigits,dif_pos h] at hl;simp at hl
   . rw [Lib.decDigits,dif_neg h]
     have aR:=Z3a (u / 10);have hg:(Lib.decDigits (u / 10)++[UInt8.ofNat (48+u % 10)]).getD 0 0=(Lib.decDigits (u / 10)).getD 0 0:=by
      cases hd:Lib.decDigits (u / 10) with
      | nil=>exact absurd hd aR
      | cons a q=>simp
     rw [hg];by_cases eZ:u / 10<10;rw [Lib.decDigits,dif_pos eZ];simp only [Xz];exact h1 _ eZ (by omega);exact ih _ (by omega) (by
      rw [Lib.decDigits,dif_neg eZ];have:=XW.2 (Z3a (u / 10 / 10));simp;omega)
theorem ZeS {c:UInt8} (h:48<=c.toNat/\c.toNat<=57):ZQ c=true:=by unfold ZQ;simp;exact h
theorem ZL.num {n:Int} (h0:0<=n) (h1:n<=2147483647) (hr:ZaA r) (h:ZL r ts):ZL (Lib.itoa n++r) ((2,Lib.itoa n,n) :: ts):=by
 have hi:Lib.itoa n=Lib.decDigits n.toNat:=by unfold Lib.itoa;rw [if_neg (by omega)]
 rw [hi];have aB:∀ c∈Lib.decDigits n.toNat,ZQ c=true:=λc hc=>ZeS (Z4S _ c hc);have aR:=Z3a n.toNat;have pZ:=Z7l n.toNat;have ir:=ZbW n.toNat;have pY:=Z2z aB hr.dig;generalize Lib.decDigits n.toNat=w at *;obtain ⟨a,q,rfl⟩:∃ a q,w=a :: q:=by cases w with|nil=>exact absurd rfl aR|cons a q=>exact ⟨a,q,rfl⟩
 have ha:=aB a (by simp);have hn:=ZbV (ZfU ha);have dJ:JV (a :: q++r)=.ok ⟨2,0,a :: q,n⟩:=by
  unfold JV;simp only [XA,Xz,ZbU ha,ha,if_true,XO,if_false];unfold Z37;simp only;rw [<- XA,pY,if_neg (by rintro ⟨g1,g2⟩;exact pZ g1 (by simpa using g2)),ir,if_neg (by omega),Yax h0]
 refine ZL.tok (t:=⟨2,0,a :: q,n⟩) (by simp) (by simpa using hn.1) (by simpa using hn.2.1) dJ ?_;simpa using h
theorem ZL.sym {c:UInt8} (hc:c∈Z80) (hr:r.getD 0 0≠61\/(c≠60/\c≠62)) (h:ZL r ts):ZL (c :: r) ((4,[c],0) :: ts):=by
 have hp:∀ c∈Z80,Z5A c=false/\ZQ c=false/\c≠64/\Z1E c=false/\c≠35/\c≠33:=by decide
 obtain ⟨h1,h2,h3,h4,h5,h6⟩:=hp c hc;have dJ:JV (c :: r)=.ok ⟨4,0,[c],0⟩:=by
  unfold JV;simp only [Xz,h1,h2,if_neg h3,XO,if_false];unfold JZ;have bg:¬ ((c :: r).take 2=[60,61]\/(c :: r).take 2=[33,61]\/(c :: r).take 2=[62,61]):=by
   cases r with
   | nil=>simp
   | cons d q=>
     simp only [Yaw,Ybs,Ya4,and_true];simp only [Xz] at hr;rintro (⟨rfl,rfl⟩|⟨rfl,rfl⟩|⟨rfl,rfl⟩);rcases hr with h|h;exact h rfl;exact h.1 rfl
     exact h6 rfl;rcases hr with h|h;exact h rfl;exact h.2 rfl
  rw [if_neg bg];simp [hc]
 refine ZL.tok (t:=⟨4,0,[c],0⟩) (by simp) (by simpa using h4) (by simpa using h5) dJ ?_;simpa using h
theorem ZL.spc (h:ZL r ts):ZL (32 :: r) ts:=.sp (by decide) h
end
theorem Z9x {c:UInt8} {r:Str} (h:ldB c=false) (h2:c≠61):ZaA (c :: r):=.inr (by simpa using ⟨h,h2⟩)
theorem Z3b {r:Str}:ZaA (32 :: r):=Z9x (by decide) (by decide)
theorem Z9y {r:Str}:ZaA (59 :: r):=Z9x (by decide) (by decide)
def Zo4 (ds:Zw0):Prop:=∀ n:Int,0<=n->n<=3652058->(ds n).length=10/\∀ r:Str,JV (64 :: ds n++r)=.ok ⟨3,0,64 :: ds n,n⟩
theorem Z16 {w:Str} (h:(decide (w≠[]) && decide (w.length<=12) && Z5A (w.getD 0 0) && w.all ldB)=true):Zjf w:=by
 simp only [Xl,decide_eq_true_eq,XV] at h;exact ⟨h.1.1.1,h.1.1.2,h.1.2,h.2⟩
section
variable {ds:Zw0} {r:Str} {ts:List T3}
theorem ZL.day {n:Int} (hd:Zo4 ds) (h0:0<=n) (h1:n<=3652058) (h:ZL r ts):ZL (64 :: ds n++r) ((3,64 :: ds n,n) :: ts):=by
 obtain ⟨hl,hr⟩:=hd n h0 h1;refine ZL.tok (t:=⟨3,0,64 :: ds n,n⟩) (by simp) (by simp;decide) (by simp) (hr r) ?_;simpa using h
end
inductive Ps where
 | err (a c:Int)
 | ok (l:List RuleM)
def Z22 (s:Str):Ps:=
 match Z00 s with
 | .err a c=>.err a c
 | .ok l => match Z20 l (l.length + 1) [] 0 0 with
   | .err a c=>.err a c
   | .ok rs _ _=>.ok rs
def Z5B (d:Nat):Nat:=(d - d / 1460+d / 36524 - d / 146096) / 365
def Z6i (y:Nat):Nat:=365 * y+y / 4 - y / 100
def Zjh (y:Nat):Bool:=Nat.beq (y % 4) 0 && (!(Nat.beq (y % 100) 0) || Nat.beq (y % 400) 0)
def ZsI (d:Nat):Bool:=Nat.ble 146097 d || (Nat.ble (Z6i (Z5B d)) d && (Nat.blt d (Z6i (Z5B d)+365) || (Nat.beq d (Z6i (Z5B d)+365) && Zjh (Z5B d+1))))
def Zji:Nat->Nat->Bool
 | 0,lo=>ZsI lo
 | k+1,lo=>Zji k lo && Zji k (lo+2 ^ k)
theorem Z6j:∀ (k lo d:Nat),Zji k lo=true->lo<=d->d<lo+2 ^ k->ZsI d=true
 | 0, lo, d, h, h1, h2 => by
   have:d=lo:=by simp at h2;omega
   subst this;exact h
 | k + 1, lo, d, h, h1, h2 => by
   simp only [Zji,Xl] at h;rw [Ybo] at h2;rcases Yaz d (lo+2 ^ k) with h3|h3
   exact Z6j k lo d h.1 h1 h3;exact Z6j k (lo+2 ^ k) d h.2 h3 (by omega)
theorem Zjj:Zji 18 0=true:=by kernel_rfl
theorem Zjk (y:Nat):Zjh y=Z15 (y:Int):=by
 unfold Zjh Z15;have h:∀ a b:Nat,Nat.beq (a % b) 0=decide ((a:Int) % (b:Int)=0):=λa b=>by
  rw [Yad];simp only [decide_eq_true_eq];rw [Nat.beq_eq];omega
 rw [show Nat.beq (y % 4) 0=decide ((y:Int) % 4=0) from h y 4,show Nat.beq (y % 100) 0=decide ((y:Int) % 100=0) from h y 100,show Nat.beq (y % 400) 0=decide ((y:Int) % 400=0) from h y 400];simp
structure Dat where
 y:Int
 m:Int
 d:Int
def ofM (day:Int):Dat:=
 let z:=day+306
 let era:=z / 146097
 let doe:=z % 146097
 let yoe:=(doe - doe / 1460+doe / 36524 - doe / 146096) / 365
 let doy:=doe - (365 * yoe+yoe / 4 - yoe / 100)
 let m:=(5 * doy+2) / 153
 if m>=10 then ⟨yoe+400 * era+1,m - 9,doy - (153 * m+2) / 5+1⟩ else ⟨yoe+400 * era,m+3,doy - (153 * m+2) / 5+1⟩
theorem Zjl:∀ q:Nat,q<366->(5 * q+2) / 153<=11/\(153 * ((5 * q+2) / 153)+2) / 5<=q/\
 q - (153 * ((5 * q+2) / 153)+2) / 5+1<=(if (5 * q+2) / 153=11 then (if q=365 then 29 else 28) else if (5 * q+2) / 153=1\/(5 * q+2) / 153=3\/(5 * q+2) / 153=6\/(5 * q+2) / 153=8 then 30 else 31):=by decide +kernel
theorem Zjm (doe:Int) (h0:0<=doe) (h1:doe<146097):∃ yoe doy:Nat,(doe - doe / 1460+doe / 36524 - doe / 146096) / 365=(yoe:Int)/\doe - (365 * (yoe:Int)+(yoe:Int) / 4 - (yoe:Int) / 100)=(doy:Int)/\yoe<=399/\doy<=365/\(doy=365->Z15 ((yoe:Int)+1)=true):=by
 obtain ⟨d,rfl⟩:∃ d:Nat,doe=(d:Int):=⟨doe.toNat,by omega⟩
 have hd:d<146097:=by omega
 have h:=Z6j 18 0 d Zjj (by omega) (by omega);unfold ZsI at h;rw [show Nat.ble 146097 d=false by rw [Ybu];simp;omega] at h;simp only [Ybx,Xl,Yav,Nat.ble_eq,Nat.beq_eq] at h;obtain ⟨h2,h3⟩:=h;have hy:((d:Int) - (d:Int) / 1460+(d:Int) / 36524 - (d:Int) / 146096) / 365=((Z5B d:Nat):Int):=by unfold Z5B;omega
 have qa:Z5B d<=399:=by unfold Z5B;omega
 have ay:(Z6i (Z5B d):Int)=365 * (Z5B d:Int)+(Z5B d:Int) / 4 - (Z5B d:Int) / 100:=by unfold Z6i;omega
 refine ⟨Z5B d,d - Z6i (Z5B d),hy,by omega,qa,?_,λh4=>?_⟩;rcases h3 with h3|h3
 have:=XY h3;omega;have:=h3.1;omega;rcases h3 with h3|h3
 have:=XY h3;omega;have:=h3.2;rw [Zjk] at this;exact this
theorem ZfV (y e:Int):Z15 (y+400 * e)=Z15 y:=by
 unfold Z15;have h4:(y+400 * e) % 4=y % 4:=by omega
 have ja:(y+400 * e) % 100=y % 100:=by omega
 have qb:(y+400 * e) % 400=y % 400:=by omega
 rw [h4,ja,qb]
theorem Z5f {n:Int} (h0:0<=n) (h1:n<=3652058):1<=(ofM n).y/\(ofM n).y<=9999/\1<=(ofM n).m/\(ofM n).m<=12/\1<=(ofM n).d/\(ofM n).d<=ZK (ofM n).y (ofM n).m/\Z0a (ofM n).y (ofM n).m (ofM n).d=n:=by
 obtain ⟨yoe,doy,e1,e2,hy,hd,hl⟩:=Zjm ((n+306) % 146097) (by omega) (by omega);obtain ⟨m1,m2,m3⟩:=Zjl doy (by omega);have uE:(n+306) / 146097 * 146097+(n+306) % 146097=n+306:=by omega
 unfold ofM;simp only;rw [e1,e2];have em:(5 * (doy:Int)+2) / 153=(((5 * doy+2) / 153:Nat):Int):=by omega
 rw [em];have ek:(153 * (((5 * doy+2) / 153:Nat):Int)+2) / 5=(((153 * ((5 * doy+2) / 153)+2) / 5:Nat):Int):=by omega
 rw [ek];generalize (n+306) / 146097=era at *;generalize (n+306) % 146097=doe at *;have sN:∀ m:Nat,m<=11->(153 * (m:Int)+2) / 5=(((153 * m+2) / 5:Nat):Int):=λm _=>by omega
 generalize hm:(5 * doy+2) / 153=m at *;have q4:((yoe:Int)+400 * era) / 4=(yoe:Int) / 4+100 * era:=by omega
 have q100:((yoe:Int)+400 * era) / 100=(yoe:Int) / 100+4 * era:=by omega
 have q400:((yoe:Int)+400 * era) / 400=era:=by omega
 by_cases eZ:((m:Nat):Int)>=10;rw [if_pos eZ];simp only;have jc:Z0a ((yoe:Int)+400 * era+1) ((m:Int) - 9) ((doy:Int) - (((153 * m+2) / 5:Nat):Int)+1)=n:=by
  unfold Z0a;rw [if_pos (by omega)];simp only;rw [show (yoe:Int)+400 * era+1 - 1=(yoe:Int)+400 * era by omega,show (m:Int) - 9+9=(m:Int) by omega,sN m m1,q4,q100,q400];omega
 refine ⟨?_,?_,by omega,by omega,by omega,?_,jc⟩;omega;omega;have j6:m=10\/m=11:=by omega
 rcases j6 with rfl|rfl
 unfold ZK;rw [if_neg (by omega),if_neg (by omega),if_neg (by omega)];rw [if_neg (by omega),if_neg (by omega)] at m3;omega;unfold ZK;rw [if_neg (by omega),if_pos (by omega)];rw [if_pos rfl] at m3;by_cases kw:doy=365;rw [if_pos kw] at m3;have go:Z15 ((yoe:Int)+400 * era+1)=true:=by
  rw [show (yoe:Int)+400 * era+1=((yoe:Int)+1)+400 * era by omega,ZfV];exact hl kw
 rw [go];simp only [if_true];omega;rw [if_neg kw] at m3;split<;>omega
 rw [if_neg eZ];simp only;have jc:Z0a ((yoe:Int)+400 * era) ((m:Int)+3) ((doy:Int) - (((153 * m+2) / 5:Nat):Int)+1)=n:=by
  unfold Z0a;rw [if_neg (by omega)];simp only;rw [show (m:Int)+3 - 3=(m:Int) by omega,sN m m1,q4,q100,q400];omega
 refine ⟨?_,?_,by omega,by omega,by omega,?_,jc⟩;omega;omega;unfold ZK;rw [if_neg (by omega),if_neg (by omega)];rw [if_neg (by omega)] at m3;split at m3;rw [if_pos (by omega)];omega;rw [if_neg (by omega)];omega
def Z6k (w:Nat) (s:Str):Str:=List.replicate (w - s.length) 48++s
def Z2J (n:Int):Str:=Z6k 4 (Lib.itoa (ofM n).y)++[45]++Z6k 2 (Lib.itoa (ofM n).m)++[45]++Z6k 2 (Lib.itoa (ofM n).d)
theorem Z0R:∀ (k u:Nat),u<10 ^ (k+1)->(Lib.decDigits u).length<=k+1
 | 0,u,h=>by rw [Lib.decDigits,dif_pos (by simpa using h)];simp
 | k + 1, u, h => by
   rw [Lib.decDigits];split;simp;have:=Z0R k (u / 10) (by rw [Ybo] at h;omega);simp;omega
theorem ZaB {w:Nat} {z:Int} (h0:0<=z) (k:Nat) (hk:w=k+1) (h1:z<((10 ^ (k+1):Nat):Int)):(Z6k w (Lib.itoa z)).length=w/\(Z6k w (Lib.itoa z)).all ZQ=true/\(Z0u (Z6k w (Lib.itoa z)):Int)=z:=by
 have hi:Lib.itoa z=Lib.decDigits z.toNat:=by unfold Lib.itoa;rw [if_neg (by omega)]
 rw [hi];have hl:=Z0R k z.toNat (by omega);have hd:=ZbW z.toNat;have ha:=Z4S z.toNat;generalize Lib.decDigits z.toNat=s at *;unfold Z6k;refine ⟨by simp;omega,?_,?_⟩;simp only [YbG,Xl,XV];refine ⟨λc hc=>?_,λc hc=>ZeS (ha c hc)⟩;rw [List.eq_of_mem_replicate hc];decide
 . have hz:∀ (n:Nat) (s:Str),Z0u (List.replicate n 48++s)=Z0u s:=by
    intro n
    induction n with
    | zero=>intro s;simp
    | succ n ih=>intro s;simp only [Yay,XA];unfold Z0u at ih ⊢;simpa using ih s
   rw [hz,hd];omega
theorem Z3Q {n:Int} (h0:0<=n) (h1:n<=3652058):∃ a b c:Str,Z2J n=a++[45]++b++[45]++c/\a.length=4/\b.length=2/\c.length=2/\a.all ZQ=true/\b.all ZQ=true/\c.all ZQ=true/\(Z0u a:Int)=(ofM n).y/\(Z0u b:Int)=(ofM n).m/\(Z0u c:Int)=(ofM n).d:=by
 obtain ⟨g1,g2,g3,g4,g5,g6,g7⟩:=Z5f h0 h1;have g8:=Z1k (ofM n).y (ofM n).m;obtain ⟨a1,a2,a3⟩:=ZaB (w:=4) (z:=(ofM n).y) (by omega) 3 rfl (by omega);obtain ⟨b1,b2,b3⟩:=ZaB (w:=2) (z:=(ofM n).m) (by omega) 1 rfl (by omega);obtain ⟨c1,c2,c3⟩:=ZaB (w:=2) (z:=(ofM n).d) (by omega) 1 rfl (by omega);exact ⟨_,_,_,rfl,a1,b1,c1,a2,b2,c2,a3,b3,c3⟩
theorem Z9z {n:Int} (h0:0<=n) (h1:n<=3652058):(Z2J n).length=10:=by
 obtain ⟨a,b,c,e,ha,hb,hc,-⟩:=Z3Q h0 h1;rw [e];simp [ha,hb,hc]
theorem ZbX {n:Int} (h0:0<=n) (h1:n<=3652058):Z1j (Z2J n)=(n,0):=by
 obtain ⟨g1,g2,g3,g4,g5,g6,g7⟩:=Z5f h0 h1;obtain ⟨a,b,c,e,ha,hb,hc,da,db,dc,na,nb,nc⟩:=Z3Q h0 h1;rw [e]
 match a,ha with
 | [a0, a1, a2, a3], _=>
   match b,hb with
   | [b0, b1], _=>
     match c,hc with
     | [c0, c1], _=>
       unfold Z1j;have e1:(([a0,a1,a2,a3]++[45]++[b0,b1]++[45]++[c0,c1]:Str)).take 4=[a0,a1,a2,a3]:=rfl;have e2:((([a0,a1,a2,a3]++[45]++[b0,b1]++[45]++[c0,c1]:Str)).drop 5).take 2=[b0,b1]:=rfl;have e3:(([a0,a1,a2,a3]++[45]++[b0,b1]++[45]++[c0,c1]:Str)).drop 8=[c0,c1]:=rfl;rw [e1,e2,e3];rw [if_pos ⟨rfl,rfl,rfl,da,db,dc⟩];simp only;rw [na,nb,nc,if_neg (by omega),g7]
theorem Z83:Zo4 Z2J:=by
 intro n h0 h1;refine ⟨Z9z h0 h1,λr=>?_⟩;have hp:=ZbX h0 h1;have hl:=Z9z h0 h1;obtain ⟨a,b,c,e,ha,hb,hc,da,db,dc,-⟩:=Z3Q h0 h1;have jB:((64 :: Z2J n++r:Str)).take 11=64 :: Z2J n:=by
  rw [XA,Yaw,List.take_append_of_le_length (by omega),XH (by omega)]
 unfold JV;simp only [XA,Xz];rw [if_neg (by decide),if_neg (by decide),if_pos (by decide)];unfold Z94;rw [<- XA,if_neg (by simp;omega),jB];have mM:((Jc.zip (64 :: Z2J n++r)).all λp=>Z4J p.1 p.2)=true:=by
  rw [e]
  match a,ha with
  | [a0, a1, a2, a3], _=>
    match b,hb with
    | [b0, b1], _=>
      match c,hc with
      | [c0, c1], _=>
        simp only [YaT,List.all_nil,Ya2,Xl] at da db dc;simp [Jc,Z4J,da,db,dc]
 rw [if_pos mM];simp only [List.drop_succ_cons,Ybp];rw [hp];simp
def Z1d (y:Int):Int:=365 * (y - 1)+(y - 1) / 4 - (y - 1) / 100+(y - 1) / 400
def Z2i (y:Int):Nat->Int
 | 0=>0
 | k+1=>Z2i y k+ZK y ((k:Int)+1)
theorem Z9A (y:Int):Z15 y=true↔(y % 4=0/\(¬ y % 100=0\/y % 400=0)):=by
 unfold Z15;simp
theorem Z6Y (y:Int):Z1d (y+1)=Z1d y+(if Z15 y=true then 366 else 365):=by
 unfold Z1d;have h:=Z9A y;by_cases hl:Z15 y=true;rw [if_pos hl];have:=h.1 hl;omega;rw [if_neg hl];have:¬ (y % 4=0/\(¬ y % 100=0\/y % 400=0)):=λh'=>hl (h.2 h');omega
theorem Z3R {a b:Int} (h:a<=b):Z1d a<=Z1d b:=by
 unfold Z1d;omega
theorem Z2m {y:Int} {k:Nat} (hk:k<12):28<=ZK y ((k:Int)+1):=by
 unfold ZK;rw [if_neg (by omega)];repeat' split
 all_goals omega
theorem Zmv (y:Int):∀ k:Nat,k<=11->Z2i y k=(if k<2 then 31 * (k:Int) else (if Z15 y=true then 1 else 0)+(153 * ((k:Int) - 2)+2) / 5+59):=by
 intro k hk;have:k=0\/k=1\/k=2\/k=3\/k=4\/k=5\/k=6\/k=7\/k=8\/k=9\/k=10\/k=11:=by omega
 rcases this with rfl|rfl|rfl|rfl|rfl|rfl|rfl|rfl|rfl|rfl|rfl|rfl<;>simp [Z2i,ZK]<;>cases Z15 y<;>simp
theorem Zw2 (y:Int):Z2i y 12=if Z15 y=true then 366 else 365:=by
 simp [Z2i,ZK];cases Z15 y<;>simp
theorem Z2K (y d:Int) (k:Nat) (hk:k<=11):Z0a y ((k:Int)+1) d=Z1d y+Z2i y k+d - 1:=by
 rw [Zmv y k hk];unfold Z0a;by_cases h2:k<2;rw [if_pos h2,if_pos (by omega)];simp only;unfold Z1d;omega;rw [if_neg h2,if_neg (by omega)];simp only;have h:=Z6Y y;have hl:=Z9A y;have e:(153 * ((k:Int)+1 - 3)+2) / 5=(153 * ((k:Int) - 2)+2) / 5:=by congr 2;omega
 rw [e];generalize (153 * ((k:Int) - 2)+2) / 5=z;have e2:Z1d (y+1)=365 * y+y / 4 - y / 100+y / 400:=by unfold Z1d;omega
 rw [e2] at h;by_cases dW:Z15 y=true;rw [if_pos dW] at h ⊢;omega;rw [if_neg dW] at h ⊢;omega
theorem Z4r {y:Int}:∀ {a b:Nat},a<=b->b<=12->Z2i y a<=Z2i y b
 | a, 0, h, _ => by obtain rfl : a = 0 := by omega
                    exact YaY _
 | a, b + 1, h, h2 => by
   by_cases e:a=b+1;subst e;exact YaY _;have:=Z4r (y:=y) (a:=a) (b:=b) (by omega) (by omega);have:=Z2m (y:=y) (k:=b) (by omega);simp only [Z2i];omega
theorem Zjn (k:Nat) (h:0<k):Lib.decDigits k=(if k / 10=0 then [] else Lib.decDigits (k / 10))++[UInt8.ofNat (48+k % 10)]:=by
 rw [Lib.decDigits];by_cases eZ:k<10;rw [dif_pos eZ,if_pos (by omega)];simp [Nat.mod_eq_of_lt eZ];rw [dif_neg eZ,if_neg (by omega)]
theorem ZfW (d:Nat) (h:d<10):(([48,49,50,51,52,53,54,55,56,57]:Str).take (d+1)).drop d=[UInt8.ofNat (48+d)]:=by
 have:d=0\/d=1\/d=2\/d=3\/d=4\/d=5\/d=6\/d=7\/d=8\/d=9:=by omega
 rcases this with rfl|rfl|rfl|rfl|rfl|rfl|rfl|rfl|rfl|rfl<;>rfl
variable {P:Program} {n:Nat} {e:Env} {w:World} {d:Option Nat} {ty:TypeId} {pos:String} {af:Array Edge} {g:Option (Nat×Bool)}
theorem ZaC {x:Operand} {t:TypeId} {el:TypeId} [hu:Und P t (.slice el)] {p:Option Addr} {l c:Nat} (hx:ev e x=some (.slice p l c)) :
 PR P n ⟨d,.call { callee:=.builtin .cap,args:=#[x],argTypes:=#[t] },ty,pos,af,g⟩ e w (.I (c:Int)):=
 ⟨λa ha => by
   have:=run_cap_slice (P:=P) w t ty p l c (by rw [hu.h,Program.elem,hu.h]);simp [execOp,resolve,invoke,builtin,ha.ev hx,this,goInt]⟩
theorem Z84 {t el k:Nat} {x hi:Operand} {l c:Nat} [hu:Und P t (.slice el)] [hk:Siz P el k] (hx:ev e x=some (.slice none l c)) (hb:ev e hi=some (.I 0)) :
 PR P n ⟨d,.slice t x none (some hi) none,ty,pos,af,g⟩ e w (.slice none 0 c):=by
 refine ⟨λact eK=>?_⟩;simp [execOp,eK.ev hx,eK.ev hb,Instr.sliceAt,run_underlying hu.h,Instr.slice,Instr.sliceBounds,Instr.sliceBound,asIntOf,Siz.run]
theorem Z9B {t el k:Nat} {x hi:Operand} {b o:Nat} {l c:Nat} [hu:Und P t (.slice el)] [hk:Siz P el k] (hx:ev e x=some (.slice (some ⟨b,o,none⟩) l c)) (hb:ev e hi=some (.I 0)) :
 PR P n ⟨d,.slice t x none (some hi) none,ty,pos,af,g⟩ e w (.slice (some ⟨b,o,none⟩) 0 c):=by
 refine ⟨λact eK=>?_⟩;simp [execOp,eK.ev hx,eK.ev hb,Instr.sliceAt,run_underlying hu.h,Instr.slice,Instr.sliceBounds,Instr.sliceBound,asIntOf,Siz.run,Addr.add_lit]
theorem Zmw {t tn T bytes k:Nat} {kn:IntKind} {x y:Operand} {z:Value} [ht:Und P t (.slice T)] [hn:Und P tn (.int kn)] [hk:Siz P T 1] [hb:Byt P T bytes] [hz:Zer P T z] (fK:z.cells.size=1)
 (hx:ev e x=some (.N)) (hy:ev e y=some (.I (k:Int))) (h0:0<k) (gE:k<=maxLen) (hbytes:k * bytes<=140737488355328) :
 OE P n ⟨d,.call { callee:=.builtin .append,args:=#[x,y],argTypes:=#[t,tn] },ty,pos,af,g⟩ e w
  (λv w'=>∃ c,v=.slice (some ⟨w.heap.size,0,none⟩) k c/\w'.ownsRow w.heap.size T 1 (.slice (some ⟨w.heap.size,0,none⟩) 0 c) 0 []/\Stp [] w w'):=by
 obtain ⟨i,hi,bJ,cp,fq⟩:∃ i,P.info? T=some i/\i.size=1/\i.bytes=bytes/\i.zero=some z:=by
  have a1:=hk.h;have a2:=hb.h;have a3:=hz.h;cases hi:P.info? T with
  | none=>simp [hi] at a1
  | some i=>exact ⟨i,rfl,by simpa [hi] using a1,by simpa [hi] using a2,by simpa [hi] using a3⟩
 have bh:=Go.Lib.run_append_nil_zeros (P:=P) w t tn ty T i z .i64 kn ht.h hn.h hi fq k h0 (by omega) (by simp [maxLen] at gE;omega) (by rw [cp];omega);have kA:=grownCap_ge w k 0 T;have bI:(Builtin.zeroCells z.cells k++Builtin.zeroCells z.cells (grownCap w k 0 T - k)).size=grownCap w k 0 T * 1:=by
  rw [Array.size_append,size_zeroCells,size_zeroCells,fK];omega
 refine Jd (v:=.slice (some ⟨w.heap.size,0,none⟩) k (grownCap w k 0 T)) (w':=w.drew.alloc (.cells (Builtin.zeroCells z.cells k++Builtin.zeroCells z.cells (grownCap w k 0 T - k)) T)) (λa ha=>?_) ⟨_,rfl,World.ownsRow_made w.drew _ _ (Xn _) (grownCap_le_maxLen w k 0 T gE) bI,(Stp.drew [] w).trans (Stp.alloc [] _ _)⟩;simp [execOp,resolve,invoke,builtin,ha.ev hx,ha.ev hy,bh]
variable {P:Program} {n:Nat} {e:Env} {w:World} {d:Option Nat} {ty:TypeId} {pos:String} {af:Array Edge} {g:Option (Nat×Bool)}
theorem Z3v (k:Nat) (u:Value):(List.replicate k [u]).flatten=List.replicate k u:=by
 induction k with
 | zero=>rfl
 | succ k ih=>rw [Yay,Yag,ih];rfl
theorem Z1q {α:Type} [Z7 α] {t T bytes k:Nat} {x y:Operand} {z u:Value} {a0:α} [ht:Und P t (.slice T)] [hk:Siz P T 1] [hb:Byt P T bytes] [hz:Zer P T z] (bF:Z7.k α=1) (uF:z.cells=#[u]) (eY:∀ (X:List Nat) (w),Z7.rep X w a0 [u])
 (hx:ev e x=some (.I (k:Int))) (hy:ev e y=some (.I (k:Int))) (gE:k<=maxLen) (hbytes:bytes * k<=281474976710656) :
 OE P n ⟨d,.makeSlice t x y,ty,pos,af,g⟩ e w (λv w'=>(∀ X,Row X w' w.heap.size T v (List.replicate k a0))/\Stp [] w w'):=by
 obtain ⟨i,hi,bJ,cp,fq⟩:∃ i,P.info? T=some i/\i.size=1/\i.bytes=bytes/\i.zero=some z:=by
  have a1:=hk.h;have a2:=hb.h;have a3:=hz.h;cases hi:P.info? T with
  | none=>simp [hi] at a1
  | some i=>exact ⟨i,rfl,by simpa [hi] using a1,by simpa [hi] using a2,by simpa [hi] using a3⟩
 obtain ⟨w',bh,cb,qc⟩:=run_make_full (P:=P) w w.heap.size t T i z 1 ht.h hi fq bJ .i64 .i64 k (by rw [cp];exact hbytes) gE (Xn _);rw [uF,YaQ,toList_madeCells_one] at cb;refine Jd (v:=.slice (some ⟨w.heap.size,0,none⟩) k k) (w':=w') (λa ha=>?_) ⟨λX=>⟨List.replicate k [u],by simp,λj hj ga=>?_,?_⟩,Stp.of_grown qc⟩;simp [execOp,ha.ev hx,ha.ev hy,bh];rw [List.getElem_replicate,List.getElem_replicate];exact eY _ _;rw [Z3v,bF,List.length_replicate];exact cb
section
variable {P:Program} {n:Nat} {e:Env} {d:Option Nat} {ty:TypeId} {pos:String} {af:Array Edge} {g:Option (Nat×Bool)}
variable {α:Type} [Z7 α] {X:List Nat} {w w':World} {base T:Nat} {v:Value} {xs:List α}
theorem Z3S {i k:Nat} {t:TypeId} {x y:Operand} {u:Value} {y':α} [bI:Siz P t k] (hx:ev e x=some (.pointer (some (ZM v i k 0)))) (hy:ev e y=some u) (hk:k=Z7.k α)
 (bH:Z7.rep (ob v++X) w y' u.cells.toList) (ab:Row X w base T v xs) (hi:i<xs.length) :
 OE P n ⟨d,.store t x y,ty,pos,af,g⟩ e w (λ_ w'=>Row X w' base T v (xs.set i y')/\Stp (ob v) w w'):=by
 have dt:=ab;obtain ⟨css,hl,hr,ho⟩:=ab;have ai:∀ c∈css,c.length=Z7.k α:=by
  intro c hc;obtain ⟨q,hq,rfl⟩:=Xr hc;exact Z7.len (hr q (by omega) hq)
 rcases ho.2 with ⟨rfl,hn⟩|⟨q,cap,cur,rfl,hb,hg,cI,bR,bo,ht⟩
 omega;subst hk;have eo:u.cells.toList.length=Z7.k α:=Z7.len bH;have cB:i * Z7.k α+u.cells.toList.length<=cur.size:=by
  rw [eo,bo,<- X9];exact Xp _ (by omega)
 have ay:=run_storeCells_at P q (i * Z7.k α) T u.cells.toList 0 cur w hg (by simpa using cB) (Z7.one bH);simp only [Ybn] at ay;have d6:u.cells.size=Z7.k α:=by simpa using eo
 have iT:Stp [q] w (w.setRow q (cur.toList.take (i * Z7.k α)++u.cells.toList++cur.toList.drop (i * Z7.k α+u.cells.toList.length)).toArray):=Z1U _ _ _;refine Z4h (w':=w.setRow q (cur.toList.take (i * Z7.k α)++u.cells.toList++cur.toList.drop (i * Z7.k α+u.cells.toList.length)).toArray) (λa ha=>?_) ⟨⟨css.set i u.cells.toList,by simp [hl],λj hj ga=>?_,?_,.inr ⟨q,cap,_,by simp,hb,setRow_heap w q cur _ T (0,0) hg,by simpa using cI,bR,?_,?_⟩⟩,iT⟩;have dw:ZM (.slice (some ⟨q,0,none⟩) xs.length cap) i (Z7.k α) 0=⟨q,i * Z7.k α,none⟩:=by simp [ZM]
 rw [dw] at hx;simp [execOp,ha.ev hx,ha.ev hy,Instr.storeAt,Instr.sureAddr,storeVar,Siz.run,d6,ay];have ae:∀ b∈[q],b∈ob (.slice (some ⟨q,0,none⟩) xs.length cap)++X:=by simp [ob]
 by_cases dC:i=j;subst dC;simp only [Ybe];exact Z7.ext bH iT ae (λb hb=>.inl hb);simp only [YaM dC];exact Z7.ext (hr j (by simpa using hj) (by simpa using ga)) iT ae (λb hb=>.inl hb);rw [Z1s css ai i (by omega)];have h1:=ho.1;simp only [Xc,Xv,Yap,X6,eo,h1];have:(i+1) * Z7.k α<=xs.length * Z7.k α:=Xp _ (by omega);rw [X9] at this;omega;simp only [Yat,Xc,Xv,Yap,Yai,eo,bo];rw [eo,bo] at cB;omega;rw [Z1s css ai i (by omega),<- ht];have h2:(i+1) * Z7.k α<=xs.length * Z7.k α:=Xp _ (by omega);rw [X9] at h2;have h3:i * Z7.k α<=cur.toList.length:=by simp [bo];exact Xg (by omega) (Xp _ cI)
 simp only [X6,eo];rw [YaC,YaC,YaG,YaG,Ybq];simp only [Xc,Xv,eo];rw [Yae h3,XH (l:=u.cells.toList) (by rw [eo];omega)];rw [Ybz (by omega:i * Z7.k α<=xs.length * Z7.k α),Yae (by omega:i * Z7.k α<=xs.length * Z7.k α)]
end
section
variable {P:Program} {n:Nat} {Q:Exit->Act->World->Prop} {e:Env} {w:World}
theorem ZfX {id:Nat} {l:List Oper} (m:Nat) (S:List Nat) (Lt:List Nat) (ord:List (Nat×Nat)) (cF:l.length=m) (hm:P.follows .mixedOrders=true) (hs:Region.noSelect l.toArray=true) (hl:Nat.beq (wt ord) l.length=true)
 (hB:J6 l.toArray Lt ord (Array.replicate m false)=true)
 (h:∀ w',Stp [] w w'->w'.heap.size=w.heap.size->WD P n l.toArray S Lt Q ord e w'):WC P n (.region id l.toArray true) Q e w:=by
 subst cF;refine ⟨λa ha=>wp_region_any hm ?_⟩;have h1:=(h { w with drawn:=w.drawn+1 } (Stp.drew [] w) rfl).h _ hs hB a ha;have h2:=Z0W (Q:=Q) (λa w hz=>hz) _ _ _ _ h1;rw [XR hl] at h2;simpa using h2
def Zmx (w:World) (T:TypeId) (cs:List Value) (v:Value) (w':World):Prop:=v=.pointer (some ⟨w.heap.size,0,none⟩)/\Blk w' w.heap.size T cs/\Stp [] w w'
theorem ZfY {d:Option Nat} {ty:TypeId} {pos:String} {af:Array Edge} {g:Option (Nat×Bool)} {t:TypeId} {z:Value} [hz:Zer P t z]:OE P n ⟨d,.alloc t,ty,pos,af,g⟩ e w (Zmx w t z.cells.toList):=by
 refine Jd (v:=.pointer (some ⟨w.heap.size,0,none⟩)) (w':=w.alloc (.cells z.cells t)) (λa ha=>?_) ?_;simp [execOp,Instr.alloc,Zer.run,newVar,newRow,newObj];rfl;have h:=Zai w t z.cells.toList;obtain ⟨b,hb,cr,h1,h2⟩:=h;simp only [Value.pointer.injEq,XI,Addr.mk.injEq] at hb;obtain ⟨rfl,-⟩:=hb;exact ⟨rfl,by simpa using h1,by simpa using h2⟩
theorem ZdN {o:Oper} {a:Act} {w} {K K':Act->World->Prop} {Q':Exit->Act->World->Prop} (h:∀ a w,K a w->K' a w) (hq:∀ ex a w,Q' ex a w->Q ex a w)
 (hh:o.wp P a w K Q'):o.wp P a w K' Q:=by
 unfold Oper.wp at *;generalize (execOp a.eval o).run P w=r at *;cases r with
 | ok n w'=>
   cases n<;>simp only [Oper.upon] at hh ⊢ <;>
    first
     | exact h _ _ hh
     | exact Calls.mono hh (λe w'' he=>by cases e<;>first|exact h _ _ he|exact hq _ _ _ he|exact he.elim (λa h=>h.elim (λw h=>⟨a,w,hq _ _ _ h⟩)))
     | exact Rows.mono hh (λ_ _ he=>h _ _ he)
 | halt x w'=>cases x<;>simp only [Oper.upon] at hh ⊢<;>first|exact hq _ _ _ hh|exact hh
theorem Z3c {ops:Array Oper} {Q':Exit->Act->World->Prop} (hq:∀ ex a w,Q' ex a w->Q ex a w):∀ (l:List Oper) (a:Act) (w),wpList P ops Q' l a w->wpList P ops Q l a w
 | [],a,w,h=>hq _ _ _ h
 | o :: rest, a, w, h => by
   unfold wpList at h ⊢;split;rename_i hw;rw [if_pos hw] at h;rcases h with h|⟨h1,a',w',h2⟩
   exact .inl (ZdN (λa w h=>Z3c hq rest a w h) hq h);exact .inr ⟨h1,a',w',hq _ _ _ h2⟩;rename_i hw;rw [if_neg hw] at h;exact Z3c hq rest _ _ h
theorem Z5C {y:Code} {σ:Type} {ops:Array Oper} {l:List Oper} (env:σ->Env) (I:σ->World->Prop)
 (h:WL P n ops (Exit.then (λa w=>∃ s,Has n (env s) a/\I s w) Q) l e w) (k:∀ s w,I s w->WC P n y Q (env s) w):WL P n ops (Exit.then (λa w=>y.wp P Q a w) Q) l e w:=
 ⟨λa ha => Z3c (λex a w hq => by
   cases ex with
   | normal=>obtain ⟨s,h1,h2⟩:=hq;exact (k s w h2).h a h1
   | _=>exact hq) l a w (h.h a ha)⟩
end
open Go Go.RowKit Go.Proofs Go.ChangeShapes Go.WideShapes Go.Deep
section
variable {H:Type} {enc:TypeId×Value->H} {P:Program} {w:World} {base:Nat} {spare:Nat->Bool} {gF:Bool}
theorem ZbY (b o n:Nat):(⟨b,o,none⟩:Addr).add n=⟨b,o+n,none⟩:=by
 unfold Addr.add;split;rename_i h;subst h;rfl;rfl
def Zmy:DataW H->Nat
 | .slice els _=>els.length
 | _=>0
theorem ZbZ {α:Type} [Z3 α] {ok:α->Prop} {t e:TypeId} {fuel:Nat} {cs:List Value} {x:DataW H×List MemPlace} (ht:P.underlying t=some (.slice e)) (hC:P.cellsOf e=Z3.k α) (br:0<Z3.k α)
 (dJ:∀ n cs' y,cs'.length=Z3.k α->DataW.trod enc P w base spare gF n e cs'=some y->∃ a:α,cs'=Z3.enc a/\ok a)
 (h:DataW.trod enc P w base spare gF fuel t cs=some x):∃ (v:Value) (xs:List α),cs=[v]/\SlV [] w v xs/\(∀ a∈xs,ok a)/\Zmy x.1=xs.length:=by
 rcases open_slice ht h with ⟨rfl,rfl⟩|⟨a,len,cap,m,n,D,Pl,rfl,hb,hl,hm,fe,hx,hi⟩
 exact ⟨_,[],rfl,⟨none,0,rfl,Xn _,by simp [maxLen],λ_=>rfl,λi h=>absurd h (Xu _)⟩,by simp,rfl⟩;have cF:len<=m:=by rw [fe];split<;>omega
 have aR:∀ y:α,∃ u,(Z3.enc y)[0]?=some u:=λy=>⟨_,XU (by rw [Z3.len y];exact br)⟩
 have aB:∀ i:Fin len,∃ y:α,ok y/\∀ j u,(Z3.enc y)[j]?=some u->w.cell? (a.add (i * Z3.k α+j))=some u:=by
  intro i;obtain ⟨cs',hc,uG⟩:=hi i (by omega);rw [hC] at hc;obtain ⟨_,aL,iR⟩:=World.cells?_some hc;obtain ⟨y,rfl,aO⟩:=dJ n cs' _ aL uG;refine ⟨y,aO,λj u hu=>?_⟩;have hj:j<Z3.k α:=by
   have:=(Xx.1 hu).1;rw [Z3.len] at this;exact this
  have:=iR j hj;rw [hu] at this;rw [<- this,Go.Deep.add_add]
 let f:Fin len->α:=λi=>(aB i).choose
 have hf:∀ i:Fin len,ok (f i)/\∀ j u,(Z3.enc (f i))[j]?=some u->w.cell? (a.add (i * Z3.k α+j))=some u:=λi=>(aB i).choose_spec;refine ⟨_,List.ofFn f,rfl,⟨some a,cap,by simp,by simpa using hl,hm,by simp,λi cQ=>?_⟩,λy hy=>?_,by rw [hx];simp [Zmy]⟩;have kB:i<len:=by simpa using cQ
 have sO:=(hf ⟨i,kB⟩).2;obtain ⟨u1,sP⟩:∃ u,(Z3.enc (f ⟨0,by omega⟩))[0]?=some u:=aR _;have bY:=(hf ⟨0,by omega⟩).2 0 u1 sP;obtain ⟨u0,qd⟩:∃ u,(Z3.enc (f ⟨i,kB⟩))[0]?=some u:=aR _;have ia:=sO 0 u0 qd;have bD:a.spot=none:=by
  have e0:a.add ((⟨0,by omega⟩:Fin len).val * Z3.k α+0)=a:=by simp [Addr.add]
  rw [e0] at bY;unfold World.cell? at bY;split at bY
  . cases hs:a.spot with
    | none=>rfl
    | some s=>simp [hs] at bY
  cases bY
 obtain ⟨b,o,sp⟩:=a;cases bD;refine ⟨b,o,Z3.enc (f ⟨i,kB⟩),rfl,?_,by simp,?_,λj u hu=>?_⟩;have:=block_lt_of_cell (a:=(⟨b,o,none⟩:Addr).add (i * Z3.k α+0)) ia;simpa [ZbY] using this;simp;rfl;have:=sO j u hu;rw [ZbY] at this;rw [show o+i * Z7.k α+j=o+(i * Z3.k α+j) from YaB _ _ _];exact this;obtain ⟨i,rfl⟩:=List.mem_ofFn.1 hy;exact (hf i).1
theorem Zjo {t e:TypeId} {fuel:Nat} {cs:List Value} {x:DataW H×List MemPlace} (ht:P.underlying t=some (.slice e)) (hC:P.cellsOf e=1) (he:P.underlying e=some (.int .i64))
 (h:DataW.trod enc P w base spare gF fuel t cs=some x):∃ (v:Value) (xs:List Int),cs=[v]/\SlV [] w v xs/\(∀ a∈xs,I64 a)/\Zmy x.1=xs.length:=
 ZbZ (α:=Int) ht hC (by decide) (λn cs' y hl hy=>by
  obtain ⟨z,rfl,_,hw⟩:=DataW.trod_int he hy;exact ⟨z,rfl,by simpa [I64,Lit.wf,IntKind.min,IntKind.max,IntKind.signed,IntKind.bits] using hw⟩) h
end
section
variable {H:Type} {enc:TypeId×Value->H} {P:Program}
def ZeT (P:Program) (ts:List TypeId):Bool:=ts.all λt=>P.readableRec t && decide (t<P.types.size)
theorem Z4U (hl:laidOutB P=true) {W W':World} (hb:Below W.heap.size W W') {sp:Nat->Bool}:∀ {ts:List TypeId} {vs:List Value} {ds:List (DataW H)} {ps:List MemPlace},ZeT P ts=true->
 DataW.TrodAll enc P W 0 (λ_=>true) true ts vs ds ps->(∀ x∈ps,x.block<W.heap.size)->(∀ x∈ps,sp x.block=true)->DataW.TrodAll enc P W' 0 sp true ts vs ds ps
 | [],[],[],_,_,h,_,_=>h
 | t :: ts, v :: vs, d :: ds, ps, hr, h, ag, hs => by
   obtain ⟨p,q,h1,h2,rfl⟩:=h;simp only [ZeT,YaT,Xl,decide_eq_true_eq] at hr;obtain ⟨⟨r1,r2⟩,r3⟩:=hr;exact ⟨p,q,WideElems.Trod_stays hl r1 r2 h1 (λx hx=>hb.same (ag x (by simp [hx]))) (λx hx=>hs x (by simp [hx])),Z4U hl hb (by simpa [ZeT] using r3) h2 (λx hx=>ag x (by simp [hx])) (λx hx=>hs x (by simp [hx])),rfl⟩
 | [],_ :: _,_,_,_,h,_,_=>h.elim
 | [],[],_ :: _,_,_,h,_,_=>h.elim
 | _ :: _,[],_,_,_,h,_,_=>h.elim
 | _ :: _,_ :: _,[],_,_,h,_,_=>h.elim
section
variable {f:Func} {s:ChangeSpec} {apart fresh handsOn again:Bool} {W W':World} {args:Array Value} {v:Value} {ds gs:List (DataW H)} {before pa pv:List MemPlace}
theorem Z95
 (hW:DataW.Whole enc P f.params.toList s.vars apart W args.toList ds gs before)
 (az:∀ (b:Nat) (sp:Nat->Bool) (hd:Bool),DataW.TrodAll enc P W' b sp hd f.resultTypes.toList (v.resultList f.resultTypes.size) (s.fn H (ds++gs)).results [])
 (jO:∀ sp:Nat->Bool,(∀ p∈before,sp p.block=true)->DataW.TrodAll enc P W' 0 sp true f.params.toList args.toList (s.fn H (ds++gs)).args pa)
 (jP:∀ sp:Nat->Bool,(∀ p∈before,sp p.block=true)->DataW.TrodVars enc P W' sp s.vars (s.fn H (ds++gs)).vars pv)
 (bK:before=pa++pv) (hb:Below W.heap.size W W')
 (aO:∀ (j:Nat) (t:TypeId) (r:Value),f.resultTypes[j]?=some t->(v.resultList f.resultTypes.size)[j]?=some r->Value.okWide P W' .any 0 t r) :
 s.post enc P f apart fresh handsOn again W args v W':=by
 have ag:∀ p∈before,p.block<W.heap.size:=λp hp=>hW.lt p hp;have mN:∀ p∈before,(λb=>decide (b<W.heap.size)) p.block=true:=λp hp=>by simpa using ag p hp
 refine ⟨ds,gs,before,[],pa,pv,hW,az _ _ _,jO _ mN,jP _ mN,World.keptBut_mono (λp hp=>⟨hp,?_⟩) (hb.frame (·∈before)),λ_=>?_⟩;rw [bK,Xi] at hp;exact Or.inr hp;obtain ⟨_,_,_,_,_,hz,hn⟩:=hW;refine ⟨aO,_,_,([]++pa)++pv,⟨[]++pa,pv,trodAll_append (jO _ (λ_ _=>rfl)) (az _ _ _),jP _ (λ_ _=>rfl),rfl,?_,?_⟩,?_⟩;intro b off hp;have bG:MemPlace.cell b off∈before:=by rw [bK];simpa using hp
 rw [hb.frozen (ag _ bG)];exact hz b off bG;intro ha;have:=hn ha;rw [bK] at this;simpa using this;intro p hp _;rw [bK];simpa using hp
end
def Zmz (s:ChangeSpec) (k:Nat):Prop:=s.vars=[]/\∀ (H:Type) (ds:List (DataW H)),ds.length=k->(s.fn H ds).results=[.lit (.bool true)]/\(s.fn H ds).args=ds/\(s.fn H ds).vars=[]
theorem Z6Z {W:World} {base:Nat} {sp:Nat->Bool} {hd:Bool}:∀ {ts:List TypeId} {vs:List Value} {ds:List (DataW H)} {ps:List MemPlace},DataW.TrodAll enc P W base sp hd ts vs ds ps->ds.length=ts.length
 | [],[],[],_,_=>rfl
 | t :: ts, v :: vs, d :: ds, ps, h => by
   obtain ⟨p,q,h1,h2,rfl⟩:=h;simp [Z6Z h2]
 | [],_ :: _,_,_,h=>h.elim
 | [],[],_ :: _,_,h=>h.elim
 | _ :: _,[],_,_,h=>h.elim
 | _ :: _,_ :: _,[],_,h=>h.elim
theorem Zw3 {fn:Func} {K tb:Nat} {s:ChangeSpec} {fresh handsOn again:Bool} {W:World} {args:Array Value} {ds gs:List (DataW H)} {before:List MemPlace} (hl:laidOutB P=true) (hr:ZeT P fn.params.toList=true)
 (az:fn.resultTypes=#[tb]) (hb:P.underlying tb=some .bool) (hs:Zmz s fn.params.size)
 (hW:DataW.Whole enc P fn.params.toList s.vars false W args.toList ds gs before) (hc:Calls P K args W (Ret λr w'=>r=.bool true/\Stp [] W w')) :
 Calls P K args W λe W'=>∃ v,e=.returned v/\s.post enc P fn false fresh handsOn again W args v W':=by
 refine hc.mono ?_;rintro _ w' ⟨_,rfl,rfl,hS⟩;refine ⟨_,rfl,?_⟩;have sQ:=hW;obtain ⟨p,q,hA,hV,qe,xH,ge⟩:=hW;rw [hs.1] at hV;obtain ⟨rfl,rfl⟩:=trodVars_none hV;have ai:(ds++[]).length=fn.params.size:=by simpa using Z6Z hA
 obtain ⟨s1,s2,s3⟩:=hs.2 H (ds++[]) ai;have ag:∀ x∈before,x.block<W.heap.size:=λx hx=>sQ.lt x hx;refine Z95 (pa:=p) (pv:=[]) sQ (λb sp hd=>?_) (λsp bD=>?_) (λsp _=>?_) qe hS.below ?_;rw [s1,az];exact trodAll_mk1 ⟨1,by simp [DataW.trod,Value.cells,hb]⟩;rw [s2];simp only [XD] at qe ⊢;subst qe;exact Z4U hl hS.below hr hA ag bD;rw [s3,hs.1];rfl;exact ok_one az rfl (by simp [Value.okWide,hb,Cell.okWide,Cell.ok])
end
section
variable {H:Type} {enc:TypeId×Value->H}
theorem Zjp {a:Assume} {C:Checked} {os:Os} {f:FuncId} {fn:Func} {s:ChangeSpec} {conds:List PathCond} {apart fresh handsOn again:Bool} {X:World->Array Value->Prop}
 (hX:∀ (w w':World) (args:Array Value),w.heap=w'.heap->X w args->X w' args)
 (own:ownKnob C.prog.godebug=none) (started:os.Started) (noInit:C.prog.inits.idxOf? f=none) (qf:C.prog.funcs[f]?=some fn)
 (witness : ∃ (w : World) (tape : Tape) (i : Input), w.os = os /\ (w.forCall tape i).Shaped C.prog /\ i.vars = [] /\ Input.okWide C.prog (w.forCall tape i) .any w.heap.size f i/\
   ((s.pre enc C.prog fn conds apart (w.forCall tape i).memory i.args/\X (w.forCall tape i).memory i.args)/\sizedMet enc C.prog fn (OpenSpec.ofChange s) apart (w.forCall tape i).memory i.args)/\a.holds C.prog (lone (Frame.enter C.prog f i.args .normal) [] (w.forCall tape i)))
 (contract : ∀ (W : World) (base : Nat) (args : Array Value) (ds gs : List (DataW H)) (before : List MemPlace),
   (∀ (j:Nat) t v,fn.params[j]?=some t->args[j]?=some v->Value.okWide C.prog W .any base t v)->
   DataW.Whole enc C.prog fn.params.toList s.vars apart W args.toList ds gs before->
   (DataW.weightsEach C.prog (fn.params.toList++s.plain.varTypes C.prog) (ds++gs)).all (·<=reachBytes)=true->X W args->W.ShapedOpen C.prog->
   Calls C.prog f args W λe W'=>∃ v,e=.returned v/\s.post enc C.prog fn apart fresh handsOn again W args v W') :
 ReturnsInHanded a C os f .any (λw args=>(s.pre enc C.prog fn conds apart w args/\X w args)/\sizedMet enc C.prog fn (OpenSpec.ofChange s) apart w args) (s.post enc C.prog fn apart fresh handsOn again):=by
 refine returnsInHanded_of_calls own started noInit witness ?_;intro w tape i _ dI _ aO cu hholds;obtain ⟨_,_,_,fn',qg,_,_,_,_,qh⟩:=aO;have e:fn'=fn:=X1 (qg.symm.trans qf);subst e;obtain ⟨⟨⟨ds,gs,before,hw,hc⟩,hx⟩,hz⟩:=cu;have uH:=DataW.Whole.of_heap (w':=w.forCall tape i) (by rfl) hw;refine (contract (w.forCall tape i) w.heap.size i.args ds gs before qh uH (hz.weights hw) (hX _ _ _ (by rfl) hx) dI).mono λe W' ⟨v,he,hp⟩=>?_
 subst he;exact ChangeSpec.post_blind hp
end
instance:Z3 UInt8 where
 k:=1
 enc:=λb=>[.int .u8 (b.toNat:Int)]
 len:=λ_=>rfl
 one:=by intro x u hu;simp at hu;subst hu;rfl
section
variable {P:Program} {n:Nat} {e:Env} {w:World} {d:Option Nat} {ty:TypeId} {pos:String} {af:Array Edge} {g:Option (Nat×Bool)}
theorem Zc0 {src dst el:TypeId} {x:Operand} {s:Str} [hs:Und P src .string] [hd:Und P dst (.slice el)] [he:Und P el (.int .u8)] (hx:ev e x=some (str s)) (hl:s.length<=1000000) :
 OE P n ⟨d,.convert src dst x,ty,pos,af,g⟩ e w (λv w'=>(∀ X:List Nat,(∀ b∈X,b<w.heap.size)->SlV X w' v s)/\Stp [] w w'):=by
 refine Jd (v:=.slice (some ⟨w.heap.size,0,none⟩) s.length (grownCap w s.length 0 el)) (w':=Go.Lib.bytesWorld w el ⟨s.toArray⟩) (λa ha=>?_) ⟨λX hX=>?_,?_⟩;have h:=Go.Lib.run_convert_string_bytes (P:=P) w src dst el ⟨s.toArray⟩ hs.h hd.h he.h;simp only [Z0x] at h;simp [execOp,ha.ev hx,h];refine ⟨some ⟨w.heap.size,0,none⟩,_,rfl,grownCap_ge w _ _ _,grownCap_le_maxLen w _ _ _ (by simp [maxLen];omega),(λh=>by cases h),λi hi=>⟨w.heap.size,0,Z3.enc s[i],rfl,?_,λh=>by have:=hX _ h;omega,rfl,λj u hu=>?_⟩⟩;rw [Go.Lib.bytesWorld_size];omega;have hj:j=0:=by
  have:=(Xx.1 hu).1;simp [Z3.enc] at this;exact this
 subst hj;have hc:=Go.Lib.bytesWorld_cell w el ⟨s.toArray⟩ i (by rw [Z0x];exact hi);simp only [Z3.enc,List.getElem?_cons_zero,XI] at hu;subst hu;have e1:(0+i * Z7.k UInt8+0)=i:=by show 0+i * 1+0=i;omega
 rw [e1,hc];simp [List.getD,hi];refine ⟨rfl,rfl,rfl,?_,λb hb _=>Go.Lib.bytesWorld_at_old w el _ b hb⟩;rw [Go.Lib.bytesWorld_size];omega
end
section
variable {P:Program} {n:Nat} {e:Env} {w:World} {d:Option Nat} {ty:TypeId} {pos:String} {af:Array Edge} {g:Option (Nat×Bool)}
theorem ZmA {src dst:TypeId} {k k':IntKind} {x:Operand} {a:Int} {D:TypeDesc} [hs:Und P src D] [hd:Und P dst (.int k)] (hx:ev e x=some (.int k' a)) :
 PR P n ⟨d,.convert src dst x,ty,pos,af,g⟩ e w (.int k (k.wrap a)):=
 ⟨λc ha => by
   have hk:P.intKind dst=k:=by simp [Program.intKind,hd.h]
   have:=run_convert_int (P:=P) w src dst k' a (by rw [hs.h];rfl) (by rw [hk];exact hd.h);simp [execOp,ha.ev hx,this,hk]⟩
theorem Z4s {src dst:TypeId} {k k':IntKind} {x:Operand} {a b:Int} {D:TypeDesc} [hs:Und P src D] [hd:Und P dst (.int k)] (hx:ev e x=some (.int k' a)) (hb:k.wrap a=b) :
 PR P n ⟨d,.convert src dst x,ty,pos,af,g⟩ e w (.int k b):=hb ▸ ZmA hx
end
end Go.Eng
namespace Go.Proofs.YtipfkbkkndacjaaGreatDoor
open Go Go.Eng Go.RowKit Go.Proofs
def Z5D:List Int:=[0,31,28,31,30,31,30,31,31,30,31,30,31]
def Z0I (w:World):Prop:=∀ i u,Z5D[i]?=some u->w.cell? ⟨3,i,none⟩=some (.I u)
theorem Z0I.ext {S:List Nat} {w w':World} (h:Z0I w) (hS:Stp S w w') (hb:3∉S):Z0I w':=λi u hu=>hS.cell hb (h i u hu)
theorem Z0I.up {w w':World} (h:Z0I w) (hS:Stp [] w w'):Z0I w':=h.ext hS (by simp)
theorem Zjq (y:Int) (w) (h0:0<=y) (h1:y<=100000):CC 314 #[.I y] w λr w'=>r=.B (Z15 y)/\w'=w:=by
 unfold Z15;refine cW1 16 Tryz.func314 ?_;repeat'(first|refine W1 ?_|omega|refine VG ?_ ?_<;>intro hg|refine VC ?_ ?_<;>intro hc)
 all_goals refine WR ?_
 all_goals refine .mk ⟨?_,rfl⟩
 all_goals congr 1
 all_goals (first|done|(rw [Yad];simp;omega)|(simp [*]))
theorem Z3d (y m:Int) (w) (hL:Z0I w) (h0:0<=y) (h1:y<=100000):CC 262 #[.I y,.I m] w λr w'=>r=.I (ZK y m)/\w'=w:=by
 unfold ZK;refine cW2 22 Tryz.func262 ?_;by_cases hm:m<1\/12<m
 . rw [if_pos hm]
   repeat'(first|refine W1 ?_|omega|refine VG ?_ ?_<;>intro hg|refine VC ?_ ?_<;>intro hc)
   all_goals refine WR ?_
   all_goals exact .mk ⟨rfl,rfl⟩
 rw [if_neg hm];obtain ⟨k,rfl⟩:∃ k:Nat,m=(k:Int):=⟨m.toNat,by omega⟩
 have hk:k<13:=by omega
 have au:w.cell? ⟨3,0+k * 1,none⟩=some (.I (Z5D.getD k 0)):=hL _ _ (by
  have:k<Z5D.length:=hk;simp [List.getD,this])
 by_cases h2:(k:Int)=2;rw [if_pos h2];refine QO ?_;refine CL (Zjq y _ h0 h1) ?_;rintro _ _ ⟨rfl,rfl⟩;cases hl:Z15 y;refine W ?_;refine Z9 (JH rfl rfl au) rfl ?_;refine W ?_;refine WR ?_;obtain rfl:k=2:=by omega
 exact .mk ⟨rfl,rfl⟩;refine RT ?_;exact ⟨rfl,rfl⟩;rw [if_neg h2];refine QO ?_;refine Z9 (JH rfl rfl au) rfl ?_;refine W ?_;refine WR ?_;refine .mk ⟨?_,rfl⟩;congr 1;have:k=1\/k=3\/k=4\/k=5\/k=6\/k=7\/k=8\/k=9\/k=10\/k=11\/k=12:=by omega
 rcases this with rfl|rfl|rfl|rfl|rfl|rfl|rfl|rfl|rfl|rfl|rfl<;>rfl
abbrev Zjr (y m d:Int):Value:=.agg #[.I y,.I m,.I d]
def Z23 (y m d:Int):Prop:=y<1\/9999<y\/m<1\/12<m\/d<1\/ZK y m<d
instance (y m d:Int):Decidable (Z23 y m d):=by unfold Z23;infer_instance
theorem ZdO (y m d:Int) (w) (hL:Z0I w):CC 336 #[Zjr y m d] w λr w'=>r=.I (if Z23 y m d then 5 else 0)/\Stp [] w w':=by
 refine cW1 36 Tryz.func336 ?_;refine W ?_;refine Z1 (Zp rfl) rfl ?_;rintro _ w1 ⟨b,rfl,hb,ac,hS⟩;replace ac:Blk w1 b 132 [.I y,.I m,.I d]:=ac;replace hL:=hL.up hS;refine W ?_;refine ZDr 33 [] [] [(0,0),(1,1),(2,0),(3,0),(4,0),(5,1),(6,0),(7,0),(8,0),(9,0),(10,1),(11,0),(12,0),(13,0),(14,0),(15,1),(16,0),(17,0),(18,0),(19,0),(20,1),(21,0),(22,0),(23,0),(24,0),(25,1),(26,0),(27,1),(28,0),(29,1),(30,2),(31,0),(32,0)] (λw1 ae=>?_);replace ac:=ac.up ae;replace hL:=hL.up ae;replace hS:=hS.trans ae;clear ae;by_cases hg:y<1\/9999<y\/m<1\/12<m\/d<1
 . have fL:Z23 y m d:=by unfold Z23;omega
   rw [if_pos fL];repeat'(first|refine D1 ?_|omega|refine Zy rfl rfl rfl rfl (λhg=>?_) (λhg=>?_)|(refine Zq rfl rfl rfl rfl (λhg=>?_) (λhg=>?_)<;>refine D1 ?_)|fail)
   all_goals refine QO ?_
   all_goals refine WR ?_
   all_goals exact .mk ⟨rfl,hS⟩
 . refine QD ?_
   refine Za rfl rfl (Z6 rfl (Zg rfl rfl) (Z3d y m _ hL (by omega) (by omega))) (λ_ _ h=>by rw [h.2];exact Stp.refl _ _) rfl ?_;rintro _ w3 ⟨rfl,rfl⟩;refine QD ?_;all_goals (refine QP ?_ ?_<;>intro hc)
   refine RU ?_;exact ⟨by rw [if_pos (by unfold Z23;omega)],hS⟩;refine RU ?_;exact ⟨by rw [if_neg (by unfold Z23;omega)],hS⟩
theorem Z5g (y m d:Int) (w) (hy:0<=y) (eq:y<=100000) (hm:1<=m) (eM:m<=12) (hd:0<=d) (kp:d<=100000) (h1:m - 3<0->1<=y):CC 263 #[Zjr y m d] w λr w'=>r=.I (Z0a y m d)/\Stp [] w w':=by
 refine cW1 36 Tryz.func263 ?_;refine W ?_;refine Z1 (Zp rfl) rfl ?_;rintro _ w1 ⟨b,rfl,hb,ac,hS⟩;replace ac:Blk w1 b 132 [.I y,.I m,.I d]:=ac;refine W ?_;refine ZDr 7 [] [] [(0,0),(1,1),(2,0),(3,1),(4,0),(5,0),(6,0)] (λw1 ae=>?_);replace ac:=ac.up ae;replace hS:=hS.trans ae;clear ae;refine D ?_
 (refine QP ?_ ?_<;>intro hc)
 all_goals refine WR ?_
 all_goals refine .mk ⟨?_,hS⟩
 all_goals unfold Z0a
 rw [if_pos (by assumption)];congr 1;dsimp only;omega;rw [if_neg (by assumption)]
theorem Z85 (y m d:Int) (w) (hL:Z0I w):CC 304 #[Zjr y m d] w λr w'=>r=.tuple #[.I (if Z23 y m d then 0 else Z0a y m d),.I (if Z23 y m d then 5 else 0)]/\Stp [] w w':=by
 refine cW1 12 Tryz.func304 ?_;refine W ?_;refine Z1 (Zp rfl) rfl ?_;rintro _ w1 ⟨b,rfl,hb,ac,hS⟩;replace ac:Blk w1 b 132 [.I y,.I m,.I d]:=ac;replace hL:=hL.up hS;refine W ?_;refine CL (ZdO y m d _ hL) ?_;rintro _ w2 ⟨rfl,hT⟩;replace ac:=ac.up hT;replace hS:=hS.trans hT;clear hT;by_cases fL:Z23 y m d;rw [if_pos fL,if_pos fL];refine RT ?_;exact ⟨rfl,hS⟩;rw [if_neg fL,if_neg fL];refine W ?_;have pW:=Z1k y m;unfold Z23 at fL;refine CM (ZP rfl) (Z5g y m d _ (by omega) (by omega) (by omega) (by omega) (by omega) (by omega) (by omega)) ?_;rintro _ w3 ⟨rfl,hT⟩;refine RT ?_;exact ⟨rfl,hS.trans hT⟩
end Go.Proofs.YtipfkbkkndacjaaGreatDoor
namespace Go.Eng
open Go Go.RowKit Go.Proofs
def Z5h (s:Str):Int:=s.foldl (λn c=>10 * n+(c.toNat:Int) - 48) 0
theorem Z86 (a:Str) (c:UInt8):Z5h (a++[c])=10 * Z5h a+(c.toNat:Int) - 48:=by simp [Z5h,Yau]
theorem Z87 {s:Str} (h:s.all ZQ=true):Z5h s=(Z0u s:Int):=by
 have key:∀ (s:Str) (z:Int) (n:Nat),z=(n:Int)->s.all ZQ=true->s.foldl (λn c=>10 * n+(c.toNat:Int) - 48) z=((s.foldl (λn c=>10 * n+(c.toNat - 48)) n:Nat):Int):=by
  intro s
  induction s with
  | nil=>intro z n hz _;exact hz
  | cons c r ih=>
    intro z n hz h;simp only [YaT,Xl] at h;have hc:48<=c.toNat/\c.toNat<=57:=by simpa [ZQ] using h.1
    exact ih _ _ (by dsimp only;omega) h.2
 exact key s 0 0 rfl h
def ZfZ:Nat->Int
 | 0=>0
 | k+1=>10 * ZfZ k+300
theorem Zc1:∀ (k:Nat) (s:Str),s.length=k->-ZfZ k<=Z5h s/\Z5h s<=ZfZ k
 | 0, s, h => by
   have:s=[]:=Xw.1 h;subst this;simp [Z5h,ZfZ]
 | k + 1, s, h => by
   have aR:s≠[]:=by rintro rfl;simp at h
   obtain ⟨a,c,rfl⟩:∃ a c,s=a++[c]:=⟨s.dropLast,s.getLast aR,(List.dropLast_concat_getLast aR).symm⟩
   have ih:=Zc1 k a (by simpa using h);have hc:=c.toNat_lt;rw [Z86];simp only [ZfZ];omega
theorem ZmB {k:Nat} (h:k<=4):ZfZ k<=400000:=by
 have:k=0\/k=1\/k=2\/k=3\/k=4:=by omega
 rcases this with rfl|rfl|rfl|rfl|rfl<;>decide
end Go.Eng
namespace Go.Proofs.YtipfkbkkndacjaaGreatDoor
open Go Go.Eng Go.RowKit Go.Proofs
theorem Z88 (s:Str) (f u bs be:Nat) (e0:Int) (w) (uI:f<=u) (hu:u<=s.length) (h4:u<=f+4) (aR:bs≠be) (hs:Blk w bs 9 [str s]) (he:Blk w be 92 [.I e0]) :
 CC 326 #[.I (f:Int),.I (u:Int),pQ bs,pQ be] w
  λr w'=>r=.I (Z5h ((s.take u).drop f))/\Blk w' bs 9 [str s]/\Blk w' be 92 [.I (if ((s.take u).drop f).all ZQ then e0 else 7)]/\Stp [be] w w':=by
 refine cW4 34 Tryz.func326 ?_;refine W ?_;refine Z5r rfl rfl rfl rfl rfl uI hu rfl ?_;have ai:((s.take u).drop f).length=u - f:=by simp;omega
 generalize (s.take u).drop f=t at *;refine Z1 (Zc0 rfl (by omega)) rfl ?_;rintro bv w1 ⟨hb,hS⟩;have ou:be<w.heap.size:=he.lt;have an:=hb [be] (by simpa using ou);clear hb;replace hs:=hs.up hS;replace he:=he.up hS;replace hS:=hS.mono (S':=[be]) (by simp);refine W ?_
 refine Zt (σ:=Nat) (λq=>[(2,pQ bs),(3,pQ be),(7,.I (Z5h (t.take q))),(14,bv),(15,.I (t.length:Int)),(16,.I (q:Int))])
  (λq w'=>q<=t.length/\SlV [be] w' bv t/\Blk w' bs 9 [str s]/\Blk w' be 92 [.I (if (t.take q).all ZQ then e0 else 7)]/\Stp [be] w w')
  (λq=>t.length - q) 0 ⟨rfl,rfl,rfl,rfl,rfl,rfl,trivial⟩ ⟨Xq _,an,hs,he,hS⟩ ?_
 clear an hs he hS;rintro q w2 ⟨hq,an,hs,he,hS⟩;have lO:=Zc1 q (t.take q) (by simp;omega);have bC:=ZmB (k:=q) (by omega);by_cases ag:q<t.length;have fz:t.take (q+1)=t.take q++[t[q]]:=(List.take_append_getElem ag).symm;have hc:=(t[q]).toNat_lt;have iL:ZQ t[q]=true↔48<=(t[q]).toNat/\(t[q]).toNat<=57:=by simp [ZQ]
 have fin:∀ w3,SlV [be] w3 bv t->Blk w3 bs 9 [str s]->Blk w3 be 92 [.I (if ZQ t[q]=true then (if (t.take q).all ZQ then e0 else 7) else 7)]->Stp [be] w w3->
  (q+1<=t.length/\SlV [be] w3 bv t/\Blk w3 bs 9 [str s]/\Blk w3 be 92 [.I (if (t.take (q+1)).all ZQ then e0 else 7)]/\Stp [be] w w3):=by
  intro w3 h1 h2 h3 h4;refine ⟨ag,h1,h2,?_,h4⟩;rw [fz];have:((t.take q++[t[q]]).all ZQ)=((t.take q).all ZQ && ZQ t[q]):=by rw [YbG];simp only [YaT,List.all_nil,Ya2]
  rw [this];by_cases hd:ZQ t[q]=true;rw [if_pos hd] at h3;rw [hd,Ya2];exact h3;rw [if_neg hd] at h3;rw [Bool.not_eq_true] at hd;rw [hd,YbI];exact h3
 by_cases hd:ZQ t[q]=true;have uJ:=iL.1 hd;refine QO ?_;refine Z9 (Z4s (b:=((t[q]).toNat:Int)) rfl (Z0c (by unfold I64;omega))) rfl ?_;refine W ?_;refine Zx (q+1) ⟨rfl,rfl,?_,rfl,rfl,rfl,trivial⟩ (fin _ an hs (by rw [if_pos hd];exact he) hS) (by omega);rw [fz,Z86];rfl
 . have uJ:(t[q]).toNat<48\/57<(t[q]).toNat:=by
    rcases Yaz (t[q]).toNat 48 with h|h
    exact .inl h;rcases Yaz 57 (t[q]).toNat with h'|h'
    exact .inr h';exact absurd (iL.2 ⟨h,h'⟩) hd
   repeat'(first|refine W1 ?_|omega|refine VG ?_ ?_<;>intro hg|refine VC ?_ ?_<;>intro hc)
   all_goals
    refine SB (us:=[.I 7]) (by simp;rfl) he ?_;rintro _ w3 ⟨hT,uK⟩;refine W ?_;refine Z9 (Z4s (b:=((t[q]).toNat:Int)) rfl (Z0c (by unfold I64;omega))) rfl ?_;refine W ?_;refine Zx (q+1) ⟨rfl,rfl,?_,rfl,rfl,rfl,trivial⟩ (fin _ (an.ext hT (λ_ h=>h) (λ_ h=>.inl h)) (hs.ext hT (by simpa using aR)) (by rw [if_neg hd];exact uK) (hS.trans hT)) (by omega);rw [fz,Z86];rfl
 have:q=t.length:=by omega
 subst this;rw [Xo] at *;refine RT ?_;exact ⟨rfl,hs,he,hS⟩
theorem Z5E (y m d:Int) (w):(Instr.build 132 #[(0,.I y),(1,.I m),(2,.I d)]).run Tryz.prog w=.ok (Zjr y m d) w:=by kernel_rfl
theorem ZdP (s:Str) (w) (hL:Z0I w) (hl:s.length=10):CC 277 #[str s] w λr w'=>r=.tuple #[.I (Z1j s).1,.I (Z1j s).2]/\Stp [] w w':=by
 have h5:3<w.heap.size:=by have:=block_lt_of_cell (hL 0 0 rfl);simpa using this
 refine cW1 35 Tryz.func277 ?_;refine W ?_;refine Z1 (Zp rfl) rfl ?_;rintro _ w1 ⟨bs,rfl,dD,es,hS⟩;replace es:Blk w1 bs 9 [str s]:=es;replace hL:=hL.up hS;have b45:∀ i,i<10->(Jg s i=45↔s.getD i 0=45):=λi hi=>by
  unfold Jg;constructor;intro h;have ox:(45:UInt8).toNat=45:=rfl;have:(s.getD i 0).toNat=(45:UInt8).toNat:=by omega
  exact UInt8.toNat_inj.1 this;intro h;rw [h];rfl
 by_cases ox:Jg s 4=45/\Jg s 7=45;obtain ⟨h4,h7⟩:=ox;refine QO ?_;refine J9 (i:=4) rfl rfl rfl (by omega) rfl ?_;refine QO ?_;refine J9 (i:=7) rfl rfl rfl (by omega) rfl ?_;refine QO ?_;refine Z1 Z2 rfl ?_;rintro _ w2 ⟨be,rfl,lE,ee,hT⟩;have nbe:bs≠be:=by have:=es.lt;omega
 replace es:=es.up hT;refine SB (us:=[.I 0]) (by simp;rfl) ee ?_;rintro _ w3 ⟨aq,ee'⟩;have uL:w.heap.size<=be:=Xg hS.size lE;replace es:=es.ext aq (by simpa using nbe);replace hT:=hT.ow aq;replace hL:=hL.up hT;replace hS:=hS.trans hT;clear hT aq ee lE;refine W ?_;refine Z1 (Z0k rfl (Zg rfl rfl) rfl (Z88 s 0 4 bs be 0 _ (by omega) (by omega) (by omega) nbe es ee')) rfl ?_;rintro _ w4 ⟨rfl,es4,ee4,hT⟩;replace hL:=hL.ext hT (by simp only [Xk];omega);replace hS:=hS.ow hT;clear hT;refine W ?_;refine Z1 (Z0k rfl (Zg rfl rfl) rfl (Z88 s 5 7 bs be _ _ (by omega) (by omega) (by omega) nbe es4 ee4)) rfl ?_;rintro _ w5 ⟨rfl,es5,ee5,hT⟩;replace hL:=hL.ext hT (by simp only [Xk];omega);replace hS:=hS.ow hT;clear hT es4 ee4;refine W ?_;refine Z1 (Z0k rfl (Zg rfl rfl) rfl (Z88 s 8 10 bs be _ _ (by omega) (by omega) (by omega) nbe es5 ee5)) rfl ?_;rintro _ w6 ⟨rfl,es6,ee6,hT⟩;replace hL:=hL.ext hT (by simp only [Xk];omega);replace hS:=hS.ow hT;clear hT es5 ee5;have e0:(s.take 4).drop 0=s.take 4:=rfl;have e1:(s.take 7).drop 5=(s.drop 5).take 2:=by rw [Ybq]
 have e2:(s.take 10).drop 8=s.drop 8:=by rw [XH (by omega)]
 rw [e0,e1,e2] at ee6;rw [e0,e1,e2];refine Z8 (vs:=[(0,.I (Z5h (s.take 4))),(1,.I (Z5h ((s.drop 5).take 2))),(2,.I (Z5h (s.drop 8)))]) rfl (Z5E _ _ _) rfl ?_;refine Z1 Z2 rfl ?_;rintro _ w7 ⟨bd,rfl,jQ,ed,hT⟩;have nbd:be≠bd:=by have:=ee6.lt;omega
 replace ee6:=ee6.up hT;refine Z4 (Zb (us:=[.I (Z5h (s.take 4)),.I (Z5h ((s.drop 5).take 2)),.I (Z5h (s.drop 8))]) rfl rfl rfl rfl (by intro c hc;simp at hc;rcases hc with rfl|rfl|rfl<;>rfl) ed rfl) ?_;rintro _ w8 ⟨aq,ed'⟩;replace ee6:=ee6.ext aq (by simpa using nbd);replace hT:=hT.ow aq;replace hL:=hL.up hT;replace hS:=hS.trans hT;clear hT aq ed jQ es6;by_cases aB:(s.take 4).all ZQ=true/\((s.drop 5).take 2).all ZQ=true/\(s.drop 8).all ZQ=true;obtain ⟨a1,a2,a3⟩:=aB;have hP:Z1j s=(let y:Int:=Z0u (s.take 4);let m:Int:=Z0u ((s.drop 5).take 2);let d:Int:=Z0u (s.drop 8);if Z23 y m d then (0,5) else (Z0a y m d,0)):=by
  unfold Z1j;rw [if_pos ⟨hl,(b45 4 (by omega)).1 h4,(b45 7 (by omega)).1 h7,a1,a2,a3⟩];rfl
 rw [if_pos a1,if_pos a2,if_pos a3] at ee6;rw [Z87 a1,Z87 a2,Z87 a3] at ed';refine W ?_;refine CL (Z85 _ _ _ _ hL) ?_;rintro _ w9 ⟨rfl,hT⟩;replace hS:=hS.trans hT;refine W ?_;refine WR ?_;refine .mk ⟨?_,hS⟩;rw [hP];dsimp only;split<;>rfl
 have hP:Z1j s=(0,7):=by
  unfold Z1j;rw [if_neg (λh=>aB h.2.2.2)]
 have hE:(if (s.drop 8).all ZQ=true then (if ((s.drop 5).take 2).all ZQ=true then (if (s.take 4).all ZQ=true then (0:Int) else 7) else 7) else 7)=7:=by
  by_cases g3:(s.drop 8).all ZQ=true;rw [if_pos g3];by_cases g2:((s.drop 5).take 2).all ZQ=true;rw [if_pos g2];by_cases g1:(s.take 4).all ZQ=true;exact absurd ⟨g1,g2,g3⟩ aB;rw [if_neg g1];rw [if_neg g2];rw [if_neg g3]
 rw [hE] at ee6;refine W ?_;refine ZDr 3 [] [] [(0,1),(1,0),(2,0)] (λw1 ae=>?_);replace ee6:=ee6.up ae;replace hS:=hS.trans ae;refine D ?_;refine W ?_;refine WR ?_;rw [hP];exact .mk ⟨rfl,hS⟩;have hP:Z1j s=(0,7):=by
  unfold Z1j;rw [if_neg (λh=>ox ⟨(b45 4 (by omega)).2 h.2.1,(b45 7 (by omega)).2 h.2.2.1⟩)]
 by_cases h4:Jg s 4=45;have h7:¬ Jg s 7=45:=λh=>ox ⟨h4,h⟩;refine QO ?_;refine J9 (i:=4) rfl rfl rfl (by omega) rfl ?_;refine QO ?_;refine J9 (i:=7) rfl rfl rfl (by omega) rfl ?_;refine QO ?_;refine WR ?_;rw [hP];exact .mk ⟨rfl,hS⟩;refine QO ?_;refine J9 (i:=4) rfl rfl rfl (by omega) rfl ?_;refine QO ?_;refine WR ?_;rw [hP];exact .mk ⟨rfl,hS⟩
end Go.Proofs.YtipfkbkkndacjaaGreatDoor
namespace Go.Proofs
theorem fxT {P:Go.Program} {f:Nat} {a b:Go.Func} (h:P.funcs[f]?=some a) (e:a=b:=by kernel_rfl):P.funcs[f]?=some b:=h.trans (congrArg some e)
open Go.Shelf
def Tryz.lays119_ren:Go.Shelf.Ren:=⟨fun|119=>321|n=>n,fun|21=>21|4=>4|n=>n,fun|n=>n⟩
theorem Tryz.lays119:Go.Proofs.Lays.n119 Tryz.prog Tryz.lays119_ren:={
 mixed:=by kernel_rfl
 f119:=fxT Tryz.func321
 t4:=Tryz.underlying4
 a4:=Tryz.isAgg4
 z4:=Tryz.sizeOf4
 v4:=Tryz.zeroValue4
 t21:=Tryz.underlying21
 a21:=Tryz.isAgg21
 z21:=Tryz.sizeOf21
 v21:=Tryz.zeroValue21 }
theorem Tryz.utf8_ValidRune (r:Int) (w:World) :
 Calls Tryz.prog 321 #[.int .i32 r] w λe w'=>e=.returned (.bool (Lib.validRune r))/\w'=w:=Any.utf8_ValidRune Tryz.lays119 r w
def Tryz.lays137_ren:Go.Shelf.Ren:=⟨fun|137=>273|217=>320|266=>348|n=>n,fun|9=>9|5=>5|3=>3|n=>n,fun|n=>n⟩
theorem Tryz.lays137:Go.Proofs.Lays.n137 Tryz.prog Tryz.lays137_ren:={
 mixed:=by kernel_rfl
 f137:=fxT Tryz.func273
 f217:=fxT Tryz.func320
 f266:=fxT Tryz.func348
 t3:=Tryz.underlying3
 a3:=Tryz.isAgg3
 z3:=Tryz.sizeOf3
 v3:=Tryz.zeroValue3
 t5:=Tryz.underlying5
 a5:=Tryz.isAgg5
 z5:=Tryz.sizeOf5
 v5:=Tryz.zeroValue5
 t9:=Tryz.underlying9
 a9:=Tryz.isAgg9
 z9:=Tryz.sizeOf9
 v9:=Tryz.zeroValue9 }
open Go.RowKit in
theorem Tryz.strings_IndexByte (s:ByteArray) (c:Int) (w:World) :
 Calls Tryz.prog 273 #[.string s,.int .u8 c] w λe w'=>e=.returned (.int .i64 (Lib.indexByte s.data.toList c.toNat.toUInt8))/\w'=w:=Any.strings_IndexByte Tryz.lays137 s c w
def Tryz.lays215_ren:Go.Shelf.Ren:=⟨fun|215=>125|n=>n,fun|3=>3|4=>4|n=>n,fun|n=>n⟩
def Tryz.lays122_ren:Go.Shelf.Ren:=⟨fun|122=>75|215=>125|n=>n,fun|3=>3|4=>4|n=>n,fun|n=>n⟩
theorem Tryz.lays122:Go.Proofs.Lays.n122 Tryz.prog Tryz.lays122_ren:={
 mixed:=by kernel_rfl
 f122:=fxT Tryz.func75
 f215:=fxT Tryz.func125
 t3:=Tryz.underlying3
 a3:=Tryz.isAgg3
 z3:=Tryz.sizeOf3
 v3:=Tryz.zeroValue3
 t4:=Tryz.underlying4
 a4:=Tryz.isAgg4
 z4:=Tryz.sizeOf4
 v4:=Tryz.zeroValue4 }
open Go.RowKit in
theorem Tryz.cmp_Compare_int (x y:Int) (w:World) :
 Calls Tryz.prog 75 #[.int .i64 x,.int .i64 y] w λe w'=>e=.returned (.int .i64 (Lib.compareInt x y))/\w'=w:=Any.cmp_Compare_int Tryz.lays122 x y w
def Tryz.lays172_ren:Go.Shelf.Ren:=⟨fun|172=>276|244=>324|245=>325|247=>349|279=>350|280=>351|281=>352|282=>353|287=>362|316=>363|171=>62|205=>364|321=>368|322=>369|243=>94|246=>172|283=>235|284=>236|285=>237|286=>238|129=>124|317=>291|318=>292|319=>293|320=>294|337=>331|338=>332|n=>n,fun|9=>9|3=>3|75=>197|76=>198|4=>4|5=>5|167=>389|37=>192|0=>0|85=>390|2=>2|168=>392|53=>222|175=>401|46=>157|210=>405|127=>251|145=>412|143=>410|21=>21|171=>301|173=>303|212=>360|51=>220|20=>20|213=>361|232=>395|233=>396|80=>200|n=>n,fun|15=>7|16=>8|17=>1|18=>5|19=>6|n=>n⟩
def Tryz.laysM246_ren:Go.Shelf.Ren:=⟨fun|246=>172|283=>235|284=>236|285=>237|286=>238|129=>124|317=>291|318=>292|319=>293|320=>294|337=>331|338=>332|n=>n,fun|2=>2|3=>3|9=>9|4=>4|171=>301|0=>0|53=>222|37=>192|5=>5|173=>303|212=>360|51=>220|20=>20|213=>361|46=>157|232=>395|233=>396|n=>n,fun|17=>1|18=>5|19=>6|n=>n⟩
def Tryz.laysM243_ren:Go.Shelf.Ren:=⟨fun|243=>94|246=>172|283=>235|284=>236|285=>237|286=>238|129=>124|317=>291|318=>292|319=>293|320=>294|337=>331|338=>332|n=>n,fun|3=>3|9=>9|2=>2|4=>4|171=>301|0=>0|53=>222|37=>192|5=>5|173=>303|212=>360|51=>220|20=>20|213=>361|46=>157|232=>395|233=>396|n=>n,fun|17=>1|18=>5|19=>6|n=>n⟩
def Tryz.laysM171_ren:Go.Shelf.Ren:=⟨fun|171=>62|243=>94|246=>172|283=>235|284=>236|285=>237|286=>238|129=>124|317=>291|318=>292|319=>293|320=>294|337=>331|338=>332|n=>n,fun|3=>3|9=>9|2=>2|4=>4|171=>301|0=>0|53=>222|37=>192|5=>5|173=>303|212=>360|51=>220|20=>20|213=>361|46=>157|232=>395|233=>396|n=>n,fun|17=>1|18=>5|19=>6|n=>n⟩
theorem Tryz.laysM171:Go.Proofs.LaysM.n171 Tryz.prog Tryz.laysM171_ren:={
 mixed:=by kernel_rfl
 f129:=fxT Tryz.func124
 f171:=fxT Tryz.func62
 f243:=fxT Tryz.func94
 f246:=fxT Tryz.func172
 f283:=fxT Tryz.func235
 f284:=fxT Tryz.func236
 f285:=fxT Tryz.func237
 f286:=fxT Tryz.func238
 f317:=fxT Tryz.func291
 f318:=fxT Tryz.func292
 f319:=fxT Tryz.func293
 f320:=fxT Tryz.func294
 f337:=fxT Tryz.func331
 f338:=fxT Tryz.func332
 t0:=Tryz.underlying0
 a0:=Tryz.isAgg0
 z0:=Tryz.sizeOf0
 v0:=Tryz.zeroValue0
 t2:=Tryz.underlying2
 a2:=Tryz.isAgg2
 z2:=Tryz.sizeOf2
 v2:=Tryz.zeroValue2
 t3:=Tryz.underlying3
 a3:=Tryz.isAgg3
 z3:=Tryz.sizeOf3
 v3:=Tryz.zeroValue3
 t4:=Tryz.underlying4
 a4:=Tryz.isAgg4
 z4:=Tryz.sizeOf4
 v4:=Tryz.zeroValue4
 t5:=Tryz.underlying5
 a5:=Tryz.isAgg5
 z5:=Tryz.sizeOf5
 v5:=Tryz.zeroValue5
 t9:=Tryz.underlying9
 a9:=Tryz.isAgg9
 z9:=Tryz.sizeOf9
 v9:=Tryz.zeroValue9
 t20:=Tryz.underlying20
 a20:=Tryz.isAgg20
 z20:=Tryz.sizeOf20
 v20:=Tryz.zeroValue20
 t37:=Tryz.underlying192
 a37:=Tryz.isAgg192
 z37:=Tryz.sizeOf192
 v37:=Tryz.zeroValue192
 t46:=Tryz.underlying157
 a46:=Tryz.isAgg157
 z46:=Tryz.sizeOf157
 v46:=Tryz.zeroValue157
 t51:=Tryz.underlying220
 a51:=Tryz.isAgg220
 z51:=Tryz.sizeOf220
 v51:=Tryz.zeroValue220
 t53:=Tryz.underlying222
 a53:=Tryz.isAgg222
 z53:=Tryz.sizeOf222
 v53:=Tryz.zeroValue222
 t171:=Tryz.underlying301
 a171:=Tryz.isAgg301
 z171:=Tryz.sizeOf301
 v171:=Tryz.zeroValue301
 t173:=Tryz.underlying303
 a173:=Tryz.isAgg303
 z173:=Tryz.sizeOf303
 v173:=Tryz.zeroValue303
 t212:=Tryz.underlying360
 a212:=Tryz.isAgg360
 z212:=Tryz.sizeOf360
 v212:=Tryz.zeroValue360
 t213:=Tryz.underlying361
 a213:=Tryz.isAgg361
 z213:=Tryz.sizeOf361
 t232:=Tryz.underlying395
 a232:=Tryz.isAgg395
 z232:=Tryz.sizeOf395
 v232:=Tryz.zeroValue395
 t233:=Tryz.underlying396
 a233:=Tryz.isAgg396
 z233:=Tryz.sizeOf396
 v233:=Tryz.zeroValue396
 g17:=by kernel_rfl
 g18:=by kernel_rfl
 g19:=by kernel_rfl
 i0:=by kernel_rfl
 i2:=by kernel_rfl
 i3:=by kernel_rfl
 i4:=by kernel_rfl
 i5:=by kernel_rfl
 i9:=by kernel_rfl
 i20:=by kernel_rfl
 i37:=by kernel_rfl
 i46:=by kernel_rfl
 i51:=by kernel_rfl
 i53:=by kernel_rfl
 i171:=by kernel_rfl
 i173:=by kernel_rfl
 i212:=by kernel_rfl
 i232:=by kernel_rfl
 i233:=by kernel_rfl
 m17:=by kernel_rfl
 m18:=by kernel_rfl
 m19:=by kernel_rfl }
open Go.RowKit Go.Sort Go.Lib in
theorem Tryz.strconv_Itoa (n:Int) (h0:-9223372036854775808<=n) (h1:n<=9223372036854775807) (w:World) (kC:Lib.TabIs Tryz.prog w "internal/strconv.uint64pow10" .u64 Lib.pow10Tab) :
 Calls Tryz.prog 62 #[.int .i64 n] w λe w'=>e=.returned (.string ⟨(Lib.itoa n).toArray⟩)/\∃ k os,w'=grow (w.drewN k) os:=Any.strconv_Itoa Tryz.laysM171 n h0 h1 w kC
def Tryz.laysC172_ren:Go.Shelf.Ren:=⟨fun|172=>276|244=>324|245=>325|247=>349|279=>350|280=>351|281=>352|282=>353|287=>362|316=>363|171=>62|205=>364|321=>368|322=>369|243=>94|246=>172|283=>235|284=>236|285=>237|286=>238|129=>124|317=>291|318=>292|319=>293|320=>294|337=>331|338=>332|n=>n,fun|9=>9|3=>3|75=>197|76=>198|4=>4|5=>5|167=>389|37=>192|0=>0|85=>390|2=>2|168=>392|53=>222|175=>401|46=>157|210=>405|127=>251|145=>412|143=>410|21=>21|171=>301|173=>303|212=>360|51=>220|20=>20|213=>361|232=>395|233=>396|80=>200|n=>n,fun|15=>7|16=>8|17=>1|18=>5|19=>6|n=>n⟩
theorem Tryz.laysC172:Go.Proofs.LaysC.n172 Tryz.prog Tryz.laysC172_ren:={
 mixed:=by kernel_rfl
 f129:=fxT Tryz.func124
 f171:=fxT Tryz.func62
 f172:=fxT Tryz.func276
 f205:=fxT Tryz.func364
 f243:=fxT Tryz.func94
 f244:=fxT Tryz.func324
 f245:=fxT Tryz.func325
 f246:=fxT Tryz.func172
 f247:=fxT Tryz.func349
 f279:=fxT Tryz.func350
 f280:=fxT Tryz.func351
 f281:=fxT Tryz.func352
 f282:=fxT Tryz.func353
 f283:=fxT Tryz.func235
 f284:=fxT Tryz.func236
 f285:=fxT Tryz.func237
 f286:=fxT Tryz.func238
 f287:=fxT Tryz.func362
 f316:=fxT Tryz.func363
 f317:=fxT Tryz.func291
 f318:=fxT Tryz.func292
 f319:=fxT Tryz.func293
 f320:=fxT Tryz.func294
 f321:=fxT Tryz.func368
 f322:=fxT Tryz.func369
 f337:=fxT Tryz.func331
 f338:=fxT Tryz.func332
 t0:=Tryz.underlying0
 a0:=Tryz.isAgg0
 z0:=Tryz.sizeOf0
 v0:=Tryz.zeroValue0
 t2:=Tryz.underlying2
 a2:=Tryz.isAgg2
 z2:=Tryz.sizeOf2
 v2:=Tryz.zeroValue2
 t3:=Tryz.underlying3
 a3:=Tryz.isAgg3
 z3:=Tryz.sizeOf3
 v3:=Tryz.zeroValue3
 t4:=Tryz.underlying4
 a4:=Tryz.isAgg4
 z4:=Tryz.sizeOf4
 v4:=Tryz.zeroValue4
 t5:=Tryz.underlying5
 a5:=Tryz.isAgg5
 z5:=Tryz.sizeOf5
 v5:=Tryz.zeroValue5
 t9:=Tryz.underlying9
 a9:=Tryz.isAgg9
 z9:=Tryz.sizeOf9
 v9:=Tryz.zeroValue9
 t20:=Tryz.underlying20
 a20:=Tryz.isAgg20
 z20:=Tryz.sizeOf20
 v20:=Tryz.zeroValue20
 t21:=Tryz.underlying21
 a21:=Tryz.isAgg21
 z21:=Tryz.sizeOf21
 v21:=Tryz.zeroValue21
 t37:=Tryz.underlying192
 a37:=Tryz.isAgg192
 z37:=Tryz.sizeOf192
 v37:=Tryz.zeroValue192
 t46:=Tryz.underlying157
 a46:=Tryz.isAgg157
 z46:=Tryz.sizeOf157
 v46:=Tryz.zeroValue157
 t51:=Tryz.underlying220
 a51:=Tryz.isAgg220
 z51:=Tryz.sizeOf220
 v51:=Tryz.zeroValue220
 t53:=Tryz.underlying222
 a53:=Tryz.isAgg222
 z53:=Tryz.sizeOf222
 v53:=Tryz.zeroValue222
 t75:=Tryz.underlying197
 a75:=Tryz.isAgg197
 z75:=Tryz.sizeOf197
 v75:=Tryz.zeroValue197
 t76:=Tryz.underlying198
 a76:=Tryz.isAgg198
 z76:=Tryz.sizeOf198
 v76:=Tryz.zeroValue198
 t85:=Tryz.underlying390
 a85:=Tryz.isAgg390
 z85:=Tryz.sizeOf390
 v85:=Tryz.zeroValue390
 t127:=Tryz.underlying251
 a127:=Tryz.isAgg251
 z127:=Tryz.sizeOf251
 v127:=Tryz.zeroValue251
 t143:=Tryz.underlying410
 a143:=Tryz.isAgg410
 z143:=Tryz.sizeOf410
 v143:=Tryz.zeroValue410
 t145:=Tryz.underlying412
 a145:=Tryz.isAgg412
 z145:=Tryz.sizeOf412
 v145:=Tryz.zeroValue412
 t167:=Tryz.underlying389
 a167:=Tryz.isAgg389
 z167:=Tryz.sizeOf389
 v167:=Tryz.zeroValue389
 t168:=Tryz.underlying392
 a168:=Tryz.isAgg392
 z168:=Tryz.sizeOf392
 v168:=Tryz.zeroValue392
 t171:=Tryz.underlying301
 a171:=Tryz.isAgg301
 z171:=Tryz.sizeOf301
 v171:=Tryz.zeroValue301
 t173:=Tryz.underlying303
 a173:=Tryz.isAgg303
 z173:=Tryz.sizeOf303
 v173:=Tryz.zeroValue303
 t175:=Tryz.underlying401
 a175:=Tryz.isAgg401
 z175:=Tryz.sizeOf401
 v175:=Tryz.zeroValue401
 t210:=Tryz.underlying405
 a210:=Tryz.isAgg405
 z210:=Tryz.sizeOf405
 v210:=Tryz.zeroValue405
 t212:=Tryz.underlying360
 a212:=Tryz.isAgg360
 z212:=Tryz.sizeOf360
 v212:=Tryz.zeroValue360
 t213:=Tryz.underlying361
 a213:=Tryz.isAgg361
 z213:=Tryz.sizeOf361
 t232:=Tryz.underlying395
 a232:=Tryz.isAgg395
 z232:=Tryz.sizeOf395
 v232:=Tryz.zeroValue395
 t233:=Tryz.underlying396
 a233:=Tryz.isAgg396
 z233:=Tryz.sizeOf396
 v233:=Tryz.zeroValue396
 g15:=by kernel_rfl
 g16:=by kernel_rfl
 g17:=by kernel_rfl
 g18:=by kernel_rfl
 g19:=by kernel_rfl
 t80:=Tryz.underlying200
 a80:=Tryz.isAgg200
 z80:=Tryz.sizeOf200
 v80:=Tryz.zeroValue200
 i0:=by kernel_rfl
 i2:=by kernel_rfl
 i3:=by kernel_rfl
 i4:=by kernel_rfl
 i5:=by kernel_rfl
 i9:=by kernel_rfl
 i20:=by kernel_rfl
 i21:=by kernel_rfl
 i37:=by kernel_rfl
 i46:=by kernel_rfl
 i51:=by kernel_rfl
 i53:=by kernel_rfl
 i75:=by kernel_rfl
 i76:=by kernel_rfl
 i80:=by kernel_rfl
 i85:=by kernel_rfl
 i127:=by kernel_rfl
 i143:=by kernel_rfl
 i145:=by kernel_rfl
 i167:=by kernel_rfl
 i168:=by kernel_rfl
 i171:=by kernel_rfl
 i173:=by kernel_rfl
 i175:=by kernel_rfl
 i210:=by kernel_rfl
 i212:=by kernel_rfl
 i232:=by kernel_rfl
 i233:=by kernel_rfl
 m15:=by kernel_rfl
 m16:=by kernel_rfl
 m17:=by kernel_rfl
 m18:=by kernel_rfl
 m19:=by kernel_rfl
 c0:=by kernel_rfl
 c2:=by kernel_rfl
 c3:=by kernel_rfl
 c4:=by kernel_rfl
 c5:=by kernel_rfl
 c9:=by kernel_rfl
 c20:=by kernel_rfl
 c21:=by kernel_rfl
 c37:=by kernel_rfl
 c46:=by kernel_rfl
 c51:=by kernel_rfl
 c53:=by kernel_rfl
 c75:=by kernel_rfl
 c76:=by kernel_rfl
 c80:=by kernel_rfl
 c85:=by kernel_rfl
 c127:=by kernel_rfl
 c143:=by kernel_rfl
 c145:=by kernel_rfl
 c167:=by kernel_rfl
 c168:=by kernel_rfl
 c171:=by kernel_rfl
 c173:=by kernel_rfl
 c175:=by kernel_rfl
 c210:=by kernel_rfl
 c212:=by kernel_rfl
 c213:=by kernel_rfl
 c232:=by kernel_rfl
 c233:=by kernel_rfl }
open Go.RowKit in
theorem Tryz.strconv_Atoi_ok (s:ByteArray) (aT:s.size<=9223372036854775806) (v:Int) (h:Lib.atoiAll s.data.toList=.ok v) (w:World) :
 Calls Tryz.prog 276 #[.string s] w λe w'=>e=.returned (.tuple #[.int .i64 v,.nilIface])/\(w'=w\/∃ t,w'=Lib.bytesWorld w 5 t):=Any.strconv_Atoi_ok Tryz.laysC172 s aT v h w
open Go.RowKit in
theorem Tryz.strconv_Atoi_range (s:ByteArray) (qi:s.size<=281474976710656) (h:Lib.atoiAll s.data.toList=.range) (ev:Value) (w:World) (hv:w.cell? ⟨8,0,none⟩=some ev) (bM:ev=.nilIface\/∃ te pe,ev=.iface te pe) :
 Calls Tryz.prog 276 #[.string s] w λe w'=>∃ N,e=.returned (.tuple #[.int .i64 (Lib.atoiSat s.data.toList),.iface 392 (.pointer (some ⟨N,0,none⟩))])/\w.heap.size<=N/\w'.heap[N]?=some (.cells #[.string ⟨#[65,116,111,105]⟩,.string s,ev] 405 (0,0))/\Below w.heap.size w w':=Any.strconv_Atoi_range Tryz.laysC172 s qi h ev w hv bM
def Tryz.lays219_ren:Go.Shelf.Ren:=⟨fun|219=>330|217=>320|225=>323|224=>322|267=>355|266=>348|314=>365|n=>n,fun|9=>9|3=>3|4=>4|5=>5|46=>157|146=>247|51=>220|n=>n,fun|1=>2|n=>n⟩
def Tryz.lays144_ren:Go.Shelf.Ren:=⟨fun|144=>227|143=>281|219=>330|217=>320|225=>323|224=>322|267=>355|266=>348|314=>365|n=>n,fun|9=>9|4=>4|3=>3|5=>5|46=>157|146=>247|51=>220|n=>n,fun|1=>2|n=>n⟩
theorem Tryz.lays144:Go.Proofs.Lays.n144 Tryz.prog Tryz.lays144_ren:={
 mixed:=by kernel_rfl
 f143:=fxT Tryz.func281
 f144:=fxT Tryz.func227
 f217:=fxT Tryz.func320
 f219:=fxT Tryz.func330
 f224:=fxT Tryz.func322
 f225:=fxT Tryz.func323
 f266:=fxT Tryz.func348
 f267:=fxT Tryz.func355
 f314:=fxT Tryz.func365
 t3:=Tryz.underlying3
 a3:=Tryz.isAgg3
 z3:=Tryz.sizeOf3
 v3:=Tryz.zeroValue3
 t4:=Tryz.underlying4
 a4:=Tryz.isAgg4
 z4:=Tryz.sizeOf4
 v4:=Tryz.zeroValue4
 t5:=Tryz.underlying5
 a5:=Tryz.isAgg5
 z5:=Tryz.sizeOf5
 v5:=Tryz.zeroValue5
 t9:=Tryz.underlying9
 a9:=Tryz.isAgg9
 z9:=Tryz.sizeOf9
 v9:=Tryz.zeroValue9
 t46:=Tryz.underlying157
 a46:=Tryz.isAgg157
 z46:=Tryz.sizeOf157
 v46:=Tryz.zeroValue157
 t51:=Tryz.underlying220
 a51:=Tryz.isAgg220
 z51:=Tryz.sizeOf220
 v51:=Tryz.zeroValue220
 t146:=Tryz.underlying247
 a146:=Tryz.isAgg247
 z146:=Tryz.sizeOf247
 v146:=Tryz.zeroValue247
 g1:=by kernel_rfl }
open Go.RowKit Go.Lib in
theorem Tryz.strings_Contains (s sub:ByteArray) (m:Int) (w:World) (hs:s.size<4294967281) (hm:w.cell? ⟨2,0,none⟩=some (.int .i64 m)) :
 Calls Tryz.prog 227 #[.string s,.string sub] w λe w'=>e=.returned (.bool (Lib.contains s.data.toList sub.data.toList))/\w'=w:=Any.strings_Contains Tryz.lays144 s sub m w hs hm
def Tryz.laysM144_ren:Go.Shelf.Ren:=⟨fun|144=>227|143=>281|219=>330|217=>320|225=>323|224=>322|267=>355|266=>348|314=>365|n=>n,fun|9=>9|4=>4|3=>3|5=>5|46=>157|146=>247|51=>220|n=>n,fun|1=>2|n=>n⟩
theorem Tryz.laysM144:Go.Proofs.LaysM.n144 Tryz.prog Tryz.laysM144_ren:={
 mixed:=by kernel_rfl
 f143:=fxT Tryz.func281
 f144:=fxT Tryz.func227
 f217:=fxT Tryz.func320
 f219:=fxT Tryz.func330
 f224:=fxT Tryz.func322
 f225:=fxT Tryz.func323
 f266:=fxT Tryz.func348
 f267:=fxT Tryz.func355
 f314:=fxT Tryz.func365
 t3:=Tryz.underlying3
 a3:=Tryz.isAgg3
 z3:=Tryz.sizeOf3
 v3:=Tryz.zeroValue3
 t4:=Tryz.underlying4
 a4:=Tryz.isAgg4
 z4:=Tryz.sizeOf4
 v4:=Tryz.zeroValue4
 t5:=Tryz.underlying5
 a5:=Tryz.isAgg5
 z5:=Tryz.sizeOf5
 v5:=Tryz.zeroValue5
 t9:=Tryz.underlying9
 a9:=Tryz.isAgg9
 z9:=Tryz.sizeOf9
 v9:=Tryz.zeroValue9
 t46:=Tryz.underlying157
 a46:=Tryz.isAgg157
 z46:=Tryz.sizeOf157
 v46:=Tryz.zeroValue157
 t51:=Tryz.underlying220
 a51:=Tryz.isAgg220
 z51:=Tryz.sizeOf220
 v51:=Tryz.zeroValue220
 t146:=Tryz.underlying247
 a146:=Tryz.isAgg247
 z146:=Tryz.sizeOf247
 v146:=Tryz.zeroValue247
 g1:=by kernel_rfl
 i3:=by kernel_rfl
 i4:=by kernel_rfl
 i5:=by kernel_rfl
 i9:=by kernel_rfl
 i46:=by kernel_rfl
 i51:=by kernel_rfl
 i146:=by kernel_rfl
 m1:=by kernel_rfl
 s1_3:=λw h=>Go.Proofs.cell_of_shapedOpen_int (zero:=#[.int .i64 0]) (t:=3) h (of_decide_eq_true (by kernel_rfl)) (by kernel_rfl) rfl (by kernel_rfl) (by kernel_rfl) Tryz.underlying3 }
def Tryz.lays189_ren:Go.Shelf.Ren:=⟨fun|189=>259|125=>73|257=>313|128=>123|129=>124|294=>337|295=>338|296=>339|297=>340|298=>341|299=>342|216=>343|300=>344|301=>345|328=>357|329=>197|330=>198|331=>358|332=>359|215=>125|343=>366|n=>n,fun|28=>23|3=>3|46=>157|0=>0|51=>220|53=>222|4=>4|183=>214|182=>213|131=>57|5=>5|9=>9|218=>271|222=>275|228=>327|229=>283|n=>n,fun|n=>n⟩
theorem Tryz.lays189:Go.Proofs.Lays.n189 Tryz.prog Tryz.lays189_ren:={
 mixed:=by kernel_rfl
 f125:=fxT Tryz.func73
 f128:=fxT Tryz.func123
 f129:=fxT Tryz.func124
 f189:=fxT Tryz.func259
 f215:=fxT Tryz.func125
 f216:=fxT Tryz.func343
 f257:=fxT Tryz.func313
 f294:=fxT Tryz.func337
 f295:=fxT Tryz.func338
 f296:=fxT Tryz.func339
 f297:=fxT Tryz.func340
 f298:=fxT Tryz.func341
 f299:=fxT Tryz.func342
 f300:=fxT Tryz.func344
 f301:=fxT Tryz.func345
 f328:=fxT Tryz.func357
 f329:=fxT Tryz.func197
 f330:=fxT Tryz.func198
 f331:=fxT Tryz.func358
 f332:=fxT Tryz.func359
 f343:=fxT Tryz.func366
 t0:=Tryz.underlying0
 a0:=Tryz.isAgg0
 z0:=Tryz.sizeOf0
 v0:=Tryz.zeroValue0
 t3:=Tryz.underlying3
 a3:=Tryz.isAgg3
 z3:=Tryz.sizeOf3
 v3:=Tryz.zeroValue3
 t4:=Tryz.underlying4
 a4:=Tryz.isAgg4
 z4:=Tryz.sizeOf4
 v4:=Tryz.zeroValue4
 t5:=Tryz.underlying5
 a5:=Tryz.isAgg5
 z5:=Tryz.sizeOf5
 v5:=Tryz.zeroValue5
 t9:=Tryz.underlying9
 a9:=Tryz.isAgg9
 z9:=Tryz.sizeOf9
 v9:=Tryz.zeroValue9
 t28:=Tryz.underlying23
 a28:=Tryz.isAgg23
 z28:=Tryz.sizeOf23
 v28:=Tryz.zeroValue23
 t46:=Tryz.underlying157
 a46:=Tryz.isAgg157
 z46:=Tryz.sizeOf157
 v46:=Tryz.zeroValue157
 t51:=Tryz.underlying220
 a51:=Tryz.isAgg220
 z51:=Tryz.sizeOf220
 v51:=Tryz.zeroValue220
 t53:=Tryz.underlying222
 a53:=Tryz.isAgg222
 z53:=Tryz.sizeOf222
 v53:=Tryz.zeroValue222
 t131:=Tryz.underlying57
 a131:=Tryz.isAgg57
 z131:=Tryz.sizeOf57
 v131:=Tryz.zeroValue57
 t182:=Tryz.underlying213
 a182:=Tryz.isAgg213
 z182:=Tryz.sizeOf213
 v182:=Tryz.zeroValue213
 t183:=Tryz.underlying214
 a183:=Tryz.isAgg214
 z183:=Tryz.sizeOf214
 v183:=Tryz.zeroValue214
 t218:=Tryz.underlying271
 a218:=Tryz.isAgg271
 z218:=Tryz.sizeOf271
 v218:=Tryz.zeroValue271
 t222:=Tryz.underlying275
 a222:=Tryz.isAgg275
 z222:=Tryz.sizeOf275
 v222:=Tryz.zeroValue275
 t228:=Tryz.underlying327
 a228:=Tryz.isAgg327
 z228:=Tryz.sizeOf327
 v228:=Tryz.zeroValue327
 t229:=Tryz.underlying283
 a229:=Tryz.isAgg283
 z229:=Tryz.sizeOf283
 v229:=Tryz.zeroValue283 }
open Go.Sort Go.RowKit in
theorem Tryz.slices_Sort_int (blk off cap:Nat) (zs:List Int) (w:World) (hH:Holds (Value.int .i64) w blk off zs.toArray) (ac:blk<w.heap.size) (bI:zs.length<4611686018427387904) :
 Calls Tryz.prog 259 #[.slice (some ⟨blk,off,none⟩) zs.length cap] w λe w'=>
  e=.returned (.tuple #[])/\∃ n os,w'=grow (putRow (Value.int .i64) (Sort.ahead w n) blk off (zs.mergeSort λx y=>decide (x<=y)).toArray) os:=Any.slices_Sort_int Tryz.lays189 blk off cap zs w hH ac bI
def Tryz.lays206_ren:Go.Shelf.Ren:=⟨fun|206=>175|n=>n,fun|9=>9|4=>4|3=>3|n=>n,fun|n=>n⟩
def Tryz.lays99_ren:Go.Shelf.Ren:=⟨fun|99=>96|206=>175|n=>n,fun|9=>9|4=>4|3=>3|n=>n,fun|n=>n⟩
theorem Tryz.lays99:Go.Proofs.Lays.n99 Tryz.prog Tryz.lays99_ren:={
 mixed:=by kernel_rfl
 f99:=fxT Tryz.func96
 f206:=fxT Tryz.func175
 t3:=Tryz.underlying3
 a3:=Tryz.isAgg3
 z3:=Tryz.sizeOf3
 v3:=Tryz.zeroValue3
 t4:=Tryz.underlying4
 a4:=Tryz.isAgg4
 z4:=Tryz.sizeOf4
 v4:=Tryz.zeroValue4
 t9:=Tryz.underlying9
 a9:=Tryz.isAgg9
 z9:=Tryz.sizeOf9
 v9:=Tryz.zeroValue9 }
open Go.RowKit Go.Lib in
theorem Tryz.strings_HasPrefix (s p:ByteArray) (w:World) :
 Calls Tryz.prog 96 #[.string s,.string p] w λe w'=>e=.returned (.bool (Lib.hasPrefix s.data.toList p.data.toList))/\w'=w:=Any.strings_HasPrefix Tryz.lays99 s p w
def Tryz.lays151_ren:Go.Shelf.Ren:=⟨fun|151=>216|152=>274|137=>273|119=>321|224=>322|225=>323|217=>320|266=>348|n=>n,fun|9=>9|21=>21|4=>4|3=>3|5=>5|0=>0|46=>157|n=>n,fun|n=>n⟩
theorem Tryz.lays151:Go.Proofs.Lays.n151 Tryz.prog Tryz.lays151_ren:={
 mixed:=by kernel_rfl
 f119:=fxT Tryz.func321
 f137:=fxT Tryz.func273
 f151:=fxT Tryz.func216
 f152:=fxT Tryz.func274
 f217:=fxT Tryz.func320
 f224:=fxT Tryz.func322
 f225:=fxT Tryz.func323
 f266:=fxT Tryz.func348
 t0:=Tryz.underlying0
 a0:=Tryz.isAgg0
 z0:=Tryz.sizeOf0
 v0:=Tryz.zeroValue0
 t3:=Tryz.underlying3
 a3:=Tryz.isAgg3
 z3:=Tryz.sizeOf3
 v3:=Tryz.zeroValue3
 t4:=Tryz.underlying4
 a4:=Tryz.isAgg4
 z4:=Tryz.sizeOf4
 v4:=Tryz.zeroValue4
 t5:=Tryz.underlying5
 a5:=Tryz.isAgg5
 z5:=Tryz.sizeOf5
 v5:=Tryz.zeroValue5
 t9:=Tryz.underlying9
 a9:=Tryz.isAgg9
 z9:=Tryz.sizeOf9
 v9:=Tryz.zeroValue9
 t21:=Tryz.underlying21
 a21:=Tryz.isAgg21
 z21:=Tryz.sizeOf21
 v21:=Tryz.zeroValue21
 t46:=Tryz.underlying157
 a46:=Tryz.isAgg157
 z46:=Tryz.sizeOf157
 v46:=Tryz.zeroValue157 }
open Go.RowKit Go.Lib in
theorem Tryz.strings_ContainsRune_ascii (s:ByteArray) (r:Int) (w:World) (h0:0<=r) (h1:r<128) :
 Calls Tryz.prog 216 #[.string s,.int .i32 r] w λe w'=>e=.returned (.bool (decide (0<=Lib.indexByte s.data.toList r.toNat.toUInt8)))/\w'=w:=Any.strings_ContainsRune_ascii Tryz.lays151 s r w h0 h1
def Tryz.lays105_ren:Go.Shelf.Ren:=⟨fun|105=>63|212=>95|99=>96|165=>97|166=>98|170=>99|169=>100|263=>173|264=>174|206=>175|240=>176|241=>177|276=>239|277=>240|n=>n,fun|9=>9|3=>3|4=>4|20=>20|0=>0|46=>157|109=>188|5=>5|72=>194|76=>198|51=>220|146=>247|53=>222|148=>249|70=>191|37=>192|75=>197|127=>251|164=>305|80=>200|n=>n,fun|n=>n⟩
theorem Tryz.lays105:Go.Proofs.Lays.n105 Tryz.prog Tryz.lays105_ren:={
 mixed:=by kernel_rfl
 f99:=fxT Tryz.func96
 f105:=fxT Tryz.func63
 f165:=fxT Tryz.func97
 f166:=fxT Tryz.func98
 f169:=fxT Tryz.func100
 f170:=fxT Tryz.func99
 f206:=fxT Tryz.func175
 f212:=fxT Tryz.func95
 f240:=fxT Tryz.func176
 f241:=fxT Tryz.func177
 f263:=fxT Tryz.func173
 f264:=fxT Tryz.func174
 f276:=fxT Tryz.func239
 f277:=fxT Tryz.func240
 t0:=Tryz.underlying0
 a0:=Tryz.isAgg0
 z0:=Tryz.sizeOf0
 v0:=Tryz.zeroValue0
 t3:=Tryz.underlying3
 a3:=Tryz.isAgg3
 z3:=Tryz.sizeOf3
 v3:=Tryz.zeroValue3
 t4:=Tryz.underlying4
 a4:=Tryz.isAgg4
 z4:=Tryz.sizeOf4
 v4:=Tryz.zeroValue4
 t5:=Tryz.underlying5
 a5:=Tryz.isAgg5
 z5:=Tryz.sizeOf5
 v5:=Tryz.zeroValue5
 t9:=Tryz.underlying9
 a9:=Tryz.isAgg9
 z9:=Tryz.sizeOf9
 v9:=Tryz.zeroValue9
 t20:=Tryz.underlying20
 a20:=Tryz.isAgg20
 z20:=Tryz.sizeOf20
 v20:=Tryz.zeroValue20
 t37:=Tryz.underlying192
 a37:=Tryz.isAgg192
 z37:=Tryz.sizeOf192
 v37:=Tryz.zeroValue192
 t46:=Tryz.underlying157
 a46:=Tryz.isAgg157
 z46:=Tryz.sizeOf157
 v46:=Tryz.zeroValue157
 t51:=Tryz.underlying220
 a51:=Tryz.isAgg220
 z51:=Tryz.sizeOf220
 v51:=Tryz.zeroValue220
 t53:=Tryz.underlying222
 a53:=Tryz.isAgg222
 z53:=Tryz.sizeOf222
 v53:=Tryz.zeroValue222
 t70:=Tryz.underlying191
 a70:=Tryz.isAgg191
 z70:=Tryz.sizeOf191
 v70:=Tryz.zeroValue191
 t72:=Tryz.underlying194
 a72:=Tryz.isAgg194
 z72:=Tryz.sizeOf194
 v72:=Tryz.zeroValue194
 t75:=Tryz.underlying197
 a75:=Tryz.isAgg197
 z75:=Tryz.sizeOf197
 v75:=Tryz.zeroValue197
 t76:=Tryz.underlying198
 a76:=Tryz.isAgg198
 z76:=Tryz.sizeOf198
 v76:=Tryz.zeroValue198
 t109:=Tryz.underlying188
 a109:=Tryz.isAgg188
 z109:=Tryz.sizeOf188
 v109:=Tryz.zeroValue188
 t127:=Tryz.underlying251
 a127:=Tryz.isAgg251
 z127:=Tryz.sizeOf251
 v127:=Tryz.zeroValue251
 t146:=Tryz.underlying247
 a146:=Tryz.isAgg247
 z146:=Tryz.sizeOf247
 v146:=Tryz.zeroValue247
 t148:=Tryz.underlying249
 a148:=Tryz.isAgg249
 z148:=Tryz.sizeOf249
 v148:=Tryz.zeroValue249
 t164:=Tryz.underlying305
 a164:=Tryz.isAgg305
 z164:=Tryz.sizeOf305
 v164:=Tryz.zeroValue305 }
theorem Tryz.Builder_Extra_105:Builder.Extra Tryz.prog Tryz.lays105_ren:={
 sizeBuilder:=by kernel_rfl
 liesBuilder:=by kernel_rfl
 t5:=Tryz.underlying5
 a5:=Tryz.isAgg5
 z5:=Tryz.sizeOf5
 v5:=Tryz.zeroValue5
 infoByte:=by kernel_rfl
 cellsByte:=by kernel_rfl
 sizeByte:=by kernel_rfl
 neB5:=by decide }
open Go.RowKit Go.Lib in
theorem Tryz.strings_Repeat (s:ByteArray) (c:Nat) (w:World) (hc:c<=9223372036854775807) (ai:s.size * c<=140737488355328) :
 Calls Tryz.prog 63 #[.string s,.int .i64 c] w λe w'=>e=.returned (.string ⟨(Lib.repeatL s.data.toList c).toArray⟩)/\Below w.heap.size w w':=Any.strings_Repeat Tryz.lays105 Tryz.Builder_Extra_105 s c w hc ai
def Tryz.laysNm220_ren:Go.Shelf.Ren:=⟨fun|20=>260|n=>n,fun|22=>23|3=>3|4=>4|0=>0|n=>n,fun|n=>n⟩
theorem Tryz.laysNm220:Go.Proofs.Lays2.n20 Tryz.prog Tryz.laysNm220_ren:={
 mixed:=by kernel_rfl
 f20:=fxT Tryz.func260
 t0:=Tryz.underlying0
 a0:=Tryz.isAgg0
 z0:=Tryz.sizeOf0
 v0:=Tryz.zeroValue0
 t3:=Tryz.underlying3
 a3:=Tryz.isAgg3
 z3:=Tryz.sizeOf3
 v3:=Tryz.zeroValue3
 t4:=Tryz.underlying4
 a4:=Tryz.isAgg4
 z4:=Tryz.sizeOf4
 v4:=Tryz.zeroValue4
 t22:=Tryz.underlying23
 a22:=Tryz.isAgg23
 z22:=Tryz.sizeOf23
 v22:=Tryz.zeroValue23
 i3:=by kernel_rfl }
open Go.RowKit Go.Lib Go.Sort in
theorem Tryz.slices_Compact_int (blk off cap:Nat) (zs:List Int) (w:World) (hH:Holds (Value.int .i64) w blk off zs.toArray) (bI:zs.length<=9223372036854775807) (qj:zs.length<=cap) :
 Calls Tryz.prog 260 #[.slice (some ⟨blk,off,none⟩) zs.length cap] w λe w'=>e=.returned (.slice (some ⟨blk,off,none⟩) (Lib.compact zs).length cap)/\∃ q,w'=putRow (Value.int .i64) (Sort.ahead w q) blk off (Lib.compact zs++List.replicate (zs.length - (Lib.compact zs).length) 0).toArray:=Any.slices_Compact_int Tryz.laysNm220 blk off cap zs w hH bI qj
open Go.RowKit Go.Lib Go.Sort in
theorem Tryz.slices_Compact_int_empty (a:Option Addr) (cap:Nat) (w:World) :
 Calls Tryz.prog 260 #[.slice a 0 cap] w λe w'=>e=.returned (.slice a 0 cap)/\w'=w:=Any.slices_Compact_int_empty Tryz.laysNm220 a cap w
open Go.RowKit Go.Sort in
theorem Tryz.slices_Sort_int_none (p:Option Addr) (cap:Nat) (w:World) :
 Calls Tryz.prog 259 #[.slice p 0 cap] w λe w'=>e=.returned (.tuple #[])/\w'=w:=Any.slices_Sort_int_none Tryz.lays189 p cap w
end Go.Proofs
namespace Go.Eng
open Go Go.RowKit Go.Proofs
structure Fl where
 i:Nat
 d:Nat
 T:Nat
 z:Value
section
variable {P:Program} {n:Nat} {Q:Exit->Act->World->Prop} {e:Env} {w:World}
theorem Z89 {c:Code} (h:WC P n c (Exit.noGoto Q) e w):WC P n (.scope c) Q e w:=⟨λa ha=>wp_scope_straight (h.h a ha)⟩
theorem Zjs {l:Nat} (h:WQ n Q .normal e w):WC P n (.label l) Q e w:=⟨λa ha=>wp_label (h.h a ha)⟩
theorem JU (h:WQ n Q .ret e w):WQ n (Exit.noGoto Q) .ret e w:=⟨λa ha=>h.h a ha⟩
theorem Z04 {i:Nat} (h:WQ n Q (.exit i) e w):WQ n (Exit.noGoto Q) (.exit i) e w:=⟨λa ha=>h.h a ha⟩
end
def Z0g:Str:=[9,10,13,32]
theorem Z8a (c:UInt8):Z1E c=decide (c∈Z0g):=by
 unfold Z1E Z0g;rw [Yad];simp [or_assoc]
theorem Z8b (l:Str) (c:UInt8):decide (0<=Lib.indexByte l c)=decide (c∈l):=by
 rw [decide_eq_decide]
 induction l with
 | nil=>simp [Lib.indexByte]
 | cons a r ih=>
   unfold Lib.indexByte;by_cases h:a=c;subst h;simp;have hb:(a == c)=false:=by simpa using h
   rw [hb];simp only [XO,if_false,Xb];have kA:=Lib.indexByte_ge r c;have h':¬ c=a:=λe=>h e.symm;split;rename_i h1;have:Lib.indexByte r c=-1:=by simpa using h1
   rw [<- ih];simp [h'];omega;rename_i h1;have h2:¬ Lib.indexByte r c=-1:=by simpa using h1
   have:0<=Lib.indexByte r c:=by omega
   simp [h',ih.1 this];omega
theorem Zw4 (s:Str) (a b:UInt8):Lib.hasPrefix s [a,b]=decide (s.take 2=[a,b]):=by
 unfold Lib.hasPrefix
 match s with
 | []=>rfl
 | [x]=>simp [List.isPrefixOf]
 | x :: y :: r=>
   rw [Yad];simp only [List.isPrefixOf,Ya2,Xl,beq_iff_eq,decide_eq_true_eq,Yaw,Ybs,Ya4,and_true];constructor;rintro ⟨rfl,rfl⟩;exact ⟨rfl,rfl⟩;rintro ⟨rfl,rfl⟩;exact ⟨rfl,rfl⟩
theorem Zc2 {s:Str} (aR:s≠[]) (h:s.all ZQ=true):Lib.atoiAll s=if Z0u s<=9223372036854775807 then .ok (Z0u s:Int) else .range:=by
 have key:∀ (s:Str) (acc N:Nat),acc<18446744073709551616->s.all ZQ=true->s.foldl (λn c=>10 * n+(c.toNat - 48)) acc=N->Lib.parseUint10 acc s=if N<18446744073709551616 then .ok N else .range:=by
  intro s
  induction s with
  | nil=>
    intro acc N ha _ hN;have:acc=N:=hN;subst this;rw [if_pos ha];rfl
  | cons c r ih=>
    intro acc N ha h hN;simp only [YaT,Xl] at h;have hc:48<=c.toNat/\c.toNat<=57:=by simpa [ZQ] using h.1
    have mO:∀ (r:Str) (a:Nat),a<=r.foldl (λn c=>10 * n+(c.toNat - 48)) a:=by
     intro r
     induction r with
     | nil=>intro a;exact Xn _
     | cons x q ihq=>intro a;have:=ihq (10 * a+(x.toNat - 48));simp only [X2];omega
    have h1:=mO r (10 * acc+(c.toNat - 48));have sR:r.foldl (λn c=>10 * n+(c.toNat - 48)) (10 * acc+(c.toNat - 48))=N:=hN;rw [sR] at h1;simp only [Lib.parseUint10];rw [if_pos hc];split;rw [if_neg (by omega)];split;rw [if_neg (by omega)];rw [show acc * 10+(c.toNat - 48)=10 * acc+(c.toNat - 48) by omega];exact ih _ _ (by omega) h.2 sR
 obtain ⟨c,r,rfl⟩:∃ c r,s=c :: r:=by cases s with|nil=>exact absurd rfl aR|cons c r=>exact ⟨c,r,rfl⟩
 have hk:=key (c :: r) 0 (Z0u (c :: r)) (by omega) h rfl;have cV:48<=c.toNat/\c.toNat<=57:=by
  simp only [YaT,Xl] at h;simpa [ZQ] using h.1
 unfold Lib.atoiAll;simp only;rw [if_neg (by omega)];unfold Lib.parseMag;rw [if_neg (by simp),hk];by_cases h1:Z0u (c :: r)<18446744073709551616;rw [if_pos h1];simp only;by_cases h2:Z0u (c :: r)<=9223372036854775807;rw [if_pos h2,if_neg (by omega),if_neg (by omega),if_neg (by omega)];rw [if_neg h2,if_pos (by omega)];rw [if_neg h1,if_neg (by omega)]
end Go.Eng
namespace Go.Proofs.YtipfkbkkndacjaaGreatDoor
open Go Go.Eng Go.RowKit Go.Proofs
theorem Zc3 (c:UInt8):((c.toNat:Int)).toNat.toUInt8=c:=by
 rw [Ybv];exact UInt8.ofNat_toNat
theorem Z70 (s:Str) (c:UInt8) (w):CC 273 #[str s,.int .u8 (c.toNat:Int)] w λr w'=>r=.I (Lib.indexByte s c)/\w'=w:=by
 refine (Tryz.strings_IndexByte ⟨s.toArray⟩ (c.toNat:Int) w).mono ?_;rintro e w' ⟨rfl,rfl⟩;refine .mk ⟨?_,rfl⟩;rw [Zc3]
theorem Z2A (s:Str) (a b:UInt8) (w):CC 96 #[str s,str [a,b]] w λr w'=>r=.B (decide (s.take 2=[a,b]))/\w'=w:=by
 refine (Tryz.strings_HasPrefix ⟨s.toArray⟩ ⟨([a,b]:Str).toArray⟩ w).mono ?_;rintro e w' ⟨rfl,rfl⟩;refine .mk ⟨?_,rfl⟩;rw [<- Zw4]
theorem Zc4 {P:Program} {n:Nat} {Q:Exit->Act->World->Prop} {e:Env} {w} {ops:Array Oper} {rest:List Oper} {ak:Nat} {ty:TypeId} {pos:String} {af:Array Edge} {src dst:TypeId} {x:Operand} {k:IntKind} {z:Int} {D:TypeDesc} [hs:Und P src D] [hd:Und P dst .string]
 (hx:ev e x=some (.int k z)) (aw:Nat.blt ak n=true) (kk:WL P n ops Q rest ((ak,str (Utf8.encode z).data.toList) :: e) w):WL P n ops Q (⟨some ak,.convert src dst x,ty,pos,af,none⟩ :: rest) e w:=by
 refine Z9 (v:=str (Utf8.encode z).data.toList) ⟨λa ha=>?_⟩ aw kk;have:=run_convert_int_string (P:=P) w src dst k z (by rw [hs.h];rfl) hd.h;simp [execOp,ha.ev hx,this]
theorem Zxa (c:Nat) (h1:128<=c) (h2:c<256):(Utf8.encode (c:Int)).data.toList=[UInt8.ofNat (192+c / 64),UInt8.ofNat (128+c % 64)]:=by
 have hv:Utf8.valid (c:Int)=true:=by
  unfold Utf8.valid;simp only [Yav,Xl,decide_eq_true_eq];omega
 unfold Utf8.encode;simp only [hv,if_true,Ybv];rw [if_neg (by omega),if_pos (by omega)]
theorem Zo5:∀ c∈Z0g,c.toNat<128:=by decide
theorem ZaD (c:Nat) (w) (h1:128<=c) (h2:c<256):CC 274 #[str Z0g,.int .i32 (c:Int)] w λr w'=>r=.I (-1)/\Stp [] w w':=by
 have he:=Zxa c h1 h2;have hb:128<=(UInt8.ofNat (128+c % 64)).toNat:=by simp;omega
 generalize UInt8.ofNat (192+c / 64)=b0 at he;generalize UInt8.ofNat (128+c % 64)=b1 at he hb;have oy:Lib.validRune (c:Int)=true:=decide_eq_true (by omega);refine cW2 187 Tryz.func274 ?_;refine QO ?_;refine Z1 (Z6 rfl (ZP rfl) ((Tryz.utf8_ValidRune (c:Int) _).mono (λe w' h=>(show Ret (λr w'=>r=.B true/\w'=_) e w' from by
  obtain ⟨rfl,rfl⟩:=h;exact .mk ⟨by rw [oy],rfl⟩)))) rfl ?_
 rintro _ wv ⟨rfl,jd⟩;subst wv;refine W ?_;refine Z89 ?_;refine W ?_;refine Zc4 rfl rfl ?_;rw [he];have dS:([b0,b1]:Str).length=2:=rfl;have oz:Z0g.length=4:=rfl;refine W ?_;refine Zt (σ:=Unit) (λ_=>[(0,str Z0g),(7,str [b0,b1]),(8,.I ((([b0,b1]:Str).length:Int) - 1)),(9,.I ((([b0,b1]:Str).length:Int) - 1))]) (λ_ w'=>Stp [] w w') (λ_=>0) () ⟨rfl,rfl,rfl,rfl,trivial⟩ (Stp.refl _ _) ?_;rintro _ w1 hS;refine QO ?_;refine Z89 ?_;refine QO ?_;refine ZDr 7 [] [] [(0,0),(1,0),(2,0),(3,0),(4,0),(5,0),(6,0)] (λw1 ae=>?_);replace hS:=hS.trans ae;clear ae;refine D ?_;have hx:¬ Jg Z0g (([b0,b1]:Str).length - Nat.succ 0)=Jg [b0,b1] (([b0,b1]:Str).length - Nat.succ 0):=by
  show ¬ (10:Int)=(b1.toNat:Int)
  omega
 (refine QP ?_ ?_<;>intro hc)
 rotate_left
 exact absurd hx (by assumption);have jR:Jg [b0,b1] (([b0,b1]:Str).length - Nat.succ 0)=(b1.toNat:Int):=rfl;have fA:b1∉(Z0g.drop 2):=λh=>by
  have:=Zo5 b1 (YaK h);omega
 have kD:Lib.indexByte (Z0g.drop 2) b1<0:=by
  have:=Z8b (Z0g.drop 2) b1;rw [decide_eq_decide] at this;have h0:¬ 0<=Lib.indexByte (Z0g.drop 2) b1:=λh=>fA (this.1 h);omega
 refine ZDr 9 [] [] [(0,0),(1,0),(2,0),(3,0),(4,0),(5,0),(6,0),(7,2),(8,0)] (λw1 ae=>?_);replace hS:=hS.trans ae;clear ae;refine D ?_;refine Zbw (l:=2) rfl trivial rfl rfl (by omega) (by omega) rfl ?_;refine D ?_;rw [jR];refine DC (Z70 (Z0g.drop 2) b1 _) (λ_ _ h=>by rw [h.2];exact Stp.refl _ _) ?_;rintro _ w5 ⟨rfl,sK⟩;subst w5;refine D ?_;refine QO ?_
 repeat (first|refine JU ?_|refine W1 ?_)
 refine RU ?_;exact ⟨rfl,hS⟩
theorem ZaE (c:UInt8) (w):CC 216 #[str Z0g,.int .i32 (c.toNat:Int)] w λr w'=>r=.B (Z1E c)/\Stp [] w w':=by
 by_cases h:c.toNat<128;refine (Tryz.strings_ContainsRune_ascii ⟨Z0g.toArray⟩ (c.toNat:Int) w (by omega) (by omega)).mono ?_;rintro e w' ⟨rfl,rfl⟩;refine .mk ⟨?_,Stp.refl _ _⟩;rw [Zc3,Z8a];exact congrArg Value.bool (Z8b Z0g c);have hc:=c.toNat_lt;have bD:Z1E c=false:=by
  rw [Z8a,decide_eq_false_iff_not];intro hm;exact h (Zo5 c hm)
 refine cW2 9 Tryz.func216 ?_;refine W ?_;refine CM (Zg rfl rfl) (ZaD c.toNat _ (by omega) (by omega)) ?_;rintro _ w1 ⟨rfl,hS⟩;refine RT ?_;exact ⟨by rw [bD];rfl,hS⟩
def Z7m:Str:=[32,114,117,108,101,32,102,114,111,109,32,111,110,32,105,102,32,100,117,101,32,117,110,108,101,115,115,32,101,108,115,101,32,111,114,32,97,110,100,32,110,111,116,32,116,114,117,101,32,102,97,108,115,101,32,116,104,101,110,32,101,110,100,32,100,97,121,115,32,119,101,101,107,115,32,109,111,110,116,104,115,32,99,111,117,114,116,100,97,121,115,32,110,101,120,116,32,112,114,101,118,32,108,97,116,101,114,32,101,97,114,108,105,101,114,32,98,101,116,119,101,101,110,32]
def ZaF:List Str:=[[114,117,108,101],[102,114,111,109],[111,110],[105,102],[100,117,101],[117,110,108,101,115,115],[101,108,115,101],[111,114],[97,110,100],[110,111,116],[116,114,117,101],[102,97,108,115,101],[116,104,101,110],[101,110,100],[100,97,121,115],[119,101,101,107,115],[109,111,110,116,104,115],[99,111,117,114,116,100,97,121,115],[110,101,120,116],[112,114,101,118],[108,97,116,101,114],[101,97,114,108,105,101,114],[98,101,116,119,101,101,110]]
theorem Z6l:∀ (s sub:List UInt8),0<=Lib.index s sub↔∃ i,i<=s.length/\sub.isPrefixOf (s.drop i)=true
 | [], sub => by
   unfold Lib.index;cases sub with
   | nil=>simp
   | cons a l=>simp
 | b :: l, sub => by
   have ih:=Z6l l sub;have kA:=Lib.index_ge l sub;unfold Lib.index;by_cases hp:sub.isPrefixOf (b :: l)=true;rw [if_pos hp];exact ⟨λ_=>⟨0,by omega,hp⟩,λ_=>by omega⟩;rw [if_neg hp];have e:(0:Int)<=(if (Lib.index l sub == -1)=true then -1 else Lib.index l sub+1)↔0<=Lib.index l sub:=by
    by_cases h1:Lib.index l sub=-1;rw [if_pos (by simpa using h1)];omega;rw [if_neg (by simpa using h1)];omega
   rw [e,ih];constructor;rintro ⟨i,hi,h⟩;exact ⟨i+1,by simpa using hi,h⟩
   . rintro ⟨i,hi,h⟩
     cases i with
     | zero=>exact absurd h hp
     | succ i=>exact ⟨i,by simpa using hi,h⟩
theorem Z6m:∀ (t r:List UInt8),(∀ c∈t,c≠32)->(t++[32]).isPrefixOf r=true->r.takeWhile (λc=>decide (c≠32))=t
 | [], r, _, h => by
   cases r with
   | nil=>simp at h
   | cons a l=>
     simp [List.isPrefixOf] at h;subst h;rfl
 | c :: t, r, hc, h => by
   cases r with
   | nil=>simp at h
   | cons a l=>
     simp only [XA,List.isPrefixOf,Xl,beq_iff_eq] at h;obtain ⟨rfl,h⟩:=h;have h1:=hc c (by simp);rw [List.takeWhile_cons_of_pos (by simpa using h1),Z6m t l (λx hx=>hc x (by simp [hx])) h]
theorem Zg0:∀ i∈List.range (Z7m.length+1),(Z7m.drop i).head?=some 32->(Z7m.drop (i+1)).takeWhile (λc=>decide (c≠32))∈ZaF\/(Z7m.drop (i+1)).takeWhile (λc=>decide (c≠32))=[]:=by decide +kernel
theorem ZmC:∀ t∈ZaF,Lib.contains Z7m (32 :: t++[32])=true:=by decide +kernel
theorem ZmD {t:Str} (h0:t≠[]) (hc:∀ c∈t,c≠32):Lib.contains Z7m (32 :: t++[32])=decide (t∈ZaF):=by
 by_cases ht:t∈ZaF;rw [ZmC t ht,decide_eq_true ht]
 . rw [decide_eq_false ht]
   unfold Lib.contains;rw [decide_eq_false_iff_not,Z6l];rintro ⟨i,hi,h⟩;cases hd:Z7m.drop i with
   | nil=>rw [hd] at h;simp at h
   | cons a l=>
     rw [hd] at h;simp only [XA,List.isPrefixOf,Xl,beq_iff_eq] at h;obtain ⟨rfl,h⟩:=h;have hl:Z7m.drop (i+1)=l:=by
      have:=congrArg List.tail hd;simpa [List.tail_drop] using this
     have hw:=Z6m t l hc h;have:=Zg0 i (YbJ.2 (by omega)) (by rw [hd];rfl);rw [hl,hw] at this;exact this.elim ht h0
abbrev Zjt (c:Int):Prop:=(97<=c/\c<=122)\/(48<=c/\c<=57)
def Z3T (s:Str):Bool:=decide (0<s.length/\s.length<=12/\97<=Jg s 0/\Jg s 0<=122/\∀ i,i<s.length->Zjt (Jg s i))
def ZE (s:Str):Bool:=Z3T s && decide (s∉ZaF/\s∉Zf)
theorem Z5F (a b:Str) (m:Int) (w:World) (ha:a.length<4294967281) (hm:w.cell? ⟨2,0,none⟩=some (.I m)) :
 CC 227 #[str a,str b] w λr w'=>r=.B (Lib.contains a b)/\Stp [] w w':=by
 refine (Tryz.strings_Contains ⟨a.toArray⟩ ⟨b.toArray⟩ m w (by rw [Z0x];exact ha) hm).mono ?_;rintro e w' ⟨rfl,rfl⟩;exact .mk ⟨rfl,Stp.refl _ _⟩
theorem Zc5 {l:List Str} {s:Str}:0<=idx (isS s) l↔s∈l:=by
 unfold idx;cases h:l.findIdx? (isS s) with
 | none=>
   rw [Yab] at h;simp only;constructor;intro h1;omega;intro h1;have:=h s h1;simp [isS] at this
 | some i=>
   obtain ⟨hi,hp,_⟩:=X7.1 h;simp only;constructor;intro _;have:l[i]=s:=by simpa [isS] using hp
   rw [<- this];exact Xd hi;intro _;omega
theorem Z96 (X:List Nat) (v:Value) (l:List Str) (a:Str) (w) (hs:SlV X w v l) :
 CC 228 #[v,str a] w λr w'=>r=.B (decide (a∈l))/\Stp [] w w':=by
 refine cW2 9 Tryz.func228 ?_;refine W ?_;refine CL (Z9k X v l a _ hs) ?_;rintro _ w1 ⟨rfl,hS⟩;refine RT ?_;exact ⟨by congr 1;exact decide_eq_decide.2 Zc5,hS⟩
theorem Z2L (s:Str) (m:Int) (w) (hF:SlV [] w Z2x Zf) (hm:w.cell? ⟨2,0,none⟩=some (.I m)) :
 CC 167 #[str s] w λr w'=>r=.B (ZE s)/\Stp [] w w':=by
 refine cW1 55 Tryz.func167 ?_;refine W ?_;by_cases h0:s.length≠0/\s.length<=12/\97<=Jg s 0/\Jg s 0<=122
 case neg=>
  have hn:ZE s=false:=by
   unfold ZE Z3T;rw [decide_eq_false (λh=>h0 ⟨by omega,h.2.1,h.2.2.1,h.2.2.2.1⟩)];rfl
  by_cases hl:s.length≠0;focus repeat'(first|refine W1 ?_|omega|refine VG ?_ ?_<;>intro hg|refine VC ?_ ?_<;>intro hc)
  refine RU ?_;exact ⟨by rw [hn],Stp.refl _ _⟩;refine RU ?_;exact ⟨by rw [hn],Stp.refl _ _⟩;refine J9 (i:=0) rfl rfl rfl (by omega) rfl ?_
  (refine QP ?_ ?_<;>intro hg)
  refine RU ?_;exact ⟨by rw [hn],Stp.refl _ _⟩;refine J9 (i:=0) rfl rfl rfl (by omega) rfl ?_;refine RT ?_;exact ⟨by rw [hn],Stp.refl _ _⟩;obtain rfl:s=[]:=Xw.1 (by omega);refine RT ?_;exact ⟨by rw [hn],Stp.refl _ _⟩
 obtain ⟨h1,h2,h3,h4⟩:=h0;have aR:¬ s=[]:=λh=>by rw [h] at h1;exact h1 rfl
 (refine QP ?_ ?_<;>intro hg)
 exact absurd (by assumption) aR;refine J9 (i:=0) rfl rfl rfl (by omega) rfl ?_;refine QO ?_;refine J9 (i:=0) rfl rfl rfl (by omega) rfl ?_;refine QO ?_;refine Z1 (Zc0 rfl (by omega)) rfl ?_;rintro bv w1 ⟨hb,hS⟩;replace hb:=hb [] (by simp);have kE:=hb.max;refine QO ?_;refine LP (σ:=Nat) (λi=>[(0,str s),(23,bv),(24,.I (s.length:Int)),(25,.I (i:Int))]) (λi w'=>i<=s.length/\Stp [] w1 w'/\∀ j,j<i->Zjt (Jg s j)) (λi=>s.length - i) 0 ⟨Xq _,Stp.refl _ _,λj hj=>absurd hj (Xu _)⟩ ?_;rintro i w2 ⟨hi,ah,aB⟩
 try dsimp only at hi aB ⊢
 replace hb:=hb.up ah;replace hS:=hS.trans ah;by_cases ag:i<s.length;have oA:Jg s i=(s[i].toNat:Int):=Go.Eng.byte_at ag;by_cases cO:(97<=(s[i].toNat:Int)/\(s[i].toNat:Int)<=122)\/(48<=(s[i].toNat:Int)/\(s[i].toNat:Int)<=57)
 . have eu:∀ j,j<i+1->Zjt (Jg s j):=λj hj=>by
    by_cases e:j=i;subst e;rw [oA];exact cO;exact aB j (by omega)
   repeat'(first|refine W1 ?_|omega|refine VG ?_ ?_<;>intro hg|refine VC ?_ ?_<;>intro hc)
   all_goals exact QL (i+1) ⟨ag,ah,eu⟩ (XE ag (XP i))
 . have hn:ZE s=false:=by
    unfold ZE Z3T;rw [decide_eq_false (λh=>cO (by have:=h.2.2.2.2 i ag;rw [oA] at this;exact this))];rfl
   repeat'(first|refine W1 ?_|omega|refine VG ?_ ?_<;>intro hg|refine VC ?_ ?_<;>intro hc)
   all_goals
    refine RU ?_;exact ⟨by rw [hn],hS⟩
 obtain rfl:i=s.length:=by omega
 have aO:Z3T s=true:=decide_eq_true ⟨by omega,h2,h3,h4,aB⟩;have bD:∀ c∈s,c≠32:=λc hc h=>by
  obtain ⟨j,hj,rfl⟩:=Xr hc;have h5:=aB j hj;rw [Go.Eng.byte_at hj,h] at h5;exact absurd h5 (by decide)
 have iM:Z7m.length<4294967281:=by
  have:Z7m.length<=200:=by decide +kernel
  omega
 have az:Lib.contains Z7m ([32]++s++[32])=decide (s∈ZaF):=ZmD aR bD;refine QO ?_;refine Z0A rfl rfl (by simp;omega) rfl ?_;repeat'(first|refine W1 ?_|omega|refine VG ?_ ?_<;>intro hg|refine VC ?_ ?_<;>intro hc)
 refine Z0A rfl rfl (by simp;omega) rfl ?_;repeat'(first|refine W1 ?_|omega|refine VG ?_ ?_<;>intro hg|refine VC ?_ ?_<;>intro hc)
 refine CM (Zg rfl rfl) (Z5F Z7m ([32]++s++[32]) m _ iM (hS.cell (by simp) hm)) ?_;rintro _ w3 ⟨rfl,am⟩;rw [az];replace hS:=hS.trans am;by_cases hr:s∈ZaF;have hn:ZE s=false:=by
  unfold ZE;rw [decide_eq_false (λh=>h.1 hr),YbI]
 rw [decide_eq_true hr];refine RT ?_;exact ⟨by rw [hn],hS⟩;rw [decide_eq_false hr];refine QO ?_;refine ZfD rfl rfl ?_;refine W ?_;refine CL (Z96 [] _ Zf s _ (hF.up hS)) ?_;rintro _ w4 ⟨rfl,aI⟩;refine QO ?_;refine WR ?_;refine .mk ⟨?_,hS.trans aI⟩;unfold ZE;rw [aO];by_cases hf:s∈Zf<;>simp [hr,hf]
theorem Z6n {l:List Tkn} {i:Nat} (h:i<l.length):cur l i=l[i]:=by simp [cur,List.getD,h]
def Pd (w:World) (b:Nat) (tv:Value) (l:List Tkn) (i o:Nat):Prop:=Blk w b 186 [tv,.I i,.I o]/\SlV [b] w tv l/\i<l.length/\l.length<=1000000/\o<=12
theorem Pd.up {w w':World} {b i o:Nat} {tv:Value} {l:List Tkn} (h:Pd w b tv l i o) (hS:Stp [] w w'):Pd w' b tv l i o:=by
 obtain ⟨h1,h2,h3⟩:=h;exact ⟨h1.up hS,h2.up hS,h3⟩
theorem Pd.lt {w} {b i o:Nat} {tv:Value} {l:List Tkn} (h:Pd w b tv l i o):b<w.heap.size:=by
 obtain ⟨h1,_⟩:=h;exact h1.lt
theorem Pd.i_lt {w} {b i o:Nat} {tv:Value} {l:List Tkn} (h:Pd w b tv l i o):i<l.length:=by
 obtain ⟨_,_,h1,_⟩:=h;exact h1
def Z4V (a c:Int):Value:=.iface 235 (.agg #[.I a,.I c])
def PE {α:Type} (r:Out α) (G:α->Nat->Nat->Value->World->Prop) (F:World->Prop) (e:Ending) (w':World):Prop:=
 match r with
 | .err a c=>e=.panicked [⟨Z4V a c,false,false⟩]/\F w'
 | .ok x i o=>Ret (G x i o) e w'
theorem ZV {P:Program} {n:Nat} {Q:Exit->Act->World->Prop} {e:Env} {w} {ops:Array Oper} {rest:List Oper} {d:Nat} {ty:TypeId} {pos:String} {af:Array Edge} {f:Nat} {fn:Func} {xs:Array Operand} {ts:Array TypeId} {vs:Array Value} {c:Operand} {ch:List PanicEntry} {F:World->Prop} [hf:Fun P f fn]
 (hc:ev e c=some (.func (.func f) #[] #[])) (hv:∀ a,Has n e a->xs.map a.eval=vs) (h:Calls P f vs w (λe w'=>e=.panicked ch/\F w')) (hd:Nat.blt d n=true) (k:∀ w',F w'->WQ n Q (.panic ch) [] w') :
 WL P n ops Q (⟨some d,.call { callee:=.value c,args:=xs,argTypes:=ts },ty,pos,af,none⟩ :: rest) e w:=
 Zay (G:=λ_ _=>False) (F:=λch' w'=>ch'=ch/\F w') (Z7V hc hv (h.mono λe w' ⟨h1,h2⟩=>by rw [h1];exact .pan ⟨rfl,h2⟩)) hd (λch' w' ⟨h1,h2⟩=>by subst h1;exact Z9r (k w' h2)) (λ_ _ h=>h.elim)
theorem ZsJ (a c:Int) (w):(Instr.build 235 #[(0,.I a),(1,.I c)]).run Tryz.prog w=.ok (.agg #[.I a,.I c]) w:=by kernel_rfl
theorem Z0S (b:Nat) (tv:Value) (l:List Tkn) (i o:Nat) (w) (hp:Pd w b tv l i o) :
 CC 163 #[pQ b] w λr w'=>r=str (cur l i).text/\Stp [] w w':=by
 obtain ⟨hb,hs,hi,hl,ho⟩:=hp;rw [Z6n hi];refine cW1 14 Tryz.func163 ?_;refine W ?_;refine ZDr 12 [] [] [(0,0),(1,0),(2,0),(3,1),(4,0),(5,0),(6,0),(7,1),(8,0),(9,0),(10,1),(11,0)] (λw1 ae=>?_);replace hb:=hb.up ae;replace hs:=hs.up ae;refine D ?_;refine RT ?_;exact ⟨rfl,ae⟩
theorem Zju (b:Nat) (tv:Value) (l:List Tkn) (i o:Nat) (c:Int) (w) (hp:Pd w b tv l i o) :
 Calls Tryz.prog 159 #[pQ b,.I c] w (λe w'=>e=.panicked [⟨Z4V (cur l i).pos c,false,false⟩]/\Stp [] w w'):=by
 obtain ⟨hb,hs,hi,hl,ho⟩:=hp;rw [Z6n hi];refine cW2 18 Tryz.func159 ?_;refine W ?_;refine Z9q 15 ([]) [] [(0,0),(1,0),(2,0),(3,1),(4,0),(5,0),(6,0),(7,1),(8,0),(9,0),(10,1),(11,0),(12,0),(13,0),(14,2)] rfl mixed (by kernel_rfl) (by kernel_rfl) (by kernel_rfl) (λw1 ae=>?_);replace hb:=hb.up ae;replace hs:=hs.up ae;refine JI rfl trivial (λ_=>ZZ rfl) rfl ?_;refine JI rfl trivial (λ_=>Z3D rfl) rfl ?_;refine JI rfl trivial (λ_=>Z1J rfl) rfl ?_;refine Z5x rfl trivial (λw' hw=>Jp rfl rfl (hb.up hw) rfl) rfl ?_;refine JI rfl trivial (λ_=>ZZ rfl) rfl ?_;refine JI rfl trivial (λ_=>Z3D rfl) rfl ?_;refine JI rfl trivial (λ_=>Z1J rfl) rfl ?_;refine Z5x rfl trivial (λw' hw=>Jp rfl rfl (hb.up hw) rfl) rfl ?_;refine JI rfl trivial (λ_=>Z2W rfl hs rfl rfl hi) rfl ?_;refine JI rfl trivial (λ_=>Z6P rfl (SlV.isSome hs hi)) rfl ?_;refine Z5x rfl trivial (λw' hw=>Z1T (u:=.I l[i].pos) rfl rfl (hs.up hw) hi rfl rfl) rfl ?_;refine JI rfl trivial (λ_=>ZZ rfl) rfl ?_;refine JI rfl trivial (λ_=>Z0L (vs:=[(0,.I l[i].pos),(1,.I c)]) rfl (ZsJ _ _)) rfl ?_;refine JI rfl trivial (λ_=>Z6d rfl) rfl ?_;refine ZfQ rfl trivial (ZfP rfl) ?_;refine ZH ?_;exact ⟨rfl,ae⟩
theorem Z3U (b:Nat) (tv:Value) (l:List Tkn) (s:Str) (i o:Nat) (w) (hp:Pd w b tv l i o) (hn:(cur l i).text=s->i+1<l.length) :
 CC 224 #[pQ b,str s] w λr w'=>r=.B (decide ((cur l i).text=s))/\Pd w' b tv l (if (cur l i).text=s then i+1 else i) o/\Stp [b] w w':=by
 refine cW2 16 Tryz.func224 ?_;refine W ?_;refine CL (Z0S b tv l i o _ hp) ?_;rintro _ w1 ⟨rfl,ae⟩;replace hp:=hp.up ae;obtain ⟨hb,hs,hi,hl,ho⟩:=hp;have aT:=hs.max;by_cases h:(cur l i).text=s;have bJ:=hn h
 (refine QP ?_ ?_<;>intro hc)
 exact absurd h (by assumption);refine Z4 (Zc (u:=.I ((i+1:Nat):Int)) rfl (by show some _=some _;simp) rfl rfl hb (by simp)) ?_;rintro _ w2 ⟨hT,cr⟩;refine W ?_;refine WR ?_;rw [decide_eq_true h,if_pos h];exact .mk ⟨rfl,⟨cr,hs.ext hT (λc hc=>hc) (λc hc=>.inl hc),bJ,hl,ho⟩,ae.mn.trans hT⟩
 (refine QP ?_ ?_<;>intro hc)
 refine WR ?_;rw [decide_eq_false h,if_neg h];exact .mk ⟨rfl,⟨hb,hs,hi,hl,ho⟩,ae.mn⟩;exact absurd h (by assumption)
def PC {α:Type} (b:Nat) (w:World) (tv:Value) (l:List Tkn) (r:Out α) (G:α->Value->World->Prop) (e:Ending) (w':World):Prop:=
 PE r (λx i o v w'=>G x v w'/\Pd w' b tv l i o/\Stp [b] w w') (λw'=>Stp [b] w w') e w'
theorem PC.ok {α:Type} {b:Nat} {w w':World} {tv:Value} {l:List Tkn} {x:α} {i o:Nat} {G:α->Value->World->Prop} {v:Value} (hG:G x v w') (hp:Pd w' b tv l i o) (hS:Stp [b] w w'):PC b w tv l (.ok x i o) G (.returned v) w':=⟨v,rfl,hG,hp,hS⟩
theorem PC.err {α:Type} {b:Nat} {w w':World} {tv:Value} {l:List Tkn} {a c:Int} {G:α->Value->World->Prop} (hS:Stp [b] w w'):PC b w tv l (.err a c) G (.panicked [⟨Z4V a c,false,false⟩]) w':=⟨rfl,hS⟩
theorem PC.fail {α:Type} {b:Nat} {w w':World} {tv:Value} {l:List Tkn} {i:Nat} {c:Int} {G:α->Value->World->Prop} (hS:Stp [b] w w'):PC b w tv l (Z1i l i c) G (.panicked [⟨Z4V (cur l i).pos c,false,false⟩]) w':=⟨rfl,hS⟩
theorem Z9C (b:Nat) (tv:Value) (l:List Tkn) (i o:Nat) (c:Int) (w w0:World) (hp:Pd w b tv l i o) (hS:Stp [b] w0 w) :
 Calls Tryz.prog 159 #[pQ b,.I c] w (λe w'=>e=.panicked [⟨Z4V (cur l i).pos c,false,false⟩]/\Stp [b] w0 w'):=
 (Zju b tv l i o c w hp).mono λe w' ⟨h1,h2⟩=>⟨h1,hS.trans h2.mn⟩
theorem PC.goes {α:Type} {b f:Nat} {args:Array Value} {w} {tv:Value} {l:List Tkn} {x:α} {i o:Nat} {r:Out α} {G:α->Value->World->Prop} (h:Calls Tryz.prog f args w (PC b w tv l r G)) (hr:r=.ok x i o):CC f args w λv w'=>G x v w'/\Pd w' b tv l i o/\Stp [b] w w':=by
 subst hr;exact h
theorem PC.falls {α:Type} {b f:Nat} {args:Array Value} {w w0:World} {tv:Value} {l:List Tkn} {a c:Int} {r:Out α} {G:α->Value->World->Prop} (h:Calls Tryz.prog f args w (PC b w tv l r G)) (hr:r=.err a c) (hS:Stp [b] w0 w):Calls Tryz.prog f args w (λe w'=>e=.panicked [⟨Z4V a c,false,false⟩]/\Stp [b] w0 w'):=by
 subst hr;exact h.mono λe w' ⟨h1,h2⟩=>⟨h1,hS.trans h2⟩
theorem JO (b:Nat) (tv:Value) (l:List Tkn) (hL:Z3P l) (s:Str) (ba:s≠[]) (i o:Nat) (w) (hp:Pd w b tv l i o) :
 Calls Tryz.prog 160 #[pQ b,str s] w (PC b w tv l (Z0P l s i o) (λ_ v _=>v=.tuple #[])):=by
 have hn:(cur l i).text=s->i+1<l.length:=λh=>hL.end_of hp.i_lt (by rw [h];exact ba)
 unfold Z0P;refine cW2 10 Tryz.func160 ?_;refine W ?_;refine CL (Z3U b tv l s i o _ hp hn) ?_;rintro _ w1 ⟨rfl,fB,ae⟩;by_cases h:(cur l i).text=s;rw [if_pos h] at fB ⊢;rw [decide_eq_true h];refine W ?_;refine WR ?_;exact PC.ok rfl fB ae;rw [if_neg h] at fB ⊢;rw [decide_eq_false h];refine W ?_;refine ZV rfl (Zg rfl rfl) (Z9C b tv l i o 20 _ w fB ae) rfl ?_;intro w2 jH;focus repeat'(first|refine Zj ?_|refine Zh ?_)
 refine ZH ?_;exact PC.fail jH
theorem Z4t (C:Str) (W:List Str) (h1:∀ i∈List.range (C.length+1),(C.drop i).head?=some 32->(C.drop (i+1)).takeWhile (λc=>decide (c≠32))∈W\/(C.drop (i+1)).takeWhile (λc=>decide (c≠32))=[])
 (h2:∀ t∈W,Lib.contains C (32 :: t++[32])=true) {t:Str} (h0:t≠[]) (hc:∀ c∈t,c≠32):Lib.contains C (32 :: t++[32])=decide (t∈W):=by
 by_cases ht:t∈W;rw [h2 t ht,decide_eq_true ht]
 . rw [decide_eq_false ht]
   unfold Lib.contains;rw [decide_eq_false_iff_not,Z6l];rintro ⟨i,hi,h⟩;cases hd:C.drop i with
   | nil=>rw [hd] at h;simp at h
   | cons a l=>
     rw [hd] at h;simp only [XA,List.isPrefixOf,Xl,beq_iff_eq] at h;obtain ⟨rfl,h⟩:=h;have hl:C.drop (i+1)=l:=by
      have:=congrArg List.tail hd;simpa [List.tail_drop] using this
     have hw:=Z6m t l hc h;have:=h1 i (YbJ.2 (by omega)) (by rw [hd];rfl);rw [hl,hw] at this;exact this.elim ht h0
def ZsK:Str:=[32,114,117,108,101,32,102,114,111,109,32,111,110,32,105,102,32,100,117,101,32,117,110,108,101,115,115,32,101,108,115,101,32,116,114,117,101,32,102,97,108,115,101,32,110,111,116,32,97,110,100,32,111,114,32,116,104,101,110,32,101,110,100,32,32,100,97,121,115,32,119,101,101,107,115,32,109,111,110,116,104,115,32,99,111,117,114,116,100,97,121,115,32,32,100,97,121,32,115,101,114,118,101,100,32,101,120,116,114,97,32,98,121,32,116,111,32,99,111,117,114,116,32,97,109,111,117,110,116,32,32,110,101,120,116,32,112,114,101,118,32,108,97,116,101,114,32,101,97,114,108,105,101,114,32,98,101,116,119,101,101,110,32]
def Zc6:Str:=[32,100,97,121,115,32,119,101,101,107,115,32,109,111,110,116,104,115,32,99,111,117,114,116,100,97,121,115,32]
def ZaG:Str:=[32,100,97,121,32,115,101,114,118,101,100,32,101,120,116,114,97,32,98,121,32,116,111,32,99,111,117,114,116,32,97,109,111,117,110,116,32]
def ZeU:Str:=[32,110,101,120,116,32,112,114,101,118,32,108,97,116,101,114,32,101,97,114,108,105,101,114,32,98,101,116,119,101,101,110,32]
theorem ZmE {t:Str} (h0:t≠[]) (hc:∀ c∈t,c≠32):Lib.contains ZsK (32 :: t++[32])=decide (t∈ZeP++Z4Q++Z35++Z4R):=Z4t ZsK _ (by decide +kernel) (by decide +kernel) h0 hc
theorem Zjv {t:Str} (h0:t≠[]) (hc:∀ c∈t,c≠32):Lib.contains Zc6 (32 :: t++[32])=decide (t∈Z4Q):=Z4t Zc6 _ (by decide +kernel) (by decide +kernel) h0 hc
theorem Zg1 {t:Str} (h0:t≠[]) (hc:∀ c∈t,c≠32):Lib.contains ZaG (32 :: t++[32])=decide (t∈Z35):=Z4t ZaG _ (by decide +kernel) (by decide +kernel) h0 hc
theorem Zjw {t:Str} (h0:t≠[]) (hc:∀ c∈t,c≠32):Lib.contains ZeU (32 :: t++[32])=decide (t∈Z4R):=Z4t ZeU _ (by decide +kernel) (by decide +kernel) h0 hc
theorem Z3e (C:Str) (ws:List Str) (hW:[]∉ws) (t:Str) (m:Int) (w:World) (hm:w.cell? ⟨2,0,none⟩=some (.I m)) (hC:C.length<=1000000) (oB:t.length<=4000)
 (qk:t≠[]->Lib.contains C (32 :: t++[32])=decide (t∈ws)) :
 CC 225 #[str C,str t] w λr w'=>r=.B (decide (t∈ws))/\Stp [] w w':=by
 refine cW2 14 Tryz.func225 ?_;by_cases h:t=[]
 . subst h
   refine QO ?_
   all_goals
    refine WR ?_;rw [decide_eq_false hW];exact .mk ⟨rfl,Stp.refl _ _⟩
 . have e1:Lib.contains C ([32]++t++[32])=decide (t∈ws):=qk h
   (refine QP ?_ ?_<;>intro hg)
   rotate_left
   exact absurd h (by assumption);refine Z0A rfl rfl (by simp;omega) rfl ?_;refine QO ?_;refine Z0A rfl rfl (by simp;omega) rfl ?_;refine QO ?_;refine CM (Zg rfl rfl) (Z5F C ([32]++t++[32]) m _ (by omega) hm) ?_;rintro _ w1 ⟨rfl,ae⟩;rw [e1];refine RT ?_;exact ⟨rfl,ae⟩
theorem Z4u (b:Nat) (tv:Value) (l:List Tkn) (hL:Z3P l) (k:Int) (hk:k≠0) (i o:Nat) (w) (hp:Pd w b tv l i o) :
 Calls Tryz.prog 162 #[pQ b,.I k] w (PC b w tv l (Z34 l k i o) (λt v _=>v=aG t)):=by
 obtain ⟨hb,hs,hi,hl,ho⟩:=id hp;have hn:(cur l i).kind=k->i+1<l.length:=λh=>hL.end_of_kind hi (by rw [h];exact hk)
 have aT:=hs.max;have ba:=hs;unfold Z34;rw [Z6n hi] at hn ⊢;refine cW2 30 Tryz.func162 ?_;refine W ?_;refine Z1 Z2 rfl ?_;rintro _ w0 ⟨b4,rfl,bC,e4,bz⟩;have n4:b4≠b:=by have:=hb.lt;omega
 replace hb:=hb.up bz;replace hs:=hs.up bz;refine W ?_;refine ZDr 12 [] [11] [(0,0),(1,0),(2,0),(3,1),(4,0),(5,0),(6,0),(7,1),(8,0),(9,1),(10,2),(11,2)] (λw1 ae=>?_);replace hb:=hb.up ae;replace hs:=hs.up ae;replace e4:=e4.up ae;replace bz:=bz.trans ae;clear ae;refine D ?_;refine Za rfl trivial Z2 (λ_ _ ⟨_,_,_,_,h⟩=>h) rfl ?_;rintro _ w2 ⟨b5,rfl,jS,e5,ah⟩;have n5:b5≠b:=by have:=hb.lt;omega
 have n54:b5≠b4:=by have:=e4.lt;omega
 refine JA rfl trivial (Zb (us:=Z3.enc l[i]) rfl rfl rfl rfl (Z3.one _) e5 rfl) rfl ?_;rintro _ w3 ⟨hT,e5⟩;have dK:=ah.ow hT;clear hT ah;replace hb:=hb.up dK;replace hs:=hs.up dK;replace e4:=e4.up dK;replace bz:=bz.trans dK;clear dK jS;refine D ?_;refine W ?_;have fM:Pd w3 b tv l i o:=⟨hb,hs,hi,hl,ho⟩
 by_cases h:l[i].kind=k;rw [if_pos h];have bJ:=hn h;refine QO ?_;refine Z4 (Zc (u:=.I ((i+1:Nat):Int)) rfl (by show some _=some _;simp) rfl rfl hb (by simp)) ?_;rintro _ w4 ⟨hT,cr⟩;replace e4:=e4.ext hT (by simpa using n4);replace e5:=e5.ext hT (by simpa using n5);replace hs:=hs.ext (X':=[b]) hT (λc hc=>hc) (λc hc=>.inl hc);refine W ?_;refine SA (us:=Z3.enc l[i]) e4 ?_;rintro _ w5 ⟨dX,e4⟩;refine W ?_;refine Zk (cs:=Z3.enc l[i]) rfl rfl rfl e4 rfl ?_;have iN:=(bz.mn.trans hT).ow dX;exact PC.ok rfl ⟨cr.ext dX (by simpa using n4.symm),ba.ext iN (λc hc=>hc) (λc hc=>.inl hc),bJ,hl,ho⟩ iN;rw [if_neg h];refine QO ?_;refine ZV rfl (Zg rfl rfl) (Z9C b tv l i o 20 _ w fM bz.mn) rfl ?_;intro w2 jH;focus repeat'(first|refine Zj ?_|refine Zh ?_)
 refine ZH ?_;exact PC.fail jH
theorem Jy {w w':World} {b:Nat} {m:Int} (hm:w.cell? ⟨2,0,none⟩=some (.I m)) (hb:b≠2) (hS:Stp [b] w w'):w'.cell? ⟨2,0,none⟩=some (.I m):=
 hS.cell (by simpa using λh=>hb h.symm) hm
theorem ZmF (t:Tkn) (w):(Instr.field 183 (aG t) 2).run Tryz.prog w=.ok (str t.text) w:=by kernel_rfl
theorem ZsL (t:Tkn) (w):(Instr.field 183 (aG t) 3).run Tryz.prog w=.ok (.I t.num) w:=by kernel_rfl
theorem Z5G (b:Nat) (tv:Value) (l:List Tkn) (hL:Z3P l) (i o:Nat) (m:Int) (w:World) (hm:w.cell? ⟨2,0,none⟩=some (.I m)) (hp:Pd w b tv l i o) :
 Calls Tryz.prog 161 #[pQ b] w (PC b w tv l (Z2k l i o) (λs v _=>v=str s)):=by
 unfold Z2k;refine cW1 11 Tryz.func161 ?_;refine W ?_;refine CL (Z0S b tv l i o _ hp) ?_;rintro _ w1 ⟨rfl,ae⟩;have fB:=hp.up ae;refine W ?_;refine CM (Zg rfl rfl) (Z3e ZsK (ZeP++Z4Q++Z35++Z4R) (by decide +kernel) (cur l i).text m _ (ae.cell (by simp) hm) (by decide +kernel) (hL.tl i) (λh=>ZmE h (hL.sp i))) ?_;rintro _ w2 ⟨rfl,ah⟩;have gV:=fB.up ah;have hS:=(ae.trans ah).mono (S':=[b]) (by simp);by_cases h:(cur l i).text∈ZeP++Z4Q++Z35++Z4R;rw [if_pos h,decide_eq_true h];refine W ?_;refine ZV rfl (Zg rfl rfl) (Z9C b tv l i o 20 _ w gV hS) rfl ?_;intro w3 mQ;focus repeat'(first|refine Zj ?_|refine Zh ?_)
 refine ZH ?_;exact PC.fail mQ
 . rw [if_neg h,decide_eq_false h]
   refine W ?_;cases hr:Z34 l 1 i o with
   | err a c=>
     refine ZV rfl (Zg rfl rfl) (PC.falls (Z4u b tv l hL 1 (by decide) i o _ gV) hr hS) rfl ?_;intro w3 mQ;repeat'(first|refine Zj ?_|refine Zh ?_)
     refine ZH ?_;exact PC.err mQ
   | ok t i1 o1=>
     refine CM (Zg rfl rfl) (PC.goes (Z4u b tv l hL 1 (by decide) i o _ gV) hr) ?_;rintro _ w3 ⟨rfl,fM,am⟩;refine Z9 (ZbR rfl (ZmF t)) rfl ?_;refine W ?_;refine WR ?_;exact PC.ok rfl fM (hS.trans am)
theorem Zc7 (s:Str) (w):CC 280 #[str s] w λr w'=>r=.I (Z6f s:Int)/\w'=w:=by
 unfold Z6f;refine cW1 20 Tryz.func280 ?_;repeat'(first|refine W1 ?_|omega|refine VG ?_ ?_<;>intro hg|refine VC ?_ ?_<;>intro hc)
 all_goals refine WR ?_
 all_goals refine .mk ⟨?_,rfl⟩
 all_goals simp_all
abbrev Zc8 (w:World):Prop:=Lib.TabIs Tryz.prog w "internal/strconv.uint64pow10" .u64 Lib.pow10Tab
theorem Zc8.up {w w':World} (h:Zc8 w) (hS:Stp [] w w'):Zc8 w':=by
 unfold Zc8 Lib.TabIs World.var? at *;cases hg:Program.globalNamed Tryz.prog "internal/strconv.uint64pow10" with
 | none=>rw [hg] at h;simp at h
 | some g=>
   rw [hg] at h;simp only [XS] at h ⊢;have ag:g<w.heap.size:=by
    by_cases hl:g<w.heap.size;exact hl;rw [Yah (by omega)] at h;simp at h
   rw [hS.block g ag (by simp)];exact h
theorem Zjx (n:Int) (w) (h0:-9223372036854775808<=n) (h1:n<=9223372036854775807) (hT:Zc8 w):CC 62 #[.I n] w λr w'=>r=str (Lib.itoa n)/\Stp [] w w':=by
 refine (Tryz.strconv_Itoa n h0 h1 w hT).mono ?_;rintro e w' ⟨rfl,k,os,rfl⟩;refine .mk ⟨rfl,?_⟩;exact Stp.of_below ⟨rfl,rfl,rfl,by simp [Go.Sort.grow,World.drewN],λi hi=>by simp [Go.Sort.grow,World.drewN,Array.getElem?_append,hi]⟩
theorem Z71 (c:UInt8):∀ k:Nat,Lib.repeatL [c] k=List.replicate k c
 | 0=>rfl
 | k+1=>by rw [Lib.repeatL,Z71 c k,Yay];rfl
theorem ZdQ (c:UInt8) (k:Int) (w) (h0:0<=k) (h1:k<=140737488355328):CC 63 #[str [c],.I k] w λr w'=>r=str (List.replicate k.toNat c)/\Stp [] w w':=by
 obtain ⟨m,rfl⟩:∃ m:Nat,k=(m:Int):=⟨k.toNat,by omega⟩
 refine (Tryz.strings_Repeat ⟨#[c]⟩ m w (by omega) (by simp [ByteArray.size];omega)).mono ?_;rintro e w' ⟨rfl,hB⟩;refine .mk ⟨?_,Stp.of_below hB⟩;show Value.string ⟨_⟩=Value.string ⟨_⟩;rw [show ([c]:List UInt8)=(⟨#[c]⟩:ByteArray).data.toList from rfl,Z71];rfl
theorem ZaH (n wd:Int) (w) (h0:0<=n) (h1:n<=9999) (hw:0<=wd) (jH:wd<=4) (hl:((Lib.itoa n).length:Int)<=wd) (hT:Zc8 w):CC 61 #[.I n,.I wd] w λr w'=>r=str (Z6k wd.toNat (Lib.itoa n))/\Stp [] w w':=by
 refine cW2 15 Tryz.func61 ?_;refine W ?_;refine Z1 (Z6 rfl (ZP rfl) (Zjx n _ (by omega) (by omega) hT)) rfl ?_;rintro _ w1 ⟨rfl,hS⟩;refine W ?_;refine Z1 (Z6 rfl (Zg rfl rfl) (ZdQ 48 _ _ (by omega) (by omega))) rfl ?_;rintro _ w2 ⟨rfl,ah⟩;refine W ?_;refine Z0A rfl rfl (by simp;omega) rfl ?_;refine W ?_;refine WR ?_;refine .mk ⟨?_,hS.trans ah⟩;unfold Z6k;congr 3;omega
theorem Z7w (n:Int) (w) (h0:0<=n) (h1:n<=3652058):CC 60 #[.I n] w λr w'=>r=.tuple #[Zjr (ofM n).y (ofM n).m (ofM n).d,.I 0]/\Stp [] w w':=by
 refine cW1 73 Tryz.func60 ?_;refine W ?_;refine Z1 Z2 rfl ?_;rintro _ w1 ⟨b2,rfl,cr,e2',hS⟩;have sD:=hS.size;refine QO ?_;unfold ofM;simp only;have lP:=Ya3 (n+306) (b:=146097) (by decide);have fu:=YaR (n+306) (b:=146097) (by decide);have he:(n+306) / 146097<=25/\0<=(n+306) / 146097:=by omega
 generalize (n+306) % 146097=doe at *;generalize (n+306) / 146097=era at *;obtain ⟨yoe,doy,e1,e2,hy,hd,-⟩:=Zjm doe lP fu;simp only [e1,e2];have sS:0<=(5 * (doy:Int)+2) / 153/\(5 * (doy:Int)+2) / 153<=11:=by omega
 refine QO ?_;refine Z8 (vs:=[(0,.I _),(1,.I _),(2,.I _)]) rfl (Z5E _ _ _) rfl ?_;refine Z1 Z2 rfl ?_;rintro _ w2 ⟨b10,rfl,ea,e10,hT⟩;have n2:b10≠b2:=by have:=e2'.lt;omega
 replace e2':=e2'.up hT;replace hS:=hS.trans hT;refine SB (us:=[.I _,.I _,.I _]) (by simp;exact ⟨rfl,rfl,rfl⟩) e10 ?_;rintro _ w3 ⟨hT,e10'⟩;replace e2':=e2'.ext hT (by simpa using n2.symm);replace hS:=hS.own hT (λc hc=>.inr (by simp at hc;have:=hS.size;omega));clear e10 hT
 (refine QP ?_ ?_<;>intro hc)
 rename_i hc;refine Z4 (Zc (u:=.I ((yoe:Int)+400 * era+1)) rfl rfl rfl rfl e10' (by simp)) ?_;rintro _ w4 ⟨hT,e10⟩;replace e10:Blk w4 b10 132 [.I ((yoe:Int)+400 * era+1),.I ((5 * (doy:Int)+2) / 153+3),.I ((doy:Int) - (153 * ((5 * (doy:Int)+2) / 153)+2) / 5+1)]:=e10;replace e2':=e2'.ext hT (by simpa using n2.symm);replace hS:=hS.ow hT;clear e10' hT;refine W ?_;refine Z4 (Zc (u:=.I ((5 * (doy:Int)+2) / 153 - 9)) rfl rfl rfl rfl e10 (by simp)) ?_;rintro _ w5 ⟨hT,e10'⟩;replace e10':Blk w5 b10 132 [.I ((yoe:Int)+400 * era+1),.I ((5 * (doy:Int)+2) / 153 - 9),.I ((doy:Int) - (153 * ((5 * (doy:Int)+2) / 153)+2) / 5+1)]:=e10';replace e2':=e2'.ext hT (by simpa using n2.symm);replace hS:=hS.ow hT;clear e10 hT;refine W ?_;refine Z4 (Zb (us:=[.I _,.I _,.I _]) rfl rfl rfl rfl (by simp;exact ⟨rfl,rfl,rfl⟩) e2' rfl) ?_;rintro _ w6 ⟨hT,e2⟩;replace hS:=hS.ow hT;refine W ?_;refine Zl rfl rfl rfl e2 rfl rfl ?_;refine .mk ⟨?_,hS⟩;rw [if_pos (by omega)];rename_i hc;refine Z4 (Zb (us:=[.I _,.I _,.I _]) rfl rfl rfl rfl (by simp;exact ⟨rfl,rfl,rfl⟩) e2' rfl) ?_;rintro _ w6 ⟨hT,e2⟩;replace hS:=hS.ow hT;refine W ?_;refine Zl rfl rfl rfl e2 rfl rfl ?_;refine .mk ⟨?_,hS⟩;rw [if_neg (by omega)]
theorem ZdR (n:Int) (w) (h0:0<=n) (h1:n<=3652058) (hT:Zc8 w):CC 30 #[.I n] w λr w'=>r=str (Z2J n)/\Stp [] w w':=by
 obtain ⟨g1,g2,g3,g4,g5,g6,g7⟩:=Z5f h0 h1;have g8:=Z1k (ofM n).y (ofM n).m;have bW:∀ (z:Int) (k:Nat),0<=z->z<((10 ^ (k+1):Nat):Int)->(Lib.itoa z).length<=k+1:=λz k hz h=>by
  unfold Lib.itoa;rw [if_neg (by omega)];exact Z0R k z.toNat (by omega)
 have ly:=bW (ofM n).y 3 (by omega) (by omega);have lm:=bW (ofM n).m 1 (by omega) (by omega);have ld:=bW (ofM n).d 1 (by omega) (by omega);clear bW g7;unfold Z2J;have uN:=Z7w n w h0 h1;generalize ofM n=dd at *;refine cW1 29 Tryz.func30 ?_;refine W ?_;refine Z1 (Z6 rfl (ZP rfl) uN) rfl ?_;rintro _ w1 ⟨rfl,hS⟩;refine W ?_;refine Z1 Z2 rfl ?_;rintro _ w2 ⟨b3,rfl,dV,e3,bZ⟩;have hw:=hS.size;replace hS:=hS.trans bZ;clear bZ;refine SB (us:=[.I dd.y,.I dd.m,.I dd.d]) (by simp;exact ⟨rfl,rfl,rfl⟩) e3 ?_;rintro _ w3 ⟨bZ,e3'⟩;replace hS:=hS.ow bZ;clear e3 bZ;refine QO ?_;refine ZDr 17 [] [] [(0,0),(1,0),(2,1),(5,0),(6,0),(7,1),(11,0),(12,0),(13,1),(3,2),(4,0),(8,2),(9,0),(10,0),(14,2),(15,0),(16,0)] (λw1 ae=>?_);replace e3':=e3'.up ae;replace hS:=hS.trans ae;clear ae;refine D ?_;have hp:=ZaH dd.y 4 w1 (by omega) (by omega) (by omega) (by omega) (by omega) (hT.up hS);refine DC hp (λ_ _ h=>h.2) ?_;clear hp;rintro _ w5 ⟨rfl,bZ⟩;replace e3':=e3'.up bZ;replace hS:=hS.trans bZ;clear bZ;refine JK rfl trivial (λ_=>Z4l rfl rfl (by simp [Z6k];omega)) rfl ?_;refine D ?_;have hp:=ZaH dd.m 2 w5 (by omega) (by omega) (by omega) (by omega) (by omega) (hT.up hS);refine DC hp (λ_ _ h=>h.2) ?_;clear hp;rintro _ w6 ⟨rfl,bZ⟩;replace e3':=e3'.up bZ;replace hS:=hS.trans bZ;clear bZ;refine JK rfl trivial (λ_=>Z4l rfl rfl (by simp [Z6k];omega)) rfl ?_;refine JK rfl trivial (λ_=>Z4l rfl rfl (by simp [Z6k];omega)) rfl ?_;refine D ?_;have hp:=ZaH dd.d 2 w6 (by omega) (by omega) (by omega) (by omega) (by omega) (hT.up hS);refine DC hp (λ_ _ h=>h.2) ?_;clear hp;rintro _ w7 ⟨rfl,bZ⟩;replace e3':=e3'.up bZ;replace hS:=hS.trans bZ;clear bZ;refine JK rfl trivial (λ_=>Z4l rfl rfl (by simp [Z6k];omega)) rfl ?_;refine D ?_;refine RT ?_;exact ⟨rfl,hS⟩
theorem Z4W (n:Int) (w) (h0:0<=n) (h1:n<=9223372036854775807):CC 31 #[.I n] w λr w'=>r=str (Lib.itoa n)/\Stp [] w w':=by
 obtain ⟨u,rfl⟩:∃ u:Nat,n=(u:Int):=⟨n.toNat,by omega⟩
 have oD:Lib.itoa (u:Int)=Lib.decDigits u:=by unfold Lib.itoa;rw [if_neg (by omega)];rfl
 rw [oD];have ai:(Lib.decDigits u).length<=19:=Z0R 18 u (by omega);refine cW1 32 Tryz.func31 ?_;by_cases hz:(u:Int)=0;obtain rfl:u=0:=by omega
 focus repeat'(first|refine W1 ?_|omega|refine VG ?_ ?_<;>intro hg|refine VC ?_ ?_<;>intro hc)
 refine RU ?_;exact ⟨by rw [Lib.decDigits];rfl,Stp.refl _ _⟩;focus repeat'(first|refine W1 ?_|omega|refine VG ?_ ?_<;>intro hg|refine VC ?_ ?_<;>intro hc)
 refine Zt (σ:=Nat×Str) (λq=>[(0,.I (u:Int)),(3,str [48,49,50,51,52,53,54,55,56,57]),(4,str q.2),(5,.I (q.1:Int))]) (λq w'=>w'=w/\q.1<=u/\(if q.1=0 then [] else Lib.decDigits q.1)++q.2=Lib.decDigits u) (λq=>q.1) (u,[]) ⟨rfl,rfl,rfl,rfl,trivial⟩ ⟨rfl,Xn _,by simp only;rw [if_neg (by omega)];simp⟩ ?_;rintro ⟨k,s⟩ w1 ⟨rfl,hk,he⟩;dsimp only at hk he ⊢;have ax:s.length<=19:=by
  have:=congrArg List.length he;simp only [Xc] at this;omega
 by_cases fc:(k:Int)=0;obtain rfl:k=0:=by omega
 focus repeat'(first|refine W1 ?_|omega|refine VG ?_ ?_<;>intro hg|refine VC ?_ ?_<;>intro hc)
 refine RU ?_;exact ⟨by simpa using congrArg str he,Stp.refl _ _⟩;have ay:=Zjn k (by omega);rw [if_neg (by omega),ay,Xy] at he;focus repeat'(first|refine W1 ?_|omega|refine VG ?_ ?_<;>intro hg|refine VC ?_ ?_<;>intro hc)
 refine Z9 (Z2Y (l:=k % 10) (r:=k % 10+1) rfl rfl rfl (by omega) (by omega) (by omega) (by show k % 10+1<=10;omega)) rfl ?_;rw [ZfW (k % 10) (by omega)];refine W ?_;refine Z0A rfl rfl (by simp;omega) rfl ?_;refine W ?_;refine Zx (k / 10,[UInt8.ofNat (48+k % 10)]++s) ⟨rfl,rfl,rfl,by simp only [Int.natCast_ediv];rfl,trivial⟩ ⟨rfl,by dsimp only;omega,by dsimp only;exact he⟩ (by dsimp only;omega)
end Go.Proofs.YtipfkbkkndacjaaGreatDoor
namespace Go.Eng
open Go Go.RowKit Go.Proofs
section
variable {P:Program} {n:Nat} {Q:Exit->Act->World->Prop} {e:Env} {w:World} {ops:Array Oper} {S:List Nat} {Lt:List Nat} {rest:List (Nat×Nat)}
theorem Zg2 {i d:Nat} {ty:TypeId} {pos:String} {af:Array Edge} {gd:Option (Nat×Bool)} {f:Nat} {fn:Func} {xs:Array Operand} {ts:Array TypeId} {vs:Array Value} {c:Operand} {ch:List PanicEntry} {F:World->Prop} [hf:Fun P f fn]
 (hi:ops[i]?=some ⟨some d,.call { callee:=.value c,args:=xs,argTypes:=ts },ty,pos,af,gd⟩) (hg:Z08 ops e gd)
 (hc:ev e c=some (.func (.func f) #[] #[])) (hv:∀ a,Has n e a->xs.map a.eval=vs) (h:Calls P f vs w (λe w'=>e=.panicked ch/\F w')) (aw:Nat.blt d n=true) (k:∀ w',F w'->WQ n Q (.panic ch) [] w'):WDq P n ops S Lt Q ((i,2) :: rest) e w:=
 Zja (G:=λ_ _=>False) (F:=λch' w'=>ch'=ch/\F w') hi hg (Z7V hc hv (h.mono λe w' ⟨h1,h2⟩=>by rw [h1];exact .pan ⟨rfl,h2⟩)) (λ_ _ h=>h.elim) aw (λch' w' ⟨h1,h2⟩=>by subst h1;exact k w' h2) (λ_ _ h=>h.elim)
end
end Go.Eng
namespace Go.Proofs.YtipfkbkkndacjaaGreatDoor
open Go Go.Eng Go.RowKit Go.Proofs
def Zjy (f:Nat):Prop:=∀ (l:List Tkn) (hL:Z3P l) (m:Int) (c:Eng.Call) (i o:Nat) (r:Out Nd),J8 l f c i o=some r->
 ∀ (X:List Nat) (b:Nat) (tv:Value) (w:World),b≠2->b∈X->(∀ c∈X,c<w.heap.size)->w.cell? ⟨2,0,none⟩=some (.I m)->Pd w b tv l i o->
 match c with
 | .expr k=>1<=k->k<=8->Calls Tryz.prog 226 #[pQ b,.I (k:Int)] w (PC b w tv l r (λx v w'=>NdV X w' v x))
 | .prim=>Calls Tryz.prog 279 #[pQ b] w (PC b w tv l r (λx v w'=>NdV X w' v x))
 | .loop _ _=>True
theorem ZsM (s:Str) (p:Option Addr) (l c:Nat) (w):(Instr.build 97 #[(0,.I 6),(2,str s),(3,.slice p l c)]).run Tryz.prog w=.ok (.agg #[.I 6,.I 0,str s,.slice p l c]) w:=by kernel_rfl
theorem Z9D:([]:Str)∉Z4Q:=by decide
theorem Zg3:Zc6.length<=1000000:=by decide
theorem Zc9 (t:Str) (m:Int) (w:World) (hm:w.cell? ⟨2,0,none⟩=some (.I m)) (oB:t.length<=4000) (bD:∀ c∈t,c≠32) :
 CC 225 #[str Zc6,str t] w λr w'=>r=.B (decide (t∈Z4Q))/\Stp [] w w':=
 Z3e Zc6 Z4Q Z9D t m w hm Zg3 oB (λh=>Zjv h bD)
theorem Zw5 (f:Nat) (IH:∀ f'<=f,Zjy f') (l:List Tkn) (hL:Z3P l) (m:Int) (k i o:Nat) (r:Out Nd) (bF:1<=k) (hk:k<=7) (bD:¬ ((k=3/\(cur l i).text=[110,111,116])\/(k=7/\(cur l i).text=[45])))
 (h : (match J8 l f (.expr (k + 1)) i o with
   | none=>none
   | some (.err a c)=>some (.err a c)
   | some (.ok x i' o')=>J8 l f (.loop k x) i' o')=some r) (X:List Nat) (b:Nat) (tv:Value) (w:World) (aW:b≠2) (bQ:b∈X) (hX:∀ c∈X,c<w.heap.size) (hm:w.cell? ⟨2,0,none⟩=some (.I m)) (hp:Pd w b tv l i o) :
 Calls Tryz.prog 226 #[pQ b,.I (k:Int)] w (PC b w tv l r (λx v w'=>NdV X w' v x)):=by
 have ba:=hp.2.1;refine cW2 98 Tryz.func226 ?_;refine W ?_;refine Z1 Z2 rfl ?_;rintro _ w1 ⟨b4,rfl,bC,e4,hS⟩;have n4:b4≠b:=by have:=hp.lt;omega
 replace hm:=hS.cell (by simp) hm;replace hp:=hp.up hS;have gW:∀ c∈X,c<w1.heap.size:=λc hc=>Xa (hX c hc) hS.size;refine Z2U ?_;refine Z4g ?_
 refine Zht (σ:=Unit) (λ_=>[(0,pQ b),(1,.I (k:Int)),(4,pQ b4)])
  (λ_ w'=>Pd w' b tv l i o/\(∃ cs:List Value,cs.length=4/\Blk w' b4 97 cs)/\w'.cell? ⟨2,0,none⟩=some (.I m)/\Stp [] w w') ?_ ?_
 by_cases k3:k=3
 . subst k3
   have ht:¬ (cur l i).text=[110,111,116]:=λe=>bD (.inl ⟨rfl,e⟩);refine W ?_;refine CL (Z0S b tv l i o _ hp) ?_;rintro _ w2 ⟨rfl,hT⟩;replace hp:=hp.up hT;replace e4:=e4.up hT;replace hm:=hT.cell (by simp) hm;replace hS:=hS.trans hT;repeat'(first|refine W1 ?_|omega|refine VG ?_ ?_<;>intro hg|refine VC ?_ ?_<;>intro hc)
   all_goals try exact absurd (by assumption) ht
   exact QT () ⟨hp,⟨_,rfl,e4⟩,hm,hS⟩
 by_cases k7:k=7
 . subst k7
   have ht:¬ (cur l i).text=[45]:=λe=>bD (.inr ⟨rfl,e⟩);refine W ?_;refine CL (Z0S b tv l i o _ hp) ?_;rintro _ w2 ⟨rfl,hT⟩;replace hp:=hp.up hT;replace e4:=e4.up hT;replace hm:=hT.cell (by simp) hm;replace hS:=hS.trans hT
   (refine QP ?_ ?_<;>intro hc)
   all_goals try exact absurd (by assumption) ht
   exact QT () ⟨hp,⟨_,rfl,e4⟩,hm,hS⟩
 refine QO ?_;exact QT () ⟨hp,⟨_,rfl,e4⟩,hm,hS⟩;clear hp e4 hm hS;rintro _ w2 ⟨hp,⟨cs4,fg,e4⟩,hm,hS⟩;have l4:=e4.lt;have ql:∀ c∈b4 :: X,c<w2.heap.size:=λc hc=>by
  rcases Xb.1 hc with rfl|h
  exact l4;exact Xa (hX c h) hS.size
 refine W ?_;cases hE:J8 l f (.expr (k+1)) i o with
 | none=>rw [hE] at h;simp at h
 | some r1=>
   rw [hE] at h;have bE:=IH f (Xn _) l hL m (.expr (k+1)) i o r1 hE (b4 :: X) b tv w2 aW (XJ _ bQ) ql hm hp (by omega) (by omega);cases r1 with
   | err a c=>
     simp only [XI] at h;subst h;refine ZV rfl (Zg rfl rfl) (PC.falls bE rfl hS.mn) rfl ?_;intro w3 mQ;repeat'(first|refine Zj ?_|refine Zh ?_)
     refine ZH ?_;exact PC.err mQ
   | ok x i1 o1=>
     simp only at h;refine CL (PC.goes bE rfl) ?_;rintro _ w3 ⟨⟨kx,rfl,hx⟩,fM,hT⟩;replace e4:=e4.ext hT (by simpa using n4);replace hm:=Jy hm aW hT;have sT:∀ c∈b4 :: X,c<w3.heap.size:=λc hc=>Xa (ql c hc) hT.size;have am:=(hS.mono (S':=[b]) (by simp)).trans hT;clear hT hS hp ql bE;refine Z1 Z2 rfl ?_;rintro _ w4 ⟨b7,rfl,fb,e7,hT⟩;have n74:b7≠b4:=by have:=e4.lt;omega
     have n7b:b7≠b:=by have:=fM.lt;omega
     have n71:b7≠2:=by have:=block_lt_of_cell hm;simp at this;omega
     refine SB (us:=ndC x kx) (Zi hx) e7 ?_;rintro _ w5 ⟨aq,e7'⟩;replace hT:=hT.ow aq;clear aq e7;have qm:w.heap.size<=b7:=Xg am.size fb;have je:w.heap.size<=b4:=bC;replace e4:=e4.up hT;replace fM:=fM.up hT;replace hm:=hT.cell (by simp) hm;replace hx:SlV (b7 :: b4 :: X) w5 kx x.kids:=hx.ext hT (by simp) (λc hc=>by
      rcases Xb.1 hc with rfl|h
      exact .inr fb;exact .inl h)
     have aD:=am.trans hT.mn;clear hT am;have l7:=e7'.lt;have sU:∀ c∈b7 :: b4 :: X,c<w5.heap.size:=λc hc=>by
      rcases Xb.1 hc with rfl|h
      exact l7;have:=sT c h;omega
     refine W ?_;clear sT hE
     refine Zt (σ:=Nat×Nd×Value×Nat×Nat) (λq=>[(0,pQ b),(1,.I (k:Int)),(4,pQ b4),(7,pQ b7)])
      (λq w'=>J8 l q.1 (.loop k q.2.1) q.2.2.2.1 q.2.2.2.2=some r/\q.1<=f/\Pd w' b tv l q.2.2.2.1 q.2.2.2.2/\Blk w' b7 97 (ndC q.2.1 q.2.2.1)/\SlV (b7 :: b4 :: X) w' q.2.2.1 q.2.1.kids/\(∃ cs:List Value,cs.length=4/\Blk w' b4 97 cs)/\w'.cell? ⟨2,0,none⟩=some (.I m)/\Stp [b] w w'/\w5.heap.size<=w'.heap.size)
      (λq=>q.1) (f,x,kx,i1,o1) ⟨rfl,rfl,rfl,rfl,trivial⟩ ⟨h,Xn _,fM,e7',hx,⟨cs4,fg,e4⟩,hm,aD,Xn _⟩ ?_
     clear h fM e7' hx e4 hm aD l4 l7 fg cs4;rintro ⟨f1,y,ky,i2,o2⟩ w6 ⟨h,qn,hp,e7,hy,⟨cs4,fg,e4⟩,hm,hS,jf⟩;dsimp only at h qn hp e7 hy ⊢
     match cs4,fg with
     | [q0,q1,q2,q3],_=>
     cases f1 with
     | zero=>simp [J8] at h
     | succ f1=>
     rw [J8] at h;refine W ?_;refine CL (Z0S b tv l i2 o2 _ hp) ?_;rintro _ w7 ⟨rfl,hT⟩;replace hp:=hp.up hT;replace e4:=e4.up hT;replace e7:=e7.up hT;replace hy:=hy.up hT;replace hm:=hT.cell (by simp) hm;replace hS:=hS.trans hT.mn;replace jf:=Xg jf hT.size;clear hT;refine W ?_;refine CL (Zc7 _ _) ?_;rintro _ _ ⟨rfl,rfl⟩;by_cases kj:Z6f (cur l i2).text=k
     . rw [if_pos kj] at h
       have bJ:=hL.end_of hp.i_lt (Z7Y kj bF);refine QO ?_;refine CL (Z0S b tv l i2 o2 _ hp) ?_;rintro _ w8 ⟨rfl,hT⟩;replace hp:=hp.up hT;replace e4:=e4.up hT;replace e7:=e7.up hT;replace hy:=hy.up hT;replace hm:=hT.cell (by simp) hm;replace hS:=hS.trans hT.mn;replace jf:=Xg jf hT.size;clear hT;obtain ⟨dm,bK,gG,cq,fh⟩:=id hp;refine W ?_;refine Z4 (Zc (u:=.I ((i2+1:Nat):Int)) rfl (by show some _=some _;simp) rfl rfl dm (by simp)) ?_;rintro _ w9 ⟨hT,dr⟩;replace bK:=bK.ext (X':=[b]) hT (λc hc=>hc) (λc hc=>.inl hc);replace e4:=e4.ext hT (by simpa using n4);replace e7:=e7.ext hT (by simpa using n7b);replace hy:=hy.ext (X':=b7 :: b4 :: X) hT (λc hc=>by simp at hc;subst hc;simp [bQ]) (λc hc=>.inl hc);replace hm:=Jy hm aW hT;replace hS:=hS.trans hT;replace jf:=Xg jf hT.size;replace hp:Pd w9 b tv l (i2+1) o2:=⟨dr,bK,bJ,cq,fh⟩
       clear hT dr bK gG cq fh dm;refine W ?_;have qo:∀ c∈b7 :: b4 :: X,c<w9.heap.size:=λc hc=>Xa (sU c hc) jf;cases hE:J8 l f1 (.expr (k+1)) (i2+1) o2 with
       | none=>rw [hE] at h;simp at h
       | some r2=>
         rw [hE] at h;cases r2 with
         | err a c=>
           simp only [XI] at h;subst h;refine Z9q 9 ([b]) [8] [(0,0),(1,1),(2,0),(3,0),(4,0),(5,2),(6,2),(7,0),(8,2)] rfl mixed (by kernel_rfl) (by kernel_rfl) (by kernel_rfl) (λw1 ae=>?_);replace hp:=hp.up ae;replace e7:=e7.up ae;replace hm:=ae.cell (by simp) hm;replace hS:=hS.trans ae.mn;have bE:=IH f1 (by omega) l hL m (.expr (k+1)) (i2+1) o2 _ hE (b7 :: b4 :: X) b tv w1 aW (by simp [bQ]) (λc hc=>Xa (qo c hc) ae.size) hm hp (by omega) (by omega);refine JI rfl trivial (λ_=>ZZ rfl) rfl ?_;refine Z5x rfl trivial (λw' hw=>J2 rfl rfl (e7.ext hw (by simpa using n7b)) rfl) rfl ?_;refine JI rfl trivial (λ_=>ZZ rfl) rfl ?_;refine JI rfl trivial (λ_=>ZZ rfl) rfl ?_;refine JI rfl trivial (λ_=>Zdh rfl rfl (by unfold I64;omega)) rfl ?_;refine Zg2 rfl trivial rfl (Zg rfl rfl) (PC.falls bE rfl hS) rfl ?_;intro wz bT;repeat'(first|refine Zj ?_|refine Zh ?_)
           refine ZH ?_;exact PC.err bT
         | ok z i3 o3=>
           simp only at h;refine ZDr 9 ([b]) [8] [(0,0),(1,1),(2,0),(3,0),(4,0),(5,2),(6,2),(7,0),(8,2)] (λw1 ae=>?_);replace hp:=hp.up ae;replace e7:=e7.up ae;replace hy:=hy.up ae;replace e4:=e4.up ae;replace hm:=ae.cell (by simp) hm;replace hS:=hS.trans ae.mn;have sV:=Xg jf ae.size;have gW:∀ c∈b7 :: b4 :: X,c<w1.heap.size:=λc hc=>Xa (qo c hc) ae.size;have bE:=IH f1 (by omega) l hL m (.expr (k+1)) (i2+1) o2 _ hE (b7 :: b4 :: X) b tv w1 aW (by simp [bQ]) gW hm hp (by omega) (by omega);clear ae qo jf;refine D ?_;refine DC (PC.goes bE rfl) (λ_ _ h=>h.2.2) ?_;rintro _ w10 ⟨⟨kz,rfl,hz⟩,bU,hT⟩;replace e4:=e4.ext hT (by simpa using n4);replace e7:=e7.ext hT (by simpa using n7b);replace hy:=hy.ext (X':=b7 :: b4 :: X) hT (λc hc=>by simp at hc;subst hc;simp [bQ]) (λc hc=>.inl hc);replace hm:=Jy hm aW hT;replace hS:=hS.trans hT;have mR:=Xg sV hT.size;have mS:∀ c∈b7 :: b4 :: X,c<w10.heap.size:=λc hc=>Xa (gW c hc) hT.size;clear hT hp gW sV bE;obtain ⟨py,cy,rfl,-⟩:=id hy;obtain ⟨pz,cz,rfl,-⟩:=id hz;refine Za rfl trivial (Z0 (vs:=[(0,.agg (ndC y (.slice py y.kids.length cy)).toArray),(1,.agg (ndC z (.slice pz z.kids.length cz)).toArray)]) rfl (Jr _ _ _ _ _ _ _ _ _ _ _ _)) (λ_ _ h=>(Z5.stp h).mn) rfl ?_;intro bv w11 hN;have an:SlV (b7 :: b4 :: X) w11 bv [y,z]:=hN.slvG (css:=[ndC y _,ndC z _]) mS rfl rfl rfl (Z1t hy hz) (by simp [maxLen]);obtain ⟨bn,rfl,lO,-,hT⟩:=id hN;replace bU:=bU.up hT;replace e4:=e4.up hT;replace e7:=e7.up hT;replace hm:=hT.cell (by simp) hm;replace hS:=hS.trans hT.mn;have mT:=Xg mR hT.size;clear hT hN mS mR hy hz;refine Z2D rfl trivial (vs:=[(0,.I 6),(2,str (cur l i2).text),(3,.slice (some ⟨bn,0,none⟩) 2 2)]) rfl (ZsM _ _ _ _) rfl ?_;refine JA rfl trivial (Zb (us:=ndC (.mk 6 0 (cur l i2).text [y,z]) (.slice (some ⟨bn,0,none⟩) 2 2)) rfl rfl rfl rfl (Zi an) e7 rfl) rfl ?_;rintro _ w12 ⟨hT,e7'⟩;have gH:∀ S:List Nat,S=[b7]->∀ c∈S,w.heap.size<=c:=λS hS c hc=>by subst hS;simp at hc;subst hc;exact qm
           replace e4:=e4.ext hT (by simpa using n74.symm);replace bU:Pd w12 b tv l i3 o3:=by
            obtain ⟨g1,g2,g3,g4,g5⟩:=bU;have cE:=hS.own hT (λc hc=>.inr (gH _ rfl c hc));exact ⟨g1.ext hT (by simpa using n7b.symm),ba.ext cE (λc hc=>hc) (λc hc=>.inl hc),g3,g4,g5⟩
           replace an:=an.ext (X':=b7 :: b4 :: X) hT (λc hc=>by simp at hc;simp [hc]) (λc hc=>.inl hc);replace hm:=hT.cell (by simpa using n71.symm) hm;replace hS:=hS.own hT (λc hc=>.inr (gH _ rfl c hc));have cW:=Xg mT hT.size;clear hT mT;refine D ?_;by_cases k5:k=5;subst k5;refine W ?_;refine CL (Z0S b tv l i3 o3 _ bU) ?_;rintro _ w13 ⟨rfl,hT⟩;replace bU:=bU.up hT;replace e4:=e4.up hT;replace e7':=e7'.up hT;replace an:=an.up hT;replace hm:=hT.cell (by simp) hm;replace hS:=hS.trans hT.mn;replace cW:=Xg cW hT.size;clear hT;refine W ?_;refine CL (Zc9 (cur l i3).text m _ hm (hL.tl i3) (hL.sp i3)) ?_;rintro _ w14 ⟨rfl,hT⟩;replace bU:=bU.up hT;replace e4:=e4.up hT;replace e7':=e7'.up hT;replace an:=an.up hT;replace hm:=hT.cell (by simp) hm;replace hS:=hS.trans hT.mn;replace cW:=Xg cW hT.size;clear hT;by_cases hu:(cur l i3).text∈Z4Q;rw [if_pos ⟨rfl,hu⟩] at h;rw [decide_eq_true hu];have fq:=hL.end_of bU.i_lt (λe=>Z9D (e ▸ hu));refine W ?_;refine CL (Z0S b tv l i3 o3 _ bU) ?_;rintro _ w15 ⟨rfl,hT⟩;replace bU:=bU.up hT;replace e4:=e4.up hT;replace e7':=e7'.up hT;replace an:=an.up hT;replace hm:=hT.cell (by simp) hm;replace hS:=hS.trans hT.mn;replace cW:=Xg cW hT.size;clear hT;refine W ?_;refine Z4 (Zc (u:=.I 7) rfl rfl rfl rfl e7' (by simp)) ?_;rintro _ w16 ⟨hT,e7''⟩;refine W ?_;refine Z4 (Zc (u:=str (cur l i3).text) rfl rfl rfl rfl e7'' (by simp)) ?_;rintro _ w17 ⟨mU,e7q⟩;replace hT:=hT.trans mU;replace e7q:Blk w17 b7 97 (ndC (.mk 7 0 (cur l i3).text [y,z]) (.slice (some ⟨bn,0,none⟩) 2 2)):=e7q;clear mU e7' e7'';replace e4:=e4.ext hT (by simpa using n74.symm);replace bU:Pd w17 b tv l i3 o3:=by
            obtain ⟨g1,g2,g3,g4,g5⟩:=bU;have cE:=hS.own hT (λc hc=>.inr (gH _ rfl c hc));exact ⟨g1.ext hT (by simpa using n7b.symm),ba.ext cE (λc hc=>hc) (λc hc=>.inl hc),g3,g4,g5⟩
           replace an:=an.ext (X':=b7 :: b4 :: X) hT (λc hc=>by simp at hc;simp [hc]) (λc hc=>.inl hc);replace hm:=hT.cell (by simpa using n71.symm) hm;replace hS:=hS.own hT (λc hc=>.inr (gH _ rfl c hc));replace cW:=Xg cW hT.size;clear hT;refine W ?_
           refine JJ (σ:=Unit) (λ_=>[(0,pQ b),(1,.I (5:Int)),(4,pQ b4),(7,pQ b7)])
            (λ_ w'=>Blk w' b7 97 (ndC (.mk (if (cur l i2).text=[45] then 8 else 7) 0 (cur l i3).text [y,z]) (.slice (some ⟨bn,0,none⟩) 2 2))/\Stp [b7] w17 w') ?_ ?_
           by_cases jg:(cur l i2).text=[45]
           rw [if_pos jg]
           (refine QP ?_ ?_<;>intro hc)
           refine S1 (u:=.I 8) e7q ?_;rintro _ w18 ⟨hT,e8⟩;refine W ?_;exact QT () ⟨e8,hT⟩;exact absurd jg (by assumption);rw [if_neg jg]
           (refine QP ?_ ?_<;>intro hc)
           exact absurd (by assumption) jg;exact QT () ⟨e7q,Stp.refl _ _⟩;rintro _ w18 ⟨e8,hT⟩;replace e4:=e4.ext hT (by simpa using n74.symm);replace bU:Pd w18 b tv l i3 o3:=by
            obtain ⟨g1,g2,g3,g4,g5⟩:=bU;have cE:=hS.own hT (λc hc=>.inr (gH _ rfl c hc));exact ⟨g1.ext hT (by simpa using n7b.symm),ba.ext cE (λc hc=>hc) (λc hc=>.inl hc),g3,g4,g5⟩
           replace an:=an.ext (X':=b7 :: b4 :: X) hT (λc hc=>by simp at hc;simp [hc]) (λc hc=>.inl hc);replace hm:=hT.cell (by simpa using n71.symm) hm;replace hS:=hS.own hT (λc hc=>.inr (gH _ rfl c hc));replace cW:=Xg cW hT.size;clear hT e7q;obtain ⟨dm,bK,gG,cq,fh⟩:=id bU;refine W ?_;refine Z4 (Zc (u:=.I ((i3+1:Nat):Int)) rfl (by show some _=some _;simp) rfl rfl dm (by simp)) ?_;rintro _ w19 ⟨hT,dr⟩;replace bK:=bK.ext (X':=[b]) hT (λc hc=>hc) (λc hc=>.inl hc);replace e4:=e4.ext hT (by simpa using n4);replace e8:=e8.ext hT (by simpa using n7b);replace an:=an.ext (X':=b7 :: b4 :: X) hT (λc hc=>by simp at hc;subst hc;simp [bQ]) (λc hc=>.inl hc);replace hm:=Jy hm aW hT;replace hS:=hS.trans hT;replace cW:=Xg cW hT.size;refine W ?_;exact Zx (f1,.mk (if (cur l i2).text=[45] then 8 else 7) 0 (cur l i3).text [y,z],.slice (some ⟨bn,0,none⟩) 2 2,i3+1,o3) ⟨rfl,rfl,rfl,rfl,trivial⟩ ⟨h,by omega,⟨dr,bK,fq,cq,fh⟩,e8,an,⟨_,rfl,e4⟩,hm,hS,cW⟩ (by omega);rw [if_neg (λh=>hu h.2),if_neg (by omega)] at h;rw [decide_eq_false hu];refine W ?_;exact Zx (f1,.mk 6 0 (cur l i2).text [y,z],.slice (some ⟨bn,0,none⟩) 2 2,i3,o3) ⟨rfl,rfl,rfl,rfl,trivial⟩ ⟨h,by omega,bU,e7',an,⟨_,rfl,e4⟩,hm,hS,cW⟩ (by omega);rw [if_neg (λh=>k5 h.1)] at h;by_cases k4:k=4;rw [if_pos k4] at h;subst k4;simp only [XI] at h;subst h;have e7:=e7';replace hp:=bU
           skip
           refine W ?_;refine SB (us:=ndC (.mk 6 0 (cur l i2).text [y,z]) (.slice (some ⟨bn,0,none⟩) 2 2)) (Zi an) e4 ?_;rintro _ wz ⟨hT,e4'⟩;refine W ?_;refine Zk rfl rfl rfl e4' rfl ?_;obtain ⟨dm,bK,gG,cq,fh⟩:=id hp;have cE:=hS.own hT (λc hc=>by simp at hc;subst hc;exact .inr je);refine PC.ok ⟨_,rfl,?_⟩ ⟨dm.ext hT (by simpa using n4.symm),ba.ext cE (λc hc=>hc) (λc hc=>.inl hc),gG,cq,fh⟩ cE;exact (an.ext (X':=b7 :: b4 :: X) hT (λc hc=>by simp at hc;simp [hc]) (λc hc=>.inl hc)).wk (λc hc=>by simp [hc]);rw [if_neg k4] at h;refine QO ?_;exact Zx (f1,.mk 6 0 (cur l i2).text [y,z],.slice (some ⟨bn,0,none⟩) 2 2,i3,o3) ⟨rfl,rfl,rfl,rfl,trivial⟩ ⟨h,by omega,bU,e7',an,⟨_,rfl,e4⟩,hm,hS,cW⟩ (by omega)
     rw [if_neg kj] at h;simp only [XI] at h;subst h;refine QO ?_
     skip
     refine W ?_;refine SB (us:=ndC y ky) (Zi hy) e4 ?_;rintro _ wz ⟨hT,e4'⟩;refine W ?_;refine Zk rfl rfl rfl e4' rfl ?_;obtain ⟨dm,bK,gG,cq,fh⟩:=id hp;have cE:=hS.own hT (λc hc=>by simp at hc;subst hc;exact .inr je);refine PC.ok ⟨_,rfl,?_⟩ ⟨dm.ext hT (by simpa using n4.symm),ba.ext cE (λc hc=>hc) (λc hc=>.inl hc),gG,cq,fh⟩ cE;exact (hy.ext (X':=b7 :: b4 :: X) hT (λc hc=>by simp at hc;simp [hc]) (λc hc=>.inl hc)).wk (λc hc=>by simp [hc])
end Go.Proofs.YtipfkbkkndacjaaGreatDoor
namespace Go.Eng
open Go Go.RowKit Go.Proofs
end Go.Eng
namespace Go.Proofs.YtipfkbkkndacjaaGreatDoor
open Go Go.Eng Go.RowKit Go.Proofs
theorem J0 {α:Type} [Z7 α] (X:List Nat) (w:World):SlV (α:=α) X w (.N) []:=⟨none,0,rfl,Xn _,by simp [maxLen],λ_=>rfl,λi hi=>absurd hi (Xu _)⟩
theorem Zg4:([]:Str)∉Z4R:=by decide
theorem ZaI (k n:Int) (w):(Instr.build 97 #[(0,.I k),(1,.I n)]).run Tryz.prog w=.ok (.agg #[.I k,.I n,str [],.N]) w:=by kernel_rfl
theorem ZmG (k:Int) (s:Str) (w):(Instr.build 97 #[(0,.I k),(2,str s)]).run Tryz.prog w=.ok (.agg #[.I k,.I 0,str s,.N]) w:=by kernel_rfl
theorem ZdS:ZaG.length<=1000000:=by decide
theorem Zg5:ZeU.length<=1000000:=by decide
theorem Z8c:([]:Str)∉Z35:=by decide
theorem Zw6 (f:Nat) (IH:Zjy f) (l:List Tkn) (hL:Z3P l) (m:Int) (i o:Nat) (r:Out Nd) (h:J8 l (f+1) .prim i o=some r) (X:List Nat) (b:Nat) (tv:Value) (w:World) (aW:b≠2) (bQ:b∈X) (hX:∀ c∈X,c<w.heap.size) (hm:w.cell? ⟨2,0,none⟩=some (.I m)) (hp:Pd w b tv l i o) :
 Calls Tryz.prog 279 #[pQ b] w (PC b w tv l r (λx v w'=>NdV X w' v x)):=by
 have ba:=hp.2.1;have hi:=hp.i_lt;have jh:=Z6n hi;rw [J8] at h;refine cW1 91 Tryz.func279 ?_;refine W ?_;refine Z1 Z2 rfl ?_;rintro _ w0 ⟨b2,rfl,cr,e2,hS⟩;have n2:b2≠b:=by have:=hp.lt;omega
 have fO:w.heap.size<=b2:=cr;obtain ⟨dm,bK,gG,cq,fh⟩:=id hp;replace dm:=dm.up hS;replace bK:=bK.up hS;replace hm:=hS.cell (by simp) hm;refine W ?_;refine ZDr 12 [] [11] [(0,0),(1,0),(2,0),(3,1),(4,0),(5,0),(6,0),(7,1),(8,0),(9,1),(10,2),(11,2)] (λw1 ae=>?_);replace dm:=dm.up ae;replace bK:=bK.up ae;replace e2:=e2.up ae;replace hm:=ae.cell (by simp) hm;replace hS:=hS.trans ae;clear ae;refine D ?_;refine Za rfl trivial Z2 (λ_ _ ⟨_,_,_,_,h⟩=>h) rfl ?_;rintro _ w2 ⟨b3,rfl,dV,e3,ah⟩;have n3:b3≠b:=by have:=dm.lt;omega
 have n32:b3≠b2:=by have:=e2.lt;omega
 have n31:b3≠2:=by have:=block_lt_of_cell hm;simp at this;omega
 have eD:w.heap.size<=b3:=Xg hS.size dV;refine JA rfl trivial (Zb (us:=Z3.enc l[i]) rfl rfl rfl rfl (Z3.one _) e3 rfl) rfl ?_;rintro _ w3 ⟨hT,e3⟩;have dK:=ah.ow hT;clear hT ah;replace dm:=dm.up dK;replace bK:=bK.up dK;replace e2:=e2.up dK;replace hm:=dK.cell (by simp) hm;replace hS:=hS.trans dK;clear dK dV;refine D ?_;rw [<- jh] at e3;clear hp;have hp:Pd w3 b tv l i o:=⟨dm,bK,gG,cq,fh⟩
 have fin:∀ (nd:Nd) (i' o':Nat) (w4 w5:World) (kv:Value),nd.kids=[]->kv=.N->Pd w4 b tv l i' o'->Stp [b] w w4->Stp [b2] w4 w5->PC b w tv l (.ok nd i' o') (λx v w'=>NdV X w' v x) (.returned (.agg (ndC nd kv).toArray)) w5:=by
  intro nd i' o' w4 w5 kv hk uO eO h1 h2;subst uO;obtain ⟨g1,g2,g3,g4,g5⟩:=eO;have cE:=h1.own h2 (λc hc=>by simp at hc;subst hc;exact .inr fO);refine PC.ok ⟨_,rfl,?_⟩ ⟨g1.ext h2 (by simpa using n2.symm),ba.ext cE (λc hc=>hc) (λc hc=>.inl hc),g3,g4,g5⟩ cE;rw [hk];exact J0 _ _
 by_cases c1:(cur l i).kind=2
 . rw [if_pos c1] at h
   simp only [XI] at h;subst h;refine QO ?_;all_goals try exact absurd c1 (by assumption)
   obtain ⟨dm,bK,gG,cq,fh⟩:=id hp;have bJ:=hL.end_of_kind hp.i_lt (by rw [c1];decide);refine W ?_;refine Z4 (Zc (u:=.I ((i+1:Nat):Int)) rfl (by show some _=some _;simp) rfl rfl dm (by simp)) ?_;rintro _ w4 ⟨hT,dr⟩;replace bK:=bK.ext (X':=[b]) hT (λc hc=>hc) (λc hc=>.inl hc);replace e2:=e2.ext hT (by simpa using n2);replace e3:=e3.ext hT (by simpa using n3);replace hS:=(hS.mono (S':=[b]) (by simp)).trans hT;replace hp:Pd w4 b tv l (i+1) o:=⟨dr,bK,bJ,cq,fh⟩
   clear hT dr dm bK;refine W ?_;apply Z8 (vs:=[(0,.I 1),(1,.I (cur l i).num)]) rfl (ZaI _ _) rfl;refine SB (us:=ndC (.mk 1 (cur l i).num [] []) (.N)) (Zi (x:=(.mk 1 (cur l i).num [] [])) (J0 [] w)) e2 ?_;rintro _ w5 ⟨hT,e2'⟩;refine W ?_;refine Zk rfl rfl rfl e2' rfl ?_;exact fin _ _ _ _ _ _ rfl rfl hp hS hT
 rw [if_neg c1] at h;by_cases c2:(cur l i).kind=3
 . rw [if_pos c2] at h
   simp only [XI] at h;subst h;refine QO ?_;all_goals try exact absurd (by assumption) c1
   all_goals try exact absurd c2 (by assumption)
   obtain ⟨dm,bK,gG,cq,fh⟩:=id hp;have bJ:=hL.end_of_kind hp.i_lt (by rw [c2];decide);refine W ?_;refine Z4 (Zc (u:=.I ((i+1:Nat):Int)) rfl (by show some _=some _;simp) rfl rfl dm (by simp)) ?_;rintro _ w4 ⟨hT,dr⟩;replace bK:=bK.ext (X':=[b]) hT (λc hc=>hc) (λc hc=>.inl hc);replace e2:=e2.ext hT (by simpa using n2);replace e3:=e3.ext hT (by simpa using n3);replace hS:=(hS.mono (S':=[b]) (by simp)).trans hT;replace hp:Pd w4 b tv l (i+1) o:=⟨dr,bK,bJ,cq,fh⟩
   clear hT dr dm bK;refine W ?_;apply Z8 (vs:=[(0,.I 3),(1,.I (cur l i).num)]) rfl (ZaI _ _) rfl;refine SB (us:=ndC (.mk 3 (cur l i).num [] []) (.N)) (Zi (x:=(.mk 3 (cur l i).num [] [])) (J0 [] w)) e2 ?_;rintro _ w5 ⟨hT,e2'⟩;refine W ?_;refine Zk rfl rfl rfl e2' rfl ?_;exact fin _ _ _ _ _ _ rfl rfl hp hS hT
 rw [if_neg c2] at h;refine QO ?_;all_goals try exact absurd (by assumption) c1
 all_goals try exact absurd (by assumption) c2
 refine CM (Zg rfl rfl) (Z3U b tv l [116,114,117,101] i o _ hp (λh=>hL.end_of hp.i_lt (by rw [h];decide))) ?_;rintro _ w4 ⟨rfl,eO,hT⟩;replace e2:=e2.ext hT (by simpa using n2);replace e3:=e3.ext hT (by simpa using n3);replace hm:=Jy hm aW hT;replace hS:=(hS.mono (S':=[b]) (by simp)).trans hT;clear hT hp;have c3:¬ (cur l i).text=[116,114,117,101]:=λh=>hL.plain i (by rw [h];decide)
 rw [if_neg c3] at h eO;rw [decide_eq_false c3];refine W ?_;refine CM (Zg rfl rfl) (Z3U b tv l [102,97,108,115,101] i o _ eO (λh=>hL.end_of eO.i_lt (by rw [h];decide))) ?_;rintro _ w5 ⟨rfl,gI,hT⟩;replace e2:=e2.ext hT (by simpa using n2);replace e3:=e3.ext hT (by simpa using n3);replace hm:=Jy hm aW hT;replace hS:=hS.trans hT;clear hT eO;have c4:¬ (cur l i).text=[102,97,108,115,101]:=λh=>hL.plain i (by rw [h];decide)
 rw [if_neg c4] at h gI;rw [decide_eq_false c4];have hp:=gI;clear gI;have c5:¬ (cur l i).text=[40]:=λh=>hL.plain i (by rw [h];decide)
 rw [if_neg c5] at h;have c6:¬ (cur l i).text=[105,102]:=λh=>hL.plain i (by rw [h];decide)
 rw [if_neg c6] at h;repeat'(first|refine W1 ?_|omega|refine VG ?_ ?_<;>intro hg|refine VC ?_ ?_<;>intro hc)
 all_goals try exact absurd (by assumption) c5
 all_goals try exact absurd (by assumption) c6
 refine CL (Z3e ZeU Z4R Zg4 (cur l i).text m _ hm Zg5 (hL.tl i) (λh=>Zjw h (hL.sp i))) ?_;rintro _ w6 ⟨rfl,hT⟩;replace hp:=hp.up hT;replace e2:=e2.up hT;replace e3:=e3.up hT;replace hm:=hT.cell (by simp) hm;replace hS:=hS.trans hT.mn;clear hT;have c7:¬ ((cur l i).text∈Z4R):=λh=>hL.plain i (Xi.2 (.inr h));rw [if_neg c7] at h;rw [decide_eq_false c7];refine W ?_;refine CL (Z3e ZaG Z35 Z8c (cur l i).text m _ hm ZdS (hL.tl i) (λh=>Zg1 h (hL.sp i))) ?_;rintro _ w7 ⟨rfl,hT⟩;replace hp:=hp.up hT;replace e2:=e2.up hT;replace e3:=e3.up hT;replace hm:=hT.cell (by simp) hm;replace hS:=hS.trans hT.mn;clear hT;by_cases c8:(cur l i).text∈Z35;rw [if_pos c8] at h;simp only [XI] at h;subst h;rw [decide_eq_true c8];obtain ⟨dm,bK,gG,cq,fh⟩:=id hp;have bJ:=hL.end_of hp.i_lt (λe=>Z8c (e ▸ c8));refine W ?_;refine Z4 (Zc (u:=.I ((i+1:Nat):Int)) rfl (by show some _=some _;simp) rfl rfl dm (by simp)) ?_;rintro _ w8 ⟨hT,dr⟩;replace bK:=bK.ext (X':=[b]) hT (λc hc=>hc) (λc hc=>.inl hc);replace e2:=e2.ext hT (by simpa using n2);replace e3:=e3.ext hT (by simpa using n3);replace hS:=hS.trans hT;replace hp:Pd w8 b tv l (i+1) o:=⟨dr,bK,bJ,cq,fh⟩
 clear hT dr dm bK;refine W ?_;apply Z8 (vs:=[(0,.I 4),(2,str (cur l i).text)]) rfl (ZmG _ _) rfl;refine SB (us:=ndC (.mk 4 0 (cur l i).text []) (.N)) (Zi (x:=(.mk 4 0 (cur l i).text [])) (J0 [] w)) e2 ?_;rintro _ w9 ⟨hT,e2'⟩;refine W ?_;refine Zk rfl rfl rfl e2' rfl ?_;exact fin _ _ _ _ _ _ rfl rfl hp hS hT;rw [if_neg c8] at h;simp only [XI] at h;subst h;rw [decide_eq_false c8];refine W ?_;refine ZV rfl (Zg rfl rfl) (Z9C b tv l i o 20 _ w hp hS) rfl ?_;intro wz bT;repeat'(first|refine Zj ?_|refine Zh ?_)
 refine ZH ?_;exact PC.fail bT
theorem Zw7 {l:List Tkn} {m:Int} {i o:Nat} {r:Out Nd} (IH:∀ (X:List Nat) (b:Nat) (tv:Value) (w:World),b≠2->b∈X->(∀ c∈X,c<w.heap.size)->w.cell? ⟨2,0,none⟩=some (.I m)->Pd w b tv l i o->
 Calls Tryz.prog 279 #[pQ b] w (PC b w tv l r (λx v w'=>NdV X w' v x))) (X:List Nat) (b:Nat) (tv:Value) (w:World) (aW:b≠2) (bQ:b∈X) (hX:∀ c∈X,c<w.heap.size) (hm:w.cell? ⟨2,0,none⟩=some (.I m)) (hp:Pd w b tv l i o) :
 Calls Tryz.prog 226 #[pQ b,.I ((8:Nat):Int)] w (PC b w tv l r (λx v w'=>NdV X w' v x)):=by
 have ba:=hp.2.1;refine cW2 98 Tryz.func226 ?_;refine W ?_;refine Z1 Z2 rfl ?_;rintro _ w1 ⟨b4,rfl,bC,e4,hS⟩;have n4:b4≠b:=by have:=hp.lt;omega
 have je:w.heap.size<=b4:=bC;replace hm:=hS.cell (by simp) hm;replace hp:=hp.up hS;have l4:=e4.lt;have gW:∀ c∈b4 :: X,c<w1.heap.size:=λc hc=>by
  rcases Xb.1 hc with rfl|hc
  exact l4;have:=hX c hc;have:=hS.size;omega
 refine QO ?_;have bE:=IH (b4 :: X) b tv _ aW (by simp [bQ]) gW hm hp;cases r with
 | err a c=>
   refine ZV rfl (ZP rfl) (PC.falls bE rfl hS.mn) rfl ?_;intro wz bT;repeat'(first|refine Zj ?_|refine Zh ?_)
   refine ZH ?_;exact PC.err bT
 | ok x i3 o3=>
   refine CL (PC.goes bE rfl) ?_;rintro _ wE ⟨⟨kx,rfl,hx⟩,qp,hT⟩;replace e4:=e4.ext hT (by simpa using n4);replace hS:=(hS.mono (S':=[b]) (by simp)).trans hT;clear hT hp;refine SB (us:=ndC x kx) (Zi hx) e4 ?_;rintro _ wz ⟨hT,e4'⟩;refine W ?_;refine Zk rfl rfl rfl e4' rfl ?_;obtain ⟨g1,g2,g3,g4,g5⟩:=qp;have cE:=hS.own hT (λc hc=>by simp at hc;subst hc;exact .inr je);refine PC.ok ⟨_,rfl,?_⟩ ⟨g1.ext hT (by simpa using n4.symm),ba.ext cE (λc hc=>hc) (λc hc=>.inl hc),g3,g4,g5⟩ cE;exact (hx.ext (X':=b4 :: X) hT (λc hc=>by simp at hc;simp [hc]) (λc hc=>.inl hc)).wk (λc hc=>by simp [hc])
theorem Zg6:∀ f,Zjy f:=by
 intro f
 induction f using Nat.strongRecOn with
 | _ f ih=>
   intro l hL m c i o r h X b tv w aW bQ hX hm hp;cases f with
   | zero=>simp [J8] at h
   | succ f=>
     have IH:=ih f (XP f);cases c with
     | loop k x=>trivial
     | prim=>exact Zw6 f IH l hL m i o r h X b tv w aW bQ hX hm hp
     | expr k=>
       intro bF xI;rw [J8] at h;split at h;rename_i bD;rcases bD with ⟨_,ht⟩|⟨_,ht⟩<;>exact absurd (by rw [ht];decide) (hL.plain i)
       rename_i bD;split at h;rename_i h8;subst h8;exact Zw7 (IH l hL m .prim i o r h) X b tv w aW bQ hX hm hp;exact Zw5 f (λf' sW=>ih f' (by omega)) l hL m k i o r bF (by omega) bD h X b tv w aW bQ hX hm hp
theorem Z8d:Z1K [114,117,108,101,32,102,114,111,109,32,111,110,32,105,102,32,100,117,101,32,117,110,108,101,115,115,32,101,108,115,101,32,111,114,32,97,110,100,32,110,111,116,32,116,114,117,101,32,102,97,108,115,101,32,116,104,101,110,32,101,110,100,32,100,97,121,115,32,119,101,101,107,115,32,109,111,110,116,104,115,32,99,111,117,114,116,100,97,121,115,32,110,101,120,116,32,112,114,101,118,32,108,97,116,101,114,32,101,97,114,108,105,101,114,32,98,101,116,119,101,101,110,32,100,97,121,32,115,101,114,118,101,100,32,101,120,116,114,97,32,98,121,32,116,111,32,99,111,117,114,116,32,97,109,111,117,110,116]=ZaF++Zf:=by decide +kernel
theorem ZaJ (X:List Nat) (w:World) (hX:∀ b∈X,b<w.heap.size):CC 183 #[] w λr w'=>Row X w' w.heap.size 9 r (ZaF++Zf)/\Stp [] w w':=by
 refine cW0 2 Tryz.func183 ?_;refine W ?_;refine CM (ZP rfl) (Z13 X [114,117,108,101,32,102,114,111,109,32,111,110,32,105,102,32,100,117,101,32,117,110,108,101,115,115,32,101,108,115,101,32,111,114,32,97,110,100,32,110,111,116,32,116,114,117,101,32,102,97,108,115,101,32,116,104,101,110,32,101,110,100,32,100,97,121,115,32,119,101,101,107,115,32,109,111,110,116,104,115,32,99,111,117,114,116,100,97,121,115,32,110,101,120,116,32,112,114,101,118,32,108,97,116,101,114,32,101,97,114,108,105,101,114,32,98,101,116,119,101,101,110,32,100,97,121,32,115,101,114,118,101,100,32,101,120,116,114,97,32,98,121,32,116,111,32,99,111,117,114,116,32,97,109,111,117,110,116] _ hX (by decide +kernel)) ?_;rintro v w1 ⟨hr,hS⟩;rw [Z8d] at hr;refine RT ?_;exact ⟨hr,hS⟩
theorem Z1v (s:Str) (w):CC 106 #[str s] w λr w'=>r=.B (ZE s)/\Stp [] w w':=by
 refine cW1 60 Tryz.func106 ?_;refine W ?_;by_cases h0:s.length≠0/\s.length<=12/\97<=Jg s 0/\Jg s 0<=122
 case neg=>
  have hn:ZE s=false:=by
   unfold ZE Z3T;rw [decide_eq_false (λh=>h0 ⟨by omega,h.2.1,h.2.2.1,h.2.2.2.1⟩)];rfl
  by_cases hl:s.length≠0
  (refine QP ?_ ?_<;>intro hg)
  refine RU ?_;exact ⟨by rw [hn],Stp.refl _ _⟩;refine J9 (i:=0) rfl rfl rfl (by omega) rfl ?_
  (refine QP ?_ ?_<;>intro hg)
  refine RU ?_;exact ⟨by rw [hn],Stp.refl _ _⟩;refine J9 (i:=0) rfl rfl rfl (by omega) rfl ?_;refine RT ?_;exact ⟨by rw [hn],Stp.refl _ _⟩;refine RT ?_;exact ⟨by rw [hn],Stp.refl _ _⟩
 obtain ⟨h1,h2,h3,h4⟩:=h0;refine QO ?_;refine J9 (i:=0) rfl rfl rfl (by omega) rfl ?_;refine QO ?_;refine J9 (i:=0) rfl rfl rfl (by omega) rfl ?_;refine QO ?_;refine LP (σ:=Nat) (λi=>[(0,str s),(3,.I (i:Int))]) (λi w'=>i<=s.length/\w'=w/\∀ j,j<i->Zjt (Jg s j)) (λi=>s.length - i) 0 ⟨Xq _,rfl,λj hj=>absurd hj (Xu _)⟩ ?_;rintro i w2 ⟨hi,rfl,aB⟩
 try dsimp only at hi aB ⊢
 by_cases ag:¬ s.length<=i;by_cases cO:(97<=Jg s i/\Jg s i<=122)\/(48<=Jg s i/\Jg s i<=57)
 . have eu:∀ j,j<i+1->Zjt (Jg s j):=λj hj=>by
    by_cases e:j=i;subst e;exact cO;exact aB j (by omega)
   repeat'(first|refine W1 ?_|omega|refine VG ?_ ?_<;>intro hg|refine VC ?_ ?_<;>intro hc)
   all_goals exact QL (i+1) ⟨by omega,rfl,eu⟩ (by omega)
 . have hn:ZE s=false:=by
    unfold ZE Z3T;rw [decide_eq_false (λh=>cO (h.2.2.2.2 i (by omega)))];rfl
   repeat'(first|refine W1 ?_|omega|refine VG ?_ ?_<;>intro hg|refine VC ?_ ?_<;>intro hc)
   all_goals
    refine RU ?_;exact ⟨by rw [hn],Stp.refl _ _⟩
 obtain rfl:i=s.length:=by omega
 have aO:Z3T s=true:=decide_eq_true ⟨by omega,h2,h3,h4,aB⟩;refine QO ?_;refine CM Z67 (ZaJ [] _ (by simp)) ?_;rintro rv w3 ⟨hr,hS⟩;refine W ?_;refine CL (Z0d [] rv _ s _ hr.slv0) ?_;rintro _ w4 ⟨rfl,aI⟩;refine W ?_;refine WR ?_;refine .mk ⟨?_,hS.trans aI⟩;unfold ZE;rw [aO,Bool.true_and];congr 1;refine decide_eq_decide.2 ?_;rw [<- Int.not_le,Zc5,Xi,not_or]
def Z1H (x:Nd) (want:Int):Int:=if Zz x<=12 then (if Ze x=0 then 21 else if Ze x=want then 0 else 21) else 2
theorem Zca (v:Value) (x:Nd) (want:Int) (w) (hx:NdV [] w v x) (hF:SlV [] w Z2x Zf):CC 168 #[v,.I want] w λr w'=>r=.I (Z1H x want)/\Stp [] w w':=by
 obtain ⟨kv,rfl,hs⟩:=hx;refine cW2 20 Tryz.func168 ?_;refine W ?_;refine Z1 (Zp rfl) rfl ?_;rintro _ w1 ⟨b,rfl,hb,ac,hS⟩;replace ac:Blk w1 b _ (ndC x kv):=ac;refine W ?_;refine CL (ZiT [] [] _ x _ ⟨kv,rfl,hs.up hS⟩ (hF.up hS)) ?_;rintro _ w2 ⟨rfl,ah⟩;replace hS:=hS.trans ah;unfold Z1H;by_cases hn:Zz x<=12;rw [if_pos hn,if_pos hn,if_pos hn];by_cases ht:Ze x=0;rw [if_pos ht,if_pos ht];refine RT ?_;exact ⟨rfl,hS⟩;rw [if_neg ht,if_neg ht];by_cases hw:Ze x=want;rw [if_pos hw];refine RT ?_;exact ⟨rfl,hS⟩;rw [if_neg hw];refine RT ?_;exact ⟨rfl,hS⟩;rw [if_neg hn,if_neg hn,if_neg hn];refine RT ?_;exact ⟨rfl,hS⟩
structure Rul where
 name:Str
 frm:Int
 on:Str
 cnd:Nd
 due:Nd
 unl:Str
 els:Str
abbrev rlC (r:Rul) (ki kd:Value):List Value:=[str r.name,.I r.frm,str r.on,.I r.cnd.kind,.I r.cnd.num,str r.cnd.word,ki,.I r.due.kind,.I r.due.num,str r.due.word,kd,str r.unl,str r.els]
def Zg7 (X:List Nat) (w:World) (v:Value) (r:Rul):Prop:=∃ ki kd,v=.agg (rlC r ki kd).toArray/\SlV X w ki r.cnd.kids/\SlV X w kd r.due.kids
def Jf (r:Rul):Bool:=ZE r.name && ZE r.on && (decide (r.unl=[]) || ZE r.unl) && (decide (r.els=[]) || ZE r.els)
def Z0J (r:Rul):Int:=if Jf r=false then 7 else if r.frm<0\/r.frm > 3652058 then 5 else if Z1H r.cnd 2≠0 then Z1H r.cnd 2 else Z1H r.due 3
theorem Z72 (v:Value) (r:Rul) (m:Int) (w) (hv:Zg7 [] w v r) (hF:SlV [] w Z2x Zf) (hm:w.cell? ⟨2,0,none⟩=some (.I m)) :
 CC 92 #[v] w λr' w'=>r'=.I (Z0J r)/\Stp [] w w':=by
 obtain ⟨ki,kd,rfl,hi,hd⟩:=hv;refine cW1 55 Tryz.func92 ?_;refine W ?_;refine Z1 (Zp rfl) rfl ?_;rintro _ w1 ⟨b,rfl,hb,ac,hS⟩;replace ac:Blk w1 b _ (rlC r ki kd):=ac;refine W ?_;refine CM (ZP rfl) (Z2L r.name m _ (hF.up hS) (hS.cell (by simp) hm)) ?_;rintro _ w2 ⟨rfl,hT⟩;replace ac:=ac.up hT;replace hS:=hS.trans hT;clear hT;refine Z5C (σ:=Bool) (λq=>[(1,pQ b),(2,.I 0),(4,.B q)]) (λq w'=>Blk w' b 99 (rlC r ki kd)/\Stp [] w w'/\q=!Jf r) ?_ ?_
 . cases hA:ZE r.name with
   | false=>
     refine W ?_;exact QT true ⟨ac,hS,by simp [Jf, *]⟩
   | true=>
     refine W ?_;refine CM (ZP rfl) (Z2L r.on m _ (hF.up hS) (hS.cell (by simp) hm)) ?_;rintro _ w2 ⟨rfl,hT⟩;replace ac:=ac.up hT;replace hS:=hS.trans hT;clear hT;cases hB:ZE r.on with
     | false=>
       refine W ?_;exact QT true ⟨ac,hS,by simp [Jf, *]⟩
     | true=>
       repeat'(first|refine W1 ?_|omega|refine VG ?_ ?_<;>intro hg|refine VC ?_ ?_<;>intro hc)
       . refine CM (ZP rfl) (Z2L r.unl m _ (hF.up hS) (hS.cell (by simp) hm)) ?_
         rintro _ w2 ⟨rfl,hT⟩;replace ac:=ac.up hT;replace hS:=hS.trans hT;clear hT;cases hC:ZE r.unl with
         | false=>
           refine W ?_;exact QT true ⟨ac,hS,by simp [Jf, *]⟩
         | true=>
           (refine QP ?_ ?_<;>intro hg)
           . refine CM (ZP rfl) (Z2L r.els m _ (hF.up hS) (hS.cell (by simp) hm)) ?_
             rintro _ w2 ⟨rfl,hT⟩;replace ac:=ac.up hT;replace hS:=hS.trans hT;clear hT;cases hD:ZE r.els with
             | false=>
               refine W ?_;exact QT true ⟨ac,hS,by simp [Jf, *]⟩
             | true=>
               refine W ?_;exact QT false ⟨ac,hS,by simp [Jf, *]⟩
           exact QT false ⟨ac,hS,by simp [Jf, *]⟩
       . refine CM (ZP rfl) (Z2L r.els m _ (hF.up hS) (hS.cell (by simp) hm)) ?_
         rintro _ w2 ⟨rfl,hT⟩;replace ac:=ac.up hT;replace hS:=hS.trans hT;clear hT;cases hD:ZE r.els with
         | false=>
           refine W ?_;exact QT true ⟨ac,hS,by simp [Jf, *]⟩
         | true=>
           refine W ?_;exact QT false ⟨ac,hS,by simp [Jf, *]⟩
       exact QT false ⟨ac,hS,by simp [Jf, *]⟩
 rintro q w3 ⟨ac,hS,hq⟩
 try dsimp only at hq ⊢
 unfold Z0J;cases fA:Jf r with
 | false=>
   rw [fA] at hq;subst hq;refine RT ?_;exact ⟨rfl,hS⟩
 | true=>
   rw [fA] at hq;subst hq;refine W ?_;by_cases hr:r.frm<0\/r.frm > 3652058
   . repeat'(first|refine W1 ?_|omega|refine VG ?_ ?_<;>intro hg|refine VC ?_ ?_<;>intro hc)
     all_goals
      refine RU ?_;exact ⟨by rw [if_neg (by decide),if_pos hr],hS⟩
   refine QO ?_;apply Z9 (Zn (us:=ndC r.cnd ki) rfl rfl ac rfl rfl) rfl;refine W ?_;refine CL (Zca _ r.cnd 2 _ ⟨ki,rfl,hi.up hS⟩ (hF.up hS)) ?_;rintro _ w4 ⟨rfl,hT⟩;replace ac:=ac.up hT;replace hS:=hS.trans hT;clear hT;by_cases h2:Z1H r.cnd 2=0;refine QO ?_;apply Z9 (Zn (us:=ndC r.due kd) rfl rfl ac rfl rfl) rfl;refine W ?_;refine CL (Zca _ r.due 3 _ ⟨kd,rfl,hd.up hS⟩ (hF.up hS)) ?_;rintro _ w5 ⟨rfl,hT⟩;refine RT ?_;exact ⟨by rw [if_neg (by decide),if_neg hr,if_neg (by simpa using h2)],hS.trans hT⟩;refine RT ?_;exact ⟨by rw [if_neg (by decide),if_neg hr,if_pos h2],hS⟩
end Go.Proofs.YtipfkbkkndacjaaGreatDoor
namespace Go.Eng
open Go Go.RowKit Go.Proofs
section
variable {P:Program} {n:Nat} {Q:Exit->Act->World->Prop} {e:Env} {w:World} {ops:Array Oper} {rest:List Oper} {ty:TypeId} {pos:String} {af:Array Edge}
theorem Zcb {d:Option Nat} {g:Option (Nat×Bool)} {f:Nat} {fn:Func} {xs:Array Operand} {ts:Array TypeId} {vs bd cap us:Array Value} {G:Value->World->Prop} {c:Operand} [hf:Fun P f fn] (hc:ev e c=some (.func (.func f) bd cap))
 (hv:∀ a,Has n e a->xs.map a.eval=vs) (hu:bd++vs++cap=us) (h:Calls P f us w (Ret G)) :
 OE P n ⟨d,.call { callee:=.value c,args:=xs,argTypes:=ts },ty,pos,af,g⟩ e w G:=
 ⟨λa ha Q => by
   have he:(execOp a.eval ⟨d,.call { callee:=.value c,args:=xs,argTypes:=ts },ty,pos,af,g⟩).run P w=.ok (.enter f us) w:=by
    simp only [execOp,resolve,ha.ev hc,Deferred.ofValue,hv a ha];simp [invoke];rw [<- Array.append_assoc,hu];exact hf.enters us w
   unfold Oper.wp;rw [he];simp only [Oper.upon];refine h.mono ?_;rintro r w' ⟨v,rfl,hg⟩;exact ⟨v,rfl,hg⟩⟩
theorem Z9E {d:Nat} {f:Nat} {fn:Func} {xs:Array Operand} {ts:Array TypeId} {vs bd cap us:Array Value} {c:Operand} {ch:List PanicEntry} {F:World->Prop} [hf:Fun P f fn]
 (hc:ev e c=some (.func (.func f) bd cap)) (hv:∀ a,Has n e a->xs.map a.eval=vs) (hu:bd++vs++cap=us) (h:Calls P f us w (λe w'=>e=.panicked ch/\F w')) (hd:Nat.blt d n=true) (k:∀ w',F w'->WQ n Q (.panic ch) [] w') :
 WL P n ops Q (⟨some d,.call { callee:=.value c,args:=xs,argTypes:=ts },ty,pos,af,none⟩ :: rest) e w:=
 Zay (G:=λ_ _=>False) (F:=λch' w'=>ch'=ch/\F w') (ZfO hc hv hu (h.mono λe w' ⟨h1,h2⟩=>by rw [h1];exact .pan ⟨rfl,h2⟩)) hd (λch' w' ⟨h1,h2⟩=>by subst h1;exact Z9r (k w' h2)) (λ_ _ h=>h.elim)
theorem Z0T {d:Option Nat} {g:Option (Nat×Bool)} {f:Nat} {x:Operand} {v:Value} (hx:ev e x=some v):PR P n ⟨d,.makeFunc (.func f) #[x] #[],ty,pos,af,g⟩ e w (.func (.func f) #[v] #[]):=
 ⟨λa ha=>by simp [execOp,Instr.makeFunc,ha.ev hx]⟩
end
end Go.Eng
namespace Go.Proofs.YtipfkbkkndacjaaGreatDoor
open Go Go.Eng Go.RowKit Go.Proofs
def _root_.Go.Eng.RuleM.rul (r:RuleM):Rul:=⟨r.name,r.frm,r.on,r.cond,r.due,r.unl,r.els⟩
instance:Z7 Rul where
 k:=13
 rep:=λX w r cs=>∃ ki kd,cs=rlC r ki kd/\SlV X w ki r.cnd.kids/\SlV X w kd r.due.kids
 len:=by rintro X w r cs ⟨ki,kd,rfl,_⟩;rfl
 one:=by
  rintro X w r cs ⟨ki,kd,rfl,h1,h2⟩ c hc;have e1:=h1.one;have e2:=h2.one;simp only [rlC,Xb,Xj,or_false] at hc;rcases hc with rfl|rfl|rfl|rfl|rfl|rfl|rfl|rfl|rfl|rfl|rfl|rfl|rfl<;>first|rfl|exact e1|exact e2
 ext:=by
  rintro X S X' w w' r cs ⟨ki,kd,rfl,h1,h2⟩ hS g1 g2;exact ⟨ki,kd,rfl,h1.ext hS g1 g2,h2.ext hS g1 g2⟩
theorem Zo6 (r:Rul) {X Y:List Nat} {w w':World} {ki kd:Value} (h1:SlV X w ki r.cnd.kids) (h2:SlV Y w' kd r.due.kids):∀ c∈rlC r ki kd,c.oneCell'=true:=by
 intro c hc;have e1:=h1.one;have e2:=h2.one;simp only [rlC,Xb,Xj,or_false] at hc;rcases hc with rfl|rfl|rfl|rfl|rfl|rfl|rfl|rfl|rfl|rfl|rfl|rfl|rfl<;>first|rfl|exact e1|exact e2
theorem Zg8 (X:List Nat) (b:Nat) (tv:Value) (l:List Tkn) (hL:Z3P l) (m:Int) (i o:Nat) (w:World) (aW:b≠2) (bQ:b∈X) (hX:∀ c∈X,c<w.heap.size) (hm:w.cell? ⟨2,0,none⟩=some (.I m)) (hp:Pd w b tv l i o) :
 Calls Tryz.prog 166 #[pQ b] w (PC b w tv l (Z1Z l i o) (λx v w'=>NdV X w' v x)):=by
 have ba:=hp.2.1;have hE:=Z9u l i o;generalize Z1Z l i o=r at *;refine cW1 5 Tryz.func166 ?_;refine W ?_;refine Z1 Z2 rfl ?_;rintro _ w1 ⟨b2,rfl,cr,e2,hS⟩;have n2:b2≠b:=by have:=hp.lt;omega
 have fO:w.heap.size<=b2:=cr;replace hm:=hS.cell (by simp) hm;replace hp:=hp.up hS;have l2:=e2.lt;have gW:∀ c∈b2 :: X,c<w1.heap.size:=λc hc=>by
  rcases Xb.1 hc with rfl|hc
  exact l2;have:=hX c hc;have:=hS.size;omega
 refine W ?_;have bE:=Zg6 _ l hL m (.expr 1) i o r hE (b2 :: X) b tv _ aW (by simp [bQ]) gW hm hp (by omega) (by omega);cases r with
 | err a c=>
   refine ZV rfl (Zg rfl rfl) (PC.falls bE rfl hS.mn) rfl ?_;intro wz bT;repeat'(first|refine Zj ?_|refine Zh ?_)
   refine ZH ?_;exact PC.err bT
 | ok x i3 o3=>
   refine CL (PC.goes bE rfl) ?_;rintro _ wE ⟨⟨kx,rfl,hx⟩,qp,hT⟩;replace e2:=e2.ext hT (by simpa using n2);replace hS:=(hS.mono (S':=[b]) (by simp)).trans hT;clear hT hp;refine SB (us:=ndC x kx) (Zi hx) e2 ?_;rintro _ wz ⟨hT,e2'⟩;refine W ?_;refine Zk rfl rfl rfl e2' rfl ?_;obtain ⟨g1,g2,g3,g4,g5⟩:=qp;have cE:=hS.own hT (λc hc=>by simp at hc;subst hc;exact .inr fO);refine PC.ok ⟨_,rfl,?_⟩ ⟨g1.ext hT (by simpa using n2.symm),ba.ext cE (λc hc=>hc) (λc hc=>.inl hc),g3,g4,g5⟩ cE;exact (hx.ext (X':=b2 :: X) hT (λc hc=>by simp at hc;simp [hc]) (λc hc=>.inl hc)).wk (λc hc=>by simp [hc])
theorem Z1R (b:Nat) (tv:Value) (l:List Tkn) (hL:Z3P l) (wd:Str) (qq:wd≠[]) (m:Int) (i o:Nat) (w:World) (aW:b≠2) (hm:w.cell? ⟨2,0,none⟩=some (.I m)) (hp:Pd w b tv l i o) :
 Calls Tryz.prog 164 #[pQ b,str wd,.func (.func 161) #[pQ b] #[]] w (PC b w tv l (Z1G l wd [] (Z2k l) i o) (λs v _=>v=str s)):=by
 unfold Z1G;refine cW3 19 Tryz.func164 ?_;refine W ?_;refine CM (Zg rfl rfl) (Z3U b tv l wd i o _ hp (λh=>hL.end_of hp.i_lt (by rw [h];exact qq))) ?_;rintro _ w4 ⟨rfl,eO,hS⟩;replace hm:=Jy hm aW hS;by_cases c3:(cur l i).text=wd;rw [if_pos c3] at eO ⊢;rw [decide_eq_true c3];refine W ?_;rcases hN:Z2k l (i+1) o with ⟨a,c⟩|⟨s,i1,o1⟩
 refine Z9E rfl Z67 rfl (PC.falls (Z5G b tv l hL _ _ m _ hm eO) hN hS) rfl ?_;intro wz bT;focus repeat'(first|refine Zj ?_|refine Zh ?_)
 refine ZH ?_;exact PC.err bT;refine Z1 (Zcb rfl Z67 rfl (PC.goes (Z5G b tv l hL _ _ m _ hm eO) hN)) rfl ?_;rintro _ w5 ⟨rfl,gI,hT⟩;replace hS:=hS.trans hT;refine W ?_;simp only [Out.bind];rcases hU:Z0P l [59] i1 o1 with ⟨a,c⟩|⟨u,i2,o2⟩
 refine ZV rfl (Zg rfl rfl) (PC.falls (JO b tv l hL _ (by decide) i1 o1 _ gI) hU hS) rfl ?_;intro wz bT;focus repeat'(first|refine Zj ?_|refine Zh ?_)
 refine ZH ?_;exact PC.err bT;refine CM (Zg rfl rfl) (PC.goes (JO b tv l hL _ (by decide) i1 o1 _ gI) hU) ?_;rintro _ w6 ⟨rfl,qr,hT⟩;replace hS:=hS.trans hT;refine W ?_;refine WR ?_;exact PC.ok rfl qr hS;rw [if_neg c3] at eO ⊢;rw [decide_eq_false c3];refine W ?_;refine WR ?_;exact PC.ok rfl eO hS
theorem Z4v (X:List Nat) (b:Nat) (tv:Value) (l:List Tkn) (hL:Z3P l) (wd:Str) (qq:wd≠[]) (m:Int) (i o:Nat) (w:World) (aW:b≠2) (bQ:b∈X) (hX:∀ c∈X,c<w.heap.size) (hm:w.cell? ⟨2,0,none⟩=some (.I m)) (hp:Pd w b tv l i o) :
 Calls Tryz.prog 165 #[pQ b,str wd,.func (.func 166) #[pQ b] #[]] w (PC b w tv l (Z1G l wd JS (Z1Z l) i o) (λx v w'=>NdV X w' v x)):=by
 have ba:=hp.2.1;unfold Z1G;refine cW3 19 Tryz.func165 ?_;refine W ?_;refine Z1 Z2 rfl ?_;rintro _ w1 ⟨b6,rfl,ew,e6,hS⟩;have n6:b6≠b:=by have:=hp.lt;omega
 have kF:w.heap.size<=b6:=ew;refine W ?_;refine Z1 Z2 rfl ?_;rintro _ w2 ⟨b7,rfl,fb,e7,hT⟩;have n7:b7≠b:=by have:=hp.lt;have:=hS.size;omega
 have n76:b7≠b6:=by have:=e6.lt;omega
 replace e6:=e6.up hT;replace hS:=hS.trans hT;clear hT;replace hm:=hS.cell (by simp) hm;replace hp:=hp.up hS;refine W ?_;refine CM (Zg rfl rfl) (Z3U b tv l wd i o _ hp (λh=>hL.end_of hp.i_lt (by rw [h];exact qq))) ?_;rintro _ w4 ⟨rfl,eO,hT⟩;replace hm:=Jy hm aW hT;replace e6:=e6.ext hT (by simpa using n6);replace e7:=e7.ext hT (by simpa using n7);replace hS:=(hS.mono (S':=[b]) (by simp)).trans hT;clear hT hp;by_cases c3:(cur l i).text=wd;rw [if_pos c3] at eO ⊢;rw [decide_eq_true c3];refine W ?_;have l6:=e6.lt;have qt:∀ c∈b6 :: X,c<w4.heap.size:=λc hc=>by
  rcases Xb.1 hc with rfl|hc
  exact l6;have:=hX c hc;have:=hS.size;omega
 have bE:=Zg8 (b6 :: X) b tv l hL m (i+1) o w4 aW (by simp [bQ]) qt hm eO;rcases hN:Z1Z l (i+1) o with ⟨a,c⟩|⟨x,i1,o1⟩
 refine Z9E rfl Z67 rfl (PC.falls bE hN hS) rfl ?_;intro wz bT;focus repeat'(first|refine Zj ?_|refine Zh ?_)
 refine ZH ?_;exact PC.err bT;refine Z1 (Zcb rfl Z67 rfl (PC.goes bE hN)) rfl ?_;rintro _ w5 ⟨⟨kx,rfl,hx⟩,gI,hT⟩;replace e6:=e6.ext hT (by simpa using n6);replace hS:=hS.trans hT;have sU:∀ c∈b6 :: X,c<w5.heap.size:=λc hc=>Xa (qt c hc) hT.size;clear hT eO qt l6 bE;refine Z1 Z2 rfl ?_;rintro _ w6 ⟨b8,rfl,fC,e8,hT⟩;have n86:b8≠b6:=by have:=e6.lt;omega
 have n8:b8≠b:=by have:=gI.lt;omega
 refine SB (us:=ndC x kx) (Zi hx) e8 ?_;rintro _ w7 ⟨aq,e8'⟩;replace hT:=hT.ow aq;clear aq e8;replace gI:=gI.up hT;replace e6:=e6.up hT;replace hx:=hx.up hT;replace hS:=hS.trans hT.mn;clear hT;refine W ?_;simp only [Out.bind];rcases hU:Z0P l [59] i1 o1 with ⟨a,c⟩|⟨u,i2,o2⟩
 refine ZV rfl (Zg rfl rfl) (PC.falls (JO b tv l hL _ (by decide) i1 o1 _ gI) hU hS) rfl ?_;intro wz bT;focus repeat'(first|refine Zj ?_|refine Zh ?_)
 refine ZH ?_;exact PC.err bT;refine CM (Zg rfl rfl) (PC.goes (JO b tv l hL _ (by decide) i1 o1 _ gI) hU) ?_;rintro _ w8 ⟨rfl,qr,hT⟩;replace e6:=e6.ext hT (by simpa using n6);replace e8':=e8'.ext hT (by simpa using n8);replace hx:=hx.ext (X':=b6 :: X) hT (λc hc=>by simp at hc;subst hc;simp [bQ]) (λc hc=>.inl hc);replace hS:=hS.trans hT;clear hT gI;refine W ?_;refine SB (us:=ndC x kx) (Zi hx) e6 ?_;rintro _ wz ⟨hT,e6'⟩;refine W ?_;refine Zk rfl rfl rfl e6' rfl ?_;obtain ⟨g1,g2,g3,g4,g5⟩:=qr;have cE:=hS.own hT (λc hc=>by simp at hc;subst hc;exact .inr kF);refine PC.ok ⟨_,rfl,?_⟩ ⟨g1.ext hT (by simpa using n6.symm),ba.ext cE (λc hc=>hc) (λc hc=>.inl hc),g3,g4,g5⟩ cE;exact (hx.ext (X':=b6 :: X) hT (λc hc=>by simp at hc;simp [hc]) (λc hc=>.inl hc)).wk (λc hc=>by simp [hc]);rw [if_neg c3] at eO ⊢;rw [decide_eq_false c3];refine W ?_;refine SB (us:=ndC JS (.N)) (Zi (x:=JS) (J0 [] w)) e6 ?_;rintro _ wz ⟨hT,e6'⟩;refine W ?_;refine Zk rfl rfl rfl e6' rfl ?_;obtain ⟨g1,g2,g3,g4,g5⟩:=eO;have cE:=hS.own hT (λc hc=>by simp at hc;subst hc;exact .inr kF);refine PC.ok ⟨_,rfl,?_⟩ ⟨g1.ext hT (by simpa using n6.symm),ba.ext cE (λc hc=>hc) (λc hc=>.inl hc),g3,g4,g5⟩ cE;exact J0 _ _
theorem ZmH (s:Str) (w):(Instr.build 99 #[(0,str s)]).run Tryz.prog w=.ok (.agg (rlC ⟨s,0,[],JS,JS,[],[]⟩ (.N) (.N)).toArray) w:=by kernel_rfl
theorem Zjz (X:List Nat) (b:Nat) (tv:Value) (l:List Tkn) (hL:Z3P l) (m:Int) (i o:Nat) (w:World) (aW:b≠2) (bQ:b∈X) (hX:∀ c∈X,c<w.heap.size) (hm:w.cell? ⟨2,0,none⟩=some (.I m)) (hp:Pd w b tv l i o) :
 Calls Tryz.prog 91 #[pQ b] w (PC b w tv l (Z9s l i o) (λr v w'=>Zg7 X w' v r.rul)):=by
 have ba:=hp.2.1;unfold Z9s;refine cW1 61 Tryz.func91 ?_;refine W ?_;refine Z1 Z2 rfl ?_;rintro _ w1 ⟨b2,rfl,cr,e2,hS⟩;have n2:b2≠b:=by have:=hp.lt;omega
 have fO:w.heap.size<=b2:=cr;replace hm:=hS.cell (by simp) hm;replace hp:=hp.up hS;replace hS:=hS.mono (S':=[b]) (by simp);refine W ?_;rcases hU:Z0P l [114,117,108,101] i o with ⟨a,c⟩|⟨u1,i1,o1⟩
 refine ZV rfl (Zg rfl rfl) (PC.falls (JO b tv l hL [114,117,108,101] (by decide) i o _ hp) hU hS) rfl ?_;intro wz bT;focus repeat'(first|refine Zj ?_|refine Zh ?_)
 refine ZH ?_;exact PC.err bT;refine CM (Zg rfl rfl) (PC.goes (JO b tv l hL [114,117,108,101] (by decide) i o _ hp) hU) ?_;rintro _ wn1 ⟨rfl,cH,hT⟩;replace hm:=Jy hm aW hT;replace e2:=e2.ext hT (by simpa using n2);replace hS:=hS.trans hT;clear hT hp;have hp:=cH;clear cH hU;refine W ?_;simp only [Out.bind];rcases hU:Z2k l i1 o1 with ⟨a,c⟩|⟨u2,i2,o2⟩
 refine ZV rfl (ZP rfl) (PC.falls (Z5G b tv l hL i1 o1 m _ hm hp) hU hS) rfl ?_;intro wz bT;focus repeat'(first|refine Zj ?_|refine Zh ?_)
 refine ZH ?_;exact PC.err bT;refine CL (PC.goes (Z5G b tv l hL i1 o1 m _ hm hp) hU) ?_;rintro _ wn2 ⟨rfl,cH,hT⟩;replace hm:=Jy hm aW hT;replace e2:=e2.ext hT (by simpa using n2);replace hS:=hS.trans hT;clear hT hp;have hp:=cH;clear cH hU;apply Z8 (vs:=[(0,str u2)]) rfl (ZmH _) rfl;refine Z1 Z2 rfl ?_;rintro _ wa ⟨b3,rfl,dV,e3,hT⟩;have n32:b3≠b2:=by have:=e2.lt;omega
 have n3:b3≠b:=by have:=hp.lt;omega
 have n31:b3≠2:=by have:=block_lt_of_cell hm;simp at this;omega
 have eD:w.heap.size<=b3:=Xg hS.size dV;refine SB (us:=rlC ⟨u2,0,[],JS,JS,[],[]⟩ (.N) (.N)) (Zo6 ⟨u2,0,[],JS,JS,[],[]⟩ (J0 [] w) (J0 [] w)) e3 ?_;rintro _ wb ⟨aq,e3'⟩;replace hT:=hT.ow aq;clear aq e3;have e3:=e3';clear e3';replace hp:=hp.up hT;replace e2:=e2.up hT;replace hm:=hT.cell (by simp) hm;replace hS:=hS.trans hT.mn;clear hT;have bV:∀ c∈b3 :: b2 :: X,c<wb.heap.size:=λc hc=>by
  rcases Xb.1 hc with rfl|hc
  exact e3.lt;rcases Xb.1 hc with rfl|hc
  exact e2.lt;have:=hX c hc;have:=hS.size;omega
 have cx:SlV (α:=Nd) (b3 :: b2 :: X) wb (.N) JS.kids:=J0 _ _;have cm:SlV (α:=Nd) (b3 :: b2 :: X) wb (.N) JS.kids:=J0 _ _;refine W ?_;simp only;rcases hU:Z0P l [102,114,111,109] i2 o2 with ⟨a,c⟩|⟨u3,i3,o3⟩
 refine ZV rfl (Zg rfl rfl) (PC.falls (JO b tv l hL [102,114,111,109] (by decide) i2 o2 _ hp) hU hS) rfl ?_;intro wz bT;focus repeat'(first|refine Zj ?_|refine Zh ?_)
 refine ZH ?_;exact PC.err bT;refine CM (Zg rfl rfl) (PC.goes (JO b tv l hL [102,114,111,109] (by decide) i2 o2 _ hp) hU) ?_;rintro _ wn3 ⟨rfl,cH,hT⟩;replace hm:=Jy hm aW hT;replace e2:=e2.ext hT (by simpa using n2);replace e3:=e3.ext hT (by simpa using n3);replace cx:=cx.ext (X':=b3 :: b2 :: X) hT (λc hc=>by simp at hc;subst hc;simp [bQ]) (λc hc=>.inl hc);replace cm:=cm.ext (X':=b3 :: b2 :: X) hT (λc hc=>by simp at hc;subst hc;simp [bQ]) (λc hc=>.inl hc);replace hS:=hS.trans hT;replace bV:=λc hc=>Xa (bV c hc) hT.size;clear hT hp;have hp:=cH;clear cH hU;refine W ?_;simp only;rcases hU:Z34 l 3 i3 o3 with ⟨a,c⟩|⟨u4,i4,o4⟩
 refine ZV rfl (Zg rfl rfl) (PC.falls (Z4u b tv l hL 3 (by decide) i3 o3 _ hp) hU hS) rfl ?_;intro wz bT;focus repeat'(first|refine Zj ?_|refine Zh ?_)
 refine ZH ?_;exact PC.err bT;refine CM (Zg rfl rfl) (PC.goes (Z4u b tv l hL 3 (by decide) i3 o3 _ hp) hU) ?_;rintro _ wn4 ⟨rfl,cH,hT⟩;replace hm:=Jy hm aW hT;replace e2:=e2.ext hT (by simpa using n2);replace e3:=e3.ext hT (by simpa using n3);replace cx:=cx.ext (X':=b3 :: b2 :: X) hT (λc hc=>by simp at hc;subst hc;simp [bQ]) (λc hc=>.inl hc);replace cm:=cm.ext (X':=b3 :: b2 :: X) hT (λc hc=>by simp at hc;subst hc;simp [bQ]) (λc hc=>.inl hc);replace hS:=hS.trans hT;replace bV:=λc hc=>Xa (bV c hc) hT.size;clear hT hp;have hp:=cH;clear cH hU;refine Z9 (ZbR rfl (ZsL _)) rfl ?_;refine W ?_;refine S1 (u:=.I u4.num) e3 ?_;rintro _ ws4 ⟨hT,e3'⟩;replace e3:Blk ws4 b3 99 (rlC ⟨u2,u4.num,[],JS,JS,[],[]⟩ (.N) (.N)):=e3';clear e3';replace e2:=e2.ext hT (by simpa using n32.symm);replace hm:=hT.cell (by simpa using n31.symm) hm;replace hS:=hS.own hT (λc hc=>by simp at hc;subst hc;exact .inr eD);replace hp:Pd ws4 b tv l i4 o4:=by
  obtain ⟨g1,g2,g3,g4,g5⟩:=hp;exact ⟨g1.ext hT (by simpa using n3.symm),ba.ext hS (λc hc=>hc) (λc hc=>.inl hc),g3,g4,g5⟩
 replace bV:=λc hc=>Xa (bV c hc) hT.size;replace cx:=cx.ext (X':=b3 :: b2 :: X) hT (λc hc=>by simp at hc;simp [hc]) (λc hc=>.inl hc);replace cm:=cm.ext (X':=b3 :: b2 :: X) hT (λc hc=>by simp at hc;simp [hc]) (λc hc=>.inl hc);refine W ?_;simp only;rcases hU:Z0P l [123] i4 o4 with ⟨a,c⟩|⟨u5,i5,o5⟩
 refine ZV rfl (Zg rfl rfl) (PC.falls (JO b tv l hL [123] (by decide) i4 o4 _ hp) hU hS) rfl ?_;intro wz bT;focus repeat'(first|refine Zj ?_|refine Zh ?_)
 refine ZH ?_;exact PC.err bT;refine CM (Zg rfl rfl) (PC.goes (JO b tv l hL [123] (by decide) i4 o4 _ hp) hU) ?_;rintro _ wn5 ⟨rfl,cH,hT⟩;replace hm:=Jy hm aW hT;replace e2:=e2.ext hT (by simpa using n2);replace e3:=e3.ext hT (by simpa using n3);replace cx:=cx.ext (X':=b3 :: b2 :: X) hT (λc hc=>by simp at hc;subst hc;simp [bQ]) (λc hc=>.inl hc);replace cm:=cm.ext (X':=b3 :: b2 :: X) hT (λc hc=>by simp at hc;subst hc;simp [bQ]) (λc hc=>.inl hc);replace hS:=hS.trans hT;replace bV:=λc hc=>Xa (bV c hc) hT.size;clear hT hp;have hp:=cH;clear cH hU;refine W ?_;refine CL (Z0S b tv l i5 o5 _ hp) ?_;rintro _ wx5 ⟨rfl,hT⟩;replace hp:=hp.up hT;replace e2:=e2.up hT;replace e3:=e3.up hT;replace cx:=cx.up hT;replace cm:=cm.up hT;replace hm:=hT.cell (by simp) hm;replace hS:=hS.trans hT.mn;replace bV:=λc hc=>Xa (bV c hc) hT.size;clear hT;simp only;by_cases ji:(cur l i5).text=[111,110]
 rotate_left
 . rw [if_neg ji]
   (refine QP ?_ ?_<;>intro hc)
   refine ZV rfl (Zg rfl rfl) (Z9C b tv l i5 o5 20 _ w hp hS) rfl ?_;intro wz bT;focus repeat'(first|refine Zj ?_|refine Zh ?_)
   refine ZH ?_;exact PC.fail bT;all_goals exact absurd ji (by assumption)
 rw [if_pos ji]
 (refine QP ?_ ?_<;>intro hc)
 exact absurd ji (by assumption);refine Z9 (Z0T rfl) rfl ?_;rcases hU:Z1G l [111,110] [] (Z2k l) i5 o5 with ⟨a,c⟩|⟨u6,i6,o6⟩
 refine ZV rfl (ZY rfl rfl rfl) (PC.falls (Z1R b tv l hL [111,110] (by decide) m i5 o5 _ aW hm hp) hU hS) rfl ?_;intro wz bT;focus repeat'(first|refine Zj ?_|refine Zh ?_)
 refine ZH ?_;exact PC.err bT;refine CM (ZY rfl rfl rfl) (PC.goes (Z1R b tv l hL [111,110] (by decide) m i5 o5 _ aW hm hp) hU) ?_;rintro _ wn6 ⟨rfl,cH,hT⟩;replace hm:=Jy hm aW hT;replace e2:=e2.ext hT (by simpa using n2);replace e3:=e3.ext hT (by simpa using n3);replace cx:=cx.ext (X':=b3 :: b2 :: X) hT (λc hc=>by simp at hc;subst hc;simp [bQ]) (λc hc=>.inl hc);replace cm:=cm.ext (X':=b3 :: b2 :: X) hT (λc hc=>by simp at hc;subst hc;simp [bQ]) (λc hc=>.inl hc);replace hS:=hS.trans hT;replace bV:=λc hc=>Xa (bV c hc) hT.size;clear hT hp;have hp:=cH;clear cH hU;refine W ?_;refine S1 (u:=str u6) e3 ?_;rintro _ ws6 ⟨hT,e3'⟩;replace e3:Blk ws6 b3 99 (rlC ⟨u2,u4.num,u6,JS,JS,[],[]⟩ (.N) (.N)):=e3';clear e3';replace e2:=e2.ext hT (by simpa using n32.symm);replace hm:=hT.cell (by simpa using n31.symm) hm;replace hS:=hS.own hT (λc hc=>by simp at hc;subst hc;exact .inr eD);replace hp:Pd ws6 b tv l i6 o6:=by
  obtain ⟨g1,g2,g3,g4,g5⟩:=hp;exact ⟨g1.ext hT (by simpa using n3.symm),ba.ext hS (λc hc=>hc) (λc hc=>.inl hc),g3,g4,g5⟩
 replace bV:=λc hc=>Xa (bV c hc) hT.size;replace cx:=cx.ext (X':=b3 :: b2 :: X) hT (λc hc=>by simp at hc;simp [hc]) (λc hc=>.inl hc);replace cm:=cm.ext (X':=b3 :: b2 :: X) hT (λc hc=>by simp at hc;simp [hc]) (λc hc=>.inl hc);refine W ?_;refine Z9 (Z0T rfl) rfl ?_;simp only;rcases hU:Z1G l [105,102] JS (Z1Z l) i6 o6 with ⟨a,c⟩|⟨u7,i7,o7⟩
 refine ZV rfl (ZY rfl rfl rfl) (PC.falls (Z4v (b3 :: b2 :: X) b tv l hL [105,102] (by decide) m i6 o6 _ aW (by simp [bQ]) bV hm hp) hU hS) rfl ?_;intro wz bT;focus repeat'(first|refine Zj ?_|refine Zh ?_)
 refine ZH ?_;exact PC.err bT;refine CM (ZY rfl rfl rfl) (PC.goes (Z4v (b3 :: b2 :: X) b tv l hL [105,102] (by decide) m i6 o6 _ aW (by simp [bQ]) bV hm hp) hU) ?_;rintro _ wn7 ⟨⟨kx7,rfl,mV⟩,cH,hT⟩;replace hm:=Jy hm aW hT;replace e2:=e2.ext hT (by simpa using n2);replace e3:=e3.ext hT (by simpa using n3);replace cx:=cx.ext (X':=b3 :: b2 :: X) hT (λc hc=>by simp at hc;subst hc;simp [bQ]) (λc hc=>.inl hc);replace cm:=cm.ext (X':=b3 :: b2 :: X) hT (λc hc=>by simp at hc;subst hc;simp [bQ]) (λc hc=>.inl hc);replace hS:=hS.trans hT;replace bV:=λc hc=>Xa (bV c hc) hT.size;clear hT hp;have hp:=cH;clear cH hU;refine W ?_;refine Z4 (Z18 (us:=ndC u7 kx7) rfl rfl rfl rfl (Zi mV) e3 (by simp)) ?_;rintro _ ws7 ⟨hT,e3'⟩;replace e3:Blk ws7 b3 99 (rlC ⟨u2,u4.num,u6,u7,JS,[],[]⟩ kx7 (.N)):=e3';clear e3';replace e2:=e2.ext hT (by simpa using n32.symm);replace hm:=hT.cell (by simpa using n31.symm) hm;replace hS:=hS.own hT (λc hc=>by simp at hc;subst hc;exact .inr eD);replace hp:Pd ws7 b tv l i7 o7:=by
  obtain ⟨g1,g2,g3,g4,g5⟩:=hp;exact ⟨g1.ext hT (by simpa using n3.symm),ba.ext hS (λc hc=>hc) (λc hc=>.inl hc),g3,g4,g5⟩
 replace bV:=λc hc=>Xa (bV c hc) hT.size;replace mV:=mV.ext (X':=b3 :: b2 :: X) hT (λc hc=>by simp at hc;simp [hc]) (λc hc=>.inl hc);replace cm:=cm.ext (X':=b3 :: b2 :: X) hT (λc hc=>by simp at hc;simp [hc]) (λc hc=>.inl hc);clear hT cx;refine W ?_
 refine JJ (σ:=Value) (λ_=>[(0,pQ b),(2,pQ b2),(3,pQ b3)])
  (λq w'=>Blk w' b3 99 (rlC ⟨u2,u4.num,u6,if u7.kind=0 then .mk 2 1 [] [] else u7,JS,[],[]⟩ q (.N))/\SlV (b3 :: b2 :: X) w' q (if u7.kind=0 then Nd.mk 2 1 [] [] else u7).kids/\Stp [b3] ws7 w') ?_ ?_
 by_cases k0:u7.kind=0
 . rw [if_pos k0]
   (refine QP ?_ ?_<;>intro hc)
   all_goals try exact absurd k0 (by assumption)
   apply Z8 (vs:=[(0,.I 2),(1,.I 1)]) rfl (ZaI _ _) rfl;refine W ?_;refine Z4 (Z18 (us:=ndC (.mk 2 1 [] []) (.N)) rfl rfl rfl rfl (Zi (x:=.mk 2 1 [] []) (J0 [] w)) e3 (by simp)) ?_;rintro _ wy ⟨hT,e3'⟩;refine W ?_;exact QT (.N) ⟨e3',J0 _ _,hT⟩
 . rw [if_neg k0]
   (refine QP ?_ ?_<;>intro hc)
   all_goals try exact absurd (by assumption) k0
   exact QT kx7 ⟨e3,mV,Stp.refl _ _⟩
 clear e3 mV;generalize qu:(if u7.kind=0 then Nd.mk 2 1 [] [] else u7)=cnd;rintro ki ws7 ⟨e3,cx,hT⟩;replace e2:=e2.ext hT (by simpa using n32.symm);replace hm:=hT.cell (by simpa using n31.symm) hm;replace hS:=hS.own hT (λc hc=>by simp at hc;subst hc;exact .inr eD);replace hp:Pd ws7 b tv l i7 o7:=by
  obtain ⟨g1,g2,g3,g4,g5⟩:=hp;exact ⟨g1.ext hT (by simpa using n3.symm),ba.ext hS (λc hc=>hc) (λc hc=>.inl hc),g3,g4,g5⟩
 replace bV:=λc hc=>Xa (bV c hc) hT.size;replace cm:=cm.ext (X':=b3 :: b2 :: X) hT (λc hc=>by simp at hc;simp [hc]) (λc hc=>.inl hc);clear hT;refine W ?_;refine CL (Z0S b tv l i7 o7 _ hp) ?_;rintro _ wx7 ⟨rfl,hT⟩;replace hp:=hp.up hT;replace e2:=e2.up hT;replace e3:=e3.up hT;replace cx:=cx.up hT;replace cm:=cm.up hT;replace hm:=hT.cell (by simp) hm;replace hS:=hS.trans hT.mn;replace bV:=λc hc=>Xa (bV c hc) hT.size;clear hT;simp only;by_cases fP:(cur l i7).text=[100,117,101]
 rotate_left
 . rw [if_neg fP]
   (refine QP ?_ ?_<;>intro hc)
   refine ZV rfl (Zg rfl rfl) (Z9C b tv l i7 o7 20 _ w hp hS) rfl ?_;intro wz bT;focus repeat'(first|refine Zj ?_|refine Zh ?_)
   refine ZH ?_;exact PC.fail bT;all_goals exact absurd fP (by assumption)
 rw [if_pos fP]
 (refine QP ?_ ?_<;>intro hc)
 exact absurd fP (by assumption);refine Z9 (Z0T rfl) rfl ?_;rcases hU:Z1G l [100,117,101] JS (Z1Z l) i7 o7 with ⟨a,c⟩|⟨u8,i8,o8⟩
 refine ZV rfl (ZY rfl rfl rfl) (PC.falls (Z4v (b3 :: b2 :: X) b tv l hL [100,117,101] (by decide) m i7 o7 _ aW (by simp [bQ]) bV hm hp) hU hS) rfl ?_;intro wz bT;focus repeat'(first|refine Zj ?_|refine Zh ?_)
 refine ZH ?_;exact PC.err bT;refine CM (ZY rfl rfl rfl) (PC.goes (Z4v (b3 :: b2 :: X) b tv l hL [100,117,101] (by decide) m i7 o7 _ aW (by simp [bQ]) bV hm hp) hU) ?_;rintro _ wn8 ⟨⟨kx8,rfl,qw⟩,cH,hT⟩;replace hm:=Jy hm aW hT;replace e2:=e2.ext hT (by simpa using n2);replace e3:=e3.ext hT (by simpa using n3);replace cx:=cx.ext (X':=b3 :: b2 :: X) hT (λc hc=>by simp at hc;subst hc;simp [bQ]) (λc hc=>.inl hc);replace cm:=cm.ext (X':=b3 :: b2 :: X) hT (λc hc=>by simp at hc;subst hc;simp [bQ]) (λc hc=>.inl hc);replace hS:=hS.trans hT;replace bV:=λc hc=>Xa (bV c hc) hT.size;clear hT hp;have hp:=cH;clear cH hU;refine W ?_;refine Z4 (Z18 (us:=ndC u8 kx8) rfl rfl rfl rfl (Zi qw) e3 (by simp)) ?_;rintro _ ws8 ⟨hT,e3'⟩;replace e3:Blk ws8 b3 99 (rlC ⟨u2,u4.num,u6,cnd,u8,[],[]⟩ ki kx8):=e3';clear e3';replace e2:=e2.ext hT (by simpa using n32.symm);replace hm:=hT.cell (by simpa using n31.symm) hm;replace hS:=hS.own hT (λc hc=>by simp at hc;subst hc;exact .inr eD);replace hp:Pd ws8 b tv l i8 o8:=by
  obtain ⟨g1,g2,g3,g4,g5⟩:=hp;exact ⟨g1.ext hT (by simpa using n3.symm),ba.ext hS (λc hc=>hc) (λc hc=>.inl hc),g3,g4,g5⟩
 replace bV:=λc hc=>Xa (bV c hc) hT.size;clear cm;have cm:=qw.ext (X':=b3 :: b2 :: X) hT (λc hc=>by simp at hc;simp [hc]) (λc hc=>.inl hc);replace cx:=cx.ext (X':=b3 :: b2 :: X) hT (λc hc=>by simp at hc;simp [hc]) (λc hc=>.inl hc);clear hT qw;refine W ?_;refine Z9 (Z0T rfl) rfl ?_;simp only;rcases hU:Z1G l [117,110,108,101,115,115] [] (Z2k l) i8 o8 with ⟨a,c⟩|⟨u9,i9,o9⟩
 refine ZV rfl (ZY rfl rfl rfl) (PC.falls (Z1R b tv l hL [117,110,108,101,115,115] (by decide) m i8 o8 _ aW hm hp) hU hS) rfl ?_;intro wz bT;focus repeat'(first|refine Zj ?_|refine Zh ?_)
 refine ZH ?_;exact PC.err bT;refine CM (ZY rfl rfl rfl) (PC.goes (Z1R b tv l hL [117,110,108,101,115,115] (by decide) m i8 o8 _ aW hm hp) hU) ?_;rintro _ wn9 ⟨rfl,cH,hT⟩;replace hm:=Jy hm aW hT;replace e2:=e2.ext hT (by simpa using n2);replace e3:=e3.ext hT (by simpa using n3);replace cx:=cx.ext (X':=b3 :: b2 :: X) hT (λc hc=>by simp at hc;subst hc;simp [bQ]) (λc hc=>.inl hc);replace cm:=cm.ext (X':=b3 :: b2 :: X) hT (λc hc=>by simp at hc;subst hc;simp [bQ]) (λc hc=>.inl hc);replace hS:=hS.trans hT;replace bV:=λc hc=>Xa (bV c hc) hT.size;clear hT hp;have hp:=cH;clear cH hU;refine W ?_;refine S1 (u:=str u9) e3 ?_;rintro _ ws9 ⟨hT,e3'⟩;replace e3:Blk ws9 b3 99 (rlC ⟨u2,u4.num,u6,cnd,u8,u9,[]⟩ ki kx8):=e3';clear e3';replace e2:=e2.ext hT (by simpa using n32.symm);replace hm:=hT.cell (by simpa using n31.symm) hm;replace hS:=hS.own hT (λc hc=>by simp at hc;subst hc;exact .inr eD);replace hp:Pd ws9 b tv l i9 o9:=by
  obtain ⟨g1,g2,g3,g4,g5⟩:=hp;exact ⟨g1.ext hT (by simpa using n3.symm),ba.ext hS (λc hc=>hc) (λc hc=>.inl hc),g3,g4,g5⟩
 replace bV:=λc hc=>Xa (bV c hc) hT.size;replace cx:=cx.ext (X':=b3 :: b2 :: X) hT (λc hc=>by simp at hc;simp [hc]) (λc hc=>.inl hc);replace cm:=cm.ext (X':=b3 :: b2 :: X) hT (λc hc=>by simp at hc;simp [hc]) (λc hc=>.inl hc);refine W ?_;refine Z9 (Z0T rfl) rfl ?_;simp only;rcases hU:Z1G l [101,108,115,101] [] (Z2k l) i9 o9 with ⟨a,c⟩|⟨u10,i10,o10⟩
 refine ZV rfl (ZY rfl rfl rfl) (PC.falls (Z1R b tv l hL [101,108,115,101] (by decide) m i9 o9 _ aW hm hp) hU hS) rfl ?_;intro wz bT;focus repeat'(first|refine Zj ?_|refine Zh ?_)
 refine ZH ?_;exact PC.err bT;refine CM (ZY rfl rfl rfl) (PC.goes (Z1R b tv l hL [101,108,115,101] (by decide) m i9 o9 _ aW hm hp) hU) ?_;rintro _ wn10 ⟨rfl,cH,hT⟩;replace hm:=Jy hm aW hT;replace e2:=e2.ext hT (by simpa using n2);replace e3:=e3.ext hT (by simpa using n3);replace cx:=cx.ext (X':=b3 :: b2 :: X) hT (λc hc=>by simp at hc;subst hc;simp [bQ]) (λc hc=>.inl hc);replace cm:=cm.ext (X':=b3 :: b2 :: X) hT (λc hc=>by simp at hc;subst hc;simp [bQ]) (λc hc=>.inl hc);replace hS:=hS.trans hT;replace bV:=λc hc=>Xa (bV c hc) hT.size;clear hT hp;have hp:=cH;clear cH hU;refine W ?_;refine S1 (u:=str u10) e3 ?_;rintro _ ws10 ⟨hT,e3'⟩;replace e3:Blk ws10 b3 99 (rlC ⟨u2,u4.num,u6,cnd,u8,u9,u10⟩ ki kx8):=e3';clear e3';replace e2:=e2.ext hT (by simpa using n32.symm);replace hm:=hT.cell (by simpa using n31.symm) hm;replace hS:=hS.own hT (λc hc=>by simp at hc;subst hc;exact .inr eD);replace hp:Pd ws10 b tv l i10 o10:=by
  obtain ⟨g1,g2,g3,g4,g5⟩:=hp;exact ⟨g1.ext hT (by simpa using n3.symm),ba.ext hS (λc hc=>hc) (λc hc=>.inl hc),g3,g4,g5⟩
 replace bV:=λc hc=>Xa (bV c hc) hT.size;replace cx:=cx.ext (X':=b3 :: b2 :: X) hT (λc hc=>by simp at hc;simp [hc]) (λc hc=>.inl hc);replace cm:=cm.ext (X':=b3 :: b2 :: X) hT (λc hc=>by simp at hc;simp [hc]) (λc hc=>.inl hc);refine W ?_;simp only;rcases hU:Z0P l [125] i10 o10 with ⟨a,c⟩|⟨u11,i11,o11⟩
 refine ZV rfl (Zg rfl rfl) (PC.falls (JO b tv l hL [125] (by decide) i10 o10 _ hp) hU hS) rfl ?_;intro wz bT;focus repeat'(first|refine Zj ?_|refine Zh ?_)
 refine ZH ?_;exact PC.err bT;refine CM (Zg rfl rfl) (PC.goes (JO b tv l hL [125] (by decide) i10 o10 _ hp) hU) ?_;rintro _ wn11 ⟨rfl,cH,hT⟩;replace hm:=Jy hm aW hT;replace e2:=e2.ext hT (by simpa using n2);replace e3:=e3.ext hT (by simpa using n3);replace cx:=cx.ext (X':=b3 :: b2 :: X) hT (λc hc=>by simp at hc;subst hc;simp [bQ]) (λc hc=>.inl hc);replace cm:=cm.ext (X':=b3 :: b2 :: X) hT (λc hc=>by simp at hc;subst hc;simp [bQ]) (λc hc=>.inl hc);replace hS:=hS.trans hT;replace bV:=λc hc=>Xa (bV c hc) hT.size;clear hT hp;have hp:=cH;clear cH hU;refine W ?_;simp only;refine SB (us:=rlC ⟨u2,u4.num,u6,cnd,u8,u9,u10⟩ ki kx8) (Zo6 ⟨u2,u4.num,u6,cnd,u8,u9,u10⟩ cx cm) e2 ?_;rintro _ wz ⟨hT,e2'⟩;refine W ?_;rw [qu];refine Zk rfl rfl rfl e2' rfl ?_;obtain ⟨g1,g2,g3,g4,g5⟩:=hp;have cE:=hS.own hT (λc hc=>by simp at hc;subst hc;exact .inr fO);refine PC.ok ⟨ki,kx8,rfl,?_,?_⟩ ⟨g1.ext hT (by simpa using n2.symm),ba.ext cE (λc hc=>hc) (λc hc=>.inl hc),g3,g4,g5⟩ cE;exact (cx.ext (X':=b3 :: b2 :: X) hT (λc hc=>by simp at hc;simp [hc]) (λc hc=>.inl hc)).wk (λc hc=>by simp [hc]);exact (cm.ext (X':=b3 :: b2 :: X) hT (λc hc=>by simp at hc;simp [hc]) (λc hc=>.inl hc)).wk (λc hc=>by simp [hc])
end Go.Proofs.YtipfkbkkndacjaaGreatDoor
namespace Go.Eng
open Go Go.RowKit Go.Proofs
end Go.Eng
namespace Go.Proofs.YtipfkbkkndacjaaGreatDoor
open Go Go.Eng Go.RowKit Go.Proofs
theorem ZjA {X:List Nat} {w} {v:Value} {l:List Rul} {i:Nat} (h:SlV X w v l) (hi:i<l.length):∃ ki kd,SlV X w ki l[i].cnd.kids/\SlV X w kd l[i].due.kids/\∀ j u,(rlC l[i] ki kd)[j]?=some u->w.cell? (ZM v i 13 j)=some u:=by
 obtain ⟨cs,hr,hc⟩:=h.cell hi;obtain ⟨ki,kd,rfl,h1,h2⟩:=hr;exact ⟨ki,kd,h1,h2,hc⟩
theorem Z8e {P:Program} {n:Nat} {e:Env} {w} {d:Option Nat} {ty:TypeId} {pos:String} {af:Array Edge} {g:Option (Nat×Bool)} {X:List Nat} {v:Value} {l:List Rul} {i:Nat} {ki kd:Value} {x:Operand} {t:TypeId} {D:TypeDesc} [hu:Und P t D] (hA:Z0V D=true) [bI:Siz P t 13] (hx:ev e x=some (.pointer (some (ZM v i 13 0)))) (hs:SlV X w v l) (hi:i<l.length)
 (hc:∀ j u,(rlC l[i] ki kd)[j]?=some u->w.cell? (ZM v i 13 j)=some u) :
 PR P n ⟨d,.load t x,ty,pos,af,g⟩ e w (.agg (rlC l[i] ki kd).toArray):=by
 obtain ⟨p,l',c,rfl⟩:=hs.isSome hi;refine Z3B (cs:=rlC l[i] ki kd) hA hx rfl (λj u hu=>?_);have:=hc j u hu;simpa [ZM] using this
abbrev Z5H:Nd:=.mk 2 1 [] []
theorem ZdT (X:List Nat) (w):CC 103 #[] w λr w'=>NdV X w' r Z5H/\Stp [] w w':=by
 refine cW0 2 Tryz.func103 ?_;refine W ?_;refine Z1 Z2 rfl ?_;rintro _ w1 ⟨b,rfl,hb,ac,hS⟩;refine W ?_;apply Z8 (vs:=[(0,.I 2),(1,.I 1)]) rfl (Z3O _ _) rfl;have hy:SlV (α:=Nd) X w1 (.N) []:=Zm _ _;refine SB (us:=ndC Z5H (.N)) (Zi (x:=Z5H) hy) ac ?_;rintro _ w2 ⟨ah,aP⟩;have hT:=hS.ow ah;refine W ?_;refine Zk rfl rfl rfl aP rfl ?_;exact .mk ⟨⟨_,rfl,Zm _ _⟩,hT⟩
theorem ZdU (v:Value) (r:Rul) (w) (hv:Zg7 [] w v r) (h1:ZG r.cnd<=1000) (h2:ZG r.due<=1000) :
 CC 68 #[v] w λr' w'=>r'=.I (Z0J r)/\Stp [] w w':=by
 obtain ⟨ki,kd,rfl,hi,hd⟩:=hv;have oE:=Z0C r.cnd;have lQ:=Z0C r.due;refine cW1 69 Tryz.func68 ?_;refine W ?_;refine Z1 (Zp rfl) rfl ?_;rintro _ w1 ⟨b,rfl,hb,ac,hS⟩;replace ac:Blk w1 b _ (rlC r ki kd):=ac;refine W ?_;refine CL (Z1v r.name _) ?_;rintro _ w2 ⟨rfl,hT⟩;replace ac:=ac.up hT;replace hS:=hS.trans hT;clear hT;refine Z5C (σ:=Bool) (λq=>[(1,pQ b),(2,.I 0),(38,.B q)]) (λq w'=>Blk w' b 99 (rlC r ki kd)/\Stp [] w w'/\q=!Jf r) ?_ ?_
 . cases hA:ZE r.name with
   | false=>
     refine W ?_;exact QT true ⟨ac,hS,by simp [Jf, *]⟩
   | true=>
     refine W ?_;refine CL (Z1v r.on _) ?_;rintro _ w2 ⟨rfl,hT⟩;replace ac:=ac.up hT;replace hS:=hS.trans hT;clear hT;cases hB:ZE r.on with
     | false=>
       refine W ?_;exact QT true ⟨ac,hS,by simp [Jf, *]⟩
     | true=>
       repeat'(first|refine W1 ?_|omega|refine VG ?_ ?_<;>intro hg|refine VC ?_ ?_<;>intro hc)
       . refine CL (Z1v r.unl _) ?_
         rintro _ w2 ⟨rfl,hT⟩;replace ac:=ac.up hT;replace hS:=hS.trans hT;clear hT;cases hC:ZE r.unl with
         | false=>
           refine W ?_;exact QT true ⟨ac,hS,by simp [Jf, *]⟩
         | true=>
           (refine QP ?_ ?_<;>intro hg)
           . refine CL (Z1v r.els _) ?_
             rintro _ w2 ⟨rfl,hT⟩;replace ac:=ac.up hT;replace hS:=hS.trans hT;clear hT;cases hD:ZE r.els with
             | false=>
               refine W ?_;exact QT true ⟨ac,hS,by simp [Jf, *]⟩
             | true=>
               refine W ?_;exact QT false ⟨ac,hS,by simp [Jf, *]⟩
           exact QT false ⟨ac,hS,by simp [Jf, *]⟩
       . refine CL (Z1v r.els _) ?_
         rintro _ w2 ⟨rfl,hT⟩;replace ac:=ac.up hT;replace hS:=hS.trans hT;clear hT;cases hD:ZE r.els with
         | false=>
           refine W ?_;exact QT true ⟨ac,hS,by simp [Jf, *]⟩
         | true=>
           refine W ?_;exact QT false ⟨ac,hS,by simp [Jf, *]⟩
       exact QT false ⟨ac,hS,by simp [Jf, *]⟩
 rintro q w3 ⟨ac,hS,hq⟩
 try dsimp only at hq ⊢
 unfold Z0J;cases fA:Jf r with
 | false=>
   rw [fA] at hq;subst hq;refine RT ?_;exact ⟨rfl,hS⟩
 | true=>
   rw [fA] at hq;subst hq;rw [if_neg (by decide)];refine W ?_;by_cases hr:r.frm<0\/r.frm > 3652058
   . rw [if_pos hr]
     repeat'(first|refine W1 ?_|omega|refine VG ?_ ?_<;>intro hg|refine VC ?_ ?_<;>intro hc)
     all_goals
      refine RU ?_;exact ⟨rfl,hS⟩
   rw [if_neg hr];refine QO ?_;apply Z9 (Zn (us:=ndC r.cnd ki) rfl rfl ac rfl rfl) rfl;refine W ?_;refine CM (ZP rfl) (Z7M [] _ r.cnd _ (Z3K _ h1) (by omega) ⟨ki,rfl,hi.up hS⟩) ?_;rintro _ w4 ⟨rfl,hT⟩;replace ac:=ac.up hT;replace hS:=hS.trans hT;clear hT;unfold Z1H;by_cases n1:Zz r.cnd<=12
   case neg=>
    simp only [if_neg n1];refine RT ?_;exact ⟨rfl,hS⟩
   simp only [if_pos n1];by_cases t1:Ze r.cnd=0;simp only [if_pos t1];refine RT ?_;exact ⟨rfl,hS⟩;simp only [if_neg t1];by_cases u1:Ze r.cnd=2
   case neg=>
    simp only [if_neg u1];refine RT ?_;exact ⟨rfl,hS⟩
   simp only [if_pos u1];refine QO ?_;apply Z9 (Zn (us:=ndC r.due kd) rfl rfl ac rfl rfl) rfl;refine W ?_;refine CM (ZP rfl) (Z7M [] _ r.due _ (Z3K _ h2) (by omega) ⟨kd,rfl,hd.up hS⟩) ?_;rintro _ w5 ⟨rfl,hT⟩;replace hS:=hS.trans hT;clear hT;by_cases n2:Zz r.due<=12
   case neg=>
    simp only [if_neg n2];refine RT ?_;exact ⟨rfl,hS⟩
   simp only [if_pos n2];by_cases t2:Ze r.due=0;simp only [if_pos t2];refine RT ?_;exact ⟨rfl,hS⟩;simp only [if_neg t2];by_cases u2:Ze r.due=3
   case neg=>
    simp only [if_neg u2];refine RT ?_;exact ⟨rfl,hS⟩
   simp only [if_pos u2];refine RT ?_;exact ⟨rfl,hS⟩
abbrev ZsN:Nd:=.mk 0 0 [] []
abbrev Jl:Value:=.N
theorem ZaK (r:Rul) {X Y:List Nat} {w w':World} {ki kd:Value} (h1:SlV X w ki r.cnd.kids) (h2:SlV Y w' kd r.due.kids):∀ c∈rlC r ki kd,c.oneCell'=true:=by
 intro c hc;have e1:=h1.one;have e2:=h2.one;simp only [rlC,Xb,Xj,or_false] at hc;rcases hc with rfl|rfl|rfl|rfl|rfl|rfl|rfl|rfl|rfl|rfl|rfl|rfl|rfl<;>first|rfl|exact e1|exact e2
theorem Zo7:∀ d,d<=6->Z2y 181 1 d/\Z2y 104 2 d/\Z2y 105 3 d:=by
 intro d
 induction d with
 | zero=>
   intro h;have ih':∀ e,0=e+1->Z2y 181 1 e/\Z2y 104 2 e/\Z2y 105 3 e:=λe he=>by omega
   exact ⟨Z5w _ h ih',Z7T _ h ih',Z7U _ h ih'⟩
 | succ d ih=>
   intro h;have ih':∀ e,d+1=e+1->Z2y 181 1 e/\Z2y 104 2 e/\Z2y 105 3 e:=λe he=>by
    obtain rfl:d=e:=by omega
    exact ih (by omega)
   exact ⟨Z5w _ h ih',Z7T _ h ih',Z7U _ h ih'⟩
def ZdV:List Str:=[[114,48],[114,49],[114,50],[114,51]]
def Jm:List Str:=[[99,108,97,105,109],[97,110,115,119,101,114],[109,111,116,105,111,110],[111,114,100,101,114],[97,112,112,101,97,108],[108,97,112,115,101]]
theorem Zg9 (q:Nat) (w) (hq:q<4):CC 12 #[.I (q:Int)] w λr w'=>(∃ s∈ZdV,r=str s)/\Stp [] w w':=by
 refine cW1 7 Tryz.func12 ?_;refine W ?_;refine CM (Zg rfl rfl) (Jo (q:Int) 4 _ (by decide) (by unfold I64;omega)) ?_;rintro _ w1 ⟨rfl,hS⟩;rw [if_neg (by omega),Ybt (by omega) (by omega)];refine CM (ZP rfl) (Z4W (q:Int) _ (by omega) (by omega)) ?_;rintro _ w2 ⟨rfl,hT⟩;have:q=0\/q=1\/q=2\/q=3:=by omega
 have hm:([114]++Lib.itoa (q:Int):Str)∈ZdV/\(Lib.itoa (q:Int)).length<=10:=by
  rcases this with rfl|rfl|rfl|rfl<;>(unfold Lib.itoa;rw [if_neg (by omega),Lib.decDigits,dif_pos (by decide)];decide)
 refine Z0A rfl rfl (by simp;omega) rfl ?_;refine RT ?_;exact ⟨⟨_,hm.1,rfl⟩,hS.trans hT⟩
theorem Z6o (q:Nat) (w) (hq:q<6):CC 28 #[.I (q:Int)] w λr w'=>(∃ s∈Jm,r=str s)/\Stp [] w w':=by
 refine cW1 10 Tryz.func28 ?_;refine W ?_;refine Z1 (Z0 (vs:=[(0,str [99,108,97,105,109]),(1,str [97,110,115,119,101,114]),(2,str [109,111,116,105,111,110]),(3,str [111,114,100,101,114]),(4,str [97,112,112,101,97,108]),(5,str [108,97,112,115,101])]) rfl (bS6 _ _ _ _ _ _)) rfl ?_;rintro v w1 hN;have hv:SlV [] w1 v Jm:=hN.slv (by simp) rfl rfl (by decide);have hS:=Z5.stp hN;clear hN;refine W ?_;refine CM (Zg rfl rfl) (Jo (q:Int) 6 _ (by decide) (by unfold I64;omega)) ?_;rintro _ w2 ⟨rfl,hT⟩;rw [if_neg (by omega),Ybt (by omega) (by omega)];replace hv:=hv.up hT;have cD:q<Jm.length:=by show q<6;exact hq
 refine RT ?_;exact ⟨⟨_,Xd cD,rfl⟩,hS.trans hT⟩
structure Z8f (r:RuleM):Prop where
 name:r.name∈ZdV
 frm:739606<=r.frm/\r.frm<739636
 on:r.on∈Jm
 cond:Gn 2 3 r.cond
 due:Gn 3 3 r.due
 unl:r.unl=[]\/r.unl∈Jm
 els:r.els=[]\/r.els∈Jm
theorem ZjB (a o:Str) (f k n:Int) (s:Str) (p:Option Addr) (l c:Nat) (w):(Instr.build 99 #[(0,str a),(1,.I f),(2,str o),(3,.agg #[.I k,.I n,str s,.slice p l c])]).run Tryz.prog w=.ok (.agg #[str a,.I f,str o,.I k,.I n,str s,.slice p l c,.I 0,.I 0,str [],.N,str [],str []]) w:=by kernel_rfl
theorem Zga (X:List Nat) (bm:Nat) (lv:Value) (l:List Int) (i:Nat) (w) (aA:Mk3 w bm lv i) (ax:SlV [bm] w lv l) (hl:∀ a∈l,I64 a) (hi:i<=50000) (hX:∀ b∈X,b<w.heap.size) :
 CC 67 #[pQ bm] w λr w'=>∃ (rl:RuleM) (i':Nat),Zg7 X w' r rl.rul/\Z8f rl/\Mk3 w' bm lv i'/\i'<=i+300/\Stp [bm] w w':=by
 have z4:szD 4=40:=by decide
 have z4':szD (3+1)=40:=z4;have gJ:=ax;have kG:=aA.lt;refine cW1 40 Tryz.func67 ?_;refine W ?_;refine Z1 Z2 rfl ?_;rintro _ w1 ⟨b2,rfl,cr,e2,hS⟩;have n2:b2≠bm:=by have:=aA.lt;omega
 replace aA:=aA.up hS;replace ax:=ax.up hS;replace hS:Stp [bm] w w1:=hS.mn;have l2:=e2.lt;refine W ?_;refine CM (Zg rfl rfl) (Zv bm lv l _ 4 _ (by decide) (by omega) aA ax hl) ?_;rintro _ wq ⟨q1,rfl,gU,aA,hT⟩;replace ax:=ax.ext hT (λ_ h=>h) (λ_ h=>.inl h);replace e2:=e2.ext hT (by simp;exact n2);replace hS:=hS.trans hT;clear hT;refine CM (ZP rfl) (Zg9 q1 _ (by omega)) ?_;rintro _ wq ⟨⟨nm,fA,rfl⟩,hT⟩;replace aA:=aA.up hT;replace ax:=ax.up hT;replace e2:=e2.up hT;replace hS:=hS.trans hT.mn;clear hT;refine W ?_;refine CM (Zg rfl rfl) (Zv bm lv l _ 30 _ (by decide) (by omega) aA ax hl) ?_;rintro _ wq ⟨q2,rfl,ip,aA,hT⟩;replace ax:=ax.ext hT (λ_ h=>h) (λ_ h=>.inl h);replace e2:=e2.ext hT (by simp;exact n2);replace hS:=hS.trans hT;clear hT;refine W ?_;refine CM (Zg rfl rfl) (Zv bm lv l _ 6 _ (by decide) (by omega) aA ax hl) ?_;rintro _ wq ⟨q3,rfl,sX,aA,hT⟩;replace ax:=ax.ext hT (λ_ h=>h) (λ_ h=>.inl h);replace e2:=e2.ext hT (by simp;exact n2);replace hS:=hS.trans hT;clear hT;refine CM (ZP rfl) (Z6o q3 _ (by omega)) ?_;rintro _ wq ⟨⟨on,ji,rfl⟩,hT⟩;replace aA:=aA.up hT;replace ax:=ax.up hT;replace e2:=e2.up hT;replace hS:=hS.trans hT.mn;clear hT;refine W ?_;refine CL (ZdT (b2 :: bm :: X) _) ?_;rintro _ wq ⟨⟨kt,rfl,ht⟩,hT⟩;obtain ⟨pt,ct,rfl,-⟩:=id ht;replace ht:SlV (b2 :: bm :: X) wq (.slice pt Z5H.kids.length ct) Z5H.kids:=ht;replace aA:=aA.up hT;replace ax:=ax.up hT;replace e2:=e2.up hT;replace hS:=hS.trans hT.mn;clear hT;refine W ?_;refine Z8 (vs:=[(0,str nm),(1,.I _),(2,str on),(3,.agg #[.I 2,.I 1,str [],.slice pt 0 ct])]) rfl (ZjB _ _ _ _ _ _ _ _ _) rfl ?_;refine Z1 Z2 rfl ?_;rintro _ wq ⟨b3,rfl,dV,e0,hT⟩;have pB:∀ c,c<w.heap.size->c<b3:=λc hc=>by have:=hS.size;omega
 have n3:b3≠bm:=by have:=aA.lt;omega
 have n23:b2≠b3:=by have:=e2.lt;omega
 have eD:w.heap.size<=b3:=Xg hS.size dV;refine SB (us:=rlC ⟨nm,739616+(q2:Int) - 10,on,Z5H,ZsN,[],[]⟩ (.slice pt 0 ct) Jl) (ZaK _ (X:=b2 :: bm :: X) ht (Zm [] wq)) e0 ?_;rintro _ wq ⟨aq,e3⟩;replace hT:=JN hT dV aq;clear aq e0;replace ht:SlV (b3 :: b2 :: bm :: X) wq (.slice pt Z5H.kids.length ct) Z5H.kids:=ht.ext hT (by simp) (λc hc=>by
  rcases Xb.1 hc with rfl|h
  exact .inr dV;exact .inl h)
 replace aA:=aA.up hT;replace ax:=ax.up hT;replace e2:=e2.up hT;replace hS:=hS.trans hT.mn;clear hT dV;have iV:739606<=739616+(q2:Int) - 10/\739616+(q2:Int) - 10<739636:=by omega
 generalize 739616+(q2:Int) - 10=fr at *;clear gU sX;refine W ?_;refine CM (Zg rfl rfl) (Zv bm lv l _ 3 _ (by decide) (by omega) aA ax hl) ?_;rintro _ wq ⟨q4,rfl,oq,aA,hT⟩;replace ax:=ax.ext hT (λ_ h=>h) (λ_ h=>.inl h);replace e2:=e2.ext hT (by simp;exact n2);replace e3:=e3.ext hT (by simp;exact n3);replace hS:=hS.trans hT;replace ht:=ht.ext hT (by simp) (λ_ h=>.inl h);clear hT;have bV:∀ (w':World),Stp [bm] w w'->(∃ cs,Blk w' b3 99 cs)->(∃ cs,Blk w' b2 99 cs)->∀ b∈b3 :: b2 :: bm :: X,b<w'.heap.size:=λw' h1 h2 h3 b hb=>by
  obtain ⟨_,h2⟩:=h2;obtain ⟨_,h3⟩:=h3;have:=h1.size;simp only [Xb] at hb;rcases hb with rfl|rfl|rfl|h
  exact h2.lt;exact h3.lt;omega;have:=hX b h;omega
 refine W ?_
 refine JJ (σ:=Nd×Value×Nat) (λ_=>[(0,pQ bm),(2,pQ b2),(3,pQ b3)])
  (λq w'=>Gn 2 3 q.1/\SlV (b3 :: b2 :: bm :: X) w' q.2.1 q.1.kids/\Mk3 w' bm lv q.2.2/\q.2.2<=i+124/\SlV [bm] w' lv l/\(∃ cs:List Value,cs.length=13/\Blk w' b2 99 cs)/\Blk w' b3 99 (rlC ⟨nm,fr,on,q.1,ZsN,[],[]⟩ q.2.1 Jl)/\Stp [bm] w w') ?_ ?_
 (refine QP ?_ ?_<;>intro hc)
 refine CM (Zg rfl rfl) ((Zo7 3 (by decide)).2.1 (b3 :: b2 :: bm :: X) _ bm lv l _ _ rfl aA ax hl (by rw [z4];omega) (bV _ hS ⟨_,e3⟩ ⟨_,e2⟩)) ?_;rintro _ wq ⟨y,i1,⟨ky,rfl,hy⟩,gy,aA,bJ,hT⟩;replace ax:=ax.ext hT (λ_ h=>h) (λ_ h=>.inl h);replace e2:=e2.ext hT (by simp;exact n2);replace e3:=e3.ext hT (by simp;exact n3);replace hS:=hS.trans hT;clear hT;refine W ?_;refine Z4 (Z18 (us:=ndC y ky) rfl rfl rfl rfl (Zi hy) e3 (by simp)) ?_;rintro _ wq ⟨hT,e3⟩;replace e3:Blk wq b3 99 (rlC ⟨nm,fr,on,y,ZsN,[],[]⟩ ky Jl):=e3;replace hy:=hy.ext hT (by simp) (λ_ h=>.inl h);replace aA:=aA.ext hT (by simp;exact n3.symm);replace e2:=e2.ext hT (by simp;exact n23);replace hS:=hS.ow hT;replace ax:=gJ.ext hS (λ_ h=>h) (λ_ h=>.inl h);clear hT;refine W ?_;exact QT (y,ky,_) ⟨gy,hy,aA,by simp only;omega,ax,⟨_,rfl,e2⟩,e3,hS⟩;exact QT (Z5H,_,_) ⟨.bool _ _ (by decide),ht,aA,by simp only;omega,ax,⟨_,rfl,e2⟩,e3,hS⟩;clear aA ax e2 e3 hS ht;rintro ⟨y,ky,i1⟩ wq ⟨gy,hy,aA,bJ,ax,⟨cs2,ce,e2⟩,e3,hS⟩;dsimp only at gy hy aA bJ e3;have z4':szD (3+1)=40:=z4;refine W ?_;refine CM (Zg rfl rfl) ((Zo7 3 (by decide)).2.2 (b3 :: b2 :: bm :: X) _ bm lv l _ _ rfl aA ax hl (by rw [z4];omega) (bV _ hS ⟨_,e3⟩ ⟨_,e2⟩)) ?_;rintro _ wq ⟨x,i2,⟨kx,rfl,hx⟩,gx,aA,cp,hT⟩;replace hy:=hy.ext hT (by simp) (λ_ h=>.inl h);replace e2:=e2.ext hT (by simp;exact n2);replace e3:=e3.ext hT (by simp;exact n3);replace hS:=hS.trans hT;clear hT;refine W ?_;refine Z4 (Z18 (us:=ndC x kx) rfl rfl rfl rfl (Zi hx) e3 (by simp)) ?_;rintro _ wq ⟨hT,e3⟩;replace e3:Blk wq b3 99 (rlC ⟨nm,fr,on,y,x,[],[]⟩ ky kx):=e3;replace hx:=hx.ext hT (by simp) (λ_ h=>.inl h);replace hy:=hy.ext hT (by simp) (λ_ h=>.inl h);replace aA:=aA.ext hT (by simp;exact n3.symm);replace e2:=e2.ext hT (by simp;exact n23);replace hS:=hS.ow hT;replace ax:=gJ.ext hS (λ_ h=>h) (λ_ h=>.inl h);clear hT;refine W ?_;refine CM (Zg rfl rfl) (Zv bm lv l _ 2 _ (by decide) (by omega) aA ax hl) ?_;rintro _ wq ⟨q5,rfl,uP,aA,hT⟩;replace hy:=hy.ext hT (by simp) (λ_ h=>.inl h);replace hx:=hx.ext hT (by simp) (λ_ h=>.inl h);replace e2:=e2.ext hT (by simp;exact n2);replace e3:=e3.ext hT (by simp;exact n3);replace hS:=hS.trans hT;replace ax:=gJ.ext hS (λ_ h=>h) (λ_ h=>.inl h);clear hT;refine W ?_
 refine JJ (σ:=Str×Nat) (λ_=>[(0,pQ bm),(2,pQ b2),(3,pQ b3)])
  (λq w'=>(q.1=[]\/q.1∈Jm)/\SlV (b3 :: b2 :: bm :: X) w' ky y.kids/\SlV (b3 :: b2 :: bm :: X) w' kx x.kids/\Mk3 w' bm lv q.2/\q.2<=i+250/\Blk w' b2 99 cs2/\Blk w' b3 99 (rlC ⟨nm,fr,on,y,x,q.1,[]⟩ ky kx)/\Stp [bm] w w') ?_ ?_
 (refine QP ?_ ?_<;>intro hc)
 refine CM (Zg rfl rfl) (Zv bm lv l _ 6 _ (by decide) (by omega) aA ax hl) ?_;rintro _ wq ⟨q6,rfl,uQ,aA,hT⟩;replace hy:=hy.ext hT (by simp) (λ_ h=>.inl h);replace hx:=hx.ext hT (by simp) (λ_ h=>.inl h);replace e2:=e2.ext hT (by simp;exact n2);replace e3:=e3.ext hT (by simp;exact n3);replace hS:=hS.trans hT;clear hT;refine W ?_;refine CM (ZP rfl) (Z6o q6 _ (by omega)) ?_;rintro _ wq ⟨⟨kn,mK,rfl⟩,hT⟩;replace hy:=hy.up hT;replace hx:=hx.up hT;replace aA:=aA.up hT;replace e2:=e2.up hT;replace e3:=e3.up hT;replace hS:=hS.trans hT.mn;clear hT;refine W ?_;refine S1 (u:=str kn) e3 ?_;rintro _ wq ⟨hT,e3⟩;replace e3:Blk wq b3 99 (rlC ⟨nm,fr,on,y,x,kn,[]⟩ ky kx):=e3;replace hx:=hx.ext hT (by simp) (λ_ h=>.inl h);replace hy:=hy.ext hT (by simp) (λ_ h=>.inl h);replace aA:=aA.ext hT (by simp;exact n3.symm);replace e2:=e2.ext hT (by simp;exact n23);replace hS:=hS.ow hT;refine W ?_;exact QT (kn,_) ⟨.inr mK,hy,hx,aA,by simp only;omega,e2,e3,hS⟩;exact QT ([],_) ⟨.inl rfl,hy,hx,aA,by simp only;omega,e2,e3,hS⟩;clear aA ax e2 e3 hS hy hx;rintro ⟨u,i5⟩ wq ⟨hu,hy,hx,aA,uR,e2,e3,hS⟩;dsimp only at hu aA uR e3;have ax:=gJ.ext hS (λ_ h=>h) (λ_ h=>.inl h);refine W ?_;refine CM (Zg rfl rfl) (Zv bm lv l _ 2 _ (by decide) (by omega) aA ax hl) ?_;rintro _ wq ⟨q5,rfl,uP,aA,hT⟩;replace hy:=hy.ext hT (by simp) (λ_ h=>.inl h);replace hx:=hx.ext hT (by simp) (λ_ h=>.inl h);replace e2:=e2.ext hT (by simp;exact n2);replace e3:=e3.ext hT (by simp;exact n3);replace hS:=hS.trans hT;replace ax:=gJ.ext hS (λ_ h=>h) (λ_ h=>.inl h);clear hT;refine W ?_
 refine JJ (σ:=Str×Nat) (λ_=>[(0,pQ bm),(2,pQ b2),(3,pQ b3)])
  (λq w'=>(q.1=[]\/q.1∈Jm)/\SlV (b3 :: b2 :: bm :: X) w' ky y.kids/\SlV (b3 :: b2 :: bm :: X) w' kx x.kids/\Mk3 w' bm lv q.2/\q.2<=i+252/\Blk w' b2 99 cs2/\Blk w' b3 99 (rlC ⟨nm,fr,on,y,x,u,q.1⟩ ky kx)/\Stp [bm] w w') ?_ ?_
 (refine QP ?_ ?_<;>intro hc)
 refine CM (Zg rfl rfl) (Zv bm lv l _ 6 _ (by decide) (by omega) aA ax hl) ?_;rintro _ wq ⟨q6,rfl,uQ,aA,hT⟩;replace hy:=hy.ext hT (by simp) (λ_ h=>.inl h);replace hx:=hx.ext hT (by simp) (λ_ h=>.inl h);replace e2:=e2.ext hT (by simp;exact n2);replace e3:=e3.ext hT (by simp;exact n3);replace hS:=hS.trans hT;clear hT;refine W ?_;refine CM (ZP rfl) (Z6o q6 _ (by omega)) ?_;rintro _ wq ⟨⟨kn,mK,rfl⟩,hT⟩;replace hy:=hy.up hT;replace hx:=hx.up hT;replace aA:=aA.up hT;replace e2:=e2.up hT;replace e3:=e3.up hT;replace hS:=hS.trans hT.mn;clear hT;refine W ?_;refine S1 (u:=str kn) e3 ?_;rintro _ wq ⟨hT,e3⟩;replace e3:Blk wq b3 99 (rlC ⟨nm,fr,on,y,x,u,kn⟩ ky kx):=e3;replace hx:=hx.ext hT (by simp) (λ_ h=>.inl h);replace hy:=hy.ext hT (by simp) (λ_ h=>.inl h);replace aA:=aA.ext hT (by simp;exact n3.symm);replace e2:=e2.ext hT (by simp;exact n23);replace hS:=hS.ow hT;refine W ?_;exact QT (kn,_) ⟨.inr mK,hy,hx,aA,by simp only;omega,e2,e3,hS⟩;exact QT ([],_) ⟨.inl rfl,hy,hx,aA,by simp only;omega,e2,e3,hS⟩;clear aA ax e2 e3 hS hy hx;rintro ⟨v,i6⟩ wq ⟨hv,hy,hx,aA,uS,e2,e3,hS⟩;dsimp only at hv aA uS e3;have ax:=gJ.ext hS (λ_ h=>h) (λ_ h=>.inl h);refine W ?_
 try (apply Z9 (Zn (us:=rlC ⟨nm,fr,on,y,x,u,v⟩ ky kx) rfl rfl e3 rfl rfl) rfl)
 try refine W ?_
 refine Z4 (Zb (us:=rlC ⟨nm,fr,on,y,x,u,v⟩ ky kx) rfl rfl rfl rfl (ZaK ⟨nm,fr,on,y,x,u,v⟩ hy hx) e2 (by rw [ce];rfl)) ?_;rintro _ wz ⟨hT,e2⟩;refine W ?_;refine Zk rfl rfl rfl e2 rfl ?_;refine .mk ⟨⟨nm,fr,on,y,x,u,v⟩,i6,⟨ky,kx,rfl,(hy.ext hT (by simp) (λ_ h=>.inl h)).wk (λb h=>by simp [h]),(hx.ext hT (by simp) (λ_ h=>.inl h)).wk (λb h=>by simp [h])⟩,⟨fA,iV,ji,gy,gx,hu,hv⟩,aA.ext hT (by simp;exact n2.symm),by omega,hS.ow hT⟩
structure Cr where
 name:Str
 frm:Int
 on:Str
 cnd:List Ins
 due:List Ins
 unl:Str
 els:Str
abbrev crC (q:Cr) (kc kd:Value):List Value:=[str q.name,.I q.frm,str q.on,kc,kd,str q.unl,str q.els]
def CrV (X:List Nat) (w:World) (v:Value) (q:Cr):Prop:=∃ kc kd,v=.agg (crC q kc kd).toArray/\SlV X w kc q.cnd/\SlV X w kd q.due
theorem Z0q {q:Cr} {X Y:List Nat} {w w':World} {kc kd:Value} (h1:SlV X w kc q.cnd) (h2:SlV Y w' kd q.due):∀ c∈crC q kc kd,c.oneCell'=true:=by
 intro c hc;have e1:=h1.one;have e2:=h2.one;simp only [crC,Xb,Xj,or_false] at hc;rcases hc with rfl|rfl|rfl|rfl|rfl|rfl|rfl<;>first|rfl|exact e1|exact e2
def Z0r (r:Rul):Int:=if Z0J r≠0 then Z0J r else if Z0B r.cnd≠0 then Z0B r.cnd else Z0B r.due
abbrev crZ:Cr:=⟨[],0,[],[],[],[],[]⟩
def crF (r:Rul):Cr:=if Z0r r=0 then ⟨r.name,r.frm,r.on,ZU r.cnd,ZU r.due,r.unl,r.els⟩ else crZ
def Zo8 (w:World) (r:Rul) (v:Value) (w':World):Prop:=∃ cv,v=.tuple #[cv,.I (Z0r r)]/\(∀ X:List Nat,(∀ b∈X,b<w.heap.size)->CrV X w' cv (crF r))/\Stp [] w w'
theorem Z2M (w):(Instr.build 62 #[]).run Tryz.prog w=.ok (.agg (crC crZ Jl Jl).toArray) w:=by kernel_rfl
theorem ZeV (q:Cr) (p1 p2:Option Addr) (l1 c1 l2 c2:Nat) (w):(Instr.build 62 #[(0,str q.name),(1,.I q.frm),(2,str q.on),(3,.slice p1 l1 c1),(4,.slice p2 l2 c2),(5,str q.unl),(6,str q.els)]).run Tryz.prog w=.ok (.agg (crC q (.slice p1 l1 c1) (.slice p2 l2 c2)).toArray) w:=by kernel_rfl
theorem ZjC (v:Value) (r:Rul) (w) (hv:Zg7 [] w v r) (cn:Smp r.cnd) (bu:Smp r.due) (h1:ZG r.cnd<=1000) (h2:ZG r.due<=1000) (hF:SlV [] w Z2x Zf) (m:Int) (hm:w.cell? ⟨2,0,none⟩=some (.I m)) :
 Calls Tryz.prog 59 #[v] w (Ret (Zo8 w r)):=by
 obtain ⟨ki,kd,rfl,hi,hd⟩:=hv;have oE:=Z0C r.cnd;have lQ:=Z0C r.due;refine cW1 47 Tryz.func59 ?_;refine W ?_;refine Z1 (Zp rfl) rfl ?_;rintro _ w1 ⟨b,rfl,hb,ac,hS⟩;replace ac:Blk w1 b _ (rlC r ki kd):=ac;refine W ?_;refine Z1 Z2 rfl ?_;rintro _ w2 ⟨b2,rfl,cr,e2,hT⟩;have fO:w.heap.size<=b2:=Xg hS.size cr;replace ac:=ac.up hT;replace hS:=hS.trans hT;clear hT hb cr;refine W ?_
 try (refine Z9 (J2 rfl rfl ac rfl) rfl ?_)
 refine W ?_;refine CM (ZP rfl) (Z72 _ r m _ ⟨ki,kd,rfl,hi.up hS,hd.up hS⟩ (hF.up hS) (hS.cell (by simp) hm)) ?_;rintro _ w3 ⟨rfl,hT⟩;replace ac:=ac.up hT;replace e2:=e2.up hT;replace hS:=hS.trans hT;clear hT;by_cases iO:Z0J r=0
 case neg=>
  have hE:Z0r r=Z0J r:=by unfold Z0r;rw [if_pos iO]
  have hC:crF r=crZ:=by unfold crF;rw [hE,if_neg iO]
  refine QO ?_;apply Z8 (vs:=[]) rfl Z2M rfl;refine W ?_;refine SB (us:=crC crZ Jl Jl) (Z0q (q:=crZ) (Zm [] w) (Zm [] w)) e2 ?_;rintro _ w9 ⟨hT,e2⟩;refine W ?_;refine Zl rfl rfl rfl e2 rfl rfl ?_;exact .mk ⟨_,by rw [hE]<;>rfl,λX hX=>⟨Jl,Jl,by rw [hC],by rw [hC];exact Zm X _,by rw [hC];exact Zm X _⟩,hS.ow hT⟩
 refine QO ?_;apply Z9 (Zn (us:=ndC r.cnd ki) rfl rfl ac rfl rfl) rfl;refine W ?_;refine CL (Z3L _ r.cnd _ cn h1 ⟨ki,rfl,hi.up hS⟩ (hF.up hS)) ?_;rintro _ w4 ⟨va,rfl,ha,hT⟩;replace ha:=λX (hX:∀ b∈X,b<w.heap.size)=>ha (b2 :: X) (λb hb=>by
  rcases Xb.1 hb with rfl|h
  exact e2.lt;exact Xa (hX b h) hS.size)
 replace ac:=ac.up hT;replace e2:=e2.up hT;replace hS:=hS.trans hT;clear hT;refine W ?_;by_cases bY:Z0B r.cnd=0
 case neg=>
  have hE:Z0r r=Z0B r.cnd:=by unfold Z0r;rw [if_neg (by simp [iO]),if_pos bY]
  have hC:crF r=crZ:=by unfold crF;rw [hE,if_neg bY]
  refine QO ?_;apply Z8 (vs:=[]) rfl Z2M rfl;refine W ?_;refine SB (us:=crC crZ Jl Jl) (Z0q (q:=crZ) (Zm [] w) (Zm [] w)) e2 ?_;rintro _ w9 ⟨hT,e2⟩;refine W ?_;refine Zl rfl rfl rfl e2 rfl rfl ?_;exact .mk ⟨_,by rw [hE]<;>rfl,λX hX=>⟨Jl,Jl,by rw [hC],by rw [hC];exact Zm X _,by rw [hC];exact Zm X _⟩,hS.ow hT⟩
 rw [if_pos bY] at ha;refine QO ?_;apply Z9 (Zn (us:=ndC r.due kd) rfl rfl ac rfl rfl) rfl;refine W ?_;refine CL (Z3L _ r.due _ bu h2 ⟨kd,rfl,hd.up hS⟩ (hF.up hS)) ?_;rintro _ w5 ⟨vb,rfl,hb,hT⟩;replace hb:=λX (hX:∀ b∈X,b<w.heap.size)=>hb (b2 :: X) (λb hb=>by
  rcases Xb.1 hb with rfl|h
  exact e2.lt;exact Xa (hX b h) hS.size)
 replace ha:=λX hX=>(ha X hX).up hT;replace ac:=ac.up hT;replace e2:=e2.up hT;replace hS:=hS.trans hT;clear hT;refine W ?_;have hE:Z0r r=Z0B r.due:=by unfold Z0r;rw [if_neg (by simp [iO]),if_neg (by simp [bY])]
 by_cases ce:Z0B r.due=0
 case neg=>
  have hC:crF r=crZ:=by unfold crF;rw [hE,if_neg ce]
  refine QO ?_;apply Z8 (vs:=[]) rfl Z2M rfl;refine W ?_;refine SB (us:=crC crZ Jl Jl) (Z0q (q:=crZ) (Zm [] w) (Zm [] w)) e2 ?_;rintro _ w9 ⟨hT,e2⟩;refine W ?_;refine Zl rfl rfl rfl e2 rfl rfl ?_;exact .mk ⟨_,by rw [hE]<;>rfl,λX hX=>⟨Jl,Jl,by rw [hC],by rw [hC];exact Zm X _,by rw [hC];exact Zm X _⟩,hS.ow hT⟩
 rw [if_pos ce] at hb;have hC:crF r=⟨r.name,r.frm,r.on,ZU r.cnd,ZU r.due,r.unl,r.els⟩:=by unfold crF;rw [hE,if_pos ce]
 obtain ⟨p1,c1,rfl,-⟩:=id (ha [] (by simp));obtain ⟨p2,c2,rfl,-⟩:=id (hb [] (by simp));refine QO ?_;apply Z8 (vs:=[(0,str r.name),(1,.I r.frm),(2,str r.on),(3,.slice p1 (ZU r.cnd).length c1),(4,.slice p2 (ZU r.due).length c2),(5,str r.unl),(6,str r.els)]) rfl (ZeV ⟨r.name,r.frm,r.on,ZU r.cnd,ZU r.due,r.unl,r.els⟩ _ _ _ _ _ _) rfl;refine SB (us:=crC ⟨r.name,r.frm,r.on,ZU r.cnd,ZU r.due,r.unl,r.els⟩ (.slice p1 (ZU r.cnd).length c1) (.slice p2 (ZU r.due).length c2)) (Z0q (q:=⟨r.name,r.frm,r.on,ZU r.cnd,ZU r.due,r.unl,r.els⟩) (ha [] (by simp)) (hb [] (by simp))) e2 ?_;rintro _ w9 ⟨hT,e2⟩;refine W ?_;refine Zl rfl rfl rfl e2 rfl rfl ?_;exact .mk ⟨_,by rw [hE,ce],λX hX=>by
  rw [hC];exact ⟨_,_,rfl,((ha X hX).ext hT (by simp) (λ_ h=>.inl h)).wk (λb h=>by simp [h]),((hb X hX).ext hT (by simp) (λ_ h=>.inl h)).wk (λb h=>by simp [h])⟩,hS.ow hT⟩
theorem Zgb (v:Value) (r:Rul) (w) (hv:Zg7 [] w v r) (h1:ZG r.cnd<=1000) (h2:ZG r.due<=1000) :
 Calls Tryz.prog 37 #[v] w (Ret (Zo8 w r)):=by
 obtain ⟨ki,kd,rfl,hi,hd⟩:=hv;have oE:=Z0C r.cnd;have lQ:=Z0C r.due;refine cW1 48 Tryz.func37 ?_;refine W ?_;refine Z1 (Zp rfl) rfl ?_;rintro _ w1 ⟨b,rfl,hb,ac,hS⟩;replace ac:Blk w1 b _ (rlC r ki kd):=ac;refine W ?_;refine Z1 Z2 rfl ?_;rintro _ w2 ⟨b2,rfl,cr,e2,hT⟩;have fO:w.heap.size<=b2:=Xg hS.size cr;replace ac:=ac.up hT;replace hS:=hS.trans hT;clear hT hb cr;refine W ?_
 try (refine Z9 (J2 rfl rfl ac rfl) rfl ?_)
 refine W ?_;refine CL (ZdU _ r _ ⟨ki,kd,rfl,hi.up hS,hd.up hS⟩ h1 h2) ?_;rintro _ w3 ⟨rfl,hT⟩;replace ac:=ac.up hT;replace e2:=e2.up hT;replace hS:=hS.trans hT;clear hT;by_cases iO:Z0J r=0
 case neg=>
  have hE:Z0r r=Z0J r:=by unfold Z0r;rw [if_pos iO]
  have hC:crF r=crZ:=by unfold crF;rw [hE,if_neg iO]
  refine QO ?_;apply Z8 (vs:=[]) rfl Z2M rfl;refine W ?_;refine SB (us:=crC crZ Jl Jl) (Z0q (q:=crZ) (Zm [] w) (Zm [] w)) e2 ?_;rintro _ w9 ⟨hT,e2⟩;refine W ?_;refine Zl rfl rfl rfl e2 rfl rfl ?_;exact .mk ⟨_,by rw [hE]<;>rfl,λX hX=>⟨Jl,Jl,by rw [hC],by rw [hC];exact Zm X _,by rw [hC];exact Zm X _⟩,hS.ow hT⟩
 refine QO ?_;apply Z9 (Zn (us:=ndC r.cnd ki) rfl rfl ac rfl rfl) rfl;refine W ?_;refine CM (ZP rfl) (Z3p _ r.cnd _ h1 (by omega) ⟨ki,rfl,hi.up hS⟩) ?_;rintro _ w4 ⟨va,rfl,ha,hT⟩;replace ha:=λX (hX:∀ b∈X,b<w.heap.size)=>ha (b2 :: X) (λb hb=>by
  rcases Xb.1 hb with rfl|h
  exact e2.lt;exact Xa (hX b h) hS.size)
 replace ac:=ac.up hT;replace e2:=e2.up hT;replace hS:=hS.trans hT;clear hT;refine W ?_;by_cases bY:Z0B r.cnd=0
 case neg=>
  have hE:Z0r r=Z0B r.cnd:=by unfold Z0r;rw [if_neg (by simp [iO]),if_pos bY]
  have hC:crF r=crZ:=by unfold crF;rw [hE,if_neg bY]
  refine QO ?_;apply Z8 (vs:=[]) rfl Z2M rfl;refine W ?_;refine SB (us:=crC crZ Jl Jl) (Z0q (q:=crZ) (Zm [] w) (Zm [] w)) e2 ?_;rintro _ w9 ⟨hT,e2⟩;refine W ?_;refine Zl rfl rfl rfl e2 rfl rfl ?_;exact .mk ⟨_,by rw [hE]<;>rfl,λX hX=>⟨Jl,Jl,by rw [hC],by rw [hC];exact Zm X _,by rw [hC];exact Zm X _⟩,hS.ow hT⟩
 rw [if_pos bY] at ha;refine QO ?_;apply Z9 (Zn (us:=ndC r.due kd) rfl rfl ac rfl rfl) rfl;refine W ?_;refine CM (ZP rfl) (Z3p _ r.due _ h2 (by omega) ⟨kd,rfl,hd.up hS⟩) ?_;rintro _ w5 ⟨vb,rfl,hb,hT⟩;replace hb:=λX (hX:∀ b∈X,b<w.heap.size)=>hb (b2 :: X) (λb hb=>by
  rcases Xb.1 hb with rfl|h
  exact e2.lt;exact Xa (hX b h) hS.size)
 replace ha:=λX hX=>(ha X hX).up hT;replace ac:=ac.up hT;replace e2:=e2.up hT;replace hS:=hS.trans hT;clear hT;refine W ?_;have hE:Z0r r=Z0B r.due:=by unfold Z0r;rw [if_neg (by simp [iO]),if_neg (by simp [bY])]
 by_cases ce:Z0B r.due=0
 case neg=>
  have hC:crF r=crZ:=by unfold crF;rw [hE,if_neg ce]
  refine QO ?_;apply Z8 (vs:=[]) rfl Z2M rfl;refine W ?_;refine SB (us:=crC crZ Jl Jl) (Z0q (q:=crZ) (Zm [] w) (Zm [] w)) e2 ?_;rintro _ w9 ⟨hT,e2⟩;refine W ?_;refine Zl rfl rfl rfl e2 rfl rfl ?_;exact .mk ⟨_,by rw [hE]<;>rfl,λX hX=>⟨Jl,Jl,by rw [hC],by rw [hC];exact Zm X _,by rw [hC];exact Zm X _⟩,hS.ow hT⟩
 rw [if_pos ce] at hb;have hC:crF r=⟨r.name,r.frm,r.on,ZU r.cnd,ZU r.due,r.unl,r.els⟩:=by unfold crF;rw [hE,if_pos ce]
 obtain ⟨p1,c1,rfl,-⟩:=id (ha [] (by simp));obtain ⟨p2,c2,rfl,-⟩:=id (hb [] (by simp));refine QO ?_;apply Z8 (vs:=[(0,str r.name),(1,.I r.frm),(2,str r.on),(3,.slice p1 (ZU r.cnd).length c1),(4,.slice p2 (ZU r.due).length c2),(5,str r.unl),(6,str r.els)]) rfl (ZeV ⟨r.name,r.frm,r.on,ZU r.cnd,ZU r.due,r.unl,r.els⟩ _ _ _ _ _ _) rfl;refine SB (us:=crC ⟨r.name,r.frm,r.on,ZU r.cnd,ZU r.due,r.unl,r.els⟩ (.slice p1 (ZU r.cnd).length c1) (.slice p2 (ZU r.due).length c2)) (Z0q (q:=⟨r.name,r.frm,r.on,ZU r.cnd,ZU r.due,r.unl,r.els⟩) (ha [] (by simp)) (hb [] (by simp))) e2 ?_;rintro _ w9 ⟨hT,e2⟩;refine W ?_;refine Zl rfl rfl rfl e2 rfl rfl ?_;exact .mk ⟨_,by rw [hE,ce],λX hX=>by
  rw [hC];exact ⟨_,_,rfl,((ha X hX).ext hT (by simp) (λ_ h=>.inl h)).wk (λb h=>by simp [h]),((hb X hX).ext hT (by simp) (λ_ h=>.inl h)).wk (λb h=>by simp [h])⟩,hS.ow hT⟩
theorem Z5i (va vb:Value) (xs ys:List Int) (w) (ha:SlV [] w va xs) (hb:SlV [] w vb ys) :
 CC 298 #[va,vb] w λr w'=>r=.B (decide (xs=ys))/\Stp [] w w':=by
 have sY:=ha.max;have sS:=hb.max;refine cW2 26 Tryz.func298 ?_;refine W ?_;by_cases hl:xs.length=ys.length
 case neg=>
  refine RT ?_;exact ⟨by congr 1;rw [eq_comm,decide_eq_false_iff_not];exact λh=>hl (by rw [h]),Stp.refl _ _⟩
 refine QO ?_;refine LP (σ:=Nat) (λj=>[(0,va),(1,vb),(4,.B false),(12,.I (xs.length:Int)),(13,.I (j:Int))]) (λj w'=>j<=xs.length/\Stp [] w w'/\∀ i (h:i<xs.length),i<j->xs[i]=ys[i]'(by omega)) (λj=>xs.length - j) 0 ⟨Xq _,Stp.refl _ _,λi _ h=>absurd h (Xu _)⟩ ?_;rintro j w2 ⟨hj,hS,cZ⟩
 try dsimp only at hj cZ ⊢
 replace ha:=ha.up hS;replace hb:=hb.up hS;by_cases ag:j<xs.length;have eB:j<ys.length:=by omega
 refine QO ?_;refine ZDr 9 [] [] [(0,0),(1,0),(2,0),(3,1),(4,0),(5,0),(6,0),(7,1),(8,0)] (λw1 ae=>?_);replace ha:=ha.up ae;replace hb:=hb.up ae;replace hS:=hS.trans ae;refine D ?_
 (refine QP ?_ ?_<;>intro hc)
 refine RU ?_;exact ⟨by congr 1;rw [eq_comm,decide_eq_false_iff_not];exact λh=>hc (by simp [h]),hS⟩;have he:xs[j]=ys[j]:=Decidable.byContradiction hc;have hk:∀ i (h:i<xs.length),i<j+1->xs[i]=ys[i]'(by omega):=λi h hi=>by
  by_cases dC:i=j;subst dC;exact he;exact cZ i h (by omega)
 exact QL (j+1) ⟨ag,hS,hk⟩ (XE ag (XP j));have d8:j=xs.length:=by omega
 subst d8;refine RT ?_;exact ⟨by congr 1;rw [eq_comm,decide_eq_true_eq];exact YaE hl (λi h h'=>cZ i h h),hS⟩
abbrev RwZ (w w':World) (v:Value) (xs:List Int):Prop:=ZI 3 w w' v xs
theorem Zgc (k:Nat) (w) (hk:k<=1000000):CC 335 #[.N,.I (k:Int)] w λr w'=>RwZ w w' r []:=by
 refine cW2 27 Tryz.func335 ?_;refine W ?_;have h0:SlV (α:=Int) [] w (.N) []:=Zm _ _;have cR:([]:List Int).length=0:=rfl;repeat'(first|refine W1 ?_|omega|refine VG ?_ ?_<;>intro hg|refine VC ?_ ?_<;>intro hc)
 apply Z9 (ZaC rfl) rfl;by_cases fc:k=0;subst fc;refine QO ?_;refine WR ?_;exact .mk ZI.nil;refine QO ?_;apply Z9 (ZaC rfl) rfl;apply Z9 (Z84 rfl rfl) rfl;refine W ?_;refine Z1 (Zmw (k:=k) rfl rfl rfl (by omega) (by simp [maxLen];omega) (by omega)) rfl ?_;rintro _ w1 ⟨c,rfl,cb,hS⟩;replace h0:=h0.up hS;have hr:RwZ w w1 (.slice (some ⟨w.heap.size,0,none⟩) 0 c) []:=⟨⟨[],rfl,λi h=>absurd h (Xu _),cb⟩,hS⟩
 refine W ?_;apply Z9 (Z9B rfl rfl) rfl;refine W ?_;refine WR ?_;exact .mk hr
theorem Zcc (v:Value) (xss:List (Sl Int)) (w) (hs:SlV [] w v xss) (hl:xss.length<=1000) (ai:(xss.flatMap Sl.l).length<=100000):CC 299 #[v] w λr w'=>RwZ w w' r (xss.flatMap Sl.l):=by
 have cu:∀ j,((xss.take j).flatMap Sl.l).length<=(xss.flatMap Sl.l).length:=λj=>by
  rw [<- XM j xss,Yak,Xc];simp only [XM];have:(xss.take j).flatMap Sl.l=((xss.take j++xss.drop j).take j).flatMap Sl.l:=by rw [XM]
  omega
 have aj:∀ j (h:j<xss.length),(xss.take (j+1)).flatMap Sl.l=(xss.take j).flatMap Sl.l++xss[j].l:=λj h=>by
  rw [Xh h,Yak];simp
 refine cW1 36 Tryz.func299 ?_;refine W ?_;refine Z0o (σ:=Unit) (λ_=>[(0,v),(3,.I ((xss.flatMap Sl.l).length:Int))]) (λ_ w'=>w'=w) ?_ ?_;refine LP (σ:=Nat) (λj=>[(0,v),(9,v),(10,.I (xss.length:Int)),(3,.I (((xss.take j).flatMap Sl.l).length:Int)),(11,.I (j:Int))]) (λj w'=>j<=xss.length/\w'=w) (λj=>xss.length - j) 0 ⟨Xq _,rfl⟩ ?_;rintro j w2 ⟨hj,rfl⟩;by_cases ag:j<xss.length;obtain ⟨u,au,fw⟩:=hs.sub ag;have ol:=fw.max;have h1:=cu j;have h2:=cu (j+1);have h3:=aj j ag;have h4:((xss.take (j+1)).flatMap Sl.l).length=((xss.take j).flatMap Sl.l).length+xss[j].l.length:=by rw [h3,Xc]
 refine QO ?_;apply Z9 (JH rfl rfl au) rfl;refine QO ?_;refine Zx (j+1) ⟨rfl,rfl,rfl,by rw [h4,Ybl];rfl,rfl,trivial⟩ ⟨ag,rfl⟩ (by omega);have d8:j=xss.length:=by omega
 subst d8;rw [Xo];refine QO ?_;exact QT () rfl;rintro _ w2 rfl;refine W ?_;refine Z1 (Z6 rfl (Zg rfl rfl) (Zgc _ _ (by omega))) rfl ?_;rintro g w3 hr;refine W ?_;have eN:=hs.up hr.2;refine W ?_;refine LP (σ:=Nat×Value) (λq=>[(6,q.2),(25,v),(26,.I (xss.length:Int)),(27,.I (q.1:Int))]) (λq w'=>q.1<=xss.length/\RwZ w2 w' q.2 ((xss.take q.1).flatMap Sl.l)) (λq=>xss.length - q.1) (0,g) ⟨Xq _,by simpa using hr⟩ ?_;clear hr eN;rintro ⟨j,g⟩ w4 ⟨hj,hr⟩;dsimp only at hj hr ⊢;by_cases ag:j<xss.length;have ec:SlV (ob g) w4 v xss:=hs.ext hr.2 (by simp) (λb hb=>.inr (hr.ob_le b hb).1);obtain ⟨u,au,fw⟩:=ec.sub ag;have h1:=cu j;have h2:=cu (j+1);have h3:=aj j ag;have h4:((xss.take (j+1)).flatMap Sl.l).length=((xss.take j).flatMap Sl.l).length+xss[j].l.length:=by rw [h3,Xc]
 refine QO ?_;apply Z9 (JH rfl rfl au) rfl;refine QO ?_;refine Z1 (JD rfl (by decide) rfl rfl hr fw (by omega) (by simp only [maxLen];omega)) rfl ?_;rintro g' w5 ⟨bH,-,-⟩;refine W ?_;exact QL (j+1,g') ⟨ag,by dsimp only;rw [h3];exact bH⟩ (by dsimp only;omega);have d8:j=xss.length:=by omega
 subst d8;rw [Xo] at hr;refine QO ?_;refine WR ?_;exact .mk hr
end Go.Proofs.YtipfkbkkndacjaaGreatDoor
