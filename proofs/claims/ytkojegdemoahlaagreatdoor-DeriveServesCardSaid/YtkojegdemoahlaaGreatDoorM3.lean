/-
Contracts and plain laws, merged out of own texts.
-/
import Derived.Test.YtkojegdemoahlaaGreatDoorM2
import Derived.Test.YtkojegdemoahlaaGreatDoorRows
import Derived.Test.YtkojegdemoahlaaGreatDoorTie
import Derived.Test.YtkojegdemoahlaaGreatDoorCards
import Derived.Shelf.SlSortCmp.NoneTotal
import Derived.Laws.CopyRow
import Derived.Test.YtkojegdemoahlaaGreatDoorShl3
import Derived.RangeFuncLeaves
import Derived.RangeFuncCalls
import Derived.RangeFuncSeq
import Derived.OrdersIn
set_option linter.unusedVariables false
set_option linter.unusedSimpArgs false
set_option maxHeartbeats 4000000
set_option maxRecDepth 20000
namespace Go.Proofs.YtkojegdemoahlaaGreatDoor
open Go Go.Eng Go.RowKit
def Z4p:Str:=[32,114,117,108,101,32,102,114,111,109,32,111,110,32,105,102,32,100,117,101,32,117,110,108,101,115,115,32,101,108,115,101,32,111,114,32,97,110,100,32,110,111,116,32,116,114,117,101,32,102,97,108,115,101,32,116,104,101,110,32,101,110,100,32,100,97,121,115,32,119,101,101,107,115,32,109,111,110,116,104,115,32,99,111,117,114,116,100,97,121,115,32,110,101,120,116,32,112,114,101,118,32,108,97,116,101,114,32,101,97,114,108,105,101,114,32,98,101,116,119,101,101,110,32]
def Z9g:List Str:=[[114,117,108,101],[102,114,111,109],[111,110],[105,102],[100,117,101],[117,110,108,101,115,115],[101,108,115,101],[111,114],[97,110,100],[110,111,116],[116,114,117,101],[102,97,108,115,101],[116,104,101,110],[101,110,100],[100,97,121,115],[119,101,101,107,115],[109,111,110,116,104,115],[99,111,117,114,116,100,97,121,115],[110,101,120,116],[112,114,101,118],[108,97,116,101,114],[101,97,114,108,105,101,114],[98,101,116,119,101,101,110]]
theorem Z5V:∀ (s sub:List UInt8),0<=Lib.index s sub↔∃ i,i<=s.length/\sub.isPrefixOf (s.drop i)=true
 | [], sub => by
   unfold Lib.index;cases sub with
   | nil=>simp
   | cons a l=>simp
 | b :: l, sub => by
   have ih:=Z5V l sub;have fu:=Lib.index_ge l sub;unfold Lib.index;by_cases hp:sub.isPrefixOf (b :: l)=true;rw [if_pos hp];exact ⟨λ_=>⟨0,by omega,hp⟩,λ_=>by omega⟩;rw [if_neg hp];have e:(0:Int)<=(if (Lib.index l sub == -1)=true then -1 else Lib.index l sub+1)↔0<=Lib.index l sub:=by
    by_cases h1:Lib.index l sub=-1;rw [if_pos (by simpa using h1)];omega;rw [if_neg (by simpa using h1)];omega
   rw [e,ih];constructor;rintro ⟨i,hi,h⟩;exact ⟨i+1,by simpa using hi,h⟩
   . rintro ⟨i,hi,h⟩
     cases i with
     | zero=>exact absurd h hp
     | succ i=>exact ⟨i,by simpa using hi,h⟩
theorem Z5W:∀ (t r:List UInt8),(∀ c∈t,c≠32)->(t++[32]).isPrefixOf r=true->r.takeWhile (λc=>decide (c≠32))=t
 | [], r, _, h => by
   cases r with
   | nil=>simp at h
   | cons a l=>
     simp [List.isPrefixOf] at h;subst h;rfl
 | c :: t, r, hc, h => by
   cases r with
   | nil=>simp at h
   | cons a l=>
     simp only [X9,List.isPrefixOf,Xa,beq_iff_eq] at h;obtain ⟨rfl,h⟩:=h;have h1:=hc c (by simp);rw [List.takeWhile_cons_of_pos (by simpa using h1),Z5W t l (λx hx=>hc x (by simp [hx])) h]
theorem Zb7:∀ i∈List.range (Z4p.length+1),(Z4p.drop i).head?=some 32->(Z4p.drop (i+1)).takeWhile (λc=>decide (c≠32))∈Z9g\/(Z4p.drop (i+1)).takeWhile (λc=>decide (c≠32))=[]:=by decide +kernel
theorem Zh7:∀ t∈Z9g,Lib.contains Z4p (32 :: t++[32])=true:=by decide +kernel
theorem Zh8 {t:Str} (h0:t≠[]) (hc:∀ c∈t,c≠32):Lib.contains Z4p (32 :: t++[32])=decide (t∈Z9g):=by
 by_cases ht:t∈Z9g;rw [Zh7 t ht,decide_eq_true ht]
 . rw [decide_eq_false ht]
   unfold Lib.contains;rw [decide_eq_false_iff_not,Z5V];rintro ⟨i,hi,h⟩;cases hd:Z4p.drop i with
   | nil=>rw [hd] at h;simp at h
   | cons a l=>
     rw [hd] at h;simp only [X9,List.isPrefixOf,Xa,beq_iff_eq] at h;obtain ⟨rfl,h⟩:=h;have hl:Z4p.drop (i+1)=l:=by
      have:=congrArg List.tail hd;simpa [List.tail_drop] using this
     have hw:=Z5W t l hc h;have:=Zb7 i (Ybq.2 (by omega)) (by rw [hd];rfl);rw [hl,hw] at this;exact this.elim ht h0
abbrev ZlO (c:Int):Prop:=(97<=c/\c<=122)\/(48<=c/\c<=57)
def Z6N (s:Str):Bool:=decide (0<s.length/\s.length<=12/\97<=Z09 s 0/\Z09 s 0<=122/\∀ i,i<s.length->ZlO (Z09 s i))
def ZG (s:Str):Bool:=Z6N s && decide (s∉Z9g/\s∉Za)
theorem Z6O (a b:Str) (m:Int) (w:World) (ha:a.length<4294967281) (hm:w.cell? ⟨2,0,none⟩=some (.I m)) :
 CC 156 #[str a,str b] w λr w'=>r=.B (Lib.contains a b)/\Stp [] w w':=by
 refine (Tryz.strings_Contains ⟨a.toArray⟩ ⟨b.toArray⟩ m w (by rw [J5];exact ha) hm).mono ?_;rintro e w' ⟨rfl,rfl⟩;exact .mk ⟨rfl,Stp.refl _ _⟩
theorem ZdH {l:List Str} {s:Str}:0<=idx (isS s) l↔s∈l:=by
 unfold idx;cases h:l.findIdx? (isS s) with
 | none=>
   rw [Yam] at h;simp only;constructor;intro h1;omega;intro h1;have:=h s h1;simp [isS] at this
 | some i=>
   obtain ⟨hi,hp,_⟩:=X8.1 h;simp only;constructor;intro _;have:l[i]=s:=by simpa [isS] using hp
   rw [<- this];exact Xc hi;intro _;omega
theorem Z5A (X:List Nat) (v:Value) (l:List Str) (a:Str) (w) (hs:SlV X w v l) :
 CC 157 #[v,str a] w λr w'=>r=.B (decide (a∈l))/\Stp [] w w':=by
 refine cW2 9 Tryz.func157 ?_;refine W ?_;refine CL (Z5U X v l a _ hs) ?_;rintro _ w1 ⟨rfl,hS⟩;refine RT ?_;exact ⟨by congr 1;exact decide_eq_decide.2 ZdH,hS⟩
theorem Z1g (s:Str) (m:Int) (w) (hF:SlV [] w Z1w Za) (hm:w.cell? ⟨2,0,none⟩=some (.I m)) :
 CC 93 #[str s] w λr w'=>r=.B (ZG s)/\Stp [] w w':=by
 refine cW1 55 Tryz.func93 ?_;refine W ?_;by_cases h0:s.length≠0/\s.length<=12/\97<=Z09 s 0/\Z09 s 0<=122
 case neg=>
  have hn:ZG s=false:=by
   unfold ZG Z6N;rw [decide_eq_false (λh=>h0 ⟨by omega,h.2.1,h.2.2.1,h.2.2.2.1⟩)];rfl
  by_cases hl:s.length≠0;focus repeat'(first|refine W1 ?_|omega|refine VG ?_ ?_<;>intro hg|refine VC ?_ ?_<;>intro hc)
  refine RU ?_;exact ⟨by rw [hn],Stp.refl _ _⟩;refine RU ?_;exact ⟨by rw [hn],Stp.refl _ _⟩;refine Z2k (i:=0) rfl rfl rfl (by omega) rfl ?_
  (refine QP ?_ ?_<;>intro hg)
  refine RU ?_;exact ⟨by rw [hn],Stp.refl _ _⟩;refine Z2k (i:=0) rfl rfl rfl (by omega) rfl ?_;refine RT ?_;exact ⟨by rw [hn],Stp.refl _ _⟩;obtain rfl:s=[]:=X3.1 (by omega);refine RT ?_;exact ⟨by rw [hn],Stp.refl _ _⟩
 obtain ⟨h1,h2,h3,h4⟩:=h0;have dp:¬ s=[]:=λh=>by rw [h] at h1;exact h1 rfl
 (refine QP ?_ ?_<;>intro hg)
 exact absurd (by assumption) dp;refine Z2k (i:=0) rfl rfl rfl (by omega) rfl ?_;refine QO ?_;refine Z2k (i:=0) rfl rfl rfl (by omega) rfl ?_;refine QO ?_;refine Z0 (Zcq rfl (by omega)) rfl ?_;rintro bv w1 ⟨hb,hS⟩;replace hb:=hb [] (by simp);have ia:=hb.max;refine QO ?_;refine LP (σ:=Nat) (λi=>[(0,str s),(23,bv),(24,.I (s.length:Int)),(25,.I (i:Int))]) (λi w'=>i<=s.length/\Stp [] w1 w'/\∀ j,j<i->ZlO (Z09 s j)) (λi=>s.length - i) 0 ⟨Xu _,Stp.refl _ _,λj hj=>absurd hj (XC _)⟩ ?_;rintro i w2 ⟨hi,ai,aM⟩
 try dsimp only at hi aM ⊢
 replace hb:=hb.up ai;replace hS:=hS.trans ai;by_cases ah:i<s.length;have kH:Z09 s i=(s[i].toNat:Int):=Go.Eng.byte_at ah;by_cases fC:(97<=(s[i].toNat:Int)/\(s[i].toNat:Int)<=122)\/(48<=(s[i].toNat:Int)/\(s[i].toNat:Int)<=57)
 . have jx:∀ j,j<i+1->ZlO (Z09 s j):=λj hj=>by
    by_cases e:j=i;subst e;rw [kH];exact fC;exact aM j (by omega)
   repeat'(first|refine W1 ?_|omega|refine VG ?_ ?_<;>intro hg|refine VC ?_ ?_<;>intro hc)
   all_goals exact QL (i+1) ⟨ah,ai,jx⟩ (Xx ah (XD i))
 . have hn:ZG s=false:=by
    unfold ZG Z6N;rw [decide_eq_false (λh=>fC (by have:=h.2.2.2.2 i ah;rw [kH] at this;exact this))];rfl
   repeat'(first|refine W1 ?_|omega|refine VG ?_ ?_<;>intro hg|refine VC ?_ ?_<;>intro hc)
   all_goals
    refine RU ?_;exact ⟨by rw [hn],hS⟩
 obtain rfl:i=s.length:=by omega
 have aY:Z6N s=true:=decide_eq_true ⟨by omega,h2,h3,h4,aM⟩;have db:∀ c∈s,c≠32:=λc hc h=>by
  obtain ⟨j,hj,rfl⟩:=Xq hc;have h5:=aM j hj;rw [Go.Eng.byte_at hj,h] at h5;exact absurd h5 (by decide)
 have dO:Z4p.length<4294967281:=by
  have:Z4p.length<=200:=by decide +kernel
  omega
 have ar:Lib.contains Z4p ([32]++s++[32])=decide (s∈Z9g):=Zh8 dp db;refine QO ?_;refine Za9 rfl rfl (by simp;omega) rfl ?_;repeat'(first|refine W1 ?_|omega|refine VG ?_ ?_<;>intro hg|refine VC ?_ ?_<;>intro hc)
 refine Za9 rfl rfl (by simp;omega) rfl ?_;repeat'(first|refine W1 ?_|omega|refine VG ?_ ?_<;>intro hg|refine VC ?_ ?_<;>intro hc)
 refine CM (ZK rfl rfl) (Z6O Z4p ([32]++s++[32]) m _ dO (hS.cell (by simp) hm)) ?_;rintro _ w3 ⟨rfl,aw⟩;rw [ar];replace hS:=hS.trans aw;by_cases hr:s∈Z9g;have hn:ZG s=false:=by
  unfold ZG;rw [decide_eq_false (λh=>h.1 hr),YbU]
 rw [decide_eq_true hr];refine RT ?_;exact ⟨by rw [hn],hS⟩;rw [decide_eq_false hr];refine QO ?_;refine ZaN rfl rfl ?_;refine W ?_;refine CL (Z5A [] _ Za s _ (hF.up hS)) ?_;rintro _ w4 ⟨rfl,ay⟩;refine QO ?_;refine WR ?_;refine .mk ⟨?_,hS.trans ay⟩;unfold ZG;rw [aY];by_cases hf:s∈Za<;>simp [hr,hf]
def Z2D (x:Nd) (want:Int):Int:=if Z0t x<=12 then (if JG x=0 then 21 else if JG x=want then 0 else 21) else 2
theorem Z7Q (v:Value) (x:Nd) (want:Int) (w) (hx:NdV [] w v x) (hF:SlV [] w Z1w Za):CC 94 #[v,.I want] w λr w'=>r=.I (Z2D x want)/\Stp [] w w':=by
 obtain ⟨kv,rfl,hs⟩:=hx;refine cW2 20 Tryz.func94 ?_;refine W ?_;refine Z0 (Zl rfl) rfl ?_;rintro _ w1 ⟨b,rfl,hb,ab,hS⟩;replace ab:Blk w1 b _ (ndC x kv):=ab;refine W ?_;refine CL (ZlM [] [] _ x _ ⟨kv,rfl,hs.up hS⟩ (hF.up hS)) ?_;rintro _ w2 ⟨rfl,ai⟩;replace hS:=hS.trans ai;unfold Z2D;by_cases hn:Z0t x<=12;rw [if_pos hn,if_pos hn,if_pos hn];by_cases ht:JG x=0;rw [if_pos ht,if_pos ht];focus repeat'(first|refine W1 ?_|omega|refine VG ?_ ?_<;>intro hg|refine VC ?_ ?_<;>intro hc)
 refine RU ?_;exact ⟨rfl,hS⟩;rw [if_neg ht,if_neg ht];by_cases hw:JG x=want;rw [if_pos hw];focus repeat'(first|refine W1 ?_|omega|refine VG ?_ ?_<;>intro hg|refine VC ?_ ?_<;>intro hc)
 refine RU ?_;exact ⟨rfl,hS⟩;rw [if_neg hw];focus repeat'(first|refine W1 ?_|omega|refine VG ?_ ?_<;>intro hg|refine VC ?_ ?_<;>intro hc)
 refine RU ?_;exact ⟨rfl,hS⟩;rw [if_neg hn,if_neg hn,if_neg hn];focus repeat'(first|refine W1 ?_|omega|refine VG ?_ ?_<;>intro hg|refine VC ?_ ?_<;>intro hc)
 refine RU ?_;exact ⟨rfl,hS⟩
structure Rul where
 name:Str
 frm:Int
 on:Str
 cnd:Nd
 due:Nd
 unl:Str
 els:Str
abbrev rlC (r:Rul) (ki kd:Value):List Value:=[str r.name,.I r.frm,str r.on,.I r.cnd.kind,.I r.cnd.num,str r.cnd.word,ki,.I r.due.kind,.I r.due.num,str r.due.word,kd,str r.unl,str r.els]
def Zq9 (X:List Nat) (w:World) (v:Value) (r:Rul):Prop:=∃ ki kd,v=.agg (rlC r ki kd).toArray/\SlV X w ki r.cnd.kids/\SlV X w kd r.due.kids
def Z01 (r:Rul):Bool:=ZG r.name && ZG r.on && (decide (r.unl=[]) || ZG r.unl) && (decide (r.els=[]) || ZG r.els)
def Z6P (r:Rul):Int:=if Z01 r=false then 7 else if r.frm<0\/r.frm > 3652058 then 5 else if Z2D r.cnd 2≠0 then Z2D r.cnd 2 else Z2D r.due 3
theorem Z7R (v:Value) (r:Rul) (m:Int) (w) (hv:Zq9 [] w v r) (hF:SlV [] w Z1w Za) (hm:w.cell? ⟨2,0,none⟩=some (.I m)) :
 CC 46 #[v] w λr' w'=>r'=.I (Z6P r)/\Stp [] w w':=by
 obtain ⟨ki,kd,rfl,hi,hd⟩:=hv;refine cW1 55 Tryz.func46 ?_;refine W ?_;refine Z0 (Zl rfl) rfl ?_;rintro _ w1 ⟨b,rfl,hb,ab,hS⟩;replace ab:Blk w1 b _ (rlC r ki kd):=ab;refine W ?_;refine CM (ZO rfl) (Z1g r.name m _ (hF.up hS) (hS.cell (by simp) hm)) ?_;rintro _ w2 ⟨rfl,hT⟩;replace ab:=ab.up hT;replace hS:=hS.trans hT;clear hT;refine Z6x (σ:=Bool) (λq=>[(1,pQ b),(2,.I 0),(4,.B q)]) (λq w'=>Blk w' b 88 (rlC r ki kd)/\Stp [] w w'/\q=!Z01 r) ?_ ?_
 . cases hA:ZG r.name with
   | false=>
     refine W ?_;exact QT true ⟨ab,hS,by simp [Z01, *]⟩
   | true=>
     refine W ?_;refine CM (ZO rfl) (Z1g r.on m _ (hF.up hS) (hS.cell (by simp) hm)) ?_;rintro _ w2 ⟨rfl,hT⟩;replace ab:=ab.up hT;replace hS:=hS.trans hT;clear hT;cases hB:ZG r.on with
     | false=>
       refine W ?_;exact QT true ⟨ab,hS,by simp [Z01, *]⟩
     | true=>
       repeat'(first|refine W1 ?_|omega|refine VG ?_ ?_<;>intro hg|refine VC ?_ ?_<;>intro hc)
       . refine CM (ZO rfl) (Z1g r.unl m _ (hF.up hS) (hS.cell (by simp) hm)) ?_
         rintro _ w2 ⟨rfl,hT⟩;replace ab:=ab.up hT;replace hS:=hS.trans hT;clear hT;cases hC:ZG r.unl with
         | false=>
           refine W ?_;exact QT true ⟨ab,hS,by simp [Z01, *]⟩
         | true=>
           (refine QP ?_ ?_<;>intro hg)
           . refine CM (ZO rfl) (Z1g r.els m _ (hF.up hS) (hS.cell (by simp) hm)) ?_
             rintro _ w2 ⟨rfl,hT⟩;replace ab:=ab.up hT;replace hS:=hS.trans hT;clear hT;cases hD:ZG r.els with
             | false=>
               refine W ?_;exact QT true ⟨ab,hS,by simp [Z01, *]⟩
             | true=>
               refine W ?_;exact QT false ⟨ab,hS,by simp [Z01, *]⟩
           exact QT false ⟨ab,hS,by simp [Z01, *]⟩
       . refine CM (ZO rfl) (Z1g r.els m _ (hF.up hS) (hS.cell (by simp) hm)) ?_
         rintro _ w2 ⟨rfl,hT⟩;replace ab:=ab.up hT;replace hS:=hS.trans hT;clear hT;cases hD:ZG r.els with
         | false=>
           refine W ?_;exact QT true ⟨ab,hS,by simp [Z01, *]⟩
         | true=>
           refine W ?_;exact QT false ⟨ab,hS,by simp [Z01, *]⟩
       exact QT false ⟨ab,hS,by simp [Z01, *]⟩
 rintro q w3 ⟨ab,hS,hq⟩
 try dsimp only at hq ⊢
 unfold Z6P;cases ib:Z01 r with
 | false=>
   rw [ib] at hq;subst hq;refine RT ?_;exact ⟨rfl,hS⟩
 | true=>
   rw [ib] at hq;subst hq;refine W ?_;by_cases hr:r.frm<0\/r.frm > 3652058
   . repeat'(first|refine W1 ?_|omega|refine VG ?_ ?_<;>intro hg|refine VC ?_ ?_<;>intro hc)
     all_goals
      refine RU ?_;exact ⟨by rw [if_neg (by decide),if_pos hr],hS⟩
   refine QO ?_;apply Z7 (Zy (us:=ndC r.cnd ki) rfl rfl ab rfl rfl) rfl;refine W ?_;refine CL (Z7Q _ r.cnd 2 _ ⟨ki,rfl,hi.up hS⟩ (hF.up hS)) ?_;rintro _ w4 ⟨rfl,hT⟩;replace ab:=ab.up hT;replace hS:=hS.trans hT;clear hT;by_cases h2:Z2D r.cnd 2=0;refine QO ?_;apply Z7 (Zy (us:=ndC r.due kd) rfl rfl ab rfl rfl) rfl;refine W ?_;refine CL (Z7Q _ r.due 3 _ ⟨kd,rfl,hd.up hS⟩ (hF.up hS)) ?_;rintro _ w5 ⟨rfl,hT⟩;refine RT ?_;exact ⟨by rw [if_neg (by decide),if_neg hr,if_neg (by simpa using h2)],hS.trans hT⟩;refine RT ?_;exact ⟨by rw [if_neg (by decide),if_neg hr,if_pos h2],hS⟩
abbrev Z0h:Value:=.N
theorem Zh9 (r:Rul) {X Y:List Nat} {w w':World} {ki kd:Value} (h1:SlV X w ki r.cnd.kids) (h2:SlV Y w' kd r.due.kids):∀ c∈rlC r ki kd,c.oneCell'=true:=by
 intro c hc;have e1:=h1.one;have e2:=h2.one;simp only [rlC,Xd,Xp,or_false] at hc;rcases hc with rfl|rfl|rfl|rfl|rfl|rfl|rfl|rfl|rfl|rfl|rfl|rfl|rfl<;>first|rfl|exact e1|exact e2
structure Cr where
 name:Str
 frm:Int
 on:Str
 cnd:List Ins
 due:List Ins
 unl:Str
 els:Str
abbrev crC (q:Cr) (kc kd:Value):List Value:=[str q.name,.I q.frm,str q.on,kc,kd,str q.unl,str q.els]
def CrV (X:List Nat) (w:World) (v:Value) (q:Cr):Prop:=∃ kc kd,v=.agg (crC q kc kd).toArray/\SlV X w kc q.cnd/\SlV X w kd q.due
theorem Z4C {q:Cr} {X Y:List Nat} {w w':World} {kc kd:Value} (h1:SlV X w kc q.cnd) (h2:SlV Y w' kd q.due):∀ c∈crC q kc kd,c.oneCell'=true:=by
 intro c hc;have e1:=h1.one;have e2:=h2.one;simp only [crC,Xd,Xp,or_false] at hc;rcases hc with rfl|rfl|rfl|rfl|rfl|rfl|rfl<;>first|rfl|exact e1|exact e2
abbrev crZ:Cr:=⟨[],0,[],[],[],[],[]⟩
theorem Z2R (va vb:Value) (xs ys:List Int) (w) (ha:SlV [] w va xs) (hb:SlV [] w vb ys) :
 CC 170 #[va,vb] w λr w'=>r=.B (decide (xs=ys))/\Stp [] w w':=by
 have sX:=ha.max;have qi:=hb.max;refine cW2 26 Tryz.func170 ?_;refine W ?_;by_cases hl:xs.length=ys.length
 case neg=>
  refine RT ?_;exact ⟨by congr 1;rw [eq_comm,decide_eq_false_iff_not];exact λh=>hl (by rw [h]),Stp.refl _ _⟩
 refine QO ?_;refine LP (σ:=Nat) (λj=>[(0,va),(1,vb),(4,.B false),(12,.I (xs.length:Int)),(13,.I (j:Int))]) (λj w'=>j<=xs.length/\Stp [] w w'/\∀ i (h:i<xs.length),i<j->xs[i]=ys[i]'(by omega)) (λj=>xs.length - j) 0 ⟨Xu _,Stp.refl _ _,λi _ h=>absurd h (XC _)⟩ ?_;rintro j w2 ⟨hj,hS,bo⟩
 try dsimp only at hj bo ⊢
 replace ha:=ha.up hS;replace hb:=hb.up hS;by_cases ah:j<xs.length;have dJ:j<ys.length:=by omega
 refine QO ?_;refine ZDr 9 [] [] [(0,0),(1,0),(2,0),(3,1),(4,0),(5,0),(6,0),(7,1),(8,0)] (λw1 ae=>?_);replace ha:=ha.up ae;replace hb:=hb.up ae;replace hS:=hS.trans ae;refine D ?_
 (refine QP ?_ ?_<;>intro hc)
 refine RU ?_;exact ⟨by congr 1;rw [eq_comm,decide_eq_false_iff_not];exact λh=>hc (by simp [h]),hS⟩;have he:xs[j]=ys[j]:=Decidable.byContradiction hc;have hk:∀ i (h:i<xs.length),i<j+1->xs[i]=ys[i]'(by omega):=λi h hi=>by
  by_cases bN:i=j;subst bN;exact he;exact bo i h (by omega)
 exact QL (j+1) ⟨ah,hS,hk⟩ (Xx ah (XD j));have fa:j=xs.length:=by omega
 subst fa;refine RT ?_;exact ⟨by congr 1;rw [eq_comm,decide_eq_true_eq];exact YaU hl (λi h h'=>bo i h h),hS⟩
abbrev RwZ (w w':World) (v:Value) (xs:List Int):Prop:=ZE 3 w w' v xs
theorem Zb8 (k:Nat) (w) (hk:k<=1000000):CC 227 #[.N,.I (k:Int)] w λr w'=>RwZ w w' r []:=by
 refine cW2 27 Tryz.func227 ?_;refine W ?_;have h0:SlV (α:=Int) [] w (.N) []:=Zz _ _;have cn:([]:List Int).length=0:=rfl;repeat'(first|refine W1 ?_|omega|refine VG ?_ ?_<;>intro hg|refine VC ?_ ?_<;>intro hc)
 apply Z7 (Z8S rfl) rfl;by_cases fK:k=0;subst fK;refine QO ?_;refine WR ?_;exact .mk ZE.nil;refine QO ?_;apply Z7 (Z8S rfl) rfl;apply Z7 (Z8T rfl rfl) rfl;refine W ?_;refine Z0 (Zfv (k:=k) rfl rfl rfl (by omega) (by simp [maxLen];omega) (by omega)) rfl ?_;rintro _ w1 ⟨c,rfl,bA,hS⟩;replace h0:=h0.up hS;have hr:RwZ w w1 (.slice (some ⟨w.heap.size,0,none⟩) 0 c) []:=⟨⟨[],rfl,λi h=>absurd h (XC _),bA⟩,hS⟩
 refine W ?_;apply Z7 (ZaQ rfl rfl) rfl;refine W ?_;refine WR ?_;exact .mk hr
theorem Z7S (v:Value) (xss:List (Sl Int)) (w) (hs:SlV [] w v xss) (hl:xss.length<=1000) (am:(xss.flatMap Sl.l).length<=100000):CC 171 #[v] w λr w'=>RwZ w w' r (xss.flatMap Sl.l):=by
 have bB:∀ j,((xss.take j).flatMap Sl.l).length<=(xss.flatMap Sl.l).length:=λj=>by
  rw [<- Xy j xss,Yaw,Xe];simp only [Xy];have:(xss.take j).flatMap Sl.l=((xss.take j++xss.drop j).take j).flatMap Sl.l:=by rw [Xy]
  omega
 have hstep:∀ j (h:j<xss.length),(xss.take (j+1)).flatMap Sl.l=(xss.take j).flatMap Sl.l++xss[j].l:=λj h=>by
  rw [Xf h,Yaw];simp
 refine cW1 36 Tryz.func171 ?_;refine W ?_;refine Z2h (σ:=Unit) (λ_=>[(0,v),(3,.I ((xss.flatMap Sl.l).length:Int))]) (λ_ w'=>w'=w) ?_ ?_;refine LP (σ:=Nat) (λj=>[(0,v),(9,v),(10,.I (xss.length:Int)),(3,.I (((xss.take j).flatMap Sl.l).length:Int)),(11,.I (j:Int))]) (λj w'=>j<=xss.length/\w'=w) (λj=>xss.length - j) 0 ⟨Xu _,rfl⟩ ?_;rintro j w2 ⟨hj,rfl⟩;by_cases ah:j<xss.length;obtain ⟨u,ak,fz⟩:=hs.sub ah;have oy:=fz.max;have h1:=bB j;have h2:=bB (j+1);have h3:=hstep j ah;have h4:((xss.take (j+1)).flatMap Sl.l).length=((xss.take j).flatMap Sl.l).length+xss[j].l.length:=by rw [h3,Xe]
 refine QO ?_;apply Z7 (ZP rfl rfl ak) rfl;refine QO ?_;refine J3 (j+1) ⟨rfl,rfl,rfl,by rw [h4,YbQ];rfl,rfl,trivial⟩ ⟨ah,rfl⟩ (by omega);have fa:j=xss.length:=by omega
 subst fa;rw [Xs];refine QO ?_;exact QT () rfl;rintro _ w2 rfl;refine W ?_;refine Z0 (Zd rfl (ZK rfl rfl) (Zb8 _ _ (by omega))) rfl ?_;rintro g w3 hr;refine W ?_;have dP:=hs.up hr.2;refine W ?_;refine LP (σ:=Nat×Value) (λq=>[(6,q.2),(25,v),(26,.I (xss.length:Int)),(27,.I (q.1:Int))]) (λq w'=>q.1<=xss.length/\RwZ w2 w' q.2 ((xss.take q.1).flatMap Sl.l)) (λq=>xss.length - q.1) (0,g) ⟨Xu _,by simpa using hr⟩ ?_;clear hr dP;rintro ⟨j,g⟩ w4 ⟨hj,hr⟩;dsimp only at hj hr ⊢;by_cases ah:j<xss.length;have cS:SlV (ob g) w4 v xss:=hs.ext hr.2 (by simp) (λb hb=>.inr (hr.ob_le b hb).1);obtain ⟨u,ak,fz⟩:=cS.sub ah;have h1:=bB j;have h2:=bB (j+1);have h3:=hstep j ah;have h4:((xss.take (j+1)).flatMap Sl.l).length=((xss.take j).flatMap Sl.l).length+xss[j].l.length:=by rw [h3,Xe]
 refine QO ?_;apply Z7 (ZP rfl rfl ak) rfl;refine QO ?_;refine Z0 (Z37 rfl (by decide) rfl rfl hr fz (by omega) (by simp only [maxLen];omega)) rfl ?_;rintro g' w5 ⟨aV,-,-⟩;refine W ?_;exact QL (j+1,g') ⟨ah,by dsimp only;rw [h3];exact aV⟩ (by dsimp only;omega);have fa:j=xss.length:=by omega
 subst fa;rw [Xs] at hr;refine QO ?_;refine WR ?_;exact .mk hr
end Go.Proofs.YtkojegdemoahlaaGreatDoor
namespace Go.Eng
open Go
theorem J6 {P:Program} {n:Nat} {fn:Func} {R:Ending->World->Prop} {e:Env} {w} {t u s q:Nat} {v x y z:Value} (hr:fn.results=#[.tmp t,.tmp u,.tmp s,.tmp q]) (ht:look e t=some v) (hu:look e u=some x) (hs:look e s=some y) (hq:look e q=some z) (h:R (.returned (.tuple #[v,x,y,z])) w):WQ n (bodyPost P fn R) .ret e w:=
 ⟨λa ha=>⟨ha.defers,.tuple #[v,x,y,z],by simp [results,hr];simpa [Xz] using And.intro (ha.vals t v ht) (And.intro (ha.vals u x hu) (And.intro (ha.vals s y hs) (ha.vals q z hq))),h⟩⟩
end Go.Eng
namespace Go.Proofs.YtkojegdemoahlaaGreatDoor
open Go Go.Eng Go.RowKit
def Zm (x:Ins):List Int×List Int×List Int×Bool:=
 if x.op=1 then ([],[],[1],decide (-2147483647<=x.n/\x.n<=2147483647))
 else if x.op=2 then ([],[],[2],decide (x.n=0\/x.n=1))
 else if x.op=3 then ([],[],[3],decide (0<=x.n/\x.n<=3652058))
 else if x.op=4 then ([],[],[if x.n=0\/x.n=1 then 3 else 1],decide (0<=x.n/\x.n<7))
 else if x.op=13 then ([],[],[],true)
 else if x.op=14 then ([2],[],[],true)
 else if x.op=5\/x.op=6\/x.op=7 then ([1,1],[],[1],decide (x.n=0))
 else if x.op=8 then ([1],[],[1],decide (x.n=0))
 else if x.op=9\/x.op=10\/x.op=11 then ([1,1],[3,3],[2],decide (x.n=0))
 else if x.op=12 then ([2],[],[2],decide (x.n=0))
 else if x.op=15\/x.op=16\/x.op=17\/x.op=18 then ([3,1],[],[3],decide (x.n=0))
 else if x.op=19\/x.op=20 then ([3],[],[3],decide (x.n=0))
 else if x.op=21\/x.op=22 then ([3,3],[],[3],decide (x.n=0))
 else if x.op=23 then ([3,3],[],[1],decide (x.n=0))
 else if x.op=24 then ([],[],[],decide (x.n=0))
 else ([],[],[],false)
def Zp2 (X:List Nat) (w:World) (x:Ins) (r:Value) (w':World):Prop:=∃ a b c,r=.tuple #[a,b,c,.B (Zm x).2.2.2]/\SlV X w' a (Zm x).1/\SlV X w' b (Zm x).2.1/\SlV X w' c (Zm x).2.2.1/\Stp [] w w'
theorem J7 {X:List Nat} {w w':World} {x:Ins} {a b c:Value} {p ok:Bool} {ta al gi:List Int} (bo:Zm x=(ta,al,gi,ok)) (hp:p=ok) (ha:SlV X w' a ta) (hb:SlV X w' b al) (hc:SlV X w' c gi) (hS:Stp [] w w'):Ret (Zp2 X w x) (.returned (.tuple #[a,b,c,.B p])) w':=by
 refine .mk ⟨a,b,c,?_,?_,?_,?_,hS⟩<;>rw [bo];rw [hp];exact ha;exact hb;exact hc
theorem Z9h (X:List Nat) (x:Ins) (w:World) (qj:∀ b∈X,b<w.heap.size) :
 Calls Tryz.prog 169 #[agg x] w (Ret (Zp2 X w x)):=by
 refine cW1 117 Tryz.func169 ?_;refine W ?_;refine Z0 (Zl rfl) rfl ?_;rintro _ w0 ⟨b,rfl,hb,ab,hS⟩;replace ab:Blk w0 b _ [.I x.op,.I x.n]:=ab;have hX:∀ b∈X,b<w0.heap.size:=λb hb=>Xj (qj b hb) hS.size;refine W ?_;by_cases h1:x.op=1
 . have bo:Zm x=([],[],[1],decide (-2147483647<=x.n/\x.n<=2147483647)):=by simp [Zm,h1]
   repeat'(first|refine W1 ?_|omega|refine VG ?_ ?_<;>intro hg|refine VC ?_ ?_<;>intro hc)
   refine ZDr 13 [] [] [(1,0),(2,1),(3,0),(4,0),(5,0),(6,1),(7,0),(8,0),(9,0),(10,0),(0,2),(11,0),(12,0)] (λw1 ae=>?_);replace ab:=ab.up ae;replace hS:=hS.trans ae;replace hX:=λb hb=>Xj (hX b hb) ae.size;repeat'(first|refine D1 ?_|omega|refine Z8 rfl rfl rfl rfl (λhg=>?_) (λhg=>?_)|(refine Z6 rfl rfl rfl rfl (λhg=>?_) (λhg=>?_)<;>refine D1 ?_)|fail)
   all_goals
    refine Zp rfl trivial (Z3 (vs:=[(0,.I 1)]) rfl (ZH _)) (λ_ _ h=>Zh.stp h) rfl ?_;rintro g wq hN;have s_g:SlV X wq g [(1:Int)]:=hN.slv hX rfl rfl (by simp [maxLen]);have hT:=Zh.stp hN;clear hN;replace ab:=ab.up hT;replace hS:=hS.trans hT;clear hT;refine D ?_;refine W ?_;refine J6 rfl rfl rfl rfl rfl ?_;refine J7 bo ?_ (Zz _ _) (Zz _ _) (s_g) hS;first|rfl|(simp only [decide_eq_decide];omega)|(symm;simp only [decide_eq_false_iff_not];omega)|(simp only [decide_eq_false_iff_not];omega)
 by_cases h2:x.op=2
 . have bo:Zm x=([],[],[2],decide (x.n=0\/x.n=1)):=by simp [Zm,h2]
   repeat'(first|refine W1 ?_|omega|refine VG ?_ ?_<;>intro hg|refine VC ?_ ?_<;>intro hc)
   refine ZDr 13 [] [] [(1,0),(2,1),(3,0),(4,0),(5,0),(6,1),(7,0),(8,0),(9,0),(10,0),(0,2),(11,0),(12,0)] (λw1 ae=>?_);replace ab:=ab.up ae;replace hS:=hS.trans ae;replace hX:=λb hb=>Xj (hX b hb) ae.size;repeat'(first|refine D1 ?_|omega|refine Z8 rfl rfl rfl rfl (λhg=>?_) (λhg=>?_)|(refine Z6 rfl rfl rfl rfl (λhg=>?_) (λhg=>?_)<;>refine D1 ?_)|fail)
   all_goals
    refine Zp rfl trivial (Z3 (vs:=[(0,.I 2)]) rfl (ZH _)) (λ_ _ h=>Zh.stp h) rfl ?_;rintro g wq hN;have s_g:SlV X wq g [(2:Int)]:=hN.slv hX rfl rfl (by simp [maxLen]);have hT:=Zh.stp hN;clear hN;replace ab:=ab.up hT;replace hS:=hS.trans hT;clear hT;refine D ?_;refine W ?_;refine J6 rfl rfl rfl rfl rfl ?_;refine J7 bo ?_ (Zz _ _) (Zz _ _) (s_g) hS;first|rfl|(simp only [decide_eq_decide];omega)|(symm;simp only [decide_eq_true_eq];omega)|(simp only [decide_eq_true_eq];omega)
 by_cases h3:x.op=3
 . have bo:Zm x=([],[],[3],decide (0<=x.n/\x.n<=3652058)):=by simp [Zm,h3]
   repeat'(first|refine W1 ?_|omega|refine VG ?_ ?_<;>intro hg|refine VC ?_ ?_<;>intro hc)
   refine ZDr 13 [] [] [(1,0),(2,1),(3,0),(4,0),(5,0),(6,1),(7,0),(8,0),(9,0),(10,0),(0,2),(11,0),(12,0)] (λw1 ae=>?_);replace ab:=ab.up ae;replace hS:=hS.trans ae;replace hX:=λb hb=>Xj (hX b hb) ae.size;repeat'(first|refine D1 ?_|omega|refine Z8 rfl rfl rfl rfl (λhg=>?_) (λhg=>?_)|(refine Z6 rfl rfl rfl rfl (λhg=>?_) (λhg=>?_)<;>refine D1 ?_)|fail)
   all_goals
    refine Zp rfl trivial (Z3 (vs:=[(0,.I 3)]) rfl (ZH _)) (λ_ _ h=>Zh.stp h) rfl ?_;rintro g wq hN;have s_g:SlV X wq g [(3:Int)]:=hN.slv hX rfl rfl (by simp [maxLen]);have hT:=Zh.stp hN;clear hN;replace ab:=ab.up hT;replace hS:=hS.trans hT;clear hT;refine D ?_;refine W ?_;refine J6 rfl rfl rfl rfl rfl ?_;refine J7 bo ?_ (Zz _ _) (Zz _ _) (s_g) hS;first|rfl|(simp only [decide_eq_decide];omega)|(symm;simp only [decide_eq_false_iff_not];omega)|(simp only [decide_eq_false_iff_not];omega)
 by_cases h4:x.op=4;by_cases eH:x.n=0\/x.n=1
 . have bo:Zm x=([],[],[3],decide (0<=x.n/\x.n<7)):=by simp [Zm,h4,eH]
   repeat'(first|refine W1 ?_|omega|refine VG ?_ ?_<;>intro hg|refine VC ?_ ?_<;>intro hc)
   all_goals
    refine ZDr 14 [] [] [(0,0),(2,0),(3,1),(4,0),(5,0),(6,0),(7,1),(8,0),(9,0),(10,0),(11,0),(1,2),(12,0),(13,0)] (λw1 ae=>?_);replace ab:=ab.up ae;replace hS:=hS.trans ae;replace hX:=λb hb=>Xj (hX b hb) ae.size;repeat'(first|refine D1 ?_|omega|refine Z8 rfl rfl rfl rfl (λhg=>?_) (λhg=>?_)|(refine Z6 rfl rfl rfl rfl (λhg=>?_) (λhg=>?_)<;>refine D1 ?_)|fail)
    all_goals
     refine Zp rfl trivial (Z3 (vs:=[(0,.I 3)]) rfl (ZH _)) (λ_ _ h=>Zh.stp h) rfl ?_;rintro g wq hN;have s_g:SlV X wq g [(3:Int)]:=hN.slv hX rfl rfl (by simp [maxLen]);have hT:=Zh.stp hN;clear hN;replace ab:=ab.up hT;replace hS:=hS.trans hT;clear hT;refine D ?_;refine W ?_;refine J6 rfl rfl rfl rfl rfl ?_;refine J7 bo ?_ (Zz _ _) (Zz _ _) (s_g) hS;first|rfl|(simp only [decide_eq_decide];omega)|(symm;simp only [decide_eq_true_eq,decide_eq_false_iff_not];omega)|(simp only [decide_eq_true_eq,decide_eq_false_iff_not];omega)
 . have bo:Zm x=([],[],[1],decide (0<=x.n/\x.n<7)):=by simp [Zm,h4,eH]
   repeat'(first|refine W1 ?_|omega|refine VG ?_ ?_<;>intro hg|refine VC ?_ ?_<;>intro hc)
   all_goals
    refine ZDr 14 [] [] [(0,0),(2,0),(3,1),(4,0),(5,0),(6,0),(7,1),(8,0),(9,0),(10,0),(11,0),(1,2),(12,0),(13,0)] (λw1 ae=>?_);replace ab:=ab.up ae;replace hS:=hS.trans ae;replace hX:=λb hb=>Xj (hX b hb) ae.size;repeat'(first|refine D1 ?_|omega|refine Z8 rfl rfl rfl rfl (λhg=>?_) (λhg=>?_)|(refine Z6 rfl rfl rfl rfl (λhg=>?_) (λhg=>?_)<;>refine D1 ?_)|fail)
    all_goals
     refine Zp rfl trivial (Z3 (vs:=[(0,.I 1)]) rfl (ZH _)) (λ_ _ h=>Zh.stp h) rfl ?_;rintro g wq hN;have s_g:SlV X wq g [(1:Int)]:=hN.slv hX rfl rfl (by simp [maxLen]);have hT:=Zh.stp hN;clear hN;replace ab:=ab.up hT;replace hS:=hS.trans hT;clear hT;refine D ?_;refine W ?_;refine J6 rfl rfl rfl rfl rfl ?_;refine J7 bo ?_ (Zz _ _) (Zz _ _) (s_g) hS;first|rfl|(simp only [decide_eq_decide];omega)|(symm;simp only [decide_eq_false_iff_not];omega)|(simp only [decide_eq_false_iff_not];omega)
 by_cases bH:x.op=13;have bo:Zm x=([],[],[],true):=by simp [Zm,bH]
 focus repeat'(first|refine W1 ?_|omega|refine VG ?_ ?_<;>intro hg|refine VC ?_ ?_<;>intro hc)
 refine J6 rfl rfl rfl rfl rfl ?_;refine J7 bo ?_ (Zz _ _) (Zz _ _) (Zz _ _) hS;first|rfl|(simp only [decide_eq_decide];omega)|(symm;simp only [decide_eq_true_eq,decide_eq_false_iff_not];omega)|(simp only [decide_eq_true_eq,decide_eq_false_iff_not];omega)
 by_cases ce:x.op=14;have bo:Zm x=([2],[],[],true):=by simp [Zm,ce]
 focus repeat'(first|refine W1 ?_|omega|refine VG ?_ ?_<;>intro hg|refine VC ?_ ?_<;>intro hc)
 refine Z0 (Z3 (vs:=[(0,.I 2)]) rfl (ZH _)) rfl ?_;rintro t wq hN;have s_t:SlV X wq t [(2:Int)]:=hN.slv hX rfl rfl (by simp [maxLen]);have hT:=Zh.stp hN;clear hN;replace ab:=ab.up hT;replace hS:=hS.trans hT;replace hX:=λb hb=>Xj (hX b hb) hT.size;clear hT;refine W ?_;refine J6 rfl rfl rfl rfl rfl ?_;refine J7 bo ?_ (s_t) (Zz _ _) (Zz _ _) hS;first|rfl|(simp only [decide_eq_decide];omega)|(symm;simp only [decide_eq_true_eq,decide_eq_false_iff_not];omega)|(simp only [decide_eq_true_eq,decide_eq_false_iff_not];omega)
 by_cases h5:x.op=5\/x.op=6\/x.op=7
 . have bo:Zm x=([1,1],[],[1],decide (x.n=0)):=by rcases h5 with h|h|h<;>simp [Zm,h]
   repeat'(first|refine W1 ?_|omega|refine VG ?_ ?_<;>intro hg|refine VC ?_ ?_<;>intro hc)
   all_goals
    refine Z0 (Z3 (vs:=[(0,.I 1),(1,.I 1)]) rfl (Z1d _ _)) rfl ?_;rintro t wq hN;have s_t:SlV X wq t [(1:Int),(1:Int)]:=hN.slv hX rfl rfl (by simp [maxLen]);have hT:=Zh.stp hN;clear hN;replace ab:=ab.up hT;replace hS:=hS.trans hT;replace hX:=λb hb=>Xj (hX b hb) hT.size;clear hT;refine Z0 (Z3 (vs:=[(0,.I 1)]) rfl (ZH _)) rfl ?_;rintro g wq hN;have s_g:SlV X wq g [(1:Int)]:=hN.slv hX rfl rfl (by simp [maxLen]);have hT:=Zh.stp hN;clear hN;replace ab:=ab.up hT;replace hS:=hS.trans hT;replace hX:=λb hb=>Xj (hX b hb) hT.size;replace s_t:=s_t.up hT;clear hT;refine W ?_;refine ZDr 10 [] [] [(0,0),(1,0),(2,0),(3,0),(4,1),(5,0),(6,0),(7,0),(8,0),(9,0)] (λw1 ae=>?_);replace ab:=ab.up ae;replace hS:=hS.trans ae;replace s_t:=s_t.up ae;replace s_g:=s_g.up ae;refine D ?_;refine W ?_;refine J6 rfl rfl rfl rfl rfl ?_;refine J7 bo ?_ (s_t) (Zz _ _) (s_g) hS;first|rfl|(simp only [decide_eq_decide];omega)|(symm;simp only [decide_eq_true_eq,decide_eq_false_iff_not];omega)|(simp only [decide_eq_true_eq,decide_eq_false_iff_not];omega)
 by_cases h8:x.op=8
 . have bo:Zm x=([1],[],[1],decide (x.n=0)):=by simp [Zm,h8]
   repeat'(first|refine W1 ?_|omega|refine VG ?_ ?_<;>intro hg|refine VC ?_ ?_<;>intro hc)
   all_goals
    refine Z0 (Z3 (vs:=[(0,.I 1)]) rfl (ZH _)) rfl ?_;rintro t wq hN;have s_t:SlV X wq t [(1:Int)]:=hN.slv hX rfl rfl (by simp [maxLen]);have hT:=Zh.stp hN;clear hN;replace ab:=ab.up hT;replace hS:=hS.trans hT;replace hX:=λb hb=>Xj (hX b hb) hT.size;clear hT;refine Z0 (Z3 (vs:=[(0,.I 1)]) rfl (ZH _)) rfl ?_;rintro g wq hN;have s_g:SlV X wq g [(1:Int)]:=hN.slv hX rfl rfl (by simp [maxLen]);have hT:=Zh.stp hN;clear hN;replace ab:=ab.up hT;replace hS:=hS.trans hT;replace hX:=λb hb=>Xj (hX b hb) hT.size;replace s_t:=s_t.up hT;clear hT;refine W ?_;refine ZDr 10 [] [] [(0,0),(1,0),(2,0),(3,0),(4,1),(5,0),(6,0),(7,0),(8,0),(9,0)] (λw1 ae=>?_);replace ab:=ab.up ae;replace hS:=hS.trans ae;replace s_t:=s_t.up ae;replace s_g:=s_g.up ae;refine D ?_;refine W ?_;refine J6 rfl rfl rfl rfl rfl ?_;refine J7 bo ?_ (s_t) (Zz _ _) (s_g) hS;first|rfl|(simp only [decide_eq_decide];omega)|(symm;simp only [decide_eq_true_eq,decide_eq_false_iff_not];omega)|(simp only [decide_eq_true_eq,decide_eq_false_iff_not];omega)
 by_cases h9:x.op=9\/x.op=10\/x.op=11
 . have bo:Zm x=([1,1],[3,3],[2],decide (x.n=0)):=by rcases h9 with h|h|h<;>simp [Zm,h]
   repeat'(first|refine W1 ?_|omega|refine VG ?_ ?_<;>intro hg|refine VC ?_ ?_<;>intro hc)
   all_goals
    refine Z0 (Z3 (vs:=[(0,.I 1),(1,.I 1)]) rfl (Z1d _ _)) rfl ?_;rintro t wq hN;have s_t:SlV X wq t [(1:Int),(1:Int)]:=hN.slv hX rfl rfl (by simp [maxLen]);have hT:=Zh.stp hN;clear hN;replace ab:=ab.up hT;replace hS:=hS.trans hT;replace hX:=λb hb=>Xj (hX b hb) hT.size;clear hT;refine Z0 (Z3 (vs:=[(0,.I 3),(1,.I 3)]) rfl (Z1d _ _)) rfl ?_;rintro a wq hN;have s_a:SlV X wq a [(3:Int),(3:Int)]:=hN.slv hX rfl rfl (by simp [maxLen]);have hT:=Zh.stp hN;clear hN;replace ab:=ab.up hT;replace hS:=hS.trans hT;replace hX:=λb hb=>Xj (hX b hb) hT.size;replace s_t:=s_t.up hT;clear hT;refine Z0 (Z3 (vs:=[(0,.I 2)]) rfl (ZH _)) rfl ?_;rintro g wq hN;have s_g:SlV X wq g [(2:Int)]:=hN.slv hX rfl rfl (by simp [maxLen]);have hT:=Zh.stp hN;clear hN;replace ab:=ab.up hT;replace hS:=hS.trans hT;replace hX:=λb hb=>Xj (hX b hb) hT.size;replace s_t:=s_t.up hT;replace s_a:=s_a.up hT;clear hT;refine W ?_;refine ZDr 10 [] [] [(0,0),(1,0),(2,0),(3,0),(4,1),(5,0),(6,0),(7,0),(8,0),(9,0)] (λw1 ae=>?_);replace ab:=ab.up ae;replace hS:=hS.trans ae;replace s_t:=s_t.up ae;replace s_a:=s_a.up ae;replace s_g:=s_g.up ae;refine D ?_;refine W ?_;refine J6 rfl rfl rfl rfl rfl ?_;refine J7 bo ?_ (s_t) (s_a) (s_g) hS;first|rfl|(simp only [decide_eq_decide];omega)|(symm;simp only [decide_eq_true_eq,decide_eq_false_iff_not];omega)|(simp only [decide_eq_true_eq,decide_eq_false_iff_not];omega)
 by_cases iT:x.op=12
 . have bo:Zm x=([2],[],[2],decide (x.n=0)):=by simp [Zm,iT]
   repeat'(first|refine W1 ?_|omega|refine VG ?_ ?_<;>intro hg|refine VC ?_ ?_<;>intro hc)
   all_goals
    refine Z0 (Z3 (vs:=[(0,.I 2)]) rfl (ZH _)) rfl ?_;rintro t wq hN;have s_t:SlV X wq t [(2:Int)]:=hN.slv hX rfl rfl (by simp [maxLen]);have hT:=Zh.stp hN;clear hN;replace ab:=ab.up hT;replace hS:=hS.trans hT;replace hX:=λb hb=>Xj (hX b hb) hT.size;clear hT;refine Z0 (Z3 (vs:=[(0,.I 2)]) rfl (ZH _)) rfl ?_;rintro g wq hN;have s_g:SlV X wq g [(2:Int)]:=hN.slv hX rfl rfl (by simp [maxLen]);have hT:=Zh.stp hN;clear hN;replace ab:=ab.up hT;replace hS:=hS.trans hT;replace hX:=λb hb=>Xj (hX b hb) hT.size;replace s_t:=s_t.up hT;clear hT;refine W ?_;refine ZDr 10 [] [] [(0,0),(1,0),(2,0),(3,0),(4,1),(5,0),(6,0),(7,0),(8,0),(9,0)] (λw1 ae=>?_);replace ab:=ab.up ae;replace hS:=hS.trans ae;replace s_t:=s_t.up ae;replace s_g:=s_g.up ae;refine D ?_;refine W ?_;refine J6 rfl rfl rfl rfl rfl ?_;refine J7 bo ?_ (s_t) (Zz _ _) (s_g) hS;first|rfl|(simp only [decide_eq_decide];omega)|(symm;simp only [decide_eq_true_eq,decide_eq_false_iff_not];omega)|(simp only [decide_eq_true_eq,decide_eq_false_iff_not];omega)
 by_cases oz:x.op=15\/x.op=16\/x.op=17\/x.op=18
 . have bo:Zm x=([3,1],[],[3],decide (x.n=0)):=by rcases oz with h|h|h|h<;>simp [Zm,h]
   repeat'(first|refine W1 ?_|omega|refine VG ?_ ?_<;>intro hg|refine VC ?_ ?_<;>intro hc)
   all_goals
    refine Z0 (Z3 (vs:=[(0,.I 3),(1,.I 1)]) rfl (Z1d _ _)) rfl ?_;rintro t wq hN;have s_t:SlV X wq t [(3:Int),(1:Int)]:=hN.slv hX rfl rfl (by simp [maxLen]);have hT:=Zh.stp hN;clear hN;replace ab:=ab.up hT;replace hS:=hS.trans hT;replace hX:=λb hb=>Xj (hX b hb) hT.size;clear hT;refine Z0 (Z3 (vs:=[(0,.I 3)]) rfl (ZH _)) rfl ?_;rintro g wq hN;have s_g:SlV X wq g [(3:Int)]:=hN.slv hX rfl rfl (by simp [maxLen]);have hT:=Zh.stp hN;clear hN;replace ab:=ab.up hT;replace hS:=hS.trans hT;replace hX:=λb hb=>Xj (hX b hb) hT.size;replace s_t:=s_t.up hT;clear hT;refine W ?_;refine ZDr 10 [] [] [(0,0),(1,0),(2,0),(3,0),(4,1),(5,0),(6,0),(7,0),(8,0),(9,0)] (λw1 ae=>?_);replace ab:=ab.up ae;replace hS:=hS.trans ae;replace s_t:=s_t.up ae;replace s_g:=s_g.up ae;refine D ?_;refine W ?_;refine J6 rfl rfl rfl rfl rfl ?_;refine J7 bo ?_ (s_t) (Zz _ _) (s_g) hS;first|rfl|(simp only [decide_eq_decide];omega)|(symm;simp only [decide_eq_true_eq,decide_eq_false_iff_not];omega)|(simp only [decide_eq_true_eq,decide_eq_false_iff_not];omega)
 by_cases oA:x.op=19\/x.op=20
 . have bo:Zm x=([3],[],[3],decide (x.n=0)):=by rcases oA with h|h<;>simp [Zm,h]
   repeat'(first|refine W1 ?_|omega|refine VG ?_ ?_<;>intro hg|refine VC ?_ ?_<;>intro hc)
   all_goals
    refine Z0 (Z3 (vs:=[(0,.I 3)]) rfl (ZH _)) rfl ?_;rintro t wq hN;have s_t:SlV X wq t [(3:Int)]:=hN.slv hX rfl rfl (by simp [maxLen]);have hT:=Zh.stp hN;clear hN;replace ab:=ab.up hT;replace hS:=hS.trans hT;replace hX:=λb hb=>Xj (hX b hb) hT.size;clear hT;refine Z0 (Z3 (vs:=[(0,.I 3)]) rfl (ZH _)) rfl ?_;rintro g wq hN;have s_g:SlV X wq g [(3:Int)]:=hN.slv hX rfl rfl (by simp [maxLen]);have hT:=Zh.stp hN;clear hN;replace ab:=ab.up hT;replace hS:=hS.trans hT;replace hX:=λb hb=>Xj (hX b hb) hT.size;replace s_t:=s_t.up hT;clear hT;refine W ?_;refine ZDr 10 [] [] [(0,0),(1,0),(2,0),(3,0),(4,1),(5,0),(6,0),(7,0),(8,0),(9,0)] (λw1 ae=>?_);replace ab:=ab.up ae;replace hS:=hS.trans ae;replace s_t:=s_t.up ae;replace s_g:=s_g.up ae;refine D ?_;refine W ?_;refine J6 rfl rfl rfl rfl rfl ?_;refine J7 bo ?_ (s_t) (Zz _ _) (s_g) hS;first|rfl|(simp only [decide_eq_decide];omega)|(symm;simp only [decide_eq_true_eq,decide_eq_false_iff_not];omega)|(simp only [decide_eq_true_eq,decide_eq_false_iff_not];omega)
 by_cases oB:x.op=21\/x.op=22
 . have bo:Zm x=([3,3],[],[3],decide (x.n=0)):=by rcases oB with h|h<;>simp [Zm,h]
   repeat'(first|refine W1 ?_|omega|refine VG ?_ ?_<;>intro hg|refine VC ?_ ?_<;>intro hc)
   all_goals
    refine Z0 (Z3 (vs:=[(0,.I 3),(1,.I 3)]) rfl (Z1d _ _)) rfl ?_;rintro t wq hN;have s_t:SlV X wq t [(3:Int),(3:Int)]:=hN.slv hX rfl rfl (by simp [maxLen]);have hT:=Zh.stp hN;clear hN;replace ab:=ab.up hT;replace hS:=hS.trans hT;replace hX:=λb hb=>Xj (hX b hb) hT.size;clear hT;refine Z0 (Z3 (vs:=[(0,.I 3)]) rfl (ZH _)) rfl ?_;rintro g wq hN;have s_g:SlV X wq g [(3:Int)]:=hN.slv hX rfl rfl (by simp [maxLen]);have hT:=Zh.stp hN;clear hN;replace ab:=ab.up hT;replace hS:=hS.trans hT;replace hX:=λb hb=>Xj (hX b hb) hT.size;replace s_t:=s_t.up hT;clear hT;refine W ?_;refine ZDr 10 [] [] [(0,0),(1,0),(2,0),(3,0),(4,1),(5,0),(6,0),(7,0),(8,0),(9,0)] (λw1 ae=>?_);replace ab:=ab.up ae;replace hS:=hS.trans ae;replace s_t:=s_t.up ae;replace s_g:=s_g.up ae;refine D ?_;refine W ?_;refine J6 rfl rfl rfl rfl rfl ?_;refine J7 bo ?_ (s_t) (Zz _ _) (s_g) hS;first|rfl|(simp only [decide_eq_decide];omega)|(symm;simp only [decide_eq_true_eq,decide_eq_false_iff_not];omega)|(simp only [decide_eq_true_eq,decide_eq_false_iff_not];omega)
 by_cases oC:x.op=23
 . have bo:Zm x=([3,3],[],[1],decide (x.n=0)):=by simp [Zm,oC]
   repeat'(first|refine W1 ?_|omega|refine VG ?_ ?_<;>intro hg|refine VC ?_ ?_<;>intro hc)
   all_goals
    refine Z0 (Z3 (vs:=[(0,.I 3),(1,.I 3)]) rfl (Z1d _ _)) rfl ?_;rintro t wq hN;have s_t:SlV X wq t [(3:Int),(3:Int)]:=hN.slv hX rfl rfl (by simp [maxLen]);have hT:=Zh.stp hN;clear hN;replace ab:=ab.up hT;replace hS:=hS.trans hT;replace hX:=λb hb=>Xj (hX b hb) hT.size;clear hT;refine Z0 (Z3 (vs:=[(0,.I 1)]) rfl (ZH _)) rfl ?_;rintro g wq hN;have s_g:SlV X wq g [(1:Int)]:=hN.slv hX rfl rfl (by simp [maxLen]);have hT:=Zh.stp hN;clear hN;replace ab:=ab.up hT;replace hS:=hS.trans hT;replace hX:=λb hb=>Xj (hX b hb) hT.size;replace s_t:=s_t.up hT;clear hT;refine W ?_;refine ZDr 10 [] [] [(0,0),(1,0),(2,0),(3,0),(4,1),(5,0),(6,0),(7,0),(8,0),(9,0)] (λw1 ae=>?_);replace ab:=ab.up ae;replace hS:=hS.trans ae;replace s_t:=s_t.up ae;replace s_g:=s_g.up ae;refine D ?_;refine W ?_;refine J6 rfl rfl rfl rfl rfl ?_;refine J7 bo ?_ (s_t) (Zz _ _) (s_g) hS;first|rfl|(simp only [decide_eq_decide];omega)|(symm;simp only [decide_eq_true_eq,decide_eq_false_iff_not];omega)|(simp only [decide_eq_true_eq,decide_eq_false_iff_not];omega)
 by_cases bI:x.op=24;have bo:Zm x=([],[],[],decide (x.n=0)):=by simp [Zm,bI]
 focus repeat'(first|refine W1 ?_|omega|refine VG ?_ ?_<;>intro hg|refine VC ?_ ?_<;>intro hc)
 refine ZDr 10 [] [] [(0,0),(1,0),(2,0),(3,0),(4,1),(5,0),(6,0),(7,0),(8,0),(9,0)] (λw1 ae=>?_);replace ab:=ab.up ae;replace hS:=hS.trans ae;refine D ?_;refine W ?_;refine J6 rfl rfl rfl rfl rfl ?_;refine J7 bo ?_ (Zz _ _) (Zz _ _) (Zz _ _) hS;first|rfl|(simp only [decide_eq_decide];omega)|(symm;simp only [decide_eq_true_eq,decide_eq_false_iff_not];omega)|(simp only [decide_eq_true_eq,decide_eq_false_iff_not];omega)
 have bo:Zm x=([],[],[],false):=by simp [Zm,h1,h2,h3,h4,bH,ce,h5,h8,h9,iT,oz,oA,oB,oC,bI]
 repeat'(first|refine W1 ?_|omega|refine VG ?_ ?_<;>intro hg|refine VC ?_ ?_<;>intro hc)
 refine J6 rfl rfl rfl rfl rfl ?_;refine J7 bo ?_ (Zz _ _) (Zz _ _) (Zz _ _) hS;first|rfl|(simp only [decide_eq_decide];omega)|(symm;simp only [decide_eq_true_eq,decide_eq_false_iff_not];omega)|(simp only [decide_eq_true_eq,decide_eq_false_iff_not];omega)
abbrev Shp:=List Int
def Z0i (x:Ins) (s:Shp):Option Shp:=
 let e:=Zm x
 let k:=s.length - e.1.length
 if e.2.2.2=true/\e.1.length<=s.length/\(s.drop k=e.1\/e.2.1≠[]/\s.drop k=e.2.1)/\(s.take k++e.2.2.1).length<=16 then some (s.take k++e.2.2.1) else none
def J2 (st:List (Option Shp)) (t:Int) (sh:Shp):Option (List (Option Shp)):=
 if 0<=t/\t<st.length then
  match st.getD t.toNat none with
  | some s=>if s=sh then some st else none
  | none=>some (st.set t.toNat (some sh))
 else none
def JJ (st:List (Option Shp)) (i:Nat) (x:Ins):Option (List (Option Shp)):=
 match st.getD i none with
 | none=>none
 | some s=>
   match Z0i x s with
   | none=>none
   | some nx=>
     if x.op=24 then (if i+1=st.length/\s.length=1 then some st else none)
     else if x.op=13 then (if x.n > i then J2 st x.n nx else none)
     else if x.op=14 then (if x.n > i then (J2 st x.n nx).bind (λst'=>J2 st' ((i:Int)+1) nx) else none)
     else J2 st ((i:Int)+1) nx
def Z2S (code:List Ins):Nat->List (Option Shp)->Option (List (Option Shp))
 | 0,st=>some st
 | k+1,st=>(Z2S code k st).bind (λst'=>JJ st' k (code.getD k ⟨0,0⟩))
def Z1Y (code:List Ins):Int×Int:=
 if code.length=0\/code.length > 200 then (0,22) else
  match Z2S code code.length ((some []) :: List.replicate (code.length - 1) none) with
  | none=>(0,22)
  | some st=>(((st.getD (code.length - 1) none).getD []).headD 0,0)
theorem ZX {st st':List (Option Shp)} {t:Int} {sh:Shp} (h:J2 st t sh=some st'):st'.length=st.length:=by
 unfold J2 at h;split at h;split at h;split at h;cases h;rfl;cases h;cases h;simp;cases h
end Go.Proofs.YtkojegdemoahlaaGreatDoor
namespace Go.Eng
open Go Go.RowKit Go.Proofs
theorem Row.slvX {α:Type} [Z1 α] {X:List Nat} {w} {base T:Nat} {v:Value} {xs:List α} (h:Row X w base T v xs) (hX:∀ b∈X,b∉ob v):SlV X w v xs:=by
 obtain ⟨css,hl,hr,ho⟩:=h;have hk:∀ c∈css,c.length=Z1.k α:=by
  intro c hc;obtain ⟨i,hi,rfl⟩:=Xq hc;exact Z1.len (hr i (by omega) hi)
 rcases ho.2 with ⟨rfl,hn⟩|⟨q,cap,cur,rfl,hb,hg,bj,aW,aH,ht⟩
 exact ⟨none,0,by rw [hn],by omega,by simp [maxLen],λ_=>rfl,λi hi=>by omega⟩;refine ⟨some ⟨q,0,none⟩,cap,rfl,bj,aW,λh=>by simp at h,λi hi=>?_⟩;refine ⟨q,0,css[i]'(by omega),rfl,(Xi.1 hg).1,λhx=>hX q hx (by simp [ob]),?_,λj u hu=>?_⟩;exact Z1.ext (hr i hi (by omega)) (Stp.refl [] w) (by simp) (λb hb=>.inl (by simp [hb]));have h1:=JC css hk i (by omega) j u hu;rw [<- ht,Yab] at h1;split at h1;have h2:cur[i * Z1.k α+j]?=some u:=by simpa using h1
 rw [XO,cell_of_row w q _ cur T (0,0) hg];exact h2;cases h1
end Go.Eng
namespace Go.Proofs.YtkojegdemoahlaaGreatDoor
open Go Go.Eng Go.RowKit
abbrev JP (st:List (Option Shp)):List (Sl Int):=st.map (λo=>⟨o.getD []⟩)
abbrev Jb (st:List (Option Shp)):List Bool:=st.map Option.isSome
structure Vf (w:World) (bv base:Nat) (cv hv sv:Value) (code:List Ins) (st:List (Option Shp)):Prop where
 blk:Blk w bv 219 [cv,hv,sv]
 cod:SlV (bv :: (ob hv++ob sv)) w cv code
 shp:Row (bv :: ob sv) w base 22 hv (JP st)
 seen:Row [] w base 4 sv (Jb st)
 nh:bv∉ob hv
 ns:bv∉ob sv
 hi:base<=w.heap.size
 apart:∀ b∈ob hv,b∉ob sv
 len:st.length=code.length
theorem Vf.up {w w':World} {bv base:Nat} {cv hv sv:Value} {code:List Ins} {st:List (Option Shp)} (h:Vf w bv base cv hv sv code st) (hS:Stp [] w w'):Vf w' bv base cv hv sv code st:=
 ⟨h.blk.up hS,h.cod.up hS,h.shp.up hS,h.seen.up hS,h.nh,h.ns,Xl h.hi hS.size,h.apart,h.len⟩
theorem Z2o (bv base:Nat) (cv hv sv uv:Value) (code:List Ins) (st:List (Option Shp)) (t:Int) (s:Shp) (w) (h:Vf w bv base cv hv sv code st) (ht:0<=t) (hs:SlV (bv :: (ob hv++ob sv)) w uv s) :
 CC 172 #[pQ bv,.I t,uv] w λr w'=>Stp (bv :: (ob hv++ob sv)) w w'/\r=.B (J2 st t s).isSome/\∀ st',J2 st t s=some st'->Vf w' bv base cv hv sv code st':=by
 have ab:=h.blk;have jy:=h.cod;have bg:=jy.max;have am:=h.len;have jz:=h.nh;have cr:=h.ns;have fL:=h.shp.slvX (λb hb=>by
  rcases Xd.1 hb with rfl|hb
  exact jz;exact λbQ=>h.apart b bQ hb)
 have eY:=h.seen.slv0;have fb:(JP st).length=st.length:=by simp [JP]
 have cZ:(Jb st).length=st.length:=by simp [Jb]
 refine cW3 45 Tryz.func172 ?_;refine W ?_;by_cases ah:t<code.length
 case neg=>
  have hr:J2 st t s=none:=by rw [J2,if_neg (by omega)]
  refine RT ?_;exact ⟨Stp.refl _ _,by rw [hr];rfl,λst' h=>by rw [hr] at h;cases h⟩
 obtain ⟨k,rfl⟩:∃ k:Nat,t=(k:Int):=⟨t.toNat,by omega⟩
 have hk:k<st.length:=by omega
 have bz:k<(JP st).length:=by omega
 have dF:k<(Jb st).length:=by omega
 have fM:(Jb st)[k]=(st[k]).isSome:=by simp [Jb]
 have iL:st.getD ((k:Int)).toNat none=st[k]:=by simp [List.getD,hk]
 cases ax:st[k] with
 | some s0=>
   have fA:(Jb st)[k]=true:=by rw [fM,ax];rfl
   have jA:J2 st (k:Int) s=if s0=s then some st else none:=by
    rw [J2,if_pos (by omega),iL,ax]
   (refine QP ?_ ?_<;>intro hc)
   obtain ⟨u,ak,fz⟩:=fL.sub bz;have lu:(JP st)[k].l=s0:=by simp [JP,ax]
   apply Z7 (ZP rfl rfl ak) rfl;refine W ?_;refine CM (ZK rfl rfl) (Z2R _ _ _ _ _ (fz.wk (by simp)) (hs.wk (by simp))) ?_;rintro _ w2 ⟨rfl,hS⟩;refine W ?_;refine WR ?_;rw [lu];refine .mk ⟨hS.mn,?_,λst' h'=>?_⟩;rw [jA];by_cases he:s0=s<;>simp [he];rw [jA] at h';split at h';cases h';exact h.up hS;cases h';rw [fA] at hc;exact absurd hc (by simp)
 | none=>
   have fA:(Jb st)[k]=false:=by rw [fM,ax];rfl
   have jA:J2 st (k:Int) s=some (st.set k (some s)):=by
    rw [J2,if_pos (by omega),iL,ax];simp
   (refine QP ?_ ?_<;>intro hc)
   rw [fA] at hc;exact absurd hc (by simp);refine WC_drawn 15 (ob hv++ob sv) [] [(0,0),(1,0),(2,0),(3,1),(4,0),(5,0),(6,0),(7,0),(8,1),(9,0),(10,0),(11,0),(12,2),(13,0),(14,2)] rfl mixed (by kernel_rfl) (by kernel_rfl) (by kernel_rfl) (λw1 ae=>?_);have nb:bv∉ob hv++ob sv:=λhb=>(Xg.1 hb).elim jz cr;replace ab:=ab.up ae;have lX:=eY.up ae;have oD:=fL.up ae;have rs:=h.seen.up ae;have rh:=h.shp.up ae;refine D ?_
   try (refine WD_read rfl trivial (λw' bp=>J4 rfl rfl (ab.ext bp nb) rfl) rfl ?_)
   refine D ?_
   try (refine WD_read rfl trivial (λw' bp=>J4 rfl rfl (ab.ext bp nb) rfl) rfl ?_)
   refine D ?_;refine Z2i rfl trivial (Z1U (α:=Bool) (y':=true) (u:=.B true) rfl rfl rfl rfl rs dF) (λ_ _ h=>h.2.mono (by simp_all)) ?_;rintro _ w3 ⟨rs3,aw⟩;replace rh:=rh.ext (X':=bv :: ob sv) aw (λb hb=>⟨X0 _ hb,λbQ=>h.apart b bQ hb⟩) (λ_ h=>.inl h);have oE:=rh.slvX (λb hb=>by
    rcases Xd.1 hb with rfl|hb
    exact jz;exact λbQ=>h.apart b bQ hb)
   have bF:Stp (bv :: (ob hv++ob sv)) w w3:=ae.mn.trans (aw.mono (λb hb=>by simp [hb]));have dP:=hs.ext bF (λ_ h=>h) (λ_ h=>.inl h);refine D ?_;refine Z2i rfl trivial (Z1U (α:=Sl Int) (y':=⟨s⟩) (u:=uv) rfl rfl rfl ⟨uv,dP.cells,dP.wk (λb hb=>by simp at hb;rcases hb with h|h|h<;>simp [h])⟩ rh bz) (λ_ _ h=>h.2.mono (by simp_all)) ?_;rintro _ w4 ⟨rh4,ay⟩;refine D ?_;refine W ?_;refine WR ?_;have ic:Stp (bv :: (ob hv++ob sv)) w w4:=bF.trans (ay.mono (λb hb=>by simp [hb]));refine .mk ⟨ic,by rw [jA];rfl,λst' h'=>?_⟩;rw [jA] at h';cases h';have rs4:=rs3.keep ay (λb hb=>h.apart b hb);refine ⟨(ab.ext aw cr).ext ay jz,h.cod.ext ic (λ_ h=>h) (λ_ h=>.inl h),?_,?_,jz,cr,Xl h.hi ic.size,h.apart,by simpa using h.len⟩;have e:JP (st.set k (some s))=(JP st).set k ⟨s⟩:=by simp [JP,YbN]
   rw [e];exact rh4;have e:Jb (st.set k (some s))=(Jb st).set k true:=by simp [Jb,YbN]
   rw [e];exact rs4
def okS (s:Shp):Prop:=∀ k∈s,k=1\/k=2\/k=3
theorem ZdI {s:Shp} (h:okS s) (k:Nat):okS (s.take k):=λa ha=>h a (YaK ha)
theorem Zha {s t:Shp} (h:okS s) (h':okS t):okS (s++t):=λa ha=>(Xg.1 ha).elim (h a) (h' a)
theorem ZdJ {op n:Int} (h:¬ (1<=op/\op<=24)):Zm ⟨op,n⟩=([],[],[],false):=by
 have h1:∀ k:Int,1<=k->k<=24->¬ op=k:=λk h1 h2 e=>h (by omega)
 simp only [Zm];rw [if_neg (h1 1 (by decide) (by decide))];rw [if_neg (h1 2 (by decide) (by decide))];rw [if_neg (h1 3 (by decide) (by decide))];rw [if_neg (h1 4 (by decide) (by decide))];rw [if_neg (h1 13 (by decide) (by decide))];rw [if_neg (h1 14 (by decide) (by decide))];rw [if_neg (not_or.2 ⟨h1 5 (by decide) (by decide),(not_or.2 ⟨h1 6 (by decide) (by decide),(h1 7 (by decide) (by decide))⟩)⟩)];rw [if_neg (h1 8 (by decide) (by decide))];rw [if_neg (not_or.2 ⟨h1 9 (by decide) (by decide),(not_or.2 ⟨h1 10 (by decide) (by decide),(h1 11 (by decide) (by decide))⟩)⟩)];rw [if_neg (h1 12 (by decide) (by decide))];rw [if_neg (not_or.2 ⟨h1 15 (by decide) (by decide),(not_or.2 ⟨h1 16 (by decide) (by decide),(not_or.2 ⟨h1 17 (by decide) (by decide),(h1 18 (by decide) (by decide))⟩)⟩)⟩)];rw [if_neg (not_or.2 ⟨h1 19 (by decide) (by decide),(h1 20 (by decide) (by decide))⟩)];rw [if_neg (not_or.2 ⟨h1 21 (by decide) (by decide),(h1 22 (by decide) (by decide))⟩)];rw [if_neg (h1 23 (by decide) (by decide))];rw [if_neg (h1 24 (by decide) (by decide))]
def Z7T (st:List (Option Shp)):Prop:=∀ s,some s∈st->okS s
theorem Zb9 (x:Ins):okS (Zm x).2.2.1:=by
 obtain ⟨op,n⟩:=x;by_cases hr:1<=op/\op<=24;have hn:op=1\/op=2\/op=3\/op=4\/op=5\/op=6\/op=7\/op=8\/op=9\/op=10\/op=11\/op=12\/op=13\/op=14\/op=15\/op=16\/op=17\/op=18\/op=19\/op=20\/op=21\/op=22\/op=23\/op=24:=by omega
 rcases hn with rfl|rfl|rfl|rfl|rfl|rfl|rfl|rfl|rfl|rfl|rfl|rfl|rfl|rfl|rfl|rfl|rfl|rfl|rfl|rfl|rfl|rfl|rfl|rfl
 intro k hk;simp [Zm] at hk;omega;intro k hk;simp [Zm] at hk;omega;intro k hk;simp [Zm] at hk;omega;show okS [if n=0\/n=1 then 3 else 1];intro k hk;simp at hk;subst hk;split<;>simp;intro k hk;simp [Zm] at hk;omega;intro k hk;simp [Zm] at hk;omega;intro k hk;simp [Zm] at hk;omega;intro k hk;simp [Zm] at hk;omega;intro k hk;simp [Zm] at hk;omega;intro k hk;simp [Zm] at hk;omega;intro k hk;simp [Zm] at hk;omega;intro k hk;simp [Zm] at hk;omega;intro k hk;simp [Zm] at hk;intro k hk;simp [Zm] at hk;intro k hk;simp [Zm] at hk;omega;intro k hk;simp [Zm] at hk;omega;intro k hk;simp [Zm] at hk;omega;intro k hk;simp [Zm] at hk;omega;intro k hk;simp [Zm] at hk;omega;intro k hk;simp [Zm] at hk;omega;intro k hk;simp [Zm] at hk;omega;intro k hk;simp [Zm] at hk;omega;intro k hk;simp [Zm] at hk;omega;intro k hk;simp [Zm] at hk;rw [ZdJ hr];intro k hk;simp at hk
theorem Zhb {x:Ins} {s nx:Shp} (hs:okS s) (h:Z0i x s=some nx):okS nx:=by
 unfold Z0i at h;dsimp only at h;split at h;cases h;exact Zha (ZdI hs _) (Zb9 x);cases h
theorem Z3f {st st':List (Option Shp)} {t:Int} {nx:Shp} (ax:Z7T st) (hn:okS nx) (h:J2 st t nx=some st'):Z7T st':=by
 unfold J2 at h;split at h;split at h;split at h;cases h;exact ax;cases h;cases h;intro s hs;rcases List.mem_or_eq_of_mem_set hs with h|h
 exact ax s h;cases h;exact hn;cases h
theorem Zhc {st st':List (Option Shp)} {i:Nat} {x:Ins} (ax:Z7T st) (h:JJ st i x=some st'):Z7T st'/\st'.length=st.length:=by
 unfold JJ at h;split at h;cases h;rename_i s hs;have cd:okS s:=by
  refine ax s ?_;have hi:i<st.length:=Nat.lt_of_not_le λfC=>by simp [List.getD,Ya0.2 fC] at hs
  have:st.getD i none=st[i]:=by simp [List.getD,hi]
  rw [<- hs,this];exact Xc hi
 split at h;cases h;rename_i nx hn;have cB:=Zhb cd hn;split at h;split at h;cases h;exact ⟨ax,rfl⟩;cases h;split at h;split at h;exact ⟨Z3f ax cB h,ZX h⟩;cases h;split at h;split at h;obtain ⟨s1,h1,h2⟩:=XY.1 h;exact ⟨Z3f (Z3f ax cB h1) cB h2,by rw [ZX h2,ZX h1]⟩;cases h;exact ⟨Z3f ax cB h,ZX h⟩
theorem Z2T {st:List (Option Shp)} {t:Int} {nx:Shp} (h:¬ t<st.length):J2 st t nx=none:=if_neg (λh'=>h h'.2)
theorem ZdK {code:List Ins} {st0:List (Option Shp)} (h0:Z7T st0):∀ k st,Z2S code k st0=some st->Z7T st/\st.length=st0.length
 | 0,st,h=>by cases h;exact ⟨h0,rfl⟩
 | k + 1, st, h => by
   obtain ⟨s1,h1,h2⟩:=XY.1 h;obtain ⟨a,b⟩:=ZdK h0 k s1 h1;obtain ⟨c,d⟩:=Zhc a h2;exact ⟨c,by omega⟩
theorem ZdL (p q:Option Addr) (l m c d:Nat) (w):(Instr.buildSlice 217 2 #[(0,.slice p l c),(1,.slice q m d)]).run Tryz.prog w=.ok (.slice (some ⟨w.heap.size,0,none⟩) 2 2) (w.alloc (.cells #[.slice p l c,.slice q m d] 22)):=by kernel_rfl
theorem Vf.shps {w} {bv base:Nat} {cv hv sv:Value} {code:List Ins} {st:List (Option Shp)} (h:Vf w bv base cv hv sv code st):SlV (bv :: ob sv) w hv (JP st):=
 h.shp.slvX (λb hb=>by
  rcases Xd.1 hb with rfl|hb
  exact h.nh;exact λbQ=>h.apart b bQ hb)
theorem Vf.bounds {w} {bv base:Nat} {cv hv sv:Value} {code:List Ins} {st:List (Option Shp)} (h:Vf w bv base cv hv sv code st):∀ b∈bv :: (ob hv++ob sv),b<w.heap.size:=λb hb=>by
 have:=h.blk.lt;simp only [Xd,Xg] at hb;rcases hb with rfl|hb|hb
 omega;exact (h.shp.ob_le b hb).2;exact (h.seen.ob_le b hb).2
theorem Zhd (x:Ins):(Zm x).1.length<=2/\(Zm x).2.1.length<=2/\(Zm x).2.2.1.length<=1:=by
 obtain ⟨op,n⟩:=x;by_cases hr:1<=op/\op<=24;have hn:op=1\/op=2\/op=3\/op=4\/op=5\/op=6\/op=7\/op=8\/op=9\/op=10\/op=11\/op=12\/op=13\/op=14\/op=15\/op=16\/op=17\/op=18\/op=19\/op=20\/op=21\/op=22\/op=23\/op=24:=by omega
 rcases hn with rfl|rfl|rfl|rfl|rfl|rfl|rfl|rfl|rfl|rfl|rfl|rfl|rfl|rfl|rfl|rfl|rfl|rfl|rfl|rfl|rfl|rfl|rfl|rfl<;>simp [Zm]
 rw [ZdJ hr];simp
theorem ZdM (bv base:Nat) (cv hv sv:Value) (code:List Ins) (st:List (Option Shp)) (i:Nat) (w) (h:Vf w bv base cv hv sv code st) (hi:i<code.length) (hn:code.length<=1000) (eI:∀ s,some s∈st->s.length<=16) :
 CC 104 #[pQ bv,.I (i:Int)] w λr w'=>Stp (bv :: (ob hv++ob sv)) w w'/\r=.B (JJ st i code[i]).isSome/\∀ st',JJ st i code[i]=some st'->Vf w' bv base cv hv sv code st':=by
 have am:=h.len;have bz:i<(JP st).length:=by simp [JP];omega
 have dF:i<(Jb st).length:=by simp [Jb];omega
 have jB:i<st.length:=by omega
 refine cW2 140 Tryz.func104 ?_;refine W ?_;refine ZaR 17 ([w.heap.size]) [] [(0,0),(1,0),(2,0),(3,1),(4,0),(5,0),(6,1),(7,0),(8,0),(9,0),(10,1),(11,0),(12,0),(13,1),(14,2),(15,2),(16,0)] rfl mixed (by kernel_rfl) (by kernel_rfl) (by kernel_rfl) (λw1 ae gm=>?_);replace h:=h.up ae;have eF:=h.bounds;have hX:∀ b∈bv :: (ob hv++ob sv),b∉[w.heap.size]:=λb hb bQ=>by
  have:=eF b hb;simp at bQ;omega
 obtain ⟨cbl,qk,db⟩:Blk w1 bv 219 [cv,hv,sv]/\SlV [w.heap.size] w1 cv code/\SlV [w.heap.size] w1 hv (JP st):=⟨h.blk,h.cod.ext (Stp.refl [] _) (by simp) (λb hb=>.inr (by simp at hb;omega)),h.shps.ext (Stp.refl [] _) (by simp) (λb hb=>.inr (by simp at hb;omega))⟩
 have nb:bv∉[w.heap.size]:=hX bv (by simp);obtain ⟨u,ak,fz⟩:=db.sub bz;refine D ?_;refine WD_read rfl trivial (λw' bp=>ZP rfl rfl (Z4A db bz bp ak)) rfl ?_;refine D ?_;refine Zp rfl trivial ZaS (λ_ _ h=>h.2.2.mn) rfl ?_;rintro _ w2 ⟨rfl,ab,ai⟩;rw [gm] at ab ⊢;refine Z2i rfl trivial (Jf (us:=Z2.enc code[i]) rfl rfl rfl rfl (Z2.one _) ab rfl) (λ_ _ h=>h.1) ?_;rintro _ w3 ⟨aw,aL⟩;have bF:Stp [] w1 w3:=ai.ow aw;replace h:=h.up bF;replace hS:=ae.trans bF;replace qk:=h.cod;replace cbl:=h.blk;replace db:=h.shps;have be:=h.seen.slv0;replace eF:=h.bounds;have jC:SlV [w.heap.size] w3 u (JP st)[i].l:=fz.ext (ai.mn.trans aw) (by simp) (λ_ h=>.inl h);clear ab ae bF ai aw fz ak;refine D ?_;refine W ?_;refine CM (ZO rfl) (Z9h (w.heap.size :: bv :: (ob hv++ob sv)) code[i] _ (λb hb=>by rcases Xd.1 hb with rfl|hb;exact aL.lt;exact eF b hb)) ?_;rintro _ w4 ⟨va,vb,vc,rfl,sa,sb,sc,ay⟩;have cS:=jC.up ay;replace aL:=aL.up ay;replace h:=h.up ay;replace be:=be.up ay;replace hS:=hS.trans ay;replace cbl:=cbl.up ay;clear ay jC;have hM:JJ st i code[i]=JJ st i code[i]:=rfl
 conv at hM=>rhs;unfold JJ Z0i
 have iL:st.getD i none=st[i]:=by simp [List.getD,jB]
 have gv:(JP st)[i].l=(st[i]).getD []:=by simp [JP]
 have fM:(Jb st)[i]=(st[i]).isSome:=by simp [Jb]
 rw [iL] at hM;have lY:(JP st)[i].l.length<=16:=by
  rw [gv];cases ax:st[i] with
  | none=>simp
  | some s=>exact eI s (by rw [<- ax];exact Xc jB)
 obtain ⟨el1,el2,el3⟩:=Zhd code[i];generalize Zm code[i]=E at *;obtain ⟨ta,al,gi,ok⟩:=E;dsimp only at sa sb sc el1 el2 el3 hM;generalize fB:(JP st)[i].l=s at *;refine W ?_
 refine Z6x (σ:=Bool) (λq=>[(0,pQ bv),(1,.I (i:Int)),(4,.B false),(5,.pointer (some ⟨w.heap.size,0,none⟩)),(6,u),(9,vc),(11,.I ((s.length:Int) - (ta.length:Int))),(75,.B q)])
  (λq w'=>Stp [] w4 w'/\q=! (decide (st[i].isSome=true/\ok=true/\ta.length<=s.length/\(s.drop (s.length - ta.length)=ta\/al≠[]/\s.drop (s.length - ta.length)=al)))) ?_ ?_
 . cases ok with
   | false=>
     refine QO ?_;exact QT true ⟨Stp.refl _ _,by simp⟩
   | true=>
     cases ax:st[i].isSome with
     | false=>
       rw [ax] at fM;repeat'(first|refine W1 ?_|omega|refine VG ?_ ?_<;>intro hg|refine VC ?_ ?_<;>intro hc)
       exact QT true ⟨Stp.refl _ _,by simp⟩;exact QT true ⟨Stp.refl _ _,by simp⟩;exact absurd (show (!(Jb st)[i])=false by assumption) (by rw [fM];decide)
     | true=>
       rw [ax] at fM;by_cases hk:ta.length<=s.length
       case neg=>
        (refine QP ?_ ?_<;>intro hg)
        exact absurd (show (!(Jb st)[i])=true by assumption) (by rw [fM];decide);exact QT true ⟨Stp.refl _ _,by simp [hk]⟩
       have cm:(s.length:Int) - (ta.length:Int)=((s.length - ta.length:Nat):Int):=by omega
       have sd:SlV [w.heap.size] w4 (slc u (s.length - ta.length) s.length 1) (s.drop (s.length - ta.length)):=by
        have:=cS.slc (l:=s.length - ta.length) (r:=s.length) (by omega) (by omega);rw [Xs] at this;exact this
       (refine QP ?_ ?_<;>intro hg)
       exact absurd (show (!(Jb st)[i])=true by assumption) (by rw [fM];decide);refine Z4M rfl cS rfl cm (by omega) rfl ?_;refine W ?_;refine CM (ZK rfl rfl) (Z2R _ _ _ _ _ (sd.wk (by simp)) (sa.wk (by simp))) ?_;rintro _ w5 ⟨rfl,aB⟩;replace sb:=sb.up aB;replace cS:=cS.up aB;replace sd:=sd.up aB;repeat'(first|refine W1 ?_|omega|refine VG ?_ ?_<;>intro hg|refine VC ?_ ?_<;>intro hc)
       have h1:¬ s.drop (s.length - ta.length)=ta:=by assumption
       have h2:(al.length:Int)=0:=by assumption
       have h3:al=[]:=X3.1 (by omega);exact QT true ⟨aB,by simp [h1,h3]⟩;have h1:¬ s.drop (s.length - ta.length)=ta:=by assumption
       have h2:¬ (al.length:Int)=0:=by assumption
       have h3:al≠[]:=λh=>h2 (by simp [h])
       refine Z4M rfl cS rfl cm (by omega) rfl ?_;refine W ?_;refine CM (ZK rfl rfl) (Z2R _ _ _ _ _ (sd.wk (by simp)) (sb.wk (by simp))) ?_;rintro _ w6 ⟨rfl,bR⟩;refine W ?_;refine QT _ ⟨aB.trans bR,?_⟩;by_cases h4:s.drop (s.length - ta.length)=al<;>simp [h1,h3,h4,hk];have h1:s.drop (s.length - ta.length)=ta:=Classical.not_not.1 (by assumption);exact QT false ⟨aB,by simp [h1,hk]⟩
 rintro q w5 ⟨aB,hq⟩
 try dsimp only at hq ⊢
 replace cS:=cS.up aB;replace sc:=sc.up aB;replace aL:=aL.up aB;replace h:=h.up aB;replace cbl:=cbl.up aB;replace hS:=hS.trans aB;clear aB;by_cases hC:st[i].isSome=true/\ok=true/\ta.length<=s.length/\(s.drop (s.length - ta.length)=ta\/al≠[]/\s.drop (s.length - ta.length)=al)
 case neg=>
  obtain rfl:q=true:=by rw [hq,decide_eq_false hC];rfl
  have du:JJ st i code[i]=none:=by
   rw [hM];cases ax:st[i] with
   | none=>rfl
   | some s0=>
     obtain rfl:s=s0:=by rw [gv,ax];rfl
     dsimp only;rw [if_neg (λh=>hC ⟨by rw [ax];rfl,h.1,h.2.1,h.2.2.1⟩)]
  refine RT ?_;exact ⟨hS.mn,by rw [du];rfl,λst' h=>by rw [du] at h;cases h⟩
 obtain rfl:q=false:=by rw [hq,decide_eq_true hC];rfl
 obtain ⟨jD,aY,hk,ql⟩:=hC;have ax:st[i]=some s:=by
  cases ax:st[i] with
  | none=>rw [ax] at jD;cases jD
  | some s0=>rw [gv,ax];rfl
 rw [ax] at hM;dsimp only at hM;have cm:(s.length:Int) - (ta.length:Int)=((s.length - ta.length:Nat):Int):=by omega
 have sk:SlV [w.heap.size] w5 (slc u 0 (s.length - ta.length) 1) (s.take (s.length - ta.length)):=by
  have:=cS.slc (l:=0) (r:=s.length - ta.length) (by omega) (by omega);rw [YbR] at this;exact this
 obtain ⟨p2,c2,iU⟩:=sk.len;obtain ⟨p3,c3,rfl⟩:=sc.len;refine W ?_;refine Z8P rfl cS rfl cm (by omega) rfl ?_;rw [iU] at sk ⊢;refine W ?_;refine Z0 (Z3 (vs:=[(0,.slice p2 (s.take (s.length - ta.length)).length c2),(1,.slice p3 gi.length c3)]) rfl (ZdL _ _ _ _ _ _)) rfl ?_;rintro bl w6 hN;have sbl:SlV [] w6 bl [(⟨s.take (s.length - ta.length)⟩:Sl Int),⟨gi⟩]:=hN.slvS (X:=[]) (by simp) rfl rfl (λi hi bV=>match i,hi with|0,_=>sk.wk (by simp)|1,_=>sc.wk (by simp)) (by simp [maxLen]);have hT:=Zh.stp hN;clear hN;replace cS:=cS.up hT;replace aL:=aL.up hT;replace h:=h.up hT;replace cbl:=cbl.up hT;replace hS:=hS.trans hT;clear hT;refine CM (ZO rfl) (Z7S _ _ _ sbl (by simp) (by simp;omega)) ?_;rintro rv w7 ac;have lZ:[(⟨s.take (s.length - ta.length)⟩:Sl Int),⟨gi⟩].flatMap Sl.l=s.take (s.length - ta.length)++gi:=by simp
 rw [lZ] at ac;have aR:=ac.2;have sr:=ac.slv h.bounds;replace cS:=cS.up aR;replace aL:=aL.up aR;replace h:=h.up aR;replace cbl:=cbl.up aR;replace hS:=hS.trans aR;clear aR ac;by_cases jE:(s.take (s.length - ta.length)++gi).length<=16
 case neg=>
  have du:JJ st i code[i]=none:=by
   rw [hM,if_neg (λh=>jE h.2.2.2)]
  refine RT ?_;exact ⟨hS.mn,by rw [du];rfl,λst' h=>by rw [du] at h;cases h⟩
 rw [if_pos ⟨aY,hk,ql,jE⟩] at hM;dsimp only at hM;generalize s.take (s.length - ta.length)++gi=nx at *;have qm:=h.cod;by_cases bI:code[i].op=24;rw [if_pos bI] at hM
 (refine QP ?_ ?_<;>intro hg)
 refine WR ?_;by_cases fb:s.length=1;have hn:JJ st i code[i]=some st:=by rw [hM,if_pos ⟨by omega,fb⟩]
 exact .mk ⟨hS.mn,by rw [hn];congr 1;exact decide_eq_true (by omega),λst' h'=>by rw [hn] at h';cases h';exact h⟩;have hn:JJ st i code[i]=none:=by rw [hM,if_neg (λh=>fb h.2)]
 exact .mk ⟨hS.mn,by rw [hn];congr 1;exact decide_eq_false (by omega),λst' h'=>by rw [hn] at h';cases h'⟩;refine WR ?_;have hn:JJ st i code[i]=none:=by rw [hM,if_neg (λh=>by omega)]
 exact .mk ⟨hS.mn,by rw [hn];rfl,λst' h=>by rw [hn] at h;cases h⟩;rw [if_neg bI] at hM;by_cases bH:code[i].op=13;rw [if_pos bH] at hM;by_cases fJ:code[i].n > (i:Int);rw [if_pos fJ] at hM;refine QO ?_;refine CM (Z16 rfl rfl rfl) (Z2o bv base cv hv sv _ code st code[i].n nx _ h (by omega) sr) ?_;rintro _ w8 ⟨cF,rfl,hV⟩;refine W ?_;refine WR ?_;rw [<- hM] at hV;exact .mk ⟨hS.mn.trans cF,by rw [hM],hV⟩;rw [if_neg fJ] at hM;refine RT ?_;exact ⟨hS.mn,by rw [hM];rfl,λst' h=>by rw [hM] at h;cases h⟩;rw [if_neg bH] at hM;by_cases ce:code[i].op=14;rw [if_pos ce] at hM;by_cases fJ:code[i].n > (i:Int)
 . rw [if_pos fJ] at hM
   refine QO ?_;refine CM (Z16 rfl rfl rfl) (Z2o bv base cv hv sv _ code st code[i].n nx _ h (by omega) sr) ?_;rintro _ w8 ⟨cF,rfl,hV⟩;have sr8:=sr.ext (X':=bv :: (ob hv++ob sv)) cF (λ_ h=>h) (λ_ h=>.inl h);cases hr:J2 st code[i].n nx with
   | none=>
     rw [hr] at hM;refine RT ?_;exact ⟨hS.mn.trans cF,by rw [hM];rfl,λst' h=>by rw [hM] at h;cases h⟩
   | some st1=>
     rw [hr] at hM;have h8:=hV st1 hr;refine W ?_;refine CM (Z16 rfl rfl rfl) (Z2o bv base cv hv sv _ code st1 ((i:Int)+1) nx _ h8 (by omega) sr8) ?_;rintro _ w9 ⟨cG,rfl,qn⟩;refine RT ?_;exact ⟨(hS.mn.trans cF).trans cG,by rw [hM];rfl,λst' h=>qn st' (by rw [hM] at h;exact h)⟩
 rw [if_neg fJ] at hM;refine RT ?_;exact ⟨hS.mn,by rw [hM];rfl,λst' h=>by rw [hM] at h;cases h⟩;rw [if_neg ce] at hM;refine QO ?_;refine CM (Z16 rfl rfl rfl) (Z2o bv base cv hv sv _ code st ((i:Int)+1) nx _ h (by omega) sr) ?_;rintro _ w8 ⟨cF,rfl,hV⟩;refine W ?_;refine WR ?_;rw [<- hM] at hV;exact .mk ⟨hS.mn.trans cF,by rw [hM],hV⟩
theorem Zah (p q r:Option Addr) (l m k c d f:Nat) (w):(Instr.build 219 #[(0,.slice p l c),(1,.slice q m d),(2,.slice r k f)]).run Tryz.prog w=.ok (.agg #[.slice p l c,.slice q m d,.slice r k f]) w:=by kernel_rfl
theorem ZdN {st st':List (Option Shp)} {i:Nat} {x:Ins} (h0:∀ s,some s∈st->s.length<=16) (h:JJ st i x=some st'):∀ s,some s∈st'->s.length<=16:=by
 have hr:∀ {st st':List (Option Shp)} {t:Int} {nx:Shp},(∀ s,some s∈st->s.length<=16)->nx.length<=16->J2 st t nx=some st'->∀ s,some s∈st'->s.length<=16:=by
  intro st st' t nx ax hn h;unfold J2 at h;split at h;split at h;split at h;cases h;exact ax;cases h;cases h;intro s hs;rcases List.mem_or_eq_of_mem_set hs with h|h
  exact ax s h;cases h;exact hn;cases h
 have hn:∀ {s nx:Shp},Z0i x s=some nx->nx.length<=16:=by
  intro s nx h;unfold Z0i at h;dsimp only at h;split at h;rename_i hc;cases h;exact hc.2.2.2;cases h
 unfold JJ at h;split at h;cases h;split at h;cases h;rename_i nx lP;have cB:=hn lP;split at h;split at h;cases h;exact h0;cases h;split at h;split at h;exact hr h0 cB h;cases h;split at h;split at h;obtain ⟨s1,h1,h2⟩:=XY.1 h;exact hr (hr h0 cB h1) cB h2;cases h;exact hr h0 cB h
theorem Z5X {code:List Ins} {st0:List (Option Shp)} {k:Nat} (h:Z2S code k st0=none):∀ m,k<=m->Z2S code m st0=none
 | 0, hm => by
   obtain rfl:k=0:=by omega
   exact h
 | m + 1, hm => by
   by_cases hk:k=m+1;subst hk;exact h;rw [Z2S,Z5X h m (by omega)];rfl
theorem Z4X {code:List Ins} {st0:List (Option Shp)}:∀ {k:Nat} {st:List (Option Shp)},Z2S code k st0=some st->st.length=st0.length
 | 0,st,h=>by cases h;rfl
 | k + 1, st, h => by
   obtain ⟨s1,h1,h2⟩:=XY.1 h;have e1:=Z4X h1;have e2:st.length=s1.length:=by
    unfold JJ at h2;split at h2;cases h2;split at h2;cases h2;split at h2;split at h2;cases h2;rfl;cases h2;split at h2;split at h2;exact ZX h2;cases h2;split at h2;split at h2;obtain ⟨s2,h3,h4⟩:=XY.1 h2;rw [ZX h4,ZX h3];cases h2;exact ZX h2
   omega
theorem Zba {st st':List (Option Shp)} {i:Nat} {x:Ins} (hi:i+1=st.length) (h:JJ st i x=some st'):st'=st/\∃ k,st.getD i none=some [k]:=by
 unfold JJ at h;cases hs:st.getD i none with
 | none=>rw [hs] at h;cases h
 | some s=>
   rw [hs] at h;dsimp only at h;split at h;cases h;rename_i nx hn;split at h;split at h;rename_i hc;cases h;obtain ⟨k,hk⟩:=Ybr.1 hc.2;exact ⟨rfl,k,by rw [hk]⟩;cases h;split at h;split at h;rw [Z2T (by omega)] at h;cases h;cases h;split at h;split at h;rw [Z2T (by omega)] at h;cases h;cases h;rw [Z2T (by omega)] at h;cases h
theorem Z4Y (v:Value) (code:List Ins) (w) (hs:SlV [] w v code) :
 CC 62 #[v] w λr w'=>r=.tuple #[.I (Z1Y code).1,.I (Z1Y code).2]/\Stp [] w w':=by
 have bg:=hs.max;obtain ⟨p,c,rfl,-⟩:=id hs;refine cW1 49 Tryz.func62 ?_;refine W ?_;by_cases h0:code.length=0\/code.length > 200
 . have hM:Z1Y code=(0,22):=if_pos h0
   repeat'(first|refine W1 ?_|omega|refine VG ?_ ?_<;>intro hg|refine VC ?_ ?_<;>intro hc)
   all_goals
    refine RU ?_;exact ⟨by rw [hM],Stp.refl _ _⟩
 refine QO ?_;have sY:0<code.length:=by omega
 have oF:code.length<=200:=by omega
 refine Z0v (σ:=Nat×Value×Value) (λq=>[(0,.slice p code.length c),(4,.pointer (some ⟨q.1,0,none⟩))]) (λq w'=>Vf w' q.1 w.heap.size (.slice p code.length c) q.2.1 q.2.2 code (List.replicate code.length none)/\w.heap.size<=q.1/\Stp [] w w') ?_ ?_;refine ZDr 10 [] [] [(0,0),(1,0),(2,0),(4,0),(5,0),(3,9),(6,2),(7,0),(8,2),(9,0)] (λw1 ae=>?_);have gm:=ae.size;refine D ?_;apply Z6u;rfl;refine Z0U rfl trivial (Z0b (α:=Sl Int) (k:=code.length) (a0:=⟨[]⟩) rfl rfl (λX w=>⟨_,rfl,Zz _ _⟩) rfl rfl (by simp [maxLen];omega) (by omega)) (λ_ _ h=>h.2) rfl ?_;rintro hv w2 ⟨rh,ai⟩;refine D ?_;refine Zp rfl trivial (Z0b (α:=Bool) (k:=code.length) (a0:=false) rfl rfl (λX w=>rfl) rfl rfl (by simp [maxLen];omega) (by omega)) (λ_ _ h=>h.2) rfl ?_;rintro sv w3 ⟨rs,aw⟩;refine D ?_;obtain ⟨ph,ch,l0⟩:∃ p c,hv=.slice p code.length c:=by
  have:=((rh []).slv0).len;simpa using this
 obtain ⟨ps,cs,aZ⟩:∃ p c,sv=.slice p code.length c:=by
  have:=((rs []).slv0).len;simpa using this
 have hap:∀ b∈ob hv,b∉ob sv:=λb h1 h2=>by
  have:=(rh []).ob_le b h1;have:=(rs []).ob_le b h2;omega
 subst l0 aZ;refine Z34 rfl trivial (vs:=[(0,.slice p code.length c),(1,.slice ph code.length ch),(2,.slice ps code.length cs)]) rfl (Zah _ _ _ _ _ _ _ _ _) rfl ?_;refine Zp rfl trivial (Zl rfl) (λ_ _ h=>h.choose_spec.2.2.2) rfl ?_;rintro _ w4 ⟨bv,rfl,gw,ab,ay⟩;have hS:=(ae.trans ai).trans (aw.trans ay);have oG:=ai.size;have qo:=aw.size;refine D ?_;refine QT (bv,.slice ph code.length ch,.slice ps code.length cs) ⟨?_,by omega,hS⟩;have b1:∀ b∈ob (.slice ph code.length ch),w.heap.size<=b/\b<w3.heap.size:=λb h=>by have:=(rh []).ob_le b h;omega
 have b2:∀ b∈ob (.slice ps code.length cs),w.heap.size<=b/\b<w3.heap.size:=λb h=>by have:=(rs []).ob_le b h;omega
 have e1:JP (List.replicate code.length none)=List.replicate code.length ⟨[]⟩:=by simp [JP]
 have e2:Jb (List.replicate code.length none)=List.replicate code.length false:=by simp [Jb]
 refine ⟨ab,hs.ext hS (by simp) (λb hb=>.inr ?_),by rw [e1];exact ((rh _).lower ae.size).up (aw.trans ay),by rw [e2];exact ((rs _).lower (Xl ae.size ai.size)).up ay,λh=>by have:=b1 bv h;omega,λh=>by have:=b2 bv h;omega,hS.size,hap,by simp⟩;simp only [Xd,Xg] at hb;rcases hb with rfl|h|h
 omega;exact (b1 b h).1;exact (b2 b h).1;refine Z0U rfl trivial (Z0b (α:=Bool) (k:=code.length) (a0:=false) rfl rfl (λX w=>rfl) rfl rfl (by simp [maxLen];omega) (by omega)) (λ_ _ h=>h.2) rfl ?_;rintro sv w2 ⟨rs,ai⟩;refine Zp rfl trivial (Z0b (α:=Sl Int) (k:=code.length) (a0:=⟨[]⟩) rfl rfl (λX w=>⟨_,rfl,Zz _ _⟩) rfl rfl (by simp [maxLen];omega) (by omega)) (λ_ _ h=>h.2) rfl ?_;rintro hv w3 ⟨rh,aw⟩;refine D ?_;obtain ⟨ph,ch,l0⟩:∃ p c,hv=.slice p code.length c:=by
  have:=((rh []).slv0).len;simpa using this
 obtain ⟨ps,cs,aZ⟩:∃ p c,sv=.slice p code.length c:=by
  have:=((rs []).slv0).len;simpa using this
 have hap:∀ b∈ob hv,b∉ob sv:=λb h1 h2=>by
  have:=(rh []).ob_le b h1;have:=(rs []).ob_le b h2;omega
 subst l0 aZ;refine Z34 rfl trivial (vs:=[(0,.slice p code.length c),(1,.slice ph code.length ch),(2,.slice ps code.length cs)]) rfl (Zah _ _ _ _ _ _ _ _ _) rfl ?_;refine Zp rfl trivial (Zl rfl) (λ_ _ h=>h.choose_spec.2.2.2) rfl ?_;rintro _ w4 ⟨bv,rfl,gw,ab,ay⟩;have hS:=(ae.trans ai).trans (aw.trans ay);have oG:=ai.size;have qo:=aw.size;refine D ?_;refine QT (bv,.slice ph code.length ch,.slice ps code.length cs) ⟨?_,by omega,hS⟩;have b1:∀ b∈ob (.slice ph code.length ch),w.heap.size<=b/\b<w3.heap.size:=λb h=>by have:=(rh []).ob_le b h;omega
 have b2:∀ b∈ob (.slice ps code.length cs),w.heap.size<=b/\b<w3.heap.size:=λb h=>by have:=(rs []).ob_le b h;omega
 have e1:JP (List.replicate code.length none)=List.replicate code.length ⟨[]⟩:=by simp [JP]
 have e2:Jb (List.replicate code.length none)=List.replicate code.length false:=by simp [Jb]
 refine ⟨ab,hs.ext hS (by simp) (λb hb=>.inr ?_),by rw [e1];exact ((rh _).lower (Xl ae.size ai.size)).up ay,by rw [e2];exact ((rs _).lower ae.size).up (aw.trans ay),λh=>by have:=b1 bv h;omega,λh=>by have:=b2 bv h;omega,hS.size,hap,by simp⟩;simp only [Xd,Xg] at hb;rcases hb with rfl|h|h
 omega;exact (b1 b h).1;exact (b2 b h).1;rintro ⟨bv,hv,sv⟩ w2 ⟨h,gw,hS⟩;dsimp only at h gw ⊢;have ab:=h.blk;have be:=h.seen.slv0;have cn:(Jb (List.replicate code.length none)).length=code.length:=by simp [Jb]
 have fK:0<(Jb (List.replicate code.length none)).length:=by omega
 refine W ?_;refine Z5 (Z1U (α:=Bool) (y':=true) (u:=.B true) rfl rfl rfl rfl h.seen fK) ?_;rintro _ w3 ⟨rs3,aw⟩;have bF:Stp (bv :: (ob hv++ob sv)) w2 w3:=aw.mono (λb hb=>by simp [hb]);generalize fc:(some [] :: List.replicate (code.length - 1) none:List (Option Shp))=st0 at *;have jF:st0.length=code.length:=by rw [<- fc];simp;omega
 obtain ⟨m,hm⟩:∃ m,code.length=m+1:=⟨code.length - 1,by omega⟩
 have e1:JP st0=JP (List.replicate code.length none):=by rw [<- fc,hm];simp [JP,Ybe]
 have e2:Jb st0=(Jb (List.replicate code.length none)).set 0 true:=by rw [<- fc,hm];simp [Jb,Ybe]
 have h3:Vf w3 bv w.heap.size (.slice p code.length c) hv sv code st0:=by
  refine ⟨h.blk.ext aw h.ns,h.cod.ext bF (λ_ h=>h) (λ_ h=>.inl h),?_,?_,h.nh,h.ns,Xl h.hi aw.size,h.apart,jF⟩;rw [e1];exact h.shp.ext (X':=bv :: ob sv) aw (λb hb=>⟨X0 _ hb,λbQ=>h.apart b bQ hb⟩) (λ_ h=>.inl h);rw [e2];exact rs3
 have hB:∀ b∈bv :: (ob hv++ob sv),w.heap.size<=b:=λb hb=>by
  simp only [Xd,Xg] at hb;rcases hb with rfl|hb|hb
  exact gw;exact (h.shp.ob_le b hb).1;exact (h.seen.ob_le b hb).1
 have bp:=hS.own bF (λb hb=>.inr (hB b hb));have ma:∀ s,some s∈st0->s.length<=16:=by
  intro s hs;rw [<- fc] at hs;simp at hs;rw [hs];simp
 have gE:Z1Y code=match Z2S code code.length st0 with
  | none=>(0,22)
  | some st=>(((st.getD (code.length - 1) none).getD []).headD 0,0):=by
  rw [<- fc];exact if_neg h0
 clear be ab h e1 e2 aw bF rs3 hS;refine W ?_
 refine Zr (σ:=Nat×List (Option Shp)) (λq=>[(0,.slice p code.length c),(4,pQ bv),(29,.I (code.length:Int)),(30,.I (q.1:Int))])
  (λq w'=>q.1<=code.length/\Z2S code q.1 st0=some q.2/\Vf w' bv w.heap.size (.slice p code.length c) hv sv code q.2/\(∀ s,some s∈q.2->s.length<=16)/\Stp [] w w') (λq=>code.length - q.1) (0,st0) ⟨rfl,rfl,rfl,rfl,trivial⟩ ⟨Xu _,rfl,h3,ma,bp⟩ ?_
 rintro ⟨k,st⟩ w4 ⟨hk,aI,h4,eI,ay⟩
 try dsimp only at hk aI h4 eI ⊢
 by_cases ah:k<code.length
 . refine QO ?_
   refine CM (ZK rfl rfl) (ZdM bv w.heap.size _ hv sv code st k _ h4 ah (by omega) eI) ?_;rintro _ w5 ⟨aB,rfl,hV⟩;replace aB:=ay.own aB (λb hb=>.inr (hB b hb));have qp:code.getD k ⟨0,0⟩=code[k]:=by simp [List.getD,ah]
   have gF:Z2S code (k+1) st0=JJ st k code[k]:=by rw [Z2S,aI,Yay,qp]
   cases ax:JJ st k code[k] with
   | none=>
     have hn:Z1Y code=(0,22):=by rw [gE,Z5X (gF.trans ax) code.length ah]
     refine RT ?_;exact ⟨by rw [hn],aB⟩
   | some st1=>
     refine W ?_;exact QL (k+1,st1) ⟨ah,gF.trans ax,hV st1 ax,ZdN eI ax,aB⟩ (Xx ah (XD k))
 obtain rfl:k=code.length:=by omega
 have qq:=Z4X aI;have cw:∃ a,st.getD (code.length - 1) none=some [a]:=by
  rw [hm,Z2S] at aI;obtain ⟨s1,r1,r2⟩:=XY.1 aI;have fb:=Z4X r1;obtain ⟨rfl,a,ha⟩:=Zba (by omega) r2;exact ⟨a,by rw [hm];exact ha⟩
 obtain ⟨a,ha⟩:=cw;have qr:Z1Y code=(a,0):=by rw [gE,aI];dsimp only;rw [ha];rfl
 have ab:=h4.blk;have fL:=h4.shps;have qs:(JP st).length=code.length:=by simp [JP];omega
 have ft:m<(JP st).length:=by omega
 have cm:(code.length:Int) - 1=(m:Int):=by omega
 obtain ⟨u,ak,fz⟩:=fL.sub ft;have cO:(JP st)[m].l=[a]:=by
  have:st.getD m none=some [a]:=by rw [<- ha,hm];rfl
  have h2:st.getD m none=st[m]'(by omega):=by simp [List.getD,show m<st.length by omega]
  have h5:(JP st)[m]=⟨(st[m]'(by omega)).getD []⟩:=by simp [JP]
  rw [h5,<- h2,this];rfl
 rw [cO] at fz;refine QO ?_;apply Z7 (ZP rfl rfl ak) rfl;have eH:0 < [a].length:=by simp
 refine RT ?_;exact ⟨by rw [qr];rfl,ay⟩
open Go Go.Eng Go.RowKit Go.Proofs Go.ChangeShapes Go.WideShapes Go.Deep
theorem ZpK:ownKnob Tryz.prog.godebug=none:=by kernel_rfl
theorem Zp3:laidOutB Tryz.prog=true:=by kernel_rfl
section
variable {H:Type} {enc:TypeId×Value->H} {w:World} {base:Nat} {spare:Nat->Bool} {eh:Bool}
theorem Zp4 {r:Reach} {b0:Nat} {v:Value} {d:DataW H} {p:List MemPlace} (hv:Value.okWide Tryz.prog w r b0 3 v) (h:DataW.Trod enc Tryz.prog w base spare eh 3 v d p):∃ z:Int,v=.I z/\I64 z:=by
 obtain ⟨z,rfl,_,_,hw⟩:=open_int Tryz.underlying3 hv h;exact ⟨z,rfl,by simpa [I64,Lit.wf,IntKind.min,IntKind.max,IntKind.signed,IntKind.bits] using hw⟩
theorem Zmk {r:Reach} {b0:Nat} {v:Value} {d:DataW H} {p:List MemPlace} (hv:Value.okWide Tryz.prog w r b0 22 v) (h:DataW.Trod enc Tryz.prog w base spare eh 22 v d p) :
 ∃ l:List Int,SlV [] w v l/\(∀ x∈l,I64 x)/\Zfx d=l.length:=by
 obtain ⟨fuel,h⟩:=h;obtain ⟨u,l,hu,hs,aY,kM⟩:=Zco Tryz.underlying22 (by kernel_rfl) Tryz.underlying3 h;obtain ⟨a,m,c,rfl⟩:=okWide_slice Tryz.underlying22 hv;have eW:Value.slice a m c=u:=by simpa [Value.cells] using hu
 subst eW;exact ⟨l,hs,aY,kM⟩
end
end Go.Proofs.YtkojegdemoahlaaGreatDoor
namespace Go.Eng
open Go Go.RowKit
variable {X:List Nat} {w w':World} {base T:Nat} {v:Value} {zs ys:List Int}
def ZdO (w:World) (base T:Nat) (v:Value) (zs:List Int):Prop:=(v=.N/\zs=[])\/∃ g cap cur,v=.slice (some ⟨g,0,none⟩) zs.length cap/\base<=g/\w.heap[g]?=some (.cells cur T (0,0))/\zs.length<=cap/\cap<=maxLen/\cur.size=cap/\cur.toList.take zs.length=zs.map (Value.int .i64)
theorem Row.toI (h:Row X w base T v zs):ZdO w base T v zs:=by
 obtain ⟨css,hl,hr,hx,ho⟩:=h;have hc:css=zs.map (λx=>[Value.int .i64 x]):=by
  apply YaU (by simpa using hl);intro i h1 h2;have:css[i]=[Value.int .i64 zs[i]]:=hr i (by omega) h1;simp [this]
 rcases ho with ⟨rfl,hn⟩|⟨g,cap,cur,rfl,hb,hg,bj,aW,aH,ht⟩
 exact .inl ⟨rfl,X3.1 hn⟩
 . refine .inr ⟨g,cap,cur,rfl,hb,hg,bj,aW,by simpa [Z1.k,Z2.k] using aH,?_⟩
   have h2:cur.toList.take (zs.length * 1)=css.flatten:=ht;rw [YaW] at h2;rw [h2,hc];clear h2 ht hx hr hl hc bj hg aH
   induction zs with
   | nil=>rfl
   | cons a l ih=>simp at ih ⊢;exact ih
theorem ZdO.toRow (h:ZdO w base T v zs):Row X w base T v zs:=by
 rcases h with ⟨rfl,rfl⟩|⟨g,cap,cur,rfl,hb,hg,bj,aW,aH,ht⟩
 exact Row.nil
 . refine ⟨zs.map (λx=>[Value.int .i64 x]),by simp,λi h1 h2=>by simp;rfl,?_⟩
   have hf:(zs.map (λx=>[Value.int .i64 x])).flatten=zs.map (Value.int .i64):=by
    clear ht bj
    induction zs with
    | nil=>rfl
    | cons a l ih=>simp at ih ⊢;exact ih
   rw [hf];refine ⟨by simp [Z1.k,Z2.k],.inr ⟨g,cap,cur,rfl,hb,hg,bj,aW,by simpa [Z1.k,Z2.k] using aH,by simpa [Z1.k,Z2.k] using ht⟩⟩
theorem Z6Q {zs:List Int} (hs:zs.Pairwise (·<=·)):(Lib.compact zs).Pairwise (· < ·)/\∀ y,y∈Lib.compact zs↔y∈zs:=by
 have hd:∀ i j,i<=j->j<zs.length->zs.toArray[i]!<=zs.toArray[j]!:=by
  intro i j bN hj;rcases Nat.lt_or_eq_of_le bN with h|rfl
  have:=YaI.1 hs i j (by omega) hj h;simpa [getElem!_pos,hj,show i<zs.length by omega] using this;exact Ya7 _
 have key:∀ m,m<=zs.length->(Lib.compactUpTo zs.toArray m).Pairwise (· < ·)/\∀ y,y∈Lib.compactUpTo zs.toArray m↔∃ i,i<m/\y=zs.toArray[i]!:=by
  intro m
  induction m with
  | zero=>intro _;refine ⟨by simp [Lib.compactUpTo],λy=>by simp [Lib.compactUpTo]⟩
  | succ m ih=>
    intro hm;obtain ⟨i1,i2⟩:=ih (by omega);rw [Lib.compactUpTo_succ];by_cases hk:Lib.keeps zs.toArray m=true;rw [if_pos hk];refine ⟨YaL.2 ⟨i1,List.pairwise_singleton _ _,λa ha b hb=>?_⟩,λy=>?_⟩;obtain ⟨i,hi,rfl⟩:=(i2 a).1 ha;rw [Xw.1 hb];have gU:m=0\/zs.toArray[m]!≠zs.toArray[m - 1]!:=by simpa [Lib.keeps] using hk
    have h1:=hd i (m - 1) (by omega) (by omega);have h2:=hd (m - 1) m (by omega) (by omega);have h3:=gU.resolve_left (by omega);omega;rw [Xg,i2,Xw];constructor;rintro (⟨i,hi,rfl⟩|rfl);exact ⟨i,by omega,rfl⟩;exact ⟨m,by omega,rfl⟩;rintro ⟨i,hi,rfl⟩;by_cases bV:i<m;exact .inl ⟨i,bV,rfl⟩;exact .inr (by rw [show i=m by omega]);rw [if_neg hk,XJ];have gU:¬ (m=0\/zs.toArray[m]!≠zs.toArray[m - 1]!):=by simpa [Lib.keeps] using hk
    have sZ:m≠0:=λh=>gU (.inl h);have he:zs.toArray[m]! = zs.toArray[m - 1]!:=Decidable.byContradiction λh=>gU (.inr h);refine ⟨i1,λy=>?_⟩;rw [i2];constructor;rintro ⟨i,hi,rfl⟩;exact ⟨i,by omega,rfl⟩;rintro ⟨i,hi,rfl⟩;by_cases bV:i<m;exact ⟨i,bV,rfl⟩;exact ⟨m - 1,by omega,by rw [show i=m by omega,he]⟩
 obtain ⟨h1,h2⟩:=key zs.length (Xm _);refine ⟨h1,λy=>?_⟩;show y∈Lib.compactUpTo zs.toArray zs.length↔_;rw [h2];constructor;rintro ⟨i,hi,rfl⟩;simp [getElem!_pos,hi];intro h;obtain ⟨i,hi,rfl⟩:=Xq h;exact ⟨i,hi,by simp [getElem!_pos,hi]⟩
theorem Z6R:∀ {a b:List Int},a.Pairwise (· < ·)->b.Pairwise (· < ·)->(∀ y,y∈a↔y∈b)->a=b
 | [],[],_,_,_=>rfl
 | [],y :: b,_,_,h=>absurd ((h y).2 (by simp)) (by simp)
 | x :: a,[],_,_,h=>absurd ((h x).1 (by simp)) (by simp)
 | x :: a, y :: b, ha, hb, h => by
   rw [X6] at ha hb;have kN:x=y:=by
    have h1:=(h x).1 (by simp);have h2:=(h y).2 (by simp);rcases Xd.1 h1 with e|h1
    exact e;rcases Xd.1 h2 with e|h2
    exact e.symm;have:=hb.1 x h1;have:=ha.1 y h2;omega
   subst kN;congr 1;refine Z6R ha.2 hb.2 λz=>?_;constructor;intro hz;rcases Xd.1 ((h z).1 (X0 _ hz)) with e|h1
   have:=ha.1 z hz;omega;exact h1;intro hz;rcases Xd.1 ((h z).2 (X0 _ hz)) with e|h1
   have:=hb.1 z hz;omega;exact h1
def Z1I (zs:List Int):List Int:=Lib.compact (zs.mergeSort λx y=>decide (x<=y))
theorem Jp (zs:List Int):(Z1I zs).Pairwise (· < ·)/\∀ y,y∈Z1I zs↔y∈zs:=by
 have hp:(zs.mergeSort λx y=>decide (x<=y)).Pairwise (·<=·):=by
  have:=List.pairwise_mergeSort (le:=λ(x y:Int)=>decide (x<=y)) (λa b c h1 h2=>by simp at *;omega) (λa b=>by simp;omega) zs;exact this.imp (λh=>by simpa using h)
 obtain ⟨h1,h2⟩:=Z6Q hp;exact ⟨h1,λy=>by unfold Z1I;rw [h2];exact (List.mergeSort_perm zs _).mem_iff⟩
theorem Z7U {g q:Nat} {cur:Array Value} (os:Array Obj) (h:w.heap[g]?=some (.cells cur T (0,0))) (hl:ys.length<=cur.size) :
 Stp [g] w (Go.Sort.grow (Go.Sort.putRow (Value.int .i64) (Go.Sort.ahead w q) g 0 ys.toArray) os)/\
 ∃ cur',(Go.Sort.grow (Go.Sort.putRow (Value.int .i64) (Go.Sort.ahead w q) g 0 ys.toArray) os).heap[g]?=some (.cells cur' T (0,0))/\cur'.size=cur.size/\cur'.toList.take ys.length=ys.map (Value.int .i64):=by
 have ah:g<w.heap.size:=(Xi.1 h).1;have hh:(Go.Sort.grow (Go.Sort.putRow (Value.int .i64) (Go.Sort.ahead w q) g 0 ys.toArray) os).heap=w.heap.modify g (Go.Sort.onCells (Go.Sort.putCells (Value.int .i64) 0 ys.toArray))++os:=rfl;refine ⟨⟨rfl,rfl,rfl,by rw [hh];simp,λb hb hn=>?_⟩,Go.Sort.putCells (Value.int .i64) 0 ys.toArray cur,?_,by simp [Go.Sort.putCells],?_⟩;rw [hh,XX (by simpa using hb),Ya4,if_neg (by simp at hn;exact λe=>hn e.symm)];rw [hh,XX (by simpa using ah),Ya4,if_pos rfl,h];rfl;apply YaU;simp [Go.Sort.putCells];omega;intro i h1 h2;have hi:i<ys.length:=by simpa using h2
 simp [Go.Sort.putCells,hi]
theorem Z5Y {g:Nat} {cur:Array Value} (h:w.heap[g]?=some (.cells cur T (0,0))) (ht:cur.toList.take zs.length=zs.map (Value.int .i64)):Go.Sort.Holds (Value.int .i64) w g 0 zs.toArray:=by
 intro j hj;have eC:j<zs.length:=by simpa using hj
 have hc:cur[j]?=some (.I zs[j]):=by
  have h1:(cur.toList.take zs.length)[j]?=some (.I zs[j]):=by rw [ht];simp [eC]
  rw [Yab,if_pos eC] at h1;simpa using h1
 constructor;simp [World.cell?,h,hc,eC];simp [World.frozen?,h]
end Go.Eng
namespace Go.Proofs.YtkojegdemoahlaaGreatDoor
open Go Go.Eng Go.RowKit
theorem Z7V {X:List Nat} {base T:Nat} {v:Value} {zs:List Int} (w) (h:Row X w base T v zs) (bw:zs.length<4611686018427387904) :
 CC 234 #[v] w λr w'=>r=.tuple #[]/\Row X w' base T v (zs.mergeSort λx y=>decide (x<=y))/\Stp (ob v) w w':=by
 rcases h.toI with ⟨rfl,rfl⟩|⟨g,cap,cur,rfl,hb,hg,bj,aW,aH,ht⟩
 refine (Tryz.slices_Sort_int_none none 0 w).mono ?_;rintro _ _ ⟨rfl,rfl⟩;exact .mk ⟨rfl,by simpa using Row.nil,Stp.refl _ _⟩;have ah:g<w.heap.size:=(Xi.1 hg).1;refine (Tryz.slices_Sort_int g 0 cap zs w (Z5Y hg ht) ah bw).mono ?_;rintro _ _ ⟨rfl,q,os,rfl⟩;have hl:(zs.mergeSort λx y=>decide (x<=y)).length=zs.length:=Ybu zs;obtain ⟨hS,cur',h1,h2,h3⟩:=Z7U (q:=q) os hg (ys:=zs.mergeSort λx y=>decide (x<=y)) (by omega);refine .mk ⟨rfl,ZdO.toRow (.inr ⟨g,cap,cur',by rw [hl],hb,h1,by omega,aW,by omega,h3⟩),hS⟩
theorem Z4c {X:List Nat} {base T:Nat} {v:Value} {zs:List Int} (w) (h:Row X w base T v zs) (bw:zs.length<=9223372036854775807) :
 CC 235 #[v] w λr w'=>Row X w' base T r (Lib.compact zs)/\Stp (ob v) w w'/\ob r=ob v:=by
 rcases h.toI with ⟨rfl,rfl⟩|⟨g,cap,cur,rfl,hb,hg,bj,aW,aH,ht⟩
 refine (Tryz.slices_Compact_int_empty none 0 w).mono ?_;rintro _ _ ⟨rfl,rfl⟩;exact .mk ⟨by rw [show Lib.compact ([]:List Int)=[] from rfl];exact Row.nil,Stp.refl _ _,rfl⟩;refine (Tryz.slices_Compact_int g 0 cap zs w (Z5Y hg ht) bw bj).mono ?_;rintro _ _ ⟨rfl,q,rfl⟩;have eU:(Lib.compact zs).length<=zs.length:=by
  unfold Lib.compact Lib.compactUpTo;rw [XI];exact Xl (XR _ _) (by simp)
 have e:∀ W:World,W=Go.Sort.grow W #[]:=λW=>by simp [Go.Sort.grow]
 rw [e (Go.Sort.putRow _ _ _ _ _)];obtain ⟨hS,cur',h1,h2,h3⟩:=Z7U (q:=q) #[] hg (ys:=Lib.compact zs++List.replicate (zs.length - (Lib.compact zs).length) 0) (by simp;omega);refine .mk ⟨ZdO.toRow (.inr ⟨g,cap,cur',rfl,hb,h1,by omega,aW,by omega,?_⟩),hS,rfl⟩;have h4:=congrArg (List.take (Lib.compact zs).length) h3;rw [Yah,X7 (by simp)] at h4;rw [h4];simp
theorem ZdP (a o:Str) (k n:Int) (s:Str) (p:Option Addr) (l c:Nat) (k' n':Int) (s':Str) (p':Option Addr) (l' c':Nat) (w):(Instr.build 88 #[(0,str a),(2,str o),(3,.agg #[.I k,.I n,str s,.slice p l c]),(4,.agg #[.I k',.I n',str s',.slice p' l' c'])]).run Tryz.prog w=.ok (.agg #[str a,.I 0,str o,.I k,.I n,str s,.slice p l c,.I k',.I n',str s',.slice p' l' c',str [],str []]) w:=by kernel_rfl
end Go.Proofs.YtkojegdemoahlaaGreatDoor
namespace Go.Eng
open Go Go.RowKit Go.Proofs
def Z02 (y:Int):Int:=365 * (y - 1)+(y - 1) / 4 - (y - 1) / 100+(y - 1) / 400
def Z0R (y:Int):Nat->Int
 | 0=>0
 | k+1=>Z0R y k+Zv y ((k:Int)+1)
theorem Z5Z (y:Int):JT y=true↔(y % 4=0/\(¬ y % 100=0\/y % 400=0)):=by
 unfold JT;simp
theorem Z4d (y:Int):Z02 (y+1)=Z02 y+(if JT y=true then 366 else 365):=by
 unfold Z02;have h:=Z5Z y;by_cases hl:JT y=true;rw [if_pos hl];have:=h.1 hl;omega;rw [if_neg hl];have:¬ (y % 4=0/\(¬ y % 100=0\/y % 400=0)):=λh'=>hl (h.2 h');omega
theorem Z1Z {a b:Int} (h:a<=b):Z02 a<=Z02 b:=by
 unfold Z02;omega
theorem Z0X {y:Int} {k:Nat} (hk:k<12):28<=Zv y ((k:Int)+1):=by
 unfold Zv;rw [if_neg (by omega)];repeat' split
 all_goals omega
theorem Zhe (y:Int):∀ k:Nat,k<=11->Z0R y k=(if k<2 then 31 * (k:Int) else (if JT y=true then 1 else 0)+(153 * ((k:Int) - 2)+2) / 5+59):=by
 intro k hk;have:k=0\/k=1\/k=2\/k=3\/k=4\/k=5\/k=6\/k=7\/k=8\/k=9\/k=10\/k=11:=by omega
 rcases this with rfl|rfl|rfl|rfl|rfl|rfl|rfl|rfl|rfl|rfl|rfl|rfl<;>simp [Z0R,Zv]<;>cases JT y<;>simp
theorem Zp5 (y:Int):Z0R y 12=if JT y=true then 366 else 365:=by
 simp [Z0R,Zv];cases JT y<;>simp
theorem Z1h (y d:Int) (k:Nat) (hk:k<=11):JF y ((k:Int)+1) d=Z02 y+Z0R y k+d - 1:=by
 rw [Zhe y k hk];unfold JF;by_cases h2:k<2;rw [if_pos h2,if_pos (by omega)];simp only;unfold Z02;omega;rw [if_neg h2,if_neg (by omega)];simp only;have h:=Z4d y;have hl:=Z5Z y;have e:(153 * ((k:Int)+1 - 3)+2) / 5=(153 * ((k:Int) - 2)+2) / 5:=by congr 2;omega
 rw [e];generalize (153 * ((k:Int) - 2)+2) / 5=z;have e2:Z02 (y+1)=365 * y+y / 4 - y / 100+y / 400:=by unfold Z02;omega
 rw [e2] at h;by_cases mb:JT y=true;rw [if_pos mb] at h ⊢;omega;rw [if_neg mb] at h ⊢;omega
theorem Z2p {y:Int}:∀ {a b:Nat},a<=b->b<=12->Z0R y a<=Z0R y b
 | a, 0, h, _ => by obtain rfl : a = 0 := by omega
                    exact Ya7 _
 | a, b + 1, h, h2 => by
   by_cases e:a=b+1;subst e;exact Ya7 _;have:=Z2p (y:=y) (a:=a) (b:=b) (by omega) (by omega);have:=Z0X (y:=y) (k:=b) (by omega);simp only [Z0R];omega
end Go.Eng
namespace Go.Proofs.YtkojegdemoahlaaGreatDoor
open Go Go.Eng Go.RowKit
structure Hol where
 kind:Int
 month:Int
 day:Int
 wd:Int
 nth:Int
 off:Int
 move:Int
 first:Int
 last:Int
structure Clo where
 lo:Int
 hi:Int
 known:Int
structure Cal where
 week:List Bool
 hols:List Hol
 clos:List Clo
def Zu (d:Int):Bool:=decide (0<=d/\d<=3652058)
def Z1J (y:Int):Int:=
 let a:=y % 19
 let b:=y / 100
 let c:=y % 100
 let g:=(b - (b+8) / 25+1) / 3
 let h:=(19 * a+b - b / 4 - g+15) % 30
 let l:=(32+2 * (b % 4)+2 * (c / 4) - h - c % 4) % 7
 h+l - 7 * ((a+11 * h+22 * l) / 451)+114
def Z3g (y:Int):Int:=JF y (Z1J y / 31) (Z1J y % 31+1)
def Z20 (y m wd:Int):Int:=JF y m 1+(wd - JF y m 1 % 7+7) % 7
def Zhf (h:Hol) (y:Int):Option Int:=
 if y<h.first\/h.last<y then none
 else if h.kind=1 then (if Z0Q y h.month h.day then none else some (JF y h.month h.day))
 else if h.kind=2 then (if Z20 y h.month h.wd+7 * (h.nth - 1)<JF y h.month 1+Zv y h.month then some (Z20 y h.month h.wd+7 * (h.nth - 1)) else none)
 else if h.kind=3 then some (Z20 y h.month h.wd+(JF y h.month 1+Zv y h.month - 1 - Z20 y h.month h.wd) / 7 * 7)
 else if y<1583\/9999<y then none else some (Z3g y+h.off)
def Z21 (m d:Int):Int:=if m=1/\d % 7=5 then d+2 else if m=2/\d % 7=5 then d - 1 else if (m=1\/m=2)/\d % 7=6 then d+1 else d
def Z0Y (h:Hol) (y:Int):Option Int:=(Zhf h y).bind λd=>if Zu (Z21 h.move d) then some (Z21 h.move d) else none
structure Z4e (h:Hol):Prop where
 k1:1<=h.kind
 k2:h.kind<=4
 m1:0<=h.move
 m2:h.move<=2
 f1:1<=h.first
 l1:h.last<=9999
 month:h.kind≠4->1<=h.month/\h.month<=12
 day:h.kind=1->1<=h.day/\h.day<=31
 wd:h.kind=2\/h.kind=3->0<=h.wd/\h.wd<=6
 nth:h.kind=2->1<=h.nth/\h.nth<=5
 off:h.kind=4->-100<=h.off/\h.off<=100
def Z4Z (l:List Hol) (d:Int):Bool:=
 Zu d && [(ofM d).y - 1,(ofM d).y,(ofM d).y+1].any λy=>l.any λh=>decide (Z0Y h y=some d)
def Z7W (l:List Clo) (known d:Int):Bool:=l.any λx=>decide (x.known<=known/\x.lo<=d/\d<=x.hi)
def Zai (c:Cal) (known d:Int):Bool:=c.week.getD (d % 7).toNat false || Z7W c.clos known d || Z4Z c.hols d
def Zk (c:Cal) (known d:Int):Bool:=Zu d && !Zai c known d
structure Ziy (c:Cal):Prop where
 week:c.week.length=7
 hols:∀ h∈c.hols,Z4e h
 few:c.hols.length<=6
def Z22 (opn:Int->Bool) (step:Int):Nat->Int->Int×Int
 | 0,_=>(0,31)
 | k+1,d=>if Zu d=true then (if opn d=true then (d,0) else Z22 opn step k (d+step)) else (0,31)
def ZR (opn:Int->Bool) (step d:Int):Int×Int:=if Zu d=true then Z22 opn step 1001 d else (0,5)
def Z3O (opn:Int->Bool) (step:Int):Nat->Int->Int×Int
 | 0,d=>(d,0)
 | k+1,d=>if (ZR opn step (d+step)).2=0 then Z3O opn step k (ZR opn step (d+step)).1 else (0,31)
def Z3P (opn:Int->Bool) (d n:Int):Int×Int:=
 if Zu d=true then (if n < -1000\/1000<n then (0,2) else Z3O opn (if n<0 then -1 else 1) n.natAbs d) else (0,5)
def Z7X (d n:Int):Int×Int:=
 if n < -200000\/200000<n then (0,2) else if Zu d=true then
  (let m:=12 * (ofM d).y+(ofM d).m - 1+n
   if m<12\/120000<=m then (0,5) else (JF (m / 12) (m % 12+1) (min (ofM d).d (Zv (m / 12) (m % 12+1))),0))
 else (0,5)
def Z23 (b:Bool):Int:=if b=true then 1 else 0
def Z2A (n:Int):Int×Int:=if n < -2147483647\/2147483647<n then (0,5) else (n,0)
def Z6S (n:Int):Int×Int:=if n<0\/3652058<n then (0,5) else (n,0)
def Z6T (ev:List Int) (n:Int):Int×Int:=if n=1/\ev.getD 1 0=-1 then (0,32) else (ev.getD n.toNat 0,0)
def Z7Y (opn:Int->Bool) (op b:Int):Int×Int:=
 if op=8 then (-b,0) else if op=19 then ZR opn 1 b else if op=20 then ZR opn (-1) b else (1 - b,0)
def Z1M (opn:Int->Bool) (op a b:Int):Int×Int:=
 if op=5 then Z2A (a+b) else if op=6 then Z2A (a - b) else if op=7 then Z2A (a * b)
 else if op=9 then (Z23 (decide (a<b)),0) else if op=10 then (Z23 (decide (a<=b)),0) else if op=11 then (Z23 (decide (a=b)),0)
 else if op=15 then Z6S (a+b) else if op=16 then Z6S (a+7 * b) else if op=17 then Z7X a b else if op=18 then Z3P opn a b
 else if op=21 then (max a b,0) else if op=22 then (min a b,0) else (b - a,0)
def arM (op:Int):Nat:=if op=1\/op=2\/op=3\/op=4 then 0 else if op=8\/op=12\/op=19\/op=20 then 1 else 2
def Ji (opn:Int->Bool) (ev:List Int) (x:Ins) (a b:Int):Int×Int:=
 if x.op=4 then Z6T ev x.n else if arM x.op=0 then (x.n,0) else if arM x.op=1 then Z7Y opn x.op b else Z1M opn x.op a b
abbrev Spn:=Int×Int
def Jc (op a b r:Int):List Spn:=
 if op=19 then [(b,r)] else if op=20 then [(r,b)] else if op=18 then (if 0<b then [(a+1,r)] else if b<0 then [(r,a - 1)] else []) else []
def Jd (st:List Int) (k:Nat):Int:=if k<st.length then st.getD (st.length - 1 - k) 0 else 0
def Z3h (opn:Int->Bool) (ev:List Int) (C:List Ins):Nat->Nat->List Int->List Spn->Int×List Spn×Int
 | 0,_,_,_=>(0,[],22)
 | f + 1, i, st, sp=>
   let x:=C.getD i ⟨0,0⟩
   let b:=Jd st 0
   let a:=Jd st 1
   if x.op=24 then (b,sp,0)
   else if x.op=13 then Z3h opn ev C f x.n.toNat st sp
   else if x.op=14 then Z3h opn ev C f (if b=0 then x.n.toNat else i+1) st.dropLast sp
   else if (Ji opn ev x a b).2=0 then Z3h opn ev C f (i+1) (st.take (st.length - arM x.op)++[(Ji opn ev x a b).1]) (sp++Jc x.op a b (Ji opn ev x a b).1)
   else (0,[],(Ji opn ev x a b).2)
def ZZ (opn:Int->Bool) (ev:List Int) (C:List Ins):Int×List Spn×Int:=Z3h opn ev C C.length 0 [] []
def vOk (t v:Int):Prop:=(t=1/\-2147483647<=v/\v<=2147483647)\/(t=2/\(v=0\/v=1))\/(t=3/\0<=v/\v<=3652058)
structure Z9i (ev:List Int):Prop where
 len:ev.length=7
 day:0<=ev.getD 0 0/\ev.getD 0 0<=3652058
 served:-1<=ev.getD 1 0/\ev.getD 1 0<=3652058
 rest:∀ i,2<=i->i<7->-2147483647<=ev.getD i 0/\ev.getD i 0<=2147483647
def Jv (s:Shp) (st:List Int):Prop:=s.length=st.length/\∀ i (h:i<s.length) (h':i<st.length),vOk s[i] st[i]
theorem Zw {d:Int}:Zu d=true↔0<=d/\d<=3652058:=by unfold Zu;simp
theorem Z7Z (opn:Int->Bool) (step:Int):∀ (k:Nat) (d:Int),(Z22 opn step k d).2=0->Zu (Z22 opn step k d).1=true/\opn (Z22 opn step k d).1=true
 | 0,d,h=>by simp [Z22] at h
 | k + 1, d, h => by
   unfold Z22 at h ⊢;split at h;rename_i h1;rw [if_pos h1];split at h;rename_i h2;rw [if_pos h2];exact ⟨h1,h2⟩;rename_i h2;rw [if_neg h2];exact Z7Z opn step k _ h;simp at h
theorem Z3i {opn:Int->Bool} {step d:Int} (h:(ZR opn step d).2=0):Zu (ZR opn step d).1=true/\Zu d=true:=by
 unfold ZR at h ⊢;split at h;rename_i h1;rw [if_pos h1];exact ⟨(Z7Z _ _ _ _ h).1,h1⟩;simp at h
theorem Zaj (opn:Int->Bool) (step:Int):∀ (k:Nat) (d:Int),Zu d=true->(Z3O opn step k d).2=0->Zu (Z3O opn step k d).1=true
 | 0,d,hd,h=>hd
 | k + 1, d, hd, h => by
   unfold Z3O at h ⊢;split at h;rename_i h1;rw [if_pos h1];exact Zaj opn step k _ (Z3i h1).1 h;simp at h
theorem Zhg {opn:Int->Bool} {d n:Int} (h:(Z3P opn d n).2=0):Zu (Z3P opn d n).1=true:=by
 unfold Z3P at h ⊢;split at h;rename_i h1;rw [if_pos h1];split at h;simp at h;rename_i h2;rw [if_neg h2];exact Zaj _ _ _ _ h1 h;simp at h
theorem Z0M {y m d:Int} (hy:1<=y) (cR:y<=9999) (hm:1<=m) (dN:m<=12) (hd:1<=d) (lV:d<=Zv y m):0<=JF y m d/\JF y m d<=3652058:=by
 obtain ⟨k,hk⟩:∃ k:Nat,m=(k:Int)+1:=⟨(m - 1).toNat,by omega⟩
 subst hk;have hk:k<=11:=by omega
 rw [Z1h y d k hk];have h0:Z02 1=0:=by decide
 have h1:=Z1Z hy;have h2:=Z1Z (show y+1<=10000 by omega);have h3:Z02 10000=3652059:=by decide
 have iK:0<=Z0R y k:=by
  have:=Z2p (y:=y) (Xu k) (by omega);simpa [Z0R] using this
 have hc:Z0R y (k+1)=Z0R y k+Zv y ((k:Int)+1):=by simp [Z0R]
 have qt:=Z2p (y:=y) (show k+1<=12 by omega) (Xm _);have hs:=Z4d y;have iT:=Zp5 y;omega
theorem Zhh {d n:Int} (h:(Z7X d n).2=0):Zu (Z7X d n).1=true:=by
 unfold Z7X at h ⊢;split at h;simp at h;rename_i h0;rw [if_neg h0];split at h;rename_i h1;rw [if_pos h1];dsimp only at h ⊢;split at h;simp at h;rename_i h2;rw [if_neg h2];rw [Zw] at h1 ⊢;obtain ⟨a1,a2,a3,a4,a5,a6,a7⟩:=Z6G h1.1 h1.2;generalize 12 * (ofM d).y+(ofM d).m - 1+n=m at h2;have hk:(m % 12).toNat<12:=by omega
 have hl:=Z0X (y:=m / 12) hk;rw [show (((m % 12).toNat:Int))=m % 12 by omega] at hl;dsimp only;exact Z0M (by omega) (by omega) (by omega) (by omega) (by omega) (by omega);simp at h
theorem Jv.nil:Jv [] []:=⟨rfl,λi h=>absurd h (XC _)⟩
theorem Jv.one {t v:Int} (h:vOk t v):Jv [t] [v]:=⟨rfl,λi hi _=>by
 have:i=0:=by simpa using hi
 subst this;exact h⟩
theorem Jv.app {s1 s2:Shp} {l1 l2:List Int} (h1:Jv s1 l1) (h2:Jv s2 l2):Jv (s1++s2) (l1++l2):=by
 refine ⟨by simp [h1.1,h2.1],λi h h'=>?_⟩;by_cases hi:i<s1.length;rw [Yat hi,Yat (by rw [<- h1.1];exact hi)];exact h1.2 i hi _;have e:=h1.1;rw [Yaf (by omega),Yaf (by omega)];have:=h2.2 (i - s1.length) (by simp at h;omega) (by simp at h';omega);simpa [e] using this
theorem Jv.take {s:Shp} {l:List Int} (h:Jv s l) (k:Nat):Jv (s.take k) (l.take k):=
 ⟨by simp [h.1],λi hi bV=>by simp at hi bV ⊢;exact h.2 i _ _⟩
theorem Jv.drop {s:Shp} {l:List Int} (h:Jv s l) (k:Nat):Jv (s.drop k) (l.drop k):=
 ⟨by simp [h.1],λi hi bV=>by simp at hi bV ⊢;exact h.2 _ _ _⟩
theorem Jv.one_inv {t:Int} {l:List Int} (h:Jv [t] l):∃ v,l=[v]/\vOk t v:=by
 match l,h with
 | [v],h=>exact ⟨v,rfl,h.2 0 (by simp) (by simp)⟩
 | [],h=>exact absurd h.1 (by simp)
 | _ :: _ :: _,h=>exact absurd h.1 (by simp)
theorem Jv.two_inv {t u:Int} {l:List Int} (h:Jv [t,u] l):∃ a b,l=[a,b]/\vOk t a/\vOk u b:=by
 match l,h with
 | [a,b],h=>exact ⟨a,b,rfl,h.2 0 (by simp) (by simp),h.2 1 (by simp) (by simp)⟩
 | [],h=>exact absurd h.1 (by simp)
 | [_],h=>exact absurd h.1 (by simp)
 | _ :: _ :: _ :: _,h=>exact absurd h.1 (by simp)
theorem Z0F (l:List Int) (v:Int):Jd (l++[v]) 0=v:=by
 unfold Jd;simp
theorem ZN (l:List Int) (a b:Int):Jd (l++[a,b]) 0=b/\Jd (l++[a,b]) 1=a:=by
 unfold Jd;constructor<;>simp [YaC,Yaz]
theorem Zhi {n:Int} (h:(Z2A n).2=0):vOk 1 (Z2A n).1:=by
 unfold Z2A at h ⊢;split at h;simp at h;rename_i h1;rw [if_neg h1];left;refine ⟨rfl,?_,?_⟩<;>dsimp only<;>omega
theorem Zhj {n:Int} (h:(Z6S n).2=0):vOk 3 (Z6S n).1:=by
 unfold Z6S at h ⊢;split at h;simp at h;rename_i h1;rw [if_neg h1];right;right;refine ⟨rfl,?_,?_⟩<;>dsimp only<;>omega
theorem ZlP (b:Bool):vOk 2 (Z23 b):=by
 right;left;refine ⟨rfl,?_⟩;unfold Z23;cases b<;>simp
theorem vOk.days {v:Int} (h:Zu v=true):vOk 3 v:=.inr (.inr ⟨rfl,Zw.1 h⟩)
theorem vOk.n {v:Int} (h:vOk 1 v):-2147483647<=v/\v<=2147483647:=by unfold vOk at h;omega
theorem vOk.b {v:Int} (h:vOk 2 v):v=0\/v=1:=by unfold vOk at h;omega
theorem vOk.d {v:Int} (h:vOk 3 v):0<=v/\v<=3652058:=by unfold vOk at h;omega
theorem Z50 {x:Ins} (h:(Zm x).2.2.2=true):1<=x.op/\x.op<=24:=by
 by_cases h1:1<=x.op/\x.op<=24;exact h1
 . exfalso
   have:Zm x=([],[],[],false):=by
    unfold Zm
    repeat rw [if_neg (by omega)]
   rw [this] at h;simp at h
theorem ZlQ {opn:Int->Bool} {ev:List Int} (bJ:Z9i ev) {x:Ins} {ts vs:List Int} (hx:(Zm x).2.2.2=true) (bI:x.op≠24) (bH:x.op≠13) (ce:x.op≠14)
 (ht:ts=(Zm x).1\/(Zm x).2.1≠[]/\ts=(Zm x).2.1) (hs:Jv ts vs) :
 ts.length=arM x.op/\(Zm x).1.length=arM x.op/\∀ st,((Ji opn ev x (Jd (st++vs) 1) (Jd (st++vs) 0)).2=0->Jv (Zm x).2.2.1 [(Ji opn ev x (Jd (st++vs) 1) (Jd (st++vs) 0)).1]):=by
 have hr:=Z50 hx;obtain ⟨op,n⟩:=x;dsimp only at *;have mc:op=1\/op=2\/op=3\/op=4\/op=5\/op=6\/op=7\/op=8\/op=9\/op=10\/op=11\/op=12\/op=15\/op=16\/op=17\/op=18\/op=19\/op=20\/op=21\/op=22\/op=23:=by omega
 rcases mc with rfl|rfl|rfl|rfl|rfl|rfl|rfl|rfl|rfl|rfl|rfl|rfl|rfl|rfl|rfl|rfl|rfl|rfl|rfl|rfl|rfl
 case inl|inr.inl|inr.inr.inl=>
  simp [Zm] at hx ht ⊢;subst ht;refine ⟨rfl,rfl,λst _=>Jv.one ?_⟩;simp [Ji,arM,vOk];omega
 case inr.inr.inr.inl=>
  simp [Zm] at hx ht ⊢;subst ht;refine ⟨rfl,rfl,λst h=>Jv.one ?_⟩;simp only [Ji,if_true] at h ⊢;unfold Z6T at h ⊢;split at h;simp at h;rename_i h1;rw [if_neg h1];dsimp only;have h0:=bJ.day;have dw:=bJ.served;by_cases eH:n=0\/n=1;rw [if_pos eH]
  right;right;rcases eH with rfl|rfl
  exact ⟨rfl,h0.1,h0.2⟩;refine ⟨rfl,?_,dw.2⟩;have:¬ ev.getD 1 0=-1:=λh=>h1 ⟨rfl,h⟩;show 0<=ev.getD 1 0;omega;rw [if_neg eH]
  left;exact ⟨rfl,bJ.rest n.toNat (by omega) (by omega)⟩
 all_goals
  simp [Zm] at hx ht ⊢
  try subst hx
 all_goals
  first
  | (subst ht
     obtain ⟨b,rfl,hb⟩:=hs.one_inv;refine ⟨rfl,rfl,λst h=>Jv.one ?_⟩;simp only [Z0F] at h ⊢;simp [Ji,arM,Z7Y,Z1M] at h ⊢;first
     | exact .days (Z3i h).1
     | (have:=hb.n;unfold vOk;omega)
     | (have:=hb.b;unfold vOk;omega))
  | (rcases ht with rfl | rfl <;>
     (obtain ⟨a,b,rfl,ha,hb⟩:=hs.two_inv
      refine ⟨rfl,rfl,λst h=>Jv.one ?_⟩;simp only [ZN] at h ⊢;simp [Ji,arM,Z7Y,Z1M] at h ⊢;exact ZlP _))
  | (subst ht
     obtain ⟨a,b,rfl,ha,hb⟩:=hs.two_inv;refine ⟨rfl,rfl,λst h=>Jv.one ?_⟩;simp only [ZN] at h ⊢;simp [Ji,arM,Z7Y,Z1M] at h ⊢;first
     | exact Zhi h
     | exact Zhj h
     | exact .days (Zhh h)
     | exact .days (Zhg h)
     | (have:=ha.d;have:=hb.d;unfold vOk;omega))
theorem Z80 {opn:Int->Bool} {ev:List Int} (bJ:Z9i ev) {x:Ins} {s nx:Shp} {st:List Int} (hn:Z0i x s=some nx) (bI:x.op≠24) (bH:x.op≠13) (ce:x.op≠14) (hs:Jv s st)
 (he:(Ji opn ev x (Jd st 1) (Jd st 0)).2=0):Jv nx (st.take (st.length - arM x.op)++[(Ji opn ev x (Jd st 1) (Jd st 0)).1]):=by
 unfold Z0i at hn;dsimp only at hn;split at hn;rename_i hc;obtain ⟨c1,c2,c3,c4⟩:=hc;simp only [Xh] at hn;subst hn;have db:st=st.take (s.length - (Zm x).1.length)++st.drop (s.length - (Zm x).1.length):=(Xy _ _).symm;obtain ⟨v1,v2,v3⟩:=ZlQ (opn:=opn) bJ c1 bI bH ce c3 (hs.drop _);have v4:=v3 (st.take (s.length - (Zm x).1.length));rw [<- db] at v4;rw [<- v2,<- hs.1];exact (hs.take _).app (v4 he);cases hn
end Go.Proofs.YtkojegdemoahlaaGreatDoor
namespace Go.Eng
open Go Go.RowKit Go.Proofs
end Go.Eng
namespace Go.Proofs.YtkojegdemoahlaaGreatDoor
open Go Go.Eng Go.RowKit
instance:Z2 Hol where
 k:=9
 enc:=λh=>[.I h.kind,.I h.month,.I h.day,.I h.wd,.I h.nth,.I h.off,.I h.move,.I h.first,.I h.last]
 len:=λ_=>rfl
 one:=by intro x u hu;simp at hu;rcases hu with rfl|rfl|rfl|rfl|rfl|rfl|rfl|rfl|rfl<;>rfl
instance:Z2 Clo where
 k:=3
 enc:=λh=>[.I h.lo,.I h.hi,.I h.known]
 len:=λ_=>rfl
 one:=by intro x u hu;simp at hu;rcases hu with rfl|rfl|rfl<;>rfl
instance:Z2 Spn where
 k:=2
 enc:=λh=>[.I h.1,.I h.2]
 len:=λ_=>rfl
 one:=by intro x u hu;simp at hu;rcases hu with rfl|rfl<;>rfl
def Z24:List Int:=[0,0,0,0,0,0,0,0,0,0,0,0,2,1,0,0,0,0,0,-1,1]
def Z1i (w:World):Prop:=∀ i u,Z24[i]?=some u->w.cell? ⟨3,i,none⟩=some (.I u)
theorem Z1i.ext {S:List Nat} {w w':World} (h:Z1i w) (hS:Stp S w w') (hb:3∉S):Z1i w':=λi u hu=>hS.cell hb (h i u hu)
theorem Z1i.up {w w':World} (h:Z1i w) (hS:Stp [] w w'):Z1i w':=h.ext hS (by simp)
structure MK where
 w0:World
 bm:Nat
 nk:Option Nat
 ev:List Int
 c:Cal
 kn:Int
 hv:Value
 cv:Value
 zo:Value
 zs:Value
 hr:Value
 pr:List (Nat×Obj)
def Jq (c:Cal) (hv cv zo zs hr:Value):List Value:=
 [.B (c.week.getD 0 false),.B (c.week.getD 1 false),.B (c.week.getD 2 false),.B (c.week.getD 3 false),.B (c.week.getD 4 false),.B (c.week.getD 5 false),.B (c.week.getD 6 false),hv,cv,zo,zs,hr]
def evC (ev:List Int):List Value:=[.I (ev.getD 0 0),.I (ev.getD 1 0),.I (ev.getD 2 0),.I (ev.getD 3 0),.I (ev.getD 4 0),.I (ev.getD 5 0),.I (ev.getD 6 0)]
def Ziz (nk:Option Nat):Value:=match nk with|none=>.nilIface|some bs=>.func (.func 71) #[] #[pQ bs]
def Z3j (K:MK) (sv:Value) (at_ er:Int) (dn:Bool):List Value:=
 evC K.ev++Jq K.c K.hv K.cv K.zo K.zs K.hr++[.I K.kn,sv,.I at_,.I er,.B dn,Ziz K.nk]
def MK.own (K:MK):List Nat:=K.bm :: K.nk.toList
structure KOk (K:MK):Prop where
 hols:SlV K.own K.w0 K.hv K.c.hols
 clos:SlV K.own K.w0 K.cv K.c.clos
 ozo:K.zo.oneCell'=true
 ozs:K.zs.oneCell'=true
 ohr:K.hr.oneCell'=true
 len:Z05 K.w0
 mov:Z1i K.w0
 bml:K.bm<K.w0.heap.size
 nkl:∀ b,K.nk=some b->b<K.w0.heap.size/\b≠K.bm
 gl:∀ b∈K.own,b≠1/\b≠3
 cal:Ziy K.c
 ev:Z9i K.ev
 nks:K.nk≠none
structure Mch (K:MK) (w:World) (sv pv:Value) (st:List Int) (sp:List Spn) (at_ er:Int) (dn:Bool):Prop where
 blk:Blk w K.bm 175 (Z3j K sv at_ er dn)
 row:Row [] w K.w0.heap.size 3 sv st
 nt:∀ bs,K.nk=some bs->Blk w bs 40 [pv]/\Row [] w K.w0.heap.size 123 pv sp
 nt0:K.nk=none->pv=.N
 ap:∀ b∈ob sv,b∉ob pv
 stp:Stp K.own K.w0 w
 prot:∀ p∈K.pr,w.heap[p.1]?=some p.2/\p.1∉K.own/\p.1∉ob sv/\p.1∉ob pv
section
variable {K:MK} {w w':World} {sv pv:Value} {st:List Int} {sp:List Spn} {at_ er:Int} {dn:Bool}
theorem Mch.up (h:Mch K w sv pv st sp at_ er dn) (hS:Stp [] w w'):Mch K w' sv pv st sp at_ er dn:=
 ⟨h.blk.up hS,h.row.up hS,λbs hb=>⟨(h.nt bs hb).1.up hS,(h.nt bs hb).2.up hS⟩,h.nt0,h.ap,h.stp.trans hS.mn,λp hp=>let ⟨a,b,c,d⟩:=h.prot p hp;⟨(hS.block p.1 (Xi.1 a).1 (by simp)).trans a,b,c,d⟩⟩
theorem Mch.hols (hK:KOk K) (h:Mch K w sv pv st sp at_ er dn):SlV K.own w K.hv K.c.hols:=hK.hols.ext h.stp (λb hb=>hb) (λb hb=>.inl hb)
theorem Mch.clos (hK:KOk K) (h:Mch K w sv pv st sp at_ er dn):SlV K.own w K.cv K.c.clos:=hK.clos.ext h.stp (λb hb=>hb) (λb hb=>.inl hb)
theorem Mch.len (hK:KOk K) (h:Mch K w sv pv st sp at_ er dn):Z05 w:=hK.len.ext h.stp (λhb=>(hK.gl _ hb).1 rfl)
theorem Mch.mov (hK:KOk K) (h:Mch K w sv pv st sp at_ er dn):Z1i w:=hK.mov.ext h.stp (λhb=>(hK.gl _ hb).2 rfl)
theorem Mch.put (hK:KOk K) (h:Mch K w sv pv st sp at_ er dn) {at' er':Int} {dn':Bool} (hS:Stp [K.bm] w w') (hb:Blk w' K.bm 175 (Z3j K sv at' er' dn')):Mch K w' sv pv st sp at' er' dn':=by
 have hl:∀ v,(∀ b∈ob v,K.w0.heap.size<=b)->∀ b∈[K.bm],b∉ob v:=λv hv b hb h2=>by
  have:=hK.bml;have:=hv b h2;simp at hb;omega
 refine ⟨hb,h.row.keep hS (hl _ (λb hb=>(h.row.ob_le b hb).1)),λbs cr=>?_,h.nt0,h.ap,h.stp.trans (hS.mono (by simp [MK.own])),λp hp=>let ⟨a,b,c,d⟩:=h.prot p hp;⟨(hS.block p.1 (Xi.1 a).1 (λe=>b (by simp at e;rw [e];exact YaB))).trans a,b,c,d⟩⟩;obtain ⟨h1,h2⟩:=h.nt bs cr;exact ⟨h1.ext hS (by have:=(hK.nkl bs cr).2;simpa using this),h2.keep hS (hl _ (λb hb=>(h2.ob_le b hb).1))⟩
theorem Mch.stack (hK:KOk K) (h:Mch K w sv pv st sp at_ er dn) {sv':Value} {st':List Int} {w2:World} (hS:Stp (ob sv) w w') (hr:Row [] w' K.w0.heap.size 3 sv' st') (ho:∀ b∈ob sv',b∈ob sv\/w.heap.size<=b)
 (ai:Stp [K.bm] w' w2) (hb:Blk w2 K.bm 175 (Z3j K sv' at_ er dn)):Mch K w2 sv' pv st' sp at_ er dn:=by
 have me:=hK.bml;have fu:=λb hb=>(hr.ob_le b hb).1;have dQ:=λb hb=>(h.row.ob_le b hb).1;have hl:=h.stp.size;refine ⟨hb,hr.keep ai (λb hb h2=>by have:=fu b h2;simp at hb;omega),λbs cr=>?_,h.nt0,λb hb hp=>?_,?_,λp hp=>?_⟩;obtain ⟨h1,h2⟩:=h.nt bs cr;have hn:=hK.nkl bs cr;have mf:=λb hb=>(h2.ob_le b hb).1;refine ⟨(h1.ext hS (λhx=>by have:=dQ _ hx;omega)).ext ai (by simpa using hn.2),(h2.keep hS (λb hb=>h.ap b hb)).keep ai (λb hb hx=>by have:=mf _ hx;simp at hb;omega)⟩
 . cases hk:K.nk with
   | none=>rw [h.nt0 hk] at hp;simp [ob] at hp
   | some bs=>
     obtain ⟨h1,h2⟩:=h.nt bs hk;rcases ho b hb with h3|h3
     exact h.ap b h3 hp;have:=(h2.ob_le b hp).2;omega
 refine (h.stp.own (S':=ob sv) hS (λb hb=>.inr (dQ b hb))).trans (ai.mono (by simp [MK.own]));obtain ⟨a,b,c,d⟩:=h.prot p hp;have ah:=(Xi.1 a).1;have a2:=(hS.block p.1 ah c).trans a;have a3:=(ai.block p.1 (Xi.1 a2).1 (λe=>b (by simp at e;rw [e];exact YaB))).trans a2;exact ⟨a3,b,λh3=>(ho _ h3).elim c (λh4=>by omega),d⟩
theorem ZdQ (hK:KOk K) (h:Mch K w sv pv st sp at_ er dn) (n e:Int) (hl:st.length<=100000) :
 CC 187 #[.pointer (some ⟨K.bm,0,none⟩),.I n,.I e] w λr w'=>r=.tuple #[]/\∃ sv',Mch K w' sv' pv (if e=0 then st++[n] else st) sp at_ (if e=0 then er else e) (if e=0 then dn else true):=by
 have ab:=h.blk;have ac:=h.row;unfold Z3j at ab;refine cW3 25 Tryz.func187 ?_;by_cases he:e=0;subst he;rw [if_pos rfl,if_pos rfl,if_pos rfl];refine QO ?_;refine Z0 (Z3 (vs:=[(0,.I n)]) rfl (ZH _)) rfl ?_;rintro bv w1 hN;have ae:=Zh.stp hN;have dR:SlV (ob sv++[]) w1 bv [n]:=hN.slv (λb hb=>by simp at hb;exact (ac.ob_le b hb).2) rfl rfl (by simp [maxLen]);replace h:=h.up ae;replace ac:=ac.up ae;replace ab:=ab.up ae;refine Z0 (ZJ rfl (by decide) rfl rfl ac dR (by simp;omega) (by simp [maxLen];omega) (h.stp.size)) rfl ?_;rintro sv' w2 ⟨cM,ai,ho⟩;have au:=ab.ext ai (λhx=>by have:=(ac.ob_le _ hx).1;have:=hK.bml;omega);refine W ?_;have h1:=cM.slv (X:=[]) (by simp);refine Z5 (Zj (u:=sv') rfl rfl h1.cells h1.one au (by simp [evC,Jq])) ?_;rintro _ w3 ⟨aw,aL⟩;refine W ?_;refine WR ?_;refine .mk ⟨rfl,sv',h.stack hK ai cM ho aw aL⟩;rw [if_neg he,if_neg he,if_neg he];refine QO ?_;refine Z5 (Zj (u:=.I e) rfl rfl rfl rfl ab (by simp [evC,Jq])) ?_;rintro _ w1 ⟨ae,aT⟩;refine W ?_;refine Z5 (Zj (u:=.B true) rfl rfl rfl rfl aT (by simp [evC,Jq])) ?_;rintro _ w2 ⟨ai,au⟩;refine RT ?_;exact ⟨rfl,sv,h.put hK (ae.trans ai) au⟩
end
end Go.Proofs.YtkojegdemoahlaaGreatDoor
namespace Go.Eng
open Go Go.RowKit Go.Proofs
section
variable {P:Program} {n:Nat} {e:Env} {w:World} {d:Option Nat} {ty:TypeId} {pos:String} {af:Array Edge} {g:Option (Nat×Bool)} {rest:List Oper} {ops:Array Oper} {Q:Exit->Act->World->Prop}
theorem Z25 {α:Type} [Z1 α] {X:List Nat} {v:Value} {xs:List α} {i:Nat} {cs:List Value} {x:Operand} {t:TypeId} {D:TypeDesc} [hu:Und P t D] (hA:JO D=true) [bw:Siz P t (Z1.k α)] (hx:ev e x=some (.pointer (some (Zq v i (Z1.k α) 0)))) (hs:SlV X w v xs) (hi:i<xs.length)
 (hr:Z1.rep X w xs[i] cs) (hc:∀ j u,cs[j]?=some u->w.cell? (Zq v i (Z1.k α) j)=some u):PR P n ⟨d,.load t x,ty,pos,af,g⟩ e w (.agg cs.toArray):=by
 obtain ⟨p,l',c,rfl⟩:=hs.isSome hi;refine Z1P (cs:=cs) hA hx (Z1.len hr) (λj u hu=>?_);have:=hc j u hu;simpa [Zq] using this
end
structure Fct where
 entry:Int
 kind:Str
 day:Int
 by_:Int
 to_:Int
 amt:Int
deriving DecidableEq
instance:Inhabited Fct:=⟨⟨0,[],0,0,0,0⟩⟩
instance:Z2 Fct where
 k:=6
 enc:=λx=>[.I x.entry,str x.kind,.I x.day,.I x.by_,.I x.to_,.I x.amt]
 len:=λ_=>rfl
 one:=by intro x u hu;simp at hu;rcases hu with rfl|rfl|rfl|rfl|rfl|rfl<;>rfl
structure Rsn where
 kind:Int
 a:Int
 b:Int
deriving DecidableEq
instance:Z2 Rsn where
 k:=3
 enc:=λx=>[.I x.kind,.I x.a,.I x.b]
 len:=λ_=>rfl
 one:=by intro x u hu;simp at hu;rcases hu with rfl|rfl|rfl<;>rfl
structure Rtn where
 crr:Int
 kind:Int
 lo:Int
 hi:Int
deriving DecidableEq
instance:Z2 Rtn where
 k:=4
 enc:=λx=>[.I x.crr,.I x.kind,.I x.lo,.I x.hi]
 len:=λ_=>rfl
 one:=by intro x u hu;simp at hu;rcases hu with rfl|rfl|rfl|rfl<;>rfl
structure Crr where
 extra:Int
 tol:Int
deriving DecidableEq
instance:Z2 Crr where
 k:=2
 enc:=λx=>[.I x.extra,.I x.tol]
 len:=λ_=>rfl
 one:=by intro x u hu;simp at hu;rcases hu with rfl|rfl<;>rfl
structure Svc where
 day:Int
 extra:Int
 att:Int
deriving DecidableEq
instance:Z2 Svc where
 k:=3
 enc:=λx=>[.I x.day,.I x.extra,.I x.att]
 len:=λ_=>rfl
 one:=by intro x u hu;simp at hu;rcases hu with rfl|rfl|rfl<;>rfl
structure Atp where
 entry:Int
 party:Int
 crr:Int
 sent:Int
 rets:List Rtn
instance:Inhabited Atp:=⟨⟨0,0,0,0,[]⟩⟩
abbrev atC (a:Atp) (rv:Value):List Value:=[.I a.entry,.I a.party,.I a.crr,.I a.sent,rv]
instance:Z1 Atp where
 k:=5
 rep:=λX w a cs=>∃ rv,cs=atC a rv/\SlV X w rv a.rets
 len:=λ⟨_,h,_⟩=>h ▸ rfl
 one:=by
  rintro X w a cs ⟨rv,rfl,h⟩ u hu;have:=h.one;simp only [Xd,Xp,or_false] at hu;rcases hu with rfl|rfl|rfl|rfl|rfl<;>first|rfl|assumption
 ext:=λ⟨rv,h,hs⟩ hS h1 h2=>⟨rv,h,hs.ext hS h1 h2⟩
structure Dln where
 rule:Str
 trig:Fct
 party:Int
 due:Int
 stat:Int
 reas:List Rsn
instance:Inhabited Dln:=⟨⟨[],default,0,0,0,[]⟩⟩
abbrev dlC (a:Dln) (rv:Value):List Value:=[str a.rule,.I a.trig.entry,str a.trig.kind,.I a.trig.day,.I a.trig.by_,.I a.trig.to_,.I a.trig.amt,.I a.party,.I a.due,.I a.stat,rv]
instance:Z1 Dln where
 k:=11
 rep:=λX w a cs=>∃ rv,cs=dlC a rv/\SlV X w rv a.reas
 len:=λ⟨_,h,_⟩=>h ▸ rfl
 one:=by
  rintro X w a cs ⟨rv,rfl,h⟩ u hu;have:=h.one;simp only [Xd,Xp,or_false] at hu;rcases hu with rfl|rfl|rfl|rfl|rfl|rfl|rfl|rfl|rfl|rfl|rfl<;>first|rfl|assumption
 ext:=λ⟨rv,h,hs⟩ hS h1 h2=>⟨rv,h,hs.ext hS h1 h2⟩
end Go.Eng
namespace Go.Proofs.YtkojegdemoahlaaGreatDoor
open Go Go.Eng Go.RowKit
instance:Z1 Cr where
 k:=7
 rep:=λX w q cs=>∃ kc kd,cs=crC q kc kd/\SlV X w kc q.cnd/\SlV X w kd q.due
 len:=λ⟨_,_,h,_⟩=>h ▸ rfl
 one:=λ⟨_,_,h,h1,h2⟩=>h ▸ Z4C h1 h2
 ext:=λ⟨kc,kd,h,h1,h2⟩ hS g1 g2=>⟨kc,kd,h,h1.ext hS g1 g2,h2.ext hS g1 g2⟩
structure Cas where
 fcts:List Fct
 ruls:List Cr
 atts:List Atp
 crrs:List Crr
 stys:List Spn
 cal:Cal
 court:Int
 today:Int
structure Z5B where
 fv:Value
 rv:Value
 av:Value
 cv:Value
 sv:Value
 hv:Value
 lv:Value
 zo:Value
 zs:Value
 hr:Value
abbrev Z1j (c:Cas) (R:Z5B):List Value:=[R.fv,R.rv,R.av,R.cv,R.sv]++Jq c.cal R.hv R.lv R.zo R.zs R.hr++[.I c.court,.I c.today]
end Go.Proofs.YtkojegdemoahlaaGreatDoor
namespace Go.Eng
open Go Go.RowKit Go.Proofs
variable {P:Program} {n:Nat} {Q:Exit->Act->World->Prop} {e:Env} {w w0:World} {rest:List Oper} {ops:Array Oper} {ty:TypeId} {pos:String} {af:Array Edge}
theorem Stp.cell0 {w w':World} {ad:Addr} {u:Value} (h:Stp [] w w') (hc:w.cell? ad=some u):w'.cell? ad=some u:=by
 have ah:ad.block<w.heap.size:=block_lt_of_cell hc;rw [<- hc];exact World.cell?_of_block (w:=w) (h.block ad.block ah (by simp))
theorem CP {S:List Nat} {f d:Nat} {fn:Func} {xs:Array Operand} {ts:Array TypeId} {vs:Array Value} {r:Value} {c:Operand} [hf:Fun P f fn] (hS:Stp S w0 w) (h:Calls P f vs w (Ret λv w'=>v=r/\Stp [] w w')) (k:∀ w',Stp [] w w'->Stp S w0 w'->WL P n ops Q rest ((d,r) :: e) w')
 (hc:ev e c=some (.func (.func f) #[] #[]):=by exact rfl) (hv:∀ a,Has n e a->xs.map a.eval=vs:=by first|exact ZO rfl|exact ZK rfl rfl|exact Z16 rfl rfl rfl|exact Z30 rfl rfl rfl rfl|exact ZaL) (hd:Nat.blt d n=true:=by exact rfl) :
 WL P n ops Q (⟨some d,.call { callee:=.value c,args:=xs,argTypes:=ts },ty,pos,af,none⟩ :: rest) e w:=
 Z0 (Zd hc hv h) hd (by rintro _ w' ⟨rfl,hT⟩;exact k w' hT (hS.trans hT.mn))
theorem CG {f d:Nat} {fn:Func} {xs:Array Operand} {ts:Array TypeId} {vs:Array Value} {G:Value->World->Prop} {c:Operand} [hf:Fun P f fn] (h:Calls P f vs w (Ret G)) (k:∀ v w',G v w'->WL P n ops Q rest ((d,v) :: e) w')
 (hc:ev e c=some (.func (.func f) #[] #[]):=by exact rfl) (hv:∀ a,Has n e a->xs.map a.eval=vs:=by first|exact ZO rfl|exact ZK rfl rfl|exact Z16 rfl rfl rfl|exact Z30 rfl rfl rfl rfl|exact ZaL) (hd:Nat.blt d n=true:=by exact rfl) :
 WL P n ops Q (⟨some d,.call { callee:=.value c,args:=xs,argTypes:=ts },ty,pos,af,none⟩ :: rest) e w:=
 Z0 (Zd hc hv h) hd k
theorem BX {S:List Nat} {d:Nat} {t:TypeId} {x:Operand} {v:Value} (hS:Stp S w0 w) (k:∀ b w',w.heap.size<=b->Blk w' b t v.cells.toList->Stp [] w w'->Stp S w0 w'->WL P n ops Q rest ((d,pQ b) :: e) w')
 (hx:ev e x=some v:=by exact rfl) (hd:Nat.blt d n=true:=by exact rfl):WL P n ops Q (⟨some d,.box t x,ty,pos,af,none⟩ :: rest) e w:=
 Z0 (Zl hx) hd (by rintro _ w' ⟨b,rfl,hb,hk,hT⟩;exact k b w' hb hk hT (hS.trans hT.mn))
theorem Z0x {x:Operand} {t:TypeId} {D:TypeDesc} {ad:Addr} {v:Value} {d:Nat} [hu:Und P t D] (hA:JO D=false) (hx:ev e x=some (.pointer (some ad))) (hc:w.cell? ad=some v) (hd:Nat.blt d n=true) (k:WL P n ops Q rest ((d,v) :: e) w) :
 WL P n ops Q (⟨some d,.load t x,ty,pos,af,none⟩ :: rest) e w:=Z7 (ZP hA hx hc) hd k
theorem Z0y {Lt:List Nat} {ord:List (Nat×Nat)} {i d:Nat} {gd:Option (Nat×Bool)} {x:Operand} {t:TypeId} {D:TypeDesc} {ad:Addr} {v:Value} [hu:Und P t D] (hi:ops[i]?=some ⟨some d,.load t x,ty,pos,af,gd⟩) (hg:Z0f ops e gd) (hA:JO D=false) (hx:ev e x=some (.pointer (some ad))) (hc:w.cell? ad=some v) (hd:Nat.blt d n=true)
 (k:WD P n ops [] Lt Q ord ((d,v) :: e) w):WD P n ops [] Lt Q ((i,1) :: ord) e w:=WD_read hi hg (λ_ hS=>ZP hA hx (hS.cell0 hc)) hd k
theorem DP {S S0:List Nat} {Lt:List Nat} {ord:List (Nat×Nat)} {i f d:Nat} {fn:Func} {gd:Option (Nat×Bool)} {xs:Array Operand} {ts:Array TypeId} {vs:Array Value} {r:Value} {c:Operand} [hf:Fun P f fn] (hS:Stp S0 w0 w) (h:Calls P f vs w (Ret λv w'=>v=r/\Stp [] w w')) (k:∀ w',Stp [] w w'->Stp S0 w0 w'->WD P n ops S Lt Q ord ((d,r) :: e) w')
 (hi:ops[i]?=some ⟨some d,.call { callee:=.value c,args:=xs,argTypes:=ts },ty,pos,af,gd⟩:=by exact rfl) (hg:Z0f ops e gd:=by first|exact trivial|exact rfl)
 (hc:ev e c=some (.func (.func f) #[] #[]):=by exact rfl) (hv:∀ a,Has n e a->xs.map a.eval=vs:=by first|exact ZO rfl|exact ZK rfl rfl|exact Z16 rfl rfl rfl|exact Z30 rfl rfl rfl rfl|exact ZaL) (hd:Nat.blt d n=true:=by exact rfl) :
 WD P n ops S Lt Q ((i,2) :: ord) e w:=
 Zp hi hg (Zd hc hv h) (λ_ _ h=>h.2.mn) hd (by rintro _ w' ⟨rfl,hT⟩;exact k w' hT (hS.trans hT.mn))
end Go.Eng
namespace Go.Proofs.YtkojegdemoahlaaGreatDoor
open Go Go.Eng Go.RowKit
def ZdR (l:List Cr) (nm:Str) (day b:Int) (i:Nat):Prop:=(l.getD i crZ).name=nm/\(l.getD i crZ).frm<=day/\(b<0\/(l.getD b.toNat crZ).frm<=(l.getD i crZ).frm)
instance (l:List Cr) (nm:Str) (day b:Int) (i:Nat):Decidable (ZdR l nm day b i):=by unfold ZdR;infer_instance
def Z2U (l:List Cr) (nm:Str) (day:Int):Nat->Int
 | 0=>-1
 | k+1=>if ZdR l nm day (Z2U l nm day k) k then k else Z2U l nm day k
def ZdS (l:List Cr) (nm:Str) (day:Int):Int:=Z2U l nm day l.length
theorem Zak (l:List Cr) (nm:Str) (day:Int):∀ k,-1<=Z2U l nm day k/\Z2U l nm day k<k
 | 0=>by simp [Z2U]
 | k + 1 => by
   have:=Zak l nm day k;simp only [Z2U];split<;>omega
theorem Zbb {A B C:Prop} [Decidable (A/\B/\C)] {x k b z:Int} {e:Eng.Env} {i:Nat} (h:x=if A/\B/\C then k else b) (he:Eng.look e i=some (.I z)) (hz:(A/\B/\C/\z=k)\/(¬ (B/\C)/\z=b)\/(¬ A/\z=b)):Eng.look e i=some (.I x):=by
 rw [he,h];rcases hz with ⟨a,b,c,rfl⟩|⟨a,rfl⟩|⟨a,rfl⟩
 rw [if_pos ⟨a,b,c⟩];rw [if_neg (λh=>a h.2)];rw [if_neg (λh=>a h.1)]
theorem Z81 (v:Value) (l:List Cr) (nm:Str) (day:Int) (w) (hs:SlV [] w v l):CC 33 #[v,str nm,.I day] w λr w'=>r=.I (ZdS l nm day)/\Stp [] w w':=by
 have bg:=hs.max;refine cW3 44 Tryz.func33 ?_;refine W ?_;refine LP (σ:=Nat) (λk=>[(0,v),(1,str nm),(2,.I day),(7,.I (Z2U l nm day k)),(10,v),(11,.I l.length),(12,.I k)]) (λk w'=>k<=l.length/\Stp [] w w') (λk=>l.length - k) 0 ⟨by omega,Stp.refl _ _⟩ ?_;have cd:=hs;clear hs;rintro k w1 ⟨hk,hS⟩;have hs:=cd.up hS;by_cases ah:k<l.length;obtain ⟨cs,⟨kc,kd,rfl,g1,g2⟩,ak⟩:=hs.cell ah;have hb:=Zak l nm day k;have hstep:Z2U l nm day (k+1)=if l[k].name=nm/\l[k].frm<=day/\(Z2U l nm day k<0\/(l.getD (Z2U l nm day k).toNat crZ).frm<=l[k].frm) then (k:Int) else Z2U l nm day k:=by
  rw [Z2U];simp only [ZdR,show l.getD k crZ=l[k] by simp [ah]]
 generalize Z2U l nm day k=bb at *;focus repeat'(first|refine W1 ?_|omega|refine VG ?_ ?_<;>intro hg|refine VC ?_ ?_<;>intro hc)
 refine Z7 (Z25 rfl rfl hs ah ⟨kc,kd,rfl,g1,g2⟩ ak) rfl ?_;refine Z0 Z4 rfl ?_;rintro _ w2 ⟨b,rfl,eJ,e9,hT⟩;refine W ?_;refine SB (us:=crC l[k] kc kd) (Z4C g1 g2) e9 ?_;rintro _ w3 ⟨aK,e9⟩;replace hS:=hS.trans (hT.ow aK);clear hT aK hs ak g1 g2;refine W ?_;refine ZDr 24 [] [] [(0,0),(1,1),(2,0),(3,0),(4,0),(5,0),(6,1),(7,0),(8,0),(9,0),(10,0),(11,0),(12,0),(13,0),(14,0),(15,1),(16,0),(17,0),(18,0),(19,0),(20,1),(21,0),(22,0),(23,0)] (λw1 ae=>?_);replace e9:=e9.up ae;replace hS:=hS.trans ae;clear ae;have hs:=cd.up hS;by_cases h0:bb<0
 . repeat'(first|refine D1 ?_|omega|refine Z8 rfl rfl rfl rfl (λhg=>?_) (λhg=>?_)|(refine Z6 rfl rfl rfl rfl (λhg=>?_) (λhg=>?_)<;>refine D1 ?_)|fail)
   all_goals repeat'(first|refine W1 ?_|omega|refine VG ?_ ?_<;>intro hg|refine VC ?_ ?_<;>intro hc)
   all_goals
    refine J3 (k+1) ⟨rfl,rfl,rfl,?_,rfl,rfl,rfl,trivial⟩ ⟨by omega,hS⟩ (by omega);first|exact Zbb hstep rfl (.inl ⟨by assumption,by omega,by omega,rfl⟩)|exact Zbb hstep rfl (.inr (.inl ⟨by omega,rfl⟩))|exact Zbb hstep rfl (.inr (.inr ⟨by assumption,rfl⟩))
 . obtain ⟨j,rfl⟩:∃ j:Nat,bb=j:=⟨bb.toNat,by omega⟩
   have hj:j<l.length:=by omega
   obtain ⟨cs,⟨kc2,kd2,rfl,-,-⟩,ak⟩:=hs.cell hj;have hf:w1.cell? (Zq v j 7 1)=some (.I l[j].frm):=ak 1 _ rfl;rw [show (j:Int).toNat=j by simp,show l.getD j crZ=l[j] by simp [hj]] at hstep;repeat'(first|refine D1 ?_|omega|refine Z0y rfl (by first|exact trivial|exact rfl) rfl rfl (by assumption) rfl ?_|refine Z8 rfl rfl rfl rfl (λhg=>?_) (λhg=>?_)|(refine Z6 rfl rfl rfl rfl (λhg=>?_) (λhg=>?_)<;>refine D1 ?_)|fail)
   all_goals repeat'(first|refine W1 ?_|omega|refine VG ?_ ?_<;>intro hg|refine VC ?_ ?_<;>intro hc)
   all_goals
    refine J3 (k+1) ⟨rfl,rfl,rfl,?_,rfl,rfl,rfl,trivial⟩ ⟨by omega,hS⟩ (by omega);first|exact Zbb hstep rfl (.inl ⟨by assumption,by omega,by omega,rfl⟩)|exact Zbb hstep rfl (.inr (.inl ⟨by omega,rfl⟩))|exact Zbb hstep rfl (.inr (.inr ⟨by assumption,rfl⟩))
 focus repeat'(first|refine W1 ?_|omega|refine VG ?_ ?_<;>intro hg|refine VC ?_ ?_<;>intro hc)
 refine WR ?_;rw [show k=l.length by omega];exact .mk ⟨rfl,hS⟩
end Go.Proofs.YtkojegdemoahlaaGreatDoor
namespace Go.Eng
open Go Go.RowKit Go.Proofs
variable {P:Program} {n:Nat} {Q:Exit->Act->World->Prop} {e:Env} {w w0:World} {rest:List Oper} {ops:Array Oper} {ty:TypeId} {pos:String} {af:Array Edge} {d:Option Nat} {g:Option (Nat×Bool)}
abbrev ltS (a b:Str):Bool:=Op.bytesLess a b
theorem Zal {t u:TypeId} {x y:Operand} {a b:Str} {c:Bool} [hu:Und P t .string] (hx:ev e x=some (str a)) (hy:ev e y=some (str b)) (hc:ltS a b=c):PR P n ⟨d,.binOp .lss t x y u,ty,pos,af,g⟩ e w (.B c):=
 ⟨λ_ ha=>by simp only [execOp,ha.ev hx,ha.ev hy];subst hc;simp [go_sem,binOp,Op.stringOp]⟩
theorem Zhk {t u:TypeId} {x y:Operand} {a b:Str} {c:Bool} [hu:Und P t .string] (hx:ev e x=some (str a)) (hy:ev e y=some (str b)) (hc:(!(ltS a b || a == b))=c):PR P n ⟨d,.binOp .gtr t x y u,ty,pos,af,g⟩ e w (.B c):=
 ⟨λ_ ha=>by simp only [execOp,ha.ev hx,ha.ev hy];subst hc;simp [go_sem,binOp,Op.stringOp]⟩
end Go.Eng
namespace Go.Proofs.YtkojegdemoahlaaGreatDoor
open Go Go.Eng Go.RowKit
def ZdT (a b:Str):Int:=if ltS a b=true then -1 else if (!(ltS a b || a == b))=true then 1 else 0
def cmI (x y:Int):Int:=if x<y then -1 else if y<x then 1 else 0
theorem Z2q (x y:Int) (w):CC 54 #[.I x,.I y] w λr w'=>r=.I (cmI x y)/\Stp [] w w':=
 (Tryz.cmp_Compare_int x y w).mono (by
   rintro e w' ⟨rfl,rfl⟩;exact .mk ⟨rfl,Stp.refl _ _⟩)
theorem Z51 (a:Str) (w):CC 201 #[str a] w λr w'=>r=.B false/\Stp [] w w':=by
 refine cW1 6 Tryz.func201 ?_;refine RT ?_;exact ⟨by simp,Stp.refl _ _⟩
theorem ZdU (a b:Str) (w):CC 137 #[str a,str b] w λr w'=>r=.I (ZdT a b)/\Stp [] w w':=by
 refine cW2 20 Tryz.func137 ?_;refine W ?_;refine CP (Stp.refl [] w) (Z51 a _) λw1 _ hS=>?_;refine W ?_;refine CP hS (Z51 b _) λw2 _ hS=>?_;refine W ?_;cases h1:ltS a b
 . refine Z7 (Zal rfl rfl h1) rfl ?_
   refine W ?_;cases h2:(!(ltS a b || a == b))
   all_goals
    refine Z7 (Zhk rfl rfl h2) rfl ?_;refine RT ?_;exact ⟨by rw [ZdT,if_neg (by simp [h1]),h2];rfl,hS⟩
 refine Z7 (Zal rfl rfl h1) rfl ?_;refine RT ?_;exact ⟨by rw [ZdT,h1];rfl,hS⟩
def orL (l:List Int):Int:=(l.find? (λx=>decide (x≠0))).getD 0
theorem ZdV {l:List Int} {k:Nat} (hk:k<l.length) (h:∀ j (h:j<l.length),j<k->l[j]=0) (h0:l[k]≠0):orL l=l[k]:=by
 have:l.find? (λx=>decide (x≠0))=some l[k]:=by
  rw [YaR];exact ⟨by simpa using h0,k,hk,rfl,λj hj=>by simp [h j (by omega) hj]⟩
 rw [orL,this];rfl
theorem Z82 {l:List Int} (h:∀ j (h:j<l.length),l[j]=0):orL l=0:=by
 have:l.find? (λx=>decide (x≠0))=none:=by
  rw [Yar];intro x hx;obtain ⟨j,hj,rfl⟩:=Xq hx;simp [h j hj]
 rw [orL,this];rfl
theorem Zhl (v:Value) (l:List Int) (w) (hs:SlV [] w v l):CC 53 #[v] w λr w'=>r=.I (orL l)/\Stp [] w w':=by
 have bg:=hs.max;refine cW1 18 Tryz.func53 ?_;refine W ?_;refine LP (σ:=Nat) (λk=>[(3,.I 0),(6,v),(7,.I l.length),(8,.I k)]) (λk w'=>k<=l.length/\Stp [] w w'/\∀ j (h:j<l.length),j<k->l[j]=0) (λk=>l.length - k) 0 ⟨by omega,Stp.refl _ _,by omega⟩ ?_;have cd:=hs;clear hs;rintro k w1 ⟨hk,hS,hz⟩;have hs:=cd.up hS;by_cases ah:k<l.length;by_cases h0:l[k]=0;refine QO ?_;exact QL (k+1) ⟨by omega,hS,λj h hj=>by
  by_cases e:j=k;subst e;exact h0;exact hz j h (by omega)⟩ (by omega)
 refine RT ?_;exact ⟨by rw [ZdV ah hz h0],hS⟩;refine RT ?_;exact ⟨by rw [Z82 (λj h=>hz j h (by omega))],hS⟩
def Zhm (f g:Fct):Int:=orL [cmI f.day g.day,cmI f.entry g.entry,ZdT f.kind g.kind,cmI f.by_ g.by_,cmI f.to_ g.to_,cmI f.amt g.amt]
theorem ZdW (a b c d e f:Int) (w):(Instr.buildSlice 22 6 #[(0,.I a),(1,.I b),(2,.I c),(3,.I d),(4,.I e),(5,.I f)]).run Tryz.prog w=.ok (.slice (some ⟨w.heap.size,0,none⟩) 6 6) (w.alloc (.cells #[.I a,.I b,.I c,.I d,.I e,.I f] 3)):=by kernel_rfl
theorem ZdX (f g:Fct) (w):CC 78 #[aG f,aG g] w λr w'=>r=.I (Zhm f g)/\Stp [] w w':=by
 refine cW2 37 Tryz.func78 ?_;refine W ?_;refine BX (Stp.refl [] w) λb2 w1 h2 e2 _ hS=>?_;refine BX hS λb3 w2 h3 e3 hT hS=>?_;replace e2:=e2.up hT;replace e2:Blk w2 b2 54 (Z2.enc f):=e2;replace e3:Blk w2 b3 54 (Z2.enc g):=e3;refine W ?_;refine ZDr 33 [] [] [(0,0),(1,1),(2,0),(3,1),(5,0),(6,1),(7,0),(8,1),(10,0),(11,1),(12,0),(13,1),(15,0),(16,1),(17,0),(18,1),(20,0),(21,1),(22,0),(23,1),(25,0),(26,1),(27,0),(28,1),(4,2),(9,2),(14,2),(19,2),(24,2),(29,2),(30,2),(31,2),(32,0)] (λw1 ae=>?_);replace e2:=e2.up ae;replace e3:=e3.up ae;replace hS:=hS.trans ae;refine D ?_;clear ae e2 e3;refine DP hS (Z2q _ _ _) λ_ _ hS=>?_;refine DP hS (Z2q _ _ _) λ_ _ hS=>?_;refine DP hS (ZdU _ _ _) λ_ _ hS=>?_;refine DP hS (Z2q _ _ _) λ_ _ hS=>?_;refine DP hS (Z2q _ _ _) λ_ _ hS=>?_;refine DP hS (Z2q _ _ _) λ_ _ hS=>?_;refine Zp rfl trivial (Z3 rfl (ZdW _ _ _ _ _ _)) (λ_ _ h=>Zh.stp h) rfl ?_;rintro bv wb hN;have dR:=hN.slv (X:=[]) (ys:=[cmI f.day g.day,cmI f.entry g.entry,ZdT f.kind g.kind,cmI f.by_ g.by_,cmI f.to_ g.to_,cmI f.amt g.amt]) (by simp) rfl rfl (by simp [maxLen]);replace hS:=hS.trans (Zh.stp hN);refine DP hS (Zhl bv _ _ dR) λ_ _ hS=>?_;refine D ?_;refine RT ?_;exact ⟨rfl,hS⟩
end Go.Proofs.YtkojegdemoahlaaGreatDoor
namespace Go.Eng
open Go Go.RowKit Go.Proofs
variable {P:Program} {n:Nat} {Q:Exit->Act->World->Prop} {e:Env} {w w0:World} {rest:List Oper} {ops:Array Oper} {ty ty':TypeId} {pos pos':String} {af af':Array Edge}
theorem AP1 {β:Type} [Z2 β] {T t bytes d1 d2:Nat} {x y:Operand} {v z0 u:Value} {xs:List β} [ht:Und P t (.slice T)] [hk:Siz P T (Z1.k β)] [hb:Byt P T bytes] [hz:Zer P T z0] (z:β) (hr:ZE T w0 w v xs) (hl:xs.length<=100000000)
 (k:∀ v1 v' w',ZE T w0 w' v' (xs++[z])->Stp (ob v) w w'->WL P n ops Q rest ((d2,v') :: (d1,v1) :: e) w')
 (hx:ev e x=some v:=by exact rfl) (hy:Jo e [(0,y)]=some [(0,u)]:=by exact rfl) (aI:∀ w:World,(Instr.buildSlice t 1 #[(0,u)]).run P w=.ok (.slice (some ⟨w.heap.size,0,none⟩) 1 1) (w.alloc (.cells (Z2.enc z).toArray T)):=by intro w;kernel_rfl)
 (iV:∀ v1,ev ((d1,v1) :: e) x=some v:=by intro _;exact rfl) (fG:∀ v1,ev ((d1,v1) :: e) (.tmp d1)=some v1:=by intro _;exact rfl)
 (ee:z0.cells.size=Z1.k β:=by exact rfl) (aO:0<Z1.k β:=by decide) (iO:bytes<=1000:=by decide) (h1:Nat.blt d1 n=true:=by exact rfl) (h2:Nat.blt d2 n=true:=by exact rfl) :
 WL P n ops Q (⟨some d1,.buildSlice t 1 #[(0,y)],ty,pos,af,none⟩ :: ⟨some d2,.call { callee:=.builtin .append,args:=#[x,.tmp d1],argTypes:=#[t,t] },ty',pos',af',none⟩ :: rest) e w:=by
 refine Z0 (Z3 (l:=[(0,y)]) (vs:=[(0,u)]) hy aI) h1 ?_;intro v1 w1 hN;have hT:Stp [] w w1:=hN.choose_spec.2.2.2;have dR:SlV (ob v) w1 v1 [z]:=hN.slv (λb hb=>(hr.ob_le b hb).2) rfl (by simp) (by simp [maxLen]);refine Z0 (Z37 ee aO (iV v1) (fG v1) (hr.up hT) dR (by
  simp only [Xo,Xr];exact Xl (Ya9 (Nat.add_le_add_right hl 1) iO) (by omega)) (by simp only [Xo,Xr,maxLen];omega)) h2 ?_
 rintro v' w2 ⟨g1,g2,-⟩;exact k v1 v' w2 g1 (hT.mn.trans g2)
theorem APR {β:Type} [Z2 β] {X:List Nat} {T t bytes d1 d2 base:Nat} {x y:Operand} {v z0 u:Value} {xs:List β} [ht:Und P t (.slice T)] [hk:Siz P T (Z1.k β)] [hb:Byt P T bytes] [hz:Zer P T z0] (z:β) (hr:Row X w base T v xs) (hX:∀ b∈X,b<w.heap.size) (cr:base<=w.heap.size) (hl:xs.length<=100000000)
 (k:∀ v1 v' w',Row X w' base T v' (xs++[z])->Stp (ob v) w w'->(∀ b∈ob v',b∈ob v\/w.heap.size<=b)->WL P n ops Q rest ((d2,v') :: (d1,v1) :: e) w')
 (hx:ev e x=some v:=by exact rfl) (hy:Jo e [(0,y)]=some [(0,u)]:=by exact rfl) (aI:∀ w:World,(Instr.buildSlice t 1 #[(0,u)]).run P w=.ok (.slice (some ⟨w.heap.size,0,none⟩) 1 1) (w.alloc (.cells (Z2.enc z).toArray T)):=by intro w;kernel_rfl)
 (iV:∀ v1,ev ((d1,v1) :: e) x=some v:=by intro _;exact rfl) (fG:∀ v1,ev ((d1,v1) :: e) (.tmp d1)=some v1:=by intro _;exact rfl)
 (ee:z0.cells.size=Z1.k β:=by exact rfl) (aO:0<Z1.k β:=by decide) (iO:bytes<=1000:=by decide) (h1:Nat.blt d1 n=true:=by exact rfl) (h2:Nat.blt d2 n=true:=by exact rfl) :
 WL P n ops Q (⟨some d1,.buildSlice t 1 #[(0,y)],ty,pos,af,none⟩ :: ⟨some d2,.call { callee:=.builtin .append,args:=#[x,.tmp d1],argTypes:=#[t,t] },ty',pos',af',none⟩ :: rest) e w:=by
 refine Z0 (Z3 (l:=[(0,y)]) (vs:=[(0,u)]) hy aI) h1 ?_;intro v1 w1 hN;have hT:Stp [] w w1:=hN.choose_spec.2.2.2;have dR:SlV (ob v++X) w1 v1 [z]:=hN.slv (λb hb=>by
  rcases Xg.1 hb with h|h
  exact (hr.ob_le b h).2;exact hX b h) rfl (by simp) (by simp [maxLen])
 refine Z0 (ZJ (X:=X) (base:=base) ee aO (iV v1) (fG v1) (hr.up hT) dR (by
  simp only [Xo,Xr];exact Xl (Ya9 (Nat.add_le_add_right hl 1) iO) (by omega)) (by simp only [Xo,Xr,maxLen];omega) (Xl cr hT.size)) h2 ?_
 rintro v' w2 ⟨g1,g2,g3⟩;exact k v1 v' w2 g1 (hT.mn.trans g2) (λb hb=>(g3 b hb).imp id (Xl hT.size))
end Go.Eng
namespace Go.Proofs.YtkojegdemoahlaaGreatDoor
open Go Go.Eng Go.RowKit
def Z3Q (l:List Fct):Nat->Fct
 | 0=>l.getD 0 default
 | k+1=>if Zhm (l.getD (k+1) default) (Z3Q l k)<0 then l.getD (k+1) default else Z3Q l k
theorem ZdY (v:Value) (l:List Fct) (w) (hs:SlV [] w v l) (hn:l≠[]):CC 77 #[v,.func (.func 78) #[] #[]] w λr w'=>r=.agg (Z2.enc (Z3Q l (l.length - 1))).toArray/\Stp [] w w':=by
 have bg:=hs.max;have aO:0<l.length:=YbB.2 hn;refine cW2 33 Tryz.func77 ?_;refine W ?_;refine Z0 Z4 rfl ?_;rintro _ w1 ⟨b4,rfl,ju,e4,hS⟩;have dw:=hs.up hS;refine QO ?_;refine Z0 Z4 rfl ?_;rintro _ w2 ⟨b5,rfl,oH,e5,hT⟩;have l4:=e4.lt;replace e4:=e4.up hT;refine SA (us:=Z2.enc l[0]) e5 ?_;rintro _ w3 ⟨aK,e5⟩;replace e4:=e4.ext aK (by simp;omega);replace hS:=hS.trans (hT.ow aK);clear hT aK dw;have l5:=e5.lt;have g4:b4≠b5:=by omega
 have g5:w.heap.size<=b5:=by have:=hS.size;omega
 refine W ?_;refine LP (σ:=Nat) (λk=>[(0,v),(1,.func (.func 78) #[] #[]),(4,pQ b4),(5,pQ b5),(6,.I ((k:Int)+1))]) (λk w'=>k<l.length/\Stp [] w w'/\Blk w' b5 54 (Z2.enc (Z3Q l k))/\(∃ cs,Blk w' b4 54 cs/\cs.length=6)) (λk=>l.length - k) 0 ⟨aO,hS,by rw [Z3Q,show l.getD 0 default=l[0] by simp [aO]];exact e5,_,e4,rfl⟩ ?_;clear e4 e5 hS;rintro k w4 ⟨hk,hS,e5,cs4,e4,cg⟩;have dw:=hs.up hS;by_cases ah:k+1<l.length;have hstep:Z3Q l (k+1)=if Zhm l[k+1] (Z3Q l k)<0 then l[k+1] else Z3Q l k:=by rw [Z3Q,show l.getD (k+1) default=l[k+1] by simp [ah]]
 generalize Z3Q l k=m at *;refine QO ?_;refine ZDr 8 [] [] [(0,0),(1,0),(2,0),(3,0),(4,1),(5,1),(6,2),(7,0)] (λw1 ae=>?_);replace dw:=dw.up ae;replace e5:=e5.up ae;replace e4:=e4.up ae;replace hS:=hS.trans ae;clear ae;refine D ?_;refine DP hS (ZdX l[k+1] m _) λw5 hT hS=>?_;replace dw:=dw.up hT;replace e5:=e5.up hT;replace e4:=e4.up hT;refine D ?_;by_cases hc:Zhm l[k+1] m<0;rw [if_pos hc] at hstep;refine QO ?_;refine SA (us:=Z2.enc l[k+1]) e5 ?_;rintro _ w6 ⟨aK,e5⟩;replace e4:=e4.ext aK (by simp;omega);replace hS:=hS.ow aK;refine QO ?_;exact QL (k+1) ⟨ah,hS,by rw [hstep];exact e5,_,e4,cg⟩ (by omega);rw [if_neg hc] at hstep;refine QO ?_;exact QL (k+1) ⟨ah,hS,by rw [hstep];exact e5,_,e4,cg⟩ (by omega);refine QO ?_;refine Z5 (Jf (us:=Z2.enc (Z3Q l k)) rfl rfl rfl rfl (Z2.one _) e4 cg.symm) ?_;rintro _ w6 ⟨aK,e4⟩;refine QO ?_;refine Za5 rfl rfl rfl e4 rfl ?_;rw [show l.length - 1=k by omega];exact .mk ⟨rfl,hS.ow aK⟩
theorem Zhn (w):(Instr.build 54 #[]).run Tryz.prog w=.ok (aG (default:Fct)) w:=by kernel_rfl
def Z60 (f:Fct) (unl:Str) (due:Int) (g:Fct):Bool:=decide (unl≠[]/\g.kind=unl/\g.by_=f.to_/\g.day<=due/\(f.day<=g.day\/due<f.day))
def Z5C (fs:List Fct) (f:Fct) (unl:Str) (due:Int):List Fct:=fs.filter (Z60 f unl due)
def Z9j (fs:List Fct) (f:Fct) (unl:Str) (due:Int):Fct×Bool:=if Z5C fs f unl due=[] then (default,false) else (Z3Q (Z5C fs f unl due) ((Z5C fs f unl due).length - 1),true)
theorem Zbc (fs:List Fct) (f:Fct) (unl:Str) (due:Int) (k:Nat) (h:k<fs.length):Z5C (fs.take (k+1)) f unl due=Z5C (fs.take k) f unl due++if Z60 f unl due fs[k]=true then [fs[k]] else []:=by
 unfold Z5C;rw [Xf h,XT];congr 1;cases hc:Z60 f unl due fs[k]<;>simp [hc]
theorem Z9k (c:Cas) (R:Z5B) (f:Fct) (unl:Str) (due:Int) (w) (hs:SlV [] w R.fv c.fcts) (hl:c.fcts.length<=10000000):CC 41 #[.agg (Z1j c R).toArray,aG f,str unl,.I due] w λr w'=>r=.tuple #[.agg (Z2.enc (Z9j c.fcts f unl due).1).toArray,.B (Z9j c.fcts f unl due).2]/\Stp [] w w':=by
 refine cW4 65 Tryz.func41 ?_;refine W ?_;refine BX (Stp.refl [] w) λb4 w1 h4 e4 _ hS=>?_;replace e4:Blk w1 b4 50 (Z1j c R):=e4;refine BX hS λb5 w2 h5 e5 hT hS=>?_;replace e5:Blk w2 b5 54 (Z2.enc f):=e5;replace e4:=e4.up hT;refine W ?_;refine Z0 Z4 rfl ?_;rintro _ w3 ⟨b8,rfl,d5,e8,hT⟩;have g8:w.heap.size<=b8:=Xl hS.size d5;replace e4:=e4.up hT;replace e5:=e5.up hT;replace hS:=hS.trans hT;have dP:=hs.up hS;refine W ?_;refine LP (σ:=Nat×Value) (λq=>[(2,str unl),(3,.I due),(4,pQ b4),(5,pQ b5),(8,pQ b8),(9,.B false),(10,q.2),(14,R.fv),(15,.I c.fcts.length),(16,.I q.1)]) (λq w'=>q.1<=c.fcts.length/\ZE 54 w3 w' q.2 (Z5C (c.fcts.take q.1) f unl due)) (λq=>c.fcts.length - q.1) (0,.N) ⟨by omega,ZE.nil⟩ ?_;rintro ⟨k,rv⟩ w4 ⟨hk,hr⟩;dsimp only at hk hr ⊢;have e4':=e4.up hr.2;have e5':=e5.up hr.2;have cS:=dP.up hr.2;by_cases ah:k<c.fcts.length
 . have hstep:=Zbc c.fcts f unl due k ah
   refine QO ?_;refine Z0 Z4 rfl ?_;rintro _ w5 ⟨b12,rfl,mg,e12,hT⟩;refine SA (us:=Z2.enc c.fcts[k]) e12 ?_;rintro _ w6 ⟨aK,e12⟩;replace hT:=hT.ow aK;replace e4':=e4'.up hT;replace e5':=e5'.up hT;replace hr:=hr.up hT;clear hT aK cS;repeat'(first|refine W1 ?_|omega|refine VG ?_ ?_<;>intro hg|refine VC ?_ ?_<;>intro hc)
   all_goals first
    | exact QL (k + 1, rv) ⟨ah, by
       rw [hstep,if_neg,XJ];exact hr;simp only [Z60,decide_eq_true_eq];rintro ⟨a,b,c,d,e⟩;first|contradiction|omega⟩ (by dsimp only;omega)
    | refine AP1 c.fcts[k] hr (Xl (XR _ _) (by simp; omega)) λv1 v' w' aV _ => ?_
      refine QO ?_;exact QL (k+1,v') ⟨ah,by
       rw [hstep,if_pos (show Z60 f unl due c.fcts[k]=true from decide_eq_true ⟨by assumption,by assumption,by omega,by omega,by omega⟩)];exact aV⟩ (by dsimp only;omega)
 have dS:SlV [] w4 rv (Z5C (c.fcts.take k) f unl due):=hr.slv (by simp);obtain rfl:k=c.fcts.length:=by omega
 rw [Xs] at dS;have e8':=e8.up hr.2;replace hS:=hS.trans hr.2;clear hr;unfold Z9j;generalize Z5C c.fcts f unl due=L at *;have hz:((L.length:Int)=0)↔L=[]:=by simp
 (refine QP ?_ ?_<;>intro hc)
 obtain rfl:L=[]:=hz.1 (by assumption);refine Z9 (vs:=[]) rfl Zhn rfl ?_;refine Z5 (Jf (us:=Z2.enc (default:Fct)) rfl rfl rfl rfl (Z2.one _) e8' rfl) ?_;rintro _ w6 ⟨aK,e8''⟩;refine W ?_;refine ZY rfl rfl rfl e8'' rfl rfl ?_;exact .mk ⟨rfl,hS.ow aK⟩;have hL:L≠[]:=λh=>absurd (hz.2 h) (by assumption)
 rw [if_neg hL];refine CP hS (ZdY rv L w4 dS hL) λw5 hT hS=>?_;replace e8':=e8'.up hT;refine Z5 (Jf (us:=Z2.enc (Z3Q L (L.length - 1))) rfl rfl rfl rfl (Z2.one _) e8' rfl) ?_;rintro _ w6 ⟨aK,e8''⟩;refine W ?_;refine ZY rfl rfl rfl e8'' rfl rfl ?_;exact .mk ⟨rfl,hS.ow aK⟩
theorem Zp6 (a b:Ins) (w):(binOp .eql 179 (agg a) (agg b)).run Tryz.prog w=.ok (.B (decide (a=b))) w:=by
 have h1:Program.stoodInHeld Tryz.prog 179=false:=by kernel_rfl
 obtain ⟨a1,a2⟩:=a;obtain ⟨b1,b2⟩:=b;simp [agg,Z2.enc,run_eql_struct,run_equalIn_struct,h1,Program.fieldsOf,Tryz.underlying179,Op.eqFields,part,Und.isAgg,JO,run_equalIn_int w _ _ .i64 .i64 _ _ Tryz.underlying3];repeat' split
 all_goals simp_all
theorem Z9l (v:Value) (l:List Ins) (x:Ins) (w) (hs:SlV [] w v l):CC 136 #[v,agg x] w λr w'=>(∃ z:Int,r=.I z/\(0<=z↔x∈l))/\Stp [] w w':=by
 have bg:=hs.max;refine cW2 19 Tryz.func136 ?_;refine W ?_;refine BX (Stp.refl [] w) λb3 w1 h3 e3 _ hS=>?_;replace e3:Blk w1 b3 179 (Z2.enc x):=e3;have dw:=hs.up hS;refine W ?_;refine LP (σ:=Nat) (λk=>[(0,v),(3,pQ b3),(6,v),(7,.I l.length),(8,.I k)]) (λk w'=>k<=l.length/\Stp [] w1 w'/\∀ j (h:j<l.length),j<k->l[j]≠x) (λk=>l.length - k) 0 ⟨by omega,Stp.refl _ _,by omega⟩ ?_;rintro k w2 ⟨hk,hT,hz⟩;have bu:=dw.up hT;have e3':=e3.up hT;by_cases ah:k<l.length;refine QO ?_;refine ZDr 6 [] [] [(0,1),(1,0),(2,0),(3,0),(4,1),(5,0)] (λw1 ae=>?_);replace bu:=bu.up ae;replace e3':=e3'.up ae;replace hT:=hT.trans ae;refine D ?_;apply Z2B;exact rfl;refine Zfp (c:=x=l[k]) trivial rfl rfl (λw=>ZlN _ _ _ x l[k] w) (by intro w;exact Zp6 x l[k] w) rfl ?_;refine D ?_
 (refine QP ?_ ?_<;>intro hc)
 refine RU ?_;exact ⟨⟨_,rfl,by constructor<;>intro _<;>first|omega|(rw [hc];exact Xc ah)⟩,hS.trans hT⟩;exact QL (k+1) ⟨ah,hT,λj h hj=>by
  by_cases e:j=k;subst e;exact λh=>hc h.symm;exact hz j h (by omega)⟩ (by omega)
 refine RT ?_;exact ⟨⟨_,rfl,by
  constructor;intro h;omega;intro h;obtain ⟨j,hj,e⟩:=Xq h;exact absurd e (hz j hj (by omega))⟩,hS.trans hT⟩
theorem Z52 (v:Value) (l:List Ins) (x:Ins) (w) (hs:SlV [] w v l):CC 76 #[v,agg x] w λr w'=>r=.B (decide (x∈l))/\Stp [] w w':=by
 refine cW2 9 Tryz.func76 ?_;refine W ?_;refine BX (Stp.refl [] w) λb3 w1 h3 e3 _ hS=>?_;replace e3:Blk w1 b3 179 (Z2.enc x):=e3;refine W ?_;refine CG (Z9l v l x _ (hs.up hS)) ?_;rintro _ w2 ⟨⟨z,rfl,hz⟩,hT⟩;refine RT ?_;exact ⟨congrArg Value.bool (decide_eq_decide.2 hz),hS.trans hT⟩
def Z2E (l:List Ins):Bool:=decide ((⟨4,1⟩:Ins)∈l) || decide ((⟨4,2⟩:Ins)∈l)
theorem Z83 (a b:Int) (w):(Instr.build 179 #[(0,.I a),(1,.I b)]).run Tryz.prog w=.ok (agg (⟨a,b⟩:Ins)) w:=by kernel_rfl
theorem Z84 (v:Value) (l:List Ins) (w) (hs:SlV [] w v l):CC 39 #[v] w λr w'=>r=.B (Z2E l)/\Stp [] w w':=by
 refine cW1 11 Tryz.func39 ?_;refine W ?_;refine Z9 (vs:=[(0,.I 4),(1,.I 1)]) rfl (Z83 _ _) rfl ?_;refine CP (Stp.refl [] w) (Z52 v l _ w hs) λw1 _ hS=>?_;unfold Z2E;by_cases h1:(⟨4,1⟩:Ins)∈l;rw [decide_eq_true h1];refine RT ?_;exact ⟨rfl,hS⟩;rw [decide_eq_false h1];refine QO ?_;refine Z9 (vs:=[(0,.I 4),(1,.I 2)]) rfl (Z83 _ _) rfl ?_;refine W ?_;refine CP hS (Z52 v l _ _ (hs.up hS)) λw2 _ hS=>?_;refine RT ?_;exact ⟨by simp,hS⟩
end Go.Proofs.YtkojegdemoahlaaGreatDoor
namespace Go.Eng
open Go Go.RowKit Go.Proofs
section
variable {P:Program} {n:Nat} {Q:Exit->Act->World->Prop} {e:Env} {w w0 w':World} {rest:List Oper} {ops:Array Oper} {ty:TypeId} {pos:String} {af:Array Edge} {dd:Option Nat} {g:Option (Nat×Bool)}
structure StD (w w':World):Prop where
 s:Stp [] w w'
 d:w.drawn<=w'.drawn
theorem StD.refl (w):StD w w:=⟨Stp.refl _ _,Xm _⟩
theorem StD.trans {a b c:World} (h:StD a b) (k:StD b c):StD a c:=⟨h.s.trans k.s,Xl h.d k.d⟩
theorem StD.grown {w w':World} (h:StD w w'):∃ q os',w'=Go.Sort.grow (w.drewN q) os':=by
 refine ⟨w'.drawn - w.drawn,w'.heap.extract w.heap.size w'.heap.size,?_⟩;obtain ⟨⟨h1,h2,h3,h4,h5⟩,h6⟩:=h;have hh:w'.heap=w.heap++w'.heap.extract w.heap.size w'.heap.size:=by
  apply Array.ext_getElem?;intro i;by_cases hi:i<w.heap.size;rw [h5 i hi (by simp),XX hi];rw [Array.getElem?_append_right (by omega),Array.getElem?_extract];by_cases dY:i<w'.heap.size;rw [if_pos (by omega)];congr 1;omega;rw [if_neg (by omega),YaZ (by omega)]
 cases w';cases w;simp only [Go.Sort.grow,World.drewN] at *;subst h1 h2 h3;simp only [World.mk.injEq,true_and,and_true];exact ⟨hh,by omega⟩
theorem BXD {d:Nat} {t:TypeId} {x:Operand} {v:Value} (hS:StD w0 w) (k:∀ b w',w.heap.size<=b->Blk w' b t v.cells.toList->StD w w'->StD w0 w'->WL P n ops Q rest ((d,pQ b) :: e) w')
 (hx:ev e x=some v:=by exact rfl) (hd:Nat.blt d n=true:=by exact rfl):WL P n ops Q (⟨some d,.box t x,ty,pos,af,none⟩ :: rest) e w:=by
 have ho:OE P n ⟨some d,.box t x,ty,pos,af,none⟩ e w (λu w'=>Z4I w t v.cells.toList u w'/\w'.drawn=w.drawn):=
  Zs (v:=.pointer (some ⟨w.heap.size,0,none⟩)) (w':=w.alloc (.cells v.cells t)) (λa ha=>by
   simp [execOp,Instr.box,ha.ev hx,newVar,newRow,newObj];rfl) ⟨by simpa using Z6s w t v.cells.toList,rfl⟩
 refine Z0 ho hd ?_;rintro _ w' ⟨⟨b,rfl,hb,hk,hT⟩,he⟩;have h1:StD w w':=⟨hT,Nat.le_of_eq he.symm⟩
 exact k b w' hb hk h1 (hS.trans h1)
theorem CPD {f d:Nat} {fn:Func} {xs:Array Operand} {ts:Array TypeId} {vs:Array Value} {r:Value} {c:Operand} [hf:Fun P f fn] (hS:StD w0 w) (h:Calls P f vs w (Ret λv w'=>v=r/\StD w w')) (k:∀ w',StD w w'->StD w0 w'->WL P n ops Q rest ((d,r) :: e) w')
 (hc:ev e c=some (.func (.func f) #[] #[]):=by exact rfl) (hv:∀ a,Has n e a->xs.map a.eval=vs:=by first|exact ZO rfl|exact ZK rfl rfl|exact Z16 rfl rfl rfl|exact Z30 rfl rfl rfl rfl|exact ZaL) (hd:Nat.blt d n=true:=by exact rfl) :
 WL P n ops Q (⟨some d,.call { callee:=.value c,args:=xs,argTypes:=ts },ty,pos,af,none⟩ :: rest) e w:=
 Z0 (Zd hc hv h) hd (by rintro _ w' ⟨rfl,hT⟩;exact k w' hT (hS.trans hT))
end
section
variable {w:World} {T:Nat}
theorem Zbd {g q:Nat} {cur F:Array Value} (os:Array Obj) (h:w.heap[g]?=some (.cells cur T (0,0))) (hl:F.size<=cur.size) :
 Stp [g] w (Go.Sort.grow (Go.Sort.putRow id (Go.Sort.ahead w q) g 0 F) os)/\
 ∃ cur',(Go.Sort.grow (Go.Sort.putRow id (Go.Sort.ahead w q) g 0 F) os).heap[g]?=some (.cells cur' T (0,0))/\cur'.size=cur.size/\cur'.toList.take F.size=F.toList:=by
 have ah:g<w.heap.size:=(Xi.1 h).1;have hh:(Go.Sort.grow (Go.Sort.putRow id (Go.Sort.ahead w q) g 0 F) os).heap=w.heap.modify g (Go.Sort.onCells (Go.Sort.putCells id 0 F))++os:=rfl;refine ⟨⟨rfl,rfl,rfl,by rw [hh];simp,λb hb hn=>?_⟩,Go.Sort.putCells id 0 F cur,?_,by simp [Go.Sort.putCells],?_⟩;rw [hh,XX (by simpa using hb),Ya4,if_neg (by simp at hn;exact λe=>hn e.symm)];rw [hh,XX (by simpa using ah),Ya4,if_pos rfl,h];rfl;apply YaU;simp [Go.Sort.putCells];omega;intro i h1 h2;have hi:i<F.size:=by simpa using h2
 simp [Go.Sort.putCells,hi]
theorem Z9m {g:Nat} {cur F:Array Value} (h:w.heap[g]?=some (.cells cur T (0,0))) (ht:cur.toList.take F.size=F.toList):Go.Sort.Holds id w g 0 F:=by
 intro j hj;have hc:cur[j]?=some F[j]:=by
  have h1:(cur.toList.take F.size)[j]?=some F[j]:=by rw [ht];simp [hj]
  rw [Yab,if_pos hj] at h1;simpa using h1
 constructor;simp [World.cell?,h,hc,hj];simp [World.frozen?,h]
theorem Z53 {β:Type} [Z2 β] [Inhabited β] (hk:0<Z2.k β) (xs:List β):(Go.Sort.flatK Z2.enc (Z2.k β) xs.toArray).toList=(xs.map Z2.enc).flatten:=by
 have am:((xs.map Z2.enc).flatten:List Value).length=xs.length * Z2.k β:=by
  rw [JD (k:=Z2.k β) _ (by intro c hc;obtain ⟨x,_,rfl⟩:=XE.1 hc;exact Z2.len x),XI]
 apply List.ext_getElem?;intro t;by_cases ht:t<xs.length * Z2.k β;have hq:t / Z2.k β<xs.length:=Nat.div_lt_of_lt_mul (by rwa [Ybn] at ht);have hr:t % Z2.k β<Z2.k β:=Nat.mod_lt _ hk;have h1:=JC (k:=Z2.k β) (xs.map Z2.enc) (by intro c hc;obtain ⟨x,_,rfl⟩:=XE.1 hc;exact Z2.len x) (t / Z2.k β) (by simpa using hq) (t % Z2.k β) ((Z2.enc xs[t / Z2.k β])[t % Z2.k β]'(by rw [Z2.len];exact hr)) (by simp [Z2.len,hr]);rw [Ybn,Ybz] at h1;rw [h1];have h2:=Go.Sort.get_flatK Z2.enc (Z2.k β) xs.toArray t (by simpa using ht);have hs:t<(Go.Sort.flatK Z2.enc (Z2.k β) xs.toArray).size:=by simpa using ht
 rw [getElem!_pos _ t hs] at h2;rw [YaF,Array.getElem?_eq_getElem hs,h2];congr 1;rw [getElem!_pos xs.toArray _ (by simpa using hq),getElem!_pos _ _ (by rw [Z2.len];exact hr)];simp;rw [List.getElem?_eq_none (by simpa using Yba ht),List.getElem?_eq_none (by rw [am];omega)]
theorem Row.toK {β:Type} [Z2 β] {X:List Nat} {base:Nat} {v:Value} {zs:List β} (h:Row X w base T v zs) :
 (v=.N/\zs=[])\/∃ g cap cur,v=.slice (some ⟨g,0,none⟩) zs.length cap/\base<=g/\w.heap[g]?=some (.cells cur T (0,0))/\zs.length<=cap/\cap<=maxLen/\cur.size=cap * Z2.k β/\cur.toList.take (zs.length * Z2.k β)=(zs.map Z2.enc).flatten:=by
 obtain ⟨css,hl,hr,hx,ho⟩:=h;have hc:css=zs.map Z2.enc:=by
  apply YaU (by simpa using hl);intro i h1 h2;have:css[i]=Z2.enc zs[i]:=hr i (by omega) h1;simp [this]
 subst hc;rcases ho with ⟨rfl,hn⟩|⟨g,cap,cur,rfl,hb,hg,bj,aW,aH,ht⟩
 exact .inl ⟨rfl,X3.1 hn⟩;exact .inr ⟨g,cap,cur,rfl,hb,hg,bj,aW,aH,ht⟩
theorem Row.ofK {β:Type} [Z2 β] {X:List Nat} {base g cap:Nat} {cur:Array Value} {zs:List β} (hb:base<=g) (hg:w.heap[g]?=some (.cells cur T (0,0))) (bj:zs.length<=cap) (aW:cap<=maxLen) (aH:cur.size=cap * Z2.k β)
 (ht:cur.toList.take (zs.length * Z2.k β)=(zs.map Z2.enc).flatten):Row X w base T (.slice (some ⟨g,0,none⟩) zs.length cap) zs:=
 ⟨zs.map Z2.enc, by simp, λi h1 h2 => by simp; rfl, by
   rw [JD (k:=Z2.k β) _ (by intro c hc;obtain ⟨x,_,rfl⟩:=XE.1 hc;exact Z2.len x),XI];rfl,
   .inr ⟨g,cap,cur,rfl,hb,hg,bj,aW,aH,ht⟩⟩
theorem Jj {β:Type} [Z2 β] {X X':List Nat} {base:Nat} {v:Value} {zs:List β} (h:Row X w base T v zs):Row X' w base T v zs:=by
 rcases h.toK with ⟨rfl,rfl⟩|⟨g,cap,cur,rfl,hb,hg,bj,aW,aH,ht⟩
 exact Row.nil;exact Row.ofK hb hg bj aW aH ht
open Go.Shelf Go.Sort in
theorem Zbe {β:Type} [Z2 β] [Inhabited β] {P:Program} {ρ:Ren} (fK:0<Z2.k β) (L:SlLaysF0.n6 P ρ) (aE:∀ w,(isAgg (ρ.t 24)).run P w=.ok true w) (zE:∀ w,(Go.sizeOf (ρ.t 24)).run P w=.ok (Z2.k β) w) (cf:β->β->Int) (hO:SWO (ltOf cf)) (g:Nat) {fn:Func} [hf:Fun P g fn]
 (mh:∀ (x y:β) (w),Calls P g #[aG x,aG y] w (Ret λr w'=>r=.I (cf x y)/\StD w w'))
 {X:List Nat} {base:Nat} {v:Value} {zs:List β} (h:Row X w base T v zs) (bw:zs.length<4611686018427387904) :
 Calls P (ρ.f 6) #[v,.func (.func g) #[] #[]] w (Ret λr w'=>r=.tuple #[]/\∃ zs':List β,zs'.Perm zs/\(∀ i j (hi:i<zs'.length) (hj:j<zs'.length),i<j->¬ cf zs'[j] zs'[i]<0)/\Row X w' base T v zs'/\Stp (ob v) w w'):=by
 rcases h.toK with ⟨rfl,rfl⟩|⟨gb,cap,cur,rfl,hb,hg,bj,aW,aH,ht⟩
 refine (AnyF.slices_SortFunc_none L none 0 _ w).mono ?_;rintro _ _ ⟨rfl,rfl⟩;exact .mk ⟨rfl,[],YaA _,λi j hi=>absurd hi (XC _),Row.nil,Stp.refl _ _⟩;have ah:gb<w.heap.size:=(Xi.1 hg).1;have hC:CmpLays P g #[] Z2.enc (Z2.k β) cf gb 0 zs.toArray.size w:=λm os dk hs x y=>by
  refine (mh x y _).mono ?_;rintro _ _ ⟨_,rfl,rfl,hD⟩;exact ⟨rfl,hD.grown⟩
 have hH:HoldsK Z2.enc (Z2.k β) w gb 0 zs.toArray:=Z9m hg (by rw [size_flatK,Z53 fK];simpa using ht);have hS:=AnyQ.slices_SortFunc L (Z2.k β) aE zE Z2.enc Z2.len Z2.one cf hO g #[] gb 0 cap zs.toArray w (λargs w=>hf.enters args w) hC hH ah (by simpa using bw);rw [show zs.toArray.size=zs.length by simp] at hS;refine hS.mono ?_;rintro _ _ ⟨rfl,d',q,os,⟨p1,p2,p3⟩,br,rfl⟩;have hl:d'.size=zs.length:=by simpa using p1
 have hp:d'.toList.Perm zs:=by
  have e1:d'.extract 0 zs.length=d':=by rw [<- hl];simp
  have e2:zs.toArray.extract 0 zs.length=zs.toArray:=by simp
  rw [e1,e2] at p3;simpa using p3
 obtain ⟨h1,cur',h2,h3,h4⟩:=Zbd (q:=q) (F:=flatK Z2.enc (Z2.k β) d') os hg (by rw [size_flatK,hl,aH];exact Xt _ bj);refine .mk ⟨rfl,d'.toList,hp,λi j hi hj bN=>?_,?_,h1⟩;have:=br i j (Xu _) bN (by simpa [hl] using hj);simp only [ltOf,decide_eq_false_iff_not] at this;rw [getElem!_pos d' j (by simpa using hj),getElem!_pos d' i (by simpa using hi)] at this;simpa using this;have hz:zs.length=d'.toList.length:=by simp [hl]
 rw [hz];refine Row.ofK hb h2 (by rw [<- hz];exact bj) aW (by rw [h3,aH]) ?_;rw [<- hz,<- hl,<- size_flatK Z2.enc (Z2.k β) d',h4];have:=Z53 fK d'.toList;simpa using this
end
variable {P:Program} {n:Nat} {e:Env} {w:World} {d:Option Nat} {ty:TypeId} {pos:String} {af:Array Edge} {g:Option (Nat×Bool)}
theorem Zam {T k bytes:Nat} {z:Value} [hk:Siz P T k] [hb:Byt P T bytes] [hz:Zer P T z]:∃ i,P.info? T=some i/\i.size=k/\i.bytes=bytes/\i.zero=some z:=by
 have a1:=hk.h;have a2:=hb.h;have a3:=hz.h;cases hi:P.info? T with
 | none=>simp [hi] at a1
 | some i=>exact ⟨i,rfl,by simpa [hi] using a1,by simpa [hi] using a2,by simpa [hi] using a3⟩
def Zqa (T k m:Nat) (w:World) (v:Value) (w':World):Prop:=∃ b cur,v=.slice (some ⟨b,0,none⟩) m m/\w.heap.size<=b/\w'.heap[b]?=some (.cells cur T (0,0))/\cur.size=m * k/\m<=maxLen/\Stp [] w w'
theorem Z5D {t T bytes k m:Nat} {x y:Operand} {z:Value} [ht:Und P t (.slice T)] [hk:Siz P T k] [hb:Byt P T bytes] [hz:Zer P T z]
 (hx:ev e x=some (.I (m:Int))) (hy:ev e y=some (.I (m:Int))) (ft:m<=maxLen) (hbytes:bytes * m<=281474976710656) :
 OE P n ⟨d,.makeSlice t x y,ty,pos,af,g⟩ e w (Zqa T k m w):=by
 obtain ⟨i,hi,cY,dY,fD⟩:=Zam (P:=P) (T:=T) (k:=k) (bytes:=bytes) (z:=z);obtain ⟨w',aI,bA,ji⟩:=run_make_full (P:=P) w w.heap.size t T i z k ht.h hi fD cY .i64 .i64 m (by rw [dY];exact hbytes) ft (Xm _);refine Zs (v:=.slice (some ⟨w.heap.size,0,none⟩) m m) (w':=w') (λa ha=>?_) ?_;simp [execOp,ha.ev hx,ha.ev hy,aI];rcases bA.2 with ⟨h,_⟩|⟨gb,cap,cur,h,fw,hg,hn,hm,aH,n3⟩
 cases h;cases h;exact ⟨_,cur,rfl,Xm _,hg,aH,ft,Stp.of_grown ji⟩
theorem ZdZ {β:Type} [Z2 β] {t T bytes b:Nat} {x y:Operand} {z u:Value} {zs:List β} {cur:Array Value} {base:Nat} [ht:Und P t (.slice T)] [hk:Siz P T (Z1.k β)] [hb:Byt P T bytes] [hz:Zer P T z]
 (hx:ev e x=some (.slice (some ⟨b,0,none⟩) zs.length zs.length)) (hy:ev e y=some u) (hs:SlV [] w u zs) (hg:w.heap[b]?=some (.cells cur T (0,0))) (aH:cur.size=zs.length * Z1.k β) (aF:base<=b) (hm:zs.length<=maxLen) :
 OE P n ⟨d,.call { callee:=.builtin .copy,args:=#[x,y],argTypes:=#[t,t] },ty,pos,af,g⟩ e w (λ_ w'=>(∀ X,Row X w' base T (.slice (some ⟨b,0,none⟩) zs.length zs.length) zs)/\Stp [b] w w'):=by
 obtain ⟨i,hi,cY,dY,fD⟩:=Zam (P:=P) (T:=T) (k:=Z1.k β) (bytes:=bytes) (z:=z);have eE:((zs.map Z2.enc).flatten:List Value).length=zs.length * Z1.k β:=by
  rw [JD (k:=Z2.k β) _ (by intro c hc;obtain ⟨x,_,rfl⟩:=XE.1 hc;exact Z2.len x),XI];rfl
 have az:∀ v∈(zs.map Z2.enc).flatten,v.oneCell'=true:=by
  intro v hv;obtain ⟨c,hc,ii⟩:=List.mem_flatten.1 hv;obtain ⟨x,_,rfl⟩:=XE.1 hc;exact Z2.one x v ii
 have ax:=run_storeCells_at (P:=P) b 0 T (zs.map Z2.enc).flatten 0 cur w hg (by rw [eE,aH];omega) az;obtain ⟨p,c,rfl,s6,aW,qu,ak⟩:=hs;have jo:(Builtin.firstCells (Z1.k β) zs.length (.slice p zs.length c)).run P w=.ok (zs.map Z2.enc).flatten.toArray w:=by
  cases p with
  | none=>
    have h0:zs.length=0:=by have:=qu rfl;omega
    obtain rfl:=X3.1 h0;simp [Builtin.firstCells]
  | some a=>
    have:=run_loadCells_list (P:=P) (w:=w) a (zs.map Z2.enc).flatten (λj v hj=>by
     have dB:j<zs.length * Z2.k β:=by
      have h1:=(Xn.1 hj).1;rw [eE] at h1;exact h1
     have qw:0<Z2.k β:=by
      rcases YbF (Z2.k β) with h|h
      rw [h] at dB;omega;exact h
     have hq:j / Z2.k β<zs.length:=Nat.div_lt_of_lt_mul (by rwa [Ybn] at dB);have hr:j % Z2.k β<Z2.k β:=Nat.mod_lt _ qw;obtain ⟨b',o,cs,h1,h2,h3,h4,h5⟩:=ak _ hq;cases h1;have qx:cs=Z2.enc zs[j / Z2.k β]:=h4;have h6:=JC (k:=Z2.k β) (zs.map Z2.enc) (by intro c hc;obtain ⟨x,_,rfl⟩:=XE.1 hc;exact Z2.len x) (j / Z2.k β) (by simpa using hq) (j % Z2.k β) ((Z2.enc zs[j / Z2.k β])[j % Z2.k β]'(by rw [Z2.len];exact hr)) (by simp [Z2.len,hr]);rw [Ybn,Ybz] at h6;rw [h6] at hj;have h7:=h5 (j % Z2.k β) _ (by rw [qx];exact XN (by rw [Z2.len];exact hr));rw [XU hj] at h7;have h8:o+j / Z2.k β * Z2.k β+j % Z2.k β=o+j:=by
      have:=Ybz j (Z2.k β);rw [Ybn] at this;omega
     have h9:(⟨b',o,none⟩:Addr).add j=⟨b',o+j,none⟩:=by unfold Addr.add;split<;>simp_all
     rw [h9,<- h8];exact h7)
    rw [eE] at this;simpa [Builtin.firstCells] using this
 refine Zs (v:=goInt zs.length) (w':=w.setRow b ((zs.map Z2.enc).flatten++cur.toList.drop ((zs.map Z2.enc).flatten.length)).toArray) (λa ha=>?_) ⟨λX=>?_,JB _ _ _⟩;have hr:(Builtin.copy_ #[t,t] ty #[.slice (some ⟨b,0,none⟩) zs.length zs.length,.slice p zs.length c]).run P w=.ok (goInt zs.length) (w.setRow b ((zs.map Z2.enc).flatten++cur.toList.drop ((zs.map Z2.enc).flatten.length)).toArray):=by
  simp only [YaY,XO,List.take_zero,XM] at ax;simp [Builtin.copy_,run_underlying ht.h,Builtin.lenOf,sizeOf,typeInfo,hi,cY,jo,ax]
 generalize w.setRow b ((zs.map Z2.enc).flatten++cur.toList.drop ((zs.map Z2.enc).flatten.length)).toArray=W' at hr ⊢;simp [execOp,resolve,invoke,builtin,ha.ev hx,ha.ev hy,hr];have s7:b<w.heap.size:=(Xi.1 hg).1;refine Row.ofK (cur:=((zs.map Z2.enc).flatten++cur.toList.drop ((zs.map Z2.enc).flatten.length)).toArray) aF (setRow_heap w b cur _ T (0,0) hg) (Xm _) hm ?_ ?_;have:Z2.k β=Z1.k β:=rfl;rw [this];simp only [XZ,Xe,X4,XK,eE,aH];omega;have:Z2.k β=Z1.k β:=rfl;rw [this];simp only [Yav (Nat.le_of_eq eE.symm)];rw [<- eE,Xs]
end Go.Eng
namespace Go.Proofs.YtkojegdemoahlaaGreatDoor
open Go Go.Eng Go.RowKit
theorem Zqb (x y:Int) (w):CC 54 #[.I x,.I y] w λr w'=>r=.I (cmI x y)/\StD w w':=
 (Tryz.cmp_Compare_int x y w).mono (by
   rintro e w' ⟨rfl,rfl⟩;exact .mk ⟨rfl,StD.refl _⟩)
theorem Zp7 (a b:Spn) (w):CC 133 #[aG a,aG b] w λr w'=>r=.I (cmI a.1 b.1)/\StD w w':=by
 refine cW2 10 Tryz.func133 ?_;refine W ?_;refine BXD (StD.refl w) λb2 w1 h2 e2 _ hS=>?_;refine BXD hS λb3 w2 h3 e3 hT hS=>?_;replace e2:=e2.up hT.s;replace e2:Blk w2 b2 123 (Z2.enc a):=e2;replace e3:Blk w2 b3 123 (Z2.enc b):=e3;refine W ?_;refine CPD hS (Zqb _ _ _) λw3 _ hS=>?_;refine RT ?_;exact ⟨rfl,hS⟩
def Z9n (s:Spn):List Spn->List Spn
 | []=>[s]
 | x :: l=>if s.1<x.1 then s :: x :: l else x :: Z9n s l
def Zan (l:List Spn):List Spn:=l.foldr Z9n []
def Jn (acc:List Spn) (s:Spn):List Spn:=
 match acc.getLast? with
 | none=>[s]
 | some t=>if s.1<=t.2+1 then acc.dropLast++[(t.1,max t.2 s.2)] else acc++[s]
def Z26 (l:List Spn):List Spn:=(Zan l).foldl Jn []
structure Zbf (l:List Spn):Prop where
 len:l.length<=1000
 rng:∀ s∈l,0<=s.1/\s.1<=s.2/\s.2<=3652058
theorem Z2r (s:Spn):Jn [] s=[s]:=rfl
theorem Jk (L:List Spn) (u s:Spn):Jn (L++[u]) s=if s.1<=u.2+1 then L++[(u.1,max u.2 s.2)] else L++[u]++[s]:=by
 simp [Jn]
theorem Z3R (s:Spn):∀ l,(Z9n s l).Perm (s :: l)
 | []=>YaA _
 | x :: l => by
   rw [Z9n];split;exact YaA _
   . exact ((Z3R s l).cons x).trans (List.Perm.swap _ _ _)
theorem Z4f (s:Spn):∀ l:List Spn,l.Pairwise (λa b=>a.1<=b.1)->(Z9n s l).Pairwise (λa b=>a.1<=b.1)
 | [],_=>by simp [Z9n]
 | x :: l, h => by
   rw [Z9n];rw [X6] at h;split;rename_i ah;refine X6.2 ⟨λy hy=>?_,X6.2 h⟩;rcases Xd.1 hy with rfl|hy
   omega;have:=h.1 y hy;omega;rename_i ah;refine X6.2 ⟨λy hy=>?_,Z4f s l h.2⟩;rcases Xd.1 ((Z3R s l).mem_iff.1 hy) with rfl|hy
   omega;exact h.1 y hy
theorem Z1y:∀ l,(Zan l).Perm l
 | []=>YaA _
 | x :: l=>(Z3R x _).trans ((Z1y l).cons x)
theorem Z3k:∀ l,(Zan l).Pairwise (λa b=>a.1<=b.1)
 | []=>List.Pairwise.nil
 | x :: l=>Z4f x _ (Z3k l)
theorem Z9o {acc:List Spn} {s t:Spn} (h:s.1=t.1) (hs:s.1<=s.2) (ht:t.1<=t.2):Jn (Jn acc s) t=Jn (Jn acc t) s:=by
 obtain ⟨s1,s2⟩:=s;obtain ⟨t1,t2⟩:=t;dsimp only at h hs ht;subst h;rcases Yap acc with rfl|⟨L,u,rfl⟩
 rw [Z2r,Z2r];have e1:=Jk [] (s1,s2) (s1,t2);have e2:=Jk [] (s1,t2) (s1,s2);rw [XM] at e1 e2;rw [e1,e2,if_pos (by dsimp only;omega),if_pos (by dsimp only;omega)];dsimp only;rw [Int.max_comm];obtain ⟨u1,u2⟩:=u;rw [Yaq,Jk,Jk];dsimp only;by_cases hc:s1<=u2+1;rw [if_pos hc,if_pos hc,Jk,Jk,if_pos (by dsimp only;omega),if_pos (by dsimp only;omega)];dsimp only;congr 3;omega;rw [if_neg hc,if_neg hc,Jk,Jk,if_pos (by dsimp only;omega),if_pos (by dsimp only;omega)];dsimp only;rw [Int.max_comm]
theorem Z61 {x:Spn} (hx:x.1<=x.2):∀ (A:List Spn) (acc:List Spn),(∀ a∈A,a.1=x.1/\a.1<=a.2)->Jn (A.foldl Jn acc) x=A.foldl Jn (Jn acc x)
 | [],_,_=>rfl
 | a :: A, acc, h => by
   rw [XP,XP,Z61 hx A _ (λb hb=>h b (by simp [hb])),Z9o (h a (by simp)).1 (h a (by simp)).2 hx]
theorem Z85:∀ (L1 L2 acc:List Spn),L1.Perm L2->L1.Pairwise (λa b=>a.1<=b.1)->L2.Pairwise (λa b=>a.1<=b.1)->(∀ s∈L1,s.1<=s.2)->L1.foldl Jn acc=L2.foldl Jn acc
 | [],L2,acc,hp,_,_,_=>by rw [List.nil_perm.1 hp]
 | x :: l, L2, acc, hp, h1, h2, hv => by
   obtain ⟨A,B,rfl⟩:=List.append_of_mem (hp.mem_iff.1 (YaB));have hq:l.Perm (A++B):=(hp.trans Ybc).cons_inv;rw [X6] at h1;have gO:=YaL.1 h2;rw [XP,Ya6,XP,Z61 (hv x (by simp)) A acc (λa ha=>?_),<- Ya6];refine Z85 l (A++B) _ hq h1.2 ?_ (λs hs=>hv s (by simp [hs]));exact h2.sublist (List.Sublist.append_left (List.sublist_cons_self _ _) _);have dI:a∈l:=hq.mem_iff.2 (by simp [ha]);have g1:=h1.1 a dI;have g2:=gO.2.2 a ha x (by simp);exact ⟨by omega,hv a (by simp [dI])⟩
theorem Zbg {l L:List Spn} (hp:L.Perm l) (hs:L.Pairwise (λa b=>a.1<=b.1)) (hv:∀ s∈l,s.1<=s.2):Z26 l=L.foldl Jn []:=
 Z85 _ _ _ ((Z1y l).trans hp.symm) (Z3k l) hs (λs h=>hv s ((Z1y l).mem_iff.1 h))
theorem Zbh (acc:List Spn) (s:Spn):(Jn acc s).length<=acc.length+1:=by
 rcases Yap acc with rfl|⟨L,u,rfl⟩
 simp [Jn];rw [Yaq,Jk];split<;>simp
theorem Z3S:∀ (L acc:List Spn),(L.foldl Jn acc).length<=acc.length+L.length
 | [],acc=>by simp
 | x :: L, acc => by
   rw [XP];have h1:=Z3S L (Jn acc x);have h2:=Zbh acc x;rw [Xo];omega
def SpV (s:Spn):Prop:=0<=s.1/\s.1<=s.2/\s.2<=3652058
theorem Zho {acc:List Spn} {s:Spn} (ha:∀ x∈acc,SpV x) (hs:SpV s):∀ x∈Jn acc s,SpV x:=by
 rcases Yap acc with rfl|⟨L,u,rfl⟩
 rw [Z2r];intro x hx;simp only [Xw] at hx;subst hx;exact hs;rw [Yaq] at ha ⊢;rw [Jk];have hu:=ha u (by simp);intro x hx;unfold SpV at *;split at hx;rcases Xg.1 hx with h|h
 exact ha x (by simp [h]);simp only [Xw] at h;subst h;dsimp only;omega;rcases Xg.1 hx with h|h
 exact ha x h;simp only [Xw] at h;subst h;exact hs
theorem Z6U:∀ (L acc:List Spn),(∀ x∈acc,SpV x)->(∀ x∈L,SpV x)->∀ x∈L.foldl Jn acc,SpV x
 | [],acc,h,_=>h
 | y :: L,acc,h,hL=>Z6U L _ (Zho h (hL y (by simp))) (λx hx=>hL x (by simp [hx]))
theorem Ze0 {l:List Spn} (h:Zbf l):Zbf (Z26 l):=by
 have hp:=Z1y l;refine ⟨?_,Z6U _ _ (by simp) (λx hx=>h.rng x (hp.mem_iff.1 hx))⟩;have:=Z3S (Zan l) [];rw [hp.length_eq] at this;have:=h.len;unfold Z26;simp at *;omega
open Go Go.Eng Go.RowKit Go.Shelf Go.Sort
theorem Zqc {α:Type} (f:α->Int):SWO (ltOf λx y:α=>cmI (f x) (f y)):=by
 have h:∀ x y,ltOf (λx y:α=>cmI (f x) (f y)) x y=decide (f x<f y):=by
  intro x y;unfold ltOf cmI;by_cases h1:f x<f y;simp [h1];by_cases h2:f y<f x<;>simp [h1,h2]
 refine ⟨λx=>by rw [h];simp,λx y z h1 h2=>?_,λx y z h1 h2=>?_⟩;rw [h] at *;simp at *;omega;rw [h] at *;simp at *;omega
instance:Inhabited Spn:=⟨(0,0)⟩
theorem Z86 {X:List Nat} {base:Nat} {v:Value} {zs:List Spn} {w} (h:Row X w base 123 v zs) (bw:zs.length<=1000) :
 CC 132 #[v,.func (.func 133) #[] #[]] w λr w'=>r=.tuple #[]/\∃ zs':List Spn,zs'.Perm zs/\(∀ i j (hi:i<zs'.length) (hj:j<zs'.length),i<j->¬ cmI zs'[j].1 zs'[i].1<0)/\Row X w' base 123 v zs'/\Stp (ob v) w w':=
 Zbe (β:=Spn) (by decide) Tryz.sortSpn Tryz.isAgg123 Tryz.sizeOf123 (λx y=>cmI x.1 y.1) (Zqc Prod.fst) 133 (λx y w=>Zp7 x y w) h (by omega)
theorem Zbi (v:Value) (l:List Spn) (w) (hs:SlV [] w v l) (ho:Zbf l):CC 74 #[v] w λr w'=>ZE 123 w w' r (Z26 l):=by
 have am:=ho.len;refine cW1 58 Tryz.func74 ?_;refine W ?_;refine Z0 (Z5D (m:=l.length) rfl rfl (by simp only [maxLen];omega) (Xl (Nat.mul_le_mul_left _ am) (by decide))) rfl ?_;rintro _ w1 ⟨b,cur,rfl,hb,hg,aH,hm,hT⟩;have dw:=hs.up hT;refine W ?_;refine Z0 (ZdZ (base:=w.heap.size) rfl rfl dw hg aH hb hm) rfl ?_;rintro _ w2 ⟨hr,aK⟩;replace hT:=hT.ow aK;refine W ?_;refine CL (Z86 (hr []) am) ?_;rintro _ w3 ⟨rfl,L,hp,br,ij,jG⟩;have hS:Stp [] w w3:=hT.own jG (λc hc=>.inr (by simp [ob] at hc;omega));have qy:L.Pairwise (λa b=>a.1<=b.1):=YaI.2 (λi j hi hj bN=>by
  have:=br i j hi hj bN;unfold cmI at this;by_cases h1:L[j].1<L[i].1;rw [if_pos h1] at this;omega;omega)
 rw [Zbg hp qy (λs h=>(ho.rng s h).2.1)];have hv:∀ s∈L,SpV s:=λs h=>ho.rng s (hp.mem_iff.1 h);have oI:L.length=l.length:=hp.length_eq;have hL:L.length<=1000:=by rw [oI];exact am
 have df:SlV [] w3 (.slice (some ⟨b,0,none⟩) l.length l.length) L:=ij.slv (by simp);rw [<- oI] at *;clear hr ij dw hT aK jG hg aH br hp;generalize s8:Value.slice (some ⟨b,0,none⟩) L.length L.length=vv at *;refine W ?_;refine LP (σ:=Nat×Value) (λq=>[(4,q.2),(16,vv),(17,.I L.length),(18,.I q.1)]) (λq w'=>q.1<=L.length/\ZE 123 w3 w' q.2 ((L.take q.1).foldl Jn [])) (λq=>L.length - q.1) (0,.N) ⟨by omega,ZE.nil⟩ ?_;rintro ⟨k,rv⟩ w4 ⟨hk,hr⟩;dsimp only at hk hr ⊢;by_cases ah:k<L.length;have cH:=df.up hr.2;have hstep:(L.take (k+1)).foldl Jn []=Jn ((L.take k).foldl Jn []) L[k]:=by rw [Xf ah,Ya6];rfl
 have eE:=Z3S (L.take k) [];have qz:=Z6U (L.take k) [] (by simp) (λx hx=>hv x (YaK hx));have qA:=hv _ (Xc ah);rw [Xv,Xr] at eE;generalize (L.take k).foldl Jn []=acc at *;refine QO ?_;refine Z0 Z4 rfl ?_;rintro _ w5 ⟨b6,rfl,eo,e6,hA⟩;refine SA (us:=Z2.enc L[k]) e6 ?_;rintro _ w6 ⟨dg,e6⟩;replace hA:=hA.ow dg;replace hr:=hr.up hA;clear hA dg cH;have dS:SlV [] w6 rv acc:=hr.slv (by simp);refine W ?_;rcases Yap acc with rfl|⟨M,u,rfl⟩
 refine ZDr 14 [] [] [(0,0),(1,0),(2,0),(3,0),(4,1),(5,0),(6,0),(7,0),(8,0),(9,0),(10,1),(11,0),(12,0),(13,0)] (λw1 ae=>?_);replace hr:=hr.up ae;replace e6:=e6.up ae;refine D ?_;refine W ?_;refine AP1 L[k] hr (by simp) λv1 v' w' aV _=>?_
 refine W ?_;exact QL (k+1,v') ⟨ah,by rw [hstep,Z2r];exact aV⟩ (by dsimp only;omega);rw [Yaq] at *;rw [Jk] at hstep;have jH:((M++[u]).length:Int) - 1=(M.length:Nat):=by simp
 have iW:M.length<(M++[u]).length:=by simp
 have ct:(M++[u])[M.length]=u:=by simp
 have hu:=qz u (by simp);unfold SpV at hu qA;have s9:0<=(M++[u])[M.length].2/\(M++[u])[M.length].2<=3652058:=by rw [ct];omega
 have cP:0<((M++[u]).length:Int):=by simp
 refine ZDr 14 [] [] [(0,0),(1,0),(2,0),(3,0),(4,1),(5,0),(6,0),(7,0),(8,0),(9,0),(10,1),(11,0),(12,0),(13,0)] (λw1 ae=>?_);replace hr:=hr.up ae;replace dS:=dS.up ae;replace e6:=e6.up ae;refine QD ?_;rw [ct];refine W ?_;refine VC ?_ ?_<;>intro hc;rw [if_pos hc] at hstep;refine W ?_;refine ZDr 15 [] [14] [(0,0),(1,0),(2,0),(3,0),(4,0),(5,0),(6,0),(7,0),(8,1),(9,0),(10,1),(11,0),(12,0),(13,0),(14,2)] (λw1 ae=>?_);replace hr:=hr.up ae;replace dS:=dS.up ae;replace e6:=e6.up ae;refine QD ?_;rw [ct];refine Jg rfl trivial (Zfu (y':=(u.1,max u.2 L[k].2)) (u:=.I (max u.2 L[k].2)) rfl rfl rfl rfl rfl hr iW (by decide) (by rw [ct];rfl)) rfl ?_;rintro _ w8 ⟨oJ,-⟩;refine D ?_;refine W ?_;rw [show (M++[u]).set M.length (u.1,max u.2 L[k].2)=M++[(u.1,max u.2 L[k].2)] by simp] at oJ;exact QL (k+1,rv) ⟨ah,by rw [hstep];exact oJ⟩ (by dsimp only;omega);rw [if_neg hc] at hstep;refine W ?_;refine AP1 L[k] hr (by omega) λv1 v' w' aV _=>?_
 refine W ?_;exact QL (k+1,v') ⟨ah,by rw [hstep];exact aV⟩ (by dsimp only;omega);obtain rfl:k=L.length:=by omega
 rw [Xs] at hr;refine QO ?_;refine WR ?_;exact .mk (hr.pre hS)
def Z4q (start:Int):List Spn->Int->Int
 | [],d=>d
 | s :: l,d=>if d<s.1 then d else Z4q start l (d+max 0 (s.2 - max s.1 (start+1)+1))
def Z54 (start due:Int) (l:List Spn):Int×Int:=if due<=start then (due,0) else if 3652058<Z4q start (Z26 l) due then (0,31) else (Z4q start (Z26 l) due,0)
theorem Zbj (start:Int) (L:List Spn) (d:Int) (k:Nat) (h:k<L.length):Z4q start (L.drop k) d=if d<L[k].1 then d else Z4q start (L.drop (k+1)) (d+max 0 (L[k].2 - max L[k].1 (start+1)+1)):=by
 rw [X5 h,Z4q]
theorem Z55 (start due:Int) (v:Value) (l:List Spn) (w) (hs:SlV [] w v l) (ho:Zbf l) (h1:-1000000000<=start/\start<=1000000000) (h2:-1000000000<=due/\due<=1000000000):CC 36 #[.I start,.I due,v] w λr w'=>r=.tuple #[.I (Z54 start due l).1,.I (Z54 start due l).2]/\Stp [] w w':=by
 have hm:=Ze0 ho;unfold Z54;refine cW3 41 Tryz.func36 ?_;by_cases hd:due<=start;rw [if_pos hd];refine RT ?_;exact ⟨rfl,Stp.refl _ _⟩;rw [if_neg hd];refine QO ?_;refine CG (Zbi v l w hs ho) ?_;intro rv w1 hr;have hS:=hr.2;have dS:SlV [] w1 rv (Z26 l):=hr.slv (by simp);clear hr;generalize Z26 l=L at *;refine W ?_;refine Z2h (σ:=Int) (λd=>[(0,.I start),(1,.I d)]) (λd w'=>Stp [] w w'/\d=Z4q start L due/\-1000000000<=d/\d<=9000000000000) ?_ ?_;refine LP (σ:=Nat×Int) (λq=>[(0,.I start),(1,.I q.2),(15,rv),(16,.I L.length),(17,.I q.1)]) (λq w'=>q.1<=L.length/\Stp [] w1 w'/\Z4q start (L.drop q.1) q.2=Z4q start L due/\-1000000000<=q.2/\q.2<=1000000000+q.1 * 4000000000) (λq=>L.length - q.1) (0,due) ⟨by omega,Stp.refl _ _,rfl,h2.1,by dsimp only;omega⟩ ?_;rintro ⟨k,d⟩ w2 ⟨hk,hT,he,g1,g2⟩;dsimp only at hk he g1 g2 ⊢;have am:=hm.len;have mi:=dS.up hT;by_cases ah:k<L.length;obtain ⟨r1,r2,r3⟩:=hm.rng _ (Xc ah);have hstep:=Zbj start L d k ah;rw [he] at hstep;refine QO ?_;refine Z0 Z4 rfl ?_;rintro _ w3 ⟨b9,rfl,gG,e9,aw⟩;refine SA (us:=Z2.enc L[k]) e9 ?_;rintro _ w4 ⟨ay,e9⟩;replace hT:=hT.trans (aw.ow ay);clear aw ay mi;simp only [Z2.enc] at e9;by_cases hb:d<L[k].1;rw [if_pos hb] at hstep;refine QO ?_;exact QT d ⟨hS.trans hT,hstep.symm,g1,by omega⟩;rw [if_neg hb] at hstep;refine QO ?_;exact J3 (k+1,d+max 0 (L[k].2 - max L[k].1 (start+1)+1)) ⟨rfl,rfl,rfl,rfl,rfl,trivial⟩ ⟨ah,hT,hstep.symm,by dsimp only;omega,by dsimp only;omega⟩ (by dsimp only;omega);refine QO ?_;rw [Yax (by omega)] at he;exact QT d ⟨hS.trans hT,he,g1,by omega⟩;rintro d w2 ⟨ai,rfl,g1,g2⟩;generalize Z4q start L due=d at *;by_cases hc:3652058<d;rw [if_pos hc];refine RT ?_;exact ⟨rfl,ai⟩;rw [if_neg hc];refine RT ?_;exact ⟨rfl,ai⟩
def ZiA (start due:Int) (l:List Spn):Int:=if (Z54 start due l).2≠0 then 3652058 else (Z54 start due l).1
def Z3T (start e:Int) (s:Spn):Bool:=decide (start<s.2/\s.1<=e)
def Z3l (start due:Int) (l:List Spn):List Spn:=if due<=start then [] else l.filter (Z3T start (ZiA start due l))
theorem Z87 {α:Type} (p:α->Bool) (l:List α) (k:Nat) (h:k<l.length):(l.take (k+1)).filter p=(l.take k).filter p++if p l[k]=true then [l[k]] else []:=by
 rw [Xf h,XT];congr 1;cases hc:p l[k]<;>simp [hc]
theorem Ze1 (start due:Int) (v:Value) (l:List Spn) (w) (hs:SlV [] w v l) (ho:Zbf l) (h1:-1000000000<=start/\start<=1000000000) (h2:-1000000000<=due/\due<=1000000000):CC 40 #[.I start,.I due,v] w λr w'=>ZE 123 w w' r (Z3l start due l):=by
 have am:=ho.len;unfold Z3l;refine cW3 46 Tryz.func40 ?_;by_cases hd:due<=start;rw [if_pos hd];refine QO ?_;refine WR ?_;exact .mk ZE.nil;rw [if_neg hd];refine QO ?_;refine CP (Stp.refl [] w) (Z55 start due v l w hs ho h1 h2) λw1 _ hS=>?_;refine W ?_;unfold ZiA;generalize Z54 start due l=p;obtain ⟨d,c⟩:=p;dsimp only;refine Z0v (σ:=Unit) (λ_=>[(0,.I start),(2,v),(7,.I (if c≠0 then 3652058 else d))]) (λ_ w'=>Stp [] w w') ?_ ?_;by_cases hc:c=0;rw [if_neg (by simpa using hc)];refine QO ?_;exact QT () hS;rw [if_pos hc];refine QO ?_;exact QT () hS;rintro _ w2 hS;generalize (if c≠0 then (3652058:Int) else d)=E;have bu:=hs.up hS;refine W ?_;refine LP (σ:=Nat×Value) (λq=>[(0,.I start),(7,.I E),(9,q.2),(24,v),(25,.I l.length),(26,.I q.1)]) (λq w'=>q.1<=l.length/\ZE 123 w w' q.2 ((l.take q.1).filter (Z3T start E))) (λq=>l.length - q.1) (0,.N) ⟨by omega,ZE.pre hS ZE.nil⟩ ?_;rintro ⟨k,rv⟩ w3 ⟨hk,hr⟩;dsimp only at hk hr ⊢;have dP:=hs.up hr.2;by_cases ah:k<l.length
 . have hstep:=Z87 (Z3T start E) l k ah
   refine QO ?_;refine Z0 Z4 rfl ?_;rintro _ w4 ⟨b11,rfl,mj,e11,aw⟩;refine SA (us:=Z2.enc l[k]) e11 ?_;rintro _ w5 ⟨ay,e11⟩;replace hr:=hr.up (aw.ow ay);clear aw ay dP;repeat'(first|refine W1 ?_|omega|refine VG ?_ ?_<;>intro hg|refine VC ?_ ?_<;>intro hc)
   all_goals first
    | exact QL (k + 1, rv) ⟨ah, by
       rw [hstep,if_neg (show ¬ Z3T start E l[k]=true by simp only [Z3T,decide_eq_true_eq];omega),XJ];exact hr⟩ (by dsimp only;omega)
    | refine AP1 l[k] hr (Xl (XR _ _) (by simp; omega)) λv1 v' w' aV _ => ?_
      refine QO ?_;exact QL (k+1,v') ⟨ah,by
       rw [hstep,if_pos (show Z3T start E l[k]=true from decide_eq_true ⟨by omega,by omega⟩)];exact aV⟩ (by dsimp only;omega)
 obtain rfl:k=l.length:=by omega
 rw [Xs] at hr;refine QO ?_;refine WR ?_;exact .mk hr
def ZlR (l:List Spn):Int:=if 64<l.length then 2 else if l.any (λs=>decide (s.1<0\/s.2<s.1\/3652058<s.2)) then 5 else 0
theorem Z6V (v:Value) (l:List Spn) (w) (hs:SlV [] w v l):CC 31 #[v] w λr w'=>r=.I (ZlR l)/\Stp [] w w':=by
 have bg:=hs.max;unfold ZlR;refine cW1 33 Tryz.func31 ?_;by_cases oK:64<l.length;rw [if_pos oK];refine RT ?_;exact ⟨rfl,Stp.refl _ _⟩;rw [if_neg oK];refine QO ?_;refine LP (σ:=Nat) (λk=>[(0,v),(9,.I l.length),(10,.I k)]) (λk w'=>k<=l.length/\Stp [] w w'/\∀ j (h:j<l.length),j<k->¬ (l[j].1<0\/l[j].2<l[j].1\/3652058<l[j].2)) (λk=>l.length - k) 0 ⟨by omega,Stp.refl _ _,by omega⟩ ?_;rintro k w2 ⟨hk,hS,hz⟩;have bu:=hs.up hS;by_cases ah:k<l.length
 . refine QO ?_
   refine Z0 Z4 rfl ?_;rintro _ w4 ⟨b4,rfl,ju,e4,aw⟩;refine SA (us:=Z2.enc l[k]) e4 ?_;rintro _ w5 ⟨ay,e4⟩;replace hS:=hS.trans (aw.ow ay);clear aw ay;repeat'(first|refine W1 ?_|omega|refine VG ?_ ?_<;>intro hg|refine VC ?_ ?_<;>intro hc)
   all_goals first
    | exact QL (k + 1) ⟨ah, hS, λj h hj => by
       by_cases e:j=k;subst e;omega;exact hz j h (by omega)⟩ (by omega)
    | refine WR ?_
      rw [if_pos (YaV.2 ⟨l[k],Xc ah,by simp only [decide_eq_true_eq];omega⟩)];exact .mk ⟨rfl,hS⟩
 refine QO ?_;refine WR ?_;rw [if_neg];exact .mk ⟨rfl,hS⟩;intro h;obtain ⟨s,h1,h2⟩:=YaV.1 h;obtain ⟨j,hj,rfl⟩:=Xq h1;exact hz j hj (by omega) (by simpa using h2)
end Go.Proofs.YtkojegdemoahlaaGreatDoor
namespace Go.Eng
open Go Go.RowKit Go.Proofs
abbrev FR (l:Nat):Fence:=Fence.wide.inRound l
section
variable {P:Program} {n m l:Nat} {Q Q':Exit->Act->World->Prop} {e:Env} {w:World} {ops:Array Oper}
theorem Zao {o:Oper} {a:Act} {K K':Act->World->Prop} (dZ:∀ c,o.op≠.defer c) (hQ:∀ x a w,Q x a w->Q' x a w) (hK:∀ a w,K a w->K' a w) (h:o.wp P a w K Q):o.wpIn (FR l) m P a w K' Q':=by
 unfold Oper.wp at h;refine ⟨λ_ _=>trivial,?_⟩;rw [Oper.semAt_eq _ _ _ dZ];generalize (execOp a.eval o).run P w=r at *;cases r with
 | ok x w'=>
   cases x<;>simp only [Oper.upon] at h<;>simp only [Oper.uponIn]
   case value v=>exact hK _ _ h
   case skip=>exact hK _ _ h
   case defer d=>exact hK _ _ h
   case enter f args=>
    refine ⟨(λh=>by cases h),CallsIn.inRound l (callsIn_wide.2 (Calls.mono h λen w'' he=>?_))⟩;cases en with
    | returned v=>exact hK _ _ he
    | panicked c=>exact hQ _ _ _ he
    | outgrown=>
      obtain ⟨a',w3,h3⟩:=he;exact ⟨a',w3,hQ _ _ _ h3⟩
   case row row args=>
    exact ⟨(λh=>by cases h),λc cs _=>let ⟨v,w'',r,s⟩:=h c cs;⟨v,w'',hK _ _ r,stepsIn_wide.2 s⟩⟩
 | halt x w'=>
   cases x<;>simp only [Oper.upon] at h<;>simp only [Oper.uponIn];exact hQ _ _ _ h
theorem Z6W (dZ:∀ (i:Nat) (o:Oper),ops[i]?=some o->∀ c,o.op≠.defer c) (hQ:∀ a w,¬ Q .outgrown a w):∀ (L:List Nat) (a:Act) (w),wpOps P ops Q L a w->wpOpsIn (FR l) m P ops Q L a w
 | [],a,w,h=>h
 | i :: rest, a, w, h => by
   unfold wpOps at h;unfold wpOpsIn;cases ho:ops[i]? with
   | none=>simp only [ho] at h ⊢;exact Z6W dZ hQ rest a w h
   | some o=>
     simp only [ho] at h ⊢;split at h;rename_i hw;rw [if_pos hw];rcases h with h|⟨_,a',w',h⟩
     exact Zao (dZ i o ho) (λ_ _ _ h=>h) (λa w h=>Z6W dZ hQ rest a w h) h;exact absurd h (hQ a' w');rename_i hw;rw [if_neg hw];exact ⟨λ_ _=>trivial,Z6W dZ hQ rest _ w h⟩
def Ze2 (L:List Oper):Bool:=L.all λo=>match o.op with|.defer _=>false|_=>true
theorem Z56 {L:List Oper} (h:Ze2 L=true):∀ (i:Nat) (o:Oper),L.toArray[i]?=some o->∀ c,o.op≠.defer c:=by
 intro i o ho c hc;have hm:o∈L:=by
  have:L[i]?=some o:=by simpa using ho
  exact List.mem_of_getElem? this
 have:=XS.1 h o hm;rw [hc] at this;cases this
theorem Z6X {md:Region.Mode} {S:List Nat} {Lt:Nat->Bool} {Z:Act->World->Prop} (dZ:∀ (i:Nat) (o:Oper),ops[i]?=some o->∀ c,o.op≠.defer c) (hZ:∀ a w,Z a w->Q .normal a w):∀ (fuel:Nat) (listed:Array Bool) (a:Act) (w),
 ZiP P md ops S Lt Z fuel listed a w->wpAnyIn (FR l) m P md ops Q fuel listed a w
 | 0,_,_,_,h=>⟨h.1,hZ _ _ h.2⟩
 | fuel + 1, listed, a, w, h => ⟨λh0 => hZ _ _ (h.1 h0), λi hi => by
   have h1:=h.2 i hi;unfold wpOp at h1;unfold wpOpIn;cases ho:ops[i]? with
   | none=>simp only [ho] at h1 ⊢;exact Z6X dZ hZ fuel _ a w h1.2
   | some o=>
     simp only [ho] at h1 ⊢;split at h1;rename_i hw;rw [if_pos hw];rcases h1 with h1|⟨_,_,_,hf⟩
     exact Zao (dZ i o ho) (λ_ _ _ h=>h.elim) (λa w h=>Z6X dZ hZ fuel _ a w h.2) h1;exact hf.elim;rename_i hw;rw [if_neg hw];exact ⟨λ_ _=>trivial,Z6X dZ hZ fuel _ _ w h1.2⟩⟩
structure WCR (l m:Nat) (P:Program) (n:Nat) (c:Code) (Q:Exit->Act->World->Prop) (e:Env) (w:World):Prop where
 h:∀ a,Has n e a->c.wpIn (FR l) m P Q a w
variable {x y:Code}
theorem J8 (h:WCR l m P n x (Exit.then (λa w=>y.wpIn (FR l) m P Q a w) Q) e w):WCR l m P n (x.seq y) Q e w:=⟨λa ha=>wpIn_seq (h.h a ha)⟩
theorem ZS (h:WCR l m P n y Q e w):WQ n (Exit.then (λa w=>y.wpIn (FR l) m P Q a w) Q) .normal e w:=⟨λa ha=>h.h a ha⟩
theorem ZT (h:WQ n Q .normal e w):WCR l m P n .skip Q e w:=⟨λa ha=>wpIn_skip (h.h a ha)⟩
theorem ZU {i:Nat} (h:WQ n Q (.exit i) e w):WCR l m P n (.exit i) Q e w:=⟨λa ha=>wpIn_exit (h.h a ha)⟩
theorem ZF {i:Nat} {c:Code} (h:WCR l m P n c (Exit.inBlock i Q) e w):WCR l m P n (.block i c) Q e w:=⟨λa ha=>wpIn_block (h.h a ha)⟩
theorem ZM {c:Operand} (hc:ev e c=some (.B true)) (h:WCR l m P n x Q e w):WCR l m P n (.cond c x y) Q e w:=⟨λa ha=>wpIn_cond_true (ha.ev hc) (h.h a ha)⟩
theorem ZB {c:Operand} (hc:ev e c=some (.B false)) (h:WCR l m P n y Q e w):WCR l m P n (.cond c x y) Q e w:=⟨λa ha=>wpIn_cond_false (ha.ev hc) (h.h a ha)⟩
theorem Z27 {c:Operand} {p:Prop} [Decidable p] (hc:ev e c=some (.B (decide p))) (ht:p->WCR l m P n x Q e w) (hf:¬ p->WCR l m P n y Q e w):WCR l m P n (.cond c x y) Q e w:=by
 by_cases h:p;rw [decide_eq_true h] at hc;exact ZM hc (ht h);rw [decide_eq_false h] at hc;exact ZB hc (hf h)
theorem Zx {id:Nat} {L:List Oper} (hd:Ze2 L=true) (hQ:∀ a w,¬ Q .outgrown a w) (h:WL P n L.toArray Q L e w):WCR l m P n (.region id L.toArray false) Q e w:=
 ⟨λa ha => wpIn_region (by
   have h1:=h.h a ha;rw [List.range_eq_range',<- XK];exact Z6W (Z56 hd) hQ _ _ _ (by rw [wpOps_eq_wpList L.toArray.toList 0 (by simp)];simpa using h1))⟩
theorem Z62 {id:Nat} {L:List Oper} (k:Nat) (S:List Nat) (Lt:List Nat) (ord:List (Nat×Nat)) (dl:L.length=k) (hm:P.follows .mixedOrders=true) (hs:Region.noSelect L.toArray=true) (hl:Nat.beq (wt ord) L.length=true)
 (hB:ZW L.toArray Lt ord (Array.replicate k false)=true) (hd:Ze2 L=true)
 (h:∀ w',Stp [] w w'->WD P n L.toArray S Lt Q ord e w'):WCR l m P n (.region id L.toArray true) Q e w:=by
 subst dl;refine ⟨λa ha=>wpIn_region_any hm ?_⟩;have h1:=(h { w with drawn:=w.drawn+1 } (Stp.drew [] w)).h _ hs hB a ha;have h2:=Z6X (l:=l) (m:=m) (Q:=Q) (Z56 hd) (λa w hz=>hz) _ _ _ _ h1;rw [Xk hl] at h2;simpa using h2
theorem Ze3 {σ:Type} (env:σ->Env) (I:σ->World->Prop)
 (h:WCR l m P n x (Exit.then (λa w=>∃ s,Has n (env s) a/\I s w) Q) e w) (k:∀ s w,I s w->WCR l m P n y Q (env s) w):WCR l m P n x (Exit.then (λa w=>y.wpIn (FR l) m P Q a w) Q) e w:=
 ⟨λa ha => wpIn_mono (h.h a ha) (λex a w hq => by
   cases ex with
   | normal=>obtain ⟨s,h1,h2⟩:=hq;exact (k s w h2).h a h1
   | _=>exact hq)⟩
end
theorem Z0N (W:World) (b:Nat) (o:Obj):Stp [b] W (W.putObj b o):=⟨rfl,rfl,rfl,by simp,λk hk hn=>World.putObj_heap_other (by simpa using hn)⟩
def Zap {α:Type} (P:Program) (f:Nat) (cap:Array Value) (encs:α->Value) (L:List α) (l:Nat) (F:List Nat) (W:World):Prop:=
 ∀ (J : List α -> List Nat -> World -> Prop), (∀ pre F W, J pre F W -> ∀ b ∈ F, b < W.heap.size) -> (∀ pre F W W', J pre F W -> Stp [] W W' -> J pre F W')->
   (∀ pre x F W,J pre F W->pre++[x] <+: L->YieldAt Fence.wide 4 P l #[encs x] W λen W'=>en=.returned (.B true)/\∃ F',J (pre++[x]) F' W'/\Stp F W W'/\∀ b∈F',b∈F\/W.heap.size<=b)->
   J [] F W->Calls P f (#[.func (.yield l) #[] #[]]++cap) W (Ret λ_ W'=>∃ F',J L F' W'/\Stp F W W'/\∀ b∈F',b∈F\/W.heap.size<=b)
section
variable {P:Program} {n:Nat} {Q:Exit->Act->World->Prop} {e:Env} {w:World}
theorem Ze4 {α:Type} {f p:Nat} {fn:Func} {cap:Array Value} {g:Operand} {assign body:Code} [hf:Fun P f fn] {E:α->Nat->Env} {T:Nat} {cs:α->List Value} (encs:α->Value) (hg:ev e g=some (.func (.func f) #[] cap)) (hp:Nat.blt p n=true)
 (L:List α) (I:List α->List Nat->World->Prop) (F0:List Nat) (ah:∀ pre F W,I pre F W->∀ b∈F,b<W.heap.size)
 (hI:∀ pre F W W' S,I pre F W->Stp S W W'->(∀ b∈S,w.heap.size<=b/\b∉F)->I pre F W') (h0:I [] F0 w)
 (kO:∀ (l:Nat) (W:World),Stp [] w W->w.heap.size<=l->l<W.heap.size->Zap P f cap encs L l (l :: F0) W)
 (hassign:∀ (l:Nat) (x:α) (W:World) (Z:Exit->Act->World->Prop),(∀ a w,¬ Z .outgrown a w)->(∀ b W1,W.heap.size<=b->Blk W1 b T (cs x)->Stp [] W W1->WQ n Z .normal (E x b) W1)->WCR l 4 P n assign Z ((p,encs x) :: e) W)
 (hbody : ∀ (l : Nat) (pre : List α) (x : α) (b : Nat) (F : List Nat) (W : World) (Z : Exit -> Act -> World -> Prop), I pre F W -> pre ++ [x] <+: L -> Blk W b T (cs x) -> b ∉ F -> w.heap.size <= b -> (∀ a w, ¬ Z .outgrown a w)->
   (∀ a F' W',I (pre++[x]) F' W'->Stp F W W'->(∀ b∈F',b∈F\/W.heap.size<=b)->Z .normal a W')->WCR l 4 P n body Z (E x b) W)
 (hdone:∀ (D:Nat) (F:List Nat) (W:World),I L F W->w.heap.size<=D->D∉F->W.heap[D]?=some (.deferred (some []))->(∀ b∈F,b∈F0\/w.heap.size<=b)->Stp F0 w W->WQD [{ target:=.collected D,args:=#[] }] n Q .normal e W) :
 WC P n (.rangeFunc g #[p] assign body) Q e w:=by
 refine ⟨λa ha=>(wpIn_wide (n:=5)).1 (wpIn_rangeFunc ?_)⟩;intro fnid _;obtain ⟨rec,bi⟩:∃ rec:LoopState->Option Code->Loop,rec=λst pe=>{ state:=st,pending:=pe,fn:=fnid,tmps:=a.tmps,params:=#[p],assign,body,defers:=w.heap.size }:=⟨_,rfl⟩
 obtain ⟨W1,dT⟩:∃ W1,(w.alloc (.deferred (some []))).alloc (.loop (rec .ready none))=W1:=⟨_,rfl⟩
 have ik:W1.heap[w.heap.size+1]?=some (.loop (rec .ready none)):=by
  rw [<- dT];have:=World.alloc_heap_new (w.alloc (.deferred (some []))) (.loop (rec .ready none));rwa [World.size_alloc] at this
 have oL:Stp [] w (w.alloc (.deferred (some []))):=Stp.alloc [] _ _;have jI:Stp [] (w.alloc (.deferred (some []))) W1:=by rw [<- dT];exact Stp.alloc [] _ _
 have ml:W1.heap[w.heap.size]?=some (.deferred (some [])):=by
  rw [jI.block w.heap.size (by simp) (by simp)];exact World.alloc_heap_new w _
 have ae:Stp [] w W1:=oL.trans jI;have kK:=ah _ _ _ h0
 refine ⟨w.heap.size+1,[{ target:=.collected w.heap.size,args:=#[] }],W1,{ target:=.fn (.func f) cap,args:=#[.func (.yield (w.heap.size+1)) #[] #[]] },W1,f,
  #[.func (.yield (w.heap.size+1)) #[] #[]]++cap,W1,?_,?_,?_,?_,λh=>(by cases h),?_⟩
 rw [<- dT,bi];exact run_enterLoop_outer _ _ _ _ _;simp only [resolve,ha.ev hg];simp [go_sem];intro f' jJ;trivial;have eg:=hf.enters;simp [invoke,go_sem];exact eg _ _;generalize hl:w.heap.size+1=l at *
 have cQ:=kO l W1 ae (by omega) (Xi.1 ik).1 (λpre F W=>∃ G,F=l :: G/\I pre G W/\W.heap[l]?=some (.loop (rec .ready none))/\W.heap[w.heap.size]?=some (.deferred (some []))/\l∉G/\w.heap.size∉G)
  (by
    rintro pre F W ⟨G,rfl,hi,h1,h2,h3,h4⟩ b hb;rcases Xd.1 hb with rfl|hb
    exact (Xi.1 h1).1;exact ah _ _ _ hi b hb)
  (by
    rintro pre F W W' ⟨G,rfl,hi,h1,h2,h3,h4⟩ hS;exact ⟨G,rfl,hI _ _ _ _ _ hi hS (by simp),(hS.block l (Xi.1 h1).1 (by simp)).trans h1,(hS.block _ (Xi.1 h2).1 (by simp)).trans h2,h3,h4⟩)
  (by
    rintro pre x F W ⟨G,rfl,hi,h1,h2,h3,h4⟩ bB;have jK:l<W.heap.size:=(Xi.1 h1).1;have mm:w.heap.size<W.heap.size:=(Xi.1 h2).1;have hG:=ah _ _ _ hi;have hy:=run_yield (P:=P) (args:=#[encs x]) h1 (by rw [bi];rfl);rw [bi] at hy;refine ⟨fnid,_,assign,body,hy,roundIn_of_wpIn trivial ((hassign l x W _ (λ_ _ h=>h) ?_).h _ ?_)⟩;intro b Wa hb hk jL;have qB:=(jL.block l jK (by simp)).trans h1;have qC:=(jL.block _ mm (by simp)).trans h2;have tc:=jL.size;refine ⟨λa1 qD=>⟨_,run_beginRound qB (by rw [bi]),?_⟩⟩;have iX:=Z0N Wa l (.loop { rec .ready none with state:=.busy });have qE:=hI _ _ _ _ _ hi jL (by simp);have iW:=hI _ _ _ _ _ qE iX (by intro b hb;simp at hb;subst hb;exact ⟨by omega,h3⟩);have qF:(Wa.putObj l (.loop { rec .ready none with state:=.busy })).heap[l]?=some (.loop { rec .ready none with state:=.busy }):=World.putObj_heap_same (by omega);have qG:=(iX.block w.heap.size (by omega) (by simp;omega)).trans qC;have qH:=hk.ext iX (by simp;omega);have td:=iX.size;refine (hbody l pre x b G _ _ iW bB qH (λh=>by have:=hG b h;omega) (by omega) (λ_ _ h=>h) ?_).h a1 qD;intro a2 G' W' bV bp iY;have qI:=(bp.block l (by omega) h3).trans qF;have qJ:=(bp.block w.heap.size (by omega) h4).trans qG;have nX:=bp.size;have qK:=run_endRound (P:=P) none qI;have iU:=Z0N W' l (.loop (rec .ready none));have jM:l∉G':=λh=>by
     rcases iY l h with h|h
     exact h3 h;omega
    refine ⟨_,_,qK,rfl,l :: G',⟨G',rfl,?_,?_,?_,jM,λh=>?_⟩,?_,λb hb=>?_⟩;have:=hI _ _ _ _ _ bV iU (by intro b hb;simp at hb;subst hb;exact ⟨by omega,jM⟩);rw [bi] at this ⊢;exact this;rw [bi];exact World.putObj_heap_same (by omega);rw [bi];exact (World.putObj_heap_other (by omega)).trans qJ;rcases iY _ h with h|h
    exact h4 h;omega;rw [bi] at iU bp ⊢;exact ((((jL.mono (S':=l :: G) (by simp)).trans ((by rw [bi] at iX;exact iX:Stp [l] _ _).mn)).trans (bp.mono (λb hb=>by simp [hb]))).trans iU.mn);rcases Xd.1 hb with rfl|hb
    exact .inl (by simp);rcases iY b hb with h|h
    exact .inl (by simp [h]);exact .inr (by omega);have:=ha.put (v:=encs x) hp;have e2:(a.put (some p) (encs x))={ tmps:=((#[p]:Array Nat).zip #[encs x]).foldl (λt (p,v)=>t.setIfInBounds p v) a.tmps,defers:=[] }:=by
     simp [Act.put,ha.defers]
    rw [e2] at this;exact this)
  ⟨F0,rfl,hI _ _ _ _ _ h0 ae (by simp),ik,ml,λh=>by have:=kK l h;omega,λh=>by have:=kK _ h;omega⟩
 refine (callsIn_wide (n:=4)).2 (cQ.mono ?_);rintro _ W2 ⟨v,rfl,F',⟨G,rfl,hi,h1,h2,h3,h4⟩,ai,qL⟩;have oG:=ai.size;have gm:=ae.size;have jK:l<W2.heap.size:=(Xi.1 h1).1;refine ⟨none,_,by have:=run_endLoop (P:=P) h1 (by rw [bi];simp);rw [bi] at this;exact this,?_⟩;have hp:=Z0N W2 l (.loop { rec .ready none with state:=.exhausted });rw [bi] at hp;have hd:=hdone w.heap.size G _ (hI _ _ _ _ _ hi hp (by intro b hb;simp at hb;subst hb;exact ⟨by omega,h3⟩)) (Xm _) h4 ((hp.block w.heap.size (by omega) (by simp;omega)).trans h2) (λb hb=>by
  rcases qL b (by simp [hb]) with h|h
  rcases Xd.1 h with rfl|h
  exact .inr (by omega);exact .inl h;exact .inr (by omega))
  ((((ae.mono (S' := F0) (by simp)).own ai (λb hb => by
    rcases Xd.1 hb with rfl|hb
    exact .inr (by omega);exact .inl hb))).own hp (λb hb=>by simp at hb;subst hb;exact .inr (by omega)))
 have:=hd.h a ha;unfold JW at this;rw [ha.defers,XM] at this;rw [ha.defers,XJ];exact this
end
section
variable {P:Program} {ops:Array Oper} {md:Region.Mode} {S:List Nat} {Lt:Nat->Bool} {kk:Nat}
theorem Z9p {o:Oper} {a:Act} {w} {K K':Act->World->Prop} {Q:Exit->Act->World->Prop} (hK:∀ a w,K a w->K' a w) (h:o.wpIn Fence.wide kk P a w K (λ_ _ _=>False)):o.wpIn Fence.wide kk P a w K' Q:=by
 unfold Oper.wpIn at *;refine ⟨h.1,?_⟩;replace h:=h.2;generalize (o.semAt Fence.wide.round a.eval).run P w=r at *;cases r with
 | ok x w'=>
   cases x<;>simp only [Oper.uponIn] at h ⊢
   case value v=>exact hK _ _ h
   case skip=>exact hK _ _ h
   case defer d=>exact hK _ _ h
   case enter f args=>
    exact ⟨h.1,CallsIn.mono h.2 λe w'' he=>by
     cases e with
     | returned v=>exact hK _ _ he
     | panicked c=>exact he.elim
     | outgrown=>obtain ⟨_,_,hf⟩:=he;exact hf.elim⟩
   case row row args=>exact ⟨h.1,RowsIn.mono h.2 λu w'' he=>hK _ _ he⟩
   case round l f tmps assign body=>
    exact ⟨h.1,RoundIn.mono h.2 λe w'' he=>by
     cases e with
     | returned v=>exact hK _ _ he
     | panicked c=>exact he.elim
     | outgrown=>obtain ⟨_,_,hf⟩:=he;exact hf.elim⟩
 | halt x w'=>cases x<;>simp only [Oper.uponIn] at h ⊢
def Z1z (kk:Nat) (P:Program) (md:Region.Mode) (ops:Array Oper) (S:List Nat) (Lt:Nat->Bool) (Z:Act->World->Prop):Nat->Array Bool->Act->World->Prop
 | 0,listed,a,w=>Region.ready md ops listed=[]/\Z a w
 | fuel + 1, listed, a, w=>
   (Region.ready md ops listed=[]->Z a w)/\
   ∀ i∈Region.ready md ops listed,wpOpIn Fence.wide kk P ops (λ_ _ _=>False) i (λa' w'=>(Stp S w w'\/Lt i=true)/\Z1z kk P md ops S Lt Z fuel (listed.setIfInBounds i true) a' w') a w
theorem Z0z {Z:Act->World->Prop} {Q:Exit->Act->World->Prop} (hZ:∀ a w,Z a w->Q .normal a w):∀ (fuel:Nat) (listed:Array Bool) (a:Act) (w),
 Z1z kk P md ops S Lt Z fuel listed a w->wpAnyIn Fence.wide kk P md ops Q fuel listed a w
 | 0,_,_,_,h=>⟨h.1,hZ _ _ h.2⟩
 | fuel + 1, listed, a, w, h => ⟨λh0 => hZ _ _ (h.1 h0), λi hi => by
   have h1:=h.2 i hi;unfold wpOpIn at h1 ⊢;cases ho:ops[i]? with
   | none=>simp only [ho] at h1 ⊢;exact Z0z hZ fuel _ a w h1.2
   | some o=>
     simp only [ho] at h1 ⊢;split at h1;rename_i hw;rw [if_pos hw];exact Z9p (λa w h=>Z0z hZ fuel _ a w h.2) h1;rename_i hw;rw [if_neg hw];exact ⟨λ_ _=>trivial,Z0z hZ fuel _ _ w h1.2.2⟩⟩
theorem Zaq {Z:Act->World->Prop} {R:World->World->Prop} (eB:∀ w,R w w) (lf:∀ a b c,R a b->R b c->R a c) {i:Nat} {oi:Oper} {v:Value} (hi:ops[i]?=some oi)
 (lg:∀ j oj,ops[j]?=some oj->(∀ e∈oj.after,Region.binds md e=true->e.on≠i)->j≠i->∀ w w',(Stp S w w'\/Lt j=true)->R w w')
 (eO:∀ (j:Nat) (o:Oper) cs b,ops[j]?=some o->o.op≠.select cs b) :
 ∀ (fuel : Nat) (listed : Array Bool) (a : Act) (w),
   (∀ j oj,ops[j]?=some oj->j≠i->listed.getD j true=false->(∀ e∈oj.after,Region.binds md e=true->e.on≠i)->oi.apart ops oj=true)->
   (Stp S w w\/Lt i=true->True)->i∈Region.ready md ops listed->YE P ops R oi v a w->
   Z1z kk P md ops S Lt Z fuel (listed.setIfInBounds i true) (a.put oi.dst v) w->Z1z kk P md ops S Lt Z (fuel+1) listed a w:=by
 have now:∀ (fuel:Nat) (listed:Array Bool) (a:Act) (w:World),YE P ops R oi v a w->Z1z kk P md ops S Lt Z fuel (listed.setIfInBounds i true) (a.put oi.dst v) w->
  wpOpIn Fence.wide kk P ops (λ_ _ _=>False) i (λa' w'=>(Stp S w w'\/Lt i=true)/\Z1z kk P md ops S Lt Z fuel (listed.setIfInBounds i true) a' w') a w:=by
  intro fuel listed a w hy H;unfold wpOpIn;simp only [hi];rcases hy with ⟨hw,hv⟩|⟨hw,rfl⟩
  simp only [hw,if_true];refine ⟨λ_ _=>trivial,?_⟩;rw [show Fence.wide.round=none from rfl,Oper.semAt_none,hv w (eB w)];exact ⟨.inl (Stp.refl _ _),H⟩;simp only [hw,Ybk,if_false];exact ⟨λ_ _=>trivial,.inl (Stp.refl _ _),H⟩
 intro fuel
 induction fuel with
 | zero=>
   intro listed a w _ _ hr hy H;refine ⟨λh=>(by rw [h] at hr;cases hr),λj hj=>?_⟩;by_cases ck:j=i;subst ck;exact now _ _ _ _ hy H;have:=ready_mono hj ck;rw [H.1] at this;cases this
 | succ fuel ih=>
   intro listed a w dj hx hr hy H;refine ⟨λh=>(by rw [h] at hr;cases hr),λj hj=>?_⟩;by_cases ck:j=i;subst ck;exact now _ _ _ _ hy H;have h1:=H.2 j (ready_mono hj ck);obtain ⟨eP,oj,fF,aM⟩:=mem_ready.1 hj;have eQ:∀ e∈oj.after,Region.binds md e=true->e.on≠i:=λe he hb bo=>by
    have h1:=aM e he hb;have h0:=(mem_ready.1 hr).1;rw [bo] at h1;rcases YbC i listed.size with h'|h'
    simp [h'] at h0 h1;rw [h0] at h1;cases h1;simp [YaZ h'] at h1
   have hap:=dj j oj fF ck eP eQ;obtain ⟨p1,p2,p3⟩:=Oper.apart_spec hap;have keep:∀ (a:Act),YE P ops R oi v a w->∀ u,YE P ops R oi v (a.put oj.dst u) w:=λa hy u=>
    hy.same (execOp_put oi (λcs b=>eO i oi cs b hi) a oj.dst u p3) (wanted_put oi a oj.dst u p3)
   have keepD:∀ (a:Act) d,YE P ops R oi v a w->YE P ops R oi v { a with defers:=d :: a.defers } w:=λa d hy=>hy.same rfl rfl;have later:∀ (a:Act) w',(Stp S w w'\/Lt j=true)->YE P ops R oi v a w->YE P ops R oi v a w':=λa w' hs hy=>by
    rcases hy with ⟨hw,hv⟩|hw
    exact .inl ⟨hw,λw'' h''=>hv w'' (lf _ _ _ (lg j oj fF eQ ck w w' hs) h'')⟩;exact .inr hw
   have dH:∀ k ok,ops[k]?=some ok->k≠i->(listed.setIfInBounds j true).getD k true=false->
    (∀ e∈ok.after,Region.binds md e=true->e.on≠i)->oi.apart ops ok=true:=λk ok hk gP jf bO=>by
    refine dj k ok hk gP ?_ bO;by_cases gj:j=k;subst gj;exact eP;rw [getD_set_ne true gj] at jf;exact jf
   have fin:∀ a' w',YE P ops R oi v a' w->(Stp S w w'\/Lt j=true)/\Z1z kk P md ops S Lt Z fuel ((listed.setIfInBounds i true).setIfInBounds j true) (a'.put oi.dst v) w'->
    (Stp S w w'\/Lt j=true)/\Z1z kk P md ops S Lt Z (fuel+1) (listed.setIfInBounds j true) a' w':=by
    rintro a' w' fG ⟨hs,hk⟩;refine ⟨hs,ih _ a' w' dH (λ_=>trivial) (ready_mono hr (Ne.symm ck)) (later a' w' hs fG) ?_⟩;rw [Array.setIfInBounds_comm _ _ ck];exact hk
   have lh:∀ cs b,oj.op≠.select cs b:=λcs b=>eO j oj cs b fF;unfold wpOpIn at *;simp only [fF] at *;rw [wanted_put oj a oi.dst v p1] at h1;split
   . rename_i hw
     simp only [hw,if_true] at h1;refine ⟨λ_ _=>trivial,?_⟩;replace h1:=h1.2;rw [show Fence.wide.round=none from rfl,Oper.semAt_none] at h1 ⊢;rw [execOp_put oj lh a oi.dst v p1] at h1;generalize (execOp a.eval oj).run P w=r at *;cases r with
     | ok n w'=>
       cases n<;>simp only [Oper.uponIn] at h1 ⊢
       case value u=>exact fin _ _ (keep a hy u) (by rw [<- Act.put_comm a v u p2];exact h1)
       case skip=>exact fin _ _ (keep a hy _) (by rw [<- Act.put_comm a v undef p2];exact h1)
       case defer d=>
        refine fin _ _ (keep _ (keepD a d hy) _) ?_;rw [<- Act.put_comm _ v undef p2,<- Act.put_defers];exact h1
       case enter f args=>
        refine ⟨h1.1,CallsIn.mono h1.2 λe w'' he=>?_⟩;cases e with
        | returned u=>exact fin _ _ (keep a hy u) (by rw [<- Act.put_comm a v u p2];exact he)
        | panicked c=>exact he
        | outgrown=>exact he
       case row row args=>exact ⟨h1.1,RowsIn.mono h1.2 λu w'' he=>fin _ _ (keep a hy u) (by rw [<- Act.put_comm a v u p2];exact he)⟩
       case round l f tmps assign body=>
        refine ⟨h1.1,RoundIn.mono h1.2 λe w'' he=>?_⟩;cases e with
        | returned u=>exact fin _ _ (keep a hy u) (by rw [<- Act.put_comm a v u p2];exact he)
        | panicked c=>exact he
        | outgrown=>exact he
     | halt x w'=>
       cases x<;>simp only [Oper.uponIn] at h1
   rename_i hw;simp only [hw] at h1;exact ⟨λ_ _=>trivial,fin _ _ (keep a hy _) (by rw [<- Act.put_comm a v undef p2];exact h1.2)⟩
end
structure WDI (kk:Nat) (P:Program) (n:Nat) (ops:Array Oper) (S:List Nat) (Q:Exit->Act->World->Prop) (ord:List (Nat×Nat)) (e:Env) (w:World):Prop where
 h:∀ listed:Array Bool,Region.noSelect ops=true->ZW ops [] ord listed=true->∀ a,Has n e a->Z1z kk P .any ops S (λj=>([]:List Nat).contains j) (λa w=>Q .normal a w) (wt ord) listed a w
section
variable {P:Program} {n kk:Nat} {Q:Exit->Act->World->Prop} {e:Env} {w:World} {ops:Array Oper} {S:List Nat} {rest:List (Nat×Nat)}
variable {i d:Nat} {op:Op} {ty:TypeId} {pos:String} {af:Array Edge} {v:Value}
theorem Zbk {id:Nat} {L:List Oper} (kk:Nat) (m:Nat) (S:List Nat) (ord:List (Nat×Nat)) (dl:L.length=m) (hm:P.follows .mixedOrders=true) (hs:Region.noSelect L.toArray=true) (hl:Nat.beq (wt ord) L.length=true)
 (hB:ZW L.toArray [] ord (Array.replicate m false)=true)
 (h:∀ w',Stp [] w w'->WDI kk P n L.toArray S Q ord e w'):WC P n (.region id L.toArray true) Q e w:=by
 subst dl;refine ⟨λa ha=>(wpIn_wide (n:=kk)).1 (wpIn_region_any hm ?_)⟩;have h1:=(h { w with drawn:=w.drawn+1 } (Stp.drew [] w)).h _ hs hB a ha;have h2:=Z0z (Q:=Q) (λa w hz=>hz) _ _ _ _ h1;rw [Xk hl] at h2;simpa using h2
theorem Zhp (h:WQ n Q .normal e w):WDI kk P n ops S Q [] e w:=
 ⟨λ_ _ hB a ha=>⟨by simpa [ZW,ZA] using hB,h.h a ha⟩⟩
theorem JH (hi:ops[i]?=some ⟨some d,op,ty,pos,af,none⟩) (hp:∀ w',PR P n ⟨some d,op,ty,pos,af,none⟩ e w' v) (aD:Nat.blt d n=true)
 (k:WDI kk P n ops S Q rest ((d,v) :: e) w):WDI kk P n ops S Q ((i,0) :: rest) e w:=by
 refine ⟨λlisted hs hB a ha=>?_⟩;simp only [ZW,ZA,Xa] at hB;obtain ⟨⟨h1,h2⟩,h3⟩:=hB;have hk:=k.h _ hs h3 _ (ha.put (v:=v) aD);rw [JK (by decide)];exact Zaq (R:=λ_ _=>True) (λ_=>trivial) (λ_ _ _ _ _=>trivial) hi (λ_ _ _ _ _ _ _ _=>trivial) (Region.noSelect_spec hs) _ _ _ _ (Region.free_spec hi h2) (λ_=>trivial) (by simpa using h1) (.inl ⟨Z0E (e:=e) (n:=n) ha trivial,λw' _=>(hp w').h a ha⟩) hk
theorem Z88 (hi:ops[i]?=some ⟨some d,op,ty,pos,af,none⟩) (hp:∀ w',Stp S w w'->PR P n ⟨some d,op,ty,pos,af,none⟩ e w' v) (aD:Nat.blt d n=true)
 (k:WDI kk P n ops S Q rest ((d,v) :: e) w):WDI kk P n ops S Q ((i,1) :: rest) e w:=by
 refine ⟨λlisted hs hB a ha=>?_⟩;simp only [ZW,ZA,Xa] at hB;obtain ⟨⟨⟨h1,h2⟩,hb⟩,h3⟩:=hB;have hk:=k.h _ hs h3 _ (ha.put (v:=v) aD);rw [JK (by decide)];refine Zaq (R:=Stp S) (λw=>Stp.refl _ w) (λ_ _ _ h k=>h.trans k) hi (λj oj hj hn ck w w' hs=>?_) (Region.noSelect_spec hs) _ _ _ _ (Region.free_spec hi h2) (λ_=>trivial) (by simpa using h1) (.inl ⟨Z0E (e:=e) (n:=n) ha trivial,λw' hw=>(hp w' hw).h a ha⟩) hk;rcases hs with hs|hs
 exact hs;cases hs
theorem Zbl {l:Nat} {x c:Operand} {ts:Array TypeId} {u r:Value} {G:World->Prop} (hi:ops[i]?=some ⟨some d,.call { callee:=.value c,args:=#[x],argTypes:=ts },ty,pos,af,none⟩) (hc:ev e c=some (.func (.yield l) #[] #[])) (hx:ev e x=some u)
 (hY:YieldAt Fence.wide (kk - 1) P l #[u] w (λen W'=>en=.returned r/\G W')) (hS:∀ W',G W'->Stp S w W') (aD:Nat.blt d n=true)
 (k:∀ W',G W'->WDI kk P n ops S Q rest ((d,r) :: e) W'):WDI kk P n ops S Q ((i,2) :: rest) e w:=by
 refine ⟨λlisted hs hB a ha=>?_⟩;simp only [ZW,ZA] at hB;rw [if_neg (by simp)] at hB;simp only [Xa,beq_iff_eq] at hB;obtain ⟨h1,h3⟩:=hB;rw [JK (by decide)];refine ⟨λh0=>absurd (h1 ▸ h0) (by simp),λj hj=>?_⟩;rw [h1] at hj;obtain rfl:j=i:=by simpa using hj
 obtain ⟨fn,tmps,assign,body,hy,hR⟩:=hY;unfold wpOpIn;simp only [hi];rw [if_pos (show Region.wanted (⟨some d,.call { callee:=.value c,args:=#[x],argTypes:=ts },ty,pos,af,none⟩:Oper) _=true from rfl)];refine ⟨λ_ _=>trivial,?_⟩;have he:(execOp a.eval ⟨some d,.call { callee:=.value c,args:=#[x],argTypes:=ts },ty,pos,af,none⟩).run P w=.ok (.round l fn tmps assign body) w:=by
  simp only [execOp,resolve,ha.ev hc,Deferred.ofValue];simp [invoke,ha.ev hx,hy]
 rw [show Fence.wide.round=none from rfl,Oper.semAt_none,he];refine ⟨λh=>(by cases h),RoundIn.mono hR ?_⟩;rintro en W' ⟨rfl,hG⟩;exact ⟨.inl (hS W' hG),(k W' hG).h _ hs h3 _ (ha.put aD)⟩
end
end Go.Eng
