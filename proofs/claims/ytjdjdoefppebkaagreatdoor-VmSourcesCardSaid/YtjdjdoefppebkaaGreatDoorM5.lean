/-
Merged by program out of own texts: Dat2, Eng20, Lex2, Lex3, Lex4, Lex5, Psr10, Psr11, Pxn1, Vmw1, Vmw2, Vmw3, Sor0, Est1, Hol1, Hol2, HolS, Hol3, Hol4, Pri1, Eng29, Hol5, Cal1.
-/
import Derived.Test.YtjdjdoefppebkaaGreatDoorM4
import Derived.Scope
import Derived.Laws.Runes
import Derived.Lib.IndexLaws
import Derived.Lib.AtoiAll
import Derived.WideLaws
set_option linter.unusedVariables false
set_option linter.unusedSimpArgs false
namespace Go.Eng
open Go Go.RowKit Go.Proofs
def Z55 (s:Str):Int:=s.foldl (fun n c=>10 * n+(c.toNat:Int) - 48) 0
theorem Z7C (a:Str) (c:UInt8):Z55 (a++[c])=10 * Z55 a+(c.toNat:Int) - 48:=by simp [Z55,List.foldl_append]
theorem Z7D {s:Str} (h:s.all ZV=true):Z55 s=(Z0z s:Int):=by
 have key:∀ (s:Str) (z:Int) (n:Nat),z=(n:Int)→s.all ZV=true→s.foldl (fun n c=>10 * n+(c.toNat:Int) - 48) z=((s.foldl (fun n c=>10 * n+(c.toNat - 48)) n:Nat):Int):=by
  intro s
  induction s with
  | nil=>intro z n hz _;exact hz
  | cons c r ih=>
    intro z n hz h
    simp only [Yaz,Xi] at h
    have hc:48≤c.toNat∧c.toNat≤57:=by simpa [ZV] using h.1
    exact ih _ _ (by dsimp only;omega) h.2
 exact key s 0 0 rfl h
def Ze6:Nat→Int
 | 0=>0
 | k+1=>10 * Ze6 k+300
theorem ZaZ:∀ (k:Nat) (s:Str),s.length=k→-Ze6 k≤Z55 s∧Z55 s≤Ze6 k
 | 0, s, h => by
   have:s=[]:=XE.1 h
   subst this
   simp [Z55,Ze6]
 | k + 1, s, h => by
   have hne:s≠[]:=by rintro rfl;simp at h
   obtain ⟨a,c,rfl⟩:∃ a c,s=a++[c]:=⟨s.dropLast,s.getLast hne,(List.dropLast_concat_getLast hne).symm⟩
   have ih:=ZaZ k a (by simpa using h)
   have hc:=c.toNat_lt
   rw [Z7C]
   simp only [Ze6]
   omega
theorem Zii {k:Nat} (h:k≤4):Ze6 k≤400000:=by
 have:k=0∨k=1∨k=2∨k=3∨k=4:=by omega
 rcases this with rfl|rfl|rfl|rfl|rfl<;>decide
end Go.Eng
namespace Go.Proofs.YtjdjdoefppebkaaGreatDoor
open Go Go.Eng Go.RowKit Go.Proofs
theorem Z7E (s:Str) (f u bs be:Nat) (e0:Int) (w:World) (hfu:f≤u) (hu:u≤s.length) (h4:u≤f+4) (hne:bs≠be) (hs:Blk w bs 9 [str s]) (he:Blk w be 41 [.int .i64 e0]) :
 CC 305 #[.int .i64 (f:Int),.int .i64 (u:Int),.pointer (some ⟨bs,0,none⟩),.pointer (some ⟨be,0,none⟩)] w
  fun r w'=>r=.int .i64 (Z55 ((s.take u).drop f))∧Blk w' bs 9 [str s]∧Blk w' be 41 [.int .i64 (if ((s.take u).drop f).all ZV then e0 else 7)]∧Stp [be] w w':=by
 refine cW4 34 Tryz.func305 ?_
 refine W ?_
 refine Z5d rfl rfl rfl rfl rfl hfu hu rfl ?_
 have hlen:((s.take u).drop f).length=u - f:=by simp;omega
 generalize (s.take u).drop f=t at *
 refine Z3 (Za3 rfl (by omega)) rfl ?_
 rintro bv w1 ⟨hb,hS⟩
 have hlb:be<w.heap.size:=he.lt
 have hbv:=hb [be] (by simpa using hlb)
 clear hb
 replace hs:=hs.up hS
 replace he:=he.up hS
 replace hS:=hS.mono (S':=[be]) (by simp)
 refine W ?_
 refine ZD (σ:=Nat) (fun q=>[(2,.pointer (some ⟨bs,0,none⟩)),(3,.pointer (some ⟨be,0,none⟩)),(7,.int .i64 (Z55 (t.take q))),(14,bv),(15,.int .i64 (t.length:Int)),(16,.int .i64 (q:Int))])
  (fun q w'=>q≤t.length∧SlV [be] w' bv t∧Blk w' bs 9 [str s]∧Blk w' be 41 [.int .i64 (if (t.take q).all ZV then e0 else 7)]∧Stp [be] w w')
  (fun q=>t.length - q) 0 ⟨rfl,rfl,rfl,rfl,rfl,rfl,trivial⟩ ⟨Xy _,hbv,hs,he,hS⟩ ?_
 clear hbv hs he hS
 rintro q w2 ⟨hq,hbv,hs,he,hS⟩
 have hbn:=ZaZ q (t.take q) (by simp;omega)
 have hb4:=Zii (k:=q) (by omega)
 by_cases hlt:q<t.length
 have htk:t.take (q+1)=t.take q++[t[q]]:=(List.take_append_getElem hlt).symm
 have hc:=(t[q]).toNat_lt
 have hdg:ZV t[q]=true↔48≤(t[q]).toNat∧(t[q]).toNat≤57:=by simp [ZV]
 have fin:∀ w3,SlV [be] w3 bv t→Blk w3 bs 9 [str s]→Blk w3 be 41 [.int .i64 (if ZV t[q]=true then (if (t.take q).all ZV then e0 else 7) else 7)]→Stp [be] w w3→
  (q+1≤t.length∧SlV [be] w3 bv t∧Blk w3 bs 9 [str s]∧Blk w3 be 41 [.int .i64 (if (t.take (q+1)).all ZV then e0 else 7)]∧Stp [be] w w3):=by
  intro w3 h1 h2 h3 h4
  refine ⟨hlt,h1,h2,?_,h4⟩
  rw [htk]
  have:((t.take q++[t[q]]).all ZV)=((t.take q).all ZV && ZV t[q]):=by rw [Ybb];simp only [Yaz,List.all_nil,YaS]
  rw [this]
  by_cases hd:ZV t[q]=true
  rw [if_pos hd] at h3
  rw [hd,YaS]
  exact h3
  rw [if_neg hd] at h3
  rw [Bool.not_eq_true] at hd
  rw [hd,Ybg]
  exact h3
 by_cases hd:ZV t[q]=true
 have hd':=hdg.1 hd
 focus repeat'(first|refine W1 ?_|omega|refine VG ?_ ?_<;>intro hg|refine VC ?_ ?_<;>intro hc)
 refine Z7 (Z4q (b:=((t[q]).toNat:Int)) rfl (Z0j (by unfold I64;omega))) rfl ?_
 refine W ?_
 refine Zr (q+1) ⟨rfl,rfl,?_,rfl,rfl,rfl,trivial⟩ (fin _ hbv hs (by rw [if_pos hd];exact he) hS) (by omega)
 rw [htk,Z7C]
 rfl
 · have hd':(t[q]).toNat<48∨57<(t[q]).toNat:=by
    rcases Yaj (t[q]).toNat 48 with h|h
    exact .inl h
    rcases Yaj 57 (t[q]).toNat with h'|h'
    exact .inr h'
    exact absurd (hdg.2 ⟨h,h'⟩) hd
   repeat'(first|refine W1 ?_|omega|refine VG ?_ ?_<;>intro hg|refine VC ?_ ?_<;>intro hc)
   all_goals
    refine Z0 (Z1 (us:=[.int .i64 7]) rfl rfl rfl rfl (by simp;rfl) he rfl) ?_
    rintro _ w3 ⟨hT,he3⟩
    refine W ?_
    refine Z7 (Z4q (b:=((t[q]).toNat:Int)) rfl (Z0j (by unfold I64;omega))) rfl ?_
    refine W ?_
    refine Zr (q+1) ⟨rfl,rfl,?_,rfl,rfl,rfl,trivial⟩ (fin _ (hbv.ext hT (fun _ h=>h) (fun _ h=>.inl h)) (hs.ext hT (by simpa using hne)) (by rw [if_neg hd];exact he3) (hS.trans hT)) (by omega)
    rw [htk,Z7C]
    rfl
 have:q=t.length:=by omega
 subst this
 rw [XL] at *
 focus repeat'(first|refine W1 ?_|omega|refine VG ?_ ?_<;>intro hg|refine VC ?_ ?_<;>intro hc)
 refine WR ?_
 exact .mk ⟨rfl,hs,he,hS⟩
theorem Z5y (y m d:Int) (w:World):(Instr.build 291 #[(0,.int .i64 y),(1,.int .i64 m),(2,.int .i64 d)]).run Tryz.prog w=.ok (ZdZ y m d) w:=by kernel_rfl
theorem Zc8 (s:Str) (w:World) (hL:Z0M w) (hl:s.length=10):CC 272 #[str s] w fun r w'=>r=.tuple #[.int .i64 (Z1w s).1,.int .i64 (Z1w s).2]∧Stp [] w w':=by
 have h5:1<w.heap.size:=by have:=block_lt_of_cell (hL 0 0 rfl);simpa using this
 refine cW1 35 Tryz.func272 ?_
 refine W ?_
 refine Z3 (Zs rfl) rfl ?_
 rintro _ w1 ⟨bs,rfl,hbs,es,hS⟩
 replace es:Blk w1 bs 9 [str s]:=es
 replace hL:=hL.up hS
 have b45:∀ i,i<10→(Z0e s i=45↔s.getD i 0=45):=fun i hi=>by
  unfold Z0e
  constructor
  intro h
  have h45:(45:UInt8).toNat=45:=rfl
  have:(s.getD i 0).toNat=(45:UInt8).toNat:=by omega
  exact UInt8.toNat_inj.1 this
  intro h
  rw [h]
  rfl
 by_cases h45:Z0e s 4=45∧Z0e s 7=45
 obtain ⟨h4,h7⟩:=h45
 focus repeat'(first|refine W1 ?_|omega|refine VG ?_ ?_<;>intro hg|refine VC ?_ ?_<;>intro hc)
 refine JD (i:=4) rfl rfl rfl (by omega) rfl ?_
 focus repeat'(first|refine W1 ?_|omega|refine VG ?_ ?_<;>intro hg|refine VC ?_ ?_<;>intro hc)
 refine JD (i:=7) rfl rfl rfl (by omega) rfl ?_
 focus repeat'(first|refine W1 ?_|omega|refine VG ?_ ?_<;>intro hg|refine VC ?_ ?_<;>intro hc)
 refine Z3 Z6 rfl ?_
 rintro _ w2 ⟨be,rfl,hbe,ee,hT⟩
 have nbe:bs≠be:=by have:=es.lt;omega
 replace es:=es.up hT
 refine Z0 (Z1 (us:=[.int .i64 0]) rfl rfl rfl rfl (by simp;rfl) ee rfl) ?_
 rintro _ w3 ⟨hT2,ee'⟩
 have hbew:w.heap.size≤be:=Xh hS.size hbe
 replace es:=es.ext hT2 (by simpa using nbe)
 replace hT:=hT.own hT2 (fun c hc=>.inr (by simp at hc;omega))
 replace hL:=hL.up hT
 replace hS:=hS.trans hT
 clear hT hT2 ee hbe
 refine W ?_
 refine Z3 (Z3T rfl (Z9 rfl rfl) rfl (Z7E s 0 4 bs be 0 _ (by omega) (by omega) (by omega) nbe es ee')) rfl ?_
 rintro _ w4 ⟨rfl,es4,ee4,hT⟩
 replace hL:=hL.ext hT (by simp only [Xq];omega)
 replace hS:=hS.own hT (fun c hc=>.inr (by simp at hc;omega))
 clear hT
 refine W ?_
 refine Z3 (Z3T rfl (Z9 rfl rfl) rfl (Z7E s 5 7 bs be _ _ (by omega) (by omega) (by omega) nbe es4 ee4)) rfl ?_
 rintro _ w5 ⟨rfl,es5,ee5,hT⟩
 replace hL:=hL.ext hT (by simp only [Xq];omega)
 replace hS:=hS.own hT (fun c hc=>.inr (by simp at hc;omega))
 clear hT es4 ee4
 refine W ?_
 refine Z3 (Z3T rfl (Z9 rfl rfl) rfl (Z7E s 8 10 bs be _ _ (by omega) (by omega) (by omega) nbe es5 ee5)) rfl ?_
 rintro _ w6 ⟨rfl,es6,ee6,hT⟩
 replace hL:=hL.ext hT (by simp only [Xq];omega)
 replace hS:=hS.own hT (fun c hc=>.inr (by simp at hc;omega))
 clear hT es5 ee5
 have e0:(s.take 4).drop 0=s.take 4:=rfl
 have e1:(s.take 7).drop 5=(s.drop 5).take 2:=by rw [Ybe]
 have e2:(s.take 10).drop 8=s.drop 8:=by rw [XB (by omega)]
 rw [e0,e1,e2] at ee6
 rw [e0,e1,e2]
 refine Ze (vs:=[(0,.int .i64 (Z55 (s.take 4))),(1,.int .i64 (Z55 ((s.drop 5).take 2))),(2,.int .i64 (Z55 (s.drop 8)))]) rfl (Z5y _ _ _) rfl ?_
 refine Z3 Z6 rfl ?_
 rintro _ w7 ⟨bd,rfl,hbd,ed,hT⟩
 have nbd:be≠bd:=by have:=ee6.lt;omega
 replace ee6:=ee6.up hT
 refine Z0 (Z1 (us:=[.int .i64 (Z55 (s.take 4)),.int .i64 (Z55 ((s.drop 5).take 2)),.int .i64 (Z55 (s.drop 8))]) rfl rfl rfl rfl (by intro c hc;simp at hc;rcases hc with rfl|rfl|rfl<;>rfl) ed rfl) ?_
 rintro _ w8 ⟨hT2,ed'⟩
 replace ee6:=ee6.ext hT2 (by simpa using nbd)
 replace hT:=hT.own hT2 (fun c hc=>.inr (by simp at hc;omega))
 replace hL:=hL.up hT
 replace hS:=hS.trans hT
 clear hT hT2 ed hbd es6
 by_cases hall:(s.take 4).all ZV=true∧((s.drop 5).take 2).all ZV=true∧(s.drop 8).all ZV=true
 obtain ⟨a1,a2,a3⟩:=hall
 have hP:Z1w s=(let y:Int:=Z0z (s.take 4);let m:Int:=Z0z ((s.drop 5).take 2);let d:Int:=Z0z (s.drop 8);if Z2p y m d then (0,5) else (Z0h y m d,0)):=by
  unfold Z1w
  rw [if_pos ⟨hl,(b45 4 (by omega)).1 h4,(b45 7 (by omega)).1 h7,a1,a2,a3⟩]
  rfl
 rw [if_pos a1,if_pos a2,if_pos a3] at ee6
 rw [Z7D a1,Z7D a2,Z7D a3] at ed'
 refine W ?_
 refine CL rfl (Zp rfl) rfl (Z7w _ _ _ _ hL) ?_
 rintro _ w9 ⟨rfl,hT⟩
 replace hS:=hS.trans hT
 refine W ?_
 refine WR ?_
 refine .mk ⟨?_,hS⟩
 rw [hP]
 dsimp only
 split<;>rfl
 have hP:Z1w s=(0,7):=by
  unfold Z1w
  rw [if_neg (fun h=>hall h.2.2.2)]
 have hE:(if (s.drop 8).all ZV=true then (if ((s.drop 5).take 2).all ZV=true then (if (s.take 4).all ZV=true then (0:Int) else 7) else 7) else 7)=7:=by
  by_cases g3:(s.drop 8).all ZV=true
  rw [if_pos g3]
  by_cases g2:((s.drop 5).take 2).all ZV=true
  rw [if_pos g2]
  by_cases g1:(s.take 4).all ZV=true
  exact absurd ⟨g1,g2,g3⟩ hall
  rw [if_neg g1]
  rw [if_neg g2]
  rw [if_neg g3]
 rw [hE] at ee6
 refine W ?_
 refine ZDr 3 [] [] [(0,1),(1,0),(2,0)] (fun w1 hS1=>?_)
 replace ee6:=ee6.up hS1
 replace hS:=hS.trans hS1
 refine D ?_
 refine W ?_
 refine WR ?_
 rw [hP]
 exact .mk ⟨rfl,hS⟩
 have hP:Z1w s=(0,7):=by
  unfold Z1w
  rw [if_neg (fun h=>h45 ⟨(b45 4 (by omega)).2 h.2.1,(b45 7 (by omega)).2 h.2.2.1⟩)]
 by_cases h4:Z0e s 4=45
 have h7:¬ Z0e s 7=45:=fun h=>h45 ⟨h4,h⟩
 focus repeat'(first|refine W1 ?_|omega|refine VG ?_ ?_<;>intro hg|refine VC ?_ ?_<;>intro hc)
 refine JD (i:=4) rfl rfl rfl (by omega) rfl ?_
 focus repeat'(first|refine W1 ?_|omega|refine VG ?_ ?_<;>intro hg|refine VC ?_ ?_<;>intro hc)
 refine JD (i:=7) rfl rfl rfl (by omega) rfl ?_
 focus repeat'(first|refine W1 ?_|omega|refine VG ?_ ?_<;>intro hg|refine VC ?_ ?_<;>intro hc)
 refine WR ?_
 rw [hP]
 exact .mk ⟨rfl,hS⟩
 focus repeat'(first|refine W1 ?_|omega|refine VG ?_ ?_<;>intro hg|refine VC ?_ ?_<;>intro hc)
 refine JD (i:=4) rfl rfl rfl (by omega) rfl ?_
 focus repeat'(first|refine W1 ?_|omega|refine VG ?_ ?_<;>intro hg|refine VC ?_ ?_<;>intro hc)
 refine WR ?_
 rw [hP]
 exact .mk ⟨rfl,hS⟩
end Go.Proofs.YtjdjdoefppebkaaGreatDoor
namespace Go.Eng
open Go Go.RowKit Go.Proofs
section
variable {P:Program} {n:Nat} {Q:Exit→Act→World→Prop} {e:Env} {w:World}
theorem Z7F {c:Code} (h:WC P n c (Exit.noGoto Q) e w):WC P n (.scope c) Q e w:=⟨fun a ha=>wp_scope_straight (h.h a ha)⟩
theorem Zgo {l:Nat} (h:WQ n Q .normal e w):WC P n (.label l) Q e w:=⟨fun a ha=>wp_label (h.h a ha)⟩
theorem Z02 (h:WQ n Q .ret e w):WQ n (Exit.noGoto Q) .ret e w:=⟨fun a ha=>h.h a ha⟩
theorem Z0c {i:Nat} (h:WQ n Q (.exit i) e w):WQ n (Exit.noGoto Q) (.exit i) e w:=⟨fun a ha=>h.h a ha⟩
end
def Z0p:Str:=[9,10,13,32]
theorem Z7G (c:UInt8):Z1D c=decide (c∈Z0p):=by
 unfold Z1D Z0p
 rw [X0]
 simp [or_assoc]
theorem Z7H (l:Str) (c:UInt8):decide (0≤Lib.indexByte l c)=decide (c∈l):=by
 rw [decide_eq_decide]
 induction l with
 | nil=>simp [Lib.indexByte]
 | cons a r ih=>
   unfold Lib.indexByte
   by_cases h:a=c
   subst h;simp
   have hb:(a == c)=false:=by simpa using h
   rw [hb]
   simp only [XG,if_false,Xf]
   have hge:=Lib.indexByte_ge r c
   have h':¬ c=a:=fun e=>h e.symm
   split
   rename_i h1
   have:Lib.indexByte r c=-1:=by simpa using h1
   rw [← ih]
   simp [h']
   omega
   rename_i h1
   have h2:¬ Lib.indexByte r c=-1:=by simpa using h1
   have:0≤Lib.indexByte r c:=by omega
   simp [h',ih.1 this]
   omega
theorem Zph (s:Str) (a b:UInt8):Lib.hasPrefix s [a,b]=decide (s.take 2=[a,b]):=by
 unfold Lib.hasPrefix
 match s with
 | []=>rfl
 | [x]=>simp [List.isPrefixOf]
 | x :: y :: r=>
   rw [X0]
   simp only [List.isPrefixOf,YaS,Xi,beq_iff_eq,decide_eq_true_eq,Yai,Ybh,Yay,and_true]
   constructor
   rintro ⟨rfl,rfl⟩;exact ⟨rfl,rfl⟩
   rintro ⟨rfl,rfl⟩;exact ⟨rfl,rfl⟩
theorem Zb0 {s:Str} (hne:s≠[]) (h:s.all ZV=true):Lib.atoiAll s=if Z0z s≤9223372036854775807 then .ok (Z0z s:Int) else .range:=by
 have key:∀ (s:Str) (acc N:Nat),acc<18446744073709551616→s.all ZV=true→s.foldl (fun n c=>10 * n+(c.toNat - 48)) acc=N→Lib.parseUint10 acc s=if N<18446744073709551616 then .ok N else .range:=by
  intro s
  induction s with
  | nil=>
    intro acc N ha _ hN
    have:acc=N:=hN
    subst this
    rw [if_pos ha]
    rfl
  | cons c r ih=>
    intro acc N ha h hN
    simp only [Yaz,Xi] at h
    have hc:48≤c.toNat∧c.toNat≤57:=by simpa [ZV] using h.1
    have hmono:∀ (r:Str) (a:Nat),a≤r.foldl (fun n c=>10 * n+(c.toNat - 48)) a:=by
     intro r
     induction r with
     | nil=>intro a;exact Xo _
     | cons x q ihq=>intro a;have:=ihq (10 * a+(x.toNat - 48));simp only [YaV];omega
    have h1:=hmono r (10 * acc+(c.toNat - 48))
    have hN':r.foldl (fun n c=>10 * n+(c.toNat - 48)) (10 * acc+(c.toNat - 48))=N:=hN
    rw [hN'] at h1
    simp only [Lib.parseUint10]
    rw [if_pos hc]
    split
    rw [if_neg (by omega)]
    split
    rw [if_neg (by omega)]
    rw [show acc * 10+(c.toNat - 48)=10 * acc+(c.toNat - 48) by omega]
    exact ih _ _ (by omega) h.2 hN'
 obtain ⟨c,r,rfl⟩:∃ c r,s=c :: r:=by cases s with|nil=>exact absurd rfl hne|cons c r=>exact ⟨c,r,rfl⟩
 have hk:=key (c :: r) 0 (Z0z (c :: r)) (by omega) h rfl
 have hcc:48≤c.toNat∧c.toNat≤57:=by
  simp only [Yaz,Xi] at h
  simpa [ZV] using h.1
 unfold Lib.atoiAll
 simp only
 rw [if_neg (by omega)]
 unfold Lib.parseMag
 rw [if_neg (by simp),hk]
 by_cases h1:Z0z (c :: r)<18446744073709551616
 rw [if_pos h1]
 simp only
 by_cases h2:Z0z (c :: r)≤9223372036854775807
 rw [if_pos h2,if_neg (by omega),if_neg (by omega),if_neg (by omega)]
 rw [if_neg h2,if_pos (by omega)]
 rw [if_neg h1,if_neg (by omega)]
end Go.Eng
namespace Go.Proofs.YtjdjdoefppebkaaGreatDoor
open Go Go.Eng Go.RowKit Go.Proofs
theorem Zb1 (c:UInt8):((c.toNat:Int)).toNat.toUInt8=c:=by
 rw [YaL]
 exact UInt8.ofNat_toNat
theorem Z6w (s:Str) (c:UInt8) (w:World):CC 268 #[str s,.int .u8 (c.toNat:Int)] w fun r w'=>r=.int .i64 (Lib.indexByte s c)∧w'=w:=by
 refine (Tryz.strings_IndexByte ⟨s.toArray⟩ (c.toNat:Int) w).mono ?_
 rintro e w' ⟨rfl,rfl⟩
 refine .mk ⟨?_,rfl⟩
 rw [Zb1]
theorem Z2S (s:Str) (a b:UInt8) (w:World):CC 267 #[str s,str [a,b]] w fun r w'=>r=.bool (decide (s.take 2=[a,b]))∧w'=w:=by
 refine (Tryz.strings_HasPrefix ⟨s.toArray⟩ ⟨([a,b]:Str).toArray⟩ w).mono ?_
 rintro e w' ⟨rfl,rfl⟩
 refine .mk ⟨?_,rfl⟩
 rw [← Zph]
theorem Zb2 {P:Program} {n:Nat} {Q:Exit→Act→World→Prop} {e:Env} {w:World} {ops:Array Oper} {rest:List Oper} {d₀:Nat} {ty:TypeId} {pos:String} {af:Array Edge} {src dst:TypeId} {x:Operand} {k:IntKind} {z:Int} {D:TypeDesc} [hs:Und P src D] [hd:Und P dst .string]
 (hx:ev e x=some (.int k z)) (hdn:Nat.blt d₀ n=true) (kk:WL P n ops Q rest ((d₀,str (Utf8.encode z).data.toList) :: e) w):WL P n ops Q (⟨some d₀,.convert src dst x,ty,pos,af,none⟩ :: rest) e w:=by
 refine Z7 (v:=str (Utf8.encode z).data.toList) ⟨fun a ha=>?_⟩ hdn kk
 have:=run_convert_int_string (P:=P) w src dst k z (by rw [hs.h];rfl) hd.h
 simp [execOp,ha.ev hx,this]
theorem Zs1 (c:Nat) (h1:128≤c) (h2:c<256):(Utf8.encode (c:Int)).data.toList=[UInt8.ofNat (192+c / 64),UInt8.ofNat (128+c % 64)]:=by
 have hv:Utf8.valid (c:Int)=true:=by
  unfold Utf8.valid
  simp only [Yao,Xi,decide_eq_true_eq]
  omega
 unfold Utf8.encode
 simp only [hv,if_true,YaL]
 rw [if_neg (by omega),if_pos (by omega)]
theorem Zja:∀ c∈Z0p,c.toNat<128:=by decide
set_option maxRecDepth 20000 in
theorem Z9v (c:Nat) (w:World) (h1:128≤c) (h2:c<256):CC 269 #[str Z0p,.int .i32 (c:Int)] w fun r w'=>r=.int .i64 (-1)∧Stp [] w w':=by
 have he:=Zs1 c h1 h2
 have hb:128≤(UInt8.ofNat (128+c % 64)).toNat:=by simp;omega
 generalize UInt8.ofNat (192+c / 64)=b0 at he
 generalize UInt8.ofNat (128+c % 64)=b1 at he hb
 have hvr:Lib.validRune (c:Int)=true:=decide_eq_true (by omega)
 refine cW2 187 Tryz.func269 ?_
 repeat'(first|refine W1 ?_|omega|refine VG ?_ ?_<;>intro hg|refine VC ?_ ?_<;>intro hc)
 refine Z3 (Z5 rfl (Zp rfl) ((Tryz.utf8_ValidRune (c:Int) _).mono (fun e w' h=>(show Ret (fun r w'=>r=.bool true∧w'=_) e w' from by
  obtain ⟨rfl,rfl⟩:=h
  exact .mk ⟨by rw [hvr],rfl⟩)))) rfl ?_
 rintro _ wv ⟨rfl,hwv⟩
 subst wv
 refine W ?_
 refine Z7F ?_
 refine W ?_
 refine Zb2 rfl rfl ?_
 rw [he]
 have hl2:([b0,b1]:Str).length=2:=rfl
 have hls:Z0p.length=4:=rfl
 refine W ?_
 refine ZD (σ:=Unit) (fun _=>[(0,str Z0p),(7,str [b0,b1]),(8,.int .i64 ((([b0,b1]:Str).length:Int) - 1)),(9,.int .i64 ((([b0,b1]:Str).length:Int) - 1))]) (fun _ w'=>Stp [] w w') (fun _=>0) () ⟨rfl,rfl,rfl,rfl,trivial⟩ (Stp.refl _ _) ?_
 rintro _ w1 hS
 repeat'(first|refine W1 ?_|omega|refine VG ?_ ?_<;>intro hg|refine VC ?_ ?_<;>intro hc)
 refine Z7F ?_
 repeat'(first|refine W1 ?_|omega|refine VG ?_ ?_<;>intro hg|refine VC ?_ ?_<;>intro hc)
 refine ZDr 7 [] [] [(0,0),(1,0),(2,0),(3,0),(4,0),(5,0),(6,0)] (fun w1 hS1=>?_)
 replace hS:=hS.trans hS1
 clear hS1
 refine D ?_
 have hx:¬ Z0e Z0p (([b0,b1]:Str).length - Nat.succ 0)=Z0e [b0,b1] (([b0,b1]:Str).length - Nat.succ 0):=by
  show ¬ (10:Int)=(b1.toNat:Int)
  omega
 repeat'(first|refine W1 ?_|omega|refine VG ?_ ?_<;>intro hg|refine VC ?_ ?_<;>intro hc)
 rotate_left
 exact absurd hx (by assumption)
 have hx1:Z0e [b0,b1] (([b0,b1]:Str).length - Nat.succ 0)=(b1.toNat:Int):=rfl
 have hnm:b1∉(Z0p.drop 2):=fun h=>by
  have:=Zja b1 (List.mem_of_mem_drop h)
  omega
 have hidx:Lib.indexByte (Z0p.drop 2) b1<0:=by
  have:=Z7H (Z0p.drop 2) b1
  rw [decide_eq_decide] at this
  have h0:¬ 0≤Lib.indexByte (Z0p.drop 2) b1:=fun h=>hnm (this.1 h)
  omega
 refine ZDr 9 [] [] [(0,0),(1,0),(2,0),(3,0),(4,0),(5,0),(6,0),(7,2),(8,0)] (fun w1 hS1=>?_)
 replace hS:=hS.trans hS1
 clear hS1
 refine D ?_
 refine Z9V (l:=2) rfl trivial rfl rfl (by omega) (by omega) rfl ?_
 refine D ?_
 rw [hx1]
 refine Zb rfl trivial (Z5 rfl (Z9 rfl rfl) (Z6w (Z0p.drop 2) b1 _)) (fun _ _ h=>by rw [h.2];exact Stp.refl _ _) rfl ?_
 rintro _ w5 ⟨rfl,hw5⟩
 subst w5
 refine D ?_
 repeat'(first|refine W1 ?_|omega|refine VG ?_ ?_<;>intro hg|refine VC ?_ ?_<;>intro hc)
 repeat (first|refine Z02 ?_|refine W1 ?_)
 refine WR ?_
 exact .mk ⟨rfl,hS⟩
theorem Z9w (c:UInt8) (w:World):CC 204 #[str Z0p,.int .i32 (c.toNat:Int)] w fun r w'=>r=.bool (Z1D c)∧Stp [] w w':=by
 by_cases h:c.toNat<128
 refine (Tryz.strings_ContainsRune_ascii ⟨Z0p.toArray⟩ (c.toNat:Int) w (by omega) (by omega)).mono ?_
 rintro e w' ⟨rfl,rfl⟩
 refine .mk ⟨?_,Stp.refl _ _⟩
 rw [Zb1,Z7G]
 exact congrArg Value.bool (Z7H Z0p c)
 have hc:=c.toNat_lt
 have hsp:Z1D c=false:=by
  rw [Z7G,decide_eq_false_iff_not]
  intro hm
  exact h (Zja c hm)
 refine cW2 9 Tryz.func204 ?_
 refine W ?_
 refine CL rfl (Z9 rfl rfl) rfl (Z9v c.toNat _ (by omega) (by omega)) ?_
 rintro _ w1 ⟨rfl,hS⟩
 refine W ?_
 refine WR ?_
 exact .mk ⟨by rw [hsp];rfl,hS⟩
def lxV:Lx→Value
 | .err c=>.tuple #[.agg (Zi.enc (⟨0,0,[],0⟩:Tkn)).toArray,.int .i64 c]
 | .ok t=>.tuple #[.agg (Zi.enc t).toArray,.int .i64 0]
theorem tk0 (w:World):(Instr.build 167 #[]).run Tryz.prog w=.ok (.agg (Zi.enc (⟨0,0,[],0⟩:Tkn)).toArray) w:=by kernel_rfl
theorem tk2 (k:Int) (s:Str) (w:World):(Instr.build 167 #[(0,.int .i64 k),(2,str s)]).run Tryz.prog w=.ok (.agg (Zi.enc (⟨k,0,s,0⟩:Tkn)).toArray) w:=by kernel_rfl
theorem tk3 (k n:Int) (s:Str) (w:World):(Instr.build 167 #[(0,.int .i64 k),(2,str s),(3,.int .i64 n)]).run Tryz.prog w=.ok (.agg (Zi.enc (⟨k,0,s,n⟩:Tkn)).toArray) w:=by kernel_rfl
theorem tk1 (k n:Int) (w:World):(Instr.build 167 #[(0,.int .i64 k),(1,.int .i64 n)]).run Tryz.prog w=.ok (.agg (Zi.enc (⟨k,n,[],0⟩:Tkn)).toArray) w:=by kernel_rfl
theorem ZmR {s:Str} {a b:UInt8} (h:s.take 2=[a,b]):2≤s.length:=by
 have:=congrArg List.length h
 simp at this
 omega
theorem Z7I (s:Str) (w:World) (hne:s≠[]):CC 203 #[str s] w fun r w'=>r=lxV (JT s)∧Stp [] w w':=by
 have hl:s.length≠0:=fun h=>hne (XE.1 h)
 have hget:Z0e s 0=((s.getD 0 0).toNat:Int):=rfl
 refine cW1 22 Tryz.func203 ?_
 refine W ?_
 refine Z3 Z6 rfl ?_
 rintro _ w1 ⟨b2,rfl,hb2,e2,hS⟩
 refine W ?_
 refine CL rfl (Z9 rfl rfl) rfl (Z2S s 60 61 _) ?_
 rintro _ wv ⟨rfl,hwv⟩
 subst wv
 by_cases a1:s.take 2=[60,61]
 have h2:=ZmR a1
 have hv:JT s=.ok ⟨4,0,s.take 2,0⟩:=by unfold JT;rw [if_pos (.inl a1)]
 rw [decide_eq_true a1]
 refine W ?_
 refine Z0D (r:=2) rfl rfl rfl (by omega) rfl ?_
 refine Ze (vs:=[(0,.int .i64 4),(2,str (s.take 2))]) rfl (tk2 _ _) rfl ?_
 refine Z0 (Z1 (us:=Zi.enc (⟨4,0,s.take 2,0⟩:Tkn)) rfl rfl rfl rfl (Zi.one _) e2 rfl) ?_
 rintro _ wz ⟨hT,e2'⟩
 refine W ?_
 refine J5 rfl rfl rfl e2' rfl rfl ?_
 exact .mk ⟨by rw [hv];rfl,hS.own hT (fun c hc=>.inr (by simp at hc;omega))⟩
 rw [decide_eq_false a1]
 refine W ?_
 refine CL rfl (Z9 rfl rfl) rfl (Z2S s 33 61 _) ?_
 rintro _ wv ⟨rfl,hwv⟩
 subst wv
 by_cases a2:s.take 2=[33,61]
 have h2:=ZmR a2
 have hv:JT s=.ok ⟨4,0,s.take 2,0⟩:=by unfold JT;rw [if_pos (.inr (.inl a2))]
 rw [decide_eq_true a2]
 refine W ?_
 refine Z0D (r:=2) rfl rfl rfl (by omega) rfl ?_
 refine Ze (vs:=[(0,.int .i64 4),(2,str (s.take 2))]) rfl (tk2 _ _) rfl ?_
 refine Z0 (Z1 (us:=Zi.enc (⟨4,0,s.take 2,0⟩:Tkn)) rfl rfl rfl rfl (Zi.one _) e2 rfl) ?_
 rintro _ wz ⟨hT,e2'⟩
 refine W ?_
 refine J5 rfl rfl rfl e2' rfl rfl ?_
 exact .mk ⟨by rw [hv];rfl,hS.own hT (fun c hc=>.inr (by simp at hc;omega))⟩
 rw [decide_eq_false a2]
 refine W ?_
 refine CL rfl (Z9 rfl rfl) rfl (Z2S s 62 61 _) ?_
 rintro _ wv ⟨rfl,hwv⟩
 subst wv
 by_cases a3:s.take 2=[62,61]
 have h2:=ZmR a3
 have hv:JT s=.ok ⟨4,0,s.take 2,0⟩:=by unfold JT;rw [if_pos (.inr (.inr a3))]
 rw [decide_eq_true a3]
 refine W ?_
 refine Z0D (r:=2) rfl rfl rfl (by omega) rfl ?_
 refine Ze (vs:=[(0,.int .i64 4),(2,str (s.take 2))]) rfl (tk2 _ _) rfl ?_
 refine Z0 (Z1 (us:=Zi.enc (⟨4,0,s.take 2,0⟩:Tkn)) rfl rfl rfl rfl (Zi.one _) e2 rfl) ?_
 rintro _ wz ⟨hT,e2'⟩
 refine W ?_
 refine J5 rfl rfl rfl e2' rfl rfl ?_
 exact .mk ⟨by rw [hv];rfl,hS.own hT (fun c hc=>.inr (by simp at hc;omega))⟩
 rw [decide_eq_false a3]
 have hno:¬ (s.take 2=[60,61]∨s.take 2=[33,61]∨s.take 2=[62,61]):=by
  rintro (h|h|h)
  exact a1 h
  exact a2 h
  exact a3 h
 repeat'(first|refine W1 ?_|omega|refine VG ?_ ?_<;>intro hg|refine VC ?_ ?_<;>intro hc)
 refine JD (i:=0) rfl rfl rfl (by omega) rfl ?_
 repeat'(first|refine W1 ?_|omega|refine VG ?_ ?_<;>intro hg|refine VC ?_ ?_<;>intro hc)
 rw [hget]
 refine CL rfl (Z9 rfl rfl) rfl (Z6w Z7n (s.getD 0 0) _) ?_
 rintro _ wv ⟨rfl,hwv⟩
 subst wv
 have him:=Z7H Z7n (s.getD 0 0)
 rw [decide_eq_decide] at him
 by_cases a4:s.getD 0 0∈Z7n
 have hv:JT s=.ok ⟨4,0,s.take 1,0⟩:=by unfold JT;rw [if_neg hno,if_pos a4]
 have h0:=him.2 a4
 focus repeat'(first|refine W1 ?_|omega|refine VG ?_ ?_<;>intro hg|refine VC ?_ ?_<;>intro hc)
 refine W ?_
 refine Z0D (r:=1) rfl rfl rfl (by omega) rfl ?_
 refine Ze (vs:=[(0,.int .i64 4),(2,str (s.take 1))]) rfl (tk2 _ _) rfl ?_
 refine Z0 (Z1 (us:=Zi.enc (⟨4,0,s.take 1,0⟩:Tkn)) rfl rfl rfl rfl (Zi.one _) e2 rfl) ?_
 rintro _ wz ⟨hT,e2'⟩
 refine W ?_
 refine J5 rfl rfl rfl e2' rfl rfl ?_
 exact .mk ⟨by rw [hv];rfl,hS.own hT (fun c hc=>.inr (by simp at hc;omega))⟩
 have hv:JT s=.err 20:=by unfold JT;rw [if_neg hno,if_neg a4]
 have h0:¬ 0≤Lib.indexByte Z7n (s.getD 0 0):=fun h=>a4 (him.1 h)
 focus repeat'(first|refine W1 ?_|omega|refine VG ?_ ?_<;>intro hg|refine VC ?_ ?_<;>intro hc)
 refine Ze (vs:=[]) rfl tk0 rfl ?_
 refine Z0 (Z1 (us:=Zi.enc (⟨0,0,[],0⟩:Tkn)) rfl rfl rfl rfl (Zi.one _) e2 rfl) ?_
 rintro _ wz ⟨hT,e2'⟩
 refine W ?_
 refine J5 rfl rfl rfl e2' rfl rfl ?_
 exact .mk ⟨by rw [hv];rfl,hS.own hT (fun c hc=>.inr (by simp at hc;omega))⟩
theorem Z8Q (s:Str) (w:World) (hl:s.length≤1000000):CC 208 #[str s] w fun r w'=>r=lxV (Z4I s)∧Stp [] w w':=by
 have hle:(s.takeWhile ldB).length≤s.length:=by
  have:=congrArg List.length (Z0a (p:=ldB) s)
  simp at this
  omega
 refine cW1 14 Tryz.func208 ?_
 refine W ?_
 refine Z3 Z6 rfl ?_
 rintro _ w1 ⟨b2,rfl,hb2,e2,hS⟩
 refine W ?_
 refine CL rfl (Z9 rfl rfl) rfl (Z5W (fun n=>Z9l n || Z5V n) ZmF s _ hl) ?_
 rintro _ w2 ⟨rfl,hT⟩
 rw [ZfW]
 replace e2:=e2.up hT
 replace hS:=hS.trans hT
 clear hT
 by_cases h12:12<(s.takeWhile ldB).length
 have hv:Z4I s=.err 2:=by unfold Z4I;simp only;rw [if_pos h12]
 focus repeat'(first|refine W1 ?_|omega|refine VG ?_ ?_<;>intro hg|refine VC ?_ ?_<;>intro hc)
 refine Ze (vs:=[]) rfl tk0 rfl ?_
 refine Z0 (Z1 (us:=Zi.enc (⟨0,0,[],0⟩:Tkn)) rfl rfl rfl rfl (Zi.one _) e2 rfl) ?_
 rintro _ wz ⟨hT,e2'⟩
 refine W ?_
 refine J5 rfl rfl rfl e2' rfl rfl ?_
 exact .mk ⟨by rw [hv];rfl,hS.own hT (fun c hc=>.inr (by simp at hc;omega))⟩
 have hv:Z4I s=.ok ⟨1,0,s.take (s.takeWhile ldB).length,0⟩:=by unfold Z4I;simp only;rw [if_neg h12]
 generalize (s.takeWhile ldB).length=q at *
 focus repeat'(first|refine W1 ?_|omega|refine VG ?_ ?_<;>intro hg|refine VC ?_ ?_<;>intro hc)
 refine Z0D (r:=q) rfl rfl rfl hle rfl ?_
 refine Ze (vs:=[(0,.int .i64 1),(2,str (s.take q))]) rfl (tk2 _ _) rfl ?_
 refine Z0 (Z1 (us:=Zi.enc (⟨1,0,s.take q,0⟩:Tkn)) rfl rfl rfl rfl (Zi.one _) e2 rfl) ?_
 rintro _ wz ⟨hT,e2'⟩
 refine W ?_
 refine J5 rfl rfl rfl e2' rfl rfl ?_
 exact .mk ⟨by rw [hv];rfl,hS.own hT (fun c hc=>.inr (by simp at hc;omega))⟩
theorem Zpi {P:Program} {n:Nat} {Q:Exit→Act→World→Prop} {e:Env} {w:World} {ops:Array Oper} {rest:List Oper} {d₀:Nat} {ty:TypeId} {pos:String} {af:Array Edge} {t u p:Nat} {x y:Operand} {v:Value} {ds:TypeDesc} [hu:Und P t ds] (hds:∃ l,ds=.interface l) (hx:ev e x=some (.iface p v)) (hy:ev e y=some .nilIface) (hdn:Nat.blt d₀ n=true) (kk:WL P n ops Q rest ((d₀,.bool true) :: e) w) :
 WL P n ops Q (⟨some d₀,.binOp .neq t x y u,ty,pos,af,none⟩ :: rest) e w:=by
 refine Z7 (v:=.bool true) ⟨fun a ha=>?_⟩ hdn kk
 obtain ⟨l,rfl⟩:=hds
 simp only [execOp,ha.ev hx,ha.ev hy]
 have:=run_equal_held_nil (P:=P) (w:=w) t p v (by rw [hu.h,Program.methodsAt,hu.h])
 simp [go_sem,binOp,this]
theorem Zgp {P:Program} {n:Nat} {Q:Exit→Act→World→Prop} {e:Env} {w:World} {ops:Array Oper} {rest:List Oper} {d₀:Nat} {ty:TypeId} {pos:String} {af:Array Edge} {t u:Nat} {x:Operand} {ds:TypeDesc} [hu:Und P t ds] (hds:∃ l,ds=.interface l) (hx:ev e x=some .nilIface) (hdn:Nat.blt d₀ n=true) (kk:WL P n ops Q rest ((d₀,.bool false) :: e) w) :
 WL P n ops Q (⟨some d₀,.binOp .neq t x (.const .nilIface) u,ty,pos,af,none⟩ :: rest) e w:=by
 refine Z7 (v:=.bool false) ⟨fun a ha=>?_⟩ hdn kk
 obtain ⟨l,rfl⟩:=hds
 have hy:a.eval (.const .nilIface)=.nilIface:=rfl
 simp only [execOp,ha.ev hx,hy]
 have:=run_equal_nil_nil (P:=P) (w:=w) t (by rw [hu.h,Program.methodsAt,hu.h])
 simp [go_sem,binOp,eqGuard,this]
theorem Ze7 (w:World) (el:TypeId) (t:ByteArray):Stp [] w (Lib.bytesWorld w el t):=by
 refine ⟨rfl,rfl,rfl,?_,fun b hb _=>Lib.bytesWorld_at_old w el _ b hb⟩
 rw [Lib.bytesWorld_size]
 omega
theorem Ze8 (t:Str) (ev:Value) (w:World) (ht:t.all ZV=true) (hne:t≠[]) (hl:t.length≤1000000) (hv4:w.cell? ⟨5,0,none⟩=some ev) (hev:ev=.nilIface∨∃ te pe,ev=.iface te pe) :
 CC 271 #[str t] w fun r w'=>(if Z0z t≤9223372036854775807 then r=.tuple #[.int .i64 (Z0z t:Int),.nilIface] else ∃ z p v,r=.tuple #[.int .i64 z,.iface p v])∧Stp [] w w':=by
 have ha:=Zb0 hne ht
 by_cases h:Z0z t≤9223372036854775807
 rw [if_pos h] at ha
 refine (Tryz.strconv_Atoi_ok ⟨t.toArray⟩ (by rw [Z0C];omega) (Z0z t:Int) (by simpa using ha) w).mono ?_
 rintro e w' ⟨rfl,hw⟩
 refine .mk ⟨by rw [if_pos h],?_⟩
 rcases hw with rfl|⟨x,rfl⟩
 exact Stp.refl _ _
 exact Ze7 _ _ _
 rw [if_neg h] at ha
 refine (Tryz.strconv_Atoi_range ⟨t.toArray⟩ (by rw [Z0C];omega) (by simpa using ha) ev w hv4 hev).mono ?_
 rintro e w' ⟨N,rfl,_,_,hw⟩
 exact .mk ⟨by rw [if_neg h];exact ⟨_,_,_,rfl⟩,Stp.of_below hw⟩
theorem Z6x (s:Str) (ev:Value) (w:World) (hl:s.length≤1000000) (hd:ZV (s.getD 0 0)=true) (hne:s≠[]) (hv4:w.cell? ⟨5,0,none⟩=some ev) (hev:ev=.nilIface∨∃ te pe,ev=.iface te pe):CC 210 #[str s] w fun r w'=>r=lxV (Z3z s)∧Stp [] w w':=by
 have hle:(s.takeWhile ZV).length≤s.length:=by
  have:=congrArg List.length (Z0a (p:=ZV) s)
  simp at this
  omega
 have hall:(s.takeWhile ZV).all ZV=true:=XD.2 fun c hc=>Z0Y hc
 have htk:=Z0a (p:=ZV) s
 have hpos:s.takeWhile ZV≠[]:=by
  cases s with
  | nil=>exact absurd rfl hne
  | cons a r=>simp only [Xm] at hd;simp [hd]
 have hp0:(s.takeWhile ZV).length≠0:=fun h=>hpos (XE.1 h)
 have hnl:Z3z s=if 1<(s.takeWhile ZV).length∧(s.takeWhile ZV).getD 0 0=48 then .err 20 else if 2147483647<Z0z (s.takeWhile ZV) then .err 5 else .ok ⟨2,0,s.takeWhile ZV,Z0z (s.takeWhile ZV)⟩:=rfl
 rw [hnl]
 have hfd:=ZdR s
 refine cW1 35 Tryz.func210 ?_
 refine W ?_
 refine Z3 Z6 rfl ?_
 rintro _ w1 ⟨b2,rfl,hb2,e2,hS⟩
 refine W ?_
 refine CL rfl (Z9 rfl rfl) rfl (Z5W Z5V Z4u s _ hl) ?_
 rintro _ w2 ⟨rfl,hT⟩
 rw [hfd]
 replace e2:=e2.up hT
 replace hS:=hS.trans hT
 clear hT
 refine Z0D (r:=(s.takeWhile ZV).length) rfl rfl rfl hle rfl ?_
 rw [htk]
 have hl2:(s.takeWhile ZV).length≤1000000:=Xh hle hl
 clear hnl htk hle hfd
 generalize s.takeWhile ZV=t at *
 have hget:Z0e t 0=((t.getD 0 0).toNat:Int):=rfl
 have h48:Z0e t 0=48↔t.getD 0 0=48:=by
  rw [hget]
  constructor
  intro h
  have h48:(48:UInt8).toNat=48:=rfl
  exact UInt8.toNat_inj.1 (by omega)
  intro h;rw [h];rfl
 by_cases hz:1<t.length∧t.getD 0 0=48
 rw [if_pos hz]
 have hz1:=hz.1
 have hz2:=h48.2 hz.2
 focus repeat'(first|refine W1 ?_|omega|refine VG ?_ ?_<;>intro hg|refine VC ?_ ?_<;>intro hc)
 refine JD (i:=0) rfl rfl rfl (by omega) rfl ?_
 focus repeat'(first|refine W1 ?_|omega|refine VG ?_ ?_<;>intro hg|refine VC ?_ ?_<;>intro hc)
 refine Ze (vs:=[]) rfl tk0 rfl ?_
 refine Z0 (Z1 (us:=Zi.enc (⟨0,0,[],0⟩:Tkn)) rfl rfl rfl rfl (Zi.one _) e2 rfl) ?_
 rintro _ wz ⟨hT,e2'⟩
 refine W ?_
 refine J5 rfl rfl rfl e2' rfl rfl ?_
 exact .mk ⟨rfl,hS.own hT (fun c hc=>.inr (by simp at hc;omega))⟩
 rw [if_neg hz]
 refine W ?_
 refine ZcJ (σ:=Unit) (fun _=>[(0,str s),(2,.pointer (some ⟨b2,0,none⟩)),(4,str t),(18,.bool false)]) (fun _ w'=>w'=w2) ?_ ?_
 by_cases h1:1<t.length
 have h0:¬ Z0e t 0=48:=fun h=>hz ⟨h1,h48.1 h⟩
 focus repeat'(first|refine W1 ?_|omega|refine VG ?_ ?_<;>intro hg|refine VC ?_ ?_<;>intro hc)
 refine JD (i:=0) rfl rfl rfl (by omega) rfl ?_
 focus repeat'(first|refine W1 ?_|omega|refine VG ?_ ?_<;>intro hg|refine VC ?_ ?_<;>intro hc)
 rw [decide_eq_false h0]
 exact ZI () ⟨rfl,rfl,rfl,rfl,trivial⟩ rfl
 focus repeat'(first|refine W1 ?_|omega|refine VG ?_ ?_<;>intro hg|refine VC ?_ ?_<;>intro hc)
 exact ZI () ⟨rfl,rfl,rfl,rfl,trivial⟩ rfl
 rintro _ wv hwv
 subst wv
 refine W ?_
 refine CL rfl (Zp rfl) rfl (Ze8 t ev _ hall hpos hl2 (hS.cell (by simp) hv4) hev) ?_
 rintro _ w3 ⟨hr,hT⟩
 replace e2:=e2.up hT
 replace hS:=hS.trans hT
 clear hT
 by_cases hmax:Z0z t≤9223372036854775807
 rw [if_pos hmax] at hr
 subst hr
 refine W ?_
 refine Zgp ⟨_,rfl⟩ rfl rfl ?_
 by_cases hbig:2147483647<Z0z t
 rw [if_pos hbig]
 focus repeat'(first|refine W1 ?_|omega|refine VG ?_ ?_<;>intro hg|refine VC ?_ ?_<;>intro hc)
 refine Ze (vs:=[]) rfl tk0 rfl ?_
 refine Z0 (Z1 (us:=Zi.enc (⟨0,0,[],0⟩:Tkn)) rfl rfl rfl rfl (Zi.one _) e2 rfl) ?_
 rintro _ wz ⟨hT,e2'⟩
 refine W ?_
 refine J5 rfl rfl rfl e2' rfl rfl ?_
 exact .mk ⟨rfl,hS.own hT (fun c hc=>.inr (by simp at hc;omega))⟩
 rw [if_neg hbig]
 focus repeat'(first|refine W1 ?_|omega|refine VG ?_ ?_<;>intro hg|refine VC ?_ ?_<;>intro hc)
 refine Ze (vs:=[(0,.int .i64 2),(2,str t),(3,.int .i64 (Z0z t:Int))]) rfl (tk3 _ _ _) rfl ?_
 refine Z0 (Z1 (us:=Zi.enc (⟨2,0,t,Z0z t⟩:Tkn)) rfl rfl rfl rfl (Zi.one _) e2 rfl) ?_
 rintro _ wz ⟨hT,e2'⟩
 refine W ?_
 refine J5 rfl rfl rfl e2' rfl rfl ?_
 exact .mk ⟨rfl,hS.own hT (fun c hc=>.inr (by simp at hc;omega))⟩
 rw [if_neg hmax] at hr
 obtain ⟨z,p,v,rfl⟩:=hr
 rw [if_pos (by omega)]
 refine W ?_
 refine Zpi ⟨_,rfl⟩ rfl rfl rfl ?_
 focus repeat'(first|refine W1 ?_|omega|refine VG ?_ ?_<;>intro hg|refine VC ?_ ?_<;>intro hc)
 refine Ze (vs:=[]) rfl tk0 rfl ?_
 refine Z0 (Z1 (us:=Zi.enc (⟨0,0,[],0⟩:Tkn)) rfl rfl rfl rfl (Zi.one _) e2 rfl) ?_
 rintro _ wz ⟨hT,e2'⟩
 refine W ?_
 refine J5 rfl rfl rfl e2' rfl rfl ?_
 exact .mk ⟨rfl,hS.own hT (fun c hc=>.inr (by simp at hc;omega))⟩
theorem Z6y {z:Int} (h0:0≤z) (h1:z<2147483648):IntKind.i32.wrap z=z:=by
 rw [IntKind.wrap_i32]
 omega
theorem Zij:∀ i,i<Jk.length→(Jk.getD i 0).toNat<128:=by decide
theorem Zik {s:Str} (h:11≤s.length) (hf:∀ j,j<11→Z4E (Jk.getD j 0) (s.getD j 0)=true):((Jk.zip s).all fun p=>Z4E p.1 p.2)=true:=by
 rw [XD]
 intro p hp
 obtain ⟨i,hi,rfl⟩:=Xs hp
 have h1:i<11:=by
  have:Jk.length=11:=rfl
  simp at hi
  omega
 have:=hf i h1
 rw [List.getElem_zip]
 have e1:Jk.getD i 0=Jk[i]'(by show i<11;omega):=by
  have:i<Jk.length:=h1
  simp [List.getD,this]
 have e2:s.getD i 0=s[i]'(by omega):=by
  have:i<s.length:=by omega
  simp [List.getD,this]
 rw [e1,e2] at this
 exact this
theorem Z8R {s:Str} {j:Nat} (h:11≤s.length) (hj:j<11) (hf:Z4E (Jk.getD j 0) (s.getD j 0)=false):((Jk.zip s).all fun p=>Z4E p.1 p.2)=false:=by
 cases hb:((Jk.zip s).all fun p=>Z4E p.1 p.2) with
 | false=>rfl
 | true=>
   rw [XD] at hb
   have hl:j<(Jk.zip s).length:=by
    have:Jk.length=11:=rfl
    simp
    omega
   have:=hb _ (Xg hl)
   rw [List.getElem_zip] at this
   have e1:Jk.getD j 0=Jk[j]'(by show j<11;omega):=by
    have:j<Jk.length:=hj
    simp [List.getD,this]
   have e2:s.getD j 0=s[j]'(by omega):=by
    have:j<s.length:=by omega
    simp [List.getD,this]
   rw [e1,e2] at hf
   rw [hf] at this
   cases this
set_option maxHeartbeats 1000000 in
theorem Zd6 (s:Str) (w:World) (hLG:Z0M w) (hl:s.length≤1000000):CC 211 #[str s] w fun r w'=>r=lxV (Z8a s)∧Stp [] w w':=by
 have h5w:1<w.heap.size:=by have:=block_lt_of_cell (hLG 0 0 rfl);simpa using this
 refine cW1 52 Tryz.func211 ?_
 refine W ?_
 refine Z3 Z6 rfl ?_
 rintro _ w1 ⟨b2,rfl,hb2,e2,hS⟩
 by_cases h11:s.length<11
 have hv:Z8a s=.err 20:=by unfold Z8a;rw [if_pos h11]
 rw [hv]
 focus repeat'(first|refine W1 ?_|omega|refine VG ?_ ?_<;>intro hg|refine VC ?_ ?_<;>intro hc)
 refine Ze (vs:=[]) rfl tk0 rfl ?_
 refine Z0 (Z1 (us:=Zi.enc (⟨0,0,[],0⟩:Tkn)) rfl rfl rfl rfl (Zi.one _) e2 rfl) ?_
 rintro _ wz ⟨hT,e2'⟩
 refine W ?_
 refine J5 rfl rfl rfl e2' rfl rfl ?_
 exact .mk ⟨rfl,hS.own hT (fun c hc=>.inr (by simp at hc;omega))⟩
 · have hv0:Z8a s=if ((Jk.zip s).all fun p=>Z4E p.1 p.2) then (let d:=Z1w ((s.take 11).drop 1);if d.2=0 then .ok ⟨3,0,s.take 11,d.1⟩ else .err 5) else .err 20:=by unfold Z8a;rw [if_neg h11]
   rw [hv0]
   replace hLG:=hLG.up hS
   repeat'(first|refine W1 ?_|omega|refine VG ?_ ?_<;>intro hg|refine VC ?_ ?_<;>intro hc)
   refine Z3 (Zas (s:=Jk) rfl) rfl ?_
   rintro _ w2 ⟨bi,rfl,hbi,hI,hT⟩
   have hbiw:w.heap.size≤bi:=Xh hS.size hbi
   have ni2:b2≠bi:=by have:=e2.lt;omega
   have h5i:(1:Nat)≠bi:=by omega
   replace e2:=e2.up hT
   replace hLG:=hLG.up hT
   replace hS:=hS.trans hT
   clear hT
   refine W ?_
   refine ZD (σ:=Nat) (fun q=>[(0,str s),(2,.pointer (some ⟨b2,0,none⟩)),(13,.pointer (some ⟨bi,0,none⟩))])
    (fun q w'=>q≤11∧Itr w' bi Jk q∧(∀ j,j<q→Z4E (Jk.getD j 0) (s.getD j 0)=true)∧(∃ cs:List Value,cs.length=4∧Blk w' b2 167 cs)∧Z0M w'∧Stp [] w w')
    (fun q=>11 - q) 0 ⟨rfl,rfl,rfl,trivial⟩ ⟨Xy _,hI,fun j h=>absurd h (XI _),⟨_,rfl,e2⟩,hLG,hS⟩ ?_
   clear hI e2 hLG hS
   rintro q w3 ⟨hq,hI,hfit,⟨cs2,hc2,e2⟩,hLG,hS⟩
   match cs2,hc2 with
   | [q0,q1,q2,q3],_=>
   have hfl:Jk.length=11:=rfl
   by_cases hlt:q<11
   have hqf:q<Jk.length:=by omega
   have hlo:=Zij q hqf
   have hdec:dec Jk q=((Jk.getD q 0).toNat,1):=by
    have e1:Jk.getD q 0=Jk[q]'hqf:=by simp [List.getD,hqf]
    rw [e1] at hlo ⊢
    exact Z4t hqf hlo
   refine W ?_
   refine Z3 (ZcU rfl hI hqf) rfl ?_
   rintro _ w4 ⟨rfl,hI4,hT⟩
   rw [hdec] at hI4 ⊢
   dsimp only at hI4 ⊢
   replace e2:=e2.ext hT (by simpa using ni2)
   replace hLG:=hLG.ext hT (by simpa using h5i)
   replace hS:=hS.own hT (fun c hc=>.inr (by simp at hc;omega))
   clear hT hI
   have hbr:=Z75 s q
   focus repeat'(first|refine W1 ?_|omega|refine VG ?_ ?_<;>intro hg|refine VC ?_ ?_<;>intro hc)
   refine Z7 (Z4q (b:=Z0e s q) rfl (Z6y hbr.1 (by omega))) rfl ?_
   have hby:Z0e s q=((s.getD q 0).toNat:Int):=rfl
   by_cases hc100:Jk.getD q 0=100
   rw [hc100]
   have h100:(((100:UInt8).toNat:Nat):Int)=100:=rfl
   rw [h100]
   have hfq:Z4E (Jk.getD q 0) (s.getD q 0)=ZV (s.getD q 0):=by unfold Z4E;rw [if_pos hc100]
   focus repeat'(first|refine W1 ?_|omega|refine VG ?_ ?_<;>intro hg|refine VC ?_ ?_<;>intro hc)
   rw [hby]
   refine CL rfl (Zp rfl) rfl (Z4u (s.getD q 0).toNat _) ?_
   rintro _ wv ⟨rfl,hwv⟩
   subst wv
   have hdg:Z5V (s.getD q 0).toNat=ZV (s.getD q 0):=rfl
   rw [hdg]
   cases hd:ZV (s.getD q 0)
   have hz:=Z8R (s:=s) (by omega) hlt (by rw [hfq];exact hd)
   rw [if_neg (by rw [hz];decide)]
   focus repeat'(first|refine W1 ?_|omega|refine VG ?_ ?_<;>intro hg|refine VC ?_ ?_<;>intro hc)
   refine Ze (vs:=[]) rfl tk0 rfl ?_
   refine Z0 (Z1 (us:=Zi.enc (⟨0,0,[],0⟩:Tkn)) rfl rfl rfl rfl (Zi.one _) e2 rfl) ?_
   rintro _ wz ⟨hT,e2'⟩
   refine W ?_
   refine J5 rfl rfl rfl e2' rfl rfl ?_
   exact .mk ⟨rfl,hS.own hT (fun c hc=>.inr (by simp at hc;omega))⟩
   focus repeat'(first|refine W1 ?_|omega|refine VG ?_ ?_<;>intro hg|refine VC ?_ ?_<;>intro hc)
   refine Zr (q+1) ⟨rfl,rfl,rfl,trivial⟩ ⟨hlt,hI4,fun j hj=>?_,⟨_,rfl,e2⟩,hLG,hS⟩ (by omega)
   rcases Yaj j q with h|h
   exact hfit j h
   obtain rfl:j=q:=by omega
   rw [hfq];exact hd
   have hne:¬ ((Jk.getD q 0).toNat:Int)=100:=fun h=>hc100 (by
    have h100:(100:UInt8).toNat=100:=rfl
    exact UInt8.toNat_inj.1 (by omega))
   have hfq:Z4E (Jk.getD q 0) (s.getD q 0)=decide (s.getD q 0=Jk.getD q 0):=by unfold Z4E;rw [if_neg hc100]
   have heq:Z0e s q=((Jk.getD q 0).toNat:Int)↔s.getD q 0=Jk.getD q 0:=by
    rw [hby]
    constructor
    intro h;exact UInt8.toNat_inj.1 (by omega)
    intro h;rw [h]
   by_cases hx:Z0e s q=((Jk.getD q 0).toNat:Int)
   focus repeat'(first|refine W1 ?_|omega|refine VG ?_ ?_<;>intro hg|refine VC ?_ ?_<;>intro hc)
   refine Zr (q+1) ⟨rfl,rfl,rfl,trivial⟩ ⟨hlt,hI4,fun j hj=>?_,⟨_,rfl,e2⟩,hLG,hS⟩ (by omega)
   rcases Yaj j q with h|h
   exact hfit j h
   obtain rfl:j=q:=by omega
   rw [hfq];exact decide_eq_true (heq.1 hx)
   have hz:=Z8R (s:=s) (by omega) hlt (by rw [hfq];exact decide_eq_false (fun h=>hx (heq.2 h)))
   rw [if_neg (by rw [hz];decide)]
   focus repeat'(first|refine W1 ?_|omega|refine VG ?_ ?_<;>intro hg|refine VC ?_ ?_<;>intro hc)
   refine Ze (vs:=[]) rfl tk0 rfl ?_
   refine Z0 (Z1 (us:=Zi.enc (⟨0,0,[],0⟩:Tkn)) rfl rfl rfl rfl (Zi.one _) e2 rfl) ?_
   rintro _ wz ⟨hT,e2'⟩
   refine W ?_
   refine J5 rfl rfl rfl e2' rfl rfl ?_
   exact .mk ⟨rfl,hS.own hT (fun c hc=>.inr (by simp at hc;omega))⟩
   have hq11:q=11:=by omega
   subst hq11
   have hz:=Zik (s:=s) (by omega) hfit
   rw [if_pos hz]
   refine W ?_
   refine Z3 (Z7l rfl hI (by omega)) rfl ?_
   rintro _ wv ⟨rfl,hwv⟩
   subst wv
   refine W ?_
   refine Z5d (l:=1) (r:=11) rfl rfl rfl rfl rfl (by omega) (by omega) rfl ?_
   refine CL rfl (Zp rfl) rfl (Zc8 _ _ hLG (by simp;omega)) ?_
   rintro _ w5 ⟨rfl,hT⟩
   replace e2:=e2.up hT
   replace hS:=hS.trans hT
   clear hT
   dsimp only
   by_cases h0:(Z1w ((s.take 11).drop 1)).2=0
   rw [if_pos h0]
   focus repeat'(first|refine W1 ?_|omega|refine VG ?_ ?_<;>intro hg|refine VC ?_ ?_<;>intro hc)
   refine Z0D (r:=11) rfl rfl rfl (by omega) rfl ?_
   refine W ?_
   refine Ze (vs:=[(0,.int .i64 3),(2,str (s.take 11)),(3,.int .i64 (Z1w ((s.take 11).drop 1)).1)]) rfl (tk3 _ _ _) rfl ?_
   refine Z0 (Z1 (us:=Zi.enc (⟨3,0,s.take 11,(Z1w ((s.take 11).drop 1)).1⟩:Tkn)) rfl rfl rfl rfl (Zi.one _) e2 rfl) ?_
   rintro _ wz ⟨hT,e2'⟩
   refine W ?_
   refine J5 rfl rfl rfl e2' rfl rfl ?_
   exact .mk ⟨rfl,hS.own hT (fun c hc=>.inr (by simp at hc;omega))⟩
   rw [if_neg h0]
   focus repeat'(first|refine W1 ?_|omega|refine VG ?_ ?_<;>intro hg|refine VC ?_ ?_<;>intro hc)
   refine Ze (vs:=[]) rfl tk0 rfl ?_
   refine Z0 (Z1 (us:=Zi.enc (⟨0,0,[],0⟩:Tkn)) rfl rfl rfl rfl (Zi.one _) e2 rfl) ?_
   rintro _ wz ⟨hT,e2'⟩
   refine W ?_
   refine J5 rfl rfl rfl e2' rfl rfl ?_
   exact .mk ⟨rfl,hS.own hT (fun c hc=>.inr (by simp at hc;omega))⟩
end Go.Proofs.YtjdjdoefppebkaaGreatDoor
namespace Go.Eng
open Go Go.RowKit Go.Proofs
theorem Z3h {s:Str} {e:Int} (h:JP s=.err e):e≠0:=by
 unfold JP at h
 simp only at h
 split at h
 unfold Z4I at h
 simp only at h
 split at h<;>simp at h
 omega
 split at h
 unfold Z3z at h
 simp only at h
 split at h
 simp at h;omega
 split at h<;>simp at h
 omega
 split at h
 unfold Z8a at h
 split at h
 simp at h;omega
 split at h
 simp only at h
 split at h<;>simp at h
 omega
 simp at h;omega
 unfold JT at h
 split at h
 simp at h
 split at h<;>simp at h
 omega
theorem Zil {s:Str} (h:s.getD 0 0=35):1≤nlM s:=by
 cases s with
 | nil=>simp at h
 | cons a r=>
   simp only [Xm] at h
   subst h
   unfold nlM
   have h0:0<(35 :: r:Str).length:=by simp
   have hl:(35 :: r:Str).length=r.length+1:=by simp
   rw [hl]
   unfold Z00
   rw [if_pos h0,Z4t h0 (by show (35:UInt8).toNat<128;decide)]
   simp only
   have hn:Z7o ((35 :: r:Str)[0]).toNat=true:=by show Z7o (35:UInt8).toNat=true;decide
   rw [if_pos hn]
   exact Z8y _ _ _ _ (by simp)
end Go.Eng
namespace Go.Proofs.YtjdjdoefppebkaaGreatDoor
open Go Go.Eng Go.RowKit Go.Proofs
theorem Z4f (t:Tkn) (w:World):(Instr.buildSlice 168 1 #[(0,.agg (Zi.enc t).toArray)]).run Tryz.prog w=.ok (.slice (some ⟨w.heap.size,0,none⟩) 1 1) (w.alloc (.cells (Zi.enc t).toArray 167)):=by kernel_rfl
def TkV (w w':World) (r:Value):Tks→Prop
 | .err a c=>r=.tuple #[.slice none 0 0,.int .i64 a,.int .i64 c]
 | .ok l=>∃ tv,r=.tuple #[tv,.int .i64 0,.int .i64 0]∧Z0y 167 w w' tv l
set_option maxHeartbeats 4000000 in
theorem Z7J (s:Str) (ev:Value) (w:World) (hLG:Z0M w) (hv4:w.cell? ⟨5,0,none⟩=some ev) (hev:ev=.nilIface∨∃ te pe,ev=.iface te pe) (hl:s.length≤1000000) :
 CC 117 #[str s] w fun r w'=>TkV w w' r (Z14 s)∧Stp [] w w':=by
 unfold Z14
 refine cW1 72 Tryz.func117 ?_
 refine W ?_
 refine Z7F ?_
 by_cases h4:4000<s.length
 · rw [if_pos h4]
   repeat'(first|refine W1 ?_|omega|refine VG ?_ ?_<;>intro hg|refine VC ?_ ?_<;>intro hc)
   repeat (first|refine Z02 ?_|refine W1 ?_)
   refine WR ?_
   exact .mk ⟨rfl,Stp.refl _ _⟩
 rw [if_neg h4]
 generalize hR:JU nlM s (s.length+1) 0 []=R
 repeat'(first|refine W1 ?_|omega|refine VG ?_ ?_<;>intro hg|refine VC ?_ ?_<;>intro hc)
 refine Zgo ?_
 repeat'(first|refine W1 ?_|omega|refine VG ?_ ?_<;>intro hg|refine VC ?_ ?_<;>intro hc)
 refine ZD (σ:=Nat×Nat×List Tkn×Value) (fun q=>[(0,str s),(5,q.2.2.2),(6,.int .i64 (q.2.1:Int))])
  (fun q w'=>JU nlM s q.1 q.2.1 q.2.2.1=R∧s.length<q.2.1+q.1∧q.2.1≤s.length∧q.2.2.1.length≤q.2.1∧Z0y 167 w w' q.2.2.2 q.2.2.1)
  (fun q=>q.1) (s.length+1,0,[],.slice none 0 0) ⟨rfl,rfl,rfl,trivial⟩ ⟨hR,by dsimp only;omega,Xy _,Xo _,Z0y.nil⟩ ?_
 clear hR
 rintro ⟨f,q,l,lv⟩ w1 ⟨hR,hf,hq,hll,hrow⟩
 dsimp only at hR hf hq hll hrow ⊢
 have hrow0:=hrow
 cases f with
 | zero=>omega
 | succ f=>
 simp only [JU] at hR
 by_cases hlt:q<s.length
 rotate_left
 · rw [if_neg hlt] at hR
   subst hR
   repeat'(first|refine W1 ?_|omega|refine VG ?_ ?_<;>intro hg|refine VC ?_ ?_<;>intro hc)
   refine Ze (vs:=[(0,.int .i64 0),(1,.int .i64 (q:Int))]) rfl (tk1 _ _) rfl ?_
   refine Z3 (Z2 (vs:=[(0,.agg (Zi.enc (⟨0,(q:Int),[],0⟩:Tkn)).toArray)]) rfl (Z4f _)) rfl ?_
   intro bv w3 hN
   have hbv:SlV (ob lv) w3 bv [(⟨0,(q:Int),[],0⟩:Tkn)]:=hN.slv (fun b hb=>(hrow.ob_le b hb).2) rfl rfl (by simp [maxLen])
   replace hrow:=hrow.up (Zc.stp hN)
   clear hN
   refine Z3 (Z2E rfl (by decide) rfl rfl hrow hbv (by simp only [Xc,Xe];omega) (by simp only [Xc,Xe,maxLen];omega)) rfl ?_
   rintro lv' w4 ⟨hrow',hT,hown⟩
   repeat'(first|refine W1 ?_|omega|refine VG ?_ ?_<;>intro hg|refine VC ?_ ?_<;>intro hc)
   repeat (first|refine Z02 ?_|refine W1 ?_)
   refine WR ?_
   exact .mk ⟨⟨lv',rfl,hrow'⟩,hrow'.2⟩
 rw [if_pos hlt] at hR
 have hne:s.drop q≠[]:=fun h=>by have:=congrArg List.length h;simp at this;omega
 have hdl:(s.drop q).length≠0:=fun h=>hne (XE.1 h)
 have hdl2:(s.drop q).length≤1000000:=by simp;omega
 have hLG1:=hLG.up hrow.2
 have hv41:=hrow.2.cell (by simp) hv4
 repeat'(first|refine W1 ?_|omega|refine VG ?_ ?_<;>intro hg|refine VC ?_ ?_<;>intro hc)
 refine Z9U (l:=q) rfl rfl rfl (by omega) rfl ?_
 repeat'(first|refine W1 ?_|omega|refine VG ?_ ?_<;>intro hg|refine VC ?_ ?_<;>intro hc)
 have hby:Z0e (s.drop q) 0=(((s.drop q).getD 0 0).toNat:Int):=rfl
 have hbr:=Z75 (s.drop q) 0
 refine JD (i:=0) rfl rfl rfl (by omega) rfl ?_
 refine Z7 (Z4q (b:=Z0e (s.drop q) 0) rfl (Z6y hbr.1 (by omega))) rfl ?_
 rw [hby]
 repeat'(first|refine W1 ?_|omega|refine VG ?_ ?_<;>intro hg|refine VC ?_ ?_<;>intro hc)
 refine CL rfl (Z9 rfl rfl) rfl (Z9w ((s.drop q).getD 0 0) _) ?_
 rintro _ w2 ⟨rfl,hT⟩
 replace hrow:=hrow.up hT
 replace hLG1:=hLG1.up hT
 replace hv41:=hT.cell (by simp) hv41
 have hrow0:=hrow
 clear hT
 cases hsp:Z1D ((s.drop q).getD 0 0)
 rotate_left
 · rw [if_pos hsp] at hR
   repeat'(first|refine W1 ?_|omega|refine VG ?_ ?_<;>intro hg|refine VC ?_ ?_<;>intro hc)
   repeat (first|refine Z0c ?_|refine W1 ?_)
   exact Zr (f,q+1,l,lv) ⟨rfl,rfl,rfl,trivial⟩ ⟨hR,by dsimp only;omega,by dsimp only;omega,by dsimp only;omega,hrow⟩ (by dsimp only;omega)
 rw [if_neg (by rw [hsp];decide)] at hR
 have hns:(s.drop q).getD 0 0≠32:=fun h=>by rw [h] at hsp;exact absurd hsp (by decide)
 by_cases h35:(s.drop q).getD 0 0=35
 · rw [if_pos h35] at hR
   have hnp:=Zil h35
   have hnl:nlM (s.drop q)≤(s.drop q).length:=Z8x _ _ _ _
   have hnl2:(s.drop q).length=s.length - q:=by simp
   rw [h35]
   have h35':(((35:UInt8).toNat:Nat):Int)=35:=rfl
   rw [h35']
   repeat'(first|refine W1 ?_|omega|refine VG ?_ ?_<;>intro hg|refine VC ?_ ?_<;>intro hc)
   refine CL rfl (Z9 rfl rfl) rfl (Z5W Z7o ZmE (s.drop q) _ hdl2) ?_
   rintro _ w3 ⟨rfl,hT⟩
   replace hrow:=hrow.up hT
   have hnlm:Z00 (s.drop q) Z7o (s.drop q).length 0=nlM (s.drop q):=rfl
   rw [hnlm]
   repeat'(first|refine W1 ?_|omega|refine VG ?_ ?_<;>intro hg|refine VC ?_ ?_<;>intro hc)
   repeat (first|refine Z0c ?_|refine W1 ?_)
   exact Zr (f,q+nlM (s.drop q),l,lv) ⟨rfl,rfl,rfl,trivial⟩ ⟨hR,by dsimp only;omega,by dsimp only;omega,by dsimp only;omega,hrow⟩ (by dsimp only;omega)
 rw [if_neg h35] at hR
 have hn35:¬ ((((s.drop q).getD 0 0).toNat:Nat):Int)=35:=fun h=>h35 (by
  have h35':(35:UInt8).toNat=35:=rfl
  exact UInt8.toNat_inj.1 (by omega))
 repeat'(first|refine W1 ?_|omega|refine VG ?_ ?_<;>intro hg|refine VC ?_ ?_<;>intro hc)
 refine CL rfl (Zp rfl) rfl (Z7p ((s.drop q).getD 0 0).toNat _) ?_
 rintro _ wv ⟨rfl,hwv⟩
 subst wv
 have hlb:Z9l ((s.drop q).getD 0 0).toNat=Z3y ((s.drop q).getD 0 0):=rfl
 rw [hlb]
 cases hlt1:Z3y ((s.drop q).getD 0 0)
 rotate_left
 · have hrd:JP (s.drop q)=Z4I (s.drop q):=by unfold JP;simp only [hlt1,if_true]
   repeat'(first|refine W1 ?_|omega|refine VG ?_ ?_<;>intro hg|refine VC ?_ ?_<;>intro hc)
   cases hr:JP (s.drop q) with
   | err e=>
     rw [hr] at hR
     subst hR
     have he:=Z3h hr
     refine CL rfl (Zp rfl) rfl (Z8Q (s.drop q) _ hdl2) ?_
     rintro _ w4 ⟨rfl,hT⟩
     rw [← hrd,hr]
     simp only [lxV]
     repeat'(first|refine W1 ?_|omega|refine VG ?_ ?_<;>intro hg|refine VC ?_ ?_<;>intro hc)
     refine Z3 Z6 rfl ?_
     rintro _ w5 ⟨b10,rfl,hb10,e10,hT2⟩
     refine Z0 (Z1 (us:=Zi.enc (⟨0,0,[],0⟩:Tkn)) rfl rfl rfl rfl (Zi.one _) e10 rfl) ?_
     rintro _ w6 ⟨hT3,e10'⟩
     have hSS:=(hrow.2.trans hT).trans (hT2.own hT3 (fun c hc=>.inr (by simp at hc;omega)))
     repeat'(first|refine W1 ?_|omega|refine VG ?_ ?_<;>intro hg|refine VC ?_ ?_<;>intro hc)
     repeat (first|refine Z02 ?_|refine W1 ?_)
     refine WR ?_
     exact .mk ⟨rfl,hSS⟩
   | ok t=>
     rw [hr] at hR
     simp only at hR
     have hrok:=Z39 hne hns hr
     have htpos:t.text.length≠0:=fun h=>hrok.1.text (XE.1 h)
     have htle:t.text.length≤s.length - q:=by have:=hrok.2.1;simpa using this
     refine CL rfl (Zp rfl) rfl (Z8Q (s.drop q) _ hdl2) ?_
     rintro _ w4 ⟨rfl,hT⟩
     rw [← hrd,hr]
     simp only [lxV]
     replace hrow:=hrow.up hT
     clear hT
     repeat'(first|refine W1 ?_|omega|refine VG ?_ ?_<;>intro hg|refine VC ?_ ?_<;>intro hc)
     refine Z3 Z6 rfl ?_
     rintro _ w5 ⟨b10,rfl,hb10,e10,hT⟩
     refine Z0 (Z1 (us:=Zi.enc t) rfl rfl rfl rfl (Zi.one _) e10 rfl) ?_
     rintro _ w6 ⟨hT2,e10'⟩
     have hTT:=hT.own hT2 (fun c hc=>.inr (by simp at hc;omega))
     have hn10:b10∉ob lv:=fun h=>by have:=(hrow.ob_le b10 h).2;omega
     clear hT hT2 e10
     repeat'(first|refine W1 ?_|omega|refine VG ?_ ?_<;>intro hg|refine VC ?_ ?_<;>intro hc)
     refine Z0 (Zj (u:=.int .i64 (q:Int)) rfl rfl rfl rfl e10' (by simp [Zi.enc])) ?_
     rintro _ w7 ⟨hT,e11⟩
     replace e11:Blk w7 b10 167 (Zi.enc ({ t with pos:=(q:Int) }:Tkn)):=e11
     replace hrow:Z0y 167 w w7 lv l:=hrow.up (hTT.own hT (fun c hc=>.inr (by simp at hc;omega)))
     clear hT e10'
     repeat'(first|refine W1 ?_|omega|refine VG ?_ ?_<;>intro hg|refine VC ?_ ?_<;>intro hc)
     refine Z3 (Z2 (vs:=[(0,.agg (Zi.enc ({ t with pos:=(q:Int) }:Tkn)).toArray)]) rfl (Z4f _)) rfl ?_
     intro bv w8 hN
     have hbv:SlV (ob lv) w8 bv [({ t with pos:=(q:Int) }:Tkn)]:=hN.slv (fun b hb=>(hrow.ob_le b hb).2) rfl rfl (by simp [maxLen])
     replace hrow:=hrow.up (Zc.stp hN)
     replace e11:=e11.up (Zc.stp hN)
     clear hN
     refine Z3 (Z2E rfl (by decide) rfl rfl hrow hbv (by simp only [Xc,Xe];omega) (by simp only [Xc,Xe,maxLen];omega)) rfl ?_
     rintro lv' w9 ⟨hrow',hT,hown⟩
     replace e11:=e11.ext hT hn10
     clear hT
     have htx:({ t with pos:=(q:Int) }:Tkn).text.length=t.text.length:=rfl
     repeat'(first|refine W1 ?_|omega|refine VG ?_ ?_<;>intro hg|refine VC ?_ ?_<;>intro hc)
     repeat (first|refine Z0c ?_|refine W1 ?_)
     exact Zr (f,q+t.text.length,l++[{ t with pos:=(q:Int) }],lv') ⟨rfl,rfl,rfl,trivial⟩ ⟨hR,by dsimp only;omega,by dsimp only;omega,by simp;omega,hrow'⟩ (by dsimp only;omega)
 repeat'(first|refine W1 ?_|omega|refine VG ?_ ?_<;>intro hg|refine VC ?_ ?_<;>intro hc)
 refine CL rfl (Zp rfl) rfl (Z4u ((s.drop q).getD 0 0).toNat _) ?_
 rintro _ wv ⟨rfl,hwv⟩
 subst wv
 have hdb:Z5V ((s.drop q).getD 0 0).toNat=ZV ((s.drop q).getD 0 0):=rfl
 rw [hdb]
 cases hdg:ZV ((s.drop q).getD 0 0)
 rotate_left
 · have hrd:JP (s.drop q)=Z3z (s.drop q):=by unfold JP;simp only [hlt1,hdg,if_true,XG,if_false]
   repeat'(first|refine W1 ?_|omega|refine VG ?_ ?_<;>intro hg|refine VC ?_ ?_<;>intro hc)
   cases hr:JP (s.drop q) with
   | err e=>
     rw [hr] at hR
     subst hR
     have he:=Z3h hr
     refine CL rfl (Zp rfl) rfl (Z6x (s.drop q) ev _ hdl2 hdg hne hv41 hev) ?_
     rintro _ w4 ⟨rfl,hT⟩
     rw [← hrd,hr]
     simp only [lxV]
     repeat'(first|refine W1 ?_|omega|refine VG ?_ ?_<;>intro hg|refine VC ?_ ?_<;>intro hc)
     refine Z3 Z6 rfl ?_
     rintro _ w5 ⟨b10,rfl,hb10,e10,hT2⟩
     refine Z0 (Z1 (us:=Zi.enc (⟨0,0,[],0⟩:Tkn)) rfl rfl rfl rfl (Zi.one _) e10 rfl) ?_
     rintro _ w6 ⟨hT3,e10'⟩
     have hSS:=(hrow.2.trans hT).trans (hT2.own hT3 (fun c hc=>.inr (by simp at hc;omega)))
     repeat'(first|refine W1 ?_|omega|refine VG ?_ ?_<;>intro hg|refine VC ?_ ?_<;>intro hc)
     repeat (first|refine Z02 ?_|refine W1 ?_)
     refine WR ?_
     exact .mk ⟨rfl,hSS⟩
   | ok t=>
     rw [hr] at hR
     simp only at hR
     have hrok:=Z39 hne hns hr
     have htpos:t.text.length≠0:=fun h=>hrok.1.text (XE.1 h)
     have htle:t.text.length≤s.length - q:=by have:=hrok.2.1;simpa using this
     refine CL rfl (Zp rfl) rfl (Z6x (s.drop q) ev _ hdl2 hdg hne hv41 hev) ?_
     rintro _ w4 ⟨rfl,hT⟩
     rw [← hrd,hr]
     simp only [lxV]
     replace hrow:=hrow.up hT
     clear hT
     repeat'(first|refine W1 ?_|omega|refine VG ?_ ?_<;>intro hg|refine VC ?_ ?_<;>intro hc)
     refine Z3 Z6 rfl ?_
     rintro _ w5 ⟨b10,rfl,hb10,e10,hT⟩
     refine Z0 (Z1 (us:=Zi.enc t) rfl rfl rfl rfl (Zi.one _) e10 rfl) ?_
     rintro _ w6 ⟨hT2,e10'⟩
     have hTT:=hT.own hT2 (fun c hc=>.inr (by simp at hc;omega))
     have hn10:b10∉ob lv:=fun h=>by have:=(hrow.ob_le b10 h).2;omega
     clear hT hT2 e10
     repeat'(first|refine W1 ?_|omega|refine VG ?_ ?_<;>intro hg|refine VC ?_ ?_<;>intro hc)
     refine Z0 (Zj (u:=.int .i64 (q:Int)) rfl rfl rfl rfl e10' (by simp [Zi.enc])) ?_
     rintro _ w7 ⟨hT,e11⟩
     replace e11:Blk w7 b10 167 (Zi.enc ({ t with pos:=(q:Int) }:Tkn)):=e11
     replace hrow:Z0y 167 w w7 lv l:=hrow.up (hTT.own hT (fun c hc=>.inr (by simp at hc;omega)))
     clear hT e10'
     repeat'(first|refine W1 ?_|omega|refine VG ?_ ?_<;>intro hg|refine VC ?_ ?_<;>intro hc)
     refine Z3 (Z2 (vs:=[(0,.agg (Zi.enc ({ t with pos:=(q:Int) }:Tkn)).toArray)]) rfl (Z4f _)) rfl ?_
     intro bv w8 hN
     have hbv:SlV (ob lv) w8 bv [({ t with pos:=(q:Int) }:Tkn)]:=hN.slv (fun b hb=>(hrow.ob_le b hb).2) rfl rfl (by simp [maxLen])
     replace hrow:=hrow.up (Zc.stp hN)
     replace e11:=e11.up (Zc.stp hN)
     clear hN
     refine Z3 (Z2E rfl (by decide) rfl rfl hrow hbv (by simp only [Xc,Xe];omega) (by simp only [Xc,Xe,maxLen];omega)) rfl ?_
     rintro lv' w9 ⟨hrow',hT,hown⟩
     replace e11:=e11.ext hT hn10
     clear hT
     have htx:({ t with pos:=(q:Int) }:Tkn).text.length=t.text.length:=rfl
     repeat'(first|refine W1 ?_|omega|refine VG ?_ ?_<;>intro hg|refine VC ?_ ?_<;>intro hc)
     repeat (first|refine Z0c ?_|refine W1 ?_)
     exact Zr (f,q+t.text.length,l++[{ t with pos:=(q:Int) }],lv') ⟨rfl,rfl,rfl,trivial⟩ ⟨hR,by dsimp only;omega,by dsimp only;omega,by simp;omega,hrow'⟩ (by dsimp only;omega)
 by_cases h64:(s.drop q).getD 0 0=64
 · have hrd:JP (s.drop q)=Z8a (s.drop q):=by
    unfold JP
    simp only [hlt1,hdg,XG,if_false]
    rw [if_pos h64]
   rw [h64]
   have h64':(((64:UInt8).toNat:Nat):Int)=64:=rfl
   rw [h64']
   repeat'(first|refine W1 ?_|omega|refine VG ?_ ?_<;>intro hg|refine VC ?_ ?_<;>intro hc)
   cases hr:JP (s.drop q) with
   | err e=>
     rw [hr] at hR
     subst hR
     have he:=Z3h hr
     refine CL rfl (Zp rfl) rfl (Zd6 (s.drop q) _ hLG1 hdl2) ?_
     rintro _ w4 ⟨rfl,hT⟩
     rw [← hrd,hr]
     simp only [lxV]
     repeat'(first|refine W1 ?_|omega|refine VG ?_ ?_<;>intro hg|refine VC ?_ ?_<;>intro hc)
     refine Z3 Z6 rfl ?_
     rintro _ w5 ⟨b10,rfl,hb10,e10,hT2⟩
     refine Z0 (Z1 (us:=Zi.enc (⟨0,0,[],0⟩:Tkn)) rfl rfl rfl rfl (Zi.one _) e10 rfl) ?_
     rintro _ w6 ⟨hT3,e10'⟩
     have hSS:=(hrow.2.trans hT).trans (hT2.own hT3 (fun c hc=>.inr (by simp at hc;omega)))
     repeat'(first|refine W1 ?_|omega|refine VG ?_ ?_<;>intro hg|refine VC ?_ ?_<;>intro hc)
     repeat (first|refine Z02 ?_|refine W1 ?_)
     refine WR ?_
     exact .mk ⟨rfl,hSS⟩
   | ok t=>
     rw [hr] at hR
     simp only at hR
     have hrok:=Z39 hne hns hr
     have htpos:t.text.length≠0:=fun h=>hrok.1.text (XE.1 h)
     have htle:t.text.length≤s.length - q:=by have:=hrok.2.1;simpa using this
     refine CL rfl (Zp rfl) rfl (Zd6 (s.drop q) _ hLG1 hdl2) ?_
     rintro _ w4 ⟨rfl,hT⟩
     rw [← hrd,hr]
     simp only [lxV]
     replace hrow:=hrow.up hT
     clear hT
     repeat'(first|refine W1 ?_|omega|refine VG ?_ ?_<;>intro hg|refine VC ?_ ?_<;>intro hc)
     refine Z3 Z6 rfl ?_
     rintro _ w5 ⟨b10,rfl,hb10,e10,hT⟩
     refine Z0 (Z1 (us:=Zi.enc t) rfl rfl rfl rfl (Zi.one _) e10 rfl) ?_
     rintro _ w6 ⟨hT2,e10'⟩
     have hTT:=hT.own hT2 (fun c hc=>.inr (by simp at hc;omega))
     have hn10:b10∉ob lv:=fun h=>by have:=(hrow.ob_le b10 h).2;omega
     clear hT hT2 e10
     repeat'(first|refine W1 ?_|omega|refine VG ?_ ?_<;>intro hg|refine VC ?_ ?_<;>intro hc)
     refine Z0 (Zj (u:=.int .i64 (q:Int)) rfl rfl rfl rfl e10' (by simp [Zi.enc])) ?_
     rintro _ w7 ⟨hT,e11⟩
     replace e11:Blk w7 b10 167 (Zi.enc ({ t with pos:=(q:Int) }:Tkn)):=e11
     replace hrow:Z0y 167 w w7 lv l:=hrow.up (hTT.own hT (fun c hc=>.inr (by simp at hc;omega)))
     clear hT e10'
     repeat'(first|refine W1 ?_|omega|refine VG ?_ ?_<;>intro hg|refine VC ?_ ?_<;>intro hc)
     refine Z3 (Z2 (vs:=[(0,.agg (Zi.enc ({ t with pos:=(q:Int) }:Tkn)).toArray)]) rfl (Z4f _)) rfl ?_
     intro bv w8 hN
     have hbv:SlV (ob lv) w8 bv [({ t with pos:=(q:Int) }:Tkn)]:=hN.slv (fun b hb=>(hrow.ob_le b hb).2) rfl rfl (by simp [maxLen])
     replace hrow:=hrow.up (Zc.stp hN)
     replace e11:=e11.up (Zc.stp hN)
     clear hN
     refine Z3 (Z2E rfl (by decide) rfl rfl hrow hbv (by simp only [Xc,Xe];omega) (by simp only [Xc,Xe,maxLen];omega)) rfl ?_
     rintro lv' w9 ⟨hrow',hT,hown⟩
     replace e11:=e11.ext hT hn10
     clear hT
     have htx:({ t with pos:=(q:Int) }:Tkn).text.length=t.text.length:=rfl
     repeat'(first|refine W1 ?_|omega|refine VG ?_ ?_<;>intro hg|refine VC ?_ ?_<;>intro hc)
     repeat (first|refine Z0c ?_|refine W1 ?_)
     exact Zr (f,q+t.text.length,l++[{ t with pos:=(q:Int) }],lv') ⟨rfl,rfl,rfl,trivial⟩ ⟨hR,by dsimp only;omega,by dsimp only;omega,by simp;omega,hrow'⟩ (by dsimp only;omega)
 have hrd:JP (s.drop q)=JT (s.drop q):=by
  unfold JP
  simp only [hlt1,hdg,XG,if_false]
  rw [if_neg h64]
 have hn64:¬ ((((s.drop q).getD 0 0).toNat:Nat):Int)=64:=fun h=>h64 (by
  have h64':(64:UInt8).toNat=64:=rfl
  exact UInt8.toNat_inj.1 (by omega))
 repeat'(first|refine W1 ?_|omega|refine VG ?_ ?_<;>intro hg|refine VC ?_ ?_<;>intro hc)
 cases hr:JP (s.drop q) with
 | err e=>
   rw [hr] at hR
   subst hR
   have he:=Z3h hr
   refine CL rfl (Zp rfl) rfl (Z7I (s.drop q) _ hne) ?_
   rintro _ w4 ⟨rfl,hT⟩
   rw [← hrd,hr]
   simp only [lxV]
   repeat'(first|refine W1 ?_|omega|refine VG ?_ ?_<;>intro hg|refine VC ?_ ?_<;>intro hc)
   refine Z3 Z6 rfl ?_
   rintro _ w5 ⟨b10,rfl,hb10,e10,hT2⟩
   refine Z0 (Z1 (us:=Zi.enc (⟨0,0,[],0⟩:Tkn)) rfl rfl rfl rfl (Zi.one _) e10 rfl) ?_
   rintro _ w6 ⟨hT3,e10'⟩
   have hSS:=(hrow.2.trans hT).trans (hT2.own hT3 (fun c hc=>.inr (by simp at hc;omega)))
   repeat'(first|refine W1 ?_|omega|refine VG ?_ ?_<;>intro hg|refine VC ?_ ?_<;>intro hc)
   repeat (first|refine Z02 ?_|refine W1 ?_)
   refine WR ?_
   exact .mk ⟨rfl,hSS⟩
 | ok t=>
   rw [hr] at hR
   simp only at hR
   have hrok:=Z39 hne hns hr
   have htpos:t.text.length≠0:=fun h=>hrok.1.text (XE.1 h)
   have htle:t.text.length≤s.length - q:=by have:=hrok.2.1;simpa using this
   refine CL rfl (Zp rfl) rfl (Z7I (s.drop q) _ hne) ?_
   rintro _ w4 ⟨rfl,hT⟩
   rw [← hrd,hr]
   simp only [lxV]
   replace hrow:=hrow.up hT
   clear hT
   repeat'(first|refine W1 ?_|omega|refine VG ?_ ?_<;>intro hg|refine VC ?_ ?_<;>intro hc)
   refine Z3 Z6 rfl ?_
   rintro _ w5 ⟨b10,rfl,hb10,e10,hT⟩
   refine Z0 (Z1 (us:=Zi.enc t) rfl rfl rfl rfl (Zi.one _) e10 rfl) ?_
   rintro _ w6 ⟨hT2,e10'⟩
   have hTT:=hT.own hT2 (fun c hc=>.inr (by simp at hc;omega))
   have hn10:b10∉ob lv:=fun h=>by have:=(hrow.ob_le b10 h).2;omega
   clear hT hT2 e10
   repeat'(first|refine W1 ?_|omega|refine VG ?_ ?_<;>intro hg|refine VC ?_ ?_<;>intro hc)
   refine Z0 (Zj (u:=.int .i64 (q:Int)) rfl rfl rfl rfl e10' (by simp [Zi.enc])) ?_
   rintro _ w7 ⟨hT,e11⟩
   replace e11:Blk w7 b10 167 (Zi.enc ({ t with pos:=(q:Int) }:Tkn)):=e11
   replace hrow:Z0y 167 w w7 lv l:=hrow.up (hTT.own hT (fun c hc=>.inr (by simp at hc;omega)))
   clear hT e10'
   repeat'(first|refine W1 ?_|omega|refine VG ?_ ?_<;>intro hg|refine VC ?_ ?_<;>intro hc)
   refine Z3 (Z2 (vs:=[(0,.agg (Zi.enc ({ t with pos:=(q:Int) }:Tkn)).toArray)]) rfl (Z4f _)) rfl ?_
   intro bv w8 hN
   have hbv:SlV (ob lv) w8 bv [({ t with pos:=(q:Int) }:Tkn)]:=hN.slv (fun b hb=>(hrow.ob_le b hb).2) rfl rfl (by simp [maxLen])
   replace hrow:=hrow.up (Zc.stp hN)
   replace e11:=e11.up (Zc.stp hN)
   clear hN
   refine Z3 (Z2E rfl (by decide) rfl rfl hrow hbv (by simp only [Xc,Xe];omega) (by simp only [Xc,Xe,maxLen];omega)) rfl ?_
   rintro lv' w9 ⟨hrow',hT,hown⟩
   replace e11:=e11.ext hT hn10
   clear hT
   have htx:({ t with pos:=(q:Int) }:Tkn).text.length=t.text.length:=rfl
   repeat'(first|refine W1 ?_|omega|refine VG ?_ ?_<;>intro hg|refine VC ?_ ?_<;>intro hc)
   repeat (first|refine Z0c ?_|refine W1 ?_)
   exact Zr (f,q+t.text.length,l++[{ t with pos:=(q:Int) }],lv') ⟨rfl,rfl,rfl,trivial⟩ ⟨hR,by dsimp only;omega,by dsimp only;omega,by simp;omega,hrow'⟩ (by dsimp only;omega)
end Go.Proofs.YtjdjdoefppebkaaGreatDoor
namespace Go.Eng
open Go Go.RowKit Go.Proofs
theorem Z2K {nl:Str→Nat} {s:Str}:∀ (f at_:Nat) (l:List Tkn) (a c:Int),JU nl s f at_ l=.err a c→c≠0
 | 0,at_,l,a,c,h=>by simp [JU] at h
 | f + 1, at_, l, a, c, h => by
   simp only [JU] at h
   split at h
   split at h
   exact Z2K f _ _ _ _ h
   split at h
   exact Z2K f _ _ _ _ h
   · cases hr:JP (s.drop at_) with
     | err e=>
       rw [hr] at h
       simp only [Tks.err.injEq] at h
       obtain ⟨_,rfl⟩:=h
       exact Z3h hr
     | ok t=>
       rw [hr] at h
       exact Z2K f _ _ _ _ h
   simp at h
theorem Z6z {s:Str} {a c:Int} (h:Z14 s=.err a c):c≠0:=by
 unfold Z14 at h
 split at h
 simp only [Tks.err.injEq] at h;omega
 exact Z2K _ _ _ _ _ h
theorem Z5z {s:Str} {l:List Tkn} (h:Z14 s=.ok l):Z2A l∧∃ l1 p,l=l1++[⟨0,p,[],0⟩]∧∀ t∈l1,ZfU t:=by
 unfold Z14 at h
 split at h
 cases h
 rename_i hl
 obtain ⟨l1,p,rfl,h1,h2,h3⟩:=Z3A (nl:=nlM) (s:=s) (by omega) (s.length+1) 0 [] l (by simp) (by simp) (by simp) (by simp) h
 exact ⟨Zi6 h1 h2 (by omega),l1,p,rfl,h1⟩
theorem Z7K {l:List Tkn}:∀ (f:Nat) (rs:List RuleM) (i o:Nat) (rs':List RuleM) (i' o':Nat),Z1C l f rs i o=.ok rs' i' o'→l.length≤i+f→i'<l.length→(cur l i').kind=0
 | 0,rs,i,o,rs',i',o',h,h1,h2=>by simp only [Z1C,Out.ok.injEq] at h;omega
 | f + 1, rs, i, o, rs', i', o', h, h1, h2 => by
   simp only [Z1C] at h
   split at h
   rename_i hk
   simp only [Out.ok.injEq] at h
   obtain ⟨_,rfl,_⟩:=h
   exact hk
   obtain ⟨r,i1,o1,h3,h4⟩:=Z0o h
   have:=ZaX h3
   exact Z7K f _ _ _ _ _ _ h4 (by omega) h2
end Go.Eng
namespace Go.Proofs.YtjdjdoefppebkaaGreatDoor
open Go Go.Eng Go.RowKit Go.Proofs
theorem Zd7 (a c:Int) (w:World):(Instr.typeAssert (Z3e a c) 20 210 true).run Tryz.prog w=.ok (.tuple #[.agg #[.int .i64 a,.int .i64 c],.bool true]) w:=by kernel_rfl
theorem Zd8 (w:World):(Instr.typeAssert .nilIface 20 210 true).run Tryz.prog w=.ok (.tuple #[.agg #[.int .i64 0,.int .i64 0],.bool false]) w:=by kernel_rfl
theorem Zc9 (a c:Int) (b7 b4 b5 b6:Nat) (z7 v4 v5 v6:Value) (w:World) (e7:Blk w b7 88 [z7]) (e4:Blk w b4 88 [v4]) (e5:Blk w b5 3 [v5]) (e6:Blk w b6 41 [v6])
 (hz:z7.cells.toList=[z7]) (hz1:z7.oneCell'=true) (n74:b7≠b4) (n75:b7≠b5) (n76:b7≠b6) (n45:b4≠b5) (n46:b4≠b6) (n56:b5≠b6) :
 CallsD Tryz.prog 164 #[.pointer (some ⟨b7,0,none⟩),.pointer (some ⟨b4,0,none⟩),.pointer (some ⟨b5,0,none⟩),.pointer (some ⟨b6,0,none⟩)] (.panicking [⟨Z3e a c,false,false⟩]) w
  (fun e u' w'=>∃ v,e=.returned v∧(u'=.panicking [⟨Z3e a c,true,false⟩]∧Blk w' b4 88 [z7]∧Blk w' b5 3 [.int .i64 a]∧Blk w' b6 41 [.int .i64 c]∧Stp [b4,b5,b6] w w')):=by
 refine callsD_of_wpS Tryz.func164 rfl fun c₀ cs hu=>?_
 apply wpS_seq
 apply wpS_region
 simp [wpOpsS,go_sem,recoverD,hu,Tryz.ntmps164,Exit.thenS]
 refine Z4z (n:=22) (e:=[(0,.pointer (some ⟨b7,0,none⟩)),(1,.pointer (some ⟨b4,0,none⟩)),(2,.pointer (some ⟨b5,0,none⟩)),(3,.pointer (some ⟨b6,0,none⟩)),(4,Z3e a c)]) (Has.of rfl (by simp) (by
  intro p hp
  simp only [Xf,Xk,or_false] at hp
  rcases hp with rfl|rfl|rfl|rfl|rfl<;>kernel_rfl)) ?_
 refine W ?_
 refine Z7 (Z1P rfl (Zd7 a c)) rfl ?_
 refine W ?_
 refine Z3 Z6 rfl ?_
 rintro _ w1 ⟨bf,rfl,hbf,ef,hT⟩
 refine Z0 (Z1 (us:=[.int .i64 a,.int .i64 c]) rfl rfl rfl rfl (by intro u hu;simp at hu;rcases hu with rfl|rfl<;>rfl) ef rfl) ?_
 rintro _ w2 ⟨hT2,ef'⟩
 have nf7:=e7.lt
 have nf4:=e4.lt
 have nf5:=e5.lt
 have nf6:=e6.lt
 have hS:=hT.own hT2 (fun c hc=>.inr (by simp at hc;omega))
 clear hT hT2 ef
 replace e7:=e7.up hS;replace e4:=e4.up hS;replace e5:=e5.up hS;replace e6:=e6.up hS
 refine W ?_
 refine ZDr 8 ([b4,b5,b6]) [] [(0,1),(1,0),(2,1),(3,0),(4,1),(5,2),(6,2),(7,2)] (fun w1 hS1=>?_)
 replace e7:=e7.up hS1;replace e4:=e4.up hS1;replace e5:=e5.up hS1;replace e6:=e6.up hS1
 replace ef':=ef'.up hS1
 replace hS:=hS.trans hS1
 clear hS1
 have m7:b7∉[b4,b5,b6]:=by simp;exact ⟨n74,n75,n76⟩
 have mf:bf∉[b4,b5,b6]:=by simp;omega
 refine Jh rfl trivial rfl rfl e7 m7 rfl rfl ?_
 refine JG rfl trivial rfl rfl ?_
 refine Jh rfl trivial rfl rfl ef' mf rfl rfl ?_
 refine JG rfl trivial rfl rfl ?_
 refine Jh rfl trivial rfl rfl ef' mf rfl rfl ?_
 refine ZG rfl trivial (Z1 (us:=[z7]) rfl rfl hz rfl (by simpa using hz1) e4 rfl) (fun _ _ h=>h.1.mono (by simp)) ?_
 rintro _ w3 ⟨hT,e4'⟩
 replace e5:=e5.ext hT (by simpa using n45.symm)
 replace e6:=e6.ext hT (by simpa using n46.symm)
 replace hS:=(hS.mono (S':=[b4,b5,b6]) (by simp)).trans (hT.mono (by simp))
 clear hT
 refine ZG rfl trivial (Z1 (us:=[.int .i64 a]) rfl rfl rfl rfl (by simp;rfl) e5 rfl) (fun _ _ h=>h.1.mono (by simp)) ?_
 rintro _ w4 ⟨hT,e5'⟩
 replace e4':=e4'.ext hT (by simpa using n45)
 replace e6:=e6.ext hT (by simpa using n56.symm)
 replace hS:=hS.trans (hT.mono (by simp))
 clear hT
 refine ZG rfl trivial (Z1 (us:=[.int .i64 c]) rfl rfl rfl rfl (by simp;rfl) e6 rfl) (fun _ _ h=>h.1.mono (by simp)) ?_
 rintro _ w5 ⟨hT,e6'⟩
 replace e4':=e4'.ext hT (by simpa using n46)
 replace e5':=e5'.ext hT (by simpa using n56)
 replace hS:=hS.trans (hT.mono (by simp))
 refine Z3p ?_
 refine W ?_
 first|refine Z4n rfl ?_|refine Z4o rfl ?_
 exact ⟨⟨_,rfl⟩,rfl,e4',e5',e6',hS⟩
theorem Zca (b7 b4 b5 b6:Nat) (w:World) :
 CallsD Tryz.prog 164 #[.pointer (some ⟨b7,0,none⟩),.pointer (some ⟨b4,0,none⟩),.pointer (some ⟨b5,0,none⟩),.pointer (some ⟨b6,0,none⟩)] .returning w
  (fun e u' w'=>∃ v,e=.returned v∧(u'=.returning∧Stp [] w w')):=by
 refine callsD_of_wpS Tryz.func164 rfl fun c₀ cs hu=>?_
 have hc:c₀={ c₀ with mode:=.returning }:=by rw [← hu]
 apply wpS_seq
 apply wpS_region
 simp [wpOpsS,go_sem,recoverD,hu,Tryz.ntmps164,Exit.thenS]
 rw [hc]
 refine Z4z (n:=22) (e:=[(0,.pointer (some ⟨b7,0,none⟩)),(1,.pointer (some ⟨b4,0,none⟩)),(2,.pointer (some ⟨b5,0,none⟩)),(3,.pointer (some ⟨b6,0,none⟩)),(4,.nilIface)]) (Has.of rfl (by simp) (by
  intro p hp
  simp only [Xf,Xk,or_false] at hp
  rcases hp with rfl|rfl|rfl|rfl|rfl<;>kernel_rfl)) ?_
 refine W ?_
 refine Z7 (Z1P rfl Zd8) rfl ?_
 refine W ?_
 refine Z3 Z6 rfl ?_
 rintro _ w1 ⟨bf,rfl,hbf,ef,hT⟩
 refine Z0 (Z1 (us:=[.int .i64 0,.int .i64 0]) rfl rfl rfl rfl (by intro u hu;simp at hu;rcases hu with rfl|rfl<;>rfl) ef rfl) ?_
 rintro _ w2 ⟨hT2,ef'⟩
 have hS:=hT.own hT2 (fun c hc=>.inr (by simp at hc;omega))
 refine W ?_
 refine Zgp ⟨_,rfl⟩ rfl rfl ?_
 refine W ?_
 first|refine Z4n rfl ?_|refine Z4o rfl ?_
 exact ⟨⟨_,rfl⟩,rfl,hS⟩
def PsV (X:List Nat) (w':World) (r:Value):Ps→Prop
 | .err a c=>r=.tuple #[.slice none 0 0,.int .i64 a,.int .i64 c]
 | .ok rs=>∃ rv,r=.tuple #[rv,.int .i64 0,.int .i64 0]∧SlV X w' rv (rs.map RuleM.rul)
theorem Z12 {w w':World} {b T:Nat} {cs:List Value} (hS:Stp [b] w w') (h:Blk w b T cs) (h':Blk w' b T cs):Stp [] w w':=
 ⟨hS.os, hS.tape, hS.output, hS.size, fun k hk _ => by
   by_cases hb:k=b
   subst hb
   rw [h,h']
   exact hS.block k hk (by simpa using hb)⟩
theorem Zd9 (p:Option Addr) (l c:Nat) (w:World):(Instr.build 170 #[(0,.slice p l c)]).run Tryz.prog w=.ok (.agg #[.slice p l c,.int .i64 0,.int .i64 0]) w:=by kernel_rfl
set_option maxHeartbeats 2000000 in
theorem Ze9 (X:List Nat) (s:Str) (er:Value) (m:Int) (w:World) (hX:∀ c∈X,c<w.heap.size) (hLG:Z0M w) (hm:w.cell? ⟨2,0,none⟩=some (.int .i64 m)) (hv4:w.cell? ⟨5,0,none⟩=some er) (hev:er=.nilIface∨∃ te pe,er=.iface te pe) (hl:s.length≤1000000) :
 CC 84 #[str s,.func (.func 85) #[] #[]] w fun r w'=>PsV X w' r (Z3C s)∧Stp [] w w':=by
 have h1w:2<w.heap.size:=by have:=block_lt_of_cell hm;simpa using this
 refine Z4K (n:=43) Tryz.func84 rfl rfl rfl ?_
 refine W ?_
 refine Z3 Z6 rfl ?_
 rintro _ w1 ⟨b4,rfl,hb4,e4,hS⟩
 refine W ?_
 refine Z3 Z6 rfl ?_
 rintro _ w2 ⟨b5,rfl,hb5,e5,hT⟩
 have n45:b4≠b5:=by have:=e4.lt;omega
 have g5:w.heap.size≤b5:=Xh hS.size hb5
 replace e4:=e4.up hT
 replace hS:=hS.trans hT
 refine W ?_
 refine Z3 Z6 rfl ?_
 rintro _ w3 ⟨b6,rfl,hb6,e6,hT⟩
 have n46:b4≠b6:=by have:=e4.lt;omega
 have n56:b5≠b6:=by have:=e5.lt;omega
 have g6:w.heap.size≤b6:=Xh hS.size hb6
 replace e4:=e4.up hT;replace e5:=e5.up hT
 replace hS:=hS.trans hT
 refine W ?_
 refine Z3 Z6 rfl ?_
 rintro _ w4 ⟨b7,rfl,hb7,e7,hT⟩
 have n74:b7≠b4:=by have:=e4.lt;omega
 have n75:b7≠b5:=by have:=e5.lt;omega
 have n76:b7≠b6:=by have:=e6.lt;omega
 replace e4:=e4.up hT;replace e5:=e5.up hT;replace e6:=e6.up hT
 replace hS:=hS.trans hT
 clear hT
 have g4:w.heap.size≤b4:=hb4
 have hlt4:∀ c∈[b4,b5,b6,b7],c<w4.heap.size:=fun c hc=>by
  simp only [Xf,Xk,or_false] at hc
  rcases hc with rfl|rfl|rfl|rfl
  exact e4.lt
  exact e5.lt
  exact e6.lt
  exact e7.lt
 refine W ?_
 refine CL rfl (Zp rfl) rfl (Z7J s er _ (hLG.up hS) (hS.cell (by simp) hv4) hev hl) ?_
 rintro r w5 ⟨hr,hT⟩
 replace e4:=e4.up hT;replace e5:=e5.up hT;replace e6:=e6.up hT;replace e7:=e7.up hT
 have hSo:=hS
 replace hS:=hS.trans hT
 clear hT
 have own3:∀ {S:List Nat},(∀ c∈S,c=b4∨c=b5∨c=b6)→∀ c∈S,c∈([]:List Nat)∨w.heap.size≤c:=fun h c hc=>by
  rcases h c hc with rfl|rfl|rfl
  exact .inr g4
  exact .inr g5
  exact .inr g6
 cases hK:Z14 s with
 | err a c=>
   rw [hK] at hr
   have hr':r=.tuple #[.slice none 0 0,.int .i64 a,.int .i64 c]:=hr
   subst hr'
   have hc0:=Z6z hK
   refine W ?_
   refine Z0 (Z1 (us:=[.int .i64 a]) rfl rfl rfl rfl (by simp;rfl) e5 rfl) ?_
   rintro _ w6 ⟨hT,e5'⟩
   replace e4:=e4.ext hT (by simpa using n45)
   replace e6:=e6.ext hT (by simpa using n56.symm)
   replace e7:=e7.ext hT (by simpa using n75)
   replace hS:=hS.own hT (own3 (by simp))
   refine W ?_
   refine Z0 (Z1 (us:=[.int .i64 c]) rfl rfl rfl rfl (by simp;rfl) e6 rfl) ?_
   rintro _ w7 ⟨hT2,e6'⟩
   replace e4:=e4.ext hT2 (by simpa using n46)
   replace e5':=e5'.ext hT2 (by simpa using n56)
   replace e7:=e7.ext hT2 (by simpa using n76)
   replace hS:=hS.own hT2 (own3 (by simp))
   clear hT hT2 e5 e6
   repeat'(first|refine W1 ?_|omega|refine VG ?_ ?_<;>intro hg|refine VC ?_ ?_<;>intro hc)
   refine ZDr 6 ([b4]) [] [(0,1),(1,1),(2,1),(3,2),(4,2),(5,2)] (fun w8 hS1=>?_)
   replace e7:=e7.up hS1;replace e4:=e4.up hS1;replace e5':=e5'.up hS1;replace e6':=e6'.up hS1
   replace hS:=hS.trans hS1
   clear hS1
   refine Jh rfl trivial rfl rfl e7 (by simpa using n74) rfl rfl ?_
   refine Jh rfl trivial rfl rfl e5' (by simpa using n45.symm) rfl rfl ?_
   refine Jh rfl trivial rfl rfl e6' (by simpa using n46.symm) rfl rfl ?_
   refine ZG rfl trivial (Z1 (us:=[.slice none 0 0]) rfl rfl rfl rfl (by simp;rfl) e4 rfl) (fun _ _ h=>h.1) ?_
   rintro _ w9 ⟨hT,e4'⟩
   replace e5':=e5'.ext hT (by simpa using n45.symm)
   replace e6':=e6'.ext hT (by simpa using n46.symm)
   replace hS:=hS.own hT (own3 (by simp))
   clear hT e4 e7
   refine ZG (G:=fun _ w'=>Stp [] w9 w') rfl trivial ((Z1 (us:=[.int .i64 a]) rfl rfl rfl rfl (by simp;rfl) e5' rfl).mono (fun _ _ h=>Z12 h.1 e5' h.2)) (fun _ _ h=>h.mono (by simp)) ?_
   intro _ w10 hT
   replace e4':=e4'.up hT;replace e5':=e5'.up hT;replace e6':=e6'.up hT
   replace hS:=hS.trans hT
   clear hT
   refine ZG (G:=fun _ w'=>Stp [] w10 w') rfl trivial ((Z1 (us:=[.int .i64 c]) rfl rfl rfl rfl (by simp;rfl) e6' rfl).mono (fun _ _ h=>Z12 h.1 e6' h.2)) (fun _ _ h=>h.mono (by simp)) ?_
   intro _ w11 hT
   replace e4':=e4'.up hT;replace e5':=e5'.up hT;replace e6':=e6'.up hT
   replace hS:=hS.trans hT
   clear hT
   refine Z3p ?_
   refine W ?_
   refine ⟨fun act ha=>?_⟩
   show Leaves _ _ act.tmps _ act.defers .returning _
   rw [ha.defers]
   refine ⟨_,Z67 rfl rfl rfl rfl (ha.vals 4 _ rfl) (ha.vals 5 _ rfl) (ha.vals 6 _ rfl) e4' e5' e6',?_⟩
   refine .mk ⟨?_,hS⟩
   unfold Z3C
   rw [hK]
   rfl
 | ok l=>
   rw [hK] at hr
   obtain ⟨tv,rfl,hrow⟩:∃ tv,r=.tuple #[tv,.int .i64 0,.int .i64 0]∧Z0y 167 w4 w5 tv l:=hr
   obtain ⟨hL,-⟩:=Z5z hK
   have hts:SlV (α:=Tkn) [b4,b5,b6,b7] w5 tv l:=hrow.slv hlt4
   have hlp:=hL.pos
   have hll:l.length≤1000000:=by have:=hL.len;omega
   refine W ?_
   refine Z0 (Z1 (us:=[.int .i64 0]) rfl rfl rfl rfl (by simp;rfl) e5 rfl) ?_
   rintro _ w6 ⟨hT,e5'⟩
   replace e4:=e4.ext hT (by simpa using n45)
   replace e6:=e6.ext hT (by simpa using n56.symm)
   replace e7:=e7.ext hT (by simpa using n75)
   replace hts:=hts.ext (X':=[b4,b5,b6,b7]) hT (by simp) (fun _ h=>.inl h)
   replace hS:=hS.own hT (own3 (by simp))
   refine W ?_
   refine Z0 (Z1 (us:=[.int .i64 0]) rfl rfl rfl rfl (by simp;rfl) e6 rfl) ?_
   rintro _ w7 ⟨hT2,e6'⟩
   replace e4:=e4.ext hT2 (by simpa using n46)
   replace e5':=e5'.ext hT2 (by simpa using n56)
   replace e7:=e7.ext hT2 (by simpa using n76)
   replace hts:=hts.ext (X':=[b4,b5,b6,b7]) hT2 (by simp) (fun _ h=>.inl h)
   replace hS:=hS.own hT2 (own3 (by simp))
   clear hT hT2 e5 e6
   repeat'(first|refine W1 ?_|omega|refine VG ?_ ?_<;>intro hg|refine VC ?_ ?_<;>intro hc)
   refine Z7 (Z5w rfl rfl rfl rfl) rfl ?_
   refine ZaW rfl ?_
   refine Z1O (Z1a ?_)
   refine W ?_
   obtain ⟨tp,tc,htv⟩:=hts.len
   refine Z7 (Z0A (vs:=[(0,tv)]) rfl (by rw [htv];exact fun w=>Zd9 _ _ _ w)) rfl ?_
   refine Z3 (Zs rfl) rfl ?_
   rintro _ w8 ⟨bp,rfl,hbp,ep,hT⟩
   have l4:=e4.lt
   have l5:=e5'.lt
   have l6:=e6'.lt
   have l7:=e7.lt
   have hXp:∀ c∈bp :: b4 :: b5 :: b6 :: b7 :: X,c<w8.heap.size:=fun c hc=>by
    have h8:=hT.size
    have hp:=ep.lt
    have h0:=hS.size
    simp only [Xf] at hc
    rcases hc with rfl|rfl|rfl|rfl|rfl|hc
    exact hp
    omega
    omega
    omega
    omega
    have:=hX c hc;omega
   have hpd:Pd w8 bp tv l 0 0:=⟨by rw [htv];exact ep,hts.ext hT (by simp) (fun c hc=>by simp at hc;subst hc;exact .inr hbp),hlp,hll,by omega⟩
   replace hts:=hts.ext (X':=[bp,b4,b5,b6,b7]) hT (by simp) (fun c hc=>by
    rcases Xf.1 hc with rfl|hc
    exact .inr hbp
    exact .inl hc)
   replace e4:=e4.up hT;replace e5':=e5'.up hT;replace e6':=e6'.up hT;replace e7:=e7.up hT
   replace hS:=hS.trans hT
   have gp:w.heap.size≤bp:=by have:=hS.size;omega
   have np4:b4≠bp:=by omega
   have np5:b5≠bp:=by omega
   have np6:b6≠bp:=by omega
   have np7:b7≠bp:=by omega
   clear hT
   refine Z7 (Z4p rfl) rfl ?_
   refine Z22 ?_
   refine Z2t (Z11 ?_)
   refine Z1O (Z1a ?_)
   refine Z7 (ZU rfl) rfl ?_
   refine Z7 (ZU rfl) rfl ?_
   have hP:=Zc7 (bp :: b4 :: b5 :: b6 :: b7 :: X) bp tv l hL m 0 0 (l.length+1) w8 (by omega) (by simp) hXp (hS.cell (by simp) hm) hpd (by omega)
   cases hR:Z1C l (l.length+1) [] 0 0 with
   | err a c=>
     rw [hR] at hP
     refine Z66 rfl (Zp rfl) hP rfl ?_
     intro w9 hT
     replace e4:=e4.ext hT (by simpa using np4)
     replace e5':=e5'.ext hT (by simpa using np5)
     replace e6':=e6'.ext hT (by simpa using np6)
     replace e7:=e7.ext hT (by simpa using np7)
     replace hS:=hS.own hT (fun c hc=>.inr (by simp at hc;omega))
     refine Z2t (Z2u ?_)
     refine ⟨fun act ha=>?_⟩
     show Leaves _ _ act.tmps _ (act.defers++_) (.panicking _) _
     rw [ha.defers]
     refine Z2v (f:=164) (by simp) (Zc9 a c b7 b4 b5 b6 _ _ _ _ w9 e7 e4 e5' e6' rfl rfl n74 n75 n76 n45 n46 n56) ?_
     rintro v u' w10 ⟨rfl,e4',e5'',e6'',hT⟩
     refine ⟨rfl,_,Z67 rfl rfl rfl rfl (ha.vals 4 _ rfl) (ha.vals 5 _ rfl) (ha.vals 6 _ rfl) e4' e5'' e6'',?_⟩
     refine .mk ⟨?_,hS.own hT (own3 (by simp))⟩
     unfold Z3C
     rw [hK]
     simp only [hR]
     rfl
   | ok rs i' o'=>
     rw [hR] at hP
     refine CL rfl (Zp rfl) rfl hP ?_
     rintro rv w9 ⟨hrv,hpd',hT⟩
     replace e4:=e4.ext hT (by simpa using np4)
     replace e5':=e5'.ext hT (by simpa using np5)
     replace e6':=e6'.ext hT (by simpa using np6)
     replace e7:=e7.ext hT (by simpa using np7)
     replace hts:=hts.ext (X':=[bp,b4,b5,b6,b7]) hT (by simp) (fun _ h=>.inl h)
     replace hS:=hS.own hT (fun c hc=>.inr (by simp at hc;omega))
     obtain ⟨ep',-,hil,-,-⟩:=hpd'
     have hk0:=Z7K _ _ _ _ _ _ _ hR (by omega) hil
     refine Z0 (Z1 (us:=[rv]) rfl rfl hrv.cells rfl (by simpa using hrv.one) e4 rfl) ?_
     rintro _ w10 ⟨hT,e4'⟩
     replace ep':=ep'.ext hT (by simpa using np4.symm)
     replace e5':=e5'.ext hT (by simpa using n45.symm)
     replace e6':=e6'.ext hT (by simpa using n46.symm)
     replace hts:=hts.ext (X':=[bp,b4,b5,b6,b7]) hT (by simp) (fun _ h=>.inl h)
     replace hrv:=hrv.ext (X':=bp :: b4 :: b5 :: b6 :: b7 :: X) hT (by simp) (fun _ h=>.inl h)
     replace hS:=hS.own hT (own3 (by simp))
     clear hT
     refine Z22 ?_
     refine Z2t (Z11 ?_)
     refine Z1O (Z1O ?_)
     refine Z8O 12 [] [] [(0,0),(1,0),(2,0),(3,1),(4,0),(5,0),(6,0),(7,1),(8,0),(9,0),(10,1),(11,0)] rfl mixed (by kernel_rfl) (by kernel_rfl) (by kernel_rfl) (fun w1 hS1=>?_)
     replace e4':=e4'.up hS1;replace e5':=e5'.up hS1;replace e6':=e6'.up hS1;replace ep':=ep'.up hS1
     replace hts:=hts.up hS1
     replace hrv:=hrv.up hS1
     replace hS:=hS.trans hS1
     clear hS1
     refine D ?_
     refine W ?_
     refine Z2t (Z11 ?_)
     rw [Z4a hil] at hk0
     refine Z4d (by simp [ev,hk0];rfl) (ZaV (Z11 (Z1O ?_)))
     refine Z1a ?_
     refine Z7 (ZP rfl rfl e4' rfl) rfl ?_
     refine Z0 (G:=fun _ w'=>Stp [] w1 w') ((Z1 (us:=[rv]) rfl rfl hrv.cells rfl (by simpa using hrv.one) e4' rfl).mono (fun _ _ h=>Z12 h.1 e4' h.2)) ?_
     intro _ w12 hT
     replace e4':=e4'.up hT;replace e5':=e5'.up hT;replace e6':=e6'.up hT;replace hrv:=hrv.up hT
     replace hS:=hS.trans hT
     clear hT
     refine Z0 (G:=fun _ w'=>Stp [] w12 w') ((Z1 (us:=[.int .i64 0]) rfl rfl rfl rfl (by simp;rfl) e5' rfl).mono (fun _ _ h=>Z12 h.1 e5' h.2)) ?_
     intro _ w13 hT
     replace e4':=e4'.up hT;replace e5':=e5'.up hT;replace e6':=e6'.up hT;replace hrv:=hrv.up hT
     replace hS:=hS.trans hT
     clear hT
     refine Z0 (G:=fun _ w'=>Stp [] w13 w') ((Z1 (us:=[.int .i64 0]) rfl rfl rfl rfl (by simp;rfl) e6' rfl).mono (fun _ _ h=>Z12 h.1 e6' h.2)) ?_
     intro _ w14 hT
     replace e4':=e4'.up hT;replace e5':=e5'.up hT;replace e6':=e6'.up hT;replace hrv:=hrv.up hT
     replace hS:=hS.trans hT
     clear hT
     refine Z22 ?_
     refine Z2t (Z11 (Zd5 ?_))
     refine ⟨fun act ha=>?_⟩
     show Leaves _ _ act.tmps _ (act.defers++_) .returning _
     rw [ha.defers]
     refine Z2v (f:=164) (by simp) (Zca b7 b4 b5 b6 w14) ?_
     rintro v u' w15 ⟨rfl,hT⟩
     refine ⟨rfl,_,Z67 rfl rfl rfl rfl (ha.vals 4 _ rfl) (ha.vals 5 _ rfl) (ha.vals 6 _ rfl) (e4'.up hT) (e5'.up hT) (e6'.up hT),?_⟩
     have hM:Z3C s=.ok rs:=by
      unfold Z3C
      rw [hK]
      simp only [hR]
     rw [hM]
     exact .mk ⟨⟨rv,rfl,(hrv.up hT).ext (Stp.refl [] _) (by simp) (fun c hc=>.inl (by simp [hc]))⟩,hS.trans hT⟩
theorem Zea (X:List Nat) (s:Str) (er:Value) (m:Int) (w:World) (hX:∀ c∈X,c<w.heap.size) (hLG:Z0M w) (hm:w.cell? ⟨2,0,none⟩=some (.int .i64 m)) (hv4:w.cell? ⟨5,0,none⟩=some er) (hev:er=.nilIface∨∃ te pe,er=.iface te pe) (hl:s.length≤1000000) :
 CC 34 #[str s] w fun r w'=>PsV X w' r (Z3C s)∧Stp [] w w':=by
 refine cW1 10 Tryz.func34 ?_
 refine W ?_
 refine CL rfl (Z9 rfl rfl) rfl (Ze9 X s er m w hX hLG hm hv4 hev hl) ?_
 rintro r w1 ⟨hr,hS⟩
 cases hK:Z3C s with
 | err a c=>
   rw [hK] at hr
   have hr':r=.tuple #[.slice none 0 0,.int .i64 a,.int .i64 c]:=hr
   subst hr'
   refine W ?_
   refine WR ?_
   exact .mk ⟨rfl,hS⟩
 | ok rs=>
   rw [hK] at hr
   obtain ⟨rv,rfl,hrv⟩:=hr
   refine W ?_
   refine WR ?_
   exact .mk ⟨⟨rv,rfl,hrv⟩,hS⟩
end Go.Proofs.YtjdjdoefppebkaaGreatDoor
namespace Go.Eng
open Go Go.RowKit Go.Proofs
inductive PsE where
 | err (a c:Int)
 | ok (x:Nd)
def Z1b (s:Str):PsE:=
 match Z14 s with
 | .err a c=>.err a c
 | .ok l => match Z0u l 0 0 with
   | .err a c=>.err a c
   | .ok x i _=>if (cur l i).kind=0 then .ok x else .err (cur l i).pos 20
def zC:List Value:=[.int .i64 0,.int .i64 0,str [],.slice none 0 0]
theorem Zcb:∀ c∈zC,c.oneCell'=true:=by
 intro c hc
 simp only [zC,Xf,Xk,or_false] at hc
 rcases hc with rfl|rfl|rfl|rfl<;>rfl
theorem Z3H {P:Program} {w:World} {fn:Func} {a:Act} {t1 t2 t3 T1 T2 T3 b1 b2 b3 S1 S2 S3 m:Nat} {D1 D2 D3:TypeDesc} {c1:List Value} {v2 v3:Value} (hr:fn.results=#[.cell t1 T1,.cell t2 T2,.cell t3 T3]) [hu1:Und P T1 D1] [hs1:Siz P T1 m] [hu2:Und P T2 D2] [hu3:Und P T3 D3] (hA1:JX D1=true) (hA2:JX D2=false) (hA3:JX D3=false)
 (h1:a.tmps.getD t1 undef=.pointer (some ⟨b1,0,none⟩)) (h2:a.tmps.getD t2 undef=.pointer (some ⟨b2,0,none⟩)) (h3:a.tmps.getD t3 undef=.pointer (some ⟨b3,0,none⟩))
 (e1:Blk w b1 S1 c1) (hl1:c1.length=m) (e2:Blk w b2 S2 [v2]) (e3:Blk w b3 S3 [v3]):(results fn a.tmps).run P w=.ok (.tuple #[.agg c1.toArray,v2,v3]) w:=by
 rw [Xw] at h1 h2 h3
 simp [results,hr,h1,h2,h3,asAddr,Z0B hA1 e1 hl1,Z3g hA2 e2,Z3g hA3 e3]
theorem Z8S {P:Program} {n:Nat} {fn:Func} {R:Ending→World→Prop} {e:Env} {w:World} {t b T T' m s s2:Nat} {D:TypeDesc} {cs:List Value} {v v2:Value} (hr:fn.results=#[.cell t T',.tmp s,.tmp s2]) [hu:Und P T' D] (hA:JX D=true) [hs:Siz P T' m] (ht:look e t=some (.pointer (some ⟨b,0,none⟩))) (hb:Blk w b T cs) (hl:cs.length=m)
 (hv:look e s=some v) (hv2:look e s2=some v2) (h:R (.returned (.tuple #[.agg cs.toArray,v,v2])) w):WQ n (bodyPost P fn R) .ret e w:=
 ⟨fun a ha => ⟨ha.defers, .tuple #[.agg cs.toArray, v, v2], by
   have h1:=ha.vals _ _ ht
   have h2:=ha.vals _ _ hv
   have h3:=ha.vals _ _ hv2
   rw [Xw] at h1 h2 h3
   simp [results,hr,h1,h2,h3,asAddr,Z0B hA hb hl],h⟩⟩
end Go.Eng
namespace Go.Proofs.YtjdjdoefppebkaaGreatDoor
open Go Go.Eng Go.RowKit Go.Proofs
def Zpj (X:List Nat) (w':World) (r:Value):PsE→Prop
 | .err a c=>r=.tuple #[.agg zC.toArray,.int .i64 a,.int .i64 c]
 | .ok x=>∃ kv,r=.tuple #[.agg (ndC x kv).toArray,.int .i64 0,.int .i64 0]∧SlV X w' kv x.kids
theorem Z6A (a c:Int) (b7 b4 b5 b6:Nat) (c4:List Value) (v5 v6:Value) (w:World) (e7:Blk w b7 27 zC) (e4:Blk w b4 27 c4) (e5:Blk w b5 3 [v5]) (e6:Blk w b6 41 [v6])
 (h4:c4.length=4) (n74:b7≠b4) (n75:b7≠b5) (n76:b7≠b6) (n45:b4≠b5) (n46:b4≠b6) (n56:b5≠b6) :
 CallsD Tryz.prog 118 #[.pointer (some ⟨b7,0,none⟩),.pointer (some ⟨b4,0,none⟩),.pointer (some ⟨b5,0,none⟩),.pointer (some ⟨b6,0,none⟩)] (.panicking [⟨Z3e a c,false,false⟩]) w
  (fun e u' w'=>∃ v,e=.returned v∧(u'=.panicking [⟨Z3e a c,true,false⟩]∧Blk w' b4 27 zC∧Blk w' b5 3 [.int .i64 a]∧Blk w' b6 41 [.int .i64 c]∧Stp [b4,b5,b6] w w')):=by
 refine callsD_of_wpS Tryz.func118 rfl fun c₀ cs hu=>?_
 apply wpS_seq
 apply wpS_region
 simp [wpOpsS,go_sem,recoverD,hu,Tryz.ntmps118,Exit.thenS]
 refine Z4z (n:=22) (e:=[(0,.pointer (some ⟨b7,0,none⟩)),(1,.pointer (some ⟨b4,0,none⟩)),(2,.pointer (some ⟨b5,0,none⟩)),(3,.pointer (some ⟨b6,0,none⟩)),(4,Z3e a c)]) (Has.of rfl (by simp) (by
  intro p hp
  simp only [Xf,Xk,or_false] at hp
  rcases hp with rfl|rfl|rfl|rfl|rfl<;>kernel_rfl)) ?_
 refine W ?_
 refine Z7 (Z1P rfl (Zd7 a c)) rfl ?_
 refine W ?_
 refine Z3 Z6 rfl ?_
 rintro _ w1 ⟨bf,rfl,hbf,ef,hT⟩
 refine Z0 (Z1 (us:=[.int .i64 a,.int .i64 c]) rfl rfl rfl rfl (by intro u hu;simp at hu;rcases hu with rfl|rfl<;>rfl) ef rfl) ?_
 rintro _ w2 ⟨hT2,ef'⟩
 have nf7:=e7.lt
 have nf4:=e4.lt
 have nf5:=e5.lt
 have nf6:=e6.lt
 have hS:=hT.own hT2 (fun c hc=>.inr (by simp at hc;omega))
 clear hT hT2 ef
 replace e7:=e7.up hS;replace e4:=e4.up hS;replace e5:=e5.up hS;replace e6:=e6.up hS
 refine W ?_
 refine ZDr 8 ([b4,b5,b6]) [] [(0,1),(1,0),(2,1),(3,0),(4,1),(5,2),(6,2),(7,2)] (fun w1 hS1=>?_)
 replace e7:=e7.up hS1;replace e4:=e4.up hS1;replace e5:=e5.up hS1;replace e6:=e6.up hS1
 replace ef':=ef'.up hS1
 replace hS:=hS.trans hS1
 clear hS1
 have m7:b7∉[b4,b5,b6]:=by simp;exact ⟨n74,n75,n76⟩
 have mf:bf∉[b4,b5,b6]:=by simp;omega
 refine Z3r rfl trivial rfl rfl e7 m7 rfl rfl ?_
 refine JG rfl trivial rfl rfl ?_
 refine Jh rfl trivial rfl rfl ef' mf rfl rfl ?_
 refine JG rfl trivial rfl rfl ?_
 refine Jh rfl trivial rfl rfl ef' mf rfl rfl ?_
 refine ZG rfl trivial (Z1 (us:=zC) rfl rfl rfl rfl Zcb e4 h4.symm) (fun _ _ h=>h.1.mono (by simp)) ?_
 rintro _ w3 ⟨hT,e4'⟩
 replace e5:=e5.ext hT (by simpa using n45.symm)
 replace e6:=e6.ext hT (by simpa using n46.symm)
 replace hS:=(hS.mono (S':=[b4,b5,b6]) (by simp)).trans (hT.mono (by simp))
 clear hT
 refine ZG rfl trivial (Z1 (us:=[.int .i64 a]) rfl rfl rfl rfl (by simp;rfl) e5 rfl) (fun _ _ h=>h.1.mono (by simp)) ?_
 rintro _ w4 ⟨hT,e5'⟩
 replace e4':=e4'.ext hT (by simpa using n45)
 replace e6:=e6.ext hT (by simpa using n56.symm)
 replace hS:=hS.trans (hT.mono (by simp))
 clear hT
 refine ZG rfl trivial (Z1 (us:=[.int .i64 c]) rfl rfl rfl rfl (by simp;rfl) e6 rfl) (fun _ _ h=>h.1.mono (by simp)) ?_
 rintro _ w5 ⟨hT,e6'⟩
 replace e4':=e4'.ext hT (by simpa using n46)
 replace e5':=e5'.ext hT (by simpa using n56)
 replace hS:=hS.trans (hT.mono (by simp))
 refine Z3p ?_
 refine W ?_
 first|refine Z4n rfl ?_|refine Z4o rfl ?_
 exact ⟨⟨_,rfl⟩,rfl,e4',e5',e6',hS⟩
theorem Zb3 (b7 b4 b5 b6:Nat) (w:World) :
 CallsD Tryz.prog 118 #[.pointer (some ⟨b7,0,none⟩),.pointer (some ⟨b4,0,none⟩),.pointer (some ⟨b5,0,none⟩),.pointer (some ⟨b6,0,none⟩)] .returning w
  (fun e u' w'=>∃ v,e=.returned v∧(u'=.returning∧Stp [] w w')):=by
 refine callsD_of_wpS Tryz.func118 rfl fun c₀ cs hu=>?_
 have hc:c₀={ c₀ with mode:=.returning }:=by rw [← hu]
 apply wpS_seq
 apply wpS_region
 simp [wpOpsS,go_sem,recoverD,hu,Tryz.ntmps118,Exit.thenS]
 rw [hc]
 refine Z4z (n:=22) (e:=[(0,.pointer (some ⟨b7,0,none⟩)),(1,.pointer (some ⟨b4,0,none⟩)),(2,.pointer (some ⟨b5,0,none⟩)),(3,.pointer (some ⟨b6,0,none⟩)),(4,.nilIface)]) (Has.of rfl (by simp) (by
  intro p hp
  simp only [Xf,Xk,or_false] at hp
  rcases hp with rfl|rfl|rfl|rfl|rfl<;>kernel_rfl)) ?_
 refine W ?_
 refine Z7 (Z1P rfl Zd8) rfl ?_
 refine W ?_
 refine Z3 Z6 rfl ?_
 rintro _ w1 ⟨bf,rfl,hbf,ef,hT⟩
 refine Z0 (Z1 (us:=[.int .i64 0,.int .i64 0]) rfl rfl rfl rfl (by intro u hu;simp at hu;rcases hu with rfl|rfl<;>rfl) ef rfl) ?_
 rintro _ w2 ⟨hT2,ef'⟩
 have hS:=hT.own hT2 (fun c hc=>.inr (by simp at hc;omega))
 refine W ?_
 refine Zgp ⟨_,rfl⟩ rfl rfl ?_
 refine W ?_
 first|refine Z4n rfl ?_|refine Z4o rfl ?_
 exact ⟨⟨_,rfl⟩,rfl,hS⟩
set_option maxHeartbeats 2000000 in
theorem Zcc (X:List Nat) (s:Str) (er:Value) (m:Int) (w:World) (hX:∀ c∈X,c<w.heap.size) (hLG:Z0M w) (hm:w.cell? ⟨2,0,none⟩=some (.int .i64 m)) (hv4:w.cell? ⟨5,0,none⟩=some er) (hev:er=.nilIface∨∃ te pe,er=.iface te pe) (hl:s.length≤1000000) :
 CC 63 #[str s,.func (.func 64) #[] #[]] w fun r w'=>Zpj X w' r (Z1b s)∧Stp [] w w':=by
 have h1w:2<w.heap.size:=by have:=block_lt_of_cell hm;simpa using this
 refine Z4K (n:=43) Tryz.func63 rfl rfl rfl ?_
 refine W ?_
 refine Z3 Z6 rfl ?_
 rintro _ w1 ⟨b4,rfl,hb4,e4,hS⟩
 refine W ?_
 refine Z3 Z6 rfl ?_
 rintro _ w2 ⟨b5,rfl,hb5,e5,hT⟩
 have n45:b4≠b5:=by have:=e4.lt;omega
 have g5:w.heap.size≤b5:=Xh hS.size hb5
 replace e4:=e4.up hT
 replace hS:=hS.trans hT
 refine W ?_
 refine Z3 Z6 rfl ?_
 rintro _ w3 ⟨b6,rfl,hb6,e6,hT⟩
 have n46:b4≠b6:=by have:=e4.lt;omega
 have n56:b5≠b6:=by have:=e5.lt;omega
 have g6:w.heap.size≤b6:=Xh hS.size hb6
 replace e4:=e4.up hT;replace e5:=e5.up hT
 replace hS:=hS.trans hT
 refine W ?_
 refine Z3 Z6 rfl ?_
 rintro _ w4 ⟨b7,rfl,hb7,e7,hT⟩
 have n74:b7≠b4:=by have:=e4.lt;omega
 have n75:b7≠b5:=by have:=e5.lt;omega
 have n76:b7≠b6:=by have:=e6.lt;omega
 replace e4:=e4.up hT;replace e5:=e5.up hT;replace e6:=e6.up hT
 replace hS:=hS.trans hT
 clear hT
 have g4:w.heap.size≤b4:=hb4
 have hlt4:∀ c∈[b4,b5,b6,b7],c<w4.heap.size:=fun c hc=>by
  simp only [Xf,Xk,or_false] at hc
  rcases hc with rfl|rfl|rfl|rfl
  exact e4.lt
  exact e5.lt
  exact e6.lt
  exact e7.lt
 refine W ?_
 refine CL rfl (Zp rfl) rfl (Z7J s er _ (hLG.up hS) (hS.cell (by simp) hv4) hev hl) ?_
 rintro r w5 ⟨hr,hT⟩
 replace e4:=e4.up hT;replace e5:=e5.up hT;replace e6:=e6.up hT;replace e7:=e7.up hT
 have hSo:=hS
 replace hS:=hS.trans hT
 clear hT
 have own3:∀ {S:List Nat},(∀ c∈S,c=b4∨c=b5∨c=b6)→∀ c∈S,c∈([]:List Nat)∨w.heap.size≤c:=fun h c hc=>by
  rcases h c hc with rfl|rfl|rfl
  exact .inr g4
  exact .inr g5
  exact .inr g6
 cases hK:Z14 s with
 | err a c=>
   rw [hK] at hr
   have hr':r=.tuple #[.slice none 0 0,.int .i64 a,.int .i64 c]:=hr
   subst hr'
   have hc0:=Z6z hK
   refine W ?_
   refine Z0 (Z1 (us:=[.int .i64 a]) rfl rfl rfl rfl (by simp;rfl) e5 rfl) ?_
   rintro _ w6 ⟨hT,e5'⟩
   replace e4:=e4.ext hT (by simpa using n45)
   replace e6:=e6.ext hT (by simpa using n56.symm)
   replace e7:=e7.ext hT (by simpa using n75)
   replace hS:=hS.own hT (own3 (by simp))
   refine W ?_
   refine Z0 (Z1 (us:=[.int .i64 c]) rfl rfl rfl rfl (by simp;rfl) e6 rfl) ?_
   rintro _ w7 ⟨hT2,e6'⟩
   replace e4:=e4.ext hT2 (by simpa using n46)
   replace e5':=e5'.ext hT2 (by simpa using n56)
   replace e7:=e7.ext hT2 (by simpa using n76)
   replace hS:=hS.own hT2 (own3 (by simp))
   clear hT hT2 e5 e6
   repeat'(first|refine W1 ?_|omega|refine VG ?_ ?_<;>intro hg|refine VC ?_ ?_<;>intro hc)
   refine ZDr 6 ([b4]) [] [(0,1),(1,1),(2,1),(3,2),(4,2),(5,2)] (fun w8 hS1=>?_)
   replace e7:=e7.up hS1;replace e4:=e4.up hS1;replace e5':=e5'.up hS1;replace e6':=e6'.up hS1
   replace hS:=hS.trans hS1
   clear hS1
   refine Z3r rfl trivial rfl rfl e7 (by simpa using n74) rfl rfl ?_
   refine Jh rfl trivial rfl rfl e5' (by simpa using n45.symm) rfl rfl ?_
   refine Jh rfl trivial rfl rfl e6' (by simpa using n46.symm) rfl rfl ?_
   refine ZG rfl trivial (Z1 (us:=zC) rfl rfl rfl rfl Zcb e4 rfl) (fun _ _ h=>h.1) ?_
   rintro _ w9 ⟨hT,e4'⟩
   replace e5':=e5'.ext hT (by simpa using n45.symm)
   replace e6':=e6'.ext hT (by simpa using n46.symm)
   replace hS:=hS.own hT (own3 (by simp))
   clear hT e4 e7
   refine ZG (G:=fun _ w'=>Stp [] w9 w') rfl trivial ((Z1 (us:=[.int .i64 a]) rfl rfl rfl rfl (by simp;rfl) e5' rfl).mono (fun _ _ h=>Z12 h.1 e5' h.2)) (fun _ _ h=>h.mono (by simp)) ?_
   intro _ w10 hT
   replace e4':=e4'.up hT;replace e5':=e5'.up hT;replace e6':=e6'.up hT
   replace hS:=hS.trans hT
   clear hT
   refine ZG (G:=fun _ w'=>Stp [] w10 w') rfl trivial ((Z1 (us:=[.int .i64 c]) rfl rfl rfl rfl (by simp;rfl) e6' rfl).mono (fun _ _ h=>Z12 h.1 e6' h.2)) (fun _ _ h=>h.mono (by simp)) ?_
   intro _ w11 hT
   replace e4':=e4'.up hT;replace e5':=e5'.up hT;replace e6':=e6'.up hT
   replace hS:=hS.trans hT
   clear hT
   refine Z3p ?_
   refine W ?_
   refine ⟨fun act ha=>?_⟩
   show Leaves _ _ act.tmps _ act.defers .returning _
   rw [ha.defers]
   refine ⟨_,Z3H rfl rfl rfl rfl (ha.vals 4 _ rfl) (ha.vals 5 _ rfl) (ha.vals 6 _ rfl) e4' rfl e5' e6',?_⟩
   refine .mk ⟨?_,hS⟩
   unfold Z1b
   rw [hK]
   rfl
 | ok l=>
   rw [hK] at hr
   obtain ⟨tv,rfl,hrow⟩:∃ tv,r=.tuple #[tv,.int .i64 0,.int .i64 0]∧Z0y 167 w4 w5 tv l:=hr
   obtain ⟨hL,-⟩:=Z5z hK
   have hts:SlV (α:=Tkn) [b4,b5,b6,b7] w5 tv l:=hrow.slv hlt4
   have hlp:=hL.pos
   have hll:l.length≤1000000:=by have:=hL.len;omega
   refine W ?_
   refine Z0 (Z1 (us:=[.int .i64 0]) rfl rfl rfl rfl (by simp;rfl) e5 rfl) ?_
   rintro _ w6 ⟨hT,e5'⟩
   replace e4:=e4.ext hT (by simpa using n45)
   replace e6:=e6.ext hT (by simpa using n56.symm)
   replace e7:=e7.ext hT (by simpa using n75)
   replace hts:=hts.ext (X':=[b4,b5,b6,b7]) hT (by simp) (fun _ h=>.inl h)
   replace hS:=hS.own hT (own3 (by simp))
   refine W ?_
   refine Z0 (Z1 (us:=[.int .i64 0]) rfl rfl rfl rfl (by simp;rfl) e6 rfl) ?_
   rintro _ w7 ⟨hT2,e6'⟩
   replace e4:=e4.ext hT2 (by simpa using n46)
   replace e5':=e5'.ext hT2 (by simpa using n56)
   replace e7:=e7.ext hT2 (by simpa using n76)
   replace hts:=hts.ext (X':=[b4,b5,b6,b7]) hT2 (by simp) (fun _ h=>.inl h)
   replace hS:=hS.own hT2 (own3 (by simp))
   clear hT hT2 e5 e6
   repeat'(first|refine W1 ?_|omega|refine VG ?_ ?_<;>intro hg|refine VC ?_ ?_<;>intro hc)
   refine Z7 (Z5w rfl rfl rfl rfl) rfl ?_
   refine ZaW rfl ?_
   refine Z1O (Z1a ?_)
   refine W ?_
   obtain ⟨tp,tc,htv⟩:=hts.len
   refine Z7 (Z0A (vs:=[(0,tv)]) rfl (by rw [htv];exact fun w=>Zd9 _ _ _ w)) rfl ?_
   refine Z3 (Zs rfl) rfl ?_
   rintro _ w8 ⟨bp,rfl,hbp,ep,hT⟩
   have l4:=e4.lt
   have l5:=e5'.lt
   have l6:=e6'.lt
   have l7:=e7.lt
   have hXp:∀ c∈bp :: b4 :: b5 :: b6 :: b7 :: X,c<w8.heap.size:=fun c hc=>by
    have h8:=hT.size
    have hp:=ep.lt
    have h0:=hS.size
    simp only [Xf] at hc
    rcases hc with rfl|rfl|rfl|rfl|rfl|hc
    exact hp
    omega
    omega
    omega
    omega
    have:=hX c hc;omega
   have hpd:Pd w8 bp tv l 0 0:=⟨by rw [htv];exact ep,hts.ext hT (by simp) (fun c hc=>by simp at hc;subst hc;exact .inr hbp),hlp,hll,by omega⟩
   replace hts:=hts.ext (X':=[bp,b4,b5,b6,b7]) hT (by simp) (fun c hc=>by
    rcases Xf.1 hc with rfl|hc
    exact .inr hbp
    exact .inl hc)
   replace e4:=e4.up hT;replace e5':=e5'.up hT;replace e6':=e6'.up hT;replace e7:=e7.up hT
   replace hS:=hS.trans hT
   have gp:w.heap.size≤bp:=by have:=hS.size;omega
   have np4:b4≠bp:=by omega
   have np5:b5≠bp:=by omega
   have np6:b6≠bp:=by omega
   have np7:b7≠bp:=by omega
   clear hT
   refine Z7 (Z4p rfl) rfl ?_
   refine Z22 ?_
   refine Z2t (Z11 ?_)
   refine Z1O (Z1a ?_)
   refine Z7 (ZU rfl) rfl ?_
   refine Z7 (ZU rfl) rfl ?_
   have hP:=Z8M (bp :: b4 :: b5 :: b6 :: b7 :: X) bp tv l hL m 0 0 w8 (by omega) (by simp) hXp (hS.cell (by simp) hm) hpd
   cases hR:Z0u l 0 0 with
   | err a c=>
     rw [hR] at hP
     refine Z66 rfl (Zp rfl) hP rfl ?_
     intro w9 hT
     replace e4:=e4.ext hT (by simpa using np4)
     replace e5':=e5'.ext hT (by simpa using np5)
     replace e6':=e6'.ext hT (by simpa using np6)
     replace e7:=e7.ext hT (by simpa using np7)
     replace hS:=hS.own hT (fun c hc=>.inr (by simp at hc;omega))
     refine Z2t (Z2u ?_)
     refine ⟨fun act ha=>?_⟩
     show Leaves _ _ act.tmps _ (act.defers++_) (.panicking _) _
     rw [ha.defers]
     refine Z2v (f:=118) (by simp) (Z6A a c b7 b4 b5 b6 _ _ _ w9 e7 e4 e5' e6' rfl n74 n75 n76 n45 n46 n56) ?_
     rintro v u' w10 ⟨rfl,e4',e5'',e6'',hT⟩
     refine ⟨rfl,_,Z3H rfl rfl rfl rfl (ha.vals 4 _ rfl) (ha.vals 5 _ rfl) (ha.vals 6 _ rfl) e4' rfl e5'' e6'',?_⟩
     refine .mk ⟨?_,hS.own hT (own3 (by simp))⟩
     unfold Z1b
     rw [hK]
     simp only [hR]
     rfl
   | ok x i' o'=>
     rw [hR] at hP
     refine CL rfl (Zp rfl) rfl hP ?_
     rintro rv w9 ⟨⟨kv,rfl,hkv⟩,hpd',hT⟩
     replace e4:=e4.ext hT (by simpa using np4)
     replace e5':=e5'.ext hT (by simpa using np5)
     replace e6':=e6'.ext hT (by simpa using np6)
     replace e7:=e7.ext hT (by simpa using np7)
     replace hts:=hts.ext (X':=[bp,b4,b5,b6,b7]) hT (by simp) (fun _ h=>.inl h)
     replace hS:=hS.own hT (fun c hc=>.inr (by simp at hc;omega))
     obtain ⟨ep',-,hil,-,ho'⟩:=hpd'
     refine Z0 (Z1 (us:=ndC x kv) rfl rfl rfl rfl (Zk hkv) e4 rfl) ?_
     rintro _ w10 ⟨hT,e4'⟩
     replace ep':=ep'.ext hT (by simpa using np4.symm)
     replace e5':=e5'.ext hT (by simpa using n45.symm)
     replace e6':=e6'.ext hT (by simpa using n46.symm)
     replace e7:=e7.ext hT (by simpa using n74)
     replace hts:=hts.ext (X':=[bp,b4,b5,b6,b7]) hT (by simp) (fun _ h=>.inl h)
     replace hkv:=hkv.ext (X':=bp :: b4 :: b5 :: b6 :: b7 :: X) hT (by simp) (fun _ h=>.inl h)
     replace hS:=hS.own hT (own3 (by simp))
     clear hT
     refine Z22 ?_
     refine Z2t (Z11 ?_)
     refine Z1O (Z1O ?_)
     refine Z8O 12 [] [] [(0,0),(1,0),(2,0),(3,1),(4,0),(5,0),(6,0),(7,1),(8,0),(9,0),(10,1),(11,0)] rfl mixed (by kernel_rfl) (by kernel_rfl) (by kernel_rfl) (fun w1 hS1=>?_)
     replace e4':=e4'.up hS1;replace e5':=e5'.up hS1;replace e6':=e6'.up hS1;replace ep':=ep'.up hS1;replace e7:=e7.up hS1
     replace hts:=hts.up hS1
     replace hkv:=hkv.up hS1
     replace hS:=hS.trans hS1
     clear hS1
     refine D ?_
     refine W ?_
     refine Z2t (Z11 ?_)
     by_cases hk0:(cur l i').kind=0
     have hk0':=hk0
     rw [Z4a hil] at hk0'
     refine Z4d (by simp [ev,hk0'];rfl) (ZaV (Z11 (Z1O ?_)))
     refine Z1a ?_
     refine Z7 (J8 rfl rfl e4' rfl) rfl ?_
     refine Z0 (G:=fun _ w'=>Stp [] w1 w') ((Z1 (us:=ndC x kv) rfl rfl rfl rfl (Zk hkv) e4' rfl).mono (fun _ _ h=>Z12 h.1 e4' h.2)) ?_
     intro _ w12 hT
     replace e4':=e4'.up hT;replace e5':=e5'.up hT;replace e6':=e6'.up hT;replace hkv:=hkv.up hT
     replace hS:=hS.trans hT
     clear hT
     refine Z0 (G:=fun _ w'=>Stp [] w12 w') ((Z1 (us:=[.int .i64 0]) rfl rfl rfl rfl (by simp;rfl) e5' rfl).mono (fun _ _ h=>Z12 h.1 e5' h.2)) ?_
     intro _ w13 hT
     replace e4':=e4'.up hT;replace e5':=e5'.up hT;replace e6':=e6'.up hT;replace hkv:=hkv.up hT
     replace hS:=hS.trans hT
     clear hT
     refine Z0 (G:=fun _ w'=>Stp [] w13 w') ((Z1 (us:=[.int .i64 0]) rfl rfl rfl rfl (by simp;rfl) e6' rfl).mono (fun _ _ h=>Z12 h.1 e6' h.2)) ?_
     intro _ w14 hT
     replace e4':=e4'.up hT;replace e5':=e5'.up hT;replace e6':=e6'.up hT;replace hkv:=hkv.up hT
     replace hS:=hS.trans hT
     clear hT
     refine Z22 ?_
     refine Z2t (Z11 (Zd5 ?_))
     refine ⟨fun act ha=>?_⟩
     show Leaves _ _ act.tmps _ (act.defers++_) .returning _
     rw [ha.defers]
     refine Z2v (f:=118) (by simp) (Zb3 b7 b4 b5 b6 w14) ?_
     rintro v u' w15 ⟨rfl,hT⟩
     refine ⟨rfl,_,Z3H rfl rfl rfl rfl (ha.vals 4 _ rfl) (ha.vals 5 _ rfl) (ha.vals 6 _ rfl) (e4'.up hT) rfl (e5'.up hT) (e6'.up hT),?_⟩
     have hM:Z1b s=.ok x:=by
      unfold Z1b
      rw [hK]
      simp only [hR]
      rw [if_pos hk0]
     rw [hM]
     exact .mk ⟨⟨kv,rfl,(hkv.up hT).ext (Stp.refl [] _) (by simp) (fun c hc=>.inl (by simp [hc]))⟩,hS.trans hT⟩
     have hk0':=hk0
     rw [Z4a hil] at hk0'
     have hpd2:Pd w1 bp tv l i' o':=⟨ep',hts.wk (by simp),hil,hll,ho'⟩
     refine Z8c (by simp [ev,hk0'];rfl) (Z1a ?_)
     refine Z7 (ZU rfl) rfl ?_
     refine Z66 rfl (Z9 rfl rfl) (ZaO bp tv l i' o' 20 _ hpd2) rfl ?_
     intro w12 hT
     replace e4':=e4'.up hT;replace e5':=e5'.up hT;replace e6':=e6'.up hT;replace e7:=e7.up hT
     replace hS:=hS.trans hT
     refine Z2t (Z2u ?_)
     refine ⟨fun act ha=>?_⟩
     show Leaves _ _ act.tmps _ (act.defers++_) (.panicking _) _
     rw [ha.defers]
     refine Z2v (f:=118) (by simp) (Z6A _ 20 b7 b4 b5 b6 _ _ _ w12 e7 e4' e5' e6' rfl n74 n75 n76 n45 n46 n56) ?_
     rintro v u' w13 ⟨rfl,e4',e5'',e6'',hT⟩
     refine ⟨rfl,_,Z3H rfl rfl rfl rfl (ha.vals 4 _ rfl) (ha.vals 5 _ rfl) (ha.vals 6 _ rfl) e4' rfl e5'' e6'',?_⟩
     have hM:Z1b s=.err (cur l i').pos 20:=by
      unfold Z1b
      rw [hK]
      simp only [hR]
      rw [if_neg hk0]
     rw [hM]
     exact .mk ⟨rfl,hS.own hT (own3 (by simp))⟩
theorem Zeb (X:List Nat) (s:Str) (er:Value) (m:Int) (w:World) (hX:∀ c∈X,c<w.heap.size) (hLG:Z0M w) (hm:w.cell? ⟨2,0,none⟩=some (.int .i64 m)) (hv4:w.cell? ⟨5,0,none⟩=some er) (hev:er=.nilIface∨∃ te pe,er=.iface te pe) (hl:s.length≤1000000) :
 CC 23 #[str s] w fun r w'=>Zpj X w' r (Z1b s)∧Stp [] w w':=by
 refine cW1 10 Tryz.func23 ?_
 refine W ?_
 refine Z3 Z6 rfl ?_
 rintro _ w1 ⟨b2,rfl,hb2,k2,hS⟩
 have hXb:∀ c∈b2 :: X,c<w1.heap.size:=fun c hc=>by
  rcases Xf.1 hc with rfl|hc
  exact k2.lt
  exact Xa (hX c hc) hS.size
 refine W ?_
 refine CL rfl (Z9 rfl rfl) rfl (Zcc (b2 :: X) s er m w1 hXb (hLG.up hS) (hS.cell (by simp) hm) (hS.cell (by simp) hv4) hev hl) ?_
 rintro r w2 ⟨hr,hT⟩
 replace k2:=k2.up hT
 replace hS:=hS.trans hT
 clear hT
 cases hK:Z1b s with
 | err a c=>
   rw [hK] at hr
   have hr':r=.tuple #[.agg zC.toArray,.int .i64 a,.int .i64 c]:=hr
   subst hr'
   refine W ?_
   refine Z0 (Z1 (us:=zC) rfl rfl rfl rfl Zcb k2 rfl) ?_
   rintro _ w3 ⟨hT,k2⟩
   refine W ?_
   refine Z8S rfl rfl rfl k2 rfl rfl rfl ?_
   exact .mk ⟨rfl,hS.own hT (fun c hc=>.inr (by simp at hc;omega))⟩
 | ok x=>
   rw [hK] at hr
   obtain ⟨kv,rfl,hkv⟩:=hr
   refine W ?_
   refine Z0 (Z1 (us:=ndC x kv) rfl rfl rfl rfl (Zk hkv) k2 rfl) ?_
   rintro _ w3 ⟨hT,k2⟩
   refine W ?_
   refine Z8S rfl rfl rfl k2 rfl rfl rfl ?_
   exact .mk ⟨⟨kv,rfl,hkv.ext hT (by simp) (fun c hc=>.inl (by simp [hc]))⟩,hS.own hT (fun c hc=>.inr (by simp at hc;omega))⟩
end Go.Proofs.YtjdjdoefppebkaaGreatDoor
namespace Go.Eng
open Go Go.RowKit Go.Proofs
end Go.Eng
namespace Go.Proofs.YtjdjdoefppebkaaGreatDoor
open Go Go.Eng Go.RowKit
instance:Zi Hol where
 k:=9
 enc:=fun h=>[.int .i64 h.kind,.int .i64 h.month,.int .i64 h.day,.int .i64 h.wd,.int .i64 h.nth,.int .i64 h.off,.int .i64 h.move,.int .i64 h.first,.int .i64 h.last]
 len:=fun _=>rfl
 one:=by intro x u hu;simp at hu;rcases hu with rfl|rfl|rfl|rfl|rfl|rfl|rfl|rfl|rfl<;>rfl
instance:Zi Clo where
 k:=3
 enc:=fun h=>[.int .i64 h.lo,.int .i64 h.hi,.int .i64 h.known]
 len:=fun _=>rfl
 one:=by intro x u hu;simp at hu;rcases hu with rfl|rfl|rfl<;>rfl
instance:Zi Spn where
 k:=2
 enc:=fun h=>[.int .i64 h.1,.int .i64 h.2]
 len:=fun _=>rfl
 one:=by intro x u hu;simp at hu;rcases hu with rfl|rfl<;>rfl
def Z68:List Int:=[0,0,0,0,0,0,0,0,0,0,0,0,2,1,0,0,0,0,0,-1,1]
def Z3I (w:World):Prop:=∀ i u,Z68[i]?=some u→w.cell? ⟨3,i,none⟩=some (.int .i64 u)
theorem Z3I.ext {S:List Nat} {w w':World} (h:Z3I w) (hS:Stp S w w') (hb:3∉S):Z3I w':=fun i u hu=>hS.cell hb (h i u hu)
theorem Z3I.up {w w':World} (h:Z3I w) (hS:Stp [] w w'):Z3I w':=h.ext hS (by simp)
structure MK where
 w0:World
 bm:Nat
 nk:Option Nat
 ev:List Int
 c:Cal
 kn:Int
 hv:Value
 cv:Value
 zo:Value
 zs:Value
 hr:Value
 pr:List (Nat×Obj)
def Z0i (c:Cal) (hv cv zo zs hr:Value):List Value:=
 [.bool (c.week.getD 0 false),.bool (c.week.getD 1 false),.bool (c.week.getD 2 false),.bool (c.week.getD 3 false),.bool (c.week.getD 4 false),.bool (c.week.getD 5 false),.bool (c.week.getD 6 false),hv,cv,zo,zs,hr]
def evC (ev:List Int):List Value:=[.int .i64 (ev.getD 0 0),.int .i64 (ev.getD 1 0),.int .i64 (ev.getD 2 0),.int .i64 (ev.getD 3 0),.int .i64 (ev.getD 4 0),.int .i64 (ev.getD 5 0),.int .i64 (ev.getD 6 0)]
def Zjb (nk:Option Nat):Value:=match nk with|none=>.func (.func 57) #[] #[]|some bs=>.func (.func 78) #[] #[.pointer (some ⟨bs,0,none⟩)]
def Z1H (K:MK) (sv:Value) (at_ er:Int) (dn:Bool):List Value:=
 evC K.ev++Z0i K.c K.hv K.cv K.zo K.zs K.hr++[.int .i64 K.kn,sv,.int .i64 at_,.int .i64 er,.bool dn,Zjb K.nk]
def MK.own (K:MK):List Nat:=K.bm :: K.nk.toList
structure KOk (K:MK):Prop where
 hols:SlV K.own K.w0 K.hv K.c.hols
 clos:SlV K.own K.w0 K.cv K.c.clos
 ozo:K.zo.oneCell'=true
 ozs:K.zs.oneCell'=true
 ohr:K.hr.oneCell'=true
 len:Z0M K.w0
 mov:Z3I K.w0
 bml:K.bm<K.w0.heap.size
 nkl:∀ b,K.nk=some b→b<K.w0.heap.size∧b≠K.bm
 gl:∀ b∈K.own,b≠1∧b≠3
 cal:ZcZ K.c
 ev:Z49 K.ev
structure Mch (K:MK) (w:World) (sv pv:Value) (st:List Int) (sp:List Spn) (at_ er:Int) (dn:Bool):Prop where
 blk:Blk w K.bm 126 (Z1H K sv at_ er dn)
 row:Row [] w K.w0.heap.size 3 sv st
 nt:∀ bs,K.nk=some bs→Blk w bs 45 [pv]∧Row [] w K.w0.heap.size 111 pv sp
 nt0:K.nk=none→pv=.slice none 0 0
 ap:∀ b∈ob sv,b∉ob pv
 stp:Stp K.own K.w0 w
 prot:∀ p∈K.pr,w.heap[p.1]?=some p.2∧p.1∉K.own∧p.1∉ob sv∧p.1∉ob pv
section
variable {K:MK} {w w':World} {sv pv:Value} {st:List Int} {sp:List Spn} {at_ er:Int} {dn:Bool}
theorem Mch.up (h:Mch K w sv pv st sp at_ er dn) (hS:Stp [] w w'):Mch K w' sv pv st sp at_ er dn:=
 ⟨h.blk.up hS,h.row.up hS,fun bs hb=>⟨(h.nt bs hb).1.up hS,(h.nt bs hb).2.up hS⟩,h.nt0,h.ap,h.stp.trans (hS.mono (by simp)),fun p hp=>let ⟨a,b,c,d⟩:=h.prot p hp;⟨(hS.block p.1 (Xl.1 a).1 (by simp)).trans a,b,c,d⟩⟩
theorem Mch.own_lt (hK:KOk K):∀ b∈K.own,b<K.w0.heap.size:=by
 intro b hb
 rcases Xf.1 hb with rfl|h
 exact hK.bml
 exact (hK.nkl b (by simpa using h)).1
theorem Mch.hols (hK:KOk K) (h:Mch K w sv pv st sp at_ er dn):SlV K.own w K.hv K.c.hols:=hK.hols.ext h.stp (fun b hb=>hb) (fun b hb=>.inl hb)
theorem Mch.clos (hK:KOk K) (h:Mch K w sv pv st sp at_ er dn):SlV K.own w K.cv K.c.clos:=hK.clos.ext h.stp (fun b hb=>hb) (fun b hb=>.inl hb)
theorem Mch.len (hK:KOk K) (h:Mch K w sv pv st sp at_ er dn):Z0M w:=hK.len.ext h.stp (fun hb=>(hK.gl _ hb).1 rfl)
theorem Mch.mov (hK:KOk K) (h:Mch K w sv pv st sp at_ er dn):Z3I w:=hK.mov.ext h.stp (fun hb=>(hK.gl _ hb).2 rfl)
theorem Mch.put (hK:KOk K) (h:Mch K w sv pv st sp at_ er dn) {at' er':Int} {dn':Bool} (hS:Stp [K.bm] w w') (hb:Blk w' K.bm 126 (Z1H K sv at' er' dn')):Mch K w' sv pv st sp at' er' dn':=by
 have hl:∀ v,(∀ b∈ob v,K.w0.heap.size≤b)→∀ b∈[K.bm],b∉ob v:=fun v hv b hb h2=>by
  have:=hK.bml
  have:=hv b h2
  simp at hb
  omega
 refine ⟨hb,h.row.keep hS (hl _ (fun b hb=>(h.row.ob_le b hb).1)),fun bs hbs=>?_,h.nt0,h.ap,h.stp.trans (hS.mono (by simp [MK.own])),fun p hp=>let ⟨a,b,c,d⟩:=h.prot p hp;⟨(hS.block p.1 (Xl.1 a).1 (fun e=>b (by simp at e;rw [e];exact YaZ))).trans a,b,c,d⟩⟩
 obtain ⟨h1,h2⟩:=h.nt bs hbs
 exact ⟨h1.ext hS (by have:=(hK.nkl bs hbs).2;simpa using this),h2.keep hS (hl _ (fun b hb=>(h2.ob_le b hb).1))⟩
theorem Mch.stack (hK:KOk K) (h:Mch K w sv pv st sp at_ er dn) {sv':Value} {st':List Int} {w2:World} (hS:Stp (ob sv) w w') (hr:Row [] w' K.w0.heap.size 3 sv' st') (ho:∀ b∈ob sv',b∈ob sv∨w.heap.size≤b)
 (hS2:Stp [K.bm] w' w2) (hb:Blk w2 K.bm 126 (Z1H K sv' at_ er dn)):Mch K w2 sv' pv st' sp at_ er dn:=by
 have hbm:=hK.bml
 have hge:=fun b hb=>(hr.ob_le b hb).1
 have hge0:=fun b hb=>(h.row.ob_le b hb).1
 have hl:=h.stp.size
 refine ⟨hb,hr.keep hS2 (fun b hb h2=>by have:=hge b h2;simp at hb;omega),fun bs hbs=>?_,h.nt0,fun b hb hp=>?_,?_,fun p hp=>?_⟩
 obtain ⟨h1,h2⟩:=h.nt bs hbs
 have hn:=hK.nkl bs hbs
 have hge1:=fun b hb=>(h2.ob_le b hb).1
 refine ⟨(h1.ext hS (fun hx=>by have:=hge0 _ hx;omega)).ext hS2 (by simpa using hn.2),(h2.keep hS (fun b hb=>h.ap b hb)).keep hS2 (fun b hb hx=>by have:=hge1 _ hx;simp at hb;omega)⟩
 · cases hk:K.nk with
   | none=>rw [h.nt0 hk] at hp;simp [ob] at hp
   | some bs=>
     obtain ⟨h1,h2⟩:=h.nt bs hk
     rcases ho b hb with h3|h3
     exact h.ap b h3 hp
     have:=(h2.ob_le b hp).2
     omega
 refine (h.stp.own (S':=ob sv) hS (fun b hb=>.inr (hge0 b hb))).trans (hS2.mono (by simp [MK.own]))
 obtain ⟨a,b,c,d⟩:=h.prot p hp
 have hlt:=(Xl.1 a).1
 have a2:=(hS.block p.1 hlt c).trans a
 have a3:=(hS2.block p.1 (Xl.1 a2).1 (fun e=>b (by simp at e;rw [e];exact YaZ))).trans a2
 exact ⟨a3,b,fun h3=>(ho _ h3).elim c (fun h4=>by omega),d⟩
theorem Zgq (hK:KOk K) (h:Mch K w sv pv st sp at_ er dn) (n e:Int) (hl:st.length≤100000) :
 CC 202 #[.pointer (some ⟨K.bm,0,none⟩),.int .i64 n,.int .i64 e] w fun r w'=>r=.tuple #[]∧∃ sv',Mch K w' sv' pv (if e=0 then st++[n] else st) sp at_ (if e=0 then er else e) (if e=0 then dn else true):=by
 have hblk:=h.blk
 have hrow:=h.row
 unfold Z1H at hblk
 refine cW3 25 Tryz.func202 ?_
 by_cases he:e=0
 subst he
 rw [if_pos rfl,if_pos rfl,if_pos rfl]
 focus repeat'(first|refine W1 ?_|omega|refine VG ?_ ?_<;>intro hg|refine VC ?_ ?_<;>intro hc)
 refine Z3 (Z2 (vs:=[(0,.int .i64 n)]) rfl (Jv _)) rfl ?_
 rintro bv w1 hN
 have hS1:=Zc.stp hN
 have hbv:SlV (ob sv++[]) w1 bv [n]:=hN.slv (fun b hb=>by simp at hb;exact (hrow.ob_le b hb).2) rfl rfl (by simp [maxLen])
 replace h:=h.up hS1
 replace hrow:=hrow.up hS1
 replace hblk:=hblk.up hS1
 refine Z3 (Z05 rfl (by decide) rfl rfl hrow hbv (by simp;omega) (by simp [maxLen];omega) (h.stp.size)) rfl ?_
 rintro sv' w2 ⟨hr2,hS2,ho⟩
 have hblk2:=hblk.ext hS2 (fun hx=>by have:=(hrow.ob_le _ hx).1;have:=hK.bml;omega)
 refine W ?_
 have h1:=hr2.slv (X:=[]) (by simp)
 refine Z0 (Zj (u:=sv') rfl rfl h1.cells h1.one hblk2 (by simp [evC,Z0i])) ?_
 rintro _ w3 ⟨hS3,hblk3⟩
 refine W ?_
 refine WR ?_
 refine .mk ⟨rfl,sv',h.stack hK hS2 hr2 ho hS3 hblk3⟩
 rw [if_neg he,if_neg he,if_neg he]
 focus repeat'(first|refine W1 ?_|omega|refine VG ?_ ?_<;>intro hg|refine VC ?_ ?_<;>intro hc)
 refine Z0 (Zj (u:=.int .i64 e) rfl rfl rfl rfl hblk (by simp [evC,Z0i])) ?_
 rintro _ w1 ⟨hS1,hblk1⟩
 refine W ?_
 refine Z0 (Zj (u:=.bool true) rfl rfl rfl rfl hblk1 (by simp [evC,Z0i])) ?_
 rintro _ w2 ⟨hS2,hblk2⟩
 refine W ?_
 refine WR ?_
 exact .mk ⟨rfl,sv,h.put hK (hS1.trans hS2) hblk2⟩
end
def Res (K:MK) (w:World) (st:List Int) (sp:List Spn) (at_:Int) (r:Int×Int):Prop:=
 ∃ sv pv st2 sp2,Mch K w sv pv st2 sp2 at_ r.2 (decide (¬ r.2=0))∧(r.2=0→st2=st++[r.1]∧sp2=sp)
section
variable {K:MK} {w w':World} {sv pv:Value} {st:List Int} {sp:List Spn} {at_ er:Int} {dn:Bool}
abbrev mP (K:MK):Value:=.pointer (some ⟨K.bm,0,none⟩)
theorem Z3i (hK:KOk K) {v:Int} (h:Mch K w sv pv (st++[v]) sp at_ er dn) :
 CC 59 #[mP K] w fun r w'=>r=.int .i64 v∧(∃ sv',Mch K w' sv' pv st sp at_ er dn)∧Stp [K.bm] w w':=by
 have hblk:=h.blk
 have hrow:=h.row
 unfold Z1H at hblk
 have hs:=hrow.slv (X:=[]) (by simp)
 have hz:((st++[v]).length:Int) - 1=(st.length:Int):=by simp
 have hi:st.length<(st++[v]).length:=by simp
 have hm:=hs.max
 refine cW1 28 Tryz.func59 ?_
 refine W ?_
 refine Z7 (Z73 rfl hs rfl hz (by omega)) rfl ?_
 refine W ?_
 have hc:=hrow.cut (r:=st.length) (by omega)
 rw [Ybc rfl] at hc
 have h1:=hc.slv (X:=[]) (by simp)
 refine Z0 (Zj (u:=slc sv 0 st.length 1) rfl rfl h1.cells h1.one hblk (by simp [evC,Z0i])) ?_
 rintro _ w1 ⟨hS1,hblk1⟩
 refine W ?_
 refine WR ?_
 exact .mk ⟨by simp,⟨slc sv 0 st.length 1,h.stack hK (Stp.refl _ _) hc (fun b hb=>.inl (by rw [← Zfd sv st.length 1];exact hb)) hS1 hblk1⟩,hS1⟩
theorem Z1Q (hK:KOk K) {v:Int} (h:Mch K w sv pv (st++[v]) sp at_ er dn) :
 CC 59 #[mP K] w fun r w'=>r=.int .i64 v∧∃ sv',Mch K w' sv' pv st sp at_ er dn:=
 Go.Eng.Calls.ret (Z3i hK h) (fun _ _ h=>⟨h.1,h.2.1⟩)
theorem Z0d (hK:KOk K) {a b:Int} (h:Mch K w sv pv (st++[a,b]) sp at_ er dn) :
 CC 229 #[mP K] w fun r w'=>r=.tuple #[.int .i64 a,.int .i64 b]∧∃ sv',Mch K w' sv' pv st sp at_ er dn:=by
 refine cW1 10 Tryz.func229 ?_
 refine W ?_
 refine CL rfl (Zp rfl) rfl (Z1Q (st:=st++[a]) (v:=b) hK (by simpa using h)) ?_
 rintro _ w1 ⟨rfl,sv1,h1⟩
 refine W ?_
 refine CL rfl (Zp rfl) rfl (Z1Q hK h1) ?_
 rintro _ w2 ⟨rfl,sv2,h2⟩
 refine W ?_
 refine WR ?_
 exact .mk ⟨rfl,sv2,h2⟩
theorem Z0x (hK:KOk K) (h:Mch K w sv pv st sp at_ 0 false) (hl:st.length≤100000) (n e:Int) :
 CC 202 #[mP K,.int .i64 n,.int .i64 e] w fun r w'=>r=.tuple #[]∧Res K w' st sp at_ (n,e):=by
 refine Go.Eng.Calls.ret (Zgq hK h n e hl) ?_
 rintro v w' ⟨rfl,sv',h1⟩
 refine ⟨rfl,sv',pv,if e=0 then st++[n] else st,sp,?_,fun he=>⟨if_pos he,rfl⟩⟩
 by_cases he:e=0
 subst he
 simpa using h1
 simpa [he] using h1
theorem Zda (hK:KOk K) (h:Mch K w sv pv st sp at_ 0 false) (hl:st.length≤100000) (n a b:Int) :
 CC 280 #[mP K,.int .i64 n,.int .i64 a,.int .i64 b] w fun r w'=>r=.tuple #[]∧Res K w' st sp at_ (if n<a∨b<n then (0,5) else (n,0)):=by
 refine cW4 21 Tryz.func280 ?_
 by_cases hc:n<a∨b<n
 · rw [if_pos hc]
   repeat'(first|refine W1 ?_|omega|refine VG ?_ ?_<;>intro hg|refine VC ?_ ?_<;>intro hc)
   all_goals
    refine CL rfl (ZH rfl rfl rfl) rfl (Z0x hK h hl 0 5) ?_
    rintro _ w1 ⟨rfl,h1⟩
    refine W ?_
    refine WR ?_
    exact .mk ⟨rfl,h1⟩
 rw [if_neg hc]
 focus repeat'(first|refine W1 ?_|omega|refine VG ?_ ?_<;>intro hg|refine VC ?_ ?_<;>intro hc)
 refine CL rfl (ZH rfl rfl rfl) rfl (Z0x hK h hl n 0) ?_
 rintro _ w1 ⟨rfl,h1⟩
 refine W ?_
 refine WR ?_
 exact .mk ⟨rfl,h1⟩
theorem Z5A (hK:KOk K) (h:Mch K w sv pv st sp at_ 0 false) (hl:st.length≤100000) (n:Int) :
 CC 230 #[mP K,.int .i64 n] w fun r w'=>r=.tuple #[]∧Res K w' st sp at_ (Z3E n):=by
 refine cW2 7 Tryz.func230 ?_
 refine W ?_
 refine CL rfl (Z3n rfl rfl rfl rfl) rfl (Zda hK h hl n _ _) ?_
 rintro _ w1 ⟨rfl,h1⟩
 refine W ?_
 refine WR ?_
 exact .mk ⟨rfl,h1⟩
theorem Zpk (hK:KOk K) (h:Mch K w sv pv st sp at_ 0 false) (hl:st.length≤100000) (n:Int) :
 CC 232 #[mP K,.int .i64 n] w fun r w'=>r=.tuple #[]∧Res K w' st sp at_ (ZaH n):=by
 refine cW2 7 Tryz.func232 ?_
 refine W ?_
 refine CL rfl (Z3n rfl rfl rfl rfl) rfl (Zda hK h hl n _ _) ?_
 rintro _ w1 ⟨rfl,h1⟩
 refine W ?_
 refine WR ?_
 exact .mk ⟨rfl,h1⟩
theorem Z9x (hK:KOk K) (h:Mch K w sv pv st sp at_ 0 false) (hl:st.length≤100000) (b:Bool) :
 CC 231 #[mP K,.bool b] w fun r w'=>r=.tuple #[]∧Res K w' st sp at_ (Jr b,0):=by
 refine cW2 9 Tryz.func231 ?_
 cases b
 refine W ?_
 refine CL rfl (ZH rfl rfl rfl) rfl (Z0x hK h hl 0 0) ?_
 rintro _ w1 ⟨rfl,h1⟩
 refine W ?_
 refine WR ?_
 exact .mk ⟨rfl,h1⟩
 refine W ?_
 refine CL rfl (ZH rfl rfl rfl) rfl (Z0x hK h hl 1 0) ?_
 rintro _ w1 ⟨rfl,h1⟩
 refine W ?_
 refine WR ?_
 exact .mk ⟨rfl,h1⟩
theorem Zgr (hK:KOk K) (h:Mch K w sv pv st sp at_ 0 false) (hl:st.length≤100000) (n:Int) :
 CC 109 #[mP K,.int .i64 n] w fun r w'=>r=.tuple #[]∧Res K w' st sp at_ (n,0):=by
 refine cW2 7 Tryz.func109 ?_
 refine W ?_
 refine CL rfl (ZH rfl rfl rfl) rfl (Z0x hK h hl n 0) ?_
 rintro _ w1 ⟨rfl,h1⟩
 refine W ?_
 refine WR ?_
 exact .mk ⟨rfl,h1⟩
theorem Zs2 (hK:KOk K) {a b:Int} (h:Mch K w sv pv (st++[a,b]) sp at_ 0 false) (hl:st.length≤100000) (n:Int) (hr:I64 (a+b)) :
 CC 139 #[mP K,.int .i64 n] w fun r w'=>r=.tuple #[]∧Res K w' st sp at_ (Z3E (a+b)):=by
 try unfold I64 at hr
 refine cW2 16 Tryz.func139 ?_
 refine W ?_
 refine CL rfl (Zp rfl) rfl (Z0d hK h) ?_
 rintro _ w1 ⟨rfl,sv1,h1⟩
 refine W ?_
 refine CL rfl (Z9 rfl rfl) rfl (Z5A hK h1 hl _) ?_
 rintro _ w2 ⟨rfl,h2⟩
 refine W ?_
 refine WR ?_
 exact .mk ⟨rfl,h2⟩
theorem Zs3 (hK:KOk K) {a b:Int} (h:Mch K w sv pv (st++[a,b]) sp at_ 0 false) (hl:st.length≤100000) (n:Int) (hr:I64 (a - b)) :
 CC 140 #[mP K,.int .i64 n] w fun r w'=>r=.tuple #[]∧Res K w' st sp at_ (Z3E (a - b)):=by
 try unfold I64 at hr
 refine cW2 16 Tryz.func140 ?_
 refine W ?_
 refine CL rfl (Zp rfl) rfl (Z0d hK h) ?_
 rintro _ w1 ⟨rfl,sv1,h1⟩
 refine W ?_
 refine CL rfl (Z9 rfl rfl) rfl (Z5A hK h1 hl _) ?_
 rintro _ w2 ⟨rfl,h2⟩
 refine W ?_
 refine WR ?_
 exact .mk ⟨rfl,h2⟩
theorem Zs4 (hK:KOk K) {a b:Int} (h:Mch K w sv pv (st++[a,b]) sp at_ 0 false) (hl:st.length≤100000) (n:Int) (hr:I64 (a * b)) :
 CC 141 #[mP K,.int .i64 n] w fun r w'=>r=.tuple #[]∧Res K w' st sp at_ (Z3E (a * b)):=by
 try unfold I64 at hr
 refine cW2 16 Tryz.func141 ?_
 refine W ?_
 refine CL rfl (Zp rfl) rfl (Z0d hK h) ?_
 rintro _ w1 ⟨rfl,sv1,h1⟩
 refine W ?_
 refine CL rfl (Z9 rfl rfl) rfl (Z5A hK h1 hl _) ?_
 rintro _ w2 ⟨rfl,h2⟩
 refine W ?_
 refine WR ?_
 exact .mk ⟨rfl,h2⟩
theorem ltV (hK:KOk K) {a b:Int} (h:Mch K w sv pv (st++[a,b]) sp at_ 0 false) (hl:st.length≤100000) (n:Int) (hr:True) :
 CC 143 #[mP K,.int .i64 n] w fun r w'=>r=.tuple #[]∧Res K w' st sp at_ ((Jr (decide (a<b)),0)):=by
 try unfold I64 at hr
 refine cW2 16 Tryz.func143 ?_
 refine W ?_
 refine CL rfl (Zp rfl) rfl (Z0d hK h) ?_
 rintro _ w1 ⟨rfl,sv1,h1⟩
 refine W ?_
 refine CL rfl (Z9 rfl rfl) rfl (Z9x hK h1 hl _) ?_
 rintro _ w2 ⟨rfl,h2⟩
 refine W ?_
 refine WR ?_
 exact .mk ⟨rfl,h2⟩
theorem leV (hK:KOk K) {a b:Int} (h:Mch K w sv pv (st++[a,b]) sp at_ 0 false) (hl:st.length≤100000) (n:Int) (hr:True) :
 CC 144 #[mP K,.int .i64 n] w fun r w'=>r=.tuple #[]∧Res K w' st sp at_ ((Jr (decide (a≤b)),0)):=by
 try unfold I64 at hr
 refine cW2 16 Tryz.func144 ?_
 refine W ?_
 refine CL rfl (Zp rfl) rfl (Z0d hK h) ?_
 rintro _ w1 ⟨rfl,sv1,h1⟩
 refine W ?_
 refine CL rfl (Z9 rfl rfl) rfl (Z9x hK h1 hl _) ?_
 rintro _ w2 ⟨rfl,h2⟩
 refine W ?_
 refine WR ?_
 exact .mk ⟨rfl,h2⟩
theorem eqV (hK:KOk K) {a b:Int} (h:Mch K w sv pv (st++[a,b]) sp at_ 0 false) (hl:st.length≤100000) (n:Int) (hr:True) :
 CC 145 #[mP K,.int .i64 n] w fun r w'=>r=.tuple #[]∧Res K w' st sp at_ ((Jr (decide (a=b)),0)):=by
 try unfold I64 at hr
 refine cW2 16 Tryz.func145 ?_
 refine W ?_
 refine CL rfl (Zp rfl) rfl (Z0d hK h) ?_
 rintro _ w1 ⟨rfl,sv1,h1⟩
 refine W ?_
 refine CL rfl (Z9 rfl rfl) rfl (Z9x hK h1 hl _) ?_
 rintro _ w2 ⟨rfl,h2⟩
 refine W ?_
 refine WR ?_
 exact .mk ⟨rfl,h2⟩
theorem Zpl (hK:KOk K) {a b:Int} (h:Mch K w sv pv (st++[a,b]) sp at_ 0 false) (hl:st.length≤100000) (n:Int) (hr:I64 (a+b)) :
 CC 149 #[mP K,.int .i64 n] w fun r w'=>r=.tuple #[]∧Res K w' st sp at_ (ZaH (a+b)):=by
 try unfold I64 at hr
 refine cW2 16 Tryz.func149 ?_
 refine W ?_
 refine CL rfl (Zp rfl) rfl (Z0d hK h) ?_
 rintro _ w1 ⟨rfl,sv1,h1⟩
 refine W ?_
 refine CL rfl (Z9 rfl rfl) rfl (Zpk hK h1 hl _) ?_
 rintro _ w2 ⟨rfl,h2⟩
 refine W ?_
 refine WR ?_
 exact .mk ⟨rfl,h2⟩
theorem ZmS (hK:KOk K) {a b:Int} (h:Mch K w sv pv (st++[a,b]) sp at_ 0 false) (hl:st.length≤100000) (n:Int) (hr:I64 (7 * b)∧I64 (a+7 * b)) :
 CC 150 #[mP K,.int .i64 n] w fun r w'=>r=.tuple #[]∧Res K w' st sp at_ (ZaH (a+7 * b)):=by
 try unfold I64 at hr
 refine cW2 17 Tryz.func150 ?_
 refine W ?_
 refine CL rfl (Zp rfl) rfl (Z0d hK h) ?_
 rintro _ w1 ⟨rfl,sv1,h1⟩
 refine W ?_
 refine CL rfl (Z9 rfl rfl) rfl (Zpk hK h1 hl _) ?_
 rintro _ w2 ⟨rfl,h2⟩
 refine W ?_
 refine WR ?_
 exact .mk ⟨rfl,h2⟩
theorem ZmT (hK:KOk K) {a b:Int} (h:Mch K w sv pv (st++[a,b]) sp at_ 0 false) (hl:st.length≤100000) (n:Int) (hr:True) :
 CC 155 #[mP K,.int .i64 n] w fun r w'=>r=.tuple #[]∧Res K w' st sp at_ ((max a b,0)):=by
 try unfold I64 at hr
 refine cW2 16 Tryz.func155 ?_
 refine W ?_
 refine CL rfl (Zp rfl) rfl (Z0d hK h) ?_
 rintro _ w1 ⟨rfl,sv1,h1⟩
 refine W ?_
 refine CL rfl (ZH rfl rfl rfl) rfl (Z0x hK h1 hl _ 0) ?_
 rintro _ w2 ⟨rfl,h2⟩
 refine W ?_
 refine WR ?_
 exact .mk ⟨rfl,h2⟩
theorem Zgs (hK:KOk K) {a b:Int} (h:Mch K w sv pv (st++[a,b]) sp at_ 0 false) (hl:st.length≤100000) (n:Int) (hr:True) :
 CC 156 #[mP K,.int .i64 n] w fun r w'=>r=.tuple #[]∧Res K w' st sp at_ ((min a b,0)):=by
 try unfold I64 at hr
 refine cW2 16 Tryz.func156 ?_
 refine W ?_
 refine CL rfl (Zp rfl) rfl (Z0d hK h) ?_
 rintro _ w1 ⟨rfl,sv1,h1⟩
 refine W ?_
 refine CL rfl (ZH rfl rfl rfl) rfl (Z0x hK h1 hl _ 0) ?_
 rintro _ w2 ⟨rfl,h2⟩
 refine W ?_
 refine WR ?_
 exact .mk ⟨rfl,h2⟩
theorem Zgt (hK:KOk K) {a b:Int} (h:Mch K w sv pv (st++[a,b]) sp at_ 0 false) (hl:st.length≤100000) (n:Int) (hr:I64 (b - a)) :
 CC 157 #[mP K,.int .i64 n] w fun r w'=>r=.tuple #[]∧Res K w' st sp at_ (Z3E (b - a)):=by
 try unfold I64 at hr
 refine cW2 16 Tryz.func157 ?_
 refine W ?_
 refine CL rfl (Zp rfl) rfl (Z0d hK h) ?_
 rintro _ w1 ⟨rfl,sv1,h1⟩
 refine W ?_
 refine CL rfl (Z9 rfl rfl) rfl (Z5A hK h1 hl _) ?_
 rintro _ w2 ⟨rfl,h2⟩
 refine W ?_
 refine WR ?_
 exact .mk ⟨rfl,h2⟩
end
section
variable {K:MK} {w w':World} {sv pv:Value} {st:List Int} {sp:List Spn} {at_ er:Int} {dn:Bool}
theorem Zs5 (hK:KOk K) {b:Int} (h:Mch K w sv pv (st++[b]) sp at_ 0 false) (hl:st.length≤100000) (n:Int) (hr:I64 (-b)) :
 CC 142 #[mP K,.int .i64 n] w fun r w'=>r=.tuple #[]∧Res K w' st sp at_ (Z3E (-b)):=by
 unfold I64 at hr
 refine cW2 9 Tryz.func142 ?_
 refine W ?_
 refine CL rfl (Zp rfl) rfl (Z1Q hK h) ?_
 rintro _ w1 ⟨rfl,sv1,h1⟩
 refine W ?_
 refine CL rfl (Z9 rfl rfl) rfl (Z5A hK h1 hl _) ?_
 rintro _ w2 ⟨rfl,h2⟩
 refine W ?_
 refine WR ?_
 exact .mk ⟨rfl,h2⟩
theorem Zs6 (hK:KOk K) {b:Int} (h:Mch K w sv pv (st++[b]) sp at_ 0 false) (hl:st.length≤100000) (n:Int) :
 CC 146 #[mP K,.int .i64 n] w fun r w'=>r=.tuple #[]∧Res K w' st sp at_ (Jr (decide (b=0)),0):=by
 refine cW2 9 Tryz.func146 ?_
 refine W ?_
 refine CL rfl (Zp rfl) rfl (Z1Q hK h) ?_
 rintro _ w1 ⟨rfl,sv1,h1⟩
 refine W ?_
 refine CL rfl (Z9 rfl rfl) rfl (Z9x hK h1 hl _) ?_
 rintro _ w2 ⟨rfl,h2⟩
 refine W ?_
 refine WR ?_
 exact .mk ⟨rfl,h2⟩
theorem Zpm (hK:KOk K) (h:Mch K w sv pv st sp at_ er dn) (n:Int) :
 CC 147 #[mP K,.int .i64 n] w fun r w'=>r=.tuple #[]∧Mch K w' sv pv st sp n er dn:=by
 have hblk:=h.blk
 unfold Z1H at hblk
 refine cW2 8 Tryz.func147 ?_
 refine W ?_
 refine Z0 (Zj (u:=.int .i64 n) rfl rfl rfl rfl hblk (by simp [evC,Z0i])) ?_
 rintro _ w1 ⟨hS1,hblk1⟩
 refine W ?_
 refine WR ?_
 exact .mk ⟨rfl,h.put hK hS1 hblk1⟩
theorem Zpn (hK:KOk K) (h:Mch K w sv pv st sp at_ er dn) (n:Int) :
 CC 158 #[mP K,.int .i64 n] w fun r w'=>r=.tuple #[]∧Mch K w' sv pv st sp at_ er true:=by
 have hblk:=h.blk
 unfold Z1H at hblk
 refine cW2 7 Tryz.func158 ?_
 refine W ?_
 refine Z0 (Zj (u:=.bool true) rfl rfl rfl rfl hblk (by simp [evC,Z0i])) ?_
 rintro _ w1 ⟨hS1,hblk1⟩
 refine W ?_
 refine WR ?_
 exact .mk ⟨rfl,h.put hK hS1 hblk1⟩
theorem Zim (hK:KOk K) {b:Int} (h:Mch K w sv pv (st++[b]) sp at_ er dn) (n:Int) :
 CC 148 #[mP K,.int .i64 n] w fun r w'=>r=.tuple #[]∧∃ sv',Mch K w' sv' pv st sp (if b=0 then n else at_) er dn:=by
 refine cW2 11 Tryz.func148 ?_
 refine W ?_
 refine CL rfl (Zp rfl) rfl (Z1Q hK h) ?_
 rintro _ w1 ⟨rfl,sv1,h1⟩
 have hblk:=h1.blk
 unfold Z1H at hblk
 by_cases hb:b=0
 rw [if_pos hb]
 focus repeat'(first|refine W1 ?_|omega|refine VG ?_ ?_<;>intro hg|refine VC ?_ ?_<;>intro hc)
 refine Z0 (Zj (u:=.int .i64 n) rfl rfl rfl rfl hblk (by simp [evC,Z0i])) ?_
 rintro _ w2 ⟨hS1,hblk1⟩
 refine W ?_
 refine WR ?_
 exact .mk ⟨rfl,sv1,h1.put hK hS1 hblk1⟩
 rw [if_neg hb]
 focus repeat'(first|refine W1 ?_|omega|refine VG ?_ ?_<;>intro hg|refine VC ?_ ?_<;>intro hc)
 refine WR ?_
 exact .mk ⟨rfl,sv1,h1⟩
theorem Zin (a b c d e f g:Int) (w:World):(Instr.build 83 #[(0,.int .i64 a),(1,.int .i64 b),(2,.int .i64 c),(3,.int .i64 d),(4,.int .i64 e),(5,.int .i64 f),(6,.int .i64 g)]).run Tryz.prog w=.ok (.agg #[.int .i64 a,.int .i64 b,.int .i64 c,.int .i64 d,.int .i64 e,.int .i64 f,.int .i64 g]) w:=by kernel_rfl
theorem Zgu (hK:KOk K) (h:Mch K w sv pv st sp at_ 0 false) (hl:st.length≤100000) (n:Int) (h0:0≤n) (h7:n<7) :
 CC 110 #[mP K,.int .i64 n] w fun r w'=>r=.tuple #[]∧Res K w' st sp at_ (Z6J K.ev n):=by
 have hblk:=h.blk
 unfold Z1H evC Z0i at hblk
 have hbl:=hK.bml
 have hev:=hK.ev.served
 refine cW2 56 Tryz.func110 ?_
 refine W ?_
 refine ZDr 38 [] [37] [(0,0),(1,0),(2,0),(3,0),(4,1),(5,0),(6,0),(7,0),(8,0),(9,1),(10,0),(11,0),(12,0),(13,0),(14,1),(15,0),(16,0),(17,0),(18,0),(19,1),(20,0),(21,0),(22,0),(23,0),(24,1),(25,0),(26,0),(27,0),(28,0),(29,1),(30,0),(31,0),(32,0),(33,0),(34,1),(35,0),(36,2),(37,2)] (fun w1 hS1=>?_)
 replace h:=h.up hS1
 replace hblk:=hblk.up hS1
 refine D ?_
 refine Z74 rfl trivial rfl (Zin _ _ _ _ _ _ _) rfl ?_
 refine Zb rfl trivial Z6 (fun _ _ ⟨_,_,_,_,h⟩=>h) rfl ?_
 rintro _ w2 ⟨b2,rfl,hb2,e2,hS2⟩
 refine JR rfl trivial (Z1 (us:=evC K.ev) rfl rfl rfl rfl (by intro u hu;simp [evC] at hu;rcases hu with rfl|rfl|rfl|rfl|rfl|rfl|rfl<;>rfl) e2 rfl) rfl ?_
 rintro _ w3 ⟨hT,e3⟩
 have hS3:=hS2.own hT (fun c hc=>.inr (by simp at hc;omega))
 replace h:=h.up hS3
 unfold evC at e3
 refine D ?_
 clear hblk hS1 e2 hT hS2 hS3
 have fin:∀ (v e:Int),(v,e)=Z6J K.ev n→∀ w',Res K w' st sp at_ (v,e)→Ret (fun r w'=>r=.tuple #[]∧Res K w' st sp at_ (Z6J K.ev n)) (.returned (.tuple #[])) w':=by
  intro v e he w' hr
  rw [← he]
  exact .mk ⟨rfl,hr⟩
 have hn:n=0∨n=1∨n=2∨n=3∨n=4∨n=5∨n=6:=by omega
 rcases hn with rfl|rfl|rfl|rfl|rfl|rfl|rfl
 case inr.inl=>
  by_cases hs:K.ev.getD 1 0<0
  focus repeat'(first|refine W1 ?_|omega|refine VG ?_ ?_<;>intro hg|refine VC ?_ ?_<;>intro hc)
  focus repeat'(first|refine W1 ?_|omega|refine VG ?_ ?_<;>intro hg|refine VC ?_ ?_<;>intro hc)
  refine CL rfl (ZH rfl rfl rfl) rfl (Z0x hK h hl 0 32) ?_
  rintro _ w4 ⟨rfl,h1⟩
  refine W ?_
  refine WR ?_
  refine fin _ _ ?_ _ h1
  unfold Z6J
  rw [if_pos ⟨rfl,by omega⟩]
  focus repeat'(first|refine W1 ?_|omega|refine VG ?_ ?_<;>intro hg|refine VC ?_ ?_<;>intro hc)
  focus repeat'(first|refine W1 ?_|omega|refine VG ?_ ?_<;>intro hg|refine VC ?_ ?_<;>intro hc)
  focus repeat'(first|refine W1 ?_|omega|refine VG ?_ ?_<;>intro hg|refine VC ?_ ?_<;>intro hc)
  refine CL rfl (ZH rfl rfl rfl) rfl (Z0x hK h hl _ 0) ?_
  rintro _ w4 ⟨rfl,h1⟩
  refine W ?_
  refine WR ?_
  refine fin _ _ ?_ _ h1
  unfold Z6J
  rw [if_neg (by rintro ⟨-,h⟩;omega)]
  rfl
 case inl=>
  repeat'(first|refine W1 ?_|omega|refine VG ?_ ?_<;>intro hg|refine VC ?_ ?_<;>intro hc)
  repeat'(first|refine W1 ?_|omega|refine VG ?_ ?_<;>intro hg|refine VC ?_ ?_<;>intro hc)
  refine CL rfl (ZH rfl rfl rfl) rfl (Z0x hK h hl _ 0) ?_
  rintro _ w4 ⟨rfl,h1⟩
  refine W ?_
  refine WR ?_
  exact fin _ _ rfl _ h1
 case inr.inr.inl=>
  repeat'(first|refine W1 ?_|omega|refine VG ?_ ?_<;>intro hg|refine VC ?_ ?_<;>intro hc)
  repeat'(first|refine W1 ?_|omega|refine VG ?_ ?_<;>intro hg|refine VC ?_ ?_<;>intro hc)
  refine CL rfl (ZH rfl rfl rfl) rfl (Z0x hK h hl _ 0) ?_
  rintro _ w4 ⟨rfl,h1⟩
  refine W ?_
  refine WR ?_
  exact fin _ _ rfl _ h1
 case inr.inr.inr.inl=>
  repeat'(first|refine W1 ?_|omega|refine VG ?_ ?_<;>intro hg|refine VC ?_ ?_<;>intro hc)
  refine Z1i (len:=7) (i:=3) rfl rfl rfl (by decide) rfl ?_
  repeat'(first|refine W1 ?_|omega|refine VG ?_ ?_<;>intro hg|refine VC ?_ ?_<;>intro hc)
  refine CL rfl (ZH rfl rfl rfl) rfl (Z0x hK h hl _ 0) ?_
  rintro _ w4 ⟨rfl,h1⟩
  refine W ?_
  refine WR ?_
  exact fin _ _ rfl _ h1
 case inr.inr.inr.inr.inl=>
  repeat'(first|refine W1 ?_|omega|refine VG ?_ ?_<;>intro hg|refine VC ?_ ?_<;>intro hc)
  refine Z1i (len:=7) (i:=4) rfl rfl rfl (by decide) rfl ?_
  repeat'(first|refine W1 ?_|omega|refine VG ?_ ?_<;>intro hg|refine VC ?_ ?_<;>intro hc)
  refine CL rfl (ZH rfl rfl rfl) rfl (Z0x hK h hl _ 0) ?_
  rintro _ w4 ⟨rfl,h1⟩
  refine W ?_
  refine WR ?_
  exact fin _ _ rfl _ h1
 case inr.inr.inr.inr.inr.inl=>
  repeat'(first|refine W1 ?_|omega|refine VG ?_ ?_<;>intro hg|refine VC ?_ ?_<;>intro hc)
  refine Z1i (len:=7) (i:=5) rfl rfl rfl (by decide) rfl ?_
  repeat'(first|refine W1 ?_|omega|refine VG ?_ ?_<;>intro hg|refine VC ?_ ?_<;>intro hc)
  refine CL rfl (ZH rfl rfl rfl) rfl (Z0x hK h hl _ 0) ?_
  rintro _ w4 ⟨rfl,h1⟩
  refine W ?_
  refine WR ?_
  exact fin _ _ rfl _ h1
 case inr.inr.inr.inr.inr.inr=>
  repeat'(first|refine W1 ?_|omega|refine VG ?_ ?_<;>intro hg|refine VC ?_ ?_<;>intro hc)
  refine Z1i (len:=7) (i:=6) rfl rfl rfl (by decide) rfl ?_
  repeat'(first|refine W1 ?_|omega|refine VG ?_ ?_<;>intro hg|refine VC ?_ ?_<;>intro hc)
  refine CL rfl (ZH rfl rfl rfl) rfl (Z0x hK h hl _ 0) ?_
  rintro _ w4 ⟨rfl,h1⟩
  refine W ?_
  refine WR ?_
  exact fin _ _ rfl _ h1
end
def Zio {α:Type} [Zi α] (P:Program) (S:List Nat) (g:Nat) (lb:Array Value) (c:α→α→Int) (w:World):Prop:=
 ∀ (x y:α) (w':World),Stp S w w'→Calls P g (#[agg x,agg y]++lb) w' (Ret fun v w''=>v=.int .i64 (c x y)∧Stp [] w' w'')
theorem Zdb (x:Int) (w:World):CC 217 #[.int .i64 x] w fun v w'=>v=.bool false∧Stp [] w w':=by
 refine cW1 6 Tryz.func217 ?_
 repeat'(first|(apply Z2W;exact rfl;exact rfl)|apply Z22|(apply Z5c;exact rfl;exact rfl)|(apply Zfg;exact rfl;exact rfl;exact rfl)|(apply ZcG;exact rfl;exact rfl;exact rfl)|apply Z6W|apply Z2U|apply Z6X|refine Z3l ?_|refine Z1T ?_)
 refine WR ?_
 exact .mk ⟨by simp,Stp.refl _ _⟩
def Zgv (x y:Int):Int:=if x<y then -1 else if x > y then 1 else 0
theorem Zb4 (x y:Int) (w:World):CC 127 #[.int .i64 x,.int .i64 y] w fun v w'=>v=.int .i64 (Zgv x y)∧Stp [] w w':=by
 refine cW2 20 Tryz.func127 ?_
 repeat'(first|(apply Z2W;exact rfl;exact rfl)|apply Z22|(apply Z5c;exact rfl;exact rfl)|(apply Z91;exact rfl;exact rfl;exact rfl)|(apply Z92;exact rfl;exact rfl;exact rfl)|apply Z6W|apply Z2U|apply Z6L|apply Z6X|(apply Z23;exact rfl)|(apply Z1I;exact rfl)|refine Z3l ?_|refine Z1T ?_)
 refine CL rfl (Zp rfl) rfl (Zdb _ _) ?_
 rintro _ w1 ⟨rfl,hS⟩
 repeat'(first|(apply Z2W;exact rfl;exact rfl)|apply Z22|(apply Z5c;exact rfl;exact rfl)|(apply Z91;exact rfl;exact rfl;exact rfl)|(apply Z92;exact rfl;exact rfl;exact rfl)|apply Z6W|apply Z2U|apply Z6L|apply Z6X|(apply Z23;exact rfl)|(apply Z1I;exact rfl)|refine Z3l ?_|refine Z1T ?_)
 refine CL rfl (Zp rfl) rfl (Zdb _ _) ?_
 rintro _ w2 ⟨rfl,hS2⟩
 replace hS:=hS.trans hS2
 repeat'(first|(apply Z2W;exact rfl;exact rfl)|apply Z22|(apply Z5c;exact rfl;exact rfl)|(apply Z91;exact rfl;exact rfl;exact rfl)|(apply Z92;exact rfl;exact rfl;exact rfl)|apply Z6W|apply Z2U|apply Z6L|apply Z6X|(apply Z23;exact rfl)|(apply Z1I;exact rfl)|refine Z3l ?_|refine Z1T ?_|refine Z6M rfl (fun hc=>?_) (fun hc=>?_)|refine Z6Y rfl (fun hc=>?_) (fun hc=>?_))
 all_goals (refine WR ?_)
 all_goals exact .mk ⟨by unfold Zgv;(first|(simp_all;done)|(rw [if_neg (by omega),if_neg (by omega)])),hS⟩
def put {α:Type} (pre rest:List α) (x:α) (j:Nat):List α:=pre.take j++x :: pre.drop j++rest
theorem Zgw {α:Type} {pre rest:List α} {x:α} {j:Nat} (hj:j<pre.length):((put pre rest x (j+1)).set (j+1) pre[j]).set j x=put pre rest x j:=by
 have h1:pre.take (j+1)=pre.take j++[pre[j]]:=Xu hj
 have h2:pre.drop j=pre[j] :: pre.drop (j+1):=Yaa hj
 have hl:(pre.take j).length=j:=by simp;omega
 unfold put
 rw [h1,h2]
 simp only [Xr,Xp,XS]
 rw [Yba,if_neg (by omega),hl,show j+1 - j=1 by omega]
 rw [Yba,if_neg (by omega),hl,Ya8]
 rfl
theorem ZmU {α:Type} {pre rest:List α} {x:α} {j:Nat} (hj:j≤pre.length) (h:j<(put pre rest x j).length):(put pre rest x j)[j]=x:=by
 rw [List.getElem_eq_iff]
 unfold put
 rw [X9 (by simp;omega),Yam (by simp;omega)]
 simp [Yap hj]
theorem Zcd {α:Type} {pre rest:List α} {x:α} {j:Nat} (hj:j<pre.length) (h:j<(put pre rest x (j+1)).length):(put pre rest x (j+1))[j]=pre[j]:=by
 rw [List.getElem_eq_iff]
 unfold put
 rw [X9 (by simp;omega),X9 (by simp;omega)]
 simp [hj]
theorem Z9y {α:Type} {pre rest:List α} {x:α} {j:Nat}:(put pre rest x j).length=pre.length+1+rest.length:=by
 have:=congrArg List.length (XV j pre)
 simp only [Xb] at this
 simp only [put,Xb,Xc];omega
def Z8T {α:Type} (c:α→α→Int) (xs ys:List α):Prop:=ys.Perm xs∧ys.Pairwise (fun a b=>¬ c b a<0)
structure Ord {α:Type} (c:α→α→Int):Prop where
 asym:∀ a b,c a b<0→¬ c b a<0
 trans:∀ a b d,¬ c b a<0→¬ c d b<0→¬ c d a<0
theorem Zce {α:Type} {c:α→α→Int} (ho:Ord c) {pre:List α} {x:α} {j:Nat} (hj:j≤pre.length) (hp:pre.Pairwise (fun a b=>¬ c b a<0))
 (h1:∀ q (h:q<pre.length),j≤q→c x pre[q]<0) (h2:∀ h:j - 1<pre.length,0<j→¬ c x pre[j - 1]<0):(pre.take j++x :: pre.drop j).Pairwise (fun a b=>¬ c b a<0):=by
 rw [List.pairwise_append]
 have hd:∀ a∈pre.drop j,c x a<0:=by
  intro a ha
  obtain ⟨m,hm,rfl⟩:=Xs ha
  simp only [List.getElem_drop]
  simp at hm
  exact h1 _ _ (by omega)
 have ht:∀ a∈pre.take j,¬ c x a<0:=by
  intro a ha
  obtain ⟨m,hm,rfl⟩:=Xs ha
  simp only [XR] at hm
  simp only [List.getElem_take]
  by_cases e:m=j - 1
  subst e;exact h2 (by omega) (by omega)
  exact ho.trans _ _ _ (List.pairwise_iff_getElem.1 hp m (j - 1) (by omega) (by omega) (by omega)) (h2 (by omega) (by omega))
 refine ⟨hp.sublist (List.take_sublist _ _),?_,?_⟩
 rw [List.pairwise_cons]
 exact ⟨fun a ha=>ho.asym _ _ (hd a ha),hp.sublist (List.drop_sublist _ _)⟩
 intro a ha b hb
 rcases Xf.1 hb with rfl|hb
 exact ht a ha
 exact fun h=>by
  have h3:=hd b hb
  exact ho.trans a x b (ht a ha) (ho.asym _ _ h3) h
theorem Z5B (x y:Int):Zgv x y<0↔x<y:=by unfold Zgv;split<;>(try split)<;>omega
def Z2L (y:Nat):Nat:=
 let a:=y % 19
 let b:=y / 100
 let c:=y % 100
 let g:=(b - (b+8) / 25+1) / 3
 let h:=(19 * a+b - b / 4 - g+15) % 30
 let l:=(32+2 * (b % 4)+2 * (c / 4) - h - c % 4) % 7
 h+l+114 - 7 * ((a+11 * h+22 * l) / 451)
def Zpo (y:Nat):Nat:=(11 * (y % 19+1)+20+((8 * (y / 100+1)+5) / 25 - 5)+60 - (3 * (y / 100+1) / 4 - 12)) % 30
def Zpp (e g:Nat):Nat:=bif Nat.beq e 24 || (Nat.beq e 25 && Nat.blt 11 g) then e+1 else e
def Zpq (e d:Nat):Nat:=let n:=(bif Nat.blt (44 - e) 21 then 44 - e+30 else 44 - e);n+7 - (d+n) % 7
def Zgx (y:Nat):Nat:=Zpq (Zpp (Zpo y) (y % 19+1)) (5 * y / 4 - (3 * (y / 100+1) / 4 - 12) - 10)
def Zdc (y:Nat):Bool:=Nat.beq (Z2L y) (Zgx y+92) && (Nat.ble 114 (Z2L y) && Nat.ble (Z2L y) 148)
def Zec:Nat→Nat→Bool
 | 0,lo=>Zdc lo
 | k+1,lo=>Zec k lo && Zec k (lo+2 ^ k)
theorem Z4A:∀ (k lo d:Nat),Zec k lo=true→lo≤d→d<lo+2 ^ k→Zdc d=true
 | 0, lo, d, h, h1, h2 => by
   have:d=lo:=by simp at h2;omega
   subst this;exact h
 | k + 1, lo, d, h, h1, h2 => by
   simp only [Zec,Xi] at h
   rcases Yaj d (lo+2 ^ k) with h3|h3
   exact Z4A k lo d h.1 h1 h3
   exact Z4A k _ d h.2 h3 (by rw [Nat.pow_succ] at h2;omega)
theorem Zed:Zec 13 1583=true:=by kernel_rfl
theorem Zee:Zec 8 9775=true:=by kernel_rfl
theorem Zip {y:Nat} (h1:1583≤y) (h2:y≤9999):Z2L y=Zgx y+92∧114≤Z2L y∧Z2L y≤148:=by
 have h:Zdc y=true:=by
  rcases Yaj y 9775 with h3|h3
  exact Z4A 13 1583 y Zed h1 (by omega)
  exact Z4A 8 9775 y Zee h3 (by omega)
 unfold Zdc at h
 simp only [Xi] at h
 exact ⟨Yab h.1,XU h.2.1,XU h.2.2⟩
theorem Zef {y:Nat} (h1:1583≤y) (h2:y≤9999):Z3P (y:Int)=(Z2L y:Int):=by
 unfold Z3P Z2L
 dsimp only
 have e1:(y:Int) % 19=((y % 19:Nat):Int):=by omega
 have e2:(y:Int) / 100=((y / 100:Nat):Int):=by omega
 have e3:(y:Int) % 100=((y % 100:Nat):Int):=by omega
 rw [e1,e2,e3]
 have ha:y % 19≤18:=by omega
 have hb:15≤y / 100∧y / 100≤99:=by omega
 have hc:y % 100≤99:=by omega
 generalize y % 19=a at *
 generalize y / 100=b at *
 generalize y % 100=c at *
 have e4:((b:Int) - ((b:Int)+8) / 25+1) / 3=(((b - (b+8) / 25+1) / 3:Nat):Int):=by omega
 have hg:(b - (b+8) / 25+1) / 3+b / 4≤b:=by omega
 rw [e4]
 generalize (b - (b+8) / 25+1) / 3=g at *
 have e5:(19 * (a:Int)+(b:Int) - (b:Int) / 4 - (g:Int)+15) % 30=(((19 * a+b - b / 4 - g+15) % 30:Nat):Int):=by omega
 rw [e5]
 have hh:(19 * a+b - b / 4 - g+15) % 30≤29:=by omega
 generalize (19 * a+b - b / 4 - g+15) % 30=h at *
 have e6:(32+2 * ((b:Int) % 4)+2 * ((c:Int) / 4) - (h:Int) - (c:Int) % 4) % 7=(((32+2 * (b % 4)+2 * (c / 4) - h - c % 4) % 7:Nat):Int):=by omega
 rw [e6]
 have hl:(32+2 * (b % 4)+2 * (c / 4) - h - c % 4) % 7≤6:=by omega
 generalize (32+2 * (b % 4)+2 * (c / 4) - h - c % 4) % 7=l at *
 omega
theorem Z6B {y:Int} (h1:1583≤y) (h2:y≤9999):114≤Z3P y∧Z3P y≤148:=by
 obtain ⟨k,rfl⟩:∃ k:Nat,y=(k:Int):=⟨y.toNat,by omega⟩
 have:=Zip (y:=k) (by omega) (by omega)
 rw [Zef (by omega) (by omega)]
 omega
theorem Zcf (y d:Int):Z0h y 3 d=Z0h y 3 1+d - 1∧Z0h y 4 d=Z0h y 3 1+31+d - 1:=by
 constructor
 rw [show (3:Int)=((2:Nat):Int)+1 by rfl,Z2o y d 2 (by omega),Z2o y 1 2 (by omega)];omega
 rw [show (4:Int)=((3:Nat):Int)+1 by rfl,show (3:Int)=((2:Nat):Int)+1 by rfl,Z2o y d 3 (by omega),Z2o y 1 2 (by omega)]
 have:Z0m y 3=Z0m y 2+31:=by
  have:Z0m y 3=Z0m y 2+ZM y 3:=by simp [Z0m]
  rw [this];rfl
 omega
theorem Z2M (n a b:Int) (w:World):CC 285 #[.int .i64 n,.int .i64 a,.int .i64 b] w fun r w'=>r=.bool (decide (a≤n∧n≤b))∧w'=w:=by
 refine cW3 15 Tryz.func285 ?_
 by_cases h1:n≥a
 by_cases h2:n≤b
 rw [decide_eq_true ⟨h1,h2⟩]
 focus repeat'(first|refine W1 ?_|omega|refine VG ?_ ?_<;>intro hg|refine VC ?_ ?_<;>intro hc)
 refine WR ?_
 exact .mk ⟨by simp [h2],rfl⟩
 rw [decide_eq_false (fun h=>h2 h.2)]
 focus repeat'(first|refine W1 ?_|omega|refine VG ?_ ?_<;>intro hg|refine VC ?_ ?_<;>intro hc)
 refine WR ?_
 exact .mk ⟨by simp [h2],rfl⟩
 rw [decide_eq_false (fun h=>h1 h.1)]
 focus repeat'(first|refine W1 ?_|omega|refine VG ?_ ?_<;>intro hg|refine VC ?_ ?_<;>intro hc)
 refine WR ?_
 exact .mk ⟨rfl,rfl⟩
theorem Z4g (d:Int) (w:World) (h0:0≤d) (h1:d≤9000000000):CC 238 #[.int .i64 d] w fun r w'=>r=.int .i64 (d % 7)∧w'=w:=by
 refine cW1 7 Tryz.func238 ?_
 refine W ?_
 refine WR ?_
 exact .mk ⟨by congr 1;omega,rfl⟩
theorem Zcg (y:Int) (w:World):CC 347 #[.int .i64 y] w fun r w'=>r=.tuple #[.int .i64 (if y<1583∨9999<y then 0 else Z5s y),.int .i64 (if y<1583∨9999<y then 5 else 0)]∧Stp [] w w':=by
 refine cW1 77 Tryz.func347 ?_
 by_cases hy:y<1583∨9999<y
 · rw [if_pos hy,if_pos hy]
   repeat'(first|refine W1 ?_|omega|refine VG ?_ ?_<;>intro hg|refine VC ?_ ?_<;>intro hc)
   all_goals refine WR ?_
   all_goals exact .mk ⟨rfl,Stp.refl _ _⟩
 rw [if_neg hy,if_neg hy]
 have hb:=Z6B (y:=y) (by omega) (by omega)
 have he:Z83 (Z3P y=(19 * (y % 19)+y / 100 - y / 100 / 4 - (y / 100 - (y / 100+8) / 25+1) / 3+15) % 30 +
  (32+2 * (y / 100 % 4)+2 * (y % 100 / 4) - (19 * (y % 19)+y / 100 - y / 100 / 4 - (y / 100 - (y / 100+8) / 25+1) / 3+15) % 30 - y % 100 % 4) % 7 -
  7 * ((y % 19+11 * ((19 * (y % 19)+y / 100 - y / 100 / 4 - (y / 100 - (y / 100+8) / 25+1) / 3+15) % 30)+22 * ((32+2 * (y / 100 % 4)+2 * (y % 100 / 4) - (19 * (y % 19)+y / 100 - y / 100 / 4 - (y / 100 - (y / 100+8) / 25+1) / 3+15) % 30 - y % 100 % 4) % 7)) / 451)+114):=⟨rfl⟩
 have g1:0≤y % 19∧y % 19≤18:=by omega
 have g2:15≤y / 100∧y / 100≤99:=by omega
 have g3:0≤y % 100∧y % 100≤99:=by omega
 focus repeat'(first|refine W1 ?_|omega|refine VG ?_ ?_<;>intro hg|refine VC ?_ ?_<;>intro hc)
 have g4:0≤(19 * (y % 19)+y / 100 - y / 100 / 4 - (y / 100 - (y / 100+8) / 25+1) / 3+15) % 30∧(19 * (y % 19)+y / 100 - y / 100 / 4 - (y / 100 - (y / 100+8) / 25+1) / 3+15) % 30≤29:=by omega
 generalize (19 * (y % 19)+y / 100 - y / 100 / 4 - (y / 100 - (y / 100+8) / 25+1) / 3+15) % 30=H at he g4 ⊢
 have g5:0≤(32+2 * (y / 100 % 4)+2 * (y % 100 / 4) - H - y % 100 % 4) % 7∧(32+2 * (y / 100 % 4)+2 * (y % 100 / 4) - H - y % 100 % 4) % 7≤6:=by omega
 refine W ?_
 generalize (32+2 * (y / 100 % 4)+2 * (y % 100 / 4) - H - y % 100 % 4) % 7=L at he g5 ⊢
 rw [← he.h]
 refine Ze (vs:=[(0,.int .i64 y),(1,.int .i64 (Z3P y / 31)),(2,.int .i64 (Z3P y % 31+1))]) rfl (Z5y _ _ _) rfl ?_
 refine CL rfl (Zp rfl) rfl (Z52 y _ _ _ (by omega) (by omega) (by omega) (by omega) (by omega) (by omega) (by omega)) ?_
 rintro _ w1 ⟨rfl,hS⟩
 refine W ?_
 refine WR ?_
 exact .mk ⟨rfl,hS⟩
theorem Z3j {y m:Int} (hy:1≤y) (hy2:y≤9999) (hm:1≤m) (hm2:m≤12):¬ Z2p y m 1∧0≤Z0h y m 1∧Z0h y m 1≤3652058∧28≤ZM y m∧ZM y m≤31:=by
 have hl:=Z1Z (y:=y) (k:=(m - 1).toNat) (by omega)
 rw [show (((m - 1).toNat:Int))+1=m by omega] at hl
 have h31:=Z19 y m
 have:=dayM_range hy hy2 hm hm2 (d:=1) (by omega) (by omega)
 exact ⟨by unfold Z2p;omega,this.1,this.2,hl,h31⟩
theorem Z7L (h:Hol) (y:Int) (w:World) (hL:Z0M w) (hy:1≤y) (hy2:y≤9999) (hm:1≤h.month) (hm2:h.month≤12) (hw:0≤h.wd) (hw2:h.wd≤6) :
 CC 342 #[agg h,.int .i64 y] w fun r w'=>r=.tuple #[.int .i64 (Z0h y h.month 1),.int .i64 (Z46 y h.month h.wd)]∧Stp [] w w':=by
 obtain ⟨f1,f2,f3,f4,f5⟩:=Z3j hy hy2 hm hm2
 refine cW2 26 Tryz.func342 ?_
 refine W ?_
 refine Z3 (Zs rfl) rfl ?_
 rintro _ w1 ⟨b,rfl,hb,hblk,hS⟩
 replace hblk:Blk w1 b 187 (Zi.enc h):=hblk
 replace hL:=hL.up hS
 refine W ?_
 refine Ze (vs:=[(0,.int .i64 y),(1,.int .i64 h.month),(2,.int .i64 1)]) rfl (Z5y _ _ _) rfl ?_
 refine CL rfl (Zp rfl) rfl (Z7w y _ _ _ hL) ?_
 rintro _ w2 ⟨rfl,hT⟩
 rw [if_neg f1,if_neg f1]
 replace hblk:=hblk.up hT
 replace hS:=hS.trans hT
 clear hT
 refine W ?_
 refine ZDr 12 [] [] [(0,0),(1,0),(2,0),(3,1),(4,0),(5,2),(6,0),(7,0),(8,0),(9,0),(10,0),(11,0)] (fun w1 hS1=>?_)
 replace hblk:=hblk.up hS1
 replace hS:=hS.trans hS1
 clear hS1
 refine D ?_
 refine Zb rfl trivial (Z5 rfl (Zp rfl) (Z4g _ _ f2 (by omega))) (fun _ _ h=>by rw [h.2];exact Stp.refl _ _) rfl ?_
 rintro _ w3 ⟨rfl,rfl⟩
 refine D ?_
 refine W ?_
 refine WR ?_
 refine .mk ⟨?_,hS⟩
 unfold Z46
 rfl
def Z27 (h:Hol) (y:Int):Int×Bool:=
 if h.kind=1 then (if Z2p y h.month h.day then 0 else Z0h y h.month h.day,!decide (Z2p y h.month h.day))
 else if h.kind=2 then (Z46 y h.month h.wd+7 * (h.nth - 1),decide (Z46 y h.month h.wd+7 * (h.nth - 1)<Z0h y h.month 1+ZM y h.month))
 else if h.kind=3 then (Z46 y h.month h.wd+(Z0h y h.month 1+ZM y h.month - 1 - Z46 y h.month h.wd) / 7 * 7,true)
 else ((if y<1583∨9999<y then 0 else Z5s y)+h.off,!decide (y<1583∨9999<y))
theorem ZmV {h:Hol} {y:Int} (h1:h.first≤y) (h2:y≤h.last):Zi9 h y=if (Z27 h y).2=true then some (Z27 h y).1 else none:=by
 unfold Zi9 Z27
 rw [if_neg (by omega)]
 by_cases k1:h.kind=1
 rw [if_pos k1,if_pos k1]
 by_cases hb:Z2p y h.month h.day
 simp [hb]
 simp [hb]
 rw [if_neg k1,if_neg k1]
 by_cases k2:h.kind=2
 rw [if_pos k2,if_pos k2]
 simp
 rw [if_neg k2,if_neg k2]
 by_cases k3:h.kind=3
 rw [if_pos k3,if_pos k3]
 rfl
 rw [if_neg k3,if_neg k3]
 by_cases hy:y<1583∨9999<y
 simp [hy]
 simp [hy]
abbrev Zb5 (h:Hol) (y:Int):Value:=.tuple #[.int .i64 (Z27 h y).1,.bool (Z27 h y).2]
theorem Z6C {y:Int} (h1:1583≤y) (h2:y≤9999):1000≤Z5s y∧Z5s y≤3652058:=by
 have hb:=Z6B h1 h2
 have e3:ZM y 3=31:=rfl
 have e4:ZM y 4=30:=rfl
 have hs:=Z1Y h1
 have hs1:500000≤Ja 1583:=by decide
 have hm3:=Zcf y (Z3P y % 31+1)
 have hd3:Z0h y 3 1=Ja y+Z0m y 2:=by
  have:=Z2o y 1 2 (by omega)
  rw [show ((2:Nat):Int)+1=3 by rfl] at this
  omega
 have hc:0≤Z0m y 2:=by
  have:=Z0Q (y:=y) (Xy 2) (by omega)
  simpa [Z0m] using this
 unfold Z5s
 have hm:Z3P y / 31=3∨Z3P y / 31=4:=by omega
 rcases hm with hm|hm
 rw [hm];exact ⟨by omega,(dayM_range (by omega) h2 (by omega) (by omega) (by omega) (by omega)).2⟩
 rw [hm];exact ⟨by omega,(dayM_range (by omega) h2 (by omega) (by omega) (by omega) (by omega)).2⟩
theorem Z3J {y m wd:Int} (hy:1≤y) (hy2:y≤9999) (hm:1≤m) (hm2:m≤12):Z0h y m 1≤Z46 y m wd∧Z46 y m wd≤Z0h y m 1+6:=by
 unfold Z46
 omega
theorem Zch {h:Hol} {y:Int} (ho:Z2q h) (h1:h.first≤y) (h2:y≤h.last) (hp:(Z27 h y).2=true):0≤(Z27 h y).1∧(Z27 h y).1≤3653000:=by
 have hy:=ho.f1
 have hy2:=ho.l1
 have hk1:=ho.k1
 have hk2:=ho.k2
 unfold Z27 at hp ⊢
 by_cases k1:h.kind=1
 rw [if_pos k1] at hp ⊢
 obtain ⟨m1,m2⟩:=ho.month (by omega)
 by_cases hb:Z2p y h.month h.day
 simp [hb] at hp
 dsimp only
 rw [if_neg hb]
 unfold Z2p at hb
 have:=dayM_range (y:=y) (m:=h.month) (d:=h.day) (by omega) (by omega) (by omega) (by omega) (by omega) (by omega)
 omega
 rw [if_neg k1] at hp ⊢
 by_cases k2:h.kind=2
 rw [if_pos k2] at hp ⊢
 obtain ⟨m1,m2⟩:=ho.month (by omega)
 obtain ⟨n1,n2⟩:=ho.nth k2
 obtain ⟨f1,f2,f3,f4,f5⟩:=Z3j (y:=y) (by omega) (by omega) m1 m2
 obtain ⟨f6,f7⟩:=Z3J (y:=y) (wd:=h.wd) (by omega) (by omega) m1 m2
 dsimp only
 omega
 rw [if_neg k2] at hp ⊢
 by_cases k3:h.kind=3
 rw [if_pos k3] at hp ⊢
 obtain ⟨m1,m2⟩:=ho.month (by omega)
 obtain ⟨f1,f2,f3,f4,f5⟩:=Z3j (y:=y) (by omega) (by omega) m1 m2
 obtain ⟨f6,f7⟩:=Z3J (y:=y) (wd:=h.wd) (by omega) (by omega) m1 m2
 dsimp only
 omega
 rw [if_neg k3] at hp ⊢
 obtain ⟨o1,o2⟩:=ho.off (by omega)
 by_cases hy:y<1583∨9999<y
 simp [hy] at hp
 dsimp only
 rw [if_neg hy]
 have:=Z6C (y:=y) (by omega) (by omega)
 omega
theorem Zeg (h:Hol) (y:Int) (w:World) (hL:Z0M w) (hk:h.kind=1) :
 CC 339 #[agg h,.int .i64 y] w fun r w'=>r=Zb5 h y∧Stp [] w w':=by
 have e:Z27 h y=(if Z2p y h.month h.day then 0 else Z0h y h.month h.day,!decide (Z2p y h.month h.day)):=by unfold Z27;rw [if_pos hk]
 unfold Zb5
 rw [e]
 refine cW2 21 Tryz.func339 ?_
 refine W ?_
 refine Z3 (Zs rfl) rfl ?_
 rintro _ w1 ⟨b,rfl,hb,hblk,hS⟩
 replace hblk:Blk w1 b 187 (Zi.enc h):=hblk
 replace hL:=hL.up hS
 refine W ?_
 refine Ze (vs:=[(0,.int .i64 y),(1,.int .i64 h.month),(2,.int .i64 h.day)]) rfl (Z5y _ _ _) rfl ?_
 refine CL rfl (Zp rfl) rfl (Z7w y _ _ _ hL) ?_
 rintro _ w2 ⟨rfl,hT⟩
 refine W ?_
 refine WR ?_
 refine .mk ⟨?_,hS.trans hT⟩
 by_cases hb:Z2p y h.month h.day<;>simp [hb]
theorem Zeh (h:Hol) (y:Int) (w:World) (hL:Z0M w) (hy:1≤y) (hy2:y≤9999) (hk:h.kind=2) (ho:Z2q h) :
 CC 341 #[agg h,.int .i64 y] w fun r w'=>r=Zb5 h y∧Stp [] w w':=by
 have e:Z27 h y=(Z46 y h.month h.wd+7 * (h.nth - 1),decide (Z46 y h.month h.wd+7 * (h.nth - 1)<Z0h y h.month 1+ZM y h.month)):=by unfold Z27;rw [if_neg (by omega),if_pos hk]
 obtain ⟨m1,m2⟩:=ho.month (by omega)
 obtain ⟨d1,d2⟩:=ho.wd (.inl hk)
 obtain ⟨n1,n2⟩:=ho.nth hk
 obtain ⟨f1,f2,f3,f4,f5⟩:=Z3j hy hy2 m1 m2
 obtain ⟨f6,f7⟩:=Z3J (wd:=h.wd) hy hy2 m1 m2
 unfold Zb5
 rw [e]
 refine cW2 29 Tryz.func341 ?_
 refine W ?_
 refine Z3 (Zs rfl) rfl ?_
 rintro _ w1 ⟨b,rfl,hb,hblk,hS⟩
 replace hblk:Blk w1 b 187 (Zi.enc h):=hblk
 replace hL:=hL.up hS
 refine W ?_
 refine CL rfl (Z9 rfl rfl) rfl (Z7L h y _ hL hy hy2 m1 m2 d1 d2) ?_
 rintro _ w2 ⟨rfl,hT⟩
 replace hblk:=hblk.up hT
 replace hL:=hL.up hT
 replace hS:=hS.trans hT
 refine W ?_
 refine CL rfl (Z9 rfl rfl) rfl (Z3D y _ _ hL (by omega) (by omega)) ?_
 rintro _ _ ⟨rfl,rfl⟩
 refine W ?_
 refine WR ?_
 exact .mk ⟨rfl,hS⟩
theorem Zei (h:Hol) (y:Int) (w:World) (hL:Z0M w) (hy:1≤y) (hy2:y≤9999) (hk:h.kind=3) (ho:Z2q h) :
 CC 344 #[agg h,.int .i64 y] w fun r w'=>r=Zb5 h y∧Stp [] w w':=by
 have e:Z27 h y=(Z46 y h.month h.wd+(Z0h y h.month 1+ZM y h.month - 1 - Z46 y h.month h.wd) / 7 * 7,true):=by unfold Z27;rw [if_neg (by omega),if_neg (by omega),if_pos hk]
 obtain ⟨m1,m2⟩:=ho.month (by omega)
 obtain ⟨d1,d2⟩:=ho.wd (.inr hk)
 obtain ⟨f1,f2,f3,f4,f5⟩:=Z3j hy hy2 m1 m2
 obtain ⟨f6,f7⟩:=Z3J (wd:=h.wd) hy hy2 m1 m2
 unfold Zb5
 rw [e]
 refine cW2 29 Tryz.func344 ?_
 refine W ?_
 refine Z3 (Zs rfl) rfl ?_
 rintro _ w1 ⟨b,rfl,hb,hblk,hS⟩
 replace hblk:Blk w1 b 187 (Zi.enc h):=hblk
 replace hL:=hL.up hS
 refine W ?_
 refine CL rfl (Z9 rfl rfl) rfl (Z7L h y _ hL hy hy2 m1 m2 d1 d2) ?_
 rintro _ w2 ⟨rfl,hT⟩
 replace hblk:=hblk.up hT
 replace hL:=hL.up hT
 replace hS:=hS.trans hT
 refine W ?_
 refine CL rfl (Z9 rfl rfl) rfl (Z3D y _ _ hL (by omega) (by omega)) ?_
 rintro _ _ ⟨rfl,rfl⟩
 refine W ?_
 refine WR ?_
 exact .mk ⟨rfl,hS⟩
theorem Zej (h:Hol) (y:Int) (w:World) (hk:h.kind=4) (ho:Z2q h) :
 CC 346 #[agg h,.int .i64 y] w fun r w'=>r=Zb5 h y∧Stp [] w w':=by
 have e:Z27 h y=((if y<1583∨9999<y then 0 else Z5s y)+h.off,!decide (y<1583∨9999<y)):=by unfold Z27;rw [if_neg (by omega),if_neg (by omega),if_neg (by omega)]
 obtain ⟨o1,o2⟩:=ho.off hk
 have hr:0≤(if y<1583∨9999<y then 0 else Z5s y)∧(if y<1583∨9999<y then 0 else Z5s y)≤3652058:=by
  split
  omega
  have:=Z6C (y:=y) (by omega) (by omega)
  omega
 unfold Zb5
 rw [e]
 refine cW2 19 Tryz.func346 ?_
 refine W ?_
 refine Z3 (Zs rfl) rfl ?_
 rintro _ w1 ⟨b,rfl,hb,hblk,hS⟩
 replace hblk:Blk w1 b 187 (Zi.enc h):=hblk
 refine W ?_
 refine CL rfl (Zp rfl) rfl (Zcg y _) ?_
 rintro _ w2 ⟨rfl,hT⟩
 replace hblk:=hblk.up hT
 replace hS:=hS.trans hT
 refine W ?_
 refine WR ?_
 refine .mk ⟨?_,hS⟩
 by_cases hy:y<1583∨9999<y<;>simp [hy]
theorem Zci (g:Nat) (fn:Func) [Fun Tryz.prog g fn] (lb:Array Value) (c:Spn→Spn→Int) (ho:Ord c) (X:List Nat) (base:Nat) (v:Value) (xs:List Spn) (w:World) (hX:∀ b∈X,b<base) (hbase:base≤w.heap.size) (hrow:Row X w base 329 v xs) (hp:Zio Tryz.prog (ob v) g lb c w) (hlen:xs.length≤1000) :
 CC 354 #[v,.int .i64 0,.int .i64 xs.length,.func (.func g) #[] lb] w fun r w'=>∃ ys,Z8T c xs ys∧Row X w' base 329 v ys∧Stp (ob v) w w':=by
 refine cW4 53 Tryz.func354 ?_
 refine W ?_
 refine ZD (σ:=Nat) (fun i=>[(0,v),(1,.int .i64 0),(2,.int .i64 xs.length),(3,.func (.func g) #[] lb),(8,.int .i64 (i+1))])
  (fun i w'=>Stp (ob v) w w'∧∃ ys,ys.Perm xs∧Row X w' base 329 v ys∧(ys.take (i+1)).Pairwise (fun a b=>¬ c b a<0)) (fun i=>xs.length - i) 0 ⟨rfl,rfl,rfl,rfl,rfl,trivial⟩
  ⟨Stp.refl _ _,xs,List.Perm.refl _,hrow,?_⟩ ?_
 · cases xs with
   | nil=>simp
   | cons x r=>simp
 rintro i w1 ⟨hS,ys,hperm,hrow,hsort⟩
 have hyl:=hperm.length_eq
 by_cases hit:i+1<xs.length
 · repeat'(first|refine W1 ?_|refine VG ?_ ?_<;>intro hg|refine VC ?_ ?_<;>intro hc)
   rotate_left
   omega
   obtain ⟨pre,x,rest,hpl,rfl⟩:∃ pre x rest,pre.length=i+1∧ys=put pre rest x pre.length:=by
    refine ⟨ys.take (i+1),ys[i+1],ys.drop (i+2),by simp;omega,?_⟩
    unfold put
    have hl:(ys.take (i+1)).length=i+1:=by simp;omega
    rw [hl,YaB,Nat.min_self,YaK (by omega)]
    conv=>lhs;rw [← XV (i+1) ys,Yaa (by omega)]
    simp
   have hpre:pre.Pairwise (fun a b=>¬ c b a<0):=by
    have:(put pre rest x pre.length).take (i+1)=pre:=by
     unfold put
     rw [XL,List.drop_length,Xr,← hpl,Ybc]
     rfl
    rwa [this] at hsort
   have hpl2:pre.length+1+rest.length=xs.length:=by rw [← hyl,Z9y]
   have fin:∀ j (w':World),j≤pre.length→Stp (ob v) w w'→Row X w' base 329 v (put pre rest x j)→(∀ q (h:q<pre.length),j≤q→c x pre[q]<0)→(∀ h:j - 1<pre.length,0<j→¬ c x pre[j - 1]<0)→
    Stp (ob v) w w'∧∃ ys,ys.Perm xs∧Row X w' base 329 v ys∧(ys.take (i+1+1)).Pairwise (fun a b=>¬ c b a<0):=by
    intro j w' hj hS hrow h1 h2
    refine ⟨hS,put pre rest x j,?_,hrow,?_⟩
    refine List.Perm.trans ?_ hperm
    unfold put
    rw [XL,List.drop_length]
    refine List.Perm.append_right _ ?_
    refine List.Perm.trans List.perm_middle ?_
    rw [XV]
    exact (List.perm_append_singleton x pre).symm
    have e:(put pre rest x j).take (i+1+1)=pre.take j++x :: pre.drop j:=by
     have hl:(pre.take j++x :: pre.drop j).length=i+1+1:=by
      have:=congrArg List.length (XV j pre)
      simp only [Xb] at this
      simp only [Xb,Xc];omega
     unfold put
     rw [← hl,Ybc]
     rfl
    rw [e]
    exact Zce ho hj hpre h1 h2
   refine ZD (σ:=Nat) (fun j=>[(0,v),(1,.int .i64 0),(2,.int .i64 xs.length),(3,.func (.func g) #[] lb),(8,.int .i64 (i+1)),(9,.int .i64 (j:Int))])
    (fun j w'=>j≤pre.length∧Stp (ob v) w w'∧Row X w' base 329 v (put pre rest x j)∧(∀ q (h:q<pre.length),j≤q→c x pre[q]<0)) (fun j=>j) (i+1) ⟨rfl,rfl,rfl,rfl,rfl,rfl,trivial⟩
    ⟨by omega,hS,by rw [hpl] at hrow;exact hrow,fun q h hq=>by omega⟩ ?_
   clear hrow hS
   rintro j w2 ⟨hj,hS,hrow,hlt⟩
   have hs:=hrow.slv hX
   cases j with
   | zero=>
     refine W ?_
     refine ZDr 17 [] [] [(0,0),(1,0),(2,0),(3,0),(4,0),(5,0),(6,0),(7,0),(8,1),(9,0),(10,0),(11,0),(12,0),(13,1),(14,2),(15,0),(16,0)] (fun w1 hS1=>?_)
     replace hS:=hS.trans (hS1.mono (by simp))
     replace hrow:=hrow.up hS1;replace hs:=hs.up hS1
     refine D ?_
     refine W ?_
     exact Zr (i+1) ⟨rfl,rfl,rfl,rfl,rfl,trivial⟩ (fin 0 _ (Xy _) hS hrow hlt (fun _ h=>absurd h (Nat.lt_irrefl _))) (by omega)
   | succ j=>
     have hz:((j+1:Nat):Int) - 1=(j:Int):=by omega
     have hi1:j+1<(put pre rest x (j+1)).length:=by rw [Z9y];omega
     have hi0:j<(put pre rest x (j+1)).length:=by rw [Z9y];omega
     have a1:=ZmU (rest:=rest) (x:=x) hj hi1
     have a0:=Zcd (rest:=rest) (x:=x) (Nat.lt_of_succ_le hj) hi0
     refine W ?_
     refine ZDr 17 [] [] [(0,0),(1,0),(2,0),(3,0),(4,0),(5,0),(6,0),(7,0),(8,1),(9,0),(10,0),(11,0),(12,0),(13,1),(14,2),(15,0),(16,0)] (fun w1 hS1=>?_)
     replace hS:=hS.trans (hS1.mono (by simp))
     replace hrow:=hrow.up hS1;replace hs:=hs.up hS1
     repeat'(first|refine D1 ?_|omega|refine Z0r rfl rfl rfl rfl (fun hg=>?_) (fun hg=>?_)|(refine JY rfl rfl rfl rfl (fun hg=>?_) (fun hg=>?_)<;>refine D1 ?_)|fail)
     refine Zb rfl (by first|exact trivial|exact rfl) (Z3T (f:=g) rfl (Z9 rfl rfl) rfl (hp _ _ _ hS)) (fun _ _ h=>h.2) rfl ?_
     rintro _ w3 ⟨rfl,hS3⟩
     rw [a1,a0]
     replace hS:=hS.trans (hS3.mono (by simp))
     replace hrow:=hrow.up hS3;replace hs:=hs.up hS3
     refine D ?_
     repeat'(first|refine W1 ?_|refine VG ?_ ?_<;>intro hg|refine VC ?_ ?_<;>intro hc)
     rename_i hc
     refine ZDr 18 [] [15,17] [(0,0),(1,0),(2,0),(3,0),(4,0),(5,0),(6,0),(7,0),(8,0),(9,1),(10,0),(11,0),(12,0),(13,1),(14,0),(15,2),(16,0),(17,2)] (fun w1 hS1=>?_)
     replace hS:=hS.trans (hS1.mono (by simp))
     replace hrow:=hrow.up hS1;replace hs:=hs.up hS1
     refine D ?_
     rw [a1,a0]
     refine JR rfl trivial (Z72 (i:=j+1) (y':=pre[j]) rfl rfl rfl rfl hrow hX hi1) rfl ?_
     rintro _ w4 ⟨hrow,hS4⟩
     replace hS:=hS.trans hS4
     refine D ?_
     refine JR rfl trivial (Z72 (i:=j) (y':=x) rfl rfl rfl rfl hrow hX (by rw [Yag];exact hi0)) rfl ?_
     rintro _ w5 ⟨hrow,hS5⟩
     replace hS:=hS.trans hS5
     rw [Zgw (Nat.lt_of_succ_le hj)] at hrow
     refine D ?_
     refine W ?_
     refine Zr j ⟨rfl,rfl,rfl,rfl,rfl,(by rw [← hz];rfl),trivial⟩ ⟨by omega,hS,hrow,fun q h hq=>?_⟩ (by omega)
     by_cases e:q=j
     subst e;exact hc
     exact hlt q h (by omega)
     exact Zr (i+1) ⟨rfl,rfl,rfl,rfl,rfl,trivial⟩ (fin (j+1) _ hj hS hrow hlt (fun _ _=>by assumption)) (by omega)
 focus repeat'(first|refine W1 ?_|refine VG ?_ ?_<;>intro hg|refine VC ?_ ?_<;>intro hc)
 omega
 refine WR ?_
 refine .mk ⟨ys,⟨hperm,?_⟩,hrow,hS⟩
 rwa [XB (by omega)] at hsort
theorem Ziq (g:Nat) (fn:Func) [Fun Tryz.prog g fn] (lb:Array Value) (c:Spn→Spn→Int) (ho:Ord c) (X:List Nat) (base:Nat) (v:Value) (xs:List Spn) (w:World) (hX:∀ b∈X,b<base) (hbase:base≤w.heap.size) (hrow:Row X w base 329 v xs) (hp:Zio Tryz.prog (ob v) g lb c w) (hlen:xs.length<20) :
 CC 348 #[v,.int .i64 xs.length,.func (.func g) #[] lb] w fun r w'=>∃ ys,Z8T c xs ys∧Row X w' base 329 v ys∧Stp (ob v) w w':=by
 have nl:¬ ((20:Int)≤xs.length):=by omega
 have nl2:¬ ((20:Int)<xs.length):=by omega
 refine cW3 63 Tryz.func348 ?_
 refine W ?_
 refine ZD (σ:=Unit) (fun _=>[(0,v),(1,.int .i64 xs.length),(2,.func (.func g) #[] lb),(6,.int .i64 20),(7,.int .i64 0),(8,.int .i64 20)]) (fun _ w'=>w'=w) (fun _=>0) () ⟨rfl,rfl,rfl,rfl,rfl,rfl,trivial⟩ rfl ?_
 rintro _ w' rfl
 repeat'(first|refine W1 ?_|refine VG ?_ ?_<;>intro hg|refine VC ?_ ?_<;>intro hc)
 exact absurd (by assumption) nl
 refine CL rfl (Z3n rfl rfl rfl rfl) rfl (Zci g fn lb c ho X base v xs _ hX hbase hrow hp (by omega)) ?_
 rintro r w2 hres
 refine W ?_
 refine ZD (σ:=Unit) (fun _=>[(1,.int .i64 xs.length),(6,.int .i64 20)]) (fun _ w'=>w'=w2) (fun _=>0) () ⟨rfl,rfl,trivial⟩ rfl ?_
 rintro _ w' rfl
 repeat'(first|refine W1 ?_|refine VG ?_ ?_<;>intro hg|refine VC ?_ ?_<;>intro hc)
 exact absurd (by assumption) nl2
 refine WR ?_
 exact .mk hres
theorem Zb6 (g:Nat) (fn:Func) [Fun Tryz.prog g fn] (lb:Array Value) (c:Spn→Spn→Int) (ho:Ord c) (X:List Nat) (base:Nat) (v:Value) (xs:List Spn) (w:World) (hX:∀ b∈X,b<base) (hbase:base≤w.heap.size) (hrow:Row X w base 329 v xs) (hp:Zio Tryz.prog (ob v) g lb c w) (hlen:xs.length<20) :
 CC 330 #[v,.func (.func g) #[] lb] w fun r w'=>∃ ys,Z8T c xs ys∧Row X w' base 329 v ys∧Stp (ob v) w w':=by
 have hs:=hrow.slv hX
 refine cW2 9 Tryz.func330 ?_
 refine W ?_
 refine CL rfl (ZH rfl rfl rfl) rfl (Ziq g fn lb c ho X base v xs _ hX hbase hrow hp hlen) ?_
 rintro r w2 hres
 refine W ?_
 refine WR ?_
 exact .mk hres
def Zb7 (x y:Spn):Int:=Zgv x.1 y.1
theorem Zs7:Ord Zb7 where
 asym:=fun a b=>by unfold Zb7;rw [Z5B,Z5B];omega
 trans:=fun a b d=>by unfold Zb7;rw [Z5B,Z5B,Z5B];omega
theorem Zpr (S:List Nat) (w:World):Zio Tryz.prog S 331 #[] Zb7 w:=by
 intro x y w1 hS
 show Calls _ _ #[agg x,agg y] _ _
 refine cW2 10 Tryz.func331 ?_
 refine W ?_
 refine Z3 (Zs rfl) rfl ?_
 rintro _ w2 ⟨c,rfl,hc,hblk,hS2⟩
 replace hblk:Blk w2 c _ (Zi.enc x):=hblk
 refine Z3 (Zs rfl) rfl ?_
 rintro _ w3 ⟨c2,rfl,hc2,hblk2,hS3⟩
 replace hblk2:Blk w3 c2 _ (Zi.enc y):=hblk2
 replace hblk:=hblk.up hS3
 replace hS2:=hS2.trans hS3
 refine W ?_
 refine CL rfl (Z9 rfl rfl) rfl (Zb4 _ _ _) ?_
 rintro _ w4 ⟨rfl,hS4⟩
 refine W ?_
 refine WR ?_
 exact .mk ⟨rfl,hS2.trans hS4⟩
def ofH (y:Int) (h:Hol) (i:Int):List Spn:=match Z2J h y with|some d=>[(d,i)]|none=>[]
def ofK (y:Int):List Hol→Int→List Spn
 | [],_=>[]
 | h :: r,i=>ofH y h i++ofK y r (i+1)
theorem Zdd (y:Int):∀ (a b:List Hol) (i:Int),ofK y (a++b) i=ofK y a i++ofK y b (i+a.length)
 | [],b,i=>by simp [ofK]
 | h :: a, b, i => by
   simp only [Xp,ofK,Zdd y a b (i+1),Xr,Xc]
   congr 3
   omega
theorem Zde (y d:Int):∀ (l:List Hol) (i:Int),(∃ r,(d,r)∈ofK y l i)↔∃ h∈l,Z2J h y=some d
 | [],i=>by simp [ofK]
 | h :: l, i => by
   simp only [ofK,Xt,Xf,exists_or,exists_eq_or_imp]
   have ih:=Zde y d l (i+1)
   constructor
   rintro (⟨r,hr⟩|hr)
   · left
     unfold ofH at hr
     cases hk:Z2J h y with
     | none=>rw [hk] at hr;simp at hr
     | some d'=>rw [hk] at hr;simp at hr;rw [hr.1]
   right;exact ih.1 hr
   rintro (hk|hk)
   left;exact ⟨i,by unfold ofH;rw [hk];simp⟩
   right;exact ih.2 hk
theorem Z6U (y:Int):∀ (l:List Hol) (i:Int),(ofK y l i).length≤l.length
 | [],i=>by simp [ofK]
 | h :: l, i => by
   have:=Z6U y l (i+1)
   simp only [ofK,Xb,Xc]
   unfold ofH
   cases Z2J h y<;>simp<;>omega
abbrev fnV (f:Nat):Value:=.func (.func f) #[] #[]
abbrev Z7M:List Value:=[fnV 338,fnV 339,fnV 340,fnV 341,fnV 343,fnV 344,fnV 345,fnV 346]
theorem Z9z (f g:Nat) (w:World):(Instr.build 342 #[(0,fnV f),(1,fnV g)]).run Tryz.prog w=.ok (.agg #[fnV f,fnV g]) w:=by kernel_rfl
theorem Zir (a b c d e f g h:Nat) (w:World):(Instr.build 343 #[(0,.agg #[fnV a,fnV b]),(1,.agg #[fnV c,fnV d]),(2,.agg #[fnV e,fnV f]),(3,.agg #[fnV g,fnV h])]).run Tryz.prog w=.ok (.agg #[fnV a,fnV b,fnV c,fnV d,fnV e,fnV f,fnV g,fnV h]) w:=by kernel_rfl
theorem Zek (w:World):CC 329 #[] w fun r w'=>r=.agg Z7M.toArray∧Stp [] w w':=by
 refine cW0 6 Tryz.func329 ?_
 refine W ?_
 refine Z3 Z6 rfl ?_
 rintro _ w1 ⟨b,rfl,hb,hblk,hS⟩
 refine W ?_
 refine Ze (vs:=[(0,fnV 338),(1,fnV 339)]) rfl (Z9z _ _) rfl ?_
 refine Ze (vs:=[(0,fnV 340),(1,fnV 341)]) rfl (Z9z _ _) rfl ?_
 refine Ze (vs:=[(0,fnV 343),(1,fnV 344)]) rfl (Z9z _ _) rfl ?_
 refine Ze (vs:=[(0,fnV 345),(1,fnV 346)]) rfl (Z9z _ _) rfl ?_
 refine Ze (vs:=[(0,.agg #[fnV 338,fnV 339]),(1,.agg #[fnV 340,fnV 341]),(2,.agg #[fnV 343,fnV 344]),(3,.agg #[fnV 345,fnV 346])]) rfl (Zir _ _ _ _ _ _ _ _) rfl ?_
 refine Z0 (Z1 (us:=Z7M) rfl rfl rfl rfl (by intro u hu;simp [Z7M] at hu;rcases hu with rfl|rfl|rfl|rfl|rfl|rfl|rfl|rfl<;>rfl) hblk rfl) ?_
 rintro _ w2 ⟨hT,hblk2⟩
 refine W ?_
 refine Zu rfl rfl rfl hblk2 rfl ?_
 exact .mk ⟨rfl,hS.own hT (fun c hc=>.inr (by simp at hc;omega))⟩
theorem Zis {m d:Int} (h0:0≤m) (h2:m≤2) (hd:0≤d):Z68[0+m.toNat * 7+(d % 7).toNat * 1]?=some (Z47 m d - d):=by
 have hm:m=0∨m=1∨m=2:=by omega
 have hw:d % 7=0∨d % 7=1∨d % 7=2∨d % 7=3∨d % 7=4∨d % 7=5∨d % 7=6:=by omega
 unfold Z47
 rcases hm with rfl|rfl|rfl<;>rcases hw with h|h|h|h|h|h|h<;>rw [h]<;>simp [Z68]<;>omega
theorem Zel (m d:Int):d - 1≤Z47 m d∧Z47 m d≤d+2:=by
 unfold Z47
 repeat' split
 all_goals omega
theorem Zit (a b:Int) (w:World):(Instr.build 329 #[(0,.int .i64 a),(1,.int .i64 b)]).run Tryz.prog w=.ok (agg ((a,b):Spn)) w:=by kernel_rfl
theorem Zgy (d:Spn) (w:World):(Instr.buildSlice 326 1 #[(0,agg d)]).run Tryz.prog w=.ok (.slice (some ⟨w.heap.size,0,none⟩) 1 1) (w.alloc (.cells (Zi.enc d).toArray 329)):=by kernel_rfl
set_option maxHeartbeats 1000000 in
theorem Ziu (v:Value) (l:List Hol) (y:Int) (w:World) (hs:SlV [] w v l) (hL:Z0M w) (hM:Z3I w) (ho:∀ h∈l,Z2q h) (hl:l.length<20) :
 CC 312 #[v,.int .i64 y] w fun r w'=>∃ ys,Z8T Zb7 (ofK y l 0) ys∧Z0y 329 w w' r ys:=by
 refine cW2 61 Tryz.func312 ?_
 refine W ?_
 refine CL rfl Z4O rfl (Zek _) ?_
 rintro _ w1 ⟨rfl,hS⟩
 refine Z3 Z6 rfl ?_
 rintro _ w2 ⟨b6,rfl,hb6,e6,hS2⟩
 refine W ?_
 refine Z0 (Z1 (us:=Z7M) rfl rfl rfl rfl (by intro u hu;simp [Z7M] at hu;rcases hu with rfl|rfl|rfl|rfl|rfl|rfl|rfl|rfl<;>rfl) e6 rfl) ?_
 rintro _ w3 ⟨hT,k6⟩
 replace hS:=hS.trans (hS2.own hT (fun c hc=>.inr (by simp at hc;omega)))
 clear e6 hS2 hT
 replace hs:=hs.up hS
 replace hL:=hL.up hS
 replace hM:=hM.up hS
 refine W ?_
 refine ZD (σ:=Nat×Value) (fun q=>[(0,v),(1,.int .i64 y),(5,q.2),(6,.pointer (some ⟨b6,0,none⟩)),(12,v),(13,.int .i64 (l.length:Int)),(14,.int .i64 (q.1:Int))])
  (fun q w'=>q.1≤l.length∧Z0y 329 w3 w' q.2 (ofK y (l.take q.1) 0)) (fun q=>l.length - q.1) (0,.slice none 0 0) ⟨rfl,rfl,rfl,rfl,rfl,rfl,rfl,trivial⟩ ⟨Xy _,Z0y.nil⟩ ?_
 rintro ⟨k,ov⟩ w4 ⟨hk,hr⟩
 dsimp only at hk hr ⊢
 have hS4:=hr.2
 replace hs:=hs.up hS4
 replace hL:=hL.up hS4
 replace hM:=hM.up hS4
 replace k6:=k6.up hS4
 by_cases hlt:k<l.length
 have ht:l.take (k+1)=l.take k++[l[k]]:=Xu hlt
 have hko:ofK y (l.take (k+1)) 0=ofK y (l.take k) 0++ofH y l[k] (k:Int):=by
  rw [ht,Zdd]
  simp only [ofK,Xz,XR,Yap hk]
  simp
 have hok:=ho l[k] (Xg hlt)
 focus repeat'(first|refine W1 ?_|omega|refine VG ?_ ?_<;>intro hg|refine VC ?_ ?_<;>intro hc)
 refine Z3 Z6 rfl ?_
 rintro _ w5 ⟨b8,rfl,hb8,e8,hS5⟩
 refine W ?_
 refine Z0 (Z1 (us:=Zi.enc l[k]) rfl rfl rfl rfl (Zi.one _) e8 rfl) ?_
 rintro _ w6 ⟨hT,k8⟩
 replace hS5:=hS5.own hT (fun c hc=>.inr (by simp at hc;omega))
 clear e8 hT
 replace hr:=hr.up hS5
 replace hs:=hs.up hS5
 replace hL:=hL.up hS5
 replace hM:=hM.up hS5
 replace k6:=k6.up hS5
 clear hS5
 refine W ?_
 refine CL rfl (ZH rfl rfl rfl) rfl (Z2M y l[k].first l[k].last _) ?_
 rintro _ w6 ⟨rfl,rfl⟩
 have again:∀ (w':World),Z2J l[k] y=none→Stp [] w6 w'→Z0y 329 w3 w' ov (ofK y (l.take (k+1)) 0):=by
  intro w' hn hSw
  rw [hko]
  unfold ofH
  rw [hn,Xz]
  exact hr.up hSw
 by_cases hin:l[k].first≤y∧y≤l[k].last
 rw [decide_eq_true hin]
 have hnm:=ZmV hin.1 hin.2
 have hy1:=hok.f1
 have hy2:=hok.l1
 refine W ?_
 refine Z1J (σ:=Unit) (fun _=>[(0,v),(1,.int .i64 y),(5,ov),(6,.pointer (some ⟨b6,0,none⟩)),(7,.int .i64 (k:Int)),(8,.pointer (some ⟨b8,0,none⟩)),(9,.int .i64 (Z27 l[k] y).1),(10,.bool (Z27 l[k] y).2),(12,v),(13,.int .i64 (l.length:Int)),(14,.int .i64 (k:Int))])
  (fun _ w'=>Stp [] w6 w') ?_ ?_
 have hkk:l[k].kind=1∨l[k].kind=2∨l[k].kind=3∨l[k].kind=4:=by have:=hok.k1;have:=hok.k2;omega
 rcases hkk with hkk|hkk|hkk|hkk
 refine ZDr 14 [] [] [(0,0),(1,1),(2,0),(3,0),(4,0),(5,1),(6,1),(7,0),(8,2),(9,0),(10,0),(11,0),(12,0),(13,0)] (fun w1 hS1=>?_)
 replace k6:=k6.up hS1
 replace k8:=k8.up hS1
 replace hL:=hL.up hS1
 have hz:l[k].kind - 1=((0:Nat):Int):=by omega
 refine D ?_
 refine Z0R rfl (Z1M (len:=4) (i:=0) trivial rfl rfl hz (by decide) rfl ?_)
 refine D ?_
 refine Zb rfl trivial (Z5 rfl (Z9 rfl rfl) (Zeg _ _ _ hL hkk)) (fun _ _ h=>h.2) rfl ?_
 rintro _ w7 ⟨rfl,hS7⟩
 refine D ?_
 exact ZI () ⟨rfl,rfl,rfl,rfl,rfl,rfl,rfl,rfl,rfl,rfl,rfl,trivial⟩ (hS1.trans hS7)
 refine ZDr 14 [] [] [(0,0),(1,1),(2,0),(3,0),(4,0),(5,1),(6,1),(7,0),(8,2),(9,0),(10,0),(11,0),(12,0),(13,0)] (fun w1 hS1=>?_)
 replace k6:=k6.up hS1
 replace k8:=k8.up hS1
 replace hL:=hL.up hS1
 have hz:l[k].kind - 1=((1:Nat):Int):=by omega
 refine D ?_
 refine Z0R rfl (Z1M (len:=4) (i:=1) trivial rfl rfl hz (by decide) rfl ?_)
 refine D ?_
 refine Zb rfl trivial (Z5 rfl (Z9 rfl rfl) (Zeh _ _ _ hL (by omega) (by omega) hkk hok)) (fun _ _ h=>h.2) rfl ?_
 rintro _ w7 ⟨rfl,hS7⟩
 refine D ?_
 exact ZI () ⟨rfl,rfl,rfl,rfl,rfl,rfl,rfl,rfl,rfl,rfl,rfl,trivial⟩ (hS1.trans hS7)
 refine ZDr 14 [] [] [(0,0),(1,1),(2,0),(3,0),(4,0),(5,1),(6,1),(7,0),(8,2),(9,0),(10,0),(11,0),(12,0),(13,0)] (fun w1 hS1=>?_)
 replace k6:=k6.up hS1
 replace k8:=k8.up hS1
 replace hL:=hL.up hS1
 have hz:l[k].kind - 1=((2:Nat):Int):=by omega
 refine D ?_
 refine Z0R rfl (Z1M (len:=4) (i:=2) trivial rfl rfl hz (by decide) rfl ?_)
 refine D ?_
 refine Zb rfl trivial (Z5 rfl (Z9 rfl rfl) (Zei _ _ _ hL (by omega) (by omega) hkk hok)) (fun _ _ h=>h.2) rfl ?_
 rintro _ w7 ⟨rfl,hS7⟩
 refine D ?_
 exact ZI () ⟨rfl,rfl,rfl,rfl,rfl,rfl,rfl,rfl,rfl,rfl,rfl,trivial⟩ (hS1.trans hS7)
 refine ZDr 14 [] [] [(0,0),(1,1),(2,0),(3,0),(4,0),(5,1),(6,1),(7,0),(8,2),(9,0),(10,0),(11,0),(12,0),(13,0)] (fun w1 hS1=>?_)
 replace k6:=k6.up hS1
 replace k8:=k8.up hS1
 replace hL:=hL.up hS1
 have hz:l[k].kind - 1=((3:Nat):Int):=by omega
 refine D ?_
 refine Z0R rfl (Z1M (len:=4) (i:=3) trivial rfl rfl hz (by decide) rfl ?_)
 refine D ?_
 refine Zb rfl trivial (Z5 rfl (Z9 rfl rfl) (Zej _ _ _ hkk hok)) (fun _ _ h=>h.2) rfl ?_
 rintro _ w7 ⟨rfl,hS7⟩
 refine D ?_
 exact ZI () ⟨rfl,rfl,rfl,rfl,rfl,rfl,rfl,rfl,rfl,rfl,rfl,trivial⟩ (hS1.trans hS7)
 · rintro _ w7 hS7
   clear k6
   replace k8:=k8.up hS7
   replace hM:=hM.up hS7
   cases hp:(Z27 l[k] y).2 with
   | false=>
     rw [hp] at hnm
     refine W ?_
     exact Zr (k+1,ov) ⟨rfl,rfl,rfl,rfl,rfl,rfl,rfl,trivial⟩ ⟨hlt,again _ (by unfold Z2J;rw [hnm];rfl) hS7⟩ (by dsimp only;omega)
   | true=>
     rw [hp] at hnm
     obtain ⟨n1,n2⟩:=Zch hok hin.1 hin.2 hp
     have hmv1:=hok.m1
     have hmv2:=hok.m2
     have htab:=Zis hmv1 hmv2 n1
     have hnear:=Zel l[k].move (Z27 l[k] y).1
     have hkd:Z2J l[k] y=if ZW (Z47 l[k].move (Z27 l[k] y).1)=true then some (Z47 l[k].move (Z27 l[k] y).1) else none:=by
      unfold Z2J
      rw [hnm]
      rfl
     generalize (Z27 l[k] y).1=d at *
     refine W ?_
     refine ZDr 10 [] [] [(0,0),(1,0),(2,1),(3,0),(5,0),(4,2),(6,0),(7,1),(8,0),(9,0)] (fun w1 hS1=>?_)
     replace k8:=k8.up hS1
     replace hM:=hM.up hS1
     replace hS7:=hS7.trans hS1
     clear hS1
     refine D ?_
     refine Z0R rfl (Z1M (len:=3) (i:=l[k].move.toNat) trivial rfl rfl (by omega) (by omega) rfl ?_)
     refine D ?_
     refine Zb rfl trivial (Z5 rfl (Zp rfl) (Z4g _ _ n1 (by omega))) (fun _ _ h=>by rw [h.2];exact Stp.refl _ _) rfl ?_
     rintro _ w8 ⟨rfl,rfl⟩
     refine D ?_
     refine Z0R rfl (Z1M (len:=7) (i:=(d % 7).toNat) trivial rfl rfl (by omega) (by omega) rfl ?_)
     refine D ?_
     refine ZN rfl trivial (fun w' hS'=>Z2V rfl rfl (hM.up hS' _ _ htab)) rfl ?_
     refine D ?_
     have ed:d+(Z47 l[k].move d - d)=Z47 l[k].move d:=by omega
     rw [ed]
     refine W ?_
     refine CL rfl (ZH rfl rfl rfl) rfl (Z2M (Z47 l[k].move d) 0 3652058 _) ?_
     rintro _ _ ⟨rfl,rfl⟩
     by_cases h2:0≤Z47 l[k].move d∧Z47 l[k].move d≤3652058
     rw [decide_eq_true h2]
     rw [if_pos (J1.2 h2)] at hkd
     have hlk:=Z6U y (l.take k) 0
     have hlk2:(l.take k).length≤l.length:=by rw [XR];omega
     replace hr:=hr.up hS7
     refine W ?_
     refine Ze (vs:=[(0,.int .i64 (Z47 l[k].move d)),(1,.int .i64 (k:Int))]) rfl (Zit _ _) rfl ?_
     refine Z3 (Z2 (vs:=[(0,agg ((Z47 l[k].move d,(k:Int)):Spn))]) rfl (Zgy _)) rfl ?_
     rintro bv w9 hN
     have hS9:=Zc.stp hN
     have hbv:SlV (ob ov) w9 bv [((Z47 l[k].move d,(k:Int)):Spn)]:=hN.slv (fun b hb=>(hr.1.ob_le b hb).2) rfl rfl (by simp [maxLen])
     replace hr:=hr.up hS9
     refine Z3 (Z2E rfl (by decide) rfl rfl hr hbv (by simp only [Xc,Xe];omega) (by simp only [Xc,Xe,maxLen];omega)) rfl ?_
     rintro ov' w10 ⟨hr2,hS10,ho10⟩
     refine W ?_
     refine Zr (k+1,ov') ⟨rfl,rfl,rfl,rfl,rfl,rfl,rfl,trivial⟩ ⟨hlt,?_⟩ (by dsimp only;omega)
     dsimp only
     rw [hko]
     unfold ofH
     rw [hkd]
     exact hr2
     rw [decide_eq_false h2]
     rw [if_neg (fun h=>h2 (J1.1 h))] at hkd
     refine W ?_
     exact Zr (k+1,ov) ⟨rfl,rfl,rfl,rfl,rfl,rfl,rfl,trivial⟩ ⟨hlt,again _ hkd hS7⟩ (by dsimp only;omega)
 rw [decide_eq_false hin]
 refine W ?_
 exact Zr (k+1,ov) ⟨rfl,rfl,rfl,rfl,rfl,rfl,rfl,trivial⟩ ⟨hlt,again _ (by unfold Z2J Zi9;rw [if_pos (by omega)];rfl) (Stp.refl _ _)⟩ (by dsimp only;omega)
 have hk2:k=l.length:=by omega
 subst hk2
 rw [XL] at hr
 have hlen:=Z6U y l 0
 focus repeat'(first|refine W1 ?_|omega|refine VG ?_ ?_<;>intro hg|refine VC ?_ ?_<;>intro hc)
 refine CL rfl (Z9 rfl rfl) rfl (Zb6 331 _ #[] Zb7 Zs7 [] w3.heap.size ov _ _ (by simp) hr.2.size hr.1 (Zpr _ _) (by omega)) ?_
 rintro _ w7 ⟨ys,hso,hrow7,hS7⟩
 refine W ?_
 refine WR ?_
 exact .mk ⟨ys,hso,hrow7.lower hS.size,(hS.trans hr.2).own hS7 (fun c hc=>.inr (Xh hS.size (hr.1.ob_le c hc).1))⟩
open Go Go.Eng Go.RowKit Go.Proofs
theorem Z9A (n:Int) (w:World) (h0:0≤n) (h1:n≤3652058):CC 281 #[.int .i64 n] w fun r w'=>r=.tuple #[ZdZ (ofM n).y (ofM n).m (ofM n).d,.int .i64 0]∧Stp [] w w':=by
 refine cW1 73 Tryz.func281 ?_
 refine W ?_
 refine Z3 Z6 rfl ?_
 rintro _ w1 ⟨b2,rfl,hb2,e2',hS⟩
 have hw1:=hS.size
 repeat'(first|refine W1 ?_|omega|refine VG ?_ ?_<;>intro hg|refine VC ?_ ?_<;>intro hc)
 unfold ofM
 simp only
 have hr0:=Ya9 (n+306) (b:=146097) (by decide)
 have hr1:=YaY (n+306) (b:=146097) (by decide)
 have he:(n+306) / 146097≤25∧0≤(n+306) / 146097:=by omega
 generalize (n+306) % 146097=doe at *
 generalize (n+306) / 146097=era at *
 obtain ⟨yoe,doy,e1,e2,hy,hd,-⟩:=Zg8 doe hr0 hr1
 simp only [e1,e2]
 have hmb:0≤(5 * (doy:Int)+2) / 153∧(5 * (doy:Int)+2) / 153≤11:=by omega
 repeat'(first|refine W1 ?_|omega|refine VG ?_ ?_<;>intro hg|refine VC ?_ ?_<;>intro hc)
 refine Ze (vs:=[(0,.int .i64 _),(1,.int .i64 _),(2,.int .i64 _)]) rfl (Z5y _ _ _) rfl ?_
 refine Z3 Z6 rfl ?_
 rintro _ w2 ⟨b10,rfl,hb10,e10,hT⟩
 have n2:b10≠b2:=by have:=e2'.lt;omega
 replace e2':=e2'.up hT
 replace hS:=hS.trans hT
 refine Z0 (Z1 (us:=[.int .i64 _,.int .i64 _,.int .i64 _]) rfl rfl rfl rfl (by simp;exact ⟨rfl,rfl,rfl⟩) e10 rfl) ?_
 rintro _ w3 ⟨hT,e10'⟩
 replace e2':=e2'.ext hT (by simpa using n2.symm)
 replace hS:=hS.own hT (fun c hc=>.inr (by simp at hc;have:=hS.size;omega))
 clear e10 hT
 repeat'(first|refine W1 ?_|omega|refine VG ?_ ?_<;>intro hg|refine VC ?_ ?_<;>intro hc)
 rename_i hc
 refine Z0 (Zj (u:=.int .i64 ((yoe:Int)+400 * era+1)) rfl rfl rfl rfl e10' (by simp)) ?_
 rintro _ w4 ⟨hT,e10⟩
 replace e10:Blk w4 b10 291 [.int .i64 ((yoe:Int)+400 * era+1),.int .i64 ((5 * (doy:Int)+2) / 153+3),.int .i64 ((doy:Int) - (153 * ((5 * (doy:Int)+2) / 153)+2) / 5+1)]:=e10
 replace e2':=e2'.ext hT (by simpa using n2.symm)
 replace hS:=hS.own hT (fun c hc=>.inr (by simp at hc;omega))
 clear e10' hT
 refine W ?_
 refine Z0 (Zj (u:=.int .i64 ((5 * (doy:Int)+2) / 153 - 9)) rfl rfl rfl rfl e10 (by simp)) ?_
 rintro _ w5 ⟨hT,e10'⟩
 replace e10':Blk w5 b10 291 [.int .i64 ((yoe:Int)+400 * era+1),.int .i64 ((5 * (doy:Int)+2) / 153 - 9),.int .i64 ((doy:Int) - (153 * ((5 * (doy:Int)+2) / 153)+2) / 5+1)]:=e10'
 replace e2':=e2'.ext hT (by simpa using n2.symm)
 replace hS:=hS.own hT (fun c hc=>.inr (by simp at hc;omega))
 clear e10 hT
 refine W ?_
 refine Z0 (Z1 (us:=[.int .i64 _,.int .i64 _,.int .i64 _]) rfl rfl rfl rfl (by simp;exact ⟨rfl,rfl,rfl⟩) e2' rfl) ?_
 rintro _ w6 ⟨hT,e2⟩
 replace hS:=hS.own hT (fun c hc=>.inr (by simp at hc;omega))
 refine W ?_
 refine J5 rfl rfl rfl e2 rfl rfl ?_
 refine .mk ⟨?_,hS⟩
 rw [if_pos (by omega)]
 rename_i hc
 refine Z0 (Z1 (us:=[.int .i64 _,.int .i64 _,.int .i64 _]) rfl rfl rfl rfl (by simp;exact ⟨rfl,rfl,rfl⟩) e2' rfl) ?_
 rintro _ w6 ⟨hT,e2⟩
 replace hS:=hS.own hT (fun c hc=>.inr (by simp at hc;omega))
 refine W ?_
 refine J5 rfl rfl rfl e2 rfl rfl ?_
 refine .mk ⟨?_,hS⟩
 rw [if_neg (by omega)]
end Go.Proofs.YtjdjdoefppebkaaGreatDoor
namespace Go.Eng
open Go Go.RowKit Go.Proofs
variable {P:Program} {n:Nat} {Q:Exit→Act→World→Prop} {e:Env} {w:World}
theorem Z5C {i:Nat} {A B:Exit→Act→World→Prop} (h:∀ ex a w,A ex a w→B ex a w):∀ ex a w,Exit.inBlock i A ex a w→Exit.inBlock i B ex a w:=by
 intro ex a w hq
 cases ex with
 | exit j=>
   simp only [Exit.inBlock] at hq ⊢
   split
   rename_i hj
   rw [if_pos hj] at hq
   exact h _ _ _ hq
   rename_i hj
   rw [if_neg hj] at hq
   exact h _ _ _ hq
 | normal=>exact h _ _ _ hq
 | ret=>exact h _ _ _ hq
 | goto t=>exact h _ _ _ hq
 | panic c=>exact h _ _ _ hq
 | outgrown=>exact h _ _ _ hq
theorem Zgz {x y:Code} {σ:Type} {i j:Nat} (env:σ→Env) (I:σ→World→Prop)
 (h:WC P n x (Exit.inBlock i (Exit.inBlock j (Exit.then (fun a w=>∃ s,Has n (env s) a∧I s w) Q))) e w) (k:∀ s w,I s w→WC P n y Q (env s) w):WC P n x (Exit.inBlock i (Exit.inBlock j (Exit.then (fun a w=>y.wp P Q a w) Q))) e w:=
 ⟨fun a ha => wp_mono (h.h a ha) (Z5C (Z5C (fun ex a w hq => by
   cases ex with
   | normal=>obtain ⟨s,h1,h2⟩:=hq;exact (k s w h2).h a h1
   | _=>exact hq)))⟩
end Go.Eng
namespace Go.Proofs.YtjdjdoefppebkaaGreatDoor
open Go Go.Eng Go.RowKit
def inR (a b:Int) (zs:List Int):List Int:=zs.filter fun d=>decide (a≤d∧d≤b)
theorem Ziv (a b:Int) (x y:List Int):inR a b (x++y)=inR a b x++inR a b y:=by unfold inR;rw [List.filter_append]
theorem ZgA {y:Int} {l:List Hol} {ys:List Spn} (h:Z8T Zb7 (ofK y l 0) ys) (d:Int):d∈ys.map Prod.fst↔∃ h∈l,Z2J h y=some d:=by
 rw [← Zde y d l 0,Yax]
 constructor
 rintro ⟨⟨a,r⟩,h1,rfl⟩
 exact ⟨r,h.1.mem_iff.1 h1⟩
 rintro ⟨r,hr⟩
 exact ⟨(d,r),h.1.mem_iff.2 hr,rfl⟩
theorem ZgB {y:Int} {l:List Hol} {ys:List Spn} (h:Z8T Zb7 (ofK y l 0) ys):ys.length≤l.length:=by
 rw [h.1.length_eq];exact Z6U y l 0
set_option maxHeartbeats 1000000 in
theorem Zb8 (v:Value) (l:List Hol) (a b:Int) (w:World) (hs:SlV [] w v l) (hL:Z0M w) (hM:Z3I w) (ho:∀ h∈l,Z2q h) (hl:l.length<20) (ha:0≤a) (hab:a≤b) (hb:b≤3652058) (hyy:(ofM a).y≤(ofM b).y) :
 CC 286 #[v,.int .i64 a,.int .i64 b] w fun r w'=>∃ zs:List Int,(∀ d,d∈zs↔a≤d∧d≤b∧∃ y,(ofM a).y - 1≤y∧y≤(ofM b).y+1∧∃ h∈l,Z2J h y=some d)∧Z0y 3 w w' r (Z7f zs):=by
 obtain ⟨ya1,ya2,-⟩:=Z43 ha (by omega)
 obtain ⟨yb1,yb2,-⟩:=Z43 (n:=b) (by omega) hb
 have hmx:max a 0=a:=by omega
 have hmn:min b 3652058=b:=by omega
 refine cW3 65 Tryz.func286 ?_
 refine W ?_
 rw [hmx,hmn]
 repeat'(first|refine W1 ?_|omega|refine VG ?_ ?_<;>intro hg|refine VC ?_ ?_<;>intro hc)
 refine CL rfl (Zp rfl) rfl (Z9A a _ ha (by omega)) ?_
 rintro _ w1 ⟨rfl,hS⟩
 refine W ?_
 refine Z3 Z6 rfl ?_
 rintro _ w2 ⟨b7,rfl,hb7,e7,hS2⟩
 refine W ?_
 refine Z0 (Z1 (us:=[.int .i64 (ofM a).y,.int .i64 (ofM a).m,.int .i64 (ofM a).d]) rfl rfl rfl rfl (by intro u hu;simp at hu;rcases hu with rfl|rfl|rfl<;>rfl) e7 rfl) ?_
 rintro _ w3 ⟨hT,k7⟩
 replace hS:=hS.trans (hS2.own hT (fun c hc=>.inr (by simp at hc;omega)))
 clear e7 hS2 hT
 refine W ?_
 refine CL rfl (Zp rfl) rfl (Z9A b _ (by omega) hb) ?_
 rintro _ w4 ⟨rfl,hS4⟩
 replace k7:=k7.up hS4
 replace hS:=hS.trans hS4
 refine W ?_
 refine Z3 Z6 rfl ?_
 rintro _ w5 ⟨b9,rfl,hb9,e9,hS5⟩
 have n79:b7≠b9:=by have:=k7.lt;omega
 refine W ?_
 refine Z0 (Z1 (us:=[.int .i64 (ofM b).y,.int .i64 (ofM b).m,.int .i64 (ofM b).d]) rfl rfl rfl rfl (by intro u hu;simp at hu;rcases hu with rfl|rfl|rfl<;>rfl) e9 rfl) ?_
 rintro _ w6 ⟨hT,k9⟩
 replace hS5:=hS5.own hT (fun c hc=>.inr (by simp at hc;omega))
 replace k7:=k7.up hS5
 replace hS:=hS.trans hS5
 clear e9 hT hS4 hS5
 replace hs:=hs.up hS
 replace hL:=hL.up hS
 replace hM:=hM.up hS
 refine W ?_
 refine ZD (σ:=Nat×Value×List Int) (fun q=>[(0,v),(1,.int .i64 a),(2,.int .i64 b),(7,.pointer (some ⟨b7,0,none⟩)),(9,.pointer (some ⟨b9,0,none⟩)),(11,q.2.1),(12,.int .i64 ((ofM a).y - 1+(q.1:Int)))])
  (fun q w'=>(ofM a).y - 1+(q.1:Int)≤(ofM b).y+2∧q.2.2.length≤q.1 * 20∧(∀ d,d∈q.2.2↔a≤d∧d≤b∧∃ y,(ofM a).y - 1≤y∧y<(ofM a).y - 1+(q.1:Int)∧∃ h∈l,Z2J h y=some d)∧Z0y 3 w6 w' q.2.1 q.2.2)
  (fun q=>20000 - q.1) (0,.slice none 0 0,[]) ⟨rfl,rfl,rfl,rfl,rfl,rfl,(by simp [Z28]),trivial⟩ ⟨by dsimp only;omega,Xy _,fun d=>by simp;intros;omega,Z0y.nil⟩ ?_
 rintro ⟨k,ov,zs⟩ w7 ⟨hk,hzl,hz,hr⟩
 dsimp only at hk hzl hz hr ⊢
 have hS7:=hr.2
 replace k7:=k7.up hS7
 replace k9:=k9.up hS7
 replace hs:=hs.up hS7
 replace hL:=hL.up hS7
 replace hM:=hM.up hS7
 by_cases hlt:(ofM a).y - 1+(k:Int)≤(ofM b).y+1
 focus repeat'(first|refine W1 ?_|omega|refine VG ?_ ?_<;>intro hg|refine VC ?_ ?_<;>intro hc)
 refine CL rfl (Z9 rfl rfl) rfl (Ziu v l _ _ hs hL hM ho hl) ?_
 rintro rv w8 ⟨ys,hso,hrf⟩
 have hyl:=ZgB hso
 have hmem:=ZgA hso
 have hS8:=hrf.2
 have hys:=hrf.slv (X:=ob ov) (fun b hb=>(hr.1.ob_le b hb).2)
 have hys0:=hrf.slv (X:=[]) (by simp)
 replace hr:=hr.up hS8
 replace k9:=k9.up hS8
 replace hs:=hs.up hS8
 replace hL:=hL.up hS8
 replace hM:=hM.up hS8
 refine W ?_
 refine Zgz (σ:=Value×List Int) (fun q=>[(0,v),(1,.int .i64 a),(2,.int .i64 b),(7,.pointer (some ⟨b7,0,none⟩)),(9,.pointer (some ⟨b9,0,none⟩)),(11,q.1),(12,.int .i64 ((ofM a).y - 1+(k:Int)))])
  (fun q w'=>q.2=zs++inR a b (ys.map Prod.fst)∧Z0y 3 w6 w' q.1 q.2) ?_ ?_
 refine ZD (σ:=Nat×Value) (fun q=>[(0,v),(1,.int .i64 a),(2,.int .i64 b),(7,.pointer (some ⟨b7,0,none⟩)),(9,.pointer (some ⟨b9,0,none⟩)),(11,q.2),(12,.int .i64 ((ofM a).y - 1+(k:Int))),(44,rv),(45,.int .i64 (ys.length:Int)),(46,.int .i64 (q.1:Int))])
  (fun q w'=>q.1≤ys.length∧Z0y 3 w6 w' q.2 (zs++inR a b ((ys.take q.1).map Prod.fst))∧SlV (ob q.2) w' rv ys) (fun q=>ys.length - q.1) (0,ov) ⟨rfl,rfl,rfl,rfl,rfl,rfl,rfl,rfl,rfl,rfl,trivial⟩ ⟨Xy _,by simpa [inR] using hr,hys⟩ ?_
 clear hr hys hys0 hs hL hM k7 k9
 rintro ⟨j,ov'⟩ w9 ⟨hj,hr,hys⟩
 dsimp only at hj hr hys ⊢
 by_cases hjl:j<ys.length
 have htk:inR a b ((ys.take (j+1)).map Prod.fst)=inR a b ((ys.take j).map Prod.fst)++inR a b [ys[j].1]:=by
  rw [Xu hjl,Yaq,Ziv]
  rfl
 focus repeat'(first|refine W1 ?_|omega|refine VG ?_ ?_<;>intro hg|refine VC ?_ ?_<;>intro hc)
 refine Z3 Z6 rfl ?_
 rintro _ w10 ⟨b14,rfl,hb14,e14,hS10⟩
 refine W ?_
 refine Z0 (Z1 (us:=Zi.enc ys[j]) rfl rfl rfl rfl (Zi.one _) e14 rfl) ?_
 rintro _ w11 ⟨hT,k14⟩
 replace hS10:=hS10.own hT (fun c hc=>.inr (by simp at hc;omega))
 clear e14 hT
 replace hr:=hr.up hS10
 replace hys:=hys.up hS10
 refine W ?_
 refine CL rfl (ZH rfl rfl rfl) rfl (Z2M ys[j].1 a b _) ?_
 rintro _ _ ⟨rfl,rfl⟩
 by_cases hin:a≤ys[j].1∧ys[j].1≤b
 rw [decide_eq_true hin]
 have hlen:(zs++inR a b ((ys.take j).map Prod.fst)).length≤300000:=by
  have h1:(inR a b ((ys.take j).map Prod.fst)).length≤((ys.take j).map Prod.fst).length:=YaP _ _
  rw [Xb]
  simp only [XM,XR] at h1
  omega
 have e1:inR a b [ys[j].1]=[ys[j].1]:=by unfold inR;simp [hin]
 rw [e1] at htk
 refine W ?_
 refine Z3 (Z2 (vs:=[(0,.int .i64 ys[j].1)]) rfl (Jv _)) rfl ?_
 rintro bv w12 hN
 have hS12:=Zc.stp hN
 have hbv:SlV (ob ov') w12 bv [ys[j].1]:=hN.slv (fun b hb=>(hr.1.ob_le b hb).2) rfl rfl (by simp [maxLen])
 replace hr:=hr.up hS12
 replace hys:=hys.up hS12
 refine Z3 (Z2E rfl (by decide) rfl rfl hr hbv (by simp only [Xc,Xe];omega) (by simp only [Xc,Xe,maxLen];omega)) rfl ?_
 rintro ov2 w13 ⟨hr2,hS13,ho13⟩
 refine W ?_
 refine Zr (j+1,ov2) ⟨rfl,rfl,rfl,rfl,rfl,rfl,rfl,rfl,rfl,rfl,trivial⟩ ⟨hjl,?_,hys.ext hS13 (fun _ h=>h) ho13⟩ (by dsimp only;omega)
 dsimp only
 rw [htk,← Xr]
 exact hr2
 rw [decide_eq_false hin]
 have e1:inR a b [ys[j].1]=[]:=by unfold inR;simp only [List.filter_cons,decide_eq_false hin,List.filter_nil];rfl
 rw [e1,Xz] at htk
 refine W ?_
 refine Zr (j+1,ov') ⟨rfl,rfl,rfl,rfl,rfl,rfl,rfl,rfl,rfl,rfl,trivial⟩ ⟨hjl,?_,hys⟩ (by dsimp only;omega)
 dsimp only
 rw [htk]
 exact hr
 have hjj:j=ys.length:=by omega
 subst hjj
 rw [XL] at hr
 focus repeat'(first|refine W1 ?_|omega|refine VG ?_ ?_<;>intro hg|refine VC ?_ ?_<;>intro hc)
 exact ZI (ov',zs++inR a b (ys.map Prod.fst)) ⟨rfl,rfl,rfl,rfl,rfl,rfl,rfl,trivial⟩ ⟨rfl,hr⟩
 rintro ⟨ov',zs'⟩ w9 ⟨hzz,hr⟩
 dsimp only at hzz hr ⊢
 subst hzz
 have e1:(ofM a).y - 1+(k:Int)+1=(ofM a).y - 1+((k+1:Nat):Int):=by omega
 refine W ?_
 rw [e1]
 refine Zr (k+1,ov',zs++inR a b (ys.map Prod.fst)) ⟨rfl,rfl,rfl,rfl,rfl,rfl,rfl,trivial⟩ ⟨by dsimp only;omega,?_,fun d=>?_,hr⟩ (by dsimp only;omega)
 have h1:(inR a b (ys.map Prod.fst)).length≤(ys.map Prod.fst).length:=YaP _ _
 dsimp only
 rw [Xb]
 simp only [XM] at h1
 omega
 dsimp only
 rw [Xt,hz,inR,List.mem_filter,hmem]
 constructor
 rintro (⟨p1,p2,y,p3,p4,p5⟩|⟨p5,p6⟩)
 exact ⟨p1,p2,y,p3,by omega,p5⟩
 have p6:=of_decide_eq_true p6
 exact ⟨p6.1,p6.2,_,by omega,by omega,p5⟩
 rintro ⟨p1,p2,y,p3,p4,p5⟩
 by_cases hy:y<(ofM a).y - 1+(k:Int)
 exact .inl ⟨p1,p2,y,p3,hy,p5⟩
 obtain rfl:y=(ofM a).y - 1+(k:Int):=by omega
 exact .inr ⟨p5,decide_eq_true ⟨p1,p2⟩⟩
 focus repeat'(first|refine W1 ?_|omega|refine VG ?_ ?_<;>intro hg|refine VC ?_ ?_<;>intro hc)
 refine CL rfl (Zp rfl) rfl (ZfN _ hr.1 (by omega)) ?_
 rintro _ w8 ⟨rfl,hrow2,hS8⟩
 refine W ?_
 refine CL rfl (Zp rfl) rfl (Zal _ hrow2 (by rw [List.length_mergeSort];omega)) ?_
 rintro rv w9 ⟨hrow3,hS9,hob⟩
 refine W ?_
 refine WR ?_
 refine .mk ⟨zs,fun d=>?_,hrow3.lower hS.size,((hS.trans hr.2).own hS8 (fun c hc=>.inr (Xh hS.size (hr.1.ob_le c hc).1))).own hS9 (fun c hc=>.inr (Xh hS.size (hr.1.ob_le c hc).1))⟩
 rw [hz]
 constructor
 rintro ⟨p1,p2,y,p3,p4,p5⟩
 exact ⟨p1,p2,y,p3,by omega,p5⟩
 rintro ⟨p1,p2,y,p3,p4,p5⟩
 exact ⟨p1,p2,y,p3,by omega,p5⟩
theorem Zcj {l:List Hol} {d:Int} (h0:0≤d) (h1:d≤3652058) {zs:List Int} (hz:∀ x,x∈zs↔d≤x∧x≤d∧∃ y,(ofM d).y - 1≤y∧y≤(ofM d).y+1∧∃ h∈l,Z2J h y=some x) :
 decide (((Z7f zs).length:Int) > 0)=Z7x l d:=by
 have hm:=(ZbZ zs).2
 have hin:ZW d=true:=J1.2 ⟨h0,h1⟩
 rw [X0]
 unfold Z7x
 rw [hin,Bool.true_and,decide_eq_true_eq,Yaf]
 constructor
 intro hl
 obtain ⟨x,hx⟩:=List.exists_mem_of_length_pos (l:=Z7f zs) (by omega)
 obtain ⟨p1,p2,y,p3,p4,h,hh,hk⟩:=(hz x).1 ((hm x).1 hx)
 obtain rfl:x=d:=by omega
 refine ⟨y,?_,Yaf.2 ⟨h,hh,decide_eq_true hk⟩⟩
 have:y=(ofM x).y - 1∨y=(ofM x).y∨y=(ofM x).y+1:=by omega
 rcases this with rfl|rfl|rfl<;>simp
 rintro ⟨y,hy,hh⟩
 obtain ⟨h,hh,hk⟩:=Yaf.1 hh
 have hy2:(ofM d).y - 1≤y∧y≤(ofM d).y+1:=by simp at hy;omega
 have:d∈Z7f zs:=(hm d).2 ((hz d).2 ⟨Yaw _,Yaw _,y,hy2.1,hy2.2,h,hh,of_decide_eq_true hk⟩)
 have:=List.length_pos_of_mem this
 omega
theorem ZmW (v:Value) (l:List Hol) (d:Int) (w:World) (hs:SlV [] w v l) (hL:Z0M w) (hM:Z3I w) (ho:∀ h∈l,Z2q h) (hl:l.length<20) :
 CC 239 #[v,.int .i64 d] w fun r w'=>r=.bool (Z7x l d)∧Stp [] w w':=by
 refine cW2 15 Tryz.func239 ?_
 refine W ?_
 refine CL rfl (ZH rfl rfl rfl) rfl (Z2M d 0 3652058 _) ?_
 rintro _ _ ⟨rfl,rfl⟩
 by_cases hd:0≤d∧d≤3652058
 rw [decide_eq_true hd]
 refine W ?_
 refine CL rfl (ZH rfl rfl rfl) rfl (Zb8 v l d d _ hs hL hM ho hl hd.1 (Yaw _) hd.2 (Yaw _)) ?_
 rintro rv w1 ⟨zs,hz,hr⟩
 have hsv:=hr.slv (X:=[]) (by simp)
 refine W ?_
 refine WR ?_
 exact .mk ⟨by rw [Zcj hd.1 hd.2 hz],hr.2⟩
 rw [decide_eq_false hd]
 refine W ?_
 refine WR ?_
 refine .mk ⟨?_,Stp.refl _ _⟩
 have:ZW d=false:=by unfold ZW;exact decide_eq_false hd
 unfold Z7x
 rw [this]
 rfl
structure Z56 (w:World) (c:Cal) (hv cv zo zs hr:Value):Prop where
 hols:SlV [] w hv c.hols
 clos:SlV [] w cv c.clos
 len:Z0M w
 mov:Z3I w
 ok:ZcZ c
abbrev Z4h (c:Cal) (hv cv zo zs hr:Value):Value:=.agg (Z0i c hv cv zo zs hr).toArray
theorem Z56.up {w w':World} {c:Cal} {hv cv zo zs hr:Value} (h:Z56 w c hv cv zo zs hr) (hS:Stp [] w w'):Z56 w' c hv cv zo zs hr:=⟨h.hols.up hS,h.clos.up hS,h.len.up hS,h.mov.up hS,h.ok⟩
theorem Ziw (c:Cal) (hv cv zo zs hr:Value) {i:Nat} (hi:i<7):(Z0i c hv cv zo zs hr)[0+i * 1]?=some (.bool (c.week.getD i false)):=by
 have:i=0∨i=1∨i=2∨i=3∨i=4∨i=5∨i=6:=by omega
 rcases this with rfl|rfl|rfl|rfl|rfl|rfl|rfl<;>rfl
theorem Z4i (d:Int) (w:World):CC 159 #[.int .i64 d] w fun r w'=>r=.bool (ZW d)∧w'=w:=by
 refine cW1 9 Tryz.func159 ?_
 unfold ZW
 by_cases h1:d≥0
 by_cases h2:d≤3652058
 rw [decide_eq_true ⟨h1,h2⟩]
 focus repeat'(first|refine W1 ?_|omega|refine VG ?_ ?_<;>intro hg|refine VC ?_ ?_<;>intro hc)
 refine WR ?_
 exact .mk ⟨by simp [h2],rfl⟩
 rw [decide_eq_false (fun h=>h2 h.2)]
 focus repeat'(first|refine W1 ?_|omega|refine VG ?_ ?_<;>intro hg|refine VC ?_ ?_<;>intro hc)
 refine WR ?_
 exact .mk ⟨by simp [h2],rfl⟩
 rw [decide_eq_false (fun h=>h1 h.1)]
 focus repeat'(first|refine W1 ?_|omega|refine VG ?_ ?_<;>intro hg|refine VC ?_ ?_<;>intro hc)
 refine WR ?_
 exact .mk ⟨rfl,rfl⟩
theorem Zem (d kn:Int) (bc bk:Nat) (c:Cal) (hv cv zo zs hr:Value) (w:World) (h:Z56 w c hv cv zo zs hr) (kc:Blk w bc 37 (Z0i c hv cv zo zs hr)) (kk:Blk w bk 3 [.int .i64 kn]) (h0:0≤d) (h1:d≤3652058) :
 CC 237 #[.int .i64 d,.pointer (some ⟨bc,0,none⟩),.pointer (some ⟨bk,0,none⟩)] w fun r w'=>r=.bool (ZcY c kn d)∧Stp [] w w':=by
 have hi7:(d % 7).toNat<7:=by omega
 have hwk:=Ziw c hv cv zo zs hr hi7
 have hcm:=h.clos.max
 have hcl0:=h.clos
 refine cW3 40 Tryz.func237 ?_
 refine W ?_
 refine CL rfl (Zp rfl) rfl (Z4g d _ h0 (by omega)) ?_
 rintro _ w ⟨rfl,rfl⟩
 refine W ?_
 refine Z1i (len:=7) (i:=(d % 7).toNat) rfl rfl (by omega) hi7 rfl ?_
 refine Z6l rfl rfl kc hwk rfl ?_
 unfold ZcY
 cases hw:c.week.getD (d % 7).toNat false with
 | true=>
   refine W ?_
   refine WR ?_
   exact .mk ⟨by simp,Stp.refl _ _⟩
 | false=>
   rw [Ya3]
   refine W ?_
   refine Z1K (σ:=Unit) (fun _=>[(0,.int .i64 d),(1,.pointer (some ⟨bc,0,none⟩))]) (fun _ w'=>ZaF c.clos kn d=false∧Stp [] w w') ?_ ?_
   refine ZD (σ:=Nat) (fun k=>[(0,.int .i64 d),(1,.pointer (some ⟨bc,0,none⟩)),(2,.pointer (some ⟨bk,0,none⟩)),(13,cv),(14,.int .i64 (c.clos.length:Int)),(15,.int .i64 (k:Int))])
    (fun k w'=>k≤c.clos.length∧ZaF (c.clos.take k) kn d=false∧Stp [] w w') (fun k=>c.clos.length - k) 0 ⟨rfl,rfl,rfl,rfl,rfl,rfl,trivial⟩ ⟨Xy _,rfl,Stp.refl _ _⟩ ?_
   rintro k w1 ⟨hk,hn,hS⟩
   have kk:=kk.up hS
   have hcl:=h.clos.up hS
   by_cases hlt:k<c.clos.length
   have ht:ZaF (c.clos.take (k+1)) kn d=(ZaF (c.clos.take k) kn d || decide (c.clos[k].known≤kn∧c.clos[k].lo≤d∧d≤c.clos[k].hi)):=by
    unfold ZaF
    rw [Xu hlt,List.any_append]
    simp
   rw [hn,Ya3] at ht
   focus repeat'(first|refine W1 ?_|omega|refine VG ?_ ?_<;>intro hg|refine VC ?_ ?_<;>intro hc)
   refine Z3 Z6 rfl ?_
   rintro _ w2 ⟨b6,rfl,hb6,e6,hS2⟩
   refine W ?_
   refine Z0 (Z1 (us:=Zi.enc c.clos[k]) rfl rfl rfl rfl (Zi.one _) e6 rfl) ?_
   rintro _ w3 ⟨hT,k6⟩
   replace hS2:=hS2.own hT (fun c hc=>.inr (by simp at hc;omega))
   clear e6 hT
   replace kk:=kk.up hS2
   replace hcl:=hcl.up hS2
   replace hS:=hS.trans hS2
   by_cases hx:c.clos[k].known≤kn∧c.clos[k].lo≤d∧d≤c.clos[k].hi
   focus repeat'(first|refine W1 ?_|omega|refine VG ?_ ?_<;>intro hg|refine VC ?_ ?_<;>intro hc)
   refine WR ?_
   refine .mk ⟨?_,hS⟩
   have:ZaF c.clos kn d=true:=by
    unfold ZaF
    exact Yaf.2 ⟨c.clos[k],Xg hlt,decide_eq_true hx⟩
   rw [this]
   rfl
   · rw [decide_eq_false hx] at ht
     repeat'(first|refine W1 ?_|omega|refine VG ?_ ?_<;>intro hg|refine VC ?_ ?_<;>intro hc)
     all_goals exact Zr (k+1) ⟨rfl,rfl,rfl,rfl,rfl,rfl,trivial⟩ ⟨hlt,ht,hS⟩ (by omega)
   obtain rfl:k=c.clos.length:=by omega
   rw [XL] at hn
   focus repeat'(first|refine W1 ?_|omega|refine VG ?_ ?_<;>intro hg|refine VC ?_ ?_<;>intro hc)
   exact ZI () ⟨rfl,rfl,trivial⟩ ⟨hn,hS⟩
   rintro _ w1 ⟨hn,hS⟩
   have kc:=kc.up hS
   have h:=h.up hS
   rw [hn,Ya3]
   refine W ?_
   refine CL rfl (Z9 rfl rfl) rfl (ZmW hv c.hols d _ h.hols h.len h.mov h.ok.hols (by have:=h.ok.few;omega)) ?_
   rintro _ w2 ⟨rfl,hS2⟩
   refine W ?_
   refine WR ?_
   exact .mk ⟨rfl,hS.trans hS2⟩
def Zps (w:World) (f:Value) (c:Cal) (hv cv zo zs hr:Value) (kn:Int):Prop:=∃ b2 b3,f=.func (.func 237) #[] #[.pointer (some ⟨b2,0,none⟩),.pointer (some ⟨b3,0,none⟩)]∧Blk w b2 37 (Z0i c hv cv zo zs hr)∧Blk w b3 3 [.int .i64 kn]
theorem ZgC (kn:Int) (c:Cal) (hv cv zo zs hr:Value) (w:World):CC 160 #[Z4h c hv cv zo zs hr,.int .i64 kn] w fun r w'=>Zps w' r c hv cv zo zs hr kn∧Stp [] w w':=by
 refine cW2 6 Tryz.func160 ?_
 refine W ?_
 refine Z3 (Zs rfl) rfl ?_
 rintro _ w1 ⟨b2,rfl,hb2,hblk,hS⟩
 replace hblk:Blk w1 b2 37 (Z0i c hv cv zo zs hr):=hblk
 refine Z3 (Zs rfl) rfl ?_
 rintro _ w2 ⟨b3,rfl,hb3,hblk3,hS2⟩
 replace hblk3:Blk w2 b3 3 [.int .i64 kn]:=hblk3
 replace hblk:=hblk.up hS2
 refine W ?_
 refine WR ?_
 exact .mk ⟨⟨b2,b3,rfl,hblk,hblk3⟩,hS.trans hS2⟩
end Go.Proofs.YtjdjdoefppebkaaGreatDoor
