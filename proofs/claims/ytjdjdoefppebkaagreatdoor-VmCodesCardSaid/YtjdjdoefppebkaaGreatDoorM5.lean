/-
Merged by program out of own texts: Hol2, HolS, Hol3, Hol4, Pri1, Eng29, Hol5, Cal1, Cal2, Cal3, Vmw4, Wlk1, Vmr1, Vmr2, Mad1, Mad2, Mad3, Gn1, Eng28, Gq1.
-/
import Derived.Test.YtjdjdoefppebkaaGreatDoorM4
import Derived.RangeFuncBox
import Derived.RangeFuncLeaves
import Derived.RangeFuncNested
import Derived.RangeFuncBound
import Derived.RangeFuncCalls
import Derived.Shelf.Abstract
import Derived.Shelf.RegionOpen
import Derived.BigRegionIn
import Derived.WalkKit
import Derived.OwnWalkIn
import Derived.TacticsInMore
import Derived.LoopNIn
import Derived.LoopIn
set_option linter.unusedVariables false
set_option linter.unusedSimpArgs false
namespace Go.Proofs.YtjdjdoefppebkaaGreatDoor
open Go Go.Eng Go.RowKit
theorem Z1z {y m:Int} (hy:1≤y) (hy2:y≤9999) (hm:1≤m) (hm2:m≤12):¬ Z0i y m 1∧0≤Jn y m 1∧Jn y m 1≤3652058∧28≤Zs y m∧Zs y m≤31:=by
 have hl:=Z0h (y:=y) (k:=(m - 1).toNat) (by omega)
 rw [show (((m - 1).toNat:Int))+1=m by omega] at hl
 have h31:=Z0H y m
 have:=dayM_range hy hy2 hm hm2 (d:=1) (by omega) (by omega)
 exact ⟨by unfold Z0i;omega,this.1,this.2,hl,h31⟩
theorem Z6p (h:Hol) (y:Int) (w:World) (hL:Z0q w) (hy:1≤y) (hy2:y≤9999) (hm:1≤h.month) (hm2:h.month≤12) (hw:0≤h.wd) (hw2:h.wd≤6) :
 CC 342 #[agg h,.int .i64 y] w fun r w'=>r=.tuple #[.int .i64 (Jn y h.month 1),.int .i64 (Z1w y h.month h.wd)]∧Stp [] w w':=by
 obtain ⟨f1,f2,f3,f4,f5⟩:=Z1z hy hy2 hm hm2
 refine cW2 26 Tryz.func342 ?_
 refine W ?_
 refine Z1 (Zo rfl) rfl ?_
 rintro _ w1 ⟨b,rfl,hb,hblk,hS⟩
 replace hblk:Blk w1 b 187 (Z9.enc h):=hblk
 replace hL:=hL.up hS
 refine W ?_
 refine Z6 (vs:=[(0,.int .i64 y),(1,.int .i64 h.month),(2,.int .i64 1)]) rfl (Z1T _ _ _) rfl ?_
 refine CL rfl (Zm rfl) rfl (Z69 y _ _ _ hL) ?_
 rintro _ w2 ⟨rfl,hT⟩
 rw [if_neg f1,if_neg f1]
 replace hblk:=hblk.up hT
 replace hS:=hS.trans hT
 clear hT
 refine W ?_
 refine ZDr 12 [] [] [(0,0),(1,0),(2,0),(3,1),(4,0),(5,2),(6,0),(7,0),(8,0),(9,0),(10,0),(11,0)] (fun w1 hS1=>?_)
 replace hblk:=hblk.up hS1
 replace hS:=hS.trans hS1
 clear hS1
 refine D ?_
 refine Za rfl trivial (Z4 rfl (Zm rfl) (Z3b _ _ f2 (by omega))) (fun _ _ h=>by rw [h.2];exact Stp.refl _ _) rfl ?_
 rintro _ w3 ⟨rfl,rfl⟩
 refine D ?_
 refine W ?_
 refine WR ?_
 refine .mk ⟨?_,hS⟩
 unfold Z1w
 rfl
def Z0A (h:Hol) (y:Int):Int×Bool:=
 if h.kind=1 then (if Z0i y h.month h.day then 0 else Jn y h.month h.day,!decide (Z0i y h.month h.day))
 else if h.kind=2 then (Z1w y h.month h.wd+7 * (h.nth - 1),decide (Z1w y h.month h.wd+7 * (h.nth - 1)<Jn y h.month 1+Zs y h.month))
 else if h.kind=3 then (Z1w y h.month h.wd+(Jn y h.month 1+Zs y h.month - 1 - Z1w y h.month h.wd) / 7 * 7,true)
 else ((if y<1583∨9999<y then 0 else Z1H y)+h.off,!decide (y<1583∨9999<y))
theorem ZaF {h:Hol} {y:Int} (h1:h.first≤y) (h2:y≤h.last):Zav h y=if (Z0A h y).2=true then some (Z0A h y).1 else none:=by
 unfold Zav Z0A
 rw [if_neg (by omega)]
 by_cases k1:h.kind=1
 rw [if_pos k1,if_pos k1]
 by_cases hb:Z0i y h.month h.day
 simp [hb]
 simp [hb]
 rw [if_neg k1,if_neg k1]
 by_cases k2:h.kind=2
 rw [if_pos k2,if_pos k2]
 simp
 rw [if_neg k2,if_neg k2]
 by_cases k3:h.kind=3
 rw [if_pos k3,if_pos k3]
 rfl
 rw [if_neg k3,if_neg k3]
 by_cases hy:y<1583∨9999<y
 simp [hy]
 simp [hy]
abbrev Z9B (h:Hol) (y:Int):Value:=.tuple #[.int .i64 (Z0A h y).1,.bool (Z0A h y).2]
theorem Z3c {y:Int} (h1:1583≤y) (h2:y≤9999):1000≤Z1H y∧Z1H y≤3652058:=by
 have hb:=Z5q h1 h2
 have e3:Zs y 3=31:=rfl
 have e4:Zs y 4=30:=rfl
 have hs:=Z0g h1
 have hs1:500000≤ZT 1583:=by decide
 have hm3:=Z6o y (Z2c y % 31+1)
 have hd3:Jn y 3 1=ZT y+Jv y 2:=by
  have:=Z1k y 1 2 (by omega)
  rw [show ((2:Nat):Int)+1=3 by rfl] at this
  omega
 have hc:0≤Jv y 2:=by
  have:=JK (y:=y) (Xo 2) (by omega)
  simpa [Jv] using this
 unfold Z1H
 have hm:Z2c y / 31=3∨Z2c y / 31=4:=by omega
 rcases hm with hm|hm
 rw [hm];exact ⟨by omega,(dayM_range (by omega) h2 (by omega) (by omega) (by omega) (by omega)).2⟩
 rw [hm];exact ⟨by omega,(dayM_range (by omega) h2 (by omega) (by omega) (by omega) (by omega)).2⟩
theorem Z1K {y m wd:Int} (hy:1≤y) (hy2:y≤9999) (hm:1≤m) (hm2:m≤12):Jn y m 1≤Z1w y m wd∧Z1w y m wd≤Jn y m 1+6:=by
 unfold Z1w
 omega
theorem Z6q {h:Hol} {y:Int} (ho:Z0X h) (h1:h.first≤y) (h2:y≤h.last) (hp:(Z0A h y).2=true):0≤(Z0A h y).1∧(Z0A h y).1≤3653000:=by
 have hy:=ho.f1
 have hy2:=ho.l1
 have hk1:=ho.k1
 have hk2:=ho.k2
 unfold Z0A at hp ⊢
 by_cases k1:h.kind=1
 rw [if_pos k1] at hp ⊢
 obtain ⟨m1,m2⟩:=ho.month (by omega)
 by_cases hb:Z0i y h.month h.day
 simp [hb] at hp
 dsimp only
 rw [if_neg hb]
 unfold Z0i at hb
 have:=dayM_range (y:=y) (m:=h.month) (d:=h.day) (by omega) (by omega) (by omega) (by omega) (by omega) (by omega)
 omega
 rw [if_neg k1] at hp ⊢
 by_cases k2:h.kind=2
 rw [if_pos k2] at hp ⊢
 obtain ⟨m1,m2⟩:=ho.month (by omega)
 obtain ⟨n1,n2⟩:=ho.nth k2
 obtain ⟨f1,f2,f3,f4,f5⟩:=Z1z (y:=y) (by omega) (by omega) m1 m2
 obtain ⟨f6,f7⟩:=Z1K (y:=y) (wd:=h.wd) (by omega) (by omega) m1 m2
 dsimp only
 omega
 rw [if_neg k2] at hp ⊢
 by_cases k3:h.kind=3
 rw [if_pos k3] at hp ⊢
 obtain ⟨m1,m2⟩:=ho.month (by omega)
 obtain ⟨f1,f2,f3,f4,f5⟩:=Z1z (y:=y) (by omega) (by omega) m1 m2
 obtain ⟨f6,f7⟩:=Z1K (y:=y) (wd:=h.wd) (by omega) (by omega) m1 m2
 dsimp only
 omega
 rw [if_neg k3] at hp ⊢
 obtain ⟨o1,o2⟩:=ho.off (by omega)
 by_cases hy:y<1583∨9999<y
 simp [hy] at hp
 dsimp only
 rw [if_neg hy]
 have:=Z3c (y:=y) (by omega) (by omega)
 omega
theorem ZcD (h:Hol) (y:Int) (w:World) (hL:Z0q w) (hk:h.kind=1) :
 CC 339 #[agg h,.int .i64 y] w fun r w'=>r=Z9B h y∧Stp [] w w':=by
 have e:Z0A h y=(if Z0i y h.month h.day then 0 else Jn y h.month h.day,!decide (Z0i y h.month h.day)):=by unfold Z0A;rw [if_pos hk]
 unfold Z9B
 rw [e]
 refine cW2 21 Tryz.func339 ?_
 refine W ?_
 refine Z1 (Zo rfl) rfl ?_
 rintro _ w1 ⟨b,rfl,hb,hblk,hS⟩
 replace hblk:Blk w1 b 187 (Z9.enc h):=hblk
 replace hL:=hL.up hS
 refine W ?_
 refine Z6 (vs:=[(0,.int .i64 y),(1,.int .i64 h.month),(2,.int .i64 h.day)]) rfl (Z1T _ _ _) rfl ?_
 refine CL rfl (Zm rfl) rfl (Z69 y _ _ _ hL) ?_
 rintro _ w2 ⟨rfl,hT⟩
 refine W ?_
 refine WR ?_
 refine .mk ⟨?_,hS.trans hT⟩
 by_cases hb:Z0i y h.month h.day<;>simp [hb]
theorem ZcE (h:Hol) (y:Int) (w:World) (hL:Z0q w) (hy:1≤y) (hy2:y≤9999) (hk:h.kind=2) (ho:Z0X h) :
 CC 341 #[agg h,.int .i64 y] w fun r w'=>r=Z9B h y∧Stp [] w w':=by
 have e:Z0A h y=(Z1w y h.month h.wd+7 * (h.nth - 1),decide (Z1w y h.month h.wd+7 * (h.nth - 1)<Jn y h.month 1+Zs y h.month)):=by unfold Z0A;rw [if_neg (by omega),if_pos hk]
 obtain ⟨m1,m2⟩:=ho.month (by omega)
 obtain ⟨d1,d2⟩:=ho.wd (.inl hk)
 obtain ⟨n1,n2⟩:=ho.nth hk
 obtain ⟨f1,f2,f3,f4,f5⟩:=Z1z hy hy2 m1 m2
 obtain ⟨f6,f7⟩:=Z1K (wd:=h.wd) hy hy2 m1 m2
 unfold Z9B
 rw [e]
 refine cW2 29 Tryz.func341 ?_
 refine W ?_
 refine Z1 (Zo rfl) rfl ?_
 rintro _ w1 ⟨b,rfl,hb,hblk,hS⟩
 replace hblk:Blk w1 b 187 (Z9.enc h):=hblk
 replace hL:=hL.up hS
 refine W ?_
 refine CL rfl (Zb rfl rfl) rfl (Z6p h y _ hL hy hy2 m1 m2 d1 d2) ?_
 rintro _ w2 ⟨rfl,hT⟩
 replace hblk:=hblk.up hT
 replace hL:=hL.up hT
 replace hS:=hS.trans hT
 refine W ?_
 refine CL rfl (Zb rfl rfl) rfl (Z2y y _ _ hL (by omega) (by omega)) ?_
 rintro _ _ ⟨rfl,rfl⟩
 refine W ?_
 refine WR ?_
 exact .mk ⟨rfl,hS⟩
theorem ZcF (h:Hol) (y:Int) (w:World) (hL:Z0q w) (hy:1≤y) (hy2:y≤9999) (hk:h.kind=3) (ho:Z0X h) :
 CC 344 #[agg h,.int .i64 y] w fun r w'=>r=Z9B h y∧Stp [] w w':=by
 have e:Z0A h y=(Z1w y h.month h.wd+(Jn y h.month 1+Zs y h.month - 1 - Z1w y h.month h.wd) / 7 * 7,true):=by unfold Z0A;rw [if_neg (by omega),if_neg (by omega),if_pos hk]
 obtain ⟨m1,m2⟩:=ho.month (by omega)
 obtain ⟨d1,d2⟩:=ho.wd (.inr hk)
 obtain ⟨f1,f2,f3,f4,f5⟩:=Z1z hy hy2 m1 m2
 obtain ⟨f6,f7⟩:=Z1K (wd:=h.wd) hy hy2 m1 m2
 unfold Z9B
 rw [e]
 refine cW2 29 Tryz.func344 ?_
 refine W ?_
 refine Z1 (Zo rfl) rfl ?_
 rintro _ w1 ⟨b,rfl,hb,hblk,hS⟩
 replace hblk:Blk w1 b 187 (Z9.enc h):=hblk
 replace hL:=hL.up hS
 refine W ?_
 refine CL rfl (Zb rfl rfl) rfl (Z6p h y _ hL hy hy2 m1 m2 d1 d2) ?_
 rintro _ w2 ⟨rfl,hT⟩
 replace hblk:=hblk.up hT
 replace hL:=hL.up hT
 replace hS:=hS.trans hT
 refine W ?_
 refine CL rfl (Zb rfl rfl) rfl (Z2y y _ _ hL (by omega) (by omega)) ?_
 rintro _ _ ⟨rfl,rfl⟩
 refine W ?_
 refine WR ?_
 exact .mk ⟨rfl,hS⟩
theorem ZcG (h:Hol) (y:Int) (w:World) (hk:h.kind=4) (ho:Z0X h) :
 CC 346 #[agg h,.int .i64 y] w fun r w'=>r=Z9B h y∧Stp [] w w':=by
 have e:Z0A h y=((if y<1583∨9999<y then 0 else Z1H y)+h.off,!decide (y<1583∨9999<y)):=by unfold Z0A;rw [if_neg (by omega),if_neg (by omega),if_neg (by omega)]
 obtain ⟨o1,o2⟩:=ho.off hk
 have hr:0≤(if y<1583∨9999<y then 0 else Z1H y)∧(if y<1583∨9999<y then 0 else Z1H y)≤3652058:=by
  split
  omega
  have:=Z3c (y:=y) (by omega) (by omega)
  omega
 unfold Z9B
 rw [e]
 refine cW2 19 Tryz.func346 ?_
 refine W ?_
 refine Z1 (Zo rfl) rfl ?_
 rintro _ w1 ⟨b,rfl,hb,hblk,hS⟩
 replace hblk:Blk w1 b 187 (Z9.enc h):=hblk
 refine W ?_
 refine CL rfl (Zm rfl) rfl (ZaE y _) ?_
 rintro _ w2 ⟨rfl,hT⟩
 replace hblk:=hblk.up hT
 replace hS:=hS.trans hT
 refine W ?_
 refine WR ?_
 refine .mk ⟨?_,hS⟩
 by_cases hy:y<1583∨9999<y<;>simp [hy]
theorem ZaG (g:Nat) (fn:Func) [Fun Tryz.prog g fn] (lb:Array Value) (c:Spn→Spn→Int) (ho:Ord c) (X:List Nat) (base:Nat) (v:Value) (xs:List Spn) (w:World) (hX:∀ b∈X,b<base) (hbase:base≤w.heap.size) (hrow:Row X w base 329 v xs) (hp:ZgH Tryz.prog (ob v) g lb c w) (hlen:xs.length≤1000) :
 CC 354 #[v,.int .i64 0,.int .i64 xs.length,.func (.func g) #[] lb] w fun r w'=>∃ ys,Z7k c xs ys∧Row X w' base 329 v ys∧Stp (ob v) w w':=by
 refine cW4 53 Tryz.func354 ?_
 refine W ?_
 refine Zr (σ:=Nat) (fun i=>[(0,v),(1,.int .i64 0),(2,.int .i64 xs.length),(3,.func (.func g) #[] lb),(8,.int .i64 (i+1))])
  (fun i w'=>Stp (ob v) w w'∧∃ ys,ys.Perm xs∧Row X w' base 329 v ys∧(ys.take (i+1)).Pairwise (fun a b=>¬ c b a<0)) (fun i=>xs.length - i) 0 ⟨rfl,rfl,rfl,rfl,rfl,trivial⟩
  ⟨Stp.refl _ _,xs,List.Perm.refl _,hrow,?_⟩ ?_
 · cases xs with
   | nil=>simp
   | cons x r=>simp
 rintro i w1 ⟨hS,ys,hperm,hrow,hsort⟩
 have hyl:=hperm.length_eq
 by_cases hit:i+1<xs.length
 · repeat'(first|refine W1 ?_|refine VG ?_ ?_<;>intro hg|refine VC ?_ ?_<;>intro hc)
   rotate_left
   omega
   obtain ⟨pre,x,rest,hpl,rfl⟩:∃ pre x rest,pre.length=i+1∧ys=put pre rest x pre.length:=by
    refine ⟨ys.take (i+1),ys[i+1],ys.drop (i+2),by simp;omega,?_⟩
    unfold put
    have hl:(ys.take (i+1)).length=i+1:=by simp;omega
    rw [hl,Yah,Nat.min_self,Yaf (by omega)]
    conv=>lhs;rw [← XT (i+1) ys,XG (by omega)]
    simp
   have hpre:pre.Pairwise (fun a b=>¬ c b a<0):=by
    have:(put pre rest x pre.length).take (i+1)=pre:=by
     unfold put
     rw [XC,List.drop_length,XK,← hpl,Ybc]
     rfl
    rwa [this] at hsort
   have hpl2:pre.length+1+rest.length=xs.length:=by rw [← hyl,Z8h]
   have fin:∀ j (w':World),j≤pre.length→Stp (ob v) w w'→Row X w' base 329 v (put pre rest x j)→(∀ q (h:q<pre.length),j≤q→c x pre[q]<0)→(∀ h:j - 1<pre.length,0<j→¬ c x pre[j - 1]<0)→
    Stp (ob v) w w'∧∃ ys,ys.Perm xs∧Row X w' base 329 v ys∧(ys.take (i+1+1)).Pairwise (fun a b=>¬ c b a<0):=by
    intro j w' hj hS hrow h1 h2
    refine ⟨hS,put pre rest x j,?_,hrow,?_⟩
    refine List.Perm.trans ?_ hperm
    unfold put
    rw [XC,List.drop_length]
    refine List.Perm.append_right _ ?_
    refine List.Perm.trans List.perm_middle ?_
    rw [XT]
    exact (List.perm_append_singleton x pre).symm
    have e:(put pre rest x j).take (i+1+1)=pre.take j++x :: pre.drop j:=by
     have hl:(pre.take j++x :: pre.drop j).length=i+1+1:=by
      have:=congrArg List.length (XT j pre)
      simp only [Xg] at this
      simp only [Xg,Xc];omega
     unfold put
     rw [← hl,Ybc]
     rfl
    rw [e]
    exact ZaD ho hj hpre h1 h2
   refine Zr (σ:=Nat) (fun j=>[(0,v),(1,.int .i64 0),(2,.int .i64 xs.length),(3,.func (.func g) #[] lb),(8,.int .i64 (i+1)),(9,.int .i64 (j:Int))])
    (fun j w'=>j≤pre.length∧Stp (ob v) w w'∧Row X w' base 329 v (put pre rest x j)∧(∀ q (h:q<pre.length),j≤q→c x pre[q]<0)) (fun j=>j) (i+1) ⟨rfl,rfl,rfl,rfl,rfl,rfl,trivial⟩
    ⟨by omega,hS,by rw [hpl] at hrow;exact hrow,fun q h hq=>by omega⟩ ?_
   clear hrow hS
   rintro j w2 ⟨hj,hS,hrow,hlt⟩
   have hs:=hrow.slv hX
   cases j with
   | zero=>
     refine W ?_
     refine ZDr 17 [] [] [(0,0),(1,0),(2,0),(3,0),(4,0),(5,0),(6,0),(7,0),(8,1),(9,0),(10,0),(11,0),(12,0),(13,1),(14,2),(15,0),(16,0)] (fun w1 hS1=>?_)
     replace hS:=hS.trans (hS1.mono (by simp))
     replace hrow:=hrow.up hS1;replace hs:=hs.up hS1
     refine D ?_
     refine W ?_
     exact Zg (i+1) ⟨rfl,rfl,rfl,rfl,rfl,trivial⟩ (fin 0 _ (Xo _) hS hrow hlt (fun _ h=>absurd h (Nat.lt_irrefl _))) (by omega)
   | succ j=>
     have hz:((j+1:Nat):Int) - 1=(j:Int):=by omega
     have hi1:j+1<(put pre rest x (j+1)).length:=by rw [Z8h];omega
     have hi0:j<(put pre rest x (j+1)).length:=by rw [Z8h];omega
     have a1:=Zlc (rest:=rest) (x:=x) hj hi1
     have a0:=ZaC (rest:=rest) (x:=x) (Nat.lt_of_succ_le hj) hi0
     refine W ?_
     refine ZDr 17 [] [] [(0,0),(1,0),(2,0),(3,0),(4,0),(5,0),(6,0),(7,0),(8,1),(9,0),(10,0),(11,0),(12,0),(13,1),(14,2),(15,0),(16,0)] (fun w1 hS1=>?_)
     replace hS:=hS.trans (hS1.mono (by simp))
     replace hrow:=hrow.up hS1;replace hs:=hs.up hS1
     repeat'(first|refine D1 ?_|omega|refine J6 rfl rfl rfl rfl (fun hg=>?_) (fun hg=>?_)|(refine ZX rfl rfl rfl rfl (fun hg=>?_) (fun hg=>?_)<;>refine D1 ?_)|fail)
     refine Za rfl (by first|exact trivial|exact rfl) (Z2N (f:=g) rfl (Zb rfl rfl) rfl (hp _ _ _ hS)) (fun _ _ h=>h.2) rfl ?_
     rintro _ w3 ⟨rfl,hS3⟩
     rw [a1,a0]
     replace hS:=hS.trans (hS3.mono (by simp))
     replace hrow:=hrow.up hS3;replace hs:=hs.up hS3
     refine D ?_
     repeat'(first|refine W1 ?_|refine VG ?_ ?_<;>intro hg|refine VC ?_ ?_<;>intro hc)
     rename_i hc
     refine ZDr 18 [] [15,17] [(0,0),(1,0),(2,0),(3,0),(4,0),(5,0),(6,0),(7,0),(8,0),(9,1),(10,0),(11,0),(12,0),(13,1),(14,0),(15,2),(16,0),(17,2)] (fun w1 hS1=>?_)
     replace hS:=hS.trans (hS1.mono (by simp))
     replace hrow:=hrow.up hS1;replace hs:=hs.up hS1
     refine D ?_
     rw [a1,a0]
     refine Js rfl trivial (Z3I (i:=j+1) (y':=pre[j]) rfl rfl rfl rfl hrow hX hi1) rfl ?_
     rintro _ w4 ⟨hrow,hS4⟩
     replace hS:=hS.trans hS4
     refine D ?_
     refine Js rfl trivial (Z3I (i:=j) (y':=x) rfl rfl rfl rfl hrow hX (by rw [XW];exact hi0)) rfl ?_
     rintro _ w5 ⟨hrow,hS5⟩
     replace hS:=hS.trans hS5
     rw [ZeL (Nat.lt_of_succ_le hj)] at hrow
     refine D ?_
     refine W ?_
     refine Zg j ⟨rfl,rfl,rfl,rfl,rfl,(by rw [← hz];rfl),trivial⟩ ⟨by omega,hS,hrow,fun q h hq=>?_⟩ (by omega)
     by_cases e:q=j
     subst e;exact hc
     exact hlt q h (by omega)
     exact Zg (i+1) ⟨rfl,rfl,rfl,rfl,rfl,trivial⟩ (fin (j+1) _ hj hS hrow hlt (fun _ _=>by assumption)) (by omega)
 focus repeat'(first|refine W1 ?_|refine VG ?_ ?_<;>intro hg|refine VC ?_ ?_<;>intro hc)
 omega
 refine WR ?_
 refine .mk ⟨ys,⟨hperm,?_⟩,hrow,hS⟩
 rwa [Xu (by omega)] at hsort
theorem ZgI (g:Nat) (fn:Func) [Fun Tryz.prog g fn] (lb:Array Value) (c:Spn→Spn→Int) (ho:Ord c) (X:List Nat) (base:Nat) (v:Value) (xs:List Spn) (w:World) (hX:∀ b∈X,b<base) (hbase:base≤w.heap.size) (hrow:Row X w base 329 v xs) (hp:ZgH Tryz.prog (ob v) g lb c w) (hlen:xs.length<20) :
 CC 348 #[v,.int .i64 xs.length,.func (.func g) #[] lb] w fun r w'=>∃ ys,Z7k c xs ys∧Row X w' base 329 v ys∧Stp (ob v) w w':=by
 have nl:¬ ((20:Int)≤xs.length):=by omega
 have nl2:¬ ((20:Int)<xs.length):=by omega
 refine cW3 63 Tryz.func348 ?_
 refine W ?_
 refine Zr (σ:=Unit) (fun _=>[(0,v),(1,.int .i64 xs.length),(2,.func (.func g) #[] lb),(6,.int .i64 20),(7,.int .i64 0),(8,.int .i64 20)]) (fun _ w'=>w'=w) (fun _=>0) () ⟨rfl,rfl,rfl,rfl,rfl,rfl,trivial⟩ rfl ?_
 rintro _ w' rfl
 repeat'(first|refine W1 ?_|refine VG ?_ ?_<;>intro hg|refine VC ?_ ?_<;>intro hc)
 exact absurd (by assumption) nl
 refine CL rfl (Z1e rfl rfl rfl rfl) rfl (ZaG g fn lb c ho X base v xs _ hX hbase hrow hp (by omega)) ?_
 rintro r w2 hres
 refine W ?_
 refine Zr (σ:=Unit) (fun _=>[(1,.int .i64 xs.length),(6,.int .i64 20)]) (fun _ w'=>w'=w2) (fun _=>0) () ⟨rfl,rfl,trivial⟩ rfl ?_
 rintro _ w' rfl
 repeat'(first|refine W1 ?_|refine VG ?_ ?_<;>intro hg|refine VC ?_ ?_<;>intro hc)
 exact absurd (by assumption) nl2
 refine WR ?_
 exact .mk hres
theorem Z9C (g:Nat) (fn:Func) [Fun Tryz.prog g fn] (lb:Array Value) (c:Spn→Spn→Int) (ho:Ord c) (X:List Nat) (base:Nat) (v:Value) (xs:List Spn) (w:World) (hX:∀ b∈X,b<base) (hbase:base≤w.heap.size) (hrow:Row X w base 329 v xs) (hp:ZgH Tryz.prog (ob v) g lb c w) (hlen:xs.length<20) :
 CC 330 #[v,.func (.func g) #[] lb] w fun r w'=>∃ ys,Z7k c xs ys∧Row X w' base 329 v ys∧Stp (ob v) w w':=by
 have hs:=hrow.slv hX
 refine cW2 9 Tryz.func330 ?_
 refine W ?_
 refine CL rfl (ZE rfl rfl rfl) rfl (ZgI g fn lb c ho X base v xs _ hX hbase hrow hp hlen) ?_
 rintro r w2 hres
 refine W ?_
 refine WR ?_
 exact .mk hres
def Z9D (x y:Spn):Int:=ZeK x.1 y.1
theorem ZqF:Ord Z9D where
 asym:=fun a b=>by unfold Z9D;rw [Z4r,Z4r];omega
 trans:=fun a b d=>by unfold Z9D;rw [Z4r,Z4r,Z4r];omega
theorem ZnV (S:List Nat) (w:World):ZgH Tryz.prog S 331 #[] Z9D w:=by
 intro x y w1 hS
 show Calls _ _ #[agg x,agg y] _ _
 refine cW2 10 Tryz.func331 ?_
 refine W ?_
 refine Z1 (Zo rfl) rfl ?_
 rintro _ w2 ⟨c,rfl,hc,hblk,hS2⟩
 replace hblk:Blk w2 c _ (Z9.enc x):=hblk
 refine Z1 (Zo rfl) rfl ?_
 rintro _ w3 ⟨c2,rfl,hc2,hblk2,hS3⟩
 replace hblk2:Blk w3 c2 _ (Z9.enc y):=hblk2
 replace hblk:=hblk.up hS3
 replace hS2:=hS2.trans hS3
 refine W ?_
 refine CL rfl (Zb rfl rfl) rfl (Z9A _ _ _) ?_
 rintro _ w4 ⟨rfl,hS4⟩
 refine W ?_
 refine WR ?_
 exact .mk ⟨rfl,hS2.trans hS4⟩
def ofH (y:Int) (h:Hol) (i:Int):List Spn:=match Z0n h y with|some d=>[(d,i)]|none=>[]
def ofK (y:Int):List Hol→Int→List Spn
 | [],_=>[]
 | h :: r,i=>ofH y h i++ofK y r (i+1)
theorem ZbB (y:Int):∀ (a b:List Hol) (i:Int),ofK y (a++b) i=ofK y a i++ofK y b (i+a.length)
 | [],b,i=>by simp [ofK]
 | h :: a, b, i => by
   simp only [XN,ofK,ZbB y a b (i+1),XK,Xc]
   congr 3
   omega
theorem ZbC (y d:Int):∀ (l:List Hol) (i:Int),(∃ r,(d,r)∈ofK y l i)↔∃ h∈l,Z0n h y=some d
 | [],i=>by simp [ofK]
 | h :: l, i => by
   simp only [ofK,Xs,Xe,exists_or,exists_eq_or_imp]
   have ih:=ZbC y d l (i+1)
   constructor
   rintro (⟨r,hr⟩|hr)
   · left
     unfold ofH at hr
     cases hk:Z0n h y with
     | none=>rw [hk] at hr;simp at hr
     | some d'=>rw [hk] at hr;simp at hr;rw [hr.1]
   right;exact ih.1 hr
   rintro (hk|hk)
   left;exact ⟨i,by unfold ofH;rw [hk];simp⟩
   right;exact ih.2 hk
theorem Z5F (y:Int):∀ (l:List Hol) (i:Int),(ofK y l i).length≤l.length
 | [],i=>by simp [ofK]
 | h :: l, i => by
   have:=Z5F y l (i+1)
   simp only [ofK,Xg,Xc]
   unfold ofH
   cases Z0n h y<;>simp<;>omega
abbrev fnV (f:Nat):Value:=.func (.func f) #[] #[]
abbrev Z6r:List Value:=[fnV 338,fnV 339,fnV 340,fnV 341,fnV 343,fnV 344,fnV 345,fnV 346]
theorem Z8j (f g:Nat) (w:World):(Instr.build 342 #[(0,fnV f),(1,fnV g)]).run Tryz.prog w=.ok (.agg #[fnV f,fnV g]) w:=by kernel_rfl
theorem ZgJ (a b c d e f g h:Nat) (w:World):(Instr.build 343 #[(0,.agg #[fnV a,fnV b]),(1,.agg #[fnV c,fnV d]),(2,.agg #[fnV e,fnV f]),(3,.agg #[fnV g,fnV h])]).run Tryz.prog w=.ok (.agg #[fnV a,fnV b,fnV c,fnV d,fnV e,fnV f,fnV g,fnV h]) w:=by kernel_rfl
theorem ZcH (w:World):CC 329 #[] w fun r w'=>r=.agg Z6r.toArray∧Stp [] w w':=by
 refine cW0 6 Tryz.func329 ?_
 refine W ?_
 refine Z1 Z7 rfl ?_
 rintro _ w1 ⟨b,rfl,hb,hblk,hS⟩
 refine W ?_
 refine Z6 (vs:=[(0,fnV 338),(1,fnV 339)]) rfl (Z8j _ _) rfl ?_
 refine Z6 (vs:=[(0,fnV 340),(1,fnV 341)]) rfl (Z8j _ _) rfl ?_
 refine Z6 (vs:=[(0,fnV 343),(1,fnV 344)]) rfl (Z8j _ _) rfl ?_
 refine Z6 (vs:=[(0,fnV 345),(1,fnV 346)]) rfl (Z8j _ _) rfl ?_
 refine Z6 (vs:=[(0,.agg #[fnV 338,fnV 339]),(1,.agg #[fnV 340,fnV 341]),(2,.agg #[fnV 343,fnV 344]),(3,.agg #[fnV 345,fnV 346])]) rfl (ZgJ _ _ _ _ _ _ _ _) rfl ?_
 refine Z2 (Z3 (us:=Z6r) rfl rfl rfl rfl (by intro u hu;simp [Z6r] at hu;rcases hu with rfl|rfl|rfl|rfl|rfl|rfl|rfl|rfl<;>rfl) hblk rfl) ?_
 rintro _ w2 ⟨hT,hblk2⟩
 refine W ?_
 refine Zl rfl rfl rfl hblk2 rfl ?_
 exact .mk ⟨rfl,hS.own hT (fun c hc=>.inr (by simp at hc;omega))⟩
theorem ZgK {m d:Int} (h0:0≤m) (h2:m≤2) (hd:0≤d):Z53[0+m.toNat * 7+(d % 7).toNat * 1]?=some (Z0V m d - d):=by
 have hm:m=0∨m=1∨m=2:=by omega
 have hw:d % 7=0∨d % 7=1∨d % 7=2∨d % 7=3∨d % 7=4∨d % 7=5∨d % 7=6:=by omega
 unfold Z0V
 rcases hm with rfl|rfl|rfl<;>rcases hw with h|h|h|h|h|h|h<;>rw [h]<;>simp [Z53]<;>omega
theorem Z7n (m d:Int):d - 1≤Z0V m d∧Z0V m d≤d+2:=by
 unfold Z0V
 repeat' split
 all_goals omega
theorem ZgL (a b:Int) (w:World):(Instr.build 329 #[(0,.int .i64 a),(1,.int .i64 b)]).run Tryz.prog w=.ok (agg ((a,b):Spn)) w:=by kernel_rfl
theorem ZeM (d:Spn) (w:World):(Instr.buildSlice 326 1 #[(0,agg d)]).run Tryz.prog w=.ok (.slice (some ⟨w.heap.size,0,none⟩) 1 1) (w.alloc (.cells (Z9.enc d).toArray 329)):=by kernel_rfl
set_option maxHeartbeats 1000000 in
theorem ZgM (v:Value) (l:List Hol) (y:Int) (w:World) (hs:SlV [] w v l) (hL:Z0q w) (hM:Z2C w) (ho:∀ h∈l,Z0X h) (hl:l.length<20) :
 CC 312 #[v,.int .i64 y] w fun r w'=>∃ ys,Z7k Z9D (ofK y l 0) ys∧J8 329 w w' r ys:=by
 refine cW2 61 Tryz.func312 ?_
 refine W ?_
 refine CL rfl Z7u rfl (ZcH _) ?_
 rintro _ w1 ⟨rfl,hS⟩
 refine Z1 Z7 rfl ?_
 rintro _ w2 ⟨b6,rfl,hb6,e6,hS2⟩
 refine W ?_
 refine Z2 (Z3 (us:=Z6r) rfl rfl rfl rfl (by intro u hu;simp [Z6r] at hu;rcases hu with rfl|rfl|rfl|rfl|rfl|rfl|rfl|rfl<;>rfl) e6 rfl) ?_
 rintro _ w3 ⟨hT,k6⟩
 replace hS:=hS.trans (hS2.own hT (fun c hc=>.inr (by simp at hc;omega)))
 clear e6 hS2 hT
 replace hs:=hs.up hS
 replace hL:=hL.up hS
 replace hM:=hM.up hS
 refine W ?_
 refine Zr (σ:=Nat×Value) (fun q=>[(0,v),(1,.int .i64 y),(5,q.2),(6,.pointer (some ⟨b6,0,none⟩)),(12,v),(13,.int .i64 (l.length:Int)),(14,.int .i64 (q.1:Int))])
  (fun q w'=>q.1≤l.length∧J8 329 w3 w' q.2 (ofK y (l.take q.1) 0)) (fun q=>l.length - q.1) (0,.slice none 0 0) ⟨rfl,rfl,rfl,rfl,rfl,rfl,rfl,trivial⟩ ⟨Xo _,J8.nil⟩ ?_
 rintro ⟨k,ov⟩ w4 ⟨hk,hr⟩
 dsimp only at hk hr ⊢
 have hS4:=hr.2
 replace hs:=hs.up hS4
 replace hL:=hL.up hS4
 replace hM:=hM.up hS4
 replace k6:=k6.up hS4
 by_cases hlt:k<l.length
 have ht:l.take (k+1)=l.take k++[l[k]]:=Xq hlt
 have hko:ofK y (l.take (k+1)) 0=ofK y (l.take k) 0++ofH y l[k] (k:Int):=by
  rw [ht,ZbB]
  simp only [ofK,XI,Xw,X1 hk]
  simp
 have hok:=ho l[k] (Xf hlt)
 focus repeat'(first|refine W1 ?_|omega|refine VG ?_ ?_<;>intro hg|refine VC ?_ ?_<;>intro hc)
 refine Z1 Z7 rfl ?_
 rintro _ w5 ⟨b8,rfl,hb8,e8,hS5⟩
 refine W ?_
 refine Z2 (Z3 (us:=Z9.enc l[k]) rfl rfl rfl rfl (Z9.one _) e8 rfl) ?_
 rintro _ w6 ⟨hT,k8⟩
 replace hS5:=hS5.own hT (fun c hc=>.inr (by simp at hc;omega))
 clear e8 hT
 replace hr:=hr.up hS5
 replace hs:=hs.up hS5
 replace hL:=hL.up hS5
 replace hM:=hM.up hS5
 replace k6:=k6.up hS5
 clear hS5
 refine W ?_
 refine CL rfl (ZE rfl rfl rfl) rfl (Z1V y l[k].first l[k].last _) ?_
 rintro _ w6 ⟨rfl,rfl⟩
 have again:∀ (w':World),Z0n l[k] y=none→Stp [] w6 w'→J8 329 w3 w' ov (ofK y (l.take (k+1)) 0):=by
  intro w' hn hSw
  rw [hko]
  unfold ofH
  rw [hn,XI]
  exact hr.up hSw
 by_cases hin:l[k].first≤y∧y≤l[k].last
 rw [decide_eq_true hin]
 have hnm:=ZaF hin.1 hin.2
 have hy1:=hok.f1
 have hy2:=hok.l1
 refine W ?_
 refine Z2k (σ:=Unit) (fun _=>[(0,v),(1,.int .i64 y),(5,ov),(6,.pointer (some ⟨b6,0,none⟩)),(7,.int .i64 (k:Int)),(8,.pointer (some ⟨b8,0,none⟩)),(9,.int .i64 (Z0A l[k] y).1),(10,.bool (Z0A l[k] y).2),(12,v),(13,.int .i64 (l.length:Int)),(14,.int .i64 (k:Int))])
  (fun _ w'=>Stp [] w6 w') ?_ ?_
 have hkk:l[k].kind=1∨l[k].kind=2∨l[k].kind=3∨l[k].kind=4:=by have:=hok.k1;have:=hok.k2;omega
 rcases hkk with hkk|hkk|hkk|hkk
 refine ZDr 14 [] [] [(0,0),(1,1),(2,0),(3,0),(4,0),(5,1),(6,1),(7,0),(8,2),(9,0),(10,0),(11,0),(12,0),(13,0)] (fun w1 hS1=>?_)
 replace k6:=k6.up hS1
 replace k8:=k8.up hS1
 replace hL:=hL.up hS1
 have hz:l[k].kind - 1=((0:Nat):Int):=by omega
 refine D ?_
 refine Z0J rfl (Z18 (len:=4) (i:=0) trivial rfl rfl hz (by decide) rfl ?_)
 refine D ?_
 refine Za rfl trivial (Z4 rfl (Zb rfl rfl) (ZcD _ _ _ hL hkk)) (fun _ _ h=>h.2) rfl ?_
 rintro _ w7 ⟨rfl,hS7⟩
 refine D ?_
 exact ZO () ⟨rfl,rfl,rfl,rfl,rfl,rfl,rfl,rfl,rfl,rfl,rfl,trivial⟩ (hS1.trans hS7)
 refine ZDr 14 [] [] [(0,0),(1,1),(2,0),(3,0),(4,0),(5,1),(6,1),(7,0),(8,2),(9,0),(10,0),(11,0),(12,0),(13,0)] (fun w1 hS1=>?_)
 replace k6:=k6.up hS1
 replace k8:=k8.up hS1
 replace hL:=hL.up hS1
 have hz:l[k].kind - 1=((1:Nat):Int):=by omega
 refine D ?_
 refine Z0J rfl (Z18 (len:=4) (i:=1) trivial rfl rfl hz (by decide) rfl ?_)
 refine D ?_
 refine Za rfl trivial (Z4 rfl (Zb rfl rfl) (ZcE _ _ _ hL (by omega) (by omega) hkk hok)) (fun _ _ h=>h.2) rfl ?_
 rintro _ w7 ⟨rfl,hS7⟩
 refine D ?_
 exact ZO () ⟨rfl,rfl,rfl,rfl,rfl,rfl,rfl,rfl,rfl,rfl,rfl,trivial⟩ (hS1.trans hS7)
 refine ZDr 14 [] [] [(0,0),(1,1),(2,0),(3,0),(4,0),(5,1),(6,1),(7,0),(8,2),(9,0),(10,0),(11,0),(12,0),(13,0)] (fun w1 hS1=>?_)
 replace k6:=k6.up hS1
 replace k8:=k8.up hS1
 replace hL:=hL.up hS1
 have hz:l[k].kind - 1=((2:Nat):Int):=by omega
 refine D ?_
 refine Z0J rfl (Z18 (len:=4) (i:=2) trivial rfl rfl hz (by decide) rfl ?_)
 refine D ?_
 refine Za rfl trivial (Z4 rfl (Zb rfl rfl) (ZcF _ _ _ hL (by omega) (by omega) hkk hok)) (fun _ _ h=>h.2) rfl ?_
 rintro _ w7 ⟨rfl,hS7⟩
 refine D ?_
 exact ZO () ⟨rfl,rfl,rfl,rfl,rfl,rfl,rfl,rfl,rfl,rfl,rfl,trivial⟩ (hS1.trans hS7)
 refine ZDr 14 [] [] [(0,0),(1,1),(2,0),(3,0),(4,0),(5,1),(6,1),(7,0),(8,2),(9,0),(10,0),(11,0),(12,0),(13,0)] (fun w1 hS1=>?_)
 replace k6:=k6.up hS1
 replace k8:=k8.up hS1
 replace hL:=hL.up hS1
 have hz:l[k].kind - 1=((3:Nat):Int):=by omega
 refine D ?_
 refine Z0J rfl (Z18 (len:=4) (i:=3) trivial rfl rfl hz (by decide) rfl ?_)
 refine D ?_
 refine Za rfl trivial (Z4 rfl (Zb rfl rfl) (ZcG _ _ _ hkk hok)) (fun _ _ h=>h.2) rfl ?_
 rintro _ w7 ⟨rfl,hS7⟩
 refine D ?_
 exact ZO () ⟨rfl,rfl,rfl,rfl,rfl,rfl,rfl,rfl,rfl,rfl,rfl,trivial⟩ (hS1.trans hS7)
 · rintro _ w7 hS7
   clear k6
   replace k8:=k8.up hS7
   replace hM:=hM.up hS7
   cases hp:(Z0A l[k] y).2 with
   | false=>
     rw [hp] at hnm
     refine W ?_
     exact Zg (k+1,ov) ⟨rfl,rfl,rfl,rfl,rfl,rfl,rfl,trivial⟩ ⟨hlt,again _ (by unfold Z0n;rw [hnm];rfl) hS7⟩ (by dsimp only;omega)
   | true=>
     rw [hp] at hnm
     obtain ⟨n1,n2⟩:=Z6q hok hin.1 hin.2 hp
     have hmv1:=hok.m1
     have hmv2:=hok.m2
     have htab:=ZgK hmv1 hmv2 n1
     have hnear:=Z7n l[k].move (Z0A l[k] y).1
     have hkd:Z0n l[k] y=if Zx (Z0V l[k].move (Z0A l[k] y).1)=true then some (Z0V l[k].move (Z0A l[k] y).1) else none:=by
      unfold Z0n
      rw [hnm]
      rfl
     generalize (Z0A l[k] y).1=d at *
     refine W ?_
     refine ZDr 10 [] [] [(0,0),(1,0),(2,1),(3,0),(5,0),(4,2),(6,0),(7,1),(8,0),(9,0)] (fun w1 hS1=>?_)
     replace k8:=k8.up hS1
     replace hM:=hM.up hS1
     replace hS7:=hS7.trans hS1
     clear hS1
     refine D ?_
     refine Z0J rfl (Z18 (len:=3) (i:=l[k].move.toNat) trivial rfl rfl (by omega) (by omega) rfl ?_)
     refine D ?_
     refine Za rfl trivial (Z4 rfl (Zm rfl) (Z3b _ _ n1 (by omega))) (fun _ _ h=>by rw [h.2];exact Stp.refl _ _) rfl ?_
     rintro _ w8 ⟨rfl,rfl⟩
     refine D ?_
     refine Z0J rfl (Z18 (len:=7) (i:=(d % 7).toNat) trivial rfl rfl (by omega) (by omega) rfl ?_)
     refine D ?_
     refine ZZ rfl trivial (fun w' hS'=>Z0L rfl rfl (hM.up hS' _ _ htab)) rfl ?_
     refine D ?_
     have ed:d+(Z0V l[k].move d - d)=Z0V l[k].move d:=by omega
     rw [ed]
     refine W ?_
     refine CL rfl (ZE rfl rfl rfl) rfl (Z1V (Z0V l[k].move d) 0 3652058 _) ?_
     rintro _ _ ⟨rfl,rfl⟩
     by_cases h2:0≤Z0V l[k].move d∧Z0V l[k].move d≤3652058
     rw [decide_eq_true h2]
     rw [if_pos (Zy.2 h2)] at hkd
     have hlk:=Z5F y (l.take k) 0
     have hlk2:(l.take k).length≤l.length:=by rw [Xw];omega
     replace hr:=hr.up hS7
     refine W ?_
     refine Z6 (vs:=[(0,.int .i64 (Z0V l[k].move d)),(1,.int .i64 (k:Int))]) rfl (ZgL _ _) rfl ?_
     refine Z1 (Z0 (vs:=[(0,agg ((Z0V l[k].move d,(k:Int)):Spn))]) rfl (ZeM _)) rfl ?_
     rintro bv w9 hN
     have hS9:=Z5.stp hN
     have hbv:SlV (ob ov) w9 bv [((Z0V l[k].move d,(k:Int)):Spn)]:=hN.slv (fun b hb=>(hr.1.ob_le b hb).2) rfl rfl (by simp [maxLen])
     replace hr:=hr.up hS9
     refine Z1 (Jp rfl (by decide) rfl rfl hr hbv (by simp only [Xc,Xd];omega) (by simp only [Xc,Xd,maxLen];omega)) rfl ?_
     rintro ov' w10 ⟨hr2,hS10,ho10⟩
     refine W ?_
     refine Zg (k+1,ov') ⟨rfl,rfl,rfl,rfl,rfl,rfl,rfl,trivial⟩ ⟨hlt,?_⟩ (by dsimp only;omega)
     dsimp only
     rw [hko]
     unfold ofH
     rw [hkd]
     exact hr2
     rw [decide_eq_false h2]
     rw [if_neg (fun h=>h2 (Zy.1 h))] at hkd
     refine W ?_
     exact Zg (k+1,ov) ⟨rfl,rfl,rfl,rfl,rfl,rfl,rfl,trivial⟩ ⟨hlt,again _ hkd hS7⟩ (by dsimp only;omega)
 rw [decide_eq_false hin]
 refine W ?_
 exact Zg (k+1,ov) ⟨rfl,rfl,rfl,rfl,rfl,rfl,rfl,trivial⟩ ⟨hlt,again _ (by unfold Z0n Zav;rw [if_pos (by omega)];rfl) (Stp.refl _ _)⟩ (by dsimp only;omega)
 have hk2:k=l.length:=by omega
 subst hk2
 rw [XC] at hr
 have hlen:=Z5F y l 0
 focus repeat'(first|refine W1 ?_|omega|refine VG ?_ ?_<;>intro hg|refine VC ?_ ?_<;>intro hc)
 refine CL rfl (Zb rfl rfl) rfl (Z9C 331 _ #[] Z9D ZqF [] w3.heap.size ov _ _ (by simp) hr.2.size hr.1 (ZnV _ _) (by omega)) ?_
 rintro _ w7 ⟨ys,hso,hrow7,hS7⟩
 refine W ?_
 refine WR ?_
 exact .mk ⟨ys,hso,hrow7.lower hS.size,(hS.trans hr.2).own hS7 (fun c hc=>.inr (Xj hS.size (hr.1.ob_le c hc).1))⟩
open Go Go.Eng Go.RowKit Go.Proofs
theorem Z8k (n:Int) (w:World) (h0:0≤n) (h1:n≤3652058):CC 281 #[.int .i64 n] w fun r w'=>r=.tuple #[Z82 (ofM n).y (ofM n).m (ofM n).d,.int .i64 0]∧Stp [] w w':=by
 refine cW1 73 Tryz.func281 ?_
 refine W ?_
 refine Z1 Z7 rfl ?_
 rintro _ w1 ⟨b2,rfl,hb2,e2',hS⟩
 have hw1:=hS.size
 repeat'(first|refine W1 ?_|omega|refine VG ?_ ?_<;>intro hg|refine VC ?_ ?_<;>intro hc)
 unfold ofM
 simp only
 have hr0:=Ya7 (n+306) (b:=146097) (by decide)
 have hr1:=YaX (n+306) (b:=146097) (by decide)
 have he:(n+306) / 146097≤25∧0≤(n+306) / 146097:=by omega
 generalize (n+306) % 146097=doe at *
 generalize (n+306) / 146097=era at *
 obtain ⟨yoe,doy,e1,e2,hy,hd,-⟩:=Zeu doe hr0 hr1
 simp only [e1,e2]
 have hmb:0≤(5 * (doy:Int)+2) / 153∧(5 * (doy:Int)+2) / 153≤11:=by omega
 repeat'(first|refine W1 ?_|omega|refine VG ?_ ?_<;>intro hg|refine VC ?_ ?_<;>intro hc)
 refine Z6 (vs:=[(0,.int .i64 _),(1,.int .i64 _),(2,.int .i64 _)]) rfl (Z1T _ _ _) rfl ?_
 refine Z1 Z7 rfl ?_
 rintro _ w2 ⟨b10,rfl,hb10,e10,hT⟩
 have n2:b10≠b2:=by have:=e2'.lt;omega
 replace e2':=e2'.up hT
 replace hS:=hS.trans hT
 refine Z2 (Z3 (us:=[.int .i64 _,.int .i64 _,.int .i64 _]) rfl rfl rfl rfl (by simp;exact ⟨rfl,rfl,rfl⟩) e10 rfl) ?_
 rintro _ w3 ⟨hT,e10'⟩
 replace e2':=e2'.ext hT (by simpa using n2.symm)
 replace hS:=hS.own hT (fun c hc=>.inr (by simp at hc;have:=hS.size;omega))
 clear e10 hT
 repeat'(first|refine W1 ?_|omega|refine VG ?_ ?_<;>intro hg|refine VC ?_ ?_<;>intro hc)
 rename_i hc
 refine Z2 (Ze (u:=.int .i64 ((yoe:Int)+400 * era+1)) rfl rfl rfl rfl e10' (by simp)) ?_
 rintro _ w4 ⟨hT,e10⟩
 replace e10:Blk w4 b10 291 [.int .i64 ((yoe:Int)+400 * era+1),.int .i64 ((5 * (doy:Int)+2) / 153+3),.int .i64 ((doy:Int) - (153 * ((5 * (doy:Int)+2) / 153)+2) / 5+1)]:=e10
 replace e2':=e2'.ext hT (by simpa using n2.symm)
 replace hS:=hS.own hT (fun c hc=>.inr (by simp at hc;omega))
 clear e10' hT
 refine W ?_
 refine Z2 (Ze (u:=.int .i64 ((5 * (doy:Int)+2) / 153 - 9)) rfl rfl rfl rfl e10 (by simp)) ?_
 rintro _ w5 ⟨hT,e10'⟩
 replace e10':Blk w5 b10 291 [.int .i64 ((yoe:Int)+400 * era+1),.int .i64 ((5 * (doy:Int)+2) / 153 - 9),.int .i64 ((doy:Int) - (153 * ((5 * (doy:Int)+2) / 153)+2) / 5+1)]:=e10'
 replace e2':=e2'.ext hT (by simpa using n2.symm)
 replace hS:=hS.own hT (fun c hc=>.inr (by simp at hc;omega))
 clear e10 hT
 refine W ?_
 refine Z2 (Z3 (us:=[.int .i64 _,.int .i64 _,.int .i64 _]) rfl rfl rfl rfl (by simp;exact ⟨rfl,rfl,rfl⟩) e2' rfl) ?_
 rintro _ w6 ⟨hT,e2⟩
 replace hS:=hS.own hT (fun c hc=>.inr (by simp at hc;omega))
 refine W ?_
 refine J9 rfl rfl rfl e2 rfl rfl ?_
 refine .mk ⟨?_,hS⟩
 rw [if_pos (by omega)]
 rename_i hc
 refine Z2 (Z3 (us:=[.int .i64 _,.int .i64 _,.int .i64 _]) rfl rfl rfl rfl (by simp;exact ⟨rfl,rfl,rfl⟩) e2' rfl) ?_
 rintro _ w6 ⟨hT,e2⟩
 replace hS:=hS.own hT (fun c hc=>.inr (by simp at hc;omega))
 refine W ?_
 refine J9 rfl rfl rfl e2 rfl rfl ?_
 refine .mk ⟨?_,hS⟩
 rw [if_neg (by omega)]
end Go.Proofs.YtjdjdoefppebkaaGreatDoor
namespace Go.Eng
open Go Go.RowKit Go.Proofs
variable {P:Program} {n:Nat} {Q:Exit→Act→World→Prop} {e:Env} {w:World}
theorem Z4s {i:Nat} {A B:Exit→Act→World→Prop} (h:∀ ex a w,A ex a w→B ex a w):∀ ex a w,Exit.inBlock i A ex a w→Exit.inBlock i B ex a w:=by
 intro ex a w hq
 cases ex with
 | exit j=>
   simp only [Exit.inBlock] at hq ⊢
   split
   rename_i hj
   rw [if_pos hj] at hq
   exact h _ _ _ hq
   rename_i hj
   rw [if_neg hj] at hq
   exact h _ _ _ hq
 | normal=>exact h _ _ _ hq
 | ret=>exact h _ _ _ hq
 | goto t=>exact h _ _ _ hq
 | panic c=>exact h _ _ _ hq
 | outgrown=>exact h _ _ _ hq
theorem Z9E {x y:Code} {σ:Type} {i j:Nat} (env:σ→Env) (I:σ→World→Prop)
 (h:WC P n x (Exit.inBlock i (Exit.inBlock j (Exit.then (fun a w=>∃ s,Has n (env s) a∧I s w) Q))) e w) (k:∀ s w,I s w→WC P n y Q (env s) w):WC P n x (Exit.inBlock i (Exit.inBlock j (Exit.then (fun a w=>y.wp P Q a w) Q))) e w:=
 ⟨fun a ha => wp_mono (h.h a ha) (Z4s (Z4s (fun ex a w hq => by
   cases ex with
   | normal=>obtain ⟨s,h1,h2⟩:=hq;exact (k s w h2).h a h1
   | _=>exact hq)))⟩
end Go.Eng
namespace Go.Proofs.YtjdjdoefppebkaaGreatDoor
open Go Go.Eng Go.RowKit
def inR (a b:Int) (zs:List Int):List Int:=zs.filter fun d=>decide (a≤d∧d≤b)
theorem ZgN (a b:Int) (x y:List Int):inR a b (x++y)=inR a b x++inR a b y:=by unfold inR;rw [List.filter_append]
theorem ZeN {y:Int} {l:List Hol} {ys:List Spn} (h:Z7k Z9D (ofK y l 0) ys) (d:Int):d∈ys.map Prod.fst↔∃ h∈l,Z0n h y=some d:=by
 rw [← ZbC y d l 0,YaM]
 constructor
 rintro ⟨⟨a,r⟩,h1,rfl⟩
 exact ⟨r,h.1.mem_iff.1 h1⟩
 rintro ⟨r,hr⟩
 exact ⟨(d,r),h.1.mem_iff.2 hr,rfl⟩
theorem ZeO {y:Int} {l:List Hol} {ys:List Spn} (h:Z7k Z9D (ofK y l 0) ys):ys.length≤l.length:=by
 rw [h.1.length_eq];exact Z5F y l 0
set_option maxHeartbeats 1000000 in
theorem Z9F (v:Value) (l:List Hol) (a b:Int) (w:World) (hs:SlV [] w v l) (hL:Z0q w) (hM:Z2C w) (ho:∀ h∈l,Z0X h) (hl:l.length<20) (ha:0≤a) (hab:a≤b) (hb:b≤3652058) (hyy:(ofM a).y≤(ofM b).y) :
 CC 286 #[v,.int .i64 a,.int .i64 b] w fun r w'=>∃ zs:List Int,(∀ d,d∈zs↔a≤d∧d≤b∧∃ y,(ofM a).y - 1≤y∧y≤(ofM b).y+1∧∃ h∈l,Z0n h y=some d)∧J8 3 w w' r (Z5Z zs):=by
 obtain ⟨ya1,ya2,-⟩:=Z3T ha (by omega)
 obtain ⟨yb1,yb2,-⟩:=Z3T (n:=b) (by omega) hb
 have hmx:max a 0=a:=by omega
 have hmn:min b 3652058=b:=by omega
 refine cW3 65 Tryz.func286 ?_
 refine W ?_
 rw [hmx,hmn]
 repeat'(first|refine W1 ?_|omega|refine VG ?_ ?_<;>intro hg|refine VC ?_ ?_<;>intro hc)
 refine CL rfl (Zm rfl) rfl (Z8k a _ ha (by omega)) ?_
 rintro _ w1 ⟨rfl,hS⟩
 refine W ?_
 refine Z1 Z7 rfl ?_
 rintro _ w2 ⟨b7,rfl,hb7,e7,hS2⟩
 refine W ?_
 refine Z2 (Z3 (us:=[.int .i64 (ofM a).y,.int .i64 (ofM a).m,.int .i64 (ofM a).d]) rfl rfl rfl rfl (by intro u hu;simp at hu;rcases hu with rfl|rfl|rfl<;>rfl) e7 rfl) ?_
 rintro _ w3 ⟨hT,k7⟩
 replace hS:=hS.trans (hS2.own hT (fun c hc=>.inr (by simp at hc;omega)))
 clear e7 hS2 hT
 refine W ?_
 refine CL rfl (Zm rfl) rfl (Z8k b _ (by omega) hb) ?_
 rintro _ w4 ⟨rfl,hS4⟩
 replace k7:=k7.up hS4
 replace hS:=hS.trans hS4
 refine W ?_
 refine Z1 Z7 rfl ?_
 rintro _ w5 ⟨b9,rfl,hb9,e9,hS5⟩
 have n79:b7≠b9:=by have:=k7.lt;omega
 refine W ?_
 refine Z2 (Z3 (us:=[.int .i64 (ofM b).y,.int .i64 (ofM b).m,.int .i64 (ofM b).d]) rfl rfl rfl rfl (by intro u hu;simp at hu;rcases hu with rfl|rfl|rfl<;>rfl) e9 rfl) ?_
 rintro _ w6 ⟨hT,k9⟩
 replace hS5:=hS5.own hT (fun c hc=>.inr (by simp at hc;omega))
 replace k7:=k7.up hS5
 replace hS:=hS.trans hS5
 clear e9 hT hS4 hS5
 replace hs:=hs.up hS
 replace hL:=hL.up hS
 replace hM:=hM.up hS
 refine W ?_
 refine Zr (σ:=Nat×Value×List Int) (fun q=>[(0,v),(1,.int .i64 a),(2,.int .i64 b),(7,.pointer (some ⟨b7,0,none⟩)),(9,.pointer (some ⟨b9,0,none⟩)),(11,q.2.1),(12,.int .i64 ((ofM a).y - 1+(q.1:Int)))])
  (fun q w'=>(ofM a).y - 1+(q.1:Int)≤(ofM b).y+2∧q.2.2.length≤q.1 * 20∧(∀ d,d∈q.2.2↔a≤d∧d≤b∧∃ y,(ofM a).y - 1≤y∧y<(ofM a).y - 1+(q.1:Int)∧∃ h∈l,Z0n h y=some d)∧J8 3 w6 w' q.2.1 q.2.2)
  (fun q=>20000 - q.1) (0,.slice none 0 0,[]) ⟨rfl,rfl,rfl,rfl,rfl,rfl,(by simp [Jh]),trivial⟩ ⟨by dsimp only;omega,Xo _,fun d=>by simp;intros;omega,J8.nil⟩ ?_
 rintro ⟨k,ov,zs⟩ w7 ⟨hk,hzl,hz,hr⟩
 dsimp only at hk hzl hz hr ⊢
 have hS7:=hr.2
 replace k7:=k7.up hS7
 replace k9:=k9.up hS7
 replace hs:=hs.up hS7
 replace hL:=hL.up hS7
 replace hM:=hM.up hS7
 by_cases hlt:(ofM a).y - 1+(k:Int)≤(ofM b).y+1
 focus repeat'(first|refine W1 ?_|omega|refine VG ?_ ?_<;>intro hg|refine VC ?_ ?_<;>intro hc)
 refine CL rfl (Zb rfl rfl) rfl (ZgM v l _ _ hs hL hM ho hl) ?_
 rintro rv w8 ⟨ys,hso,hrf⟩
 have hyl:=ZeO hso
 have hmem:=ZeN hso
 have hS8:=hrf.2
 have hys:=hrf.slv (X:=ob ov) (fun b hb=>(hr.1.ob_le b hb).2)
 have hys0:=hrf.slv (X:=[]) (by simp)
 replace hr:=hr.up hS8
 replace k9:=k9.up hS8
 replace hs:=hs.up hS8
 replace hL:=hL.up hS8
 replace hM:=hM.up hS8
 refine W ?_
 refine Z9E (σ:=Value×List Int) (fun q=>[(0,v),(1,.int .i64 a),(2,.int .i64 b),(7,.pointer (some ⟨b7,0,none⟩)),(9,.pointer (some ⟨b9,0,none⟩)),(11,q.1),(12,.int .i64 ((ofM a).y - 1+(k:Int)))])
  (fun q w'=>q.2=zs++inR a b (ys.map Prod.fst)∧J8 3 w6 w' q.1 q.2) ?_ ?_
 refine Zr (σ:=Nat×Value) (fun q=>[(0,v),(1,.int .i64 a),(2,.int .i64 b),(7,.pointer (some ⟨b7,0,none⟩)),(9,.pointer (some ⟨b9,0,none⟩)),(11,q.2),(12,.int .i64 ((ofM a).y - 1+(k:Int))),(44,rv),(45,.int .i64 (ys.length:Int)),(46,.int .i64 (q.1:Int))])
  (fun q w'=>q.1≤ys.length∧J8 3 w6 w' q.2 (zs++inR a b ((ys.take q.1).map Prod.fst))∧SlV (ob q.2) w' rv ys) (fun q=>ys.length - q.1) (0,ov) ⟨rfl,rfl,rfl,rfl,rfl,rfl,rfl,rfl,rfl,rfl,trivial⟩ ⟨Xo _,by simpa [inR] using hr,hys⟩ ?_
 clear hr hys hys0 hs hL hM k7 k9
 rintro ⟨j,ov'⟩ w9 ⟨hj,hr,hys⟩
 dsimp only at hj hr hys ⊢
 by_cases hjl:j<ys.length
 have htk:inR a b ((ys.take (j+1)).map Prod.fst)=inR a b ((ys.take j).map Prod.fst)++inR a b [ys[j].1]:=by
  rw [Xq hjl,YaJ,ZgN]
  rfl
 focus repeat'(first|refine W1 ?_|omega|refine VG ?_ ?_<;>intro hg|refine VC ?_ ?_<;>intro hc)
 refine Z1 Z7 rfl ?_
 rintro _ w10 ⟨b14,rfl,hb14,e14,hS10⟩
 refine W ?_
 refine Z2 (Z3 (us:=Z9.enc ys[j]) rfl rfl rfl rfl (Z9.one _) e14 rfl) ?_
 rintro _ w11 ⟨hT,k14⟩
 replace hS10:=hS10.own hT (fun c hc=>.inr (by simp at hc;omega))
 clear e14 hT
 replace hr:=hr.up hS10
 replace hys:=hys.up hS10
 refine W ?_
 refine CL rfl (ZE rfl rfl rfl) rfl (Z1V ys[j].1 a b _) ?_
 rintro _ _ ⟨rfl,rfl⟩
 by_cases hin:a≤ys[j].1∧ys[j].1≤b
 rw [decide_eq_true hin]
 have hlen:(zs++inR a b ((ys.take j).map Prod.fst)).length≤300000:=by
  have h1:(inR a b ((ys.take j).map Prod.fst)).length≤((ys.take j).map Prod.fst).length:=YaR _ _
  rw [Xg]
  simp only [Yab,Xw] at h1
  omega
 have e1:inR a b [ys[j].1]=[ys[j].1]:=by unfold inR;simp [hin]
 rw [e1] at htk
 refine W ?_
 refine Z1 (Z0 (vs:=[(0,.int .i64 ys[j].1)]) rfl (Jg _)) rfl ?_
 rintro bv w12 hN
 have hS12:=Z5.stp hN
 have hbv:SlV (ob ov') w12 bv [ys[j].1]:=hN.slv (fun b hb=>(hr.1.ob_le b hb).2) rfl rfl (by simp [maxLen])
 replace hr:=hr.up hS12
 replace hys:=hys.up hS12
 refine Z1 (Jp rfl (by decide) rfl rfl hr hbv (by simp only [Xc,Xd];omega) (by simp only [Xc,Xd,maxLen];omega)) rfl ?_
 rintro ov2 w13 ⟨hr2,hS13,ho13⟩
 refine W ?_
 refine Zg (j+1,ov2) ⟨rfl,rfl,rfl,rfl,rfl,rfl,rfl,rfl,rfl,rfl,trivial⟩ ⟨hjl,?_,hys.ext hS13 (fun _ h=>h) ho13⟩ (by dsimp only;omega)
 dsimp only
 rw [htk,← XK]
 exact hr2
 rw [decide_eq_false hin]
 have e1:inR a b [ys[j].1]=[]:=by unfold inR;simp only [List.filter_cons,decide_eq_false hin,List.filter_nil];rfl
 rw [e1,XI] at htk
 refine W ?_
 refine Zg (j+1,ov') ⟨rfl,rfl,rfl,rfl,rfl,rfl,rfl,rfl,rfl,rfl,trivial⟩ ⟨hjl,?_,hys⟩ (by dsimp only;omega)
 dsimp only
 rw [htk]
 exact hr
 have hjj:j=ys.length:=by omega
 subst hjj
 rw [XC] at hr
 focus repeat'(first|refine W1 ?_|omega|refine VG ?_ ?_<;>intro hg|refine VC ?_ ?_<;>intro hc)
 exact ZO (ov',zs++inR a b (ys.map Prod.fst)) ⟨rfl,rfl,rfl,rfl,rfl,rfl,rfl,trivial⟩ ⟨rfl,hr⟩
 rintro ⟨ov',zs'⟩ w9 ⟨hzz,hr⟩
 dsimp only at hzz hr ⊢
 subst hzz
 have e1:(ofM a).y - 1+(k:Int)+1=(ofM a).y - 1+((k+1:Nat):Int):=by omega
 refine W ?_
 rw [e1]
 refine Zg (k+1,ov',zs++inR a b (ys.map Prod.fst)) ⟨rfl,rfl,rfl,rfl,rfl,rfl,rfl,trivial⟩ ⟨by dsimp only;omega,?_,fun d=>?_,hr⟩ (by dsimp only;omega)
 have h1:(inR a b (ys.map Prod.fst)).length≤(ys.map Prod.fst).length:=YaR _ _
 dsimp only
 rw [Xg]
 simp only [Yab] at h1
 omega
 dsimp only
 rw [Xs,hz,inR,List.mem_filter,hmem]
 constructor
 rintro (⟨p1,p2,y,p3,p4,p5⟩|⟨p5,p6⟩)
 exact ⟨p1,p2,y,p3,by omega,p5⟩
 have p6:=of_decide_eq_true p6
 exact ⟨p6.1,p6.2,_,by omega,by omega,p5⟩
 rintro ⟨p1,p2,y,p3,p4,p5⟩
 by_cases hy:y<(ofM a).y - 1+(k:Int)
 exact .inl ⟨p1,p2,y,p3,hy,p5⟩
 obtain rfl:y=(ofM a).y - 1+(k:Int):=by omega
 exact .inr ⟨p5,decide_eq_true ⟨p1,p2⟩⟩
 focus repeat'(first|refine W1 ?_|omega|refine VG ?_ ?_<;>intro hg|refine VC ?_ ?_<;>intro hc)
 refine CL rfl (Zm rfl) rfl (Zef _ hr.1 (by omega)) ?_
 rintro _ w8 ⟨rfl,hrow2,hS8⟩
 refine W ?_
 refine CL rfl (Zm rfl) rfl (Z99 _ hrow2 (by rw [List.length_mergeSort];omega)) ?_
 rintro rv w9 ⟨hrow3,hS9,hob⟩
 refine W ?_
 refine WR ?_
 refine .mk ⟨zs,fun d=>?_,hrow3.lower hS.size,((hS.trans hr.2).own hS8 (fun c hc=>.inr (Xj hS.size (hr.1.ob_le c hc).1))).own hS9 (fun c hc=>.inr (Xj hS.size (hr.1.ob_le c hc).1))⟩
 rw [hz]
 constructor
 rintro ⟨p1,p2,y,p3,p4,p5⟩
 exact ⟨p1,p2,y,p3,by omega,p5⟩
 rintro ⟨p1,p2,y,p3,p4,p5⟩
 exact ⟨p1,p2,y,p3,by omega,p5⟩
theorem ZaH {l:List Hol} {d:Int} (h0:0≤d) (h1:d≤3652058) {zs:List Int} (hz:∀ x,x∈zs↔d≤x∧x≤d∧∃ y,(ofM d).y - 1≤y∧y≤(ofM d).y+1∧∃ h∈l,Z0n h y=some x) :
 decide (((Z5Z zs).length:Int) > 0)=Z1Y l d:=by
 have hm:=(Zar zs).2
 have hin:Zx d=true:=Zy.2 ⟨h0,h1⟩
 rw [X2]
 unfold Z1Y
 rw [hin,Bool.true_and,decide_eq_true_eq,XJ]
 constructor
 intro hl
 obtain ⟨x,hx⟩:=List.exists_mem_of_length_pos (l:=Z5Z zs) (by omega)
 obtain ⟨p1,p2,y,p3,p4,h,hh,hk⟩:=(hz x).1 ((hm x).1 hx)
 obtain rfl:x=d:=by omega
 refine ⟨y,?_,XJ.2 ⟨h,hh,decide_eq_true hk⟩⟩
 have:y=(ofM x).y - 1∨y=(ofM x).y∨y=(ofM x).y+1:=by omega
 rcases this with rfl|rfl|rfl<;>simp
 rintro ⟨y,hy,hh⟩
 obtain ⟨h,hh,hk⟩:=XJ.1 hh
 have hy2:(ofM d).y - 1≤y∧y≤(ofM d).y+1:=by simp at hy;omega
 have:d∈Z5Z zs:=(hm d).2 ((hz d).2 ⟨Yak _,Yak _,y,hy2.1,hy2.2,h,hh,of_decide_eq_true hk⟩)
 have:=List.length_pos_of_mem this
 omega
theorem Zld (v:Value) (l:List Hol) (d:Int) (w:World) (hs:SlV [] w v l) (hL:Z0q w) (hM:Z2C w) (ho:∀ h∈l,Z0X h) (hl:l.length<20) :
 CC 239 #[v,.int .i64 d] w fun r w'=>r=.bool (Z1Y l d)∧Stp [] w w':=by
 refine cW2 15 Tryz.func239 ?_
 refine W ?_
 refine CL rfl (ZE rfl rfl rfl) rfl (Z1V d 0 3652058 _) ?_
 rintro _ _ ⟨rfl,rfl⟩
 by_cases hd:0≤d∧d≤3652058
 rw [decide_eq_true hd]
 refine W ?_
 refine CL rfl (ZE rfl rfl rfl) rfl (Z9F v l d d _ hs hL hM ho hl hd.1 (Yak _) hd.2 (Yak _)) ?_
 rintro rv w1 ⟨zs,hz,hr⟩
 have hsv:=hr.slv (X:=[]) (by simp)
 refine W ?_
 refine WR ?_
 exact .mk ⟨by rw [ZaH hd.1 hd.2 hz],hr.2⟩
 rw [decide_eq_false hd]
 refine W ?_
 refine WR ?_
 refine .mk ⟨?_,Stp.refl _ _⟩
 have:Zx d=false:=by unfold Zx;exact decide_eq_false hd
 unfold Z1Y
 rw [this]
 rfl
structure Z1m (w:World) (c:Cal) (hv cv zo zs hr:Value):Prop where
 hols:SlV [] w hv c.hols
 clos:SlV [] w cv c.clos
 len:Z0q w
 mov:Z2C w
 ok:Zbp c
abbrev Z15 (c:Cal) (hv cv zo zs hr:Value):Value:=.agg (Jm c hv cv zo zs hr).toArray
theorem Z1m.up {w w':World} {c:Cal} {hv cv zo zs hr:Value} (h:Z1m w c hv cv zo zs hr) (hS:Stp [] w w'):Z1m w' c hv cv zo zs hr:=⟨h.hols.up hS,h.clos.up hS,h.len.up hS,h.mov.up hS,h.ok⟩
theorem ZbD (c:Cal) (hv cv zo zs hr:Value) {i:Nat} (hi:i<7):(Jm c hv cv zo zs hr)[0+i * 1]?=some (.bool (c.week.getD i false)):=by
 have:i=0∨i=1∨i=2∨i=3∨i=4∨i=5∨i=6:=by omega
 rcases this with rfl|rfl|rfl|rfl|rfl|rfl|rfl<;>rfl
theorem Z3d (d:Int) (w:World):CC 159 #[.int .i64 d] w fun r w'=>r=.bool (Zx d)∧w'=w:=by
 refine cW1 9 Tryz.func159 ?_
 unfold Zx
 by_cases h1:d≥0
 by_cases h2:d≤3652058
 rw [decide_eq_true ⟨h1,h2⟩]
 focus repeat'(first|refine W1 ?_|omega|refine VG ?_ ?_<;>intro hg|refine VC ?_ ?_<;>intro hc)
 refine WR ?_
 exact .mk ⟨by simp [h2],rfl⟩
 rw [decide_eq_false (fun h=>h2 h.2)]
 focus repeat'(first|refine W1 ?_|omega|refine VG ?_ ?_<;>intro hg|refine VC ?_ ?_<;>intro hc)
 refine WR ?_
 exact .mk ⟨by simp [h2],rfl⟩
 rw [decide_eq_false (fun h=>h1 h.1)]
 focus repeat'(first|refine W1 ?_|omega|refine VG ?_ ?_<;>intro hg|refine VC ?_ ?_<;>intro hc)
 refine WR ?_
 exact .mk ⟨rfl,rfl⟩
theorem ZcI (d kn:Int) (bc bk:Nat) (c:Cal) (hv cv zo zs hr:Value) (w:World) (h:Z1m w c hv cv zo zs hr) (kc:Blk w bc 37 (Jm c hv cv zo zs hr)) (kk:Blk w bk 3 [.int .i64 kn]) (h0:0≤d) (h1:d≤3652058) :
 CC 237 #[.int .i64 d,.pointer (some ⟨bc,0,none⟩),.pointer (some ⟨bk,0,none⟩)] w fun r w'=>r=.bool (Z9k c kn d)∧Stp [] w w':=by
 have hi7:(d % 7).toNat<7:=by omega
 have hwk:=ZbD c hv cv zo zs hr hi7
 have hcm:=h.clos.max
 have hcl0:=h.clos
 refine cW3 40 Tryz.func237 ?_
 refine W ?_
 refine CL rfl (Zm rfl) rfl (Z3b d _ h0 (by omega)) ?_
 rintro _ w ⟨rfl,rfl⟩
 refine W ?_
 refine Ji (len:=7) (i:=(d % 7).toNat) rfl rfl (by omega) hi7 rfl ?_
 refine Z2Q rfl rfl kc hwk rfl ?_
 unfold Z9k
 cases hw:c.week.getD (d % 7).toNat false with
 | true=>
   refine W ?_
   refine WR ?_
   exact .mk ⟨by simp,Stp.refl _ _⟩
 | false=>
   rw [Yay]
   refine W ?_
   refine Z1t (σ:=Unit) (fun _=>[(0,.int .i64 d),(1,.pointer (some ⟨bc,0,none⟩))]) (fun _ w'=>Z3v c.clos kn d=false∧Stp [] w w') ?_ ?_
   refine Zr (σ:=Nat) (fun k=>[(0,.int .i64 d),(1,.pointer (some ⟨bc,0,none⟩)),(2,.pointer (some ⟨bk,0,none⟩)),(13,cv),(14,.int .i64 (c.clos.length:Int)),(15,.int .i64 (k:Int))])
    (fun k w'=>k≤c.clos.length∧Z3v (c.clos.take k) kn d=false∧Stp [] w w') (fun k=>c.clos.length - k) 0 ⟨rfl,rfl,rfl,rfl,rfl,rfl,trivial⟩ ⟨Xo _,rfl,Stp.refl _ _⟩ ?_
   rintro k w1 ⟨hk,hn,hS⟩
   have kk:=kk.up hS
   have hcl:=h.clos.up hS
   by_cases hlt:k<c.clos.length
   have ht:Z3v (c.clos.take (k+1)) kn d=(Z3v (c.clos.take k) kn d || decide (c.clos[k].known≤kn∧c.clos[k].lo≤d∧d≤c.clos[k].hi)):=by
    unfold Z3v
    rw [Xq hlt,List.any_append]
    simp
   rw [hn,Yay] at ht
   focus repeat'(first|refine W1 ?_|omega|refine VG ?_ ?_<;>intro hg|refine VC ?_ ?_<;>intro hc)
   refine Z1 Z7 rfl ?_
   rintro _ w2 ⟨b6,rfl,hb6,e6,hS2⟩
   refine W ?_
   refine Z2 (Z3 (us:=Z9.enc c.clos[k]) rfl rfl rfl rfl (Z9.one _) e6 rfl) ?_
   rintro _ w3 ⟨hT,k6⟩
   replace hS2:=hS2.own hT (fun c hc=>.inr (by simp at hc;omega))
   clear e6 hT
   replace kk:=kk.up hS2
   replace hcl:=hcl.up hS2
   replace hS:=hS.trans hS2
   by_cases hx:c.clos[k].known≤kn∧c.clos[k].lo≤d∧d≤c.clos[k].hi
   focus repeat'(first|refine W1 ?_|omega|refine VG ?_ ?_<;>intro hg|refine VC ?_ ?_<;>intro hc)
   refine WR ?_
   refine .mk ⟨?_,hS⟩
   have:Z3v c.clos kn d=true:=by
    unfold Z3v
    exact XJ.2 ⟨c.clos[k],Xf hlt,decide_eq_true hx⟩
   rw [this]
   rfl
   · rw [decide_eq_false hx] at ht
     repeat'(first|refine W1 ?_|omega|refine VG ?_ ?_<;>intro hg|refine VC ?_ ?_<;>intro hc)
     all_goals exact Zg (k+1) ⟨rfl,rfl,rfl,rfl,rfl,rfl,trivial⟩ ⟨hlt,ht,hS⟩ (by omega)
   obtain rfl:k=c.clos.length:=by omega
   rw [XC] at hn
   focus repeat'(first|refine W1 ?_|omega|refine VG ?_ ?_<;>intro hg|refine VC ?_ ?_<;>intro hc)
   exact ZO () ⟨rfl,rfl,trivial⟩ ⟨hn,hS⟩
   rintro _ w1 ⟨hn,hS⟩
   have kc:=kc.up hS
   have h:=h.up hS
   rw [hn,Yay]
   refine W ?_
   refine CL rfl (Zb rfl rfl) rfl (Zld hv c.hols d _ h.hols h.len h.mov h.ok.hols (by have:=h.ok.few;omega)) ?_
   rintro _ w2 ⟨rfl,hS2⟩
   refine W ?_
   refine WR ?_
   exact .mk ⟨rfl,hS.trans hS2⟩
def ZnW (w:World) (f:Value) (c:Cal) (hv cv zo zs hr:Value) (kn:Int):Prop:=∃ b2 b3,f=.func (.func 237) #[] #[.pointer (some ⟨b2,0,none⟩),.pointer (some ⟨b3,0,none⟩)]∧Blk w b2 37 (Jm c hv cv zo zs hr)∧Blk w b3 3 [.int .i64 kn]
theorem ZeP (kn:Int) (c:Cal) (hv cv zo zs hr:Value) (w:World):CC 160 #[Z15 c hv cv zo zs hr,.int .i64 kn] w fun r w'=>ZnW w' r c hv cv zo zs hr kn∧Stp [] w w':=by
 refine cW2 6 Tryz.func160 ?_
 refine W ?_
 refine Z1 (Zo rfl) rfl ?_
 rintro _ w1 ⟨b2,rfl,hb2,hblk,hS⟩
 replace hblk:Blk w1 b2 37 (Jm c hv cv zo zs hr):=hblk
 refine Z1 (Zo rfl) rfl ?_
 rintro _ w2 ⟨b3,rfl,hb3,hblk3,hS2⟩
 replace hblk3:Blk w2 b3 3 [.int .i64 kn]:=hblk3
 replace hblk:=hblk.up hS2
 refine W ?_
 refine WR ?_
 exact .mk ⟨⟨b2,b3,rfl,hblk,hblk3⟩,hS.trans hS2⟩
open Go Go.Eng Go.RowKit Go.Proofs Go.Shelf
attribute [local go_sem] Oper.semAt_some
set_option maxRecDepth 100000 in
set_option maxHeartbeats 2000000 in
theorem ZeQ (n:Nat) (hn:2≤n) (l bd bs:Nat) (d0 st:Int) (hst:st=1∨st=-1) (h00:0≤d0) (h01:d0≤3652058) (J:Nat→World→Prop) (Jx:World→Prop)
 (hJc:∀ k W,J k W→W.cell? ⟨bd,0,none⟩=some (.int .i64 (d0+st * k))∧W.cell? ⟨bs,0,none⟩=some (.int .i64 st))
 (hY : ∀ (k : Nat) W, J k W → k ≤ 1000 → Zx (d0 + st * k) = true → YieldAt Fence.wide (n - 1) Tryz.prog l #[.int .i64 (d0 + st * k)] W fun e W'=>
   (e=.returned (.bool true)∧W'.cell? ⟨bd,0,none⟩=some (.int .i64 (d0+st * k))∧W'.frozen? ⟨bd,0,none⟩=false∧W'.cell? ⟨bs,0,none⟩=some (.int .i64 st)∧J (k+1) (W'.setCell ⟨bd,0,none⟩ (.int .i64 (d0+st * k+st))))∨(e=.returned (.bool false)∧Jx W'))
 (W:World) (h0:J 0 W) :
 CallsIn Fence.wide n Tryz.prog 328 #[.func (.yield l) #[] #[],.pointer (some ⟨bd,0,none⟩),.pointer (some ⟨bs,0,none⟩)] W fun e W'=>(∃ v,e=.returned v)∧
  ((∃ k:Nat,(1000<k∨Zx (d0+st * k)=false)∧J k W')∨Jx W'):=by
 refine callsIn_of_wp Tryz.func328 rfl trivial ?_ rfl
 simp only [Tryz.ntmps328,Yaa,Xc,Xd,Nat.reduceAdd,Nat.reduceSub,Array.replicate_succ,Array.replicate_zero,List.push_toArray,List.append_toArray,XL,XN]
 gi_wp2
 gi_loopw [4] (fun i wr=>∃ k:Nat,k≤1001∧i=.int .i64 (k:Int)∧J k wr) (fun i _=>1002 - (intOf i).toNat)
 case atStart=>exact ⟨0,Xo _,rfl,h0⟩
 case round=>
  obtain ⟨k,hk,rfl,hJk⟩:=hrel
  obtain ⟨c1,c2⟩:=hJc k _ hJk
  have hsk:-1001≤st * (k:Int)∧st * (k:Int)≤1001:=by rcases hst with rfl|rfl<;>omega
  by_cases hlt:k≤1000
  · have hle:(k:Int)≤1000:=by omega
    gi_wp2
    refine ⟨trivial,(fun h=>by cases h),?_⟩
    refine (callsIn_wide.2 (Z3d _ _)).mono ?_
    rintro e w' ⟨v,rfl,rfl,rfl⟩
    cases hin:Zx (d0+st * k) with
    | false=>
      gi_wp2
      go_end0
      exact ⟨⟨_,rfl⟩,.inl ⟨k,.inr hin,hJk⟩⟩
    | true=>
      obtain ⟨fn,tmps,assign,body,hy,hR⟩:=hY k _ hJk hlt hin
      gi_wp2
      refine ⟨(fun h=>by cases h),hR.mono ?_⟩
      rintro e W3 (⟨rfl,a1,a2,a3,a4⟩|⟨rfl,hx⟩)
      have hin2:=Zy.1 hin
      gi_wp2
      exact ⟨⟨k+1,by omega,rfl,a4⟩,by simp [intOf];omega⟩
      gi_wp2
      refine bodyPost_ret (results_none rfl _ _ _) rfl ?_
      exact ⟨⟨_,rfl⟩,.inr hx⟩
  have hgt:¬ (k:Int)≤1000:=by omega
  gi_wp2
  refine ⟨trivial,?_⟩
  gi_wp2
  go_end0
  exact ⟨⟨_,rfl⟩,.inl ⟨k,.inl (by omega),hJk⟩⟩
theorem ZaI {g:Operand} {ps:Array Tmp} {assign body:Code} {Q:Exit→Act→World→Prop} {a:Act} {w:World} {n:Nat} (hn:3≤n) (hps:ps.size=1) {bd bs:Nat} {d0 st:Int}
 (hg:a.eval g=.func (.func 328) #[] #[.pointer (some ⟨bd,0,none⟩),.pointer (some ⟨bs,0,none⟩)]) (hst:st=1∨st=-1) (h00:0≤d0) (h01:d0≤3652058) (hbd:bd<w.heap.size)
 (I I':Nat→World→Prop) (Ix:World→Prop)
 (hI:∀ k W W',I k W→Below w.heap.size W W'→I k W') (hI':∀ k W W',I' k W→Below w.heap.size W W'→I' k W') (hIx:∀ W W',Ix W→Below w.heap.size W W'→Ix W')
 (hc:∀ (k:Nat) W,I k W→W.cell? ⟨bd,0,none⟩=some (.int .i64 (d0+st * k))∧W.cell? ⟨bs,0,none⟩=some (.int .i64 st))
 (hc':∀ (k:Nat) W,I' k W→W.cell? ⟨bd,0,none⟩=some (.int .i64 (d0+st * k))∧W.frozen? ⟨bd,0,none⟩=false∧W.cell? ⟨bs,0,none⟩=some (.int .i64 st))
 (hstep:∀ (k:Nat) W,I' k W→I (k+1) (W.setCell ⟨bd,0,none⟩ (.int .i64 (d0+st * k+st)))) (h0:I 0 w) (a₁:Int→Act)
 (hassign : ∀ (l : Nat) (X : Int) (W : World) (K : Act → World → Prop), K (a₁ X) W→
   assign.wpIn (Fence.wide.inRound l) (n - 1 - 1) Tryz.prog (Exit.then K (fun _ _ _=>False)) { tmps:=(ps.zip #[Value.int .i64 X]).foldl (fun t (p,v)=>t.setIfInBounds p v) a.tmps,defers:=[] } W)
 (hbody : ∀ (l : Nat) (k : Nat) (W : World), I k W → k ≤ 1000 → Zx (d0 + st * k) = true → body.wpIn (Fence.wide.inRound l) (n - 1 - 1) Tryz.prog
   (fun e _ W'=>(∀ b,w.heap.size≤b→b<W.heap.size→W'.heap[b]?=W.heap[b]?)∧match e with|.normal=>I' k W'|.ret=>Ix W'|_=>False) (a₁ (d0+st * k)) W)
 (hdone:∀ (D k:Nat) (W:World),w.heap.size≤D→(1000<k∨Zx (d0+st * k)=false)→I k W→W.heap[D]?=some (.deferred (some []))→Q .normal { a with defers:={ target:=.collected D,args:=#[] } :: a.defers } W)
 (hstop:∀ (D:Nat) (W:World),w.heap.size≤D→Ix W→W.heap[D]?=some (.deferred (some []))→Q .ret { a with defers:={ target:=.collected D,args:=#[] } :: a.defers } W) :
 (Code.rangeFunc g ps assign body).wpIn Fence.wide n Tryz.prog Q a w:=by
 refine wpIn_rangeFunc ?_
 intro fn hfn
 obtain ⟨rec,hrec⟩:∃ rec:LoopState→Option Code→Loop,rec=fun st pe=>{ state:=st,pending:=pe,fn,tmps:=a.tmps,params:=ps,assign,body,defers:=w.heap.size }:=⟨_,rfl⟩
 obtain ⟨W1,hW1⟩:∃ W1,(w.alloc (.deferred (some []))).alloc (.loop (rec .ready none))=W1:=⟨_,rfl⟩
 have hL1:W1.heap[w.heap.size+1]?=some (.loop (rec .ready none)):=by
  rw [← hW1];have:=World.alloc_heap_new (w.alloc (.deferred (some []))) (.loop (rec .ready none));rwa [World.size_alloc] at this
 have hK1:W1.heap[w.heap.size]?=some (.deferred (some [])):=by
  rw [← hW1];exact (Below.heap_alloc _ _ _ (by simp)).trans (World.alloc_heap_new w _)
 have hb1:Below w.heap.size w W1:=by
  rw [← hW1];exact ((Below.refl _ w).alloc (Xl _) _).alloc (by simp) _
 have bput:∀ (W:World) (l:Nat) (o:Obj),w.heap.size≤l→Below w.heap.size W (W.putObj l o):=fun W l o hl=>
  ⟨rfl,rfl,rfl,by simp,fun k hk=>World.putObj_heap_other (by omega)⟩
 refine ⟨w.heap.size+1,[{ target:=.collected w.heap.size,args:=#[] }],W1,{ target:=.fn (.func 328) #[.pointer (some ⟨bd,0,none⟩),.pointer (some ⟨bs,0,none⟩)],args:=#[.func (.yield (w.heap.size+1)) #[] #[]] },W1,328,
  #[.func (.yield (w.heap.size+1)) #[] #[]]++#[.pointer (some ⟨bd,0,none⟩),.pointer (some ⟨bs,0,none⟩)],W1,?_,?_,?_,?_,fun h=>(by cases h),?_⟩
 rw [← hW1,hrec];exact run_enterLoop_outer _ _ _ _ _
 simp only [resolve,hg]
 simp [go_sem]
 intro f' hf';trivial
 have eg:=enters_of Tryz.func328 (by kernel_rfl) rfl
 simp [invoke,go_sem,eg]
 refine (ZeQ (n - 1) (by omega) (w.heap.size+1) bd bs d0 st hst h00 h01
  (fun k W=>I k W∧W.heap[w.heap.size+1]?=some (.loop (rec .ready none))∧W.heap[w.heap.size]?=some (.deferred (some [])))
  (fun W=>Ix W∧W.heap[w.heap.size+1]?=some (.loop (rec .done (some .ret)))∧W.heap[w.heap.size]?=some (.deferred (some [])))
  (fun k W h=>hc k W h.1) ?_ W1 ⟨hI _ _ _ h0 hb1,hL1,hK1⟩).mono ?_
 · rintro k W ⟨hi,hl,hk⟩ hkl hin
   have hlt:w.heap.size+1<W.heap.size:=(Xk.1 hl).1
   have hy:=run_yield (P:=Tryz.prog) (args:=#[Value.int .i64 (d0+st * k)]) hl (by rw [hrec];simp [hps])
   rw [hrec] at hy
   refine ⟨fn,_,assign,body,hy,roundIn_of_wpIn hfn (hassign _ _ W _ ⟨_,run_beginRound hl (by rw [hrec]),?_⟩)⟩
   have hl2:(W.putObj (w.heap.size+1) (.loop { rec .ready none with state:=.busy })).heap[w.heap.size+1]?=some (.loop { rec .ready none with state:=.busy }):=World.putObj_heap_same hlt
   have hk2:(W.putObj (w.heap.size+1) (.loop { rec .ready none with state:=.busy })).heap[w.heap.size]?=some (.deferred (some [])):=(World.putObj_heap_other (by omega)).trans hk
   refine wpIn_mono (hbody _ k _ (hI _ _ _ hi (bput _ _ _ (by omega))) hkl hin) ?_
   have fin:∀ (jump:Option Code) (W3:World),(∀ b,w.heap.size≤b→b<(W.putObj (w.heap.size+1) (.loop { rec .ready none with state:=.busy })).heap.size→W3.heap[b]?=(W.putObj (w.heap.size+1) (.loop { rec .ready none with state:=.busy })).heap[b]?)→
    (Instr.endRound (w.heap.size+1) jump).run Tryz.prog W3=.ok (.bool jump.isNone) (W3.putObj (w.heap.size+1) (.loop (rec (if jump.isNone then .ready else .done) jump)))∧
    (W3.putObj (w.heap.size+1) (.loop (rec (if jump.isNone then .ready else .done) jump))).heap[w.heap.size+1]?=some (.loop (rec (if jump.isNone then .ready else .done) jump))∧
    (W3.putObj (w.heap.size+1) (.loop (rec (if jump.isNone then .ready else .done) jump))).heap[w.heap.size]?=some (.deferred (some [])):=fun jump W3 hk3=>by
    have hl3:=(hk3 (w.heap.size+1) (by omega) (by simp;omega)).trans hl2
    have hk4:=(hk3 w.heap.size (by omega) (by simp;omega)).trans hk2
    have:=run_endRound (P:=Tryz.prog) jump hl3
    rw [hrec] at this ⊢
    exact ⟨this,World.putObj_heap_same (Xk.1 hl3).1,(World.putObj_heap_other (by omega)).trans hk4⟩
   rintro e a3 W3 ⟨hk3,hp⟩
   cases e with
   | normal=>
     obtain ⟨hr,hl4,hk4⟩:=fin none W3 hk3
     have hi4:=hI' _ _ _ hp (bput W3 (w.heap.size+1) (.loop (rec .ready none)) (by omega))
     obtain ⟨p1,p2,p3⟩:=hc' _ _ hi4
     refine ⟨_,_,hr,.inl ⟨rfl,p1,p2,p3,hstep _ _ hi4,?_,?_⟩⟩
     exact (Below.heap_setCell _ ⟨bd,0,none⟩ _ _ (by show w.heap.size+1≠bd;omega)).trans hl4
     exact (Below.heap_setCell _ ⟨bd,0,none⟩ _ _ (by show w.heap.size≠bd;omega)).trans hk4
   | ret=>
     obtain ⟨hr,hl4,hk4⟩:=fin (some .ret) W3 hk3
     exact ⟨_,_,hr,.inr ⟨rfl,hIx _ _ hp (bput W3 (w.heap.size+1) _ (by omega)),hl4,hk4⟩⟩
   | exit id=>exact hp.elim
   | goto t=>exact hp.elim
   | panic ch=>exact hp.elim
   | outgrown=>exact hp.elim
 rintro e W2 ⟨⟨v,rfl⟩,(⟨k,hke,hi,hl,hk⟩|⟨hi,hl,hk⟩)⟩
 exact ⟨none,_,by have:=run_endLoop (P:=Tryz.prog) hl (by rw [hrec];simp);rw [hrec] at this;exact this,hdone _ k _ (Xl _) hke (hI _ _ _ hi (bput _ _ _ (by omega))) ((World.putObj_heap_other (by omega)).trans hk)⟩
 refine ⟨some .ret,_,by have:=run_endLoop (P:=Tryz.prog) hl (by rw [hrec];simp);rw [hrec] at this;exact this,?_⟩
 exact wpIn_ret (hstop _ _ (Xl _) (hIx _ _ hi (bput _ _ _ (by omega))) ((World.putObj_heap_other (by omega)).trans hk))
theorem ZeR (d st:Int) (w:World):CC 311 #[.int .i64 d,.int .i64 st] w fun r w'=>∃ b2 b3,r=.func (.func 328) #[] #[.pointer (some ⟨b2,0,none⟩),.pointer (some ⟨b3,0,none⟩)]∧w.heap.size≤b2∧b2<b3∧Blk w' b2 3 [.int .i64 d]∧Blk w' b3 3 [.int .i64 st]∧Stp [] w w':=by
 refine cW2 6 Tryz.func311 ?_
 refine W ?_
 refine Z1 (Zo rfl) rfl ?_
 rintro _ w1 ⟨b2,rfl,hb2,k2,hS⟩
 replace k2:Blk w1 b2 3 [.int .i64 d]:=k2
 refine Z1 (Zo rfl) rfl ?_
 rintro _ w2 ⟨b3,rfl,hb3,k3,hS2⟩
 replace k3:Blk w2 b3 3 [.int .i64 st]:=k3
 have:=k2.lt
 replace k2:=k2.up hS2
 refine W ?_
 refine WR ?_
 exact .mk ⟨b2,b3,rfl,hb2,by omega,k2,k3,hS.trans hS2⟩
theorem Z5r {P:Program} {t b:Nat} {D:TypeDesc} {u:Value} {w:World} [hu:Und P t D] (hA:Z06 D=false) (hc:w.cell? ⟨b,0,none⟩=some u):(loadVar t ⟨b,0,none⟩).run P w=.ok u w:=by
 simp [loadVar,Und.isAgg,hA,hc]
theorem Z8l (b:Nat) (v:Value) (w:World):Stp [b] w (w.setCell ⟨b,0,none⟩ v):=⟨rfl,rfl,rfl,(KeepsOthers.setCell w ⟨b,0,none⟩ v).size,fun k hk hn=>Below.heap_setCell w ⟨b,0,none⟩ v k (fun e=>hn (by simp [e]))⟩
theorem Z4t (opn:Int→Bool) (st:Int):∀ (m:Nat) (d:Int) (k:Nat),(∀ j:Nat,j<k→opn (d+st * j)=false)→(m≤k∨Zx (d+st * k)=false)→Z1I opn st m d=(0,31)
 | 0,d,k,_,_=>rfl
 | m + 1, d, k, h, hk => by
   unfold Z1I
   cases hd:Zx d with
   | false=>rfl
   | true=>
     rw [if_pos rfl]
     cases k with
     | zero=>
       rcases hk with hk|hk
       omega
       rw [show d+st * ((0:Nat):Int)=d by simp,hd] at hk
       cases hk
     | succ k=>
       have h0:=h 0 (by omega)
       rw [show d+st * ((0:Nat):Int)=d by simp] at h0
       rw [if_neg (by rw [h0];simp)]
       have es:∀ j:Nat,d+st+st * (j:Int)=d+st * ((j+1:Nat):Int):=fun j=>by
        rw [Int.natCast_add,Int.mul_add];simp;omega
       exact Z4t opn st m (d+st) k (fun j hj=>by rw [es];exact h (j+1) (by omega)) (hk.imp (fun h=>by omega) (fun h=>by rw [es];exact h))
theorem Z6s (opn:Int→Bool) (st:Int):∀ (m:Nat) (d:Int) (k:Nat),k<m→(∀ j:Nat,j≤k→Zx (d+st * j)=true)→(∀ j:Nat,j<k→opn (d+st * j)=false)→opn (d+st * k)=true→Z1I opn st m d=(d+st * k,0)
 | 0,d,k,h,_,_,_=>absurd h (Xy _)
 | m + 1, d, k, hkm, hi, h, ho => by
   have hd:=hi 0 (Xo _)
   rw [show d+st * ((0:Nat):Int)=d by simp] at hd
   unfold Z1I
   rw [hd,if_pos rfl]
   cases k with
   | zero=>
     rw [show d+st * ((0:Nat):Int)=d by simp] at ho ⊢
     rw [if_pos ho]
   | succ k=>
     have h0:=h 0 (by omega)
     rw [show d+st * ((0:Nat):Int)=d by simp] at h0
     rw [if_neg (by rw [h0];simp)]
     have es:∀ j:Nat,d+st+st * (j:Int)=d+st * ((j+1:Nat):Int):=fun j=>by
      rw [Int.natCast_add,Int.mul_add];simp;omega
     rw [← es]
     exact Z6s opn st m (d+st) k (by omega) (fun j hj=>by rw [es];exact hi (j+1) (by omega)) (fun j hj=>by rw [es];exact h (j+1) (by omega)) (by rw [es];exact ho)
theorem ZbE {W:World} {b8 b9:Nat} {u v:Value} (c8:W.cell? ⟨b8,0,none⟩=some u) (c9:W.cell? ⟨b9,0,none⟩=some v) (n:b8≠b9) (x y:Value) :
 ((W.setCell ⟨b8,0,none⟩ x).setCell ⟨b9,0,none⟩ y).cell? ⟨b8,0,none⟩=some x∧((W.setCell ⟨b8,0,none⟩ x).setCell ⟨b9,0,none⟩ y).cell? ⟨b9,0,none⟩=some y:=by
 have h1:(W.setCell ⟨b8,0,none⟩ x).cell? ⟨b8,0,none⟩=some x:=World.cell?_setCell_same _ _ _ c8
 have h2:(W.setCell ⟨b8,0,none⟩ x).cell? ⟨b9,0,none⟩=some v:=(World.cell?_setCell_other _ _ _ _ (fun h=>n (by injection h))).trans c9
 exact ⟨(World.cell?_setCell_other _ _ _ _ (fun h=>n (by injection h with h;exact h.symm))).trans h1,World.cell?_setCell_same _ _ _ h2⟩
theorem Z4u (b8 b9:Nat) (x y:Value) (w:World):Stp [b8,b9] w ((w.setCell ⟨b8,0,none⟩ x).setCell ⟨b9,0,none⟩ y):=((Z8l b8 x w).mono (S':=[b8,b9]) (by simp)).trans ((Z8l b9 y _).mono (by simp))
theorem ZaJ {tmps:Array Value} {W:World} {b8 b9:Nat} {x y:Value} (h8:tmps.getD 8 undef=.pointer (some ⟨b8,0,none⟩)) (h9:tmps.getD 9 undef=.pointer (some ⟨b9,0,none⟩)) (c8:W.cell? ⟨b8,0,none⟩=some x) (c9:W.cell? ⟨b9,0,none⟩=some y) :
 (results Tryz.f284 tmps).run Tryz.prog W=.ok (.tuple #[x,y]) W:=by
 rw [Xv] at h8 h9
 have l8:=Z5r (P:=Tryz.prog) (t:=3) (hu:=(inferInstance:Und Tryz.prog 3 (.int .i64))) rfl c8
 have l9:=Z5r (P:=Tryz.prog) (t:=41) (hu:=(inferInstance:Und Tryz.prog 41 (.int .i64))) rfl c9
 simp [results,h8,h9,asAddr,l8,l9]
set_option maxRecDepth 100000 in
set_option maxHeartbeats 2000000 in
theorem ZeS (d kn st:Int) (hst:st=1∨st=-1) (c:Cal) (hv cv zo zs hr:Value) (w:World) (h:Z1m w c hv cv zo zs hr) :
 CallsIn Fence.wide 5 Tryz.prog 284 #[Z15 c hv cv zo zs hr,.int .i64 d,.int .i64 kn,.int .i64 st] w fun e W'=>e=.returned (.tuple #[.int .i64 (J4 (Zj c kn) st d).1,.int .i64 (J4 (Zj c kn) st d).2])∧Stp [] w W':=by
 refine callsIn_of_wp_marks Tryz.func284 rfl trivial ?_ rfl
 simp only [Tryz.ntmps284,Yaa,Xc,Xd,Nat.reduceAdd,Nat.reduceSub,Array.replicate_succ,Array.replicate_zero,List.push_toArray,List.append_toArray,XL,XN]
 gi_wp2
 obtain ⟨W1,hW1⟩:∃ W1,W1=((w.alloc (.cells (Jm c hv cv zo zs hr).toArray 37)).alloc (.cells #[.int .i64 0] 3)).alloc (.cells #[.int .i64 0] 41):=⟨_,rfl⟩
 rw [← hW1]
 have kc:Blk W1 w.heap.size 37 (Jm c hv cv zo zs hr):=by
  rw [hW1]
  exact (Blk.up (World.alloc_heap_new w _) (Stp.alloc _ _ _)).up (Stp.alloc _ _ _)
 have k8:Blk W1 (w.heap.size+1) 3 [.int .i64 0]:=by
  rw [hW1]
  have:=World.alloc_heap_new (w.alloc (.cells (Jm c hv cv zo zs hr).toArray 37)) (.cells #[.int .i64 0] 3)
  rw [World.size_alloc] at this
  exact Blk.up this (Stp.alloc _ _ _)
 have k9:Blk W1 (w.heap.size+1+1) 41 [.int .i64 0]:=by
  rw [hW1]
  have:=World.alloc_heap_new ((w.alloc (.cells (Jm c hv cv zo zs hr).toArray 37)).alloc (.cells #[.int .i64 0] 3)) (.cells #[.int .i64 0] 41)
  rw [World.size_alloc,World.size_alloc] at this
  exact this
 have hS1:Stp [] w W1:=by
  rw [hW1]
  exact ((Stp.alloc _ _ _).trans (Stp.alloc _ _ _)).trans (Stp.alloc _ _ _)
 have hB8:w.heap.size≤w.heap.size+1:=by omega
 have hB9:w.heap.size≤w.heap.size+1+1:=by omega
 generalize hb9:w.heap.size+1+1=b9 at *
 generalize hb8:w.heap.size+1=b8 at *
 generalize hb4:w.heap.size=b4 at *
 clear hW1
 have n89:b8≠b9:=by omega
 have c8:=Boxed.cell (show Boxed W1 b8 3 (.int .i64 0) from k8)
 have f8:=Boxed.frozen (show Boxed W1 b8 3 (.int .i64 0) from k8)
 have c9:=Boxed.cell (show Boxed W1 b9 41 (.int .i64 0) from k9)
 have f9:=Boxed.frozen (show Boxed W1 b9 41 (.int .i64 0) from k9)
 refine ⟨trivial,?_⟩
 refine (callsIn_wide.2 (Z3d d W1)).mono ?_
 rintro e w' ⟨v,rfl,rfl,rfl⟩
 cases hd:Zx d with
 | false=>
   gi_wp2
   have hfd:J4 (Zj c kn) st d=(0,5):=by unfold J4;rw [hd];rfl
   obtain ⟨g8,g9⟩:=ZbE c8 c9 n89 (.int .i64 0) (.int .i64 5)
   refine ⟨_,ZaJ rfl rfl g8 g9,?_,?_⟩
   rw [hfd]
   exact hS1.own (Z4u b8 b9 _ _ _) (fun x hx=>by simp at hx;omega)
 | true=>
   have q:=fun (j:Nat) (u:Value) (hu:(Jm c hv cv zo zs hr)[j]?=some u)=>kc.cell hu
   have q0:=q 0 _ rfl
   have q1:=q 1 _ rfl
   have q2:=q 2 _ rfl
   have q3:=q 3 _ rfl
   have q4:=q 4 _ rfl
   have q5:=q 5 _ rfl
   have q6:=q 6 _ rfl
   have q7:=q 7 _ rfl
   have q8:=q 8 _ rfl
   have q9:=q 9 _ rfl
   have q10:=q 10 _ rfl
   have q11:=q 11 _ rfl
   gi_wp2
   refine ⟨trivial,?_⟩
   refine (callsIn_wide.2 (ZeP kn c hv cv zo zs hr w')).mono ?_
   rintro e W2 ⟨v,rfl,⟨b2,b3,rfl,k2,k3⟩,hS2⟩
   have f8':=Boxed.frozen (show Boxed W2 b8 3 (.int .i64 0) from k8.up hS2)
   have f9':=Boxed.frozen (show Boxed W2 b9 41 (.int .i64 0) from k9.up hS2)
   have c8':=Boxed.cell (show Boxed W2 b8 3 (.int .i64 0) from k8.up hS2)
   have c9':=Boxed.cell (show Boxed W2 b9 41 (.int .i64 0) from k9.up hS2)
   have cN:=Boxed.cell (Boxed.new W2 184 .nilFunc)
   have fN:=Boxed.frozen (Boxed.new W2 184 .nilFunc)
   have hstr:(store ⟨W2.heap.size,0,none⟩ (.func (.func 237) #[] #[.pointer (some ⟨b2,0,none⟩),.pointer (some ⟨b3,0,none⟩)])).run Tryz.prog (W2.alloc (.cells #[.nilFunc] 184))=.ok () ((W2.alloc (.cells #[.nilFunc] 184)).setCell ⟨W2.heap.size,0,none⟩ (.func (.func 237) #[] #[.pointer (some ⟨b2,0,none⟩),.pointer (some ⟨b3,0,none⟩)])):=by
    rw [run_store _ _ _ _ _ rfl]
    simp [cN,fN]
   gi_wp2
   refine ⟨trivial,?_⟩
   refine (callsIn_wide.2 (ZeR d st _)).mono ?_
   rintro e W3 ⟨v,rfl,bd,bs,rfl,hbd,hbs,kd,ks,hS3⟩
   have hcl:W3.cell? ⟨W2.heap.size,0,none⟩=some (.func (.func 237) #[] #[.pointer (some ⟨b2,0,none⟩),.pointer (some ⟨b3,0,none⟩)]):=hS3.cell (by simp) (Boxed.cell (Boxed.new W2 184 _))
   have hSx:Stp [] W2 W3:=(Stp.alloc [] W2 _).trans hS3
   gi_wp2
   have hSw:Stp [] w' W3:=hS2.trans hSx
   have h3:=(h.up hS1).up hSw
   have hb2l:=(k2.up hSx).lt
   have k2':=k2.up hSx
   have k3':=k3.up hSx
   have k8':=k8.up hSw
   have k9':=k9.up hSw
   have hW2z:=hSx.size
   have hcz:W2.heap.size<W3.heap.size:=by have:=block_lt_of_cell hcl;simpa using this
   have hbdz:W2.heap.size<bd:=by simp at hbd;omega
   have k8l:=(k8.up hS2).lt
   have k9l:=(k9.up hS2).lt
   have k2l:=k2.lt
   have k3l:=k3.lt
   have h00:=(Zy.1 hd).1
   have h01:=(Zy.1 hd).2
   have hbdw:w.heap.size≤bd:=by have:=hS1.size;have:=hSw.size;have:=hS2.size;omega
   have g1:1<w.heap.size:=by have:=block_lt_of_cell (h.len 0 0 rfl);simpa using this
   have g2:3<w.heap.size:=by have:=block_lt_of_cell (h.mov 0 0 rfl);simpa using this
   have hhx:=h.hols.ext (X':=[bd]) (hS1.trans hSw) (by simp) (fun b hb=>.inr (by simp at hb;omega))
   have hcx:=h.clos.ext (X':=[bd]) (hS1.trans hSw) (by simp) (fun b hb=>.inr (by simp at hb;omega))
   have hzw:=(hS1.trans hSw).size
   have cal:∀ W,Stp [bd] W3 W→Z1m W c hv cv zo zs hr:=fun W hS=>⟨hhx.ext (X':=[]) hS (fun b hb=>hb) (by simp),hcx.ext (X':=[]) hS (fun b hb=>hb) (by simp),h3.len.ext hS (by simp;omega),h3.mov.ext hS (by simp;omega),h.ok⟩
   have sb:∀ {S:List Nat} {W W':World},Stp S W3 W→Below W3.heap.size W W'→Stp S W3 W':=fun hS hB=>⟨hB.os.trans hS.os,hB.tape.trans hS.tape,hB.output.trans hS.output,Xj hS.size hB.size,fun i hi hn=>(hB.block i hi).trans (hS.block i hi hn)⟩
   have hkd:=kd.lt
   have hks:=ks.lt
   refine ZaI (by omega) rfl rfl hst h00 h01 kd.lt
    (fun k W=>Stp [bd] W3 W∧Boxed W bd 3 (.int .i64 (d+st * k))∧∀ j:Nat,j<k→Zj c kn (d+st * j)=false)
    (fun k W=>(Stp [bd] W3 W∧Boxed W bd 3 (.int .i64 (d+st * k))∧∀ j:Nat,j<k→Zj c kn (d+st * j)=false)∧Zj c kn (d+st * k)=false)
    (fun W=>Stp [bd,b8,b9] W3 W∧∃ k:Nat,k≤1000∧Zx (d+st * k)=true∧(∀ j:Nat,j<k→Zj c kn (d+st * j)=false)∧Zj c kn (d+st * k)=true∧W.cell? ⟨b8,0,none⟩=some (.int .i64 (d+st * k))∧W.cell? ⟨b9,0,none⟩=some (.int .i64 0))
    ?hI ?hI' ?hIx ?hc ?hc' ?hstep ?h0 (fun X=>{ tmps:=#[Z15 c hv cv zo zs hr,.int .i64 d,.int .i64 kn,.int .i64 st,.pointer (some ⟨b4,0,none⟩),undef,undef,undef,.pointer (some ⟨b8,0,none⟩),.pointer (some ⟨b9,0,none⟩),.pointer (some ⟨W2.heap.size,0,none⟩),.int .i64 X,.int .i64 d,.bool true,.bool false,Z15 c hv cv zo zs hr,.int .i64 kn,.func (.func 237) #[] #[.pointer (some ⟨b2,0,none⟩),.pointer (some ⟨b3,0,none⟩)],.int .i64 d,.int .i64 st,.func (.func 328) #[] #[.pointer (some ⟨bd,0,none⟩),.pointer (some ⟨bs,0,none⟩)],.int .i64 X,undef,undef,undef,undef,undef],defers:=[] }) ?hassign ?hbody ?hdone ?hstop
   case hI=>exact fun k W W' ⟨a,b,e⟩ hB=>⟨sb a hB,(hB.block bd hkd).trans b,e⟩
   case hI'=>exact fun k W W' ⟨⟨a,b,e⟩,f⟩ hB=>⟨⟨sb a hB,(hB.block bd hkd).trans b,e⟩,f⟩
   case hIx=>exact fun W W' ⟨a,k,p1,p2,p3,p4,p5,p6⟩ hB=>⟨sb a hB,k,p1,p2,p3,p4,(World.cell?_of_block (hB.block b8 (by omega))).trans p5,(World.cell?_of_block (hB.block b9 (by omega))).trans p6⟩
   case hc=>exact fun k W ⟨a,b,e⟩=>⟨b.cell,a.cell (by simp;omega) (ks.cell rfl)⟩
   case hc'=>exact fun k W ⟨⟨a,b,e⟩,f⟩=>⟨b.cell,b.frozen,a.cell (by simp;omega) (ks.cell rfl)⟩
   case hstep=>
    rintro k W ⟨⟨a,b,e⟩,f⟩
    have e1:d+st * ((k+1:Nat):Int)=d+st * k+st:=by rcases hst with rfl|rfl<;>omega
    refine ⟨a.trans (Z8l bd _ _),by rw [e1];exact b.set _,fun j hj=>?_⟩
    by_cases hjk:j=k
    subst hjk;exact f
    exact e j (by omega)
   case h0=>exact ⟨Stp.refl _ _,by rw [show d+st * ((0:Nat):Int)=d by simp];exact kd,fun j hj=>absurd hj (Xy _)⟩
   case hassign=>
    intro l X W K hK
    gi_wp2
    exact hK
   case hbody=>
    rintro l k W ⟨a,bx,e⟩ hkl hin
    have hclw:=a.cell (b:=W2.heap.size) (o:=0) (by simp;omega) hcl
    obtain ⟨x0,x1⟩:=Zy.1 hin
    gi_wp2
    refine ⟨trivial,(CallsIn.inRound l (callsIn_wide.2 (ZcI (d+st * k) kn b2 b3 c hv cv zo zs hr W (cal W a) (k2'.ext a (by simp;omega)) (k3'.ext a (by simp;omega)) x0 x1))).mono ?_⟩
    rintro e5 W5 ⟨v,rfl,rfl,hS5⟩
    have a5:=a.trans (hS5.mono (by simp))
    cases hsh:Z9k c kn (d+st * k) with
    | true=>
      gi_wp2
      exact ⟨fun b h1 h2=>hS5.block b h2 (by simp),⟨Blk.up (show Blk W bd 3 [.int .i64 (d+st * k)] from bx) hS5,e⟩,by unfold Zj;rw [hin,hsh];rfl⟩
    | false=>
      have f8:=Boxed.frozen (show Boxed W5 b8 3 (.int .i64 0) from k8'.ext a5 (by simp;omega))
      have f9:=Boxed.frozen (show Boxed W5 b9 41 (.int .i64 0) from k9'.ext a5 (by simp;omega))
      have c8:=Boxed.cell (show Boxed W5 b8 3 (.int .i64 0) from k8'.ext a5 (by simp;omega))
      have c9:=Boxed.cell (show Boxed W5 b9 41 (.int .i64 0) from k9'.ext a5 (by simp;omega))
      gi_wp2
      exact ⟨fun b h1 h2=>((Z4u b8 b9 _ _ W5).block b (Xb h2 hS5.size) (by simp;omega)).trans (hS5.block b h2 (by simp)),(a5.mono (by simp)).trans ((Z4u b8 b9 _ _ W5).mono (by simp)),k,hkl,hin,e,by unfold Zj;rw [hin,hsh];rfl,rfl⟩
   case hdone=>
    rintro D k W hD hke ⟨a,bx,e⟩ hdef
    have f8:=Boxed.frozen (show Boxed W b8 3 (.int .i64 0) from k8'.ext a (by simp;omega))
    have f9:=Boxed.frozen (show Boxed W b9 41 (.int .i64 0) from k9'.ext a (by simp;omega))
    have c8:=Boxed.cell (show Boxed W b8 3 (.int .i64 0) from k8'.ext a (by simp;omega))
    have c9:=Boxed.cell (show Boxed W b9 41 (.int .i64 0) from k9'.ext a (by simp;omega))
    gi_wp2
    obtain ⟨y8,y9⟩:=ZbE c8 c9 n89 (.int .i64 0) (.int .i64 31)
    have hdz:D<W.heap.size:=(Xk.1 hdef).1
    have hdef2:=((Z4u b8 b9 (.int .i64 0) (.int .i64 31) W).block D hdz (by simp;omega)).trans hdef
    have hfd:J4 (Zj c kn) st d=(0,31):=by
     unfold J4
     rw [hd,if_pos rfl]
     exact Z4t _ _ _ _ k e (hke.imp (fun h=>by omega) id)
    refine ⟨by simp,.inl ⟨_,_,rfl,run_takeDeferred hdef2,_,ZaJ rfl rfl ((World.cell?_of_block (World.putObj_heap_other (by show b8≠D;omega))).trans y8) ((World.cell?_of_block (World.putObj_heap_other (by show b9≠D;omega))).trans y9),?_,?_⟩⟩
    rw [hfd]
    have t1:=((hS1.trans hSw).own a (fun x hx=>.inr (by simp at hx;omega))).own (Z4u b8 b9 (.int .i64 0) (.int .i64 31) W) (fun x hx=>.inr (by simp at hx;omega))
    refine ⟨t1.os,t1.tape,t1.output,by simpa using t1.size,fun q hq hn=>(World.putObj_heap_other (by omega)).trans (t1.block q hq hn)⟩
   case hstop=>
    rintro D W hD ⟨a,k,p1,p2,p3,p4,p5,p6⟩ hdef
    gi_wp2
    obtain ⟨x0,x1⟩:=Zy.1 p2
    have hfd:J4 (Zj c kn) st d=(d+st * k,0):=by
     unfold J4
     rw [hd,if_pos rfl]
     refine Z6s _ _ _ _ k (by omega) (fun j hj=>Zy.2 ?_) p3 p4
     rcases hst with rfl|rfl<;>omega
    refine ⟨by simp,.inl ⟨_,_,rfl,run_takeDeferred hdef,_,ZaJ rfl rfl ((World.cell?_of_block (World.putObj_heap_other (by show b8≠D;omega))).trans p5) ((World.cell?_of_block (World.putObj_heap_other (by show b9≠D;omega))).trans p6),?_,?_⟩⟩
    rw [hfd]
    have t1:=(hS1.trans hSw).own a (fun x hx=>.inr (by simp at hx;omega))
    exact ⟨t1.os,t1.tape,t1.output,by simpa using t1.size,fun q hq hn=>(World.putObj_heap_other (by omega)).trans (t1.block q hq hn)⟩
theorem Z2D (d kn st:Int) (c:Cal) (hv cv zo zs hr:Value) (w:World) (h:Z1m w c hv cv zo zs hr) (hst:st=1∨st=-1) :
 CC 284 #[Z15 c hv cv zo zs hr,.int .i64 d,.int .i64 kn,.int .i64 st] w fun r w'=>r=.tuple #[.int .i64 (J4 (Zj c kn) st d).1,.int .i64 (J4 (Zj c kn) st d).2]∧Stp [] w w':=by
 refine Calls.mono (callsIn_wide.1 (ZeS d kn st hst c hv cv zo zs hr w h)) ?_
 rintro e W' ⟨rfl,hS⟩
 exact .mk ⟨rfl,hS⟩
theorem ZcJ (d kn:Int) (c:Cal) (hv cv zo zs hr:Value) (w:World) (h:Z1m w c hv cv zo zs hr) :
 CC 235 #[Z15 c hv cv zo zs hr,.int .i64 d,.int .i64 kn] w fun r w'=>r=.tuple #[.int .i64 (J4 (Zj c kn) (1) d).1,.int .i64 (J4 (Zj c kn) (1) d).2]∧Stp [] w w':=by
 refine cW3 14 Tryz.func235 ?_
 refine W ?_
 refine Z1 (Zo rfl) rfl ?_
 rintro _ w1 ⟨b3,rfl,hb3,hblk,hS⟩
 replace hblk:Blk w1 b3 37 (Jm c hv cv zo zs hr):=hblk
 replace h:=h.up hS
 refine W ?_
 refine CL rfl (Z1e rfl rfl rfl rfl) rfl (Z2D d kn (1) c hv cv zo zs hr _ h (by omega)) ?_
 rintro _ w2 ⟨rfl,hS2⟩
 refine W ?_
 refine WR ?_
 exact .mk ⟨rfl,hS.trans hS2⟩
theorem Z6M (d kn:Int) (c:Cal) (hv cv zo zs hr:Value) (w:World) (h:Z1m w c hv cv zo zs hr) :
 CC 236 #[Z15 c hv cv zo zs hr,.int .i64 d,.int .i64 kn] w fun r w'=>r=.tuple #[.int .i64 (J4 (Zj c kn) (-1) d).1,.int .i64 (J4 (Zj c kn) (-1) d).2]∧Stp [] w w':=by
 refine cW3 14 Tryz.func236 ?_
 refine W ?_
 refine Z1 (Zo rfl) rfl ?_
 rintro _ w1 ⟨b3,rfl,hb3,hblk,hS⟩
 replace hblk:Blk w1 b3 37 (Jm c hv cv zo zs hr):=hblk
 replace h:=h.up hS
 refine W ?_
 refine CL rfl (Z1e rfl rfl rfl rfl) rfl (Z2D d kn (-1) c hv cv zo zs hr _ h (by omega)) ?_
 rintro _ w2 ⟨rfl,hS2⟩
 refine W ?_
 refine WR ?_
 exact .mk ⟨rfl,hS.trans hS2⟩
theorem ZgO (d n kn:Int) (c:Cal) (hv cv zo zs hr:Value) (w:World) (h:Z1m w c hv cv zo zs hr) :
 CC 234 #[Z15 c hv cv zo zs hr,.int .i64 d,.int .i64 n,.int .i64 kn] w fun r w'=>r=.tuple #[.int .i64 (Z3w (Zj c kn) d n).1,.int .i64 (Z3w (Zj c kn) d n).2]∧Stp [] w w':=by
 refine cW4 46 Tryz.func234 ?_
 refine W ?_
 refine Z1 (Zo rfl) rfl ?_
 rintro _ w1 ⟨b4,rfl,hb4,hblk,hS⟩
 replace hblk:Blk w1 b4 37 (Jm c hv cv zo zs hr):=hblk
 replace h:=h.up hS
 refine W ?_
 refine CL rfl (Zm rfl) rfl (Z3d d _) ?_
 rintro _ w1 ⟨rfl,rfl⟩
 unfold Z3w
 cases hd:Zx d with
 | false=>
   rw [if_neg (by simp)]
   refine W ?_
   refine WR ?_
   exact .mk ⟨rfl,hS⟩
 | true=>
   rw [if_pos rfl]
   by_cases hn:n < -1000∨1000<n
   · rw [if_pos hn]
     repeat'(first|refine W1 ?_|omega|refine VG ?_ ?_<;>intro hg|refine VC ?_ ?_<;>intro hc)
     all_goals refine WR ?_
     all_goals exact .mk ⟨rfl,hS⟩
   rw [if_neg hn]
   by_cases hneg:n<0
   have hna:(n.natAbs:Int)=(-n):=by omega
   have hif:(if n<0 then (-1:Int) else 1)=-1:=by split<;>omega
   rw [hif]
   focus repeat'(first|refine W1 ?_|omega|refine VG ?_ ?_<;>intro hg|refine VC ?_ ?_<;>intro hc)
   refine Zr (σ:=Nat×Int) (fun q=>[(1,.int .i64 q.2),(3,.int .i64 kn),(4,.pointer (some ⟨b4,0,none⟩)),(10,.int .i64 (-1)),(28,.int .i64 (-n)),(29,.int .i64 (q.1:Int))])
    (fun q w'=>q.1≤n.natAbs∧Zx q.2=true∧Z1Z (Zj c kn) (-1) (n.natAbs - q.1) q.2=Z1Z (Zj c kn) (-1) n.natAbs d∧Stp [] w1 w') (fun q=>n.natAbs - q.1) (0,d) ⟨rfl,rfl,rfl,rfl,rfl,rfl,trivial⟩ ⟨Xo _,hd,rfl,Stp.refl _ _⟩ ?_
   rintro ⟨k,q⟩ w2 ⟨hk,hq,hfg,hS2⟩
   dsimp only at hk hq hfg ⊢
   have hblk2:=hblk.up hS2
   have h2:=h.up hS2
   have hqr:=Zy.1 hq
   by_cases hlt:k<n.natAbs
   have e1:n.natAbs - k=(n.natAbs - (k+1))+1:=by omega
   rw [e1,Z1Z] at hfg
   focus repeat'(first|refine W1 ?_|omega|refine VG ?_ ?_<;>intro hg|refine VC ?_ ?_<;>intro hc)
   refine CL rfl (Z1e rfl rfl rfl rfl) rfl (Z2D (q+(-1)) kn (-1) c hv cv zo zs hr _ h2 (by omega)) ?_
   rintro _ w3 ⟨rfl,hS3⟩
   by_cases he:(J4 (Zj c kn) (-1) (q+(-1))).2=0
   rw [if_pos he] at hfg
   rw [he]
   refine W ?_
   exact Zg (k+1,(J4 (Zj c kn) (-1) (q+(-1))).1) ⟨rfl,rfl,rfl,rfl,rfl,rfl,trivial⟩ ⟨by dsimp only;omega,(Z1l he).1,hfg,hS2.trans hS3⟩ (by dsimp only;omega)
   rw [if_neg he] at hfg
   focus repeat'(first|refine W1 ?_|omega|refine VG ?_ ?_<;>intro hg|refine VC ?_ ?_<;>intro hc)
   refine WR ?_
   rw [← hfg]
   exact .mk ⟨rfl,(hS.trans hS2).trans hS3⟩
   have e1:n.natAbs - k=0:=by omega
   rw [e1,Z1Z] at hfg
   focus repeat'(first|refine W1 ?_|omega|refine VG ?_ ?_<;>intro hg|refine VC ?_ ?_<;>intro hc)
   refine WR ?_
   rw [← hfg]
   exact .mk ⟨rfl,hS.trans hS2⟩
   have hna:(n.natAbs:Int)=n:=by omega
   have hif:(if n<0 then (-1:Int) else 1)=1:=by split<;>omega
   rw [hif]
   focus repeat'(first|refine W1 ?_|omega|refine VG ?_ ?_<;>intro hg|refine VC ?_ ?_<;>intro hc)
   refine Zr (σ:=Nat×Int) (fun q=>[(1,.int .i64 q.2),(3,.int .i64 kn),(4,.pointer (some ⟨b4,0,none⟩)),(10,.int .i64 (1)),(28,.int .i64 n),(29,.int .i64 (q.1:Int))])
    (fun q w'=>q.1≤n.natAbs∧Zx q.2=true∧Z1Z (Zj c kn) (1) (n.natAbs - q.1) q.2=Z1Z (Zj c kn) (1) n.natAbs d∧Stp [] w1 w') (fun q=>n.natAbs - q.1) (0,d) ⟨rfl,rfl,rfl,rfl,rfl,rfl,trivial⟩ ⟨Xo _,hd,rfl,Stp.refl _ _⟩ ?_
   rintro ⟨k,q⟩ w2 ⟨hk,hq,hfg,hS2⟩
   dsimp only at hk hq hfg ⊢
   have hblk2:=hblk.up hS2
   have h2:=h.up hS2
   have hqr:=Zy.1 hq
   by_cases hlt:k<n.natAbs
   have e1:n.natAbs - k=(n.natAbs - (k+1))+1:=by omega
   rw [e1,Z1Z] at hfg
   focus repeat'(first|refine W1 ?_|omega|refine VG ?_ ?_<;>intro hg|refine VC ?_ ?_<;>intro hc)
   refine CL rfl (Z1e rfl rfl rfl rfl) rfl (Z2D (q+(1)) kn (1) c hv cv zo zs hr _ h2 (by omega)) ?_
   rintro _ w3 ⟨rfl,hS3⟩
   by_cases he:(J4 (Zj c kn) (1) (q+(1))).2=0
   rw [if_pos he] at hfg
   rw [he]
   refine W ?_
   exact Zg (k+1,(J4 (Zj c kn) (1) (q+(1))).1) ⟨rfl,rfl,rfl,rfl,rfl,rfl,trivial⟩ ⟨by dsimp only;omega,(Z1l he).1,hfg,hS2.trans hS3⟩ (by dsimp only;omega)
   rw [if_neg he] at hfg
   focus repeat'(first|refine W1 ?_|omega|refine VG ?_ ?_<;>intro hg|refine VC ?_ ?_<;>intro hc)
   refine WR ?_
   rw [← hfg]
   exact .mk ⟨rfl,(hS.trans hS2).trans hS3⟩
   have e1:n.natAbs - k=0:=by omega
   rw [e1,Z1Z] at hfg
   focus repeat'(first|refine W1 ?_|omega|refine VG ?_ ?_<;>intro hg|refine VC ?_ ?_<;>intro hc)
   refine WR ?_
   rw [← hfg]
   exact .mk ⟨rfl,hS.trans hS2⟩
theorem Z6N (d n:Int) (w:World) (hL:Z0q w) (h0:0≤d) (h1:d≤3652058) :
 CC 233 #[.int .i64 d,.int .i64 n] w fun r w'=>r=.tuple #[.int .i64 (Z6a d n).1,.int .i64 (Z6a d n).2]∧Stp [] w w':=by
 obtain ⟨y1,y2,m1,m2,d1,d2,hday⟩:=Z3T h0 h1
 have hin:Zx d=true:=Zy.2 ⟨h0,h1⟩
 have g1:1<w.heap.size:=by have:=block_lt_of_cell (hL 0 0 rfl);simpa using this
 unfold Z6a
 refine cW2 56 Tryz.func233 ?_
 by_cases hn:n < -200000∨200000<n
 · rw [if_pos hn]
   repeat'(first|refine W1 ?_|omega|refine VG ?_ ?_<;>intro hg|refine VC ?_ ?_<;>intro hc)
   all_goals refine WR ?_
   all_goals exact .mk ⟨rfl,Stp.refl _ _⟩
 rw [if_neg hn,if_pos hin]
 repeat'(first|refine W1 ?_|omega|refine VG ?_ ?_<;>intro hg|refine VC ?_ ?_<;>intro hc)
 refine CL rfl (Zm rfl) rfl (Z8k d _ h0 h1) ?_
 rintro _ w1 ⟨rfl,hS⟩
 replace hL:=hL.up hS
 refine W ?_
 refine Z1 Z7 rfl ?_
 rintro _ w2 ⟨b6,rfl,hb6,e6,hS2⟩
 refine W ?_
 refine Z2 (Z3 (us:=[.int .i64 (ofM d).y,.int .i64 (ofM d).m,.int .i64 (ofM d).d]) rfl rfl rfl rfl (by intro u hu;simp at hu;rcases hu with rfl|rfl|rfl<;>rfl) e6 rfl) ?_
 rintro _ w3 ⟨hT,k6⟩
 have hb6w:w.heap.size≤b6:=by have:=hS.size;omega
 replace hS:=hS.trans (hS2.own hT (fun c hc=>.inr (by simp at hc;omega)))
 replace hL:=hL.up (hS2.own hT (fun c hc=>.inr (by simp at hc;omega)))
 clear e6 hT hS2
 generalize hM:12 * (ofM d).y+(ofM d).m - 1+n=M
 by_cases hr:M<12∨120000≤M
 · rw [if_pos hr]
   refine W ?_
   rw [hM]
   repeat'(first|refine W1 ?_|omega|refine VG ?_ ?_<;>intro hg|refine VC ?_ ?_<;>intro hc)
   all_goals refine WR ?_
   all_goals exact .mk ⟨rfl,hS⟩
 rw [if_neg hr]
 have hl1:=Z0H (M / 12) (M % 12+1)
 have hl0:=Z0h (y:=M / 12) (k:=(M % 12).toNat) (by omega)
 rw [show (((M % 12).toNat:Int))=M % 12 by omega] at hl0
 refine W ?_
 rw [hM]
 repeat'(first|refine W1 ?_|omega|refine VG ?_ ?_<;>intro hg|refine VC ?_ ?_<;>intro hc)
 refine Z2 (Ze (u:=.int .i64 (M / 12)) rfl rfl rfl rfl k6 (by simp)) ?_
 rintro _ w4 ⟨hS4,k6⟩
 refine W ?_
 refine Z2 (Ze (u:=.int .i64 (M % 12+1)) rfl rfl rfl rfl k6 (by simp)) ?_
 rintro _ w5 ⟨hS5,k6⟩
 replace hL:=(hL.ext hS4 (by simp;omega)).ext hS5 (by simp;omega)
 replace hS:=(hS.own hS4 (fun c hc=>.inr (by simp at hc;omega))).own hS5 (fun c hc=>.inr (by simp at hc;omega))
 clear hS4 hS5
 refine W ?_
 refine ZDr 10 [] [9] [(0,0),(1,1),(2,0),(3,1),(4,0),(5,1),(6,2),(7,0),(8,0),(9,2)] (fun w1 hS1=>?_)
 replace hL:=hL.up hS1
 replace k6:=k6.up hS1
 replace hS:=hS.trans hS1
 clear hS1
 refine D ?_
 refine Za rfl trivial (Z4 rfl (Zb rfl rfl) (Z2y (M / 12) (M % 12+1) _ hL (by omega) (by omega))) (fun _ _ h=>by rw [h.2];exact Stp.refl _ _) rfl ?_
 rintro _ _ ⟨rfl,rfl⟩
 refine D ?_
 refine Js rfl trivial (Ze (u:=.int .i64 (min (ofM d).d (Zs (M / 12) (M % 12+1)))) rfl rfl rfl rfl k6 (by simp)) rfl ?_
 rintro _ w6 ⟨hS6,k6⟩
 replace hS:=hS.own hS6 (fun c hc=>.inr (by simp at hc;omega))
 refine D ?_
 refine W ?_
 refine CL rfl (Zm rfl) rfl (Z3U (M / 12) (M % 12+1) (min (ofM d).d (Zs (M / 12) (M % 12+1))) _ (by omega) (by omega) (by omega) (by omega) (by omega) (by omega) (by omega)) ?_
 rintro _ w7 ⟨rfl,hS7⟩
 refine W ?_
 refine WR ?_
 exact .mk ⟨rfl,hS.trans hS7⟩
theorem ZgP (a b:Int) (w:World):(Instr.build 111 #[(0,.int .i64 a),(1,.int .i64 b)]).run Tryz.prog w=.ok (agg ((a,b):Spn)) w:=by kernel_rfl
theorem Z0T (d:Spn) (w:World):(Instr.buildSlice 45 1 #[(0,agg d)]).run Tryz.prog w=.ok (.slice (some ⟨w.heap.size,0,none⟩) 1 1) (w.alloc (.cells (Z9.enc d).toArray 111)):=by kernel_rfl
section
variable {K:MK} {w w':World} {sv pv:Value} {st:List Int} {sp:List Spn} {at_ er:Int} {dn:Bool}
theorem Mch.cal (hK:KOk K) (h:Mch K w sv pv st sp at_ er dn):Z1m w K.c K.hv K.cv K.zo K.zs K.hr:=
 ⟨(h.hols hK).ext (Stp.refl [] w) (by simp) (by simp),(h.clos hK).ext (Stp.refl [] w) (by simp) (by simp),h.len hK,h.mov hK,hK.cal⟩
theorem Mch.spans (hK:KOk K) (h:Mch K w sv pv st sp at_ er dn) {bs:Nat} (hk:K.nk=some bs) {pv':Value} {sp':List Spn} {w2:World} (hS:Stp (ob pv) w w') (hr:Row [] w' K.w0.heap.size 111 pv' sp') (ho:∀ b∈ob pv',b∈ob pv∨w.heap.size≤b)
 (hS2:Stp [bs] w' w2) (hb:Blk w2 bs 45 [pv']):Mch K w2 sv pv' st sp' at_ er dn:=by
 have hbm:=hK.bml
 have hn:=hK.nkl bs hk
 obtain ⟨h1,h2⟩:=h.nt bs hk
 have hge:=fun b hb=>(hr.ob_le b hb).1
 have hge0:=fun b hb=>(h2.ob_le b hb).1
 have hges:=fun b hb=>(h.row.ob_le b hb).1
 have hlts:=fun b hb=>(h.row.ob_le b hb).2
 refine ⟨(h.blk.ext hS (fun hx=>by have:=hge0 _ hx;omega)).ext hS2 (by have:=hn.2;simp;exact fun e=>this e.symm),(h.row.keep hS (fun b hb hp=>h.ap b hp hb)).keep hS2 (fun b hb hx=>by have:=hges _ hx;simp at hb;omega),fun bs' hbs=>?_,(fun h0=>by rw [hk] at h0;cases h0),fun b hb hp=>?_,?_,fun p hp=>?_⟩
 have hbs:bs'=bs:=by rw [hk] at hbs;exact (XP hbs).symm
 subst hbs
 exact ⟨hb,hr.keep hS2 (fun b hb hx=>by have:=hge _ hx;simp at hb;omega)⟩
 rcases ho b hp with h3|h3
 exact h.ap b hb h3
 have:=hlts b hb
 omega
 exact (h.stp.own (S':=ob pv) hS (fun b hb=>.inr (hge0 b hb))).trans (hS2.mono (by simp [MK.own,hk]))
 obtain ⟨a,b,c,d⟩:=h.prot p hp
 have hlt:=(Xk.1 a).1
 have a2:=(hS.block p.1 hlt d).trans a
 have a3:=(hS2.block p.1 (Xk.1 a2).1 (fun e=>b (by simp at e;rw [e];simp [MK.own,hk]))).trans a2
 exact ⟨a3,b,c,fun h3=>(ho _ h3).elim d (fun h4=>by omega)⟩
theorem ZcK (a b:Int) (w:World):CC 57 #[.int .i64 a,.int .i64 b] w fun r w'=>r=.tuple #[]∧w'=w:=by
 refine cW2 4 Tryz.func57 ?_
 refine W ?_
 refine WR ?_
 exact .mk ⟨rfl,rfl⟩
theorem ZcL (hK:KOk K) (h:Mch K w sv pv st sp at_ er dn) {bs:Nat} (hk:K.nk=some bs) (a b:Int) (hl:sp.length≤100000) :
 CC 78 #[.int .i64 a,.int .i64 b,.pointer (some ⟨bs,0,none⟩)] w fun r w'=>r=.tuple #[]∧∃ pv',Mch K w' sv pv' st (sp++[(a,b)]) at_ er dn:=by
 obtain ⟨hblk,hrow⟩:=h.nt bs hk
 have hn:=hK.nkl bs hk
 have hge0:=fun b hb=>(hrow.ob_le b hb).1
 refine cW3 11 Tryz.func78 ?_
 refine W ?_
 refine Z6 (vs:=[(0,.int .i64 a),(1,.int .i64 b)]) rfl (ZgP _ _) rfl ?_
 refine Z1 (Z0 (vs:=[(0,agg ((a,b):Spn))]) rfl (Z0T _)) rfl ?_
 rintro bv w1 hN
 have hS1:=Z5.stp hN
 have hbv:SlV (ob pv++[]) w1 bv [((a,b):Spn)]:=hN.slv (fun b hb=>by simp at hb;exact (hrow.ob_le b hb).2) rfl rfl (by simp [maxLen])
 replace h:=h.up hS1
 replace hrow:=hrow.up hS1
 replace hblk:=hblk.up hS1
 refine Z1 (Jw rfl (by decide) rfl rfl hrow hbv (by simp;omega) (by simp [maxLen];omega) (h.stp.size)) rfl ?_
 rintro pv' w2 ⟨hr2,hS2,ho⟩
 have hblk2:=hblk.ext hS2 (fun hx=>by have:=hge0 _ hx;omega)
 refine W ?_
 have h1:=hr2.slv (X:=[]) (by simp)
 refine Z2 (Ze (u:=pv') rfl rfl h1.cells h1.one hblk2 (by simp)) ?_
 rintro _ w3 ⟨hS3,hblk3⟩
 refine W ?_
 refine WR ?_
 exact .mk ⟨rfl,pv',h.spans hK hk hS2 hr2 ho hS3 hblk3⟩
theorem Z5G {P:Nat} {e:Env} {d:Option Nat} {ty:TypeId} {pos:String} {af:Array Edge} {g:Option (Nat×Bool)} {x y z:Operand} {ts:Array TypeId} (hK:KOk K) (h:Mch K w sv pv st sp at_ er dn) {a b:Int} (hl:sp.length≤100000)
 (hx:ev e x=some (Zho K.nk)) (hy:ev e y=some (.int .i64 a)) (hz:ev e z=some (.int .i64 b)) :
 OE Tryz.prog P ⟨d,.call { callee:=.value x,args:=#[y,z],argTypes:=ts },ty,pos,af,g⟩ e w (fun v w'=>v=.tuple #[]∧∃ pv',Mch K w' sv pv' st (sp++[(a,b)]) at_ er dn):=by
 cases hk:K.nk with
 | none=>
   rw [hk] at hx
   refine (Z4 (f:=57) hx (Zb hy hz) (ZcK a b w)).mono ?_
   rintro _ w' ⟨rfl,rfl⟩
   refine ⟨rfl,pv,h.blk,h.row,fun bs hbs=>?_,h.nt0,h.ap,h.stp,h.prot⟩
   rw [hk] at hbs
   cases hbs
 | some bs=>
   rw [hk] at hx
   exact Z2N (f:=78) hx (Zb hy hz) rfl (ZcL hK h hk a b hl)
theorem Res.err {r:Int×Int} {st':List Int} {sp':List Spn} (h:Res K w st sp at_ r) (he:¬ r.2=0):Res K w st' sp' at_ r:=by
 obtain ⟨a,b,c,d,h1,h2⟩:=h
 exact ⟨a,b,c,d,h1,fun h0=>absurd h0 he⟩
theorem ZgQ (hK:KOk K) {a b:Int} (h:Mch K w sv pv (st++[a,b]) sp at_ 0 false) (hl:st.length≤100000) (n:Int) (hr:Zx a=true) :
 CC 151 #[mP K,.int .i64 n] w fun r w'=>r=.tuple #[]∧Res K w' st sp at_ (Z6a a b):=by
 obtain ⟨d0,d1⟩:=Zy.1 hr
 refine cW2 18 Tryz.func151 ?_
 refine W ?_
 refine CL rfl (Zm rfl) rfl (JM hK h) ?_
 rintro _ w1 ⟨rfl,sv1,h1⟩
 refine W ?_
 refine CL rfl (Zb rfl rfl) rfl (Z6N a b _ (h1.len hK) d0 d1) ?_
 rintro _ w2 ⟨rfl,hS⟩
 replace h1:=h1.up hS
 refine W ?_
 refine CL rfl (ZE rfl rfl rfl) rfl (Z05 hK h1 hl _ _) ?_
 rintro _ w3 ⟨rfl,h2⟩
 refine W ?_
 refine WR ?_
 exact .mk ⟨rfl,h2⟩
theorem ZnX (hK:KOk K) {b:Int} (h:Mch K w sv pv (st++[b]) sp at_ 0 false) (hl:st.length≤100000) (hlp:sp.length≤100000) (n:Int) :
 CC 153 #[mP K,.int .i64 n] w fun r w'=>r=.tuple #[]∧Res K w' st (sp++[(b,(J4 (Zj K.c K.kn) 1 b).1)]) at_ (J4 (Zj K.c K.kn) (1) b):=by
 refine cW2 35 Tryz.func153 ?_
 refine W ?_
 refine CL rfl (Zm rfl) rfl (Z1a hK h) ?_
 rintro _ w1 ⟨rfl,sv1,h1⟩
 refine W ?_
 refine ZDr 15 [] [] [(0,0),(1,0),(2,0),(3,1),(4,0),(5,0),(6,0),(7,0),(8,1),(9,2),(10,0),(11,0),(12,0),(13,0),(14,0)] (fun w1 hS1=>?_)
 replace h1:=h1.up hS1
 have hblk:=h1.blk
 unfold Z14 at hblk
 refine D ?_
 refine ZZ rfl trivial (fun w' hS'=>Jz (us:=Jm K.c K.hv K.cv K.zo K.zs K.hr) rfl rfl (hblk.up hS') rfl rfl) rfl ?_
 refine D ?_
 refine Za rfl trivial (Z4 rfl (ZE rfl rfl rfl) (ZcJ b K.kn K.c K.hv K.cv K.zo K.zs K.hr _ (h1.cal hK))) (fun _ _ h=>h.2) rfl ?_
 rintro _ w2 ⟨rfl,hS2⟩
 replace h1:=h1.up hS2
 replace hblk:=hblk.up hS2
 refine D ?_
 by_cases he:(J4 (Zj K.c K.kn) (1) b).2=0
 focus repeat'(first|refine W1 ?_|omega|refine VG ?_ ?_<;>intro hg|refine VC ?_ ?_<;>intro hc)
 refine Z1 (Z5G hK h1 hlp rfl rfl rfl) rfl ?_
 rintro _ w3 ⟨rfl,pv1,h2⟩
 refine W ?_
 refine CL rfl (ZE rfl rfl rfl) rfl (Z05 hK h2 hl _ _) ?_
 rintro _ w4 ⟨rfl,h3⟩
 refine W ?_
 refine WR ?_
 exact .mk ⟨rfl,h3⟩
 focus repeat'(first|refine W1 ?_|omega|refine VG ?_ ?_<;>intro hg|refine VC ?_ ?_<;>intro hc)
 refine CL rfl (ZE rfl rfl rfl) rfl (Z05 hK h1 hl _ _) ?_
 rintro _ w4 ⟨rfl,h3⟩
 refine W ?_
 refine WR ?_
 exact .mk ⟨rfl,h3.err he⟩
theorem ZnY (hK:KOk K) {b:Int} (h:Mch K w sv pv (st++[b]) sp at_ 0 false) (hl:st.length≤100000) (hlp:sp.length≤100000) (n:Int) :
 CC 154 #[mP K,.int .i64 n] w fun r w'=>r=.tuple #[]∧Res K w' st (sp++[((J4 (Zj K.c K.kn) (-1) b).1,b)]) at_ (J4 (Zj K.c K.kn) (-1) b):=by
 refine cW2 35 Tryz.func154 ?_
 refine W ?_
 refine CL rfl (Zm rfl) rfl (Z1a hK h) ?_
 rintro _ w1 ⟨rfl,sv1,h1⟩
 refine W ?_
 refine ZDr 15 [] [] [(0,0),(1,0),(2,0),(3,1),(4,0),(5,0),(6,0),(7,0),(8,1),(9,2),(10,0),(11,0),(12,0),(13,0),(14,0)] (fun w1 hS1=>?_)
 replace h1:=h1.up hS1
 have hblk:=h1.blk
 unfold Z14 at hblk
 refine D ?_
 refine ZZ rfl trivial (fun w' hS'=>Jz (us:=Jm K.c K.hv K.cv K.zo K.zs K.hr) rfl rfl (hblk.up hS') rfl rfl) rfl ?_
 refine D ?_
 refine Za rfl trivial (Z4 rfl (ZE rfl rfl rfl) (Z6M b K.kn K.c K.hv K.cv K.zo K.zs K.hr _ (h1.cal hK))) (fun _ _ h=>h.2) rfl ?_
 rintro _ w2 ⟨rfl,hS2⟩
 replace h1:=h1.up hS2
 replace hblk:=hblk.up hS2
 refine D ?_
 by_cases he:(J4 (Zj K.c K.kn) (-1) b).2=0
 focus repeat'(first|refine W1 ?_|omega|refine VG ?_ ?_<;>intro hg|refine VC ?_ ?_<;>intro hc)
 refine Z1 (Z5G hK h1 hlp rfl rfl rfl) rfl ?_
 rintro _ w3 ⟨rfl,pv1,h2⟩
 refine W ?_
 refine CL rfl (ZE rfl rfl rfl) rfl (Z05 hK h2 hl _ _) ?_
 rintro _ w4 ⟨rfl,h3⟩
 refine W ?_
 refine WR ?_
 exact .mk ⟨rfl,h3⟩
 focus repeat'(first|refine W1 ?_|omega|refine VG ?_ ?_<;>intro hg|refine VC ?_ ?_<;>intro hc)
 refine CL rfl (ZE rfl rfl rfl) rfl (Z05 hK h1 hl _ _) ?_
 rintro _ w4 ⟨rfl,h3⟩
 refine W ?_
 refine WR ?_
 exact .mk ⟨rfl,h3.err he⟩
theorem Zle (hK:KOk K) {a b:Int} (h:Mch K w sv pv (st++[a,b]) sp at_ 0 false) (hl:st.length≤100000) (hlp:sp.length≤100000) (n:Int) (hr:Zx a=true) :
 CC 152 #[mP K,.int .i64 n] w fun r w'=>r=.tuple #[]∧Res K w' st (sp++Jt 18 a b (Z3w (Zj K.c K.kn) a b).1) at_ (Z3w (Zj K.c K.kn) a b):=by
 obtain ⟨d0,d1⟩:=Zy.1 hr
 refine cW2 57 Tryz.func152 ?_
 refine W ?_
 refine CL rfl (Zm rfl) rfl (JM hK h) ?_
 rintro _ w1 ⟨rfl,sv1,h1⟩
 refine W ?_
 refine ZDr 16 [] [] [(0,0),(1,0),(2,0),(3,1),(4,0),(5,0),(6,0),(7,0),(8,0),(9,1),(10,2),(11,0),(12,0),(13,0),(14,0),(15,0)] (fun w1 hS1=>?_)
 replace h1:=h1.up hS1
 have hblk:=h1.blk
 unfold Z14 at hblk
 refine D ?_
 refine ZZ rfl trivial (fun w' hS'=>Jz (us:=Jm K.c K.hv K.cv K.zo K.zs K.hr) rfl rfl (hblk.up hS') rfl rfl) rfl ?_
 refine D ?_
 refine Za rfl trivial (Z4 rfl (Z1e rfl rfl rfl rfl) (ZgO a b K.kn K.c K.hv K.cv K.zo K.zs K.hr _ (h1.cal hK))) (fun _ _ h=>h.2) rfl ?_
 rintro _ w2 ⟨rfl,hS2⟩
 replace h1:=h1.up hS2
 replace hblk:=hblk.up hS2
 refine D ?_
 have hsp:Jt 18 a b (Z3w (Zj K.c K.kn) a b).1=if 0<b then [(a+1,(Z3w (Zj K.c K.kn) a b).1)] else if b<0 then [((Z3w (Zj K.c K.kn) a b).1,a - 1)] else []:=rfl
 rw [hsp]
 by_cases he:(Z3w (Zj K.c K.kn) a b).2=0
 by_cases hb0:b=0
 rw [if_neg (by omega),if_neg (by omega),XI]
 focus repeat'(first|refine W1 ?_|omega|refine VG ?_ ?_<;>intro hg|refine VC ?_ ?_<;>intro hc)
 refine CL rfl (ZE rfl rfl rfl) rfl (Z05 hK h1 hl _ _) ?_
 rintro _ w4 ⟨rfl,h3⟩
 refine W ?_
 refine WR ?_
 exact .mk ⟨rfl,h3⟩
 by_cases hb1:0<b
 rw [if_pos hb1]
 focus repeat'(first|refine W1 ?_|omega|refine VG ?_ ?_<;>intro hg|refine VC ?_ ?_<;>intro hc)
 refine Z1 (Z5G hK h1 hlp rfl rfl rfl) rfl ?_
 rintro _ w3 ⟨rfl,pv1,h2⟩
 refine W ?_
 refine CL rfl (ZE rfl rfl rfl) rfl (Z05 hK h2 hl _ _) ?_
 rintro _ w4 ⟨rfl,h3⟩
 refine W ?_
 refine WR ?_
 exact .mk ⟨rfl,h3⟩
 rw [if_neg hb1,if_pos (by omega)]
 focus repeat'(first|refine W1 ?_|omega|refine VG ?_ ?_<;>intro hg|refine VC ?_ ?_<;>intro hc)
 refine Z1 (Z5G hK h1 hlp rfl rfl rfl) rfl ?_
 rintro _ w3 ⟨rfl,pv1,h2⟩
 refine W ?_
 refine CL rfl (ZE rfl rfl rfl) rfl (Z05 hK h2 hl _ _) ?_
 rintro _ w4 ⟨rfl,h3⟩
 refine W ?_
 refine WR ?_
 exact .mk ⟨rfl,h3⟩
 focus repeat'(first|refine W1 ?_|omega|refine VG ?_ ?_<;>intro hg|refine VC ?_ ?_<;>intro hc)
 refine CL rfl (ZE rfl rfl rfl) rfl (Z05 hK h1 hl _ _) ?_
 rintro _ w4 ⟨rfl,h3⟩
 refine W ?_
 refine WR ?_
 exact .mk ⟨rfl,h3.err he⟩
end
structure ZaK (code:List Ins) (st:List (Option Shp)) (i:Nat) (s nx:Shp):Prop where
 at_:st.getD i none=some s
 next:Zv (code.getD i ⟨0,0⟩) s=some nx
 stop:(code.getD i ⟨0,0⟩).op=24→i+1=st.length∧s.length=1
 jump:(code.getD i ⟨0,0⟩).op=13∨(code.getD i ⟨0,0⟩).op=14→(i:Int)<(code.getD i ⟨0,0⟩).n∧(code.getD i ⟨0,0⟩).n<st.length∧st.getD (code.getD i ⟨0,0⟩).n.toNat none=some nx
 on:(code.getD i ⟨0,0⟩).op≠24→(code.getD i ⟨0,0⟩).op≠13→i+1<st.length∧st.getD (i+1) none=some nx
theorem Z1W {st st':List (Option Shp)} {t:Int} {nx:Shp} (h:JE st t nx=some st'):(∀ i s,st.getD i none=some s→st'.getD i none=some s)∧0≤t∧t<st.length∧st'.getD t.toNat none=some nx:=by
 unfold JE at h
 split at h
 rename_i hr
 split at h
 rename_i s0 hs0
 split at h
 rename_i he
 subst he
 cases h
 exact ⟨fun i s h=>h,hr.1,hr.2,hs0⟩
 cases h
 rename_i hn
 cases h
 refine ⟨fun i s h=>?_,hr.1,hr.2,?_⟩
 by_cases hi:t.toNat=i
 subst hi;rw [hn] at h;cases h
 have:(st.set t.toNat (some nx)).getD i none=st.getD i none:=by
  simp [List.getD,hi]
 rw [this];exact h
 have:t.toNat<st.length:=by omega
 simp [List.getD,this]
 cases h
theorem ZaK.keeps {code:List Ins} {st st':List (Option Shp)} {i:Nat} {s nx:Shp} (h:ZaK code st i s nx) (hk:∀ i s,st.getD i none=some s→st'.getD i none=some s) (hl:st'.length=st.length):ZaK code st' i s nx:=
 ⟨hk _ _ h.at_,h.next,fun h1=>by rw [hl];exact h.stop h1,fun h1=>by rw [hl];exact ⟨(h.jump h1).1,(h.jump h1).2.1,hk _ _ (h.jump h1).2.2⟩,fun h1 h2=>by rw [hl];exact ⟨(h.on h1 h2).1,hk _ _ (h.on h1 h2).2⟩⟩
theorem ZcM {code:List Ins} {st st':List (Option Shp)} {i:Nat} (h:Z0Q st i (code.getD i ⟨0,0⟩)=some st'):(∀ i s,st.getD i none=some s→st'.getD i none=some s)∧st'.length=st.length∧∃ s nx,ZaK code st' i s nx:=by
 unfold Z0Q at h
 cases hs:st.getD i none with
 | none=>rw [hs] at h;cases h
 | some s=>
   rw [hs] at h
   dsimp only at h
   cases hn:Zv (code.getD i ⟨0,0⟩) s with
   | none=>rw [hn] at h;cases h
   | some nx=>
     rw [hn] at h
     dsimp only at h
     by_cases h24:(code.getD i ⟨0,0⟩).op=24
     rw [if_pos h24] at h
     split at h
     rename_i hc
     cases h
     exact ⟨fun _ _ h=>h,rfl,s,nx,hs,hn,fun _=>hc,fun h=>by omega,fun h=>absurd h24 h⟩
     cases h
     rw [if_neg h24] at h
     by_cases h13:(code.getD i ⟨0,0⟩).op=13
     rw [if_pos h13] at h
     split at h
     rename_i hc
     obtain ⟨k1,k2,k3,k4⟩:=Z1W h
     have hl:=JU h
     exact ⟨k1,hl,s,nx,k1 _ _ hs,hn,fun h=>absurd h h24,fun _=>⟨hc,by omega,k4⟩,fun _ h=>absurd h13 h⟩
     cases h
     rw [if_neg h13] at h
     by_cases h14:(code.getD i ⟨0,0⟩).op=14
     rw [if_pos h14] at h
     split at h
     rename_i hc
     obtain ⟨s1,r1,r2⟩:=XX.1 h
     obtain ⟨k1,k2,k3,k4⟩:=Z1W r1
     obtain ⟨m1,m2,m3,m4⟩:=Z1W r2
     have hl:=JU r1
     have hl2:=JU r2
     exact ⟨fun i s h=>m1 _ _ (k1 _ _ h),by omega,s,nx,m1 _ _ (k1 _ _ hs),hn,fun h=>absurd h h24,fun _=>⟨hc,by omega,m1 _ _ k4⟩,fun _ _=>⟨by omega,m4⟩⟩
     cases h
     rw [if_neg h14] at h
     obtain ⟨k1,k2,k3,k4⟩:=Z1W h
     have hl:=JU h
     exact ⟨k1,hl,s,nx,k1 _ _ hs,hn,fun h=>absurd h h24,fun h=>absurd h (not_or.2 ⟨h13,h14⟩),fun _ _=>⟨by omega,k4⟩⟩
theorem Z9G {code:List Ins} {st0:List (Option Shp)}:∀ (k:Nat) (st:List (Option Shp)),Z3N code k st0=some st→(∀ i s,st0.getD i none=some s→st.getD i none=some s)∧st.length=st0.length∧∀ i,i<k→∃ s nx,ZaK code st i s nx
 | 0,st,h=>by cases h;exact ⟨fun _ _ h=>h,rfl,fun i hi=>by omega⟩
 | k + 1, st, h => by
   obtain ⟨s1,h1,h2⟩:=XX.1 h
   obtain ⟨a1,a2,a3⟩:=Z9G k s1 h1
   obtain ⟨b1,b2,b3⟩:=ZcM h2
   refine ⟨fun i s h=>b1 _ _ (a1 _ _ h),by omega,fun i hi=>?_⟩
   by_cases hk:i=k
   subst hk;exact b3
   obtain ⟨s,nx,hg⟩:=a3 i (by omega)
   exact ⟨s,nx,hg.keeps b1 b2⟩
theorem Z6t {code:List Ins} {t:Int} (h:Z2u code=(t,0)):0<code.length∧code.length≤200∧∃ st:List (Option Shp),st.length=code.length∧Z4e st∧(∀ s,some s∈st→s.length≤16)∧st.getD 0 none=some []∧st.getD (code.length - 1) none=some [t]∧∀ i,i<code.length→∃ s nx,ZaK code st i s nx:=by
 unfold Z2u at h
 by_cases hl:code.length=0∨code.length > 200
 rw [if_pos hl] at h;cases h
 rw [if_neg hl] at h
 cases hr:Z3N code code.length (some [] :: List.replicate (code.length - 1) none) with
 | none=>rw [hr] at h;cases h
 | some st=>
   rw [hr] at h
   dsimp only at h
   obtain ⟨a1,a2,a3⟩:=Z9G _ _ hr
   have h0:Z4e ((some []) :: List.replicate (code.length - 1) none):=by
    intro s hs
    simp at hs
    subst hs
    intro k hk;cases hk
   have hlen:st.length=code.length:=by rw [a2];simp;omega
   have h16:∀ (k:Nat) (st:List (Option Shp)),Z3N code k (some [] :: List.replicate (code.length - 1) none)=some st→∀ s,some s∈st→s.length≤16:=by
    intro k
    induction k with
    | zero=>
      intro st h s hs
      cases h
      simp at hs
      subst hs
      simp
    | succ k ih=>
      intro st h
      obtain ⟨s1,h1,h2⟩:=XX.1 h
      exact ZkS (ih s1 h1) h2
   refine ⟨by omega,by omega,st,hlen,(Z7U h0 _ _ hr).1,h16 _ _ hr,a1 0 [] rfl,?_,a3⟩
   obtain ⟨s,nx,hg⟩:=a3 (code.length - 1) (by omega)
   have hat:=hg.at_
   rw [hat] at h ⊢
   by_cases h24:(code.getD (code.length - 1) ⟨0,0⟩).op=24
   have:=(hg.stop h24).2
   obtain ⟨k,rfl⟩:=YaO.1 this
   simp at h
   rw [h]
   by_cases h13:(code.getD (code.length - 1) ⟨0,0⟩).op=13
   have:=hg.jump (.inl h13)
   omega
   have:=hg.on h24 h13
   omega
abbrev Z8m:List (Int×Value):=[(1,fnV 109),(2,fnV 109),(3,fnV 109),(4,fnV 110),
 (5,fnV 139),(6,fnV 140),(7,fnV 141),(8,fnV 142),
 (9,fnV 143),(10,fnV 144),(11,fnV 145),(12,fnV 146),
 (13,fnV 147),(14,fnV 148),(15,fnV 149),(16,fnV 150),
 (17,fnV 151),(18,fnV 152),(19,fnV 153),(20,fnV 154),
 (21,fnV 155),(22,fnV 156),(23,fnV 157),(24,fnV 158)]
abbrev ZnZ (z:Int):Value:=.int .i64 z
theorem ZcN (w:World):CC 79 #[] w fun r w'=>∃ m,r=.map (some m)∧w.heap.size≤m∧Z0N ZnZ w' m Z8m∧Stp [] w w':=by
 refine cW0 3 Tryz.func79 ?_
 refine W ?_
 refine Z1 (Z2r ZnZ) rfl ?_
 rintro _ w1 ⟨m,rfl,hm,hmap,hS⟩
 refine Z2 (Zu (a:=(1:Int)) rfl rfl rfl hmap (by decide)) ?_
 clear hmap
 rintro _ w2 ⟨hmap,hT⟩
 replace hS:=hS.own hT (fun c hc=>.inr (by simp at hc;omega))
 clear hT
 refine Z2 (Zu (a:=(2:Int)) rfl rfl rfl hmap (by decide)) ?_
 clear hmap
 rintro _ w2 ⟨hmap,hT⟩
 replace hS:=hS.own hT (fun c hc=>.inr (by simp at hc;omega))
 clear hT
 refine Z2 (Zu (a:=(3:Int)) rfl rfl rfl hmap (by decide)) ?_
 clear hmap
 rintro _ w2 ⟨hmap,hT⟩
 replace hS:=hS.own hT (fun c hc=>.inr (by simp at hc;omega))
 clear hT
 refine Z2 (Zu (a:=(4:Int)) rfl rfl rfl hmap (by decide)) ?_
 clear hmap
 rintro _ w2 ⟨hmap,hT⟩
 replace hS:=hS.own hT (fun c hc=>.inr (by simp at hc;omega))
 clear hT
 refine Z2 (Zu (a:=(5:Int)) rfl rfl rfl hmap (by decide)) ?_
 clear hmap
 rintro _ w2 ⟨hmap,hT⟩
 replace hS:=hS.own hT (fun c hc=>.inr (by simp at hc;omega))
 clear hT
 refine Z2 (Zu (a:=(6:Int)) rfl rfl rfl hmap (by decide)) ?_
 clear hmap
 rintro _ w2 ⟨hmap,hT⟩
 replace hS:=hS.own hT (fun c hc=>.inr (by simp at hc;omega))
 clear hT
 refine Z2 (Zu (a:=(7:Int)) rfl rfl rfl hmap (by decide)) ?_
 clear hmap
 rintro _ w2 ⟨hmap,hT⟩
 replace hS:=hS.own hT (fun c hc=>.inr (by simp at hc;omega))
 clear hT
 refine Z2 (Zu (a:=(8:Int)) rfl rfl rfl hmap (by decide)) ?_
 clear hmap
 rintro _ w2 ⟨hmap,hT⟩
 replace hS:=hS.own hT (fun c hc=>.inr (by simp at hc;omega))
 clear hT
 refine Z2 (Zu (a:=(9:Int)) rfl rfl rfl hmap (by decide)) ?_
 clear hmap
 rintro _ w2 ⟨hmap,hT⟩
 replace hS:=hS.own hT (fun c hc=>.inr (by simp at hc;omega))
 clear hT
 refine Z2 (Zu (a:=(10:Int)) rfl rfl rfl hmap (by decide)) ?_
 clear hmap
 rintro _ w2 ⟨hmap,hT⟩
 replace hS:=hS.own hT (fun c hc=>.inr (by simp at hc;omega))
 clear hT
 refine Z2 (Zu (a:=(11:Int)) rfl rfl rfl hmap (by decide)) ?_
 clear hmap
 rintro _ w2 ⟨hmap,hT⟩
 replace hS:=hS.own hT (fun c hc=>.inr (by simp at hc;omega))
 clear hT
 refine Z2 (Zu (a:=(12:Int)) rfl rfl rfl hmap (by decide)) ?_
 clear hmap
 rintro _ w2 ⟨hmap,hT⟩
 replace hS:=hS.own hT (fun c hc=>.inr (by simp at hc;omega))
 clear hT
 refine Z2 (Zu (a:=(13:Int)) rfl rfl rfl hmap (by decide)) ?_
 clear hmap
 rintro _ w2 ⟨hmap,hT⟩
 replace hS:=hS.own hT (fun c hc=>.inr (by simp at hc;omega))
 clear hT
 refine Z2 (Zu (a:=(14:Int)) rfl rfl rfl hmap (by decide)) ?_
 clear hmap
 rintro _ w2 ⟨hmap,hT⟩
 replace hS:=hS.own hT (fun c hc=>.inr (by simp at hc;omega))
 clear hT
 refine Z2 (Zu (a:=(15:Int)) rfl rfl rfl hmap (by decide)) ?_
 clear hmap
 rintro _ w2 ⟨hmap,hT⟩
 replace hS:=hS.own hT (fun c hc=>.inr (by simp at hc;omega))
 clear hT
 refine Z2 (Zu (a:=(16:Int)) rfl rfl rfl hmap (by decide)) ?_
 clear hmap
 rintro _ w2 ⟨hmap,hT⟩
 replace hS:=hS.own hT (fun c hc=>.inr (by simp at hc;omega))
 clear hT
 refine Z2 (Zu (a:=(17:Int)) rfl rfl rfl hmap (by decide)) ?_
 clear hmap
 rintro _ w2 ⟨hmap,hT⟩
 replace hS:=hS.own hT (fun c hc=>.inr (by simp at hc;omega))
 clear hT
 refine Z2 (Zu (a:=(18:Int)) rfl rfl rfl hmap (by decide)) ?_
 clear hmap
 rintro _ w2 ⟨hmap,hT⟩
 replace hS:=hS.own hT (fun c hc=>.inr (by simp at hc;omega))
 clear hT
 refine Z2 (Zu (a:=(19:Int)) rfl rfl rfl hmap (by decide)) ?_
 clear hmap
 rintro _ w2 ⟨hmap,hT⟩
 replace hS:=hS.own hT (fun c hc=>.inr (by simp at hc;omega))
 clear hT
 refine Z2 (Zu (a:=(20:Int)) rfl rfl rfl hmap (by decide)) ?_
 clear hmap
 rintro _ w2 ⟨hmap,hT⟩
 replace hS:=hS.own hT (fun c hc=>.inr (by simp at hc;omega))
 clear hT
 refine Z2 (Zu (a:=(21:Int)) rfl rfl rfl hmap (by decide)) ?_
 clear hmap
 rintro _ w2 ⟨hmap,hT⟩
 replace hS:=hS.own hT (fun c hc=>.inr (by simp at hc;omega))
 clear hT
 refine Z2 (Zu (a:=(22:Int)) rfl rfl rfl hmap (by decide)) ?_
 clear hmap
 rintro _ w2 ⟨hmap,hT⟩
 replace hS:=hS.own hT (fun c hc=>.inr (by simp at hc;omega))
 clear hT
 refine Z2 (Zu (a:=(23:Int)) rfl rfl rfl hmap (by decide)) ?_
 clear hmap
 rintro _ w2 ⟨hmap,hT⟩
 replace hS:=hS.own hT (fun c hc=>.inr (by simp at hc;omega))
 clear hT
 refine Z2 (Zu (a:=(24:Int)) rfl rfl rfl hmap (by decide)) ?_
 clear hmap
 rintro _ w2 ⟨hmap,hT⟩
 replace hS:=hS.own hT (fun c hc=>.inr (by simp at hc;omega))
 clear hT
 refine W ?_
 refine WR ?_
 exact .mk ⟨m,rfl,hm,hmap,hS⟩
theorem Z3Z {x:Ins} {s nx:Shp} {st:List Int} (hn:Zv x s=some nx) (hs:Jo s st):(ZP x).2.2.2=true∧∃ st0 vs ts,st=st0++vs∧(ts=(ZP x).1∨(ZP x).2.1≠[]∧ts=(ZP x).2.1)∧Jo ts vs:=by
 unfold Zv at hn
 dsimp only at hn
 split at hn
 rename_i hc
 obtain ⟨c1,c2,c3,c4⟩:=hc
 exact ⟨c1,st.take (s.length - (ZP x).1.length),st.drop (s.length - (ZP x).1.length),_,(XT _ _).symm,c3,hs.drop _⟩
 cases hn
def JP (K:MK) (w:World) (x:Ins) (st:List Int) (sp:List Spn) (sv pv:Value) (at_:Int):Prop:=
 if x.op=24 then Mch K w sv pv st sp at_ 0 true
 else if x.op=13 then Mch K w sv pv st sp x.n 0 false
 else if x.op=14 then ∃ sv',Mch K w sv' pv st.dropLast sp (if J3 st 0=0 then x.n else at_) 0 false
 else Res K w (st.take (st.length - arM x.op)) (sp++Jt x.op (J3 st 1) (J3 st 0) (Jd (Zj K.c K.kn) K.ev x (J3 st 1) (J3 st 0)).1) at_ (Jd (Zj K.c K.kn) K.ev x (J3 st 1) (J3 st 0))
theorem Z4v {t v:Int} (h:vOk t v):-2147483647≤v∧v≤2147483647:=by unfold vOk at h;omega
theorem ZqG {t u a b:Int} (ha:vOk t a) (hb:vOk u b):I64 (a * b):=by
 have h1:=Z4v ha
 have h2:=Z4v hb
 have h3:(a * b).natAbs≤2147483647 * 2147483647:=by rw [Int.natAbs_mul];exact Nat.mul_le_mul (by omega) (by omega)
 unfold I64
 omega
section
variable {K:MK} {w w':World} {sv pv:Value} {st:List Int} {sp:List Spn} {at_ er:Int} {dn:Bool}
set_option maxHeartbeats 2000000 in
theorem ZbF {P:Nat} {e:Env} {d:Option Nat} {ty:TypeId} {pos:String} {af:Array Edge} {g:Option (Nat×Bool)} {y1 y2 y3:Operand} {ts:Array TypeId} (hK:KOk K) {x:Ins} {s nx:Shp}
 (h:Mch K w sv pv st sp at_ 0 false) (hn:Zv x s=some nx) (hs:Jo s st) (hl:st.length≤100000) (hlp:sp.length≤100000)
 (hx:ev e y1=some (Z4H Z8m x.op .nilFunc)) (hy:ev e y2=some (mP K)) (hz:ev e y3=some (.int .i64 x.n)) :
 OE Tryz.prog P ⟨d,.call { callee:=.value y1,args:=#[y2,y3],argTypes:=ts },ty,pos,af,g⟩ e w (fun v w'=>v=.tuple #[]∧JP K w' x st sp sv pv at_):=by
 obtain ⟨hx1,st0,vs,ts',rfl,hts,hvs⟩:=Z3Z hn hs
 have hr:=Z6b hx1
 obtain ⟨op,n⟩:=x
 dsimp only at *
 have hl0:st0.length≤100000:=by rw [Xg] at hl;omega
 have hop:op=1∨op=2∨op=3∨op=4∨op=5∨op=6∨op=7∨op=8∨op=9∨op=10∨op=11∨op=12∨op=13∨op=14∨op=15∨op=16∨op=17∨op=18∨op=19∨op=20∨op=21∨op=22∨op=23∨op=24:=by omega
 rcases hop with rfl|rfl|rfl|rfl|rfl|rfl|rfl|rfl|rfl|rfl|rfl|rfl|rfl|rfl|rfl|rfl|rfl|rfl|rfl|rfl|rfl|rfl|rfl|rfl
 all_goals (simp [ZP] at hx1 hts)
 all_goals (try subst hts)
 case inl|inr.inl|inr.inr.inl=>
  refine (Z4 (f:=109) hx (Zb hy hz) (ZeG hK h hl n)).mono ?_
  rintro v w' ⟨rfl,hres⟩
  refine ⟨rfl,?_⟩
  unfold JP
  have et:List.take (st0.length+vs.length) (st0++vs)=st0++vs:=Xu (by simp)
  simpa [arM,Jt,Jd,et] using hres
 case inr.inr.inr.inl=>
  refine (Z4 (f:=110) hx (Zb hy hz) (ZeJ hK h hl n (by omega) (by omega))).mono ?_
  rintro v w' ⟨rfl,hres⟩
  refine ⟨rfl,?_⟩
  unfold JP
  have et:List.take (st0.length+vs.length) (st0++vs)=st0++vs:=Xu (by simp)
  simpa [arM,Jt,Jd,et] using hres
 case inr.inr.inr.inr.inl=>
  obtain ⟨a,b,rfl,ha,hb⟩:=hvs.two_inv
  refine (Z4 (f:=139) hx (Zb hy hz) (ZqA hK h hl0 n (by have:=Z4v ha;have:=Z4v hb;unfold I64;omega))).mono ?_
  rintro v w' ⟨rfl,hres⟩
  refine ⟨rfl,?_⟩
  unfold JP
  simpa [arM,Jt,Jd,J1,ZN] using hres
 case inr.inr.inr.inr.inr.inl=>
  obtain ⟨a,b,rfl,ha,hb⟩:=hvs.two_inv
  refine (Z4 (f:=140) hx (Zb hy hz) (ZqB hK h hl0 n (by have:=Z4v ha;have:=Z4v hb;unfold I64;omega))).mono ?_
  rintro v w' ⟨rfl,hres⟩
  refine ⟨rfl,?_⟩
  unfold JP
  simpa [arM,Jt,Jd,J1,ZN] using hres
 case inr.inr.inr.inr.inr.inr.inl=>
  obtain ⟨a,b,rfl,ha,hb⟩:=hvs.two_inv
  refine (Z4 (f:=141) hx (Zb hy hz) (ZqC hK h hl0 n (ZqG ha hb))).mono ?_
  rintro v w' ⟨rfl,hres⟩
  refine ⟨rfl,?_⟩
  unfold JP
  simpa [arM,Jt,Jd,J1,ZN] using hres
 case inr.inr.inr.inr.inr.inr.inr.inr.inl=>
  obtain ⟨a,b,rfl⟩:∃ a b,vs=[a,b]:=by
   rcases hts with rfl|rfl
   all_goals
    obtain ⟨a,b,h1,-⟩:=hvs.two_inv
    exact ⟨a,b,h1⟩
  refine (Z4 (f:=143) hx (Zb hy hz) (ltV hK h hl0 n trivial)).mono ?_
  rintro v w' ⟨rfl,hres⟩
  refine ⟨rfl,?_⟩
  unfold JP
  simpa [arM,Jt,Jd,J1,ZN] using hres
 case inr.inr.inr.inr.inr.inr.inr.inr.inr.inl=>
  obtain ⟨a,b,rfl⟩:∃ a b,vs=[a,b]:=by
   rcases hts with rfl|rfl
   all_goals
    obtain ⟨a,b,h1,-⟩:=hvs.two_inv
    exact ⟨a,b,h1⟩
  refine (Z4 (f:=144) hx (Zb hy hz) (leV hK h hl0 n trivial)).mono ?_
  rintro v w' ⟨rfl,hres⟩
  refine ⟨rfl,?_⟩
  unfold JP
  simpa [arM,Jt,Jd,J1,ZN] using hres
 case inr.inr.inr.inr.inr.inr.inr.inr.inr.inr.inl=>
  obtain ⟨a,b,rfl⟩:∃ a b,vs=[a,b]:=by
   rcases hts with rfl|rfl
   all_goals
    obtain ⟨a,b,h1,-⟩:=hvs.two_inv
    exact ⟨a,b,h1⟩
  refine (Z4 (f:=145) hx (Zb hy hz) (eqV hK h hl0 n trivial)).mono ?_
  rintro v w' ⟨rfl,hres⟩
  refine ⟨rfl,?_⟩
  unfold JP
  simpa [arM,Jt,Jd,J1,ZN] using hres
 case inr.inr.inr.inr.inr.inr.inr.inr.inr.inr.inr.inr.inr.inr.inl=>
  obtain ⟨a,b,rfl,ha,hb⟩:=hvs.two_inv
  refine (Z4 (f:=149) hx (Zb hy hz) (ZnS hK h hl0 n (by have:=Z4v ha;have:=Z4v hb;unfold I64;omega))).mono ?_
  rintro v w' ⟨rfl,hres⟩
  refine ⟨rfl,?_⟩
  unfold JP
  simpa [arM,Jt,Jd,J1,ZN] using hres
 case inr.inr.inr.inr.inr.inr.inr.inr.inr.inr.inr.inr.inr.inr.inr.inl=>
  obtain ⟨a,b,rfl,ha,hb⟩:=hvs.two_inv
  refine (Z4 (f:=150) hx (Zb hy hz) (Zla hK h hl0 n (by have:=Z4v ha;have:=Z4v hb;unfold I64;omega))).mono ?_
  rintro v w' ⟨rfl,hres⟩
  refine ⟨rfl,?_⟩
  unfold JP
  simpa [arM,Jt,Jd,J1,ZN] using hres
 case inr.inr.inr.inr.inr.inr.inr.inr.inr.inr.inr.inr.inr.inr.inr.inr.inl=>
  obtain ⟨a,b,rfl,ha,hb⟩:=hvs.two_inv
  refine (Z4 (f:=151) hx (Zb hy hz) (ZgQ hK h hl0 n (Zy.2 ha.d))).mono ?_
  rintro v w' ⟨rfl,hres⟩
  refine ⟨rfl,?_⟩
  unfold JP
  simpa [arM,Jt,Jd,J1,ZN] using hres
 case inr.inr.inr.inr.inr.inr.inr.inr.inr.inr.inr.inr.inr.inr.inr.inr.inr.inl=>
  obtain ⟨a,b,rfl,ha,hb⟩:=hvs.two_inv
  refine (Z4 (f:=152) hx (Zb hy hz) (Zle hK h hl0 hlp n (Zy.2 ha.d))).mono ?_
  rintro v w' ⟨rfl,hres⟩
  refine ⟨rfl,?_⟩
  unfold JP
  simpa [arM,Jt,Jd,J1,ZN] using hres
 case inr.inr.inr.inr.inr.inr.inr.inr.inr.inr.inr.inr.inr.inr.inr.inr.inr.inr.inr.inr.inl=>
  obtain ⟨a,b,rfl,ha,hb⟩:=hvs.two_inv
  refine (Z4 (f:=155) hx (Zb hy hz) (Zlb hK h hl0 n trivial)).mono ?_
  rintro v w' ⟨rfl,hres⟩
  refine ⟨rfl,?_⟩
  unfold JP
  simpa [arM,Jt,Jd,J1,ZN] using hres
 case inr.inr.inr.inr.inr.inr.inr.inr.inr.inr.inr.inr.inr.inr.inr.inr.inr.inr.inr.inr.inr.inl=>
  obtain ⟨a,b,rfl,ha,hb⟩:=hvs.two_inv
  refine (Z4 (f:=156) hx (Zb hy hz) (ZeH hK h hl0 n trivial)).mono ?_
  rintro v w' ⟨rfl,hres⟩
  refine ⟨rfl,?_⟩
  unfold JP
  simpa [arM,Jt,Jd,J1,ZN] using hres
 case inr.inr.inr.inr.inr.inr.inr.inr.inr.inr.inr.inr.inr.inr.inr.inr.inr.inr.inr.inr.inr.inr.inl=>
  obtain ⟨a,b,rfl,ha,hb⟩:=hvs.two_inv
  refine (Z4 (f:=157) hx (Zb hy hz) (ZeI hK h hl0 n (by have:=Z4v ha;have:=Z4v hb;unfold I64;omega))).mono ?_
  rintro v w' ⟨rfl,hres⟩
  refine ⟨rfl,?_⟩
  unfold JP
  have e:Z20 (b - a)=(b - a,0):=by
   have:=ha.d;have:=hb.d
   unfold Z20
   rw [if_neg (by omega)]
  rw [e] at hres
  simpa [arM,Jt,Jd,J1,ZN] using hres
 case inr.inr.inr.inr.inr.inr.inr.inl=>
  obtain ⟨b,rfl,hb⟩:=hvs.one_inv
  refine (Z4 (f:=142) hx (Zb hy hz) (ZqD hK h hl0 n (by have:=Z4v hb;unfold I64;omega))).mono ?_
  rintro v w' ⟨rfl,hres⟩
  refine ⟨rfl,?_⟩
  unfold JP
  have e:Z20 (-b)=(-b,0):=by
   have:=Z4v hb
   unfold Z20
   rw [if_neg (by omega)]
  rw [e] at hres
  simpa [arM,Jt,Jd,Z1L,Z11] using hres
 case inr.inr.inr.inr.inr.inr.inr.inr.inr.inr.inr.inl=>
  obtain ⟨b,rfl,hb⟩:=hvs.one_inv
  refine (Z4 (f:=146) hx (Zb hy hz) (ZqE hK h hl0 n)).mono ?_
  rintro v w' ⟨rfl,hres⟩
  refine ⟨rfl,?_⟩
  unfold JP
  have e:Jf (decide (b=0))=1 - b:=by
   rcases hb.b with rfl|rfl<;>rfl
  rw [e] at hres
  simpa [arM,Jt,Jd,Z1L,Z11] using hres
 case inr.inr.inr.inr.inr.inr.inr.inr.inr.inr.inr.inr.inr.inr.inr.inr.inr.inr.inl=>
  obtain ⟨b,rfl,hb⟩:=hvs.one_inv
  refine (Z4 (f:=153) hx (Zb hy hz) (ZnX hK h hl0 hlp n)).mono ?_
  rintro v w' ⟨rfl,hres⟩
  refine ⟨rfl,?_⟩
  unfold JP
  simpa [arM,Jt,Jd,Z1L,Z11] using hres
 case inr.inr.inr.inr.inr.inr.inr.inr.inr.inr.inr.inr.inr.inr.inr.inr.inr.inr.inr.inl=>
  obtain ⟨b,rfl,hb⟩:=hvs.one_inv
  refine (Z4 (f:=154) hx (Zb hy hz) (ZnY hK h hl0 hlp n)).mono ?_
  rintro v w' ⟨rfl,hres⟩
  refine ⟨rfl,?_⟩
  unfold JP
  simpa [arM,Jt,Jd,Z1L,Z11] using hres
 case inr.inr.inr.inr.inr.inr.inr.inr.inr.inr.inr.inr.inl=>
  refine (Z4 (f:=147) hx (Zb hy hz) (ZnT hK h n)).mono ?_
  rintro v w' ⟨rfl,hres⟩
  refine ⟨rfl,?_⟩
  unfold JP
  simpa using hres
 case inr.inr.inr.inr.inr.inr.inr.inr.inr.inr.inr.inr.inr.inl=>
  obtain ⟨b,rfl,hb⟩:=hvs.one_inv
  refine (Z4 (f:=148) hx (Zb hy hz) (ZgG hK h n)).mono ?_
  rintro v w' ⟨rfl,hres⟩
  refine ⟨rfl,?_⟩
  unfold JP
  simpa [Z11] using hres
 case inr.inr.inr.inr.inr.inr.inr.inr.inr.inr.inr.inr.inr.inr.inr.inr.inr.inr.inr.inr.inr.inr.inr=>
  refine (Z4 (f:=158) hx (Zb hy hz) (ZnU hK h n)).mono ?_
  rintro v w' ⟨rfl,hres⟩
  refine ⟨rfl,?_⟩
  unfold JP
  simpa using hres
end
abbrev Z6O (ev:List Int):Value:=.agg (evC ev).toArray
theorem ZgR (ev:List Int) (c:Cal) (hv cv zo zs hr:Value) (kn:Int) (b:Addr) (w:World) :
 (Instr.build 126 #[(0, Z6O ev), (1, Z15 c hv cv zo zs hr), (2, .int .i64 kn), (7, .func (.func 78) #[] #[.pointer (some b)])]).run Tryz.prog w
   = .ok (.agg (evC ev++Jm c hv cv zo zs hr++([.int .i64 kn,.slice none 0 0,.int .i64 0,.int .i64 0,.bool false,.func (.func 78) #[] #[.pointer (some b)]]:List Value)).toArray) w:=by kernel_rfl
theorem ZgS (ev:List Int) (c:Cal) (hv cv zo zs hr:Value) (kn:Int) (w:World) :
 (Instr.build 126 #[(0, Z6O ev), (1, Z15 c hv cv zo zs hr), (2, .int .i64 kn), (7, .func (.func 57) #[] #[])]).run Tryz.prog w
   = .ok (.agg (evC ev++Jm c hv cv zo zs hr++([.int .i64 kn,.slice none 0 0,.int .i64 0,.int .i64 0,.bool false,.func (.func 57) #[] #[]]:List Value)).toArray) w:=by kernel_rfl
theorem ZeT {x:Ins} {s nx:Shp} (hx:x.op=13) (hn:Zv x s=some nx):nx=s:=by
 obtain ⟨op,n⟩:=x
 dsimp only at hx
 subst hx
 simp [Zv,ZP] at hn
 exact hn.2.symm
theorem ZeU {x:Ins} {s nx:Shp} (hx:x.op=14) (hn:Zv x s=some nx):nx=s.dropLast:=by
 obtain ⟨op,n⟩:=x
 dsimp only at hx
 subst hx
 simp [Zv,ZP] at hn
 rw [X6]
 exact hn.2.symm
def ZgT (K:MK) (code:List Ins) (sh:List (Option Shp)) (q:Nat×Bool) (w:World):Prop:=
 ∃ sv pv st sp at_ er, Mch K w sv pv st sp at_ er q.2∧
   (q.2=false→er=0∧at_=(q.1:Int)∧q.1<code.length∧sp.length≤q.1∧(∃ s,sh.getD q.1 none=some s∧Jo s st)∧∃ f,code.length≤f+q.1∧Z83 (Zj K.c K.kn) K.ev code f q.1 st sp=Z0r (Zj K.c K.kn) K.ev code)∧
   (q.2=true→(er=0∧∃ x,st=[x]∧Z0r (Zj K.c K.kn) K.ev code=(x,sp,0))∨(er≠0∧Z0r (Zj K.c K.kn) K.ev code=(0,[],er)))
theorem ZgT.step {K:MK} {code:List Ins} {sh:List (Option Shp)} {i:Nat} {x:Ins} {s nx:Shp} {st:List Int} {sp:List Spn} {w:World} {sv pv:Value} {f:Nat} (hK:KOk K) (hi:i<code.length) (hx:code.getD i ⟨0,0⟩=x) (hlen:sh.length=code.length)
 (hg:ZaK code sh i s nx) (h16:∀ s,some s∈sh→s.length≤16) (hst:Jo s st) (hsp:sp.length≤i) (hf:code.length≤f+i) (hr:Z83 (Zj K.c K.kn) K.ev code f i st sp=Z0r (Zj K.c K.kn) K.ev code)
 (h:JP K w x st sp sv pv ((i+1:Nat):Int)):∃ q:Nat×Bool,ZgT K code sh q w∧(if q.2=true then 0 else code.length+1 - q.1)<code.length+1 - i:=by
 obtain ⟨f,rfl⟩:∃ f',f=f'+1:=⟨f - 1,by omega⟩
 rw [Z83] at hr
 rw [hx] at hr
 have hn:=hg.next
 rw [hx] at hn
 unfold JP at h
 by_cases h24:x.op=24
 rw [if_pos h24] at h hr
 obtain ⟨hs1,hs2⟩:=hg.stop (by rw [hx];exact h24)
 have hl1:st.length=1:=by rw [← hst.1];exact hs2
 obtain ⟨a,rfl⟩:=YaO.1 hl1
 refine ⟨(i,true),⟨sv,pv,[a],sp,_,0,h,(fun hq=>by cases hq),fun _=>.inl ⟨rfl,a,rfl,?_⟩⟩,by simp;omega⟩
 rw [← hr]
 rfl
 rw [if_neg h24] at h hr
 by_cases h13:x.op=13
 rw [if_pos h13] at h hr
 obtain ⟨j1,j2,j3⟩:=hg.jump (.inl (by rw [hx];exact h13))
 rw [hx] at j1 j2 j3
 have hnx:=ZeT h13 hn
 subst hnx
 refine ⟨(x.n.toNat,false),⟨sv,pv,st,sp,_,0,h,fun _=>⟨rfl,by omega,by omega,by dsimp only;omega,⟨_,j3,hst⟩,f,by dsimp only;omega,hr⟩,fun hq=>by cases hq⟩,by simp;omega⟩
 rw [if_neg h13] at h hr
 by_cases h14:x.op=14
 rw [if_pos h14] at h hr
 obtain ⟨j1,j2,j3⟩:=hg.jump (.inr (by rw [hx];exact h14))
 obtain ⟨o1,o2⟩:=hg.on (by rw [hx];exact h24) (by rw [hx];exact h13)
 rw [hx] at j1 j2 j3
 have hnx:=ZeU h14 hn
 have hst2:Jo nx st.dropLast:=by
  rw [hnx,X6,X6,← hst.1]
  exact hst.take _
 obtain ⟨sv',h⟩:=h
 by_cases hb:J3 st 0=0
 rw [if_pos hb] at h hr
 exact ⟨(x.n.toNat,false),⟨sv',pv,st.dropLast,sp,_,0,h,fun _=>⟨rfl,by omega,by omega,by dsimp only;omega,⟨_,j3,hst2⟩,f,by dsimp only;omega,hr⟩,fun hq=>by cases hq⟩,by simp;omega⟩
 rw [if_neg hb] at h hr
 exact ⟨(i+1,false),⟨sv',pv,st.dropLast,sp,_,0,h,fun _=>⟨rfl,rfl,by omega,by dsimp only;omega,⟨_,o2,hst2⟩,f,by dsimp only;omega,hr⟩,fun hq=>by cases hq⟩,by simp;omega⟩
 rw [if_neg h14] at h hr
 obtain ⟨o1,o2⟩:=hg.on (by rw [hx];exact h24) (by rw [hx];exact h13)
 obtain ⟨sv',pv',st',sp',hM,hok⟩:=h
 by_cases he:(Jd (Zj K.c K.kn) K.ev x (J3 st 1) (J3 st 0)).2=0
 · rw [if_pos he] at hr
   obtain ⟨e1,e2⟩:=hok he
   subst e1 e2
   rw [he] at hM
   have hsl:(Jt x.op (J3 st 1) (J3 st 0) (Jd (Zj K.c K.kn) K.ev x (J3 st 1) (J3 st 0)).1).length≤1:=by
    unfold Jt
    repeat' split
    all_goals simp
   refine ⟨(i+1,false),⟨sv',pv',_,_,_,0,hM,fun _=>⟨rfl,rfl,by omega,by dsimp only;rw [Xg];omega,⟨_,o2,Z6c hK.ev hn h24 h13 h14 hst he⟩,f,by dsimp only;omega,hr⟩,fun hq=>by cases hq⟩,by simp;omega⟩
 rw [if_neg he] at hr
 have hd:decide (¬ (Jd (Zj K.c K.kn) K.ev x (J3 st 1) (J3 st 0)).2=0)=true:=decide_eq_true he
 rw [hd] at hM
 exact ⟨(i,true),⟨sv',pv',_,_,_,_,hM,(fun hq=>by cases hq),fun _=>.inr ⟨he,hr.symm⟩⟩,by simp;omega⟩
set_option maxHeartbeats 1000000 in
theorem Z4w (v:Value) (code:List Ins) (t kn:Int) (ev:List Int) (c:Cal) (hv cv zo zs hr:Value) (w:World) (hs:SlV [] w v code) (hver:Z2u code=(t,0)) (hcal:Z1m w c hv cv zo zs hr) (hev:Z3x ev) (ho:zo.oneCell'=true∧zs.oneCell'=true∧hr.oneCell'=true) :
 CC 28 #[v,Z6O ev,Z15 c hv cv zo zs hr,.int .i64 kn] w fun r w'=>∃ pv,r=.tuple #[.int .i64 (Z0r (Zj c kn) ev code).1,pv,.int .i64 (Z0r (Zj c kn) ev code).2.2]∧J8 111 w w' pv (Z0r (Zj c kn) ev code).2.1:=by
 obtain ⟨hl0,hl200,sh,hlen,hok,h16,hsh0,hshn,hgood⟩:=Z6t hver
 refine cW4 63 Tryz.func28 ?_
 refine W ?_
 refine Z1 (Zo rfl) rfl ?_
 rintro _ w1 ⟨b5,rfl,hb5,k5,hS⟩
 replace k5:Blk w1 b5 29 (evC ev):=k5
 refine Z1 (Zo rfl) rfl ?_
 rintro _ w2 ⟨b6,rfl,hb6,k6,hS2⟩
 replace k6:Blk w2 b6 37 (Jm c hv cv zo zs hr):=k6
 replace k5:=k5.up hS2
 replace hS:=hS.trans hS2
 refine W ?_
 refine Z1 Z7 rfl ?_
 rintro _ w3 ⟨bs,rfl,hbs,ks,hS3⟩
 replace k5:=k5.up hS3
 replace k6:=k6.up hS3
 have hbsw:w.heap.size≤bs:=Xj hS.size hbs
 replace hS:=hS.trans hS3
 refine W ?_
 refine Z6 (vs:=[(0,Z6O ev),(1,Z15 c hv cv zo zs hr),(2,.int .i64 kn),(7,.func (.func 78) #[] #[.pointer (some ⟨bs,0,none⟩)])]) rfl (ZgR ev c hv cv zo zs hr kn _) rfl ?_
 refine Z1 (Zo rfl) rfl ?_
 rintro _ w4 ⟨bm,rfl,hbm,km,hS4⟩
 replace km:Blk w4 bm 126 (evC ev++Jm c hv cv zo zs hr++[.int .i64 kn,.slice none 0 0,.int .i64 0,.int .i64 0,.bool false,.func (.func 78) #[] #[.pointer (some ⟨bs,0,none⟩)]]):=km
 have hbmw:w.heap.size≤bm:=Xj hS.size hbm
 have hbms:bm≠bs:=by have:=ks.lt;omega
 replace ks:=ks.up hS4
 replace hS:=hS.trans hS4
 clear k5 k6 hS2 hS3 hS4
 refine W ?_
 refine CL rfl Z7u rfl (ZcN _) ?_
 rintro _ w5 ⟨m,rfl,hm,hmap,hS5⟩
 obtain ⟨K,e1,e2,hk,e4,e5,e6,e7,e8,e9,e10,e11,e12⟩:∃ K:MK,K.w0=w5∧K.bm=bm∧K.nk=some bs∧K.ev=ev∧K.c=c∧K.kn=kn∧K.hv=hv∧K.cv=cv∧K.zo=zo∧K.zs=zs∧K.hr=hr∧K.pr=[]:=⟨⟨w5,bm,some bs,ev,c,kn,hv,cv,zo,zs,hr,[]⟩,rfl,rfl,rfl,rfl,rfl,rfl,rfl,rfl,rfl,rfl,rfl,rfl⟩
 subst e1 e2 e4 e5 e6 e7 e8 e9 e10 e11
 have hSn:=hS.trans hS5
 have own_ge:∀ b∈K.own,w.heap.size≤b:=fun b hb=>by simp [MK.own,hk] at hb;omega
 have hmo:m∉K.own:=fun hb=>by
  have:=km.lt
  have:=ks.lt
  simp [MK.own,hk] at hb
  omega
 have hcw:=hcal.up hSn
 have g1:1<w.heap.size:=by have:=block_lt_of_cell (hcal.len 0 0 rfl);simpa using this
 have g2:3<w.heap.size:=by have:=block_lt_of_cell (hcal.mov 0 0 rfl);simpa using this
 have hK:KOk K:=
  { hols := hcal.hols.ext hSn (by simp) (fun b hb => .inr (own_ge b hb))
    clos:=hcal.clos.ext hSn (by simp) (fun b hb=>.inr (own_ge b hb))
    ozo:=ho.1,ozs:=ho.2.1,ohr:=ho.2.2
    len:=hcw.len,mov:=hcw.mov
    bml:=(km.up hS5).lt
    nkl:=fun b hb=>by rw [hk] at hb;cases hb;exact ⟨(ks.up hS5).lt,fun h=>hbms h.symm⟩
    gl:=fun b hb=>by have:=own_ge b hb;omega
    cal:=hcal.ok
    ev:=hev }
 have hM:Mch K K.w0 (.slice none 0 0) (.slice none 0 0) [] [] 0 0 false:=
  { blk := by unfold Z14; rw [hk]; exact km.up hS5
    row:=Row.nil
    nt:=fun b hb=>by rw [hk] at hb;cases hb;exact ⟨ks.up hS5,Row.nil⟩
    nt0:=fun _=>rfl
    ap:=by simp [ob]
    stp:=Stp.refl _ _
    prot:=fun p hp=>by rw [e12] at hp;cases hp }
 have hs0:SlV K.own K.w0 v code:=hs.ext hSn (by simp) (fun b hb=>.inr (own_ge b hb))
 clear hs km ks hcw
 refine W ?_
 refine Zr (σ:=Nat×Bool) (fun _=>[(0,v),(11,.pointer (some ⟨bs,0,none⟩)),(13,mP K),(14,.map (some m))])
  (fun q w'=>ZgT K code sh q w') (fun q=>if q.2=true then 0 else code.length+1 - q.1) (0,false) ⟨rfl,rfl,rfl,rfl,trivial⟩ ⟨_,_,[],[],0,0,hM,fun _=>⟨rfl,rfl,hl0,Xl _,⟨[],hsh0,Jo.nil⟩,code.length,Xl _,rfl⟩,fun h=>by cases h⟩ ?_
 clear hM
 rintro ⟨i,dn⟩ w6 ⟨sv,pv,st,sp,at_,er,hM,hrun,hdone⟩
 dsimp only at hM hrun hdone ⊢
 have hblk:=hM.blk
 unfold Z14 at hblk
 cases dn with
 | false=>
   obtain ⟨rfl,rfl,hi,hsp,⟨s,hshs,hst⟩,f,hf,hr⟩:=hrun rfl
   obtain ⟨s',nx,hg⟩:=hgood i hi
   have hss:s'=s:=by have:=hg.at_;rw [hshs] at this;exact (XP this).symm
   subst hss
   have hsl:=hs0.ext (X':=[]) hM.stp (fun b hb=>hb) (by simp)
   have hx:code.getD i ⟨0,0⟩=code[i]:=by simp [List.getD,hi]
   have hn:=hg.next
   rw [hx] at hn
   have h16':s'.length≤16:=h16 _ (by
    have hil:i<sh.length:=by omega
    rw [Xt,XA hil] at hshs
    simp only [X9] at hshs
    rw [← hshs]
    exact Xf hil)
   refine W ?_
   refine Z1 Z7 rfl ?_
   rintro _ w7 ⟨b15,rfl,hb15,e15,hS7⟩
   have hbb:=hblk.lt
   refine W ?_
   refine Z2 (Z3 (us:=Z9.enc code[i]) rfl rfl rfl rfl (Z9.one _) e15 rfl) ?_
   rintro _ w8 ⟨hT,k15⟩
   replace hS7:=hS7.own hT (fun c hc=>.inr (by simp at hc;omega))
   clear e15 hT
   replace hM:=hM.up hS7
   replace hblk:=hblk.up hS7
   refine W ?_
   refine Z2 (Ze (u:=.int .i64 ((i:Int)+1)) rfl rfl rfl rfl hblk (by simp [evC,Jm])) ?_
   rintro _ w9 ⟨hS9,hblk9⟩
   replace hM:=hM.put hK (at':=((i+1:Nat):Int)) (er':=0) (dn':=false) hS9 hblk9
   replace k15:=k15.ext hS9 (by simp;omega)
   have hmp:=hmap.ext hM.stp hmo
   refine W ?_
   refine Zd (Z3h rfl rfl hmp) rfl ?_
   refine W ?_
   refine Z1 (ZbF hK hM hn hst (by rw [← hst.1];omega) (by omega) rfl rfl rfl) rfl ?_
   rintro _ w10 ⟨rfl,hres⟩
   obtain ⟨q,hq,hlt⟩:=ZgT.step hK hi hx hlen hg h16 hst hsp hf hr hres
   refine W ?_
   exact Zg q ⟨rfl,rfl,rfl,rfl,trivial⟩ hq (by simpa using hlt)
 | true=>
   have fin:∀ w' pv',Stp K.own K.w0 w'→Row [] w' K.w0.heap.size 111 pv' (Z0r (Zj K.c K.kn) K.ev code).2.1→J8 111 w w' pv' (Z0r (Zj K.c K.kn) K.ev code).2.1:=fun w' pv' h1 h2=>
    ⟨h2.lower hSn.size,hSn.own h1 (fun b hb=>.inr (own_ge b hb))⟩
   rcases hdone rfl with ⟨rfl,x,rfl,hR⟩|⟨he,hR⟩
   obtain ⟨ks,hrow⟩:=hM.nt bs hk
   refine W ?_
   refine ZDr 6 ([K.bm]) [] [(0,0),(2,1),(1,2),(3,0),(4,0),(5,0)] (fun w1 hS1=>?_)
   replace hM:=hM.up hS1
   replace ks:=ks.up hS1
   replace hrow:=hrow.up hS1
   refine D ?_
   refine Za rfl trivial (Z4 rfl (Zm rfl) (Z2h (st:=[]) hK hM)) (fun _ _ h=>h.2.2) rfl ?_
   rintro _ w7 ⟨rfl,⟨sv',hM7⟩,hS7⟩
   obtain ⟨ks7,hrow7⟩:=hM7.nt bs hk
   refine D ?_
   refine W ?_
   refine WR ?_
   refine .mk ⟨pv,by rw [hR],fin _ _ hM7.stp ?_⟩
   rw [hR]
   exact hrow7
   focus repeat'(first|refine W1 ?_|omega|refine VG ?_ ?_<;>intro hg|refine VC ?_ ?_<;>intro hc)
   refine ZDr 7 [] [] [(0,0),(1,0),(2,0),(3,1),(4,0),(5,0),(6,0)] (fun w1 hS1=>?_)
   replace hM:=hM.up hS1
   replace hblk:=hblk.up hS1
   refine D ?_
   refine W ?_
   refine WR ?_
   refine .mk ⟨.slice none 0 0,by rw [hR],fin _ _ hM.stp ?_⟩
   rw [hR]
   exact Row.nil
theorem ZeV (a b c d e f:Int) (w:World) :
 (Instr.build 29 #[(0, .int .i64 a), (2, .int .i64 b), (3, .int .i64 c), (4, .int .i64 d), (5, .int .i64 e), (6, .int .i64 f)]).run Tryz.prog w
   = .ok (.agg #[.int .i64 a,.int .i64 0,.int .i64 b,.int .i64 c,.int .i64 d,.int .i64 e,.int .i64 f]) w:=by kernel_rfl
theorem Z8n {a s b c d e f:Int} (ha:0≤a∧a≤3652058) (hs:-1≤s∧s≤3652058) (hb:-2147483647≤b∧b≤2147483647) (hc:-2147483647≤c∧c≤2147483647) (hd:-2147483647≤d∧d≤2147483647) (he:-2147483647≤e∧e≤2147483647) (hf:-2147483647≤f∧f≤2147483647):Z3x [a,s,b,c,d,e,f]:=by
 refine ⟨rfl,ha,hs,fun i h2 h7=>?_⟩
 obtain rfl|rfl|rfl|rfl|rfl:i=2∨i=3∨i=4∨i=5∨i=6:=by omega
 exact hb
 exact hc
 exact hd
 exact he
 exact hf
theorem Z9H (v:Value) (l:List Int) (w:World) (hs:SlV [] w v l) (hl:∀ a∈l,I64 a) :
 CC 41 #[v] w fun r w'=>∃ ev,r=Z6O ev∧Z3x ev∧Stp [] w w':=by
 refine cW1 31 Tryz.func41 ?_
 refine W ?_
 refine Z1 Z7 rfl ?_
 rintro _ w1 ⟨b2,rfl,hb2,k2,hS⟩
 refine W ?_
 refine CL rfl (ZE rfl rfl rfl) rfl (ZY [] _ l 0 60 _ (by decide) (by unfold I64;omega) (hs.up hS) hl) ?_
 rintro _ w2 ⟨q0,rfl,hq0,hS2⟩
 replace k2:=k2.up hS2
 replace hS:=hS.trans hS2
 clear hS2
 refine W ?_
 refine CL rfl (ZE rfl rfl rfl) rfl (ZY [] _ l 2 9 _ (by decide) (by unfold I64;omega) (hs.up hS) hl) ?_
 rintro _ w2 ⟨q2,rfl,hq2,hS2⟩
 replace k2:=k2.up hS2
 replace hS:=hS.trans hS2
 clear hS2
 refine W ?_
 refine CL rfl (ZE rfl rfl rfl) rfl (ZY [] _ l 3 4 _ (by decide) (by unfold I64;omega) (hs.up hS) hl) ?_
 rintro _ w2 ⟨q3,rfl,hq3,hS2⟩
 replace k2:=k2.up hS2
 replace hS:=hS.trans hS2
 clear hS2
 refine W ?_
 refine CL rfl (ZE rfl rfl rfl) rfl (ZY [] _ l 4 4 _ (by decide) (by unfold I64;omega) (hs.up hS) hl) ?_
 rintro _ w2 ⟨q4,rfl,hq4,hS2⟩
 replace k2:=k2.up hS2
 replace hS:=hS.trans hS2
 clear hS2
 refine W ?_
 refine CL rfl (ZE rfl rfl rfl) rfl (ZY [] _ l 5 3 _ (by decide) (by unfold I64;omega) (hs.up hS) hl) ?_
 rintro _ w2 ⟨q5,rfl,hq5,hS2⟩
 replace k2:=k2.up hS2
 replace hS:=hS.trans hS2
 clear hS2
 refine W ?_
 refine CL rfl (ZE rfl rfl rfl) rfl (ZY [] _ l 6 300 _ (by decide) (by unfold I64;omega) (hs.up hS) hl) ?_
 rintro _ w2 ⟨q6,rfl,hq6,hS2⟩
 replace k2:=k2.up hS2
 replace hS:=hS.trans hS2
 clear hS2
 refine W ?_
 apply Z6 (vs:=[(0,.int .i64 (739616+(q0:Int))),(2,.int .i64 (q2:Int)),(3,.int .i64 (q3:Int)),(4,.int .i64 (q4:Int)),(5,.int .i64 (q5:Int)),(6,.int .i64 ((q6:Int) - 50))]) rfl (ZeV _ _ _ _ _ _) rfl
 refine W ?_
 have k2lt:=k2.lt
 refine Z1 Z7 rfl ?_
 rintro _ w3 ⟨b3,rfl,hb3,k3,hS3⟩
 replace k2:=k2.up hS3
 replace hS:=hS.trans hS3
 clear hS3
 refine W ?_
 refine Z2 (Z3 (us:=evC [739616+(q0:Int),0,(q2:Int),(q3:Int),(q4:Int),(q5:Int),(q6:Int) - 50]) rfl rfl rfl rfl (by simp [evC,Value.oneCell']) k3 rfl) ?_
 rintro _ w4 ⟨hS4,k3⟩
 replace k3:Blk w4 b3 29 [.int .i64 (739616+(q0:Int)),.int .i64 (0),.int .i64 (q2:Int),.int .i64 (q3:Int),.int .i64 (q4:Int),.int .i64 (q5:Int),.int .i64 ((q6:Int) - 50)]:=k3
 have n23:b2≠b3:=by omega
 replace k2:=k2.ext hS4 (by simpa using n23)
 replace hS:=hS.own hS4 (fun c hc=>.inr (by simp at hc;omega))
 clear hS4
 refine W ?_
 refine ZDr 8 [] [7] [(0,0),(1,1),(2,0),(3,2),(4,0),(5,0),(6,0),(7,2)] (fun w1 hS1=>?_)
 replace k2:=k2.up hS1
 replace k3:=k3.up hS1
 replace hS:=hS.trans hS1
 clear hS1
 refine D ?_
 refine Za rfl trivial (Z4 rfl (ZE rfl rfl rfl) (ZY [] _ l 1 20 _ (by decide) (by unfold I64;omega) (hs.up hS) hl)) (fun _ _ h=>h.choose_spec.2.2) rfl ?_
 rintro _ w5 ⟨q1,rfl,hq1,hS5⟩
 replace k2:=k2.up hS5
 replace k3:=k3.up hS5
 replace hS:=hS.trans hS5
 clear hS5
 refine D ?_
 refine Js rfl trivial (Ze (u:=.int .i64 (739616+(q0:Int)+(q1:Int) - 5)) rfl rfl rfl rfl k3 (by simp)) rfl ?_
 rintro _ w6 ⟨hS6,k3⟩
 replace k3:Blk w6 b3 29 [.int .i64 (739616+(q0:Int)),.int .i64 (739616+(q0:Int)+(q1:Int) - 5),.int .i64 (q2:Int),.int .i64 (q3:Int),.int .i64 (q4:Int),.int .i64 (q5:Int),.int .i64 ((q6:Int) - 50)]:=k3
 replace k2:=k2.ext hS6 (by simpa using n23)
 replace hS:=hS.own hS6 (fun c hc=>.inr (by simp at hc;omega))
 clear hS6
 refine D ?_
 refine W ?_
 refine CL rfl (ZE rfl rfl rfl) rfl (ZY [] _ l 1 7 _ (by decide) (by unfold I64;omega) (hs.up hS) hl) ?_
 rintro _ w7 ⟨q7,rfl,hq7,hS7⟩
 replace k2:=k2.up hS7
 replace k3:=k3.up hS7
 replace hS:=hS.trans hS7
 clear hS7
 by_cases h3:(q7:Int)=3
 focus repeat'(first|refine W1 ?_|omega|refine VG ?_ ?_<;>intro hg|refine VC ?_ ?_<;>intro hc)
 refine Z2 (Ze (u:=.int .i64 (-1)) rfl rfl rfl rfl k3 (by simp)) ?_
 rintro _ w8 ⟨hS8,k3⟩
 replace k3:Blk w8 b3 29 [.int .i64 (739616+(q0:Int)),.int .i64 (-1),.int .i64 (q2:Int),.int .i64 (q3:Int),.int .i64 (q4:Int),.int .i64 (q5:Int),.int .i64 ((q6:Int) - 50)]:=k3
 replace k2:=k2.ext hS8 (by simpa using n23)
 replace hS:=hS.own hS8 (fun c hc=>.inr (by simp at hc;omega))
 clear hS8
 refine W ?_
 refine Z2 (Z3 (us:=evC [739616+(q0:Int),-1,(q2:Int),(q3:Int),(q4:Int),(q5:Int),(q6:Int) - 50]) rfl rfl rfl rfl (by simp [evC,Value.oneCell']) k2 rfl) ?_
 rintro _ w9 ⟨hS9,k2⟩
 replace hS:=hS.own hS9 (fun c hc=>.inr (by simp at hc;omega))
 clear hS9
 refine W ?_
 refine Zl rfl rfl rfl k2 rfl ?_
 exact .mk ⟨_,rfl,Z8n (by omega) (by omega) (by omega) (by omega) (by omega) (by omega) (by omega),hS⟩
 focus repeat'(first|refine W1 ?_|omega|refine VG ?_ ?_<;>intro hg|refine VC ?_ ?_<;>intro hc)
 refine Z2 (Z3 (us:=evC [739616+(q0:Int),739616+(q0:Int)+(q1:Int) - 5,(q2:Int),(q3:Int),(q4:Int),(q5:Int),(q6:Int) - 50]) rfl rfl rfl rfl (by simp [evC,Value.oneCell']) k2 rfl) ?_
 rintro _ w9 ⟨hS9,k2⟩
 replace hS:=hS.own hS9 (fun c hc=>.inr (by simp at hc;omega))
 clear hS9
 refine W ?_
 refine Zl rfl rfl rfl k2 rfl ?_
 exact .mk ⟨_,rfl,Z8n (by omega) (by omega) (by omega) (by omega) (by omega) (by omega) (by omega),hS⟩
theorem Z2E (z:Int) (m:Int) (w:World) (hm:0<m) (hz:I64 z):CC 186 #[.int .i64 z,.int .i64 m] w fun r w'=>r=.int .i64 ((if z<0 then -(z+1) else z) % m)∧Stp [] w w':=by
 unfold I64 at hz
 refine cW2 13 Tryz.func186 ?_
 by_cases h:z<0
 focus repeat'(first|refine W1 ?_|omega|refine VG ?_ ?_<;>intro hg|refine VC ?_ ?_<;>intro hc)
 refine WR ?_
 exact .mk ⟨by rw [if_pos h],Stp.refl _ _⟩
 focus repeat'(first|refine W1 ?_|omega|refine VG ?_ ?_<;>intro hg|refine VC ?_ ?_<;>intro hc)
 refine WR ?_
 exact .mk ⟨by rw [if_neg h],Stp.refl _ _⟩
theorem ZaL (X:List Nat) (v:Value) (l:List Int) (i m:Int) (w:World) (hm:0<m) (hi:I64 i) (hs:SlV X w v l) (hl:∀ a∈l,I64 a):CC 185 #[v,.int .i64 i,.int .i64 m] w fun r w'=>∃ q:Nat,r=.int .i64 (q:Int)∧(q:Int)<m∧Stp [] w w':=by
 unfold I64 at hi
 have hmax:=hs.max
 refine cW3 21 Tryz.func185 ?_
 refine W ?_
 by_cases hgo:0≤i∧i<l.length
 obtain ⟨h0,h1⟩:=hgo
 obtain ⟨k,rfl⟩:∃ k:Nat,i=(k:Int):=⟨i.toNat,by omega⟩
 have hk:k<l.length:=by omega
 focus repeat'(first|refine W1 ?_|omega|refine VG ?_ ?_<;>intro hg|refine VC ?_ ?_<;>intro hc)
 refine CL rfl (Zb rfl rfl) rfl (Z2E _ m _ hm (hl _ (Xf hk))) ?_
 rintro _ w2 ⟨rfl,hS⟩
 refine W ?_
 refine WR ?_
 have:=Jj (if l[k]<0 then -(l[k]+1) else l[k]) m hm
 exact .mk ⟨_,by rw [YaH this.1],by rw [YaH this.1];exact this.2,hS⟩
 · repeat'(first|refine W1 ?_|omega|refine VG ?_ ?_<;>intro hg|refine VC ?_ ?_<;>intro hc)
   all_goals first
    | (refine WR ?_
       exact .mk ⟨0,rfl,by simpa using hm,Stp.refl _ _⟩)
theorem ZgU (a:Int) (w:World):(Instr.build 35 #[(0,.int .i64 a)]).run Tryz.prog w=.ok (.agg #[.int .i64 a,.slice none 0 0]) w:=by kernel_rfl
theorem ZgV (a b:Int) (w:World):(Instr.build 190 #[(0,.int .i64 a),(1,.int .i64 b)]).run Tryz.prog w=.ok (agg ((a,b):Spn)) w:=by kernel_rfl
theorem ZeW (d:Spn) (w:World):(Instr.buildSlice 33 1 #[(0,agg d)]).run Tryz.prog w=.ok (.slice (some ⟨w.heap.size,0,none⟩) 1 1) (w.alloc (.cells (Z9.enc d).toArray 190)):=by kernel_rfl
def Z9I (x:Spn):Prop:=0≤x.1∧x.1≤2000000
theorem Z6u (v:Value) (l:List Int) (w:World) (hs:SlV [] w v l) (hl:∀ a∈l,I64 a) :
 CC 95 #[v] w fun r w'=>∃ (o:Int) (zs:Value) (xs:List Spn),r=.agg #[.int .i64 o,zs]∧(∀ x∈xs,Z9I x)∧xs.length≤100∧J8 190 w w' zs xs:=by
 have hmax:=hs.max
 refine cW1 45 Tryz.func95 ?_
 refine W ?_
 refine Z1 Z7 rfl ?_
 rintro _ w1 ⟨b2,rfl,hb2,k2,hS⟩
 refine W ?_
 refine CL rfl (ZE rfl rfl rfl) rfl (ZaL [] _ l 0 1801 _ (by decide) (by unfold I64;omega) (hs.up hS) hl) ?_
 rintro _ w2 ⟨q0,rfl,hq0,hS2⟩
 replace k2:=k2.up hS2
 replace hS:=hS.trans hS2
 clear hS2
 refine W ?_
 refine Z6 (vs:=[(0,.int .i64 ((q0:Int) - 900))]) rfl (ZgU _) rfl ?_
 have k2lt:=k2.lt
 refine Z1 Z7 rfl ?_
 rintro _ w3 ⟨b3,rfl,hb3,k3,hS3⟩
 replace k2:=k2.up hS3
 replace hS:=hS.trans hS3
 clear hS3
 refine W ?_
 have n23:b2≠b3:=by omega
 refine Z2 (Z3 (us:=[.int .i64 ((q0:Int) - 900),.slice none 0 0]) rfl rfl rfl rfl (by simp [Value.oneCell']) k3 rfl) ?_
 rintro _ w4 ⟨hS4,k3⟩
 replace k2:=k2.ext hS4 (by simpa using n23)
 replace hS:=hS.own hS4 (fun c hc=>.inr (by simp at hc;omega))
 clear hS4
 have hsz:=hS.size
 have k3lt:=k3.lt
 have k2lt':=k2.lt
 refine W ?_
 refine Z1t (σ:=Value×List Spn) (fun q=>[(2,.pointer (some ⟨b2,0,none⟩)),(3,.pointer (some ⟨b3,0,none⟩))]) (fun q w'=>Blk w' b2 35 (.agg #[.int .i64 0,.slice none 0 0]:Value).cells.toList∧Blk w' b3 35 [.int .i64 ((q0:Int) - 900),q.1]∧Row [] w' w4.heap.size 190 q.1 q.2∧q.2.length≤42∧(∀ x∈q.2,Z9I x)∧Stp [b3] w4 w') ?_ ?_
 refine Zr (σ:=Nat×Int×Value×List Spn) (fun q=>[(0,v),(2,.pointer (some ⟨b2,0,none⟩)),(3,.pointer (some ⟨b3,0,none⟩)),(4,.int .i64 q.2.1),(5,.int .i64 (q.1:Int))])
  (fun q w'=>(1≤q.1∧q.1≤43∧0≤q.2.1∧q.2.1≤25000 * q.1∧q.2.2.2.length<q.1)∧Blk w' b2 35 (.agg #[.int .i64 0,.slice none 0 0]:Value).cells.toList∧Blk w' b3 35 [.int .i64 ((q0:Int) - 900),q.2.2.1]∧Row [] w' w4.heap.size 190 q.2.2.1 q.2.2.2∧(∀ x∈q.2.2.2,Z9I x)∧Stp [b3] w4 w') (fun q=>43 - q.1)
  (1,0,.slice none 0 0,[]) ⟨rfl,rfl,rfl,rfl,rfl,trivial⟩ ⟨⟨by decide,by decide,by decide,by decide,by decide⟩,k2,k3,Row.nil,by simp,Stp.refl _ _⟩ ?_
 rintro ⟨k,at_,zs,xs⟩ w5 ⟨⟨hk1,hk43,ha0,ha1,hxl⟩,k2,k3,hrow,hxs,hS5⟩
 dsimp only at hk1 hk43 ha0 ha1 hxl k3 hrow hxs ⊢
 have hS05:Stp [] w w5:=hS.own hS5 (fun c hc=>.inr (by simp at hc;omega))
 have hs0:=hs
 replace hs:=hs.up hS05
 by_cases hlt:k+1<l.length∧k<41
 obtain ⟨hlt,h41⟩:=hlt
 have hkl:k<l.length:=by omega
 focus repeat'(first|refine W1 ?_|omega|refine VG ?_ ?_<;>intro hg|refine VC ?_ ?_<;>intro hc)
 refine CL rfl (Zb rfl rfl) rfl (Z2E _ 20000 _ (by decide) (hl _ (Xf hkl))) ?_
 rintro _ w6 ⟨rfl,hS6⟩
 have hr:=Jj (if l[k]<0 then -(l[k]+1) else l[k]) 20000 (by decide)
 generalize (if l[k]<0 then -(l[k]+1) else l[k]) % 20000=m at hr ⊢
 refine W ?_
 replace k2:=k2.up hS6
 replace k3:=k3.up hS6
 replace hrow:=hrow.up hS6
 replace hs:=hs.up hS6
 replace hS5:=hS5.trans (hS6.mono (by simp))
 clear hS6 hS05
 have n3:b3∉ob zs:=fun h=>by have:=(hrow.ob_le _ h).1;omega
 have n2:b2∉ob zs:=fun h=>by have:=(hrow.ob_le _ h).1;omega
 replace hs:SlV (ob zs) w6 v l:=hs0.ext (X':=ob zs) (hS.own hS5 (fun c hc=>.inr (by simp at hc;omega))) (by simp) (fun b hb=>.inr (by have:=(hrow.ob_le b hb).1;omega))
 refine Z45 15 (ob zs) [14] [(0,0),(1,1),(2,0),(3,0),(4,0),(5,0),(6,0),(7,1),(8,2),(9,0),(10,0),(11,2),(12,2),(13,0),(14,2)] rfl mixed (by kernel_rfl) (by kernel_rfl) (by kernel_rfl) (fun w1 hS1=>?_)
 replace k2:=k2.up hS1
 replace k3:=k3.up hS1
 replace hrow:=hrow.up hS1
 replace hs:=hs.up hS1
 replace hS5:=hS5.trans (hS1.mono (by simp))
 clear hS1
 refine D ?_
 refine Za rfl trivial (Z4 rfl (Zb rfl rfl) (Z2E _ 1801 _ (by decide) (hl _ (Xf hlt)))) (fun _ _ h=>h.2.mono (by simp)) rfl ?_
 rintro _ w7 ⟨rfl,hS7⟩
 have hr2:=Jj (if l[k+1]<0 then -(l[k+1]+1) else l[k+1]) 1801 (by decide)
 generalize (if l[k+1]<0 then -(l[k+1]+1) else l[k+1]) % 1801=m2 at hr2 ⊢
 replace k2:=k2.up hS7
 replace k3:=k3.up hS7
 replace hrow:=hrow.up hS7
 replace hS5:=hS5.trans (hS7.mono (by simp))
 clear hS7
 refine D ?_
 refine ZC rfl trivial (fun w'=>Z0v (vs:=[(0,.int .i64 (at_+m)),(1,.int .i64 (m2 - 900))]) rfl (ZgV _ _)) rfl ?_
 refine D ?_
 refine Za rfl trivial (Z0 (vs:=[(0,agg ((at_+m,m2 - 900):Spn))]) rfl (ZeW _)) (fun _ _ h=>(Z5.stp h).mono (by simp)) rfl ?_
 rintro bv w8 hN
 have hbv:SlV (ob zs++[]) w8 bv [((at_+m,m2 - 900):Spn)]:=hN.slv (fun b hb=>(hrow.ob_le b (by simpa using hb)).2) rfl rfl (by simp [maxLen])
 have hT:=Z5.stp hN
 clear hN
 replace k2:=k2.up hT
 replace k3:=k3.up hT
 replace hrow:=hrow.up hT
 replace hS5:=hS5.trans (hT.mono (by simp))
 clear hT
 have hbase:=hS5.size
 have hob:=hrow.ob_le
 refine D ?_
 refine Za rfl trivial (Jw (X:=[]) (base:=w4.heap.size) rfl (by decide) rfl rfl hrow hbv (by simp only [Xc,Xd];omega) (by simp only [Xc,Xd,maxLen];omega) hbase) (fun _ _ h=>h.2.1) rfl ?_
 rintro zs' w9 ⟨hrow,hT,hob'⟩
 replace k2:=k2.ext hT (fun h=>by have:=(hob _ h).1;omega)
 replace k3:=k3.ext hT (fun h=>by have:=(hob _ h).1;omega)
 replace hS5:Stp [b3] w4 w9:=hS5.own hT (fun c hc=>.inr (hob c hc).1)
 clear hT
 refine D ?_
 refine Js rfl trivial (Ze (u:=zs') rfl rfl (Row.slv (X:=[]) hrow (by simp)).cells (Row.slv (X:=[]) hrow (by simp)).one k3 (by simp)) rfl ?_
 rintro _ w10 ⟨hT,k3⟩
 replace k3:Blk w10 b3 35 [.int .i64 ((q0:Int) - 900),zs']:=k3
 replace k2:=k2.ext hT (by simpa using n23)
 have hob2:=hrow.ob_le
 replace hrow:=hrow.keep hT (fun b hb h=>by have:=hob2 _ h;simp at hb;omega)
 replace hS5:=hS5.trans hT
 clear hT
 refine D ?_
 refine W ?_
 refine Zg (k+2,at_+m+2880,zs',xs++[((at_+m,m2 - 900):Spn)]) ⟨rfl,rfl,rfl,rfl,rfl,trivial⟩ ⟨⟨by dsimp only;omega,by dsimp only;omega,by dsimp only;omega,by dsimp only;omega,by dsimp only;rw [Xg];simp only [Xc,Xd];omega⟩,k2,k3,hrow,?_,hS5⟩ (by dsimp only;omega)
 intro x hx
 rcases Xs.1 hx with h|h
 exact hxs x h
 rw [Xp.1 h]
 unfold Z9I
 dsimp only
 omega
 · repeat'(first|refine W1 ?_|omega|refine VG ?_ ?_<;>intro hg|refine VC ?_ ?_<;>intro hc)
   all_goals exact ZO (zs,xs) ⟨rfl,rfl,trivial⟩ ⟨k2,k3,hrow,(by dsimp only;omega),hxs,hS5⟩
 rintro ⟨zs,xs⟩ w5 ⟨k2,k3,hrow,hxl,hxs,hS5⟩
 dsimp only at k3 hrow hxl hxs ⊢
 refine W ?_
 have hob:=hrow.ob_le
 have hS05:Stp [] w w5:=hS.own hS5 (fun c hc=>.inr (by simp at hc;omega))
 refine Z2 (Z3 (us:=[.int .i64 ((q0:Int) - 900),zs]) rfl rfl rfl rfl (by intro u hu;simp at hu;rcases hu with rfl|rfl;exact rfl;exact (Row.slv (X:=[]) hrow (by simp)).one) k2 rfl) ?_
 rintro _ w6 ⟨hT,k2⟩
 replace hrow:=hrow.keep hT (fun b hb h=>by have:=hob _ h;simp at hb;omega)
 refine W ?_
 refine Zl rfl rfl rfl k2 rfl ?_
 exact .mk ⟨_,zs,xs,rfl,hxs,by omega,hrow.lower hsz,hS05.own hT (fun c hc=>.inr (by simp at hc;omega))⟩
def cL (b0 b5 b6:Bool) (hv cv zo zs hr:Value):List Value:=[.bool b0,.bool false,.bool false,.bool false,.bool false,.bool b5,.bool b6,hv,cv,zo,zs,hr]
theorem ZgW (w:World):(Instr.buildSlice 22 4 #[(0,.int .i64 1439),(1,.int .i64 1020),(2,.int .i64 0),(3,.int .i64 720)]).run Tryz.prog w=.ok (.slice (some ⟨w.heap.size,0,none⟩) 4 4) (w.alloc (.cells #[.int .i64 1439,.int .i64 1020,.int .i64 0,.int .i64 720] 3)):=by kernel_rfl
theorem ZgX (h:Int) (w:World):(Instr.build 37 #[(4,.int .i64 h)]).run Tryz.prog w=.ok (.agg (cL false false false (.slice none 0 0) (.slice none 0 0) (.int .i64 0) (.slice none 0 0) (.int .i64 h)).toArray) w:=by kernel_rfl
theorem Zlf (a b c:Int) (w:World):(Instr.build 187 #[(0,.int .i64 a),(1,.int .i64 b),(7,.int .i64 1),(8,.int .i64 9999),(6,.int .i64 c)]).run Tryz.prog w=.ok (agg (⟨a,b,0,0,0,0,c,1,9999⟩:Hol)) w:=by kernel_rfl
theorem ZgY (h:Hol) (w:World):(Instr.buildSlice 31 1 #[(0,agg h)]).run Tryz.prog w=.ok (.slice (some ⟨w.heap.size,0,none⟩) 1 1) (w.alloc (.cells (Z9.enc h).toArray 187)):=by kernel_rfl
theorem ZgZ (a b c:Int) (w:World):(Instr.build 77 #[(0,.int .i64 a),(1,.int .i64 b),(2,.int .i64 c)]).run Tryz.prog w=.ok (agg (⟨a,b,c⟩:Clo)) w:=by kernel_rfl
theorem Zh0 (h:Clo) (w:World):(Instr.buildSlice 32 1 #[(0,agg h)]).run Tryz.prog w=.ok (.slice (some ⟨w.heap.size,0,none⟩) 1 1) (w.alloc (.cells (Z9.enc h).toArray 77)):=by kernel_rfl
def Z9J (x:Clo):Prop:=739616≤x.lo∧x.lo<739736∧x.lo≤x.hi∧x.hi≤x.lo+5∧739616≤x.known∧x.known<739746
structure Zhp (c:Cal):Prop where
 ok:Zbp c
 wk:∃ b0 b5 b6:Bool,c.week=[b0,false,false,false,false,b5,b6]
 h3:c.hols.length≤3
 c3:c.clos.length≤3
 cl:∀ x∈c.clos,Z9J x
theorem Z6v (X:List Nat) (v:Value) (l:List Int) (w:World) (hX:∀ b∈X,b<w.heap.size) (hs:SlV [] w v l) (hl:∀ a∈l,I64 a) :
 CC 42 #[v] w fun r w'=>∃ (c:Cal) (hv cv zo zs hr:Value),r=Z15 c hv cv zo zs hr∧(zo.oneCell'=true∧zs.oneCell'=true∧hr.oneCell'=true)∧Zhp c∧SlV X w' hv c.hols∧SlV X w' cv c.clos∧Stp [] w w':=by
 have hmax:=hs.max
 refine cW1 160 Tryz.func42 ?_
 refine W ?_
 refine Z1 Z7 rfl ?_
 rintro _ w1 ⟨b2,rfl,hb2,k2,hS⟩
 refine W ?_
 refine Z1 (Z0 (vs:=[(0,.int .i64 1439),(1,.int .i64 1020),(2,.int .i64 0),(3,.int .i64 720)]) rfl (ZgW)) rfl ?_
 rintro bv w2 hN
 have hbv:SlV [] w2 bv ([1439,1020,0,720]:List Int):=hN.slv (by simp) rfl rfl (by simp [maxLen])
 have hT:=Z5.stp hN
 clear hN
 replace k2:=k2.up hT
 replace hS:=hS.trans hT
 clear hT
 refine W ?_
 refine CL rfl (ZE rfl rfl rfl) rfl (ZY [] _ l 0 4 _ (by decide) (by unfold I64;omega) (hs.up hS) hl) ?_
 rintro _ wn ⟨q0,rfl,hq0,hT⟩
 replace hbv:=hbv.up hT
 replace k2:=k2.up hT
 replace hS:=hS.trans hT
 clear hT
 have hq0':q0<([1439,1020,0,720]:List Int).length:=by simp only [Xc,Xd];omega
 refine W ?_
 generalize ([1439,1020,0,720]:List Int)[q0]=hr
 refine Z6 (vs:=[(4,.int .i64 hr)]) rfl (ZgX _) rfl ?_
 have k2lt:=k2.lt
 clear hbv
 refine Z1 Z7 rfl ?_
 rintro _ w3 ⟨b3,rfl,hb3,k3,hT⟩
 replace k2:=k2.up hT
 replace hS:=hS.trans hT
 clear hT
 refine W ?_
 have n23:b2≠b3:=by omega
 refine Z2 (Z3 (us:=cL false false false (.slice none 0 0) (.slice none 0 0) (.int .i64 0) (.slice none 0 0) (.int .i64 hr)) rfl rfl rfl rfl (by simp [cL,Value.oneCell']) k3 rfl) ?_
 rintro _ w4 ⟨hT,k3⟩
 replace k2:=k2.ext hT (by simpa using n23)
 replace hS:=hS.own hT (fun c hc=>.inr (by simp at hc;omega))
 clear hT
 have k3lt:=k3.lt
 have k2lt':=k2.lt
 have hsz3:w.heap.size≤b3:=by have:=k3lt;have:=hS.size;omega
 refine W ?_
 refine CL rfl (ZE rfl rfl rfl) rfl (ZY [] _ l 1 8 _ (by decide) (by unfold I64;omega) (hs.up hS) hl) ?_
 rintro _ wn ⟨q1,rfl,hq1,hT⟩
 replace k3:=k3.up hT
 replace k2:=k2.up hT
 replace hS:=hS.trans hT
 clear hT
 refine W ?_
 refine Ji (len:=7) (i:=5) rfl rfl rfl (by decide) rfl ?_
 refine Z2 (Ze (u:=.bool (decide (¬ (q1:Int)=1))) rfl rfl rfl rfl k3 (by simp [cL])) ?_
 rintro _ wn ⟨hT,k3⟩
 replace k3:Blk wn b3 37 (cL false (decide (¬ (q1:Int)=1)) false (.slice none 0 0) (.slice none 0 0) (.int .i64 0) (.slice none 0 0) (.int .i64 hr)):=k3
 replace k2:=k2.ext hT (by simpa using n23)
 replace hS:=hS.own hT (fun c hc=>.inr (by simp at hc;omega))
 clear hT
 refine W ?_
 refine Ji (len:=7) (i:=6) rfl rfl rfl (by decide) rfl ?_
 refine Z2 (Ze (u:=.bool (decide (¬ (q1:Int)=2))) rfl rfl rfl rfl k3 (by simp [cL])) ?_
 rintro _ wn ⟨hT,k3⟩
 replace k3:Blk wn b3 37 (cL false (decide (¬ (q1:Int)=1)) (decide (¬ (q1:Int)=2)) (.slice none 0 0) (.slice none 0 0) (.int .i64 0) (.slice none 0 0) (.int .i64 hr)):=k3
 replace k2:=k2.ext hT (by simpa using n23)
 replace hS:=hS.own hT (fun c hc=>.inr (by simp at hc;omega))
 clear hT
 refine W ?_
 refine Z2 (Ze (u:=.bool (decide ((q1:Int)=3))) rfl rfl rfl rfl k3 (by simp [cL])) ?_
 rintro _ w5 ⟨hT,k3⟩
 replace k3:Blk w5 b3 37 (cL (decide ((q1:Int)=3)) (decide (¬ (q1:Int)=1)) (decide (¬ (q1:Int)=2)) (.slice none 0 0) (.slice none 0 0) (.int .i64 0) (.slice none 0 0) (.int .i64 hr)):=k3
 replace k2:=k2.ext hT (by simpa using n23)
 replace hS:=hS.own hT (fun c hc=>.inr (by simp at hc;omega))
 clear hT
 refine W ?_
 generalize decide ((q1:Int)=3)=b0 at k3 ⊢
 generalize decide (¬ (q1:Int)=1)=b5 at k3 ⊢
 generalize decide (¬ (q1:Int)=2)=b6 at k3 ⊢
 replace k2:Blk w5 b2 37 ((.agg (cL false false false (.slice none 0 0) (.slice none 0 0) (.int .i64 0) (.slice none 0 0) (.int .i64 0)).toArray:Value).cells.toList):=k2
 have hsz5:=hS.size
 have k3lt5:=k3.lt
 have k2lt5:=k2.lt
 refine Z1t (σ:=Value×List Hol) (fun q=>[(0,v),(2,.pointer (some ⟨b2,0,none⟩)),(3,.pointer (some ⟨b3,0,none⟩))]) (fun q w'=>q.2.length≤3∧Blk w' b2 37 ((.agg (cL false false false (.slice none 0 0) (.slice none 0 0) (.int .i64 0) (.slice none 0 0) (.int .i64 0)).toArray:Value).cells.toList)∧Blk w' b3 37 (cL b0 b5 b6 q.1 (.slice none 0 0) (.int .i64 0) (.slice none 0 0) (.int .i64 hr))∧Row [] w' w5.heap.size 187 q.1 q.2∧(∀ x∈q.2,Z0X x)∧Stp [b3] w5 w') ?_ ?_
 refine Zr (σ:=Nat×Value×List Hol) (fun q=>[(0,v),(2,.pointer (some ⟨b2,0,none⟩)),(3,.pointer (some ⟨b3,0,none⟩)),(5,.int .i64 (q.1:Int))]) (fun q w'=>q.1≤3∧q.2.2.length≤q.1∧Blk w' b2 37 ((.agg (cL false false false (.slice none 0 0) (.slice none 0 0) (.int .i64 0) (.slice none 0 0) (.int .i64 0)).toArray:Value).cells.toList)∧Blk w' b3 37 (cL b0 b5 b6 q.2.1 (.slice none 0 0) (.int .i64 0) (.slice none 0 0) (.int .i64 hr))∧Row [] w' w5.heap.size 187 q.2.1 q.2.2∧(∀ x∈q.2.2,Z0X x)∧Stp [b3] w5 w') (fun q=>3 - q.1)
  (0,.slice none 0 0,[]) ⟨rfl,rfl,rfl,rfl,trivial⟩ ⟨by decide,by decide,k2,k3,Row.nil,by simp,Stp.refl _ _⟩ ?_
 rintro ⟨j,hv,hols⟩ w6 ⟨hj3,hlen,k2,k3,hrow,hho,hSb⟩
 dsimp only at hj3 hlen k3 hrow hho ⊢
 have hs':=hs.up (hS.own hSb (fun c hc=>.inr (by simp at hc;omega)))
 have hrob:=hrow.ob_le
 refine W ?_
 refine CL rfl (ZE rfl rfl rfl) rfl (ZY [] _ l 2 4 _ (by decide) (by unfold I64;omega) hs' hl) ?_
 rintro _ wn ⟨q,rfl,hq,hT⟩
 replace k3:=k3.up hT
 replace k2:=k2.up hT
 replace hrow:=hrow.up hT
 replace hs':=hs'.up hT
 replace hSb:=hSb.trans (hT.mono (by simp))
 clear hT
 by_cases hlt:(j:Int)<(q:Int)
 focus repeat'(first|refine W1 ?_|omega|refine VG ?_ ?_<;>intro hg|refine VC ?_ ?_<;>intro hc)
 refine CL rfl (ZE rfl rfl rfl) rfl (ZY [] _ l (3+2 * (j:Int)) 1000000 _ (by decide) (by unfold I64;omega) hs' hl) ?_
 rintro _ wn ⟨x,rfl,hx,hT⟩
 replace k3:=k3.up hT
 replace k2:=k2.up hT
 replace hrow:=hrow.up hT
 replace hs':=hs'.up hT
 replace hSb:=hSb.trans (hT.mono (by simp))
 clear hT
 refine W ?_
 refine CL rfl (ZE rfl rfl rfl) rfl (ZY [] _ l (4+2 * (j:Int)) 1000000 _ (by decide) (by unfold I64;omega) hs' hl) ?_
 rintro _ wn ⟨y,rfl,hy,hT⟩
 replace k3:=k3.up hT
 replace k2:=k2.up hT
 replace hrow:=hrow.up hT
 replace hs':=hs'.up hT
 replace hSb:=hSb.trans (hT.mono (by simp))
 clear hT
 refine W ?_
 refine Z6 (vs:=[(0,.int .i64 (1+(x:Int) % 4)),(1,.int .i64 (1+(x:Int) / 4 % 4)),(7,.int .i64 1),(8,.int .i64 9999),(6,.int .i64 ((y:Int) % 3))]) rfl (Zlf _ _ _) rfl ?_
 have hk3':=k3.lt
 have hk2':=k2.lt
 have hrob':=hrow.ob_le
 have hsb':=hSb.size
 refine Z1 Z7 rfl ?_
 rintro _ wn ⟨b8,rfl,hb8,k8,hT⟩
 replace k3:=k3.up hT
 replace k2:=k2.up hT
 replace hrow:=hrow.up hT
 replace hs':=hs'.up hT
 replace hSb:=hSb.trans (hT.mono (by simp))
 clear hT
 refine W ?_
 have hn8:b8≠b2∧b8≠b3∧b8∉ob hv:=⟨by omega,by omega,fun h=>by have:=(hrob' _ h).2;omega⟩
 have hS8:w5.heap.size≤b8:=by omega
 generalize hm1:1+(x:Int) % 4=m1
 generalize hm2:1+(x:Int) / 4 % 4=m2
 generalize hm3:(y:Int) % 3=m3
 refine Z2 (Z3 (us:=Z9.enc (⟨m1,m2,0,0,0,0,m3,1,9999⟩:Hol)) rfl rfl rfl rfl (Z9.one _) k8 rfl) ?_
 rintro _ wn ⟨hT,k8⟩
 replace k3:=k3.ext hT (by simp;omega)
 replace k2:=k2.ext hT (by simp;omega)
 replace hrow:=hrow.keep hT (by simp;exact hn8.2.2)
 replace hSb:=hSb.own hT (fun c hc=>.inr (by simp at hc;omega))
 clear hT
 replace k8:Blk wn b8 187 [.int .i64 m1,.int .i64 m2,.int .i64 0,.int .i64 0,.int .i64 0,.int .i64 0,.int .i64 m3,.int .i64 1,.int .i64 9999]:=k8
 clear hs'
 refine W ?_
 refine Z1t (σ:=Hol) (fun _=>[(0,v),(2,.pointer (some ⟨b2,0,none⟩)),(3,.pointer (some ⟨b3,0,none⟩)),(5,.int .i64 (j:Int)),(8,.pointer (some ⟨b8,0,none⟩))])
  (fun h w'=>Z0X h∧Blk w' b8 187 [.int .i64 h.kind,.int .i64 h.month,.int .i64 h.day,.int .i64 h.wd,.int .i64 h.nth,.int .i64 h.off,.int .i64 h.move,.int .i64 h.first,.int .i64 h.last]∧Blk w' b2 37 ((.agg (cL false false false (.slice none 0 0) (.slice none 0 0) (.int .i64 0) (.slice none 0 0) (.int .i64 0)).toArray:Value).cells.toList)∧Blk w' b3 37 (cL b0 b5 b6 hv (.slice none 0 0) (.int .i64 0) (.slice none 0 0) (.int .i64 hr))∧Row [] w' w5.heap.size 187 hv hols∧Stp [b3] w5 w') ?_ ?_
 have hk:m1=1∨m1=2∨m1=3∨m1=4:=by omega
 rcases hk with rfl|rfl|rfl|rfl
 refine W ?_
 refine Z2 (Ze (u:=.int .i64 (1+(y:Int) / 3 % 31)) rfl rfl rfl rfl k8 (by simp)) ?_
 rintro _ wn ⟨hT,k8⟩
 replace k8:Blk wn b8 187 [.int .i64 (1),.int .i64 (m2),.int .i64 (1+(y:Int) / 3 % 31),.int .i64 (0),.int .i64 (0),.int .i64 (0),.int .i64 (m3),.int .i64 (1),.int .i64 (9999)]:=k8
 replace k3:=k3.ext hT (by simp;omega)
 replace k2:=k2.ext hT (by simp;omega)
 replace hrow:=hrow.keep hT (by simp;exact hn8.2.2)
 replace hSb:=hSb.own hT (fun c hc=>.inr (by simp at hc;omega))
 clear hT
 refine W ?_
 have hof:Z0X (⟨1,m2,1+(y:Int) / 3 % 31,0,0,0,m3,1,9999⟩:Hol):=by constructor<;>dsimp only<;>omega
 exact ZO (⟨1,m2,1+(y:Int) / 3 % 31,0,0,0,m3,1,9999⟩:Hol) ⟨rfl,rfl,rfl,rfl,rfl,trivial⟩ ⟨hof,k8,k2,k3,hrow,hSb⟩
 refine W ?_
 refine Z2 (Ze (u:=.int .i64 ((y:Int) / 3 % 7)) rfl rfl rfl rfl k8 (by simp)) ?_
 rintro _ wn ⟨hT,k8⟩
 replace k8:Blk wn b8 187 [.int .i64 (2),.int .i64 (m2),.int .i64 (0),.int .i64 ((y:Int) / 3 % 7),.int .i64 (0),.int .i64 (0),.int .i64 (m3),.int .i64 (1),.int .i64 (9999)]:=k8
 replace k3:=k3.ext hT (by simp;omega)
 replace k2:=k2.ext hT (by simp;omega)
 replace hrow:=hrow.keep hT (by simp;exact hn8.2.2)
 replace hSb:=hSb.own hT (fun c hc=>.inr (by simp at hc;omega))
 clear hT
 refine W ?_
 refine Z2 (Ze (u:=.int .i64 (1+(y:Int) / 21 % 5)) rfl rfl rfl rfl k8 (by simp)) ?_
 rintro _ wn ⟨hT,k8⟩
 replace k8:Blk wn b8 187 [.int .i64 (2),.int .i64 (m2),.int .i64 (0),.int .i64 ((y:Int) / 3 % 7),.int .i64 (1+(y:Int) / 21 % 5),.int .i64 (0),.int .i64 (m3),.int .i64 (1),.int .i64 (9999)]:=k8
 replace k3:=k3.ext hT (by simp;omega)
 replace k2:=k2.ext hT (by simp;omega)
 replace hrow:=hrow.keep hT (by simp;exact hn8.2.2)
 replace hSb:=hSb.own hT (fun c hc=>.inr (by simp at hc;omega))
 clear hT
 refine W ?_
 refine Z2 (Ze (u:=.int .i64 (0)) rfl rfl rfl rfl k8 (by simp)) ?_
 rintro _ wn ⟨hT,k8⟩
 replace k8:Blk wn b8 187 [.int .i64 (2),.int .i64 (m2),.int .i64 (0),.int .i64 ((y:Int) / 3 % 7),.int .i64 (1+(y:Int) / 21 % 5),.int .i64 (0),.int .i64 (0),.int .i64 (1),.int .i64 (9999)]:=k8
 replace k3:=k3.ext hT (by simp;omega)
 replace k2:=k2.ext hT (by simp;omega)
 replace hrow:=hrow.keep hT (by simp;exact hn8.2.2)
 replace hSb:=hSb.own hT (fun c hc=>.inr (by simp at hc;omega))
 clear hT
 refine W ?_
 have hof:Z0X (⟨2,m2,0,(y:Int) / 3 % 7,1+(y:Int) / 21 % 5,0,0,1,9999⟩:Hol):=by constructor<;>dsimp only<;>omega
 exact ZO (⟨2,m2,0,(y:Int) / 3 % 7,1+(y:Int) / 21 % 5,0,0,1,9999⟩:Hol) ⟨rfl,rfl,rfl,rfl,rfl,trivial⟩ ⟨hof,k8,k2,k3,hrow,hSb⟩
 refine W ?_
 refine Z2 (Ze (u:=.int .i64 ((y:Int) / 3 % 7)) rfl rfl rfl rfl k8 (by simp)) ?_
 rintro _ wn ⟨hT,k8⟩
 replace k8:Blk wn b8 187 [.int .i64 (3),.int .i64 (m2),.int .i64 (0),.int .i64 ((y:Int) / 3 % 7),.int .i64 (0),.int .i64 (0),.int .i64 (m3),.int .i64 (1),.int .i64 (9999)]:=k8
 replace k3:=k3.ext hT (by simp;omega)
 replace k2:=k2.ext hT (by simp;omega)
 replace hrow:=hrow.keep hT (by simp;exact hn8.2.2)
 replace hSb:=hSb.own hT (fun c hc=>.inr (by simp at hc;omega))
 clear hT
 refine W ?_
 refine Z2 (Ze (u:=.int .i64 (0)) rfl rfl rfl rfl k8 (by simp)) ?_
 rintro _ wn ⟨hT,k8⟩
 replace k8:Blk wn b8 187 [.int .i64 (3),.int .i64 (m2),.int .i64 (0),.int .i64 ((y:Int) / 3 % 7),.int .i64 (0),.int .i64 (0),.int .i64 (0),.int .i64 (1),.int .i64 (9999)]:=k8
 replace k3:=k3.ext hT (by simp;omega)
 replace k2:=k2.ext hT (by simp;omega)
 replace hrow:=hrow.keep hT (by simp;exact hn8.2.2)
 replace hSb:=hSb.own hT (fun c hc=>.inr (by simp at hc;omega))
 clear hT
 refine W ?_
 have hof:Z0X (⟨3,m2,0,(y:Int) / 3 % 7,0,0,0,1,9999⟩:Hol):=by constructor<;>dsimp only<;>omega
 exact ZO (⟨3,m2,0,(y:Int) / 3 % 7,0,0,0,1,9999⟩:Hol) ⟨rfl,rfl,rfl,rfl,rfl,trivial⟩ ⟨hof,k8,k2,k3,hrow,hSb⟩
 refine W ?_
 refine Z2 (Ze (u:=.int .i64 ((y:Int) / 3 % 61 - 10)) rfl rfl rfl rfl k8 (by simp)) ?_
 rintro _ wn ⟨hT,k8⟩
 replace k8:Blk wn b8 187 [.int .i64 (4),.int .i64 (m2),.int .i64 (0),.int .i64 (0),.int .i64 (0),.int .i64 ((y:Int) / 3 % 61 - 10),.int .i64 (m3),.int .i64 (1),.int .i64 (9999)]:=k8
 replace k3:=k3.ext hT (by simp;omega)
 replace k2:=k2.ext hT (by simp;omega)
 replace hrow:=hrow.keep hT (by simp;exact hn8.2.2)
 replace hSb:=hSb.own hT (fun c hc=>.inr (by simp at hc;omega))
 clear hT
 refine W ?_
 refine Z2 (Ze (u:=.int .i64 (0)) rfl rfl rfl rfl k8 (by simp)) ?_
 rintro _ wn ⟨hT,k8⟩
 replace k8:Blk wn b8 187 [.int .i64 (4),.int .i64 (0),.int .i64 (0),.int .i64 (0),.int .i64 (0),.int .i64 ((y:Int) / 3 % 61 - 10),.int .i64 (m3),.int .i64 (1),.int .i64 (9999)]:=k8
 replace k3:=k3.ext hT (by simp;omega)
 replace k2:=k2.ext hT (by simp;omega)
 replace hrow:=hrow.keep hT (by simp;exact hn8.2.2)
 replace hSb:=hSb.own hT (fun c hc=>.inr (by simp at hc;omega))
 clear hT
 refine W ?_
 have hof:Z0X (⟨4,0,0,0,0,(y:Int) / 3 % 61 - 10,m3,1,9999⟩:Hol):=by constructor<;>dsimp only<;>omega
 exact ZO (⟨4,0,0,0,0,(y:Int) / 3 % 61 - 10,m3,1,9999⟩:Hol) ⟨rfl,rfl,rfl,rfl,rfl,trivial⟩ ⟨hof,k8,k2,k3,hrow,hSb⟩
 rintro hh wq ⟨hof,k8,k2,k3,hrow,hSb⟩
 refine W ?_
 refine Z1 (Z0 (vs:=[(0,agg hh)]) rfl (ZgY _)) rfl ?_
 rintro bw wn hN
 have hbw:SlV (ob hv++[]) wn bw [hh]:=hN.slv (fun b hb=>(hrow.ob_le b (by simpa using hb)).2) rfl rfl (by simp [maxLen])
 have hT:=Z5.stp hN
 clear hN
 replace k3:=k3.up hT
 replace k2:=k2.up hT
 replace hrow:=hrow.up hT
 replace hSb:=hSb.trans (hT.mono (by simp))
 clear hT
 have hob:=hrow.ob_le
 have hbase:=hSb.size
 refine Z1 (Jw (X:=[]) (base:=w5.heap.size) rfl (by decide) rfl rfl hrow hbw (by simp only [Xc,Xd];omega) (by simp only [Xc,Xd,maxLen];omega) hbase) rfl ?_
 rintro hv' wn ⟨hrow,hT,hob'⟩
 replace k2:=k2.ext hT (fun h=>by have:=(hob _ h).1;omega)
 replace k3:=k3.ext hT (fun h=>by have:=(hob _ h).1;omega)
 replace hSb:Stp [b3] w5 wn:=hSb.own hT (fun c hc=>.inr (hob c hc).1)
 clear hT
 have hob2:=hrow.ob_le
 refine W ?_
 refine Z2 (Ze (u:=hv') rfl rfl (Row.slv (X:=[]) hrow (by simp)).cells (Row.slv (X:=[]) hrow (by simp)).one k3 (by simp [cL])) ?_
 rintro _ wn ⟨hT,k3⟩
 replace k3:Blk wn b3 37 (cL b0 b5 b6 hv' (.slice none 0 0) (.int .i64 0) (.slice none 0 0) (.int .i64 hr)):=k3
 replace k2:=k2.ext hT (by simpa using n23)
 replace hrow:=hrow.keep hT (fun b hb h=>by have:=hob2 _ h;simp at hb;omega)
 replace hSb:=hSb.trans hT
 clear hT
 refine W ?_
 refine Zg (j+1,hv',hols++[hh]) ⟨rfl,rfl,rfl,rfl,trivial⟩ ⟨by dsimp only;omega,by dsimp only;rw [Xg];simp only [Xc,Xd];omega,k2,k3,hrow,?_,hSb⟩ (by dsimp only;omega)
 intro z hz
 rcases Xs.1 hz with h|h
 exact hho z h
 rw [Xp.1 h]
 exact hof
 · repeat'(first|refine W1 ?_|omega|refine VG ?_ ?_<;>intro hg|refine VC ?_ ?_<;>intro hc)
   all_goals exact ZO (hv,hols) ⟨rfl,rfl,rfl,trivial⟩ ⟨(by dsimp only;omega),k2,k3,hrow,hho,hSb⟩
 rintro ⟨hv,hols⟩ w6 ⟨hl3,k2,k3,hrow,hho,hSb⟩
 dsimp only at hl3 k3 hrow hho ⊢
 have hhv:SlV (b2 :: b3 :: X) w6 hv hols:=Row.slv (X:=b2 :: b3 :: X) hrow (fun b hb=>by
  rcases Xe.1 hb with rfl|hb
  omega
  rcases Xe.1 hb with rfl|hb
  omega
  have:=hX b hb
  omega)
 replace hS:=hS.own hSb (fun c hc=>.inr (by simp at hc;omega))
 clear hrow hSb
 have hsz6:=hS.size
 have k3lt6:=k3.lt
 have k2lt6:=k2.lt
 refine W ?_
 refine Z1t (σ:=Value×List Clo) (fun q=>[(0,v),(2,.pointer (some ⟨b2,0,none⟩)),(3,.pointer (some ⟨b3,0,none⟩))]) (fun q w'=>q.2.length≤3∧(∀ x∈q.2,Z9J x)∧Blk w' b2 37 ((.agg (cL false false false (.slice none 0 0) (.slice none 0 0) (.int .i64 0) (.slice none 0 0) (.int .i64 0)).toArray:Value).cells.toList)∧Blk w' b3 37 (cL b0 b5 b6 hv q.1 (.int .i64 0) (.slice none 0 0) (.int .i64 hr))∧Row [] w' w6.heap.size 77 q.1 q.2∧Stp [b3] w6 w') ?_ ?_
 refine Zr (σ:=Nat×Value×List Clo) (fun q=>[(0,v),(2,.pointer (some ⟨b2,0,none⟩)),(3,.pointer (some ⟨b3,0,none⟩)),(9,.int .i64 (q.1:Int))]) (fun q w'=>q.1≤3∧q.2.2.length≤q.1∧(∀ x∈q.2.2,Z9J x)∧Blk w' b2 37 ((.agg (cL false false false (.slice none 0 0) (.slice none 0 0) (.int .i64 0) (.slice none 0 0) (.int .i64 0)).toArray:Value).cells.toList)∧Blk w' b3 37 (cL b0 b5 b6 hv q.2.1 (.int .i64 0) (.slice none 0 0) (.int .i64 hr))∧Row [] w' w6.heap.size 77 q.2.1 q.2.2∧Stp [b3] w6 w') (fun q=>3 - q.1)
  (0,.slice none 0 0,[]) ⟨rfl,rfl,rfl,rfl,trivial⟩ ⟨by decide,by decide,(by simp),k2,k3,Row.nil,Stp.refl _ _⟩ ?_
 rintro ⟨j,cv,clos⟩ w7 ⟨hj3,hlen,hsm,k2,k3,hrow,hSb⟩
 dsimp only at hj3 hlen k3 hrow ⊢
 have hs':=hs.up (hS.own hSb (fun c hc=>.inr (by simp at hc;omega)))
 have hrob:=hrow.ob_le
 refine W ?_
 refine CL rfl (ZE rfl rfl rfl) rfl (ZY [] _ l 9 4 _ (by decide) (by unfold I64;omega) hs' hl) ?_
 rintro _ wn ⟨q,rfl,hq,hT⟩
 replace k3:=k3.up hT
 replace k2:=k2.up hT
 replace hrow:=hrow.up hT
 replace hs':=hs'.up hT
 replace hSb:=hSb.trans (hT.mono (by simp))
 clear hT
 by_cases hlt:(j:Int)<(q:Int)
 focus repeat'(first|refine W1 ?_|omega|refine VG ?_ ?_<;>intro hg|refine VC ?_ ?_<;>intro hc)
 refine CL rfl (ZE rfl rfl rfl) rfl (ZY [] _ l (10+(j:Int)) 1000000 _ (by decide) (by unfold I64;omega) hs' hl) ?_
 rintro _ wn ⟨x,rfl,hx,hT⟩
 replace k3:=k3.up hT
 replace k2:=k2.up hT
 replace hrow:=hrow.up hT
 replace hs':=hs'.up hT
 replace hSb:=hSb.trans (hT.mono (by simp))
 clear hT
 refine W ?_
 refine Z6 (vs:=[(0,.int .i64 (739616+(x:Int) % 120)),(1,.int .i64 (739616+(x:Int) % 120+(x:Int) / 120 % 6)),(2,.int .i64 (739616+(x:Int) / 720 % 130))]) rfl (ZgZ _ _ _) rfl ?_
 have hx3:Z9J ⟨739616+(x:Int) % 120,739616+(x:Int) % 120+(x:Int) / 120 % 6,739616+(x:Int) / 720 % 130⟩:=by unfold Z9J;dsimp only;omega
 generalize 739616+(x:Int) % 120=lo at hx3 ⊢
 generalize lo+(x:Int) / 120 % 6=hi at hx3 ⊢
 generalize 739616+(x:Int) / 720 % 130=kn at hx3 ⊢
 refine Z1 (Z0 (vs:=[(0,agg (⟨lo,hi,kn⟩:Clo))]) rfl (Zh0 _)) rfl ?_
 rintro bw wn hN
 have hbw:SlV (ob cv++[]) wn bw [(⟨lo,hi,kn⟩:Clo)]:=hN.slv (fun b hb=>(hrow.ob_le b (by simpa using hb)).2) rfl rfl (by simp [maxLen])
 have hT:=Z5.stp hN
 clear hN
 replace k3:=k3.up hT
 replace k2:=k2.up hT
 replace hrow:=hrow.up hT
 replace hSb:=hSb.trans (hT.mono (by simp))
 clear hT
 have hob:=hrow.ob_le
 have hbase:=hSb.size
 refine Z1 (Jw (X:=[]) (base:=w6.heap.size) rfl (by decide) rfl rfl hrow hbw (by simp only [Xc,Xd];omega) (by simp only [Xc,Xd,maxLen];omega) hbase) rfl ?_
 rintro cv' wn ⟨hrow,hT,hob'⟩
 replace k2:=k2.ext hT (fun h=>by have:=(hob _ h).1;omega)
 replace k3:=k3.ext hT (fun h=>by have:=(hob _ h).1;omega)
 replace hSb:Stp [b3] w6 wn:=hSb.own hT (fun c hc=>.inr (hob c hc).1)
 clear hT
 have hob2:=hrow.ob_le
 refine W ?_
 refine Z2 (Ze (u:=cv') rfl rfl (Row.slv (X:=[]) hrow (by simp)).cells (Row.slv (X:=[]) hrow (by simp)).one k3 (by simp [cL])) ?_
 rintro _ wn ⟨hT,k3⟩
 replace k3:Blk wn b3 37 (cL b0 b5 b6 hv cv' (.int .i64 0) (.slice none 0 0) (.int .i64 hr)):=k3
 replace k2:=k2.ext hT (by simpa using n23)
 replace hrow:=hrow.keep hT (fun b hb h=>by have:=hob2 _ h;simp at hb;omega)
 replace hSb:=hSb.trans hT
 clear hT
 refine W ?_
 refine Zg (j+1,cv',clos++[(⟨lo,hi,kn⟩:Clo)]) ⟨rfl,rfl,rfl,rfl,trivial⟩ ⟨by dsimp only;omega,by dsimp only;rw [Xg];simp only [Xc,Xd];omega,(fun y hy=>by rcases Xs.1 hy with h|h;exact hsm y h;rw [Xp.1 h];exact hx3),k2,k3,hrow,hSb⟩ (by dsimp only;omega)
 · repeat'(first|refine W1 ?_|omega|refine VG ?_ ?_<;>intro hg|refine VC ?_ ?_<;>intro hc)
   all_goals exact ZO (cv,clos) ⟨rfl,rfl,rfl,trivial⟩ ⟨(by dsimp only;omega),hsm,k2,k3,hrow,hSb⟩
 rintro ⟨cv,clos⟩ w7 ⟨hcl3,hsm,k2,k3,hrow,hSb⟩
 dsimp only at k3 hrow ⊢
 have hcv:SlV (b2 :: b3 :: X) w7 cv clos:=Row.slv (X:=b2 :: b3 :: X) hrow (fun b hb=>by
  rcases Xe.1 hb with rfl|hb
  omega
  rcases Xe.1 hb with rfl|hb
  omega
  have:=hX b hb
  omega)
 replace hhv:SlV (b2 :: b3 :: X) w7 hv hols:=hhv.ext hSb (by simp) (fun _ h=>.inl h)
 replace hS:=hS.own hSb (fun c hc=>.inr (by simp at hc;omega))
 clear hrow hSb
 have hs':=hs.up hS
 have hsz7:=hS.size
 have k3lt7:=k3.lt
 have k2lt7:=k2.lt
 by_cases h13:13<l.length
 focus repeat'(first|refine W1 ?_|omega|refine VG ?_ ?_<;>intro hg|refine VC ?_ ?_<;>intro hc)
 have hsd:=hs'.slc (l:=13) (r:=l.length) (by omega) (Xl _)
 rw [XC] at hsd
 refine Za3 (l:=13) rfl hs' rfl (by simp) (by omega) rfl ?_
 refine W ?_
 refine CL rfl (Zm rfl) rfl (Z6u _ (l.drop 13) _ hsd (fun a ha=>hl a (YaV ha))) ?_
 rintro _ w8 ⟨zo,zs,xs,rfl,hxs,hxl,hz⟩
 have hob:=hz.ob_le
 have hT:=hz.2
 replace k3:=k3.up hT
 replace k2:=k2.up hT
 have hzr:=hz.1
 replace hhv:SlV (b2 :: b3 :: (ob zs++X)) w8 hv hols:=hhv.ext hT (by simp) (fun b hb=>by
  simp at hb
  rcases hb with rfl|rfl|hb|hb
  exact .inl (by simp)
  exact .inl (by simp)
  exact .inr (hob b hb).1
  exact .inl (by simp [hb]))
 replace hcv:SlV (b2 :: b3 :: (ob zs++X)) w8 cv clos:=hcv.ext hT (by simp) (fun b hb=>by
  simp at hb
  rcases hb with rfl|rfl|hb|hb
  exact .inl (by simp)
  exact .inl (by simp)
  exact .inr (hob b hb).1
  exact .inl (by simp [hb]))
 replace hS:=hS.trans hT
 have hn3:b3∉ob zs:=fun h=>by have:=(hob _ h).1;omega
 have hn2:b2∉ob zs:=fun h=>by have:=(hob _ h).1;omega
 clear hT hz hs hs'
 refine W ?_
 refine Z2 (Z44 (o:=9) (us:=[.int .i64 zo,zs]) rfl rfl rfl rfl (by intro u hu;simp at hu;rcases hu with rfl|rfl;exact rfl;exact (Row.slv (X:=[]) hzr (by simp)).one) k3 (by simp [cL])) ?_
 rintro _ w9 ⟨hT,k3⟩
 replace k3:Blk w9 b3 37 (cL b0 b5 b6 hv cv (.int .i64 zo) zs (.int .i64 hr)):=k3
 replace k2:=k2.ext hT (by simpa using n23)
 replace hzr:=hzr.keep hT (fun b hb h=>by simp at hb;subst hb;exact hn3 h)
 replace hhv:=hhv.ext (X':=b2 :: b3 :: (ob zs++X)) hT (by simp) (fun _ h=>.inl h)
 replace hcv:=hcv.ext (X':=b2 :: b3 :: (ob zs++X)) hT (by simp) (fun _ h=>.inl h)
 replace hS:=hS.own hT (fun c hc=>.inr (by simp at hc;omega))
 clear hT
 refine W ?_
 refine Z1t (σ:=Unit) (fun q=>[(2,.pointer (some ⟨b2,0,none⟩)),(3,.pointer (some ⟨b3,0,none⟩))]) (fun q w'=>Stp (ob zs) w9 w') ?_ ?_
 refine Zr (σ:=Nat×List Spn) (fun q=>[(2,.pointer (some ⟨b2,0,none⟩)),(3,.pointer (some ⟨b3,0,none⟩)),(13,.int .i64 (q.1:Int))]) (fun q w'=>q.1≤xs.length∧q.2.length=xs.length∧(∀ i (hi:i<q.2.length),q.1≤i→Z9I q.2[i])∧Row [] w' w7.heap.size 190 zs q.2∧Stp (ob zs) w9 w') (fun q=>xs.length - q.1)
  (0,xs) ⟨rfl,rfl,rfl,trivial⟩ ⟨by dsimp only;omega,rfl,(fun i hi _=>hxs _ (Xf hi)),hzr,Stp.refl _ _⟩ ?_
 rintro ⟨j,ys⟩ wa ⟨hj,hyl,hys,hzr,hSb⟩
 dsimp only at hj hyl hys hzr ⊢
 have k3:=k3.ext hSb hn3
 have hzs:SlV [] wa zs ys:=Row.slv (X:=[]) hzr (by simp)
 rw [← hyl] at hj
 by_cases hlt:j<ys.length
 focus repeat'(first|refine W1 ?_|omega|refine VG ?_ ?_<;>intro hg|refine VC ?_ ?_<;>intro hc)
 have hel:=(hys j hlt (Xl _))
 unfold Z9I at hel
 refine ZDr 15 [] [14] [(0,0),(1,0),(2,1),(3,0),(4,0),(5,0),(6,1),(7,0),(8,0),(9,0),(10,1),(11,0),(12,0),(13,0),(14,2)] (fun w1 hS1=>?_)
 replace k3:=k3.up hS1
 replace hzr:=hzr.up hS1
 replace hzs:=hzs.up hS1
 replace hSb:=hSb.trans (hS1.mono (by simp))
 clear hS1
 refine D ?_
 refine Js rfl trivial (Z4F (β:=Spn) (i:=j) (y':=((ys[j].1+1065047040,ys[j].2):Spn)) rfl rfl rfl rfl rfl hzr hlt (by decide) rfl) rfl ?_
 rintro _ wb ⟨hzr,hT⟩
 replace hSb:=hSb.trans hT
 refine D ?_
 refine W ?_
 refine Zg (j+1,ys.set j ((ys[j].1+1065047040,ys[j].2):Spn)) ⟨rfl,rfl,rfl,trivial⟩ ⟨by dsimp only;omega,by dsimp only;rw [XW];exact hyl,?_,hzr,hSb⟩ (by dsimp only;omega)
 intro i hi hle
 dsimp only at hi hle ⊢
 rw [Yao (by omega)]
 exact hys i (by rw [XW] at hi;exact hi) (by omega)
 · repeat'(first|refine W1 ?_|omega|refine VG ?_ ?_<;>intro hg|refine VC ?_ ?_<;>intro hc)
   all_goals exact ZO () ⟨rfl,rfl,trivial⟩ hSb
 rintro _ wa hSb
 have k3:=k3.ext hSb hn3
 have k2:=k2.ext hSb hn2
 have hhv:=hhv.ext (X':=b2 :: b3 :: X) hSb (fun b h=>by simp [h]) (fun b h=>.inl (by simp at h;rcases h with rfl|rfl|h<;>simp [*]))
 have hcv:=hcv.ext (X':=b2 :: b3 :: X) hSb (fun b h=>by simp [h]) (fun b h=>.inl (by simp at h;rcases h with rfl|rfl|h<;>simp [*]))
 replace hS:=hS.own hSb (fun c hc=>.inr (by have:=(hob _ hc).1;omega))
 have hsa:zs.oneCell'=true:=(Row.slv (X:=[]) hzr (by simp)).one
 clear hSb
 refine W ?_
 refine Z2 (Z3 (us:=cL b0 b5 b6 hv cv (.int .i64 zo) zs (.int .i64 hr)) rfl rfl rfl rfl (by intro u hu;simp [cL] at hu;rcases hu with rfl|rfl|rfl|rfl|rfl|rfl|rfl|rfl|rfl|rfl|rfl<;>first|exact rfl|exact hsa|exact hhv.one|exact hcv.one) k2 rfl) ?_
 rintro _ wb ⟨hT,k2⟩
 refine W ?_
 refine Zl rfl rfl rfl k2 rfl ?_
 exact .mk ⟨⟨[b0,false,false,false,false,b5,b6],hols,clos⟩,hv,cv,.int .i64 zo,zs,.int .i64 hr,rfl,⟨rfl,hsa,rfl⟩,⟨⟨rfl,hho,by dsimp only;omega⟩,⟨b0,b5,b6,rfl⟩,hl3,hcl3,hsm⟩,hhv.ext hT (by simp) (fun b h=>.inl (by simp [h])),hcv.ext hT (by simp) (fun b h=>.inl (by simp [h])),hS.own hT (fun c hc=>.inr (by simp at hc;omega))⟩
 focus repeat'(first|refine W1 ?_|omega|refine VG ?_ ?_<;>intro hg|refine VC ?_ ?_<;>intro hc)
 refine CL rfl (Zm rfl) rfl (Z6u _ [] _ (Row.slv (X:=[]) (Row.nil (base:=0) (T:=0)) (by simp)) (by simp)) ?_
 rintro _ w8 ⟨zo,zs,xs,rfl,hxs,hxl,hz⟩
 have hob:=hz.ob_le
 have hT:=hz.2
 replace k3:=k3.up hT
 replace k2:=k2.up hT
 have hzr:=hz.1
 replace hhv:SlV (b2 :: b3 :: (ob zs++X)) w8 hv hols:=hhv.ext hT (by simp) (fun b hb=>by
  simp at hb
  rcases hb with rfl|rfl|hb|hb
  exact .inl (by simp)
  exact .inl (by simp)
  exact .inr (hob b hb).1
  exact .inl (by simp [hb]))
 replace hcv:SlV (b2 :: b3 :: (ob zs++X)) w8 cv clos:=hcv.ext hT (by simp) (fun b hb=>by
  simp at hb
  rcases hb with rfl|rfl|hb|hb
  exact .inl (by simp)
  exact .inl (by simp)
  exact .inr (hob b hb).1
  exact .inl (by simp [hb]))
 replace hS:=hS.trans hT
 have hn3:b3∉ob zs:=fun h=>by have:=(hob _ h).1;omega
 have hn2:b2∉ob zs:=fun h=>by have:=(hob _ h).1;omega
 clear hT hz hs hs'
 refine W ?_
 refine Z2 (Z44 (o:=9) (us:=[.int .i64 zo,zs]) rfl rfl rfl rfl (by intro u hu;simp at hu;rcases hu with rfl|rfl;exact rfl;exact (Row.slv (X:=[]) hzr (by simp)).one) k3 (by simp [cL])) ?_
 rintro _ w9 ⟨hT,k3⟩
 replace k3:Blk w9 b3 37 (cL b0 b5 b6 hv cv (.int .i64 zo) zs (.int .i64 hr)):=k3
 replace k2:=k2.ext hT (by simpa using n23)
 replace hzr:=hzr.keep hT (fun b hb h=>by simp at hb;subst hb;exact hn3 h)
 replace hhv:=hhv.ext (X':=b2 :: b3 :: (ob zs++X)) hT (by simp) (fun _ h=>.inl h)
 replace hcv:=hcv.ext (X':=b2 :: b3 :: (ob zs++X)) hT (by simp) (fun _ h=>.inl h)
 replace hS:=hS.own hT (fun c hc=>.inr (by simp at hc;omega))
 clear hT
 refine W ?_
 refine Z1t (σ:=Unit) (fun q=>[(2,.pointer (some ⟨b2,0,none⟩)),(3,.pointer (some ⟨b3,0,none⟩))]) (fun q w'=>Stp (ob zs) w9 w') ?_ ?_
 refine Zr (σ:=Nat×List Spn) (fun q=>[(2,.pointer (some ⟨b2,0,none⟩)),(3,.pointer (some ⟨b3,0,none⟩)),(13,.int .i64 (q.1:Int))]) (fun q w'=>q.1≤xs.length∧q.2.length=xs.length∧(∀ i (hi:i<q.2.length),q.1≤i→Z9I q.2[i])∧Row [] w' w7.heap.size 190 zs q.2∧Stp (ob zs) w9 w') (fun q=>xs.length - q.1)
  (0,xs) ⟨rfl,rfl,rfl,trivial⟩ ⟨by dsimp only;omega,rfl,(fun i hi _=>hxs _ (Xf hi)),hzr,Stp.refl _ _⟩ ?_
 rintro ⟨j,ys⟩ wa ⟨hj,hyl,hys,hzr,hSb⟩
 dsimp only at hj hyl hys hzr ⊢
 have k3:=k3.ext hSb hn3
 have hzs:SlV [] wa zs ys:=Row.slv (X:=[]) hzr (by simp)
 rw [← hyl] at hj
 by_cases hlt:j<ys.length
 focus repeat'(first|refine W1 ?_|omega|refine VG ?_ ?_<;>intro hg|refine VC ?_ ?_<;>intro hc)
 have hel:=(hys j hlt (Xl _))
 unfold Z9I at hel
 refine ZDr 15 [] [14] [(0,0),(1,0),(2,1),(3,0),(4,0),(5,0),(6,1),(7,0),(8,0),(9,0),(10,1),(11,0),(12,0),(13,0),(14,2)] (fun w1 hS1=>?_)
 replace k3:=k3.up hS1
 replace hzr:=hzr.up hS1
 replace hzs:=hzs.up hS1
 replace hSb:=hSb.trans (hS1.mono (by simp))
 clear hS1
 refine D ?_
 refine Js rfl trivial (Z4F (β:=Spn) (i:=j) (y':=((ys[j].1+1065047040,ys[j].2):Spn)) rfl rfl rfl rfl rfl hzr hlt (by decide) rfl) rfl ?_
 rintro _ wb ⟨hzr,hT⟩
 replace hSb:=hSb.trans hT
 refine D ?_
 refine W ?_
 refine Zg (j+1,ys.set j ((ys[j].1+1065047040,ys[j].2):Spn)) ⟨rfl,rfl,rfl,trivial⟩ ⟨by dsimp only;omega,by dsimp only;rw [XW];exact hyl,?_,hzr,hSb⟩ (by dsimp only;omega)
 intro i hi hle
 dsimp only at hi hle ⊢
 rw [Yao (by omega)]
 exact hys i (by rw [XW] at hi;exact hi) (by omega)
 · repeat'(first|refine W1 ?_|omega|refine VG ?_ ?_<;>intro hg|refine VC ?_ ?_<;>intro hc)
   all_goals exact ZO () ⟨rfl,rfl,trivial⟩ hSb
 rintro _ wa hSb
 have k3:=k3.ext hSb hn3
 have k2:=k2.ext hSb hn2
 have hhv:=hhv.ext (X':=b2 :: b3 :: X) hSb (fun b h=>by simp [h]) (fun b h=>.inl (by simp at h;rcases h with rfl|rfl|h<;>simp [*]))
 have hcv:=hcv.ext (X':=b2 :: b3 :: X) hSb (fun b h=>by simp [h]) (fun b h=>.inl (by simp at h;rcases h with rfl|rfl|h<;>simp [*]))
 replace hS:=hS.own hSb (fun c hc=>.inr (by have:=(hob _ hc).1;omega))
 have hsa:zs.oneCell'=true:=(Row.slv (X:=[]) hzr (by simp)).one
 clear hSb
 refine W ?_
 refine Z2 (Z3 (us:=cL b0 b5 b6 hv cv (.int .i64 zo) zs (.int .i64 hr)) rfl rfl rfl rfl (by intro u hu;simp [cL] at hu;rcases hu with rfl|rfl|rfl|rfl|rfl|rfl|rfl|rfl|rfl|rfl|rfl<;>first|exact rfl|exact hsa|exact hhv.one|exact hcv.one) k2 rfl) ?_
 rintro _ wb ⟨hT,k2⟩
 refine W ?_
 refine Zl rfl rfl rfl k2 rfl ?_
 exact .mk ⟨⟨[b0,false,false,false,false,b5,b6],hols,clos⟩,hv,cv,.int .i64 zo,zs,.int .i64 hr,rfl,⟨rfl,hsa,rfl⟩,⟨⟨rfl,hho,by dsimp only;omega⟩,⟨b0,b5,b6,rfl⟩,hl3,hcl3,hsm⟩,hhv.ext hT (by simp) (fun b h=>.inl (by simp [h])),hcv.ext hT (by simp) (fun b h=>.inl (by simp [h])),hS.own hT (fun c hc=>.inr (by simp at hc;omega))⟩
def Z8o:List Str:=[[101,120,116,114,97],[98,121],[116,111],[99,111,117,114,116],[97,109,111,117,110,116]]
def Z4x:List Str:=[[100,97,121],[115,101,114,118,101,100]]
inductive Gn:Int→Nat→Nd→Prop
 | num (d:Nat) (n:Int) (h:0≤n∧n<25):Gn 1 d (.mk 1 n [] [])
 | fldN (d:Nat) (s:Str) (h:s∈Z8o):Gn 1 d (.mk 4 0 s [])
 | fldD (d:Nat) (s:Str) (h:s∈Z4x):Gn 3 d (.mk 4 0 s [])
 | day (d:Nat) (n:Int) (h:739616≤n∧n<739676):Gn 3 d (.mk 3 n [] [])
 | bool (d:Nat) (n:Int) (h:n=0∨n=1):Gn 2 d (.mk 2 n [] [])
 | neg (d:Nat) (a:Nd):Gn 1 d a→Gn 1 (d+1) (.mk 5 0 [45] [a])
 | not (d:Nat) (a:Nd):Gn 2 d a→Gn 2 (d+1) (.mk 5 0 [110,111,116] [a])
 | btw (d:Nat) (a b:Nd):Gn 3 d a→Gn 3 d b→Gn 1 (d+1) (.mk 10 0 [98,101,116,119,101,101,110] [a,b])
 | cond (d:Nat) (t:Int) (c a b:Nd) (h:t=1∨t=3):Gn 2 d c→Gn t d a→Gn t d b→Gn t (d+1) (.mk 9 0 [] [c,a,b])
 | arith (d:Nat) (s:Str) (a b:Nd) (h:s∈JS):Gn 1 d a→Gn 1 d b→Gn 1 (d+1) (.mk 6 0 s [a,b])
 | adj (d:Nat) (s:Str) (a:Nd) (h:s∈Z0F):Gn 3 d a→Gn 3 (d+1) (.mk 10 0 s [a])
 | two (d:Nat) (s:Str) (a b:Nd) (h:s∈Z0G):Gn 3 d a→Gn 3 d b→Gn 3 (d+1) (.mk 10 0 s [a,b])
 | move (d:Nat) (k:Int) (s:Str) (a b:Nd) (hk:k=7∨k=8) (h:s∈JI):Gn 3 d a→Gn 1 d b→Gn 3 (d+1) (.mk k 0 s [a,b])
 | logic (d:Nat) (s:Str) (a b:Nd) (h:s∈JT):Gn 2 d a→Gn 2 d b→Gn 2 (d+1) (.mk 6 0 s [a,b])
 | cmp (d:Nat) (t:Int) (s:Str) (a b:Nd) (ht:t=1∨t=3) (h:s∈Z1C):Gn t d a→Gn t d b→Gn 2 (d+1) (.mk 6 0 s [a,b])
theorem gA:∀ s∈JS,Ja 6 0 s [1,1]=1:=by decide
theorem gL:∀ s∈JT,Ja 6 0 s [2,2]=2:=by decide
theorem gC1:∀ s∈Z1C,Ja 6 0 s [1,1]=2:=by decide
theorem gC3:∀ s∈Z1C,Ja 6 0 s [3,3]=2:=by decide
theorem gN:∀ s∈Z0F,Ja 10 0 s [3]=3:=by
 intro s h
 simp only [Z0F,Xe,Xm,or_false] at h
 rcases h with rfl|rfl<;>rfl
theorem gE:∀ s∈Z0G,Ja 10 0 s [3,3]=3:=by
 intro s h
 simp only [Z0G,Xe,Xm,or_false] at h
 rcases h with rfl|rfl<;>rfl
theorem gU7:∀ s∈JI,Ja 7 0 s [3,1]=3:=by
 intro s h
 simp only [JI,Xe,Xm,or_false] at h
 rcases h with rfl|rfl|rfl|rfl<;>rfl
theorem gU8:∀ s∈JI,Ja 8 0 s [3,1]=3:=by
 intro s h
 simp only [JI,Xe,Xm,or_false] at h
 rcases h with rfl|rfl|rfl|rfl<;>rfl
theorem gF1:∀ s∈Z8o,Z0w 4 0 s=1:=by
 intro s h
 simp only [Z8o,Xe,Xm,or_false] at h
 rcases h with rfl|rfl|rfl|rfl|rfl<;>rfl
theorem gF3:∀ s∈Z4x,Z0w 4 0 s=3:=by
 intro s h
 simp only [Z4x,Xe,Xm,or_false] at h
 rcases h with rfl|rfl<;>rfl
theorem Gn.type {t:Int} {d:Nat} {x:Nd} (h:Gn t d x):Zf x=t:=by
 induction h with
 | num d n h=>
   refine ty0 ?_
   unfold Z0w
   rw [if_neg (by decide),if_neg (by simp),if_pos rfl,if_pos (by omega)]
 | fldN d s h=>exact ty0 (gF1 s h)
 | fldD d s h=>exact ty0 (gF3 s h)
 | day d n h=>
   refine ty0 ?_
   unfold Z0w
   rw [if_neg (by decide),if_neg (by simp),if_neg (by decide),if_neg (by decide),if_pos rfl,if_pos (by omega)]
 | bool d n h=>rcases h with rfl|rfl<;>exact ty0 rfl
 | neg d a ha ia=>exact ty1 ia rfl
 | not d a ha ia=>exact ty1 ia rfl
 | btw d a b ha hb ia ib=>exact ty2 ia ib rfl
 | cond d t c a b h hc ha hb ic ia ib=>rcases h with rfl|rfl<;>exact ty3 ic ia ib rfl
 | arith d s a b h ha hb ia ib=>exact ty2 ia ib (gA s h)
 | adj d s a h ha ia=>exact ty1 ia (gN s h)
 | two d s a b h ha hb ia ib=>exact ty2 ia ib (gE s h)
 | move d k s a b hk h ha hb ia ib=>rcases hk with rfl|rfl<;>first|exact ty2 ia ib (gU7 s h)|exact ty2 ia ib (gU8 s h)
 | logic d s a b h ha hb ia ib=>exact ty2 ia ib (gL s h)
 | cmp d t s a b ht h ha hb ia ib=>rcases ht with rfl|rfl<;>first|exact ty2 ia ib (gC1 s h)|exact ty2 ia ib (gC3 s h)
theorem Gn.nest {t:Int} {d:Nat} {x:Nd} (h:Gn t d x):Zp x≤d+1:=by
 induction h with
 | num|fldN|fldD|day|bool=>rw [Znh];omega
 | neg|not|adj=>rw [Zni];omega
 | btw|arith|two|move|logic|cmp=>rw [Znj];omega
 | cond=>rw [Znk];omega
theorem Z1b (d:Nat):1≤szD (d+1):=by show 1≤1+3 * szD d;omega
theorem Gn.size {t:Int} {d:Nat} {x:Nd} (h:Gn t d x):Jr x≤szD (d+1):=by
 induction h with
 | num d|fldN d|fldD d|day d|bool d=>rw [Zng];exact Z1b d
 | neg d|not d|adj d=>rw [Znd,Zao (by omega)];simp only [Yav];omega
 | btw d|arith d|two d|move d|logic d|cmp d=>rw [Zne,Zao (by omega)];simp only [Yav];omega
 | cond d=>rw [Znf,Zao (by omega)];simp only [Yav];omega
end Go.Proofs.YtjdjdoefppebkaaGreatDoor
namespace Go.Eng
open Go Go.RowKit Go.Proofs
structure WT (P:Program) (n:Nat) (ops:Array Oper) (S:List Nat) (Lt:List Nat) (Q:Exit→Act→World→Prop) (listed:Array Bool) (fuel:Nat) (e:Env) (w:World):Prop where
 h:∀ a,Has n e a→Z1o P .any ops S (fun j=>Lt.contains j) (fun a w=>Q .normal a w) fuel listed a w
structure WT1 (P:Program) (n:Nat) (ops:Array Oper) (S:List Nat) (Lt:List Nat) (Q:Exit→Act→World→Prop) (i:Nat) (listed:Array Bool) (fuel:Nat) (e:Env) (w:World):Prop where
 h:∀ a,Has n e a→wpOp P ops (fun _ _ _=>False) i (fun a' w'=>(Stp S w w'∨Lt.contains i=true)∧Z1o P .any ops S (fun j=>Lt.contains j) (fun a w=>Q .normal a w) fuel (listed.setIfInBounds i true) a' w') a w
section rules
variable {P:Program} {n:Nat} {Q:Exit→Act→World→Prop} {e:Env} {w:World} {ops:Array Oper} {S:List Nat} {Lt:List Nat} {listed:Array Bool} {fuel:Nat}
theorem Z1A {id:Nat} {l:List Oper} (m:Nat) (S:List Nat) (Lt:List Nat) (hlm:l.length=m) (hm:P.follows .mixedOrders=true)
 (h:∀ w',Stp [] w w'→WT P n l.toArray S Lt Q (Array.replicate m false) m e w'):WC P n (.region id l.toArray true) Q e w:=by
 subst hlm
 refine ⟨fun a ha=>wp_region_any hm ?_⟩
 have h1:=(h { w with drawn:=w.drawn+1 } (Stp.drew [] w)).h a ha
 have h2:=Z2n (Q:=Q) (fun a w hz=>hz) _ _ _ _ h1
 simpa using h2
theorem Z2i (ord:List (Nat×Nat)) (hs:Region.noSelect ops=true) (hB:JQ ops Lt ord listed=true) (hl:Nat.beq (wt ord) fuel=true) (h:WD P n ops S Lt Q ord e w):WT P n ops S Lt Q listed fuel e w:=by
 have:=X5 hl
 subst this
 exact ⟨fun a ha=>h.h _ hs hB a ha⟩
theorem Z0U (i q:Nat) (hr:(Region.ready .any ops listed == [i,q])=true) (h1:WT1 P n ops S Lt Q i listed fuel e w) (h2:WT1 P n ops S Lt Q q listed fuel e w):WT P n ops S Lt Q listed (fuel+1) e w:=by
 have hr:=beq_iff_eq.1 hr
 refine ⟨fun a ha=>⟨fun h0=>absurd (hr ▸ h0) (by simp),fun j hj=>?_⟩⟩
 rw [hr] at hj
 have hj':j=i∨j=q:=by simpa using hj
 rcases hj' with rfl|rfl
 exact h1.h a ha
 exact h2.h a ha
variable {i d:Nat} {op:Op} {ty:TypeId} {pos:String} {af:Array Edge} {gd:Option (Nat×Bool)} {v:Value}
theorem Zlg {o:Oper} {dst:Option Nat} {G:Value→World→Prop} (hi:ops[i]?=some o) (hdst:o.dst=dst) (hg:ZI ops e o.guard) (hp:OE P n o e w (fun v w'=>(Stp S w w'∨Lt.contains i=true)∧G v w'))
 (k:∀ v w' a',G v w'→∀ a,Has n e a→a'=a.put dst v→∃ e',Has n e' a'∧WT P n ops S Lt Q (listed.setIfInBounds i true) fuel e' w'):WT1 P n ops S Lt Q i listed fuel e w:=by
 refine ⟨fun a ha=>?_⟩
 unfold wpOp
 simp only [hi]
 rw [if_pos (Z00 ha hg)]
 refine .inl (Oper.wp_mono ?_ (hp.h a ha _))
 rintro a' w' ⟨v,rfl,hs',hG⟩
 obtain ⟨e',he',hk⟩:=k v w' (a.put o.dst v) hG a ha (by rw [hdst])
 exact ⟨hs',hk.h _ he'⟩
theorem ZW {G:Value→World→Prop} (hi:ops[i]?=some ⟨some d,op,ty,pos,af,gd⟩) (hg:ZI ops e gd) (hp:OE P n ⟨some d,op,ty,pos,af,gd⟩ e w G) (hG:∀ v w',G v w'→Stp S w w') (hdn:Nat.blt d n=true)
 (k:∀ v w',G v w'→WT P n ops S Lt Q (listed.setIfInBounds i true) fuel ((d,v) :: e) w'):WT1 P n ops S Lt Q i listed fuel e w:=
 Zlg (G:=G) hi rfl hg (hp.mono fun v w' h=>⟨.inl (hG v w' h),h⟩) (fun v w' a' h a ha e=>⟨_,by rw [e];exact ha.put hdn,k v w' h⟩)
theorem ZeX (i:Nat) {o:Oper} (hi:ops[i]?=some o) (hd:o.dst=some d) (hY:∀ a,Has n e a→YE P ops (fun _ _=>True) o v a w) (hdn:Nat.blt d n=true) (hs:Region.noSelect ops=true)
 (hB:((Region.ready .any ops listed).contains i && Region.free .any ops listed i)=true)
 (k:WT P n ops S Lt Q (listed.setIfInBounds i true) fuel ((d,v) :: e) w):WT P n ops S Lt Q listed (fuel+1) e w:=by
 refine ⟨fun a ha=>?_⟩
 simp only [Xi] at hB
 have hk:=k.h _ (ha.put (v:=v) hdn)
 rw [← hd] at hk
 exact Z5z (R:=fun _ _=>True) (fun _=>trivial) (fun _ _ _ _ _=>trivial) hi (fun _ _ _ _ _ _ _ _=>trivial) (Region.noSelect_spec hs) _ _ _ _ (Region.free_spec hi hB.2) (fun _=>trivial) (by simpa using hB.1) (hY a ha) hk
theorem ZeY (i:Nat) {o:Oper} (hi:ops[i]?=some o) (hd:o.dst=some d) (hY:∀ a,Has n e a→YE P ops (Stp S) o v a w) (hdn:Nat.blt d n=true) (hs:Region.noSelect ops=true)
 (hB:((Region.ready .any ops listed).contains i && Region.free .any ops listed i && Zb1 ops Lt i)=true)
 (k:WT P n ops S Lt Q (listed.setIfInBounds i true) fuel ((d,v) :: e) w):WT P n ops S Lt Q listed (fuel+1) e w:=by
 refine ⟨fun a ha=>?_⟩
 simp only [Xi] at hB
 obtain ⟨⟨h1,h2⟩,hb⟩:=hB
 have hk:=k.h _ (ha.put (v:=v) hdn)
 rw [← hd] at hk
 refine Z5z (R:=Stp S) (fun w=>Stp.refl _ w) (fun _ _ _ h k=>h.trans k) hi (fun j oj hj hn hji w w' hs=>?_) (Region.noSelect_spec hs) _ _ _ _ (Region.free_spec hi h2) (fun _=>trivial) (by simpa using h1) (hY a ha) hk
 rcases hs with hs|hs
 exact hs
 rw [Z3H hb hj hn hji] at hs;cases hs
theorem J7 (i:Nat) (hi:ops[i]?=some ⟨some d,op,ty,pos,af,gd⟩) (hg:ZI ops e gd) (hp:∀ w',PR P n ⟨some d,op,ty,pos,af,gd⟩ e w' v) (hdn:Nat.blt d n=true) (hs:Region.noSelect ops=true)
 (hB:((Region.ready .any ops listed).contains i && Region.free .any ops listed i)=true)
 (k:WT P n ops S Lt Q (listed.setIfInBounds i true) fuel ((d,v) :: e) w):WT P n ops S Lt Q listed (fuel+1) e w:=
 ZeX i hi rfl (fun a ha=>.inl ⟨Z00 ha hg,fun w' _=>(hp w').h a ha⟩) hdn hs hB k
theorem Z8p (i:Nat) (hi:ops[i]?=some ⟨some d,op,ty,pos,af,gd⟩) (hg:ZI ops e gd) (hp:∀ w',Stp S w w'→PR P n ⟨some d,op,ty,pos,af,gd⟩ e w' v) (hdn:Nat.blt d n=true) (hs:Region.noSelect ops=true)
 (hB:((Region.ready .any ops listed).contains i && Region.free .any ops listed i && Zb1 ops Lt i)=true)
 (k:WT P n ops S Lt Q (listed.setIfInBounds i true) fuel ((d,v) :: e) w):WT P n ops S Lt Q listed (fuel+1) e w:=
 ZeY i hi rfl (fun a ha=>.inl ⟨Z00 ha hg,fun w' hw=>(hp w' hw).h a ha⟩) hdn hs hB k
end rules
end Go.Eng
namespace Go.Proofs.YtjdjdoefppebkaaGreatDoor
open Go Go.Eng Go.RowKit
theorem bS1 (a:Str) (w:World):(Instr.buildSlice 119 1 #[(0,str a)]).run Tryz.prog w=.ok (.slice (some ⟨w.heap.size,0,none⟩) 1 1) (w.alloc (.cells #[str a] 9)):=by kernel_rfl
theorem bS2 (a b:Str) (w:World):(Instr.buildSlice 119 2 #[(0,str a),(1,str b)]).run Tryz.prog w=.ok (.slice (some ⟨w.heap.size,0,none⟩) 2 2) (w.alloc (.cells #[str a,str b] 9)):=by kernel_rfl
theorem bS3 (a b c:Str) (w:World):(Instr.buildSlice 119 3 #[(0,str a),(1,str b),(2,str c)]).run Tryz.prog w=.ok (.slice (some ⟨w.heap.size,0,none⟩) 3 3) (w.alloc (.cells #[str a,str b,str c] 9)):=by kernel_rfl
theorem bS5 (a b c d e:Str) (w:World):(Instr.buildSlice 119 5 #[(0,str a),(1,str b),(2,str c),(3,str d),(4,str e)]).run Tryz.prog w=.ok (.slice (some ⟨w.heap.size,0,none⟩) 5 5) (w.alloc (.cells #[str a,str b,str c,str d,str e] 9)):=by kernel_rfl
theorem bS6 (a b c d e f:Str) (w:World):(Instr.buildSlice 119 6 #[(0,str a),(1,str b),(2,str c),(3,str d),(4,str e),(5,str f)]).run Tryz.prog w=.ok (.slice (some ⟨w.heap.size,0,none⟩) 6 6) (w.alloc (.cells #[str a,str b,str c,str d,str e,str f] 9)):=by kernel_rfl
abbrev Mk3 (w:World) (bm:Nat) (lv:Value) (i:Nat):Prop:=Blk w bm 103 [lv,.int .i64 (i:Int)]
theorem ZV (bm:Nat) (lv:Value) (l:List Int) (i:Nat) (n:Int) (w:World) (hn:0<n) (hi:i≤1000000) (hb:Mk3 w bm lv i) (hs:SlV [bm] w lv l) (hl:∀ a∈l,I64 a) :
 CC 96 #[.pointer (some ⟨bm,0,none⟩),.int .i64 n] w fun r w'=>∃ q:Nat,r=.int .i64 (q:Int)∧(q:Int)<n∧Mk3 w' bm lv (i+1)∧Stp [bm] w w':=by
 refine cW2 23 Tryz.func96 ?_
 refine W ?_
 refine Z2 (Ze (u:=.int .i64 ((i:Int)+1)) rfl rfl rfl rfl hb (by simp)) ?_
 rintro _ w1 ⟨hS1',hb1⟩
 replace hb1:Mk3 w1 bm lv (i+1):=hb1
 replace hs:=hs.ext hS1' (fun _ h=>h) (fun _ h=>.inl h)
 replace hs:SlV [] w1 lv l:=hs.wk (by simp)
 refine W ?_
 refine ZDr 12 [] [] [(0,0),(1,0),(2,0),(3,1),(4,0),(5,0),(6,0),(7,1),(8,0),(9,0),(10,2),(11,0)] (fun w1 hS1=>?_)
 replace hb1:=hb1.up hS1
 replace hs:=hs.up hS1
 refine D ?_
 refine Za rfl trivial (Z4 rfl (ZE rfl rfl rfl) (ZY [] _ l _ n _ hn (by unfold I64;omega) hs hl)) (fun _ _ h=>h.choose_spec.2.2) rfl ?_
 rintro _ w3 ⟨q,rfl,hq,hS3⟩
 replace hb1:=hb1.up hS3
 refine D ?_
 refine W ?_
 refine WR ?_
 exact .mk ⟨q,rfl,hq,hb1,(hS1'.trans (hS1.mono (by simp))).trans (hS3.mono (by simp))⟩
theorem Z54 (bm:Nat) (lv:Value) (l:List Int) (i:Nat) (d:Nat) (z:Int) (w:World) (hz:z=(d:Int)) (hb:Mk3 w bm lv i) (hs:SlV [bm] w lv l) :
 CC 97 #[.pointer (some ⟨bm,0,none⟩),.int .i64 z] w fun r w'=>∃ b:Bool,r=.bool b∧(d=0→b=true)∧Stp [] w w':=by
 subst hz
 refine cW2 19 Tryz.func97 ?_
 refine W ?_
 by_cases h0:d=0
 refine ZDr 15 [] [] [(0,0),(1,0),(2,0),(3,0),(4,0),(5,0),(6,1),(7,0),(8,0),(9,0),(10,1),(11,0),(12,0),(13,0),(14,0)] (fun w1 hS1=>?_)
 refine D ?_
 have e0:((d:Int)≤0):=by omega
 simp only [e0,decide_true]
 refine D ?_
 refine W ?_
 refine WR ?_
 exact .mk ⟨true,rfl,fun _=>rfl,hS1⟩
 refine ZDr 15 [] [] [(0,0),(1,0),(2,0),(3,0),(4,0),(5,0),(6,1),(7,0),(8,0),(9,0),(10,1),(11,0),(12,0),(13,0),(14,0)] (fun w1 hS1=>?_)
 replace hb:=hb.up hS1
 replace hs:=hs.up hS1
 refine D ?_
 have e0:¬ ((d:Int)≤0):=by omega
 simp only [e0,decide_false]
 refine D ?_
 refine W ?_
 refine WR ?_
 exact .mk ⟨_,rfl,fun h=>absurd h h0,hS1⟩
theorem Zw (X:List Nat) (k:Int) (s:Str) (kv:Value) (kids:List Nd) (w:World) (hX:∀ b∈X,b<w.heap.size) (hs:SlV X w kv kids):CC 98 #[.int .i64 k,str s,kv] w fun r w'=>NdV X w' r (.mk k 0 s kids)∧Stp [] w w':=by
 obtain ⟨p,c,rfl,-⟩:=id hs
 refine cW3 11 Tryz.func98 ?_
 refine W ?_
 refine Z1 Z7 rfl ?_
 rintro _ w1 ⟨b,rfl,hb,hblk,hS⟩
 refine W ?_
 apply Z6 (vs:=[(0,.int .i64 k),(2,str s),(3,.slice p kids.length c)]) rfl (Zc3 _ _ _ _ _) rfl
 refine Z2 (Z3 (us:=ndC (.mk k 0 s kids) (.slice p kids.length c)) rfl rfl rfl rfl (Zh hs) hblk rfl) ?_
 rintro _ w2 ⟨hS2,hblk2⟩
 have hT:=hS.own hS2 (fun c hc=>.inr (by simp at hc;omega))
 refine W ?_
 refine Zl rfl rfl rfl hblk2 rfl ?_
 exact .mk ⟨⟨_,rfl,hs.up hT⟩,hT⟩
def Zo0 (k:Int):List Str:=if k=1 then [[111,114]] else if k=2 then [[97,110,100]] else if k=4 then Z1C else if k=5 then [[43],[45]] else [[42]]
theorem Z5u (X:List Nat) (k:Int) (w:World) (hX:∀ b∈X,b<w.heap.size):CC 187 #[.int .i64 k] w fun r w'=>SlV X w' r (Zo0 k)∧Stp [] w w':=by
 refine cW1 17 Tryz.func187 ?_
 have key:∀ (n:Nat) (vs:List Value) (v:Value) (w':World) (ys:List Str),Z5 w n ys.length vs v w'→vs=ys.flatMap Z9.enc→ys.length≤maxLen→SlV X w' v ys:=fun n vs v w' ys h e hm=>Z5.slv h hX rfl e hm
 by_cases h1:k=1
 subst h1
 focus repeat'(first|refine W1 ?_|omega|refine VG ?_ ?_<;>intro hg|refine VC ?_ ?_<;>intro hc)
 refine Z1 (Z0 (vs:=[(0,str [111,114])]) rfl (bS1 _)) rfl ?_
 rintro v w1 hN
 have hv:SlV X w1 v ([[111,114]]:List Str):=hN.slv hX rfl rfl (by decide)
 have hT:=Z5.stp hN
 refine W ?_
 refine WR ?_
 exact .mk ⟨hv,hT⟩
 by_cases h2:k=2
 subst h2
 focus repeat'(first|refine W1 ?_|omega|refine VG ?_ ?_<;>intro hg|refine VC ?_ ?_<;>intro hc)
 refine Z1 (Z0 (vs:=[(0,str [97,110,100])]) rfl (bS1 _)) rfl ?_
 rintro v w1 hN
 have hv:SlV X w1 v ([[97,110,100]]:List Str):=hN.slv hX rfl rfl (by decide)
 have hT:=Z5.stp hN
 refine W ?_
 refine WR ?_
 exact .mk ⟨hv,hT⟩
 by_cases h4:k=4
 subst h4
 focus repeat'(first|refine W1 ?_|omega|refine VG ?_ ?_<;>intro hg|refine VC ?_ ?_<;>intro hc)
 refine Z1 (Z0 (vs:=[(0,str [60]),(1,str [60,61]),(2,str [61]),(3,str [33,61]),(4,str [62]),(5,str [62,61])]) rfl (bS6 _ _ _ _ _ _)) rfl ?_
 rintro v w1 hN
 have hv:SlV X w1 v Z1C:=hN.slv hX rfl rfl (by decide)
 have hT:=Z5.stp hN
 refine W ?_
 refine WR ?_
 exact .mk ⟨hv,hT⟩
 by_cases h5:k=5
 subst h5
 focus repeat'(first|refine W1 ?_|omega|refine VG ?_ ?_<;>intro hg|refine VC ?_ ?_<;>intro hc)
 refine Z1 (Z0 (vs:=[(0,str [43]),(1,str [45])]) rfl (bS2 _ _)) rfl ?_
 rintro v w1 hN
 have hv:SlV X w1 v ([[43],[45]]:List Str):=hN.slv hX rfl rfl (by decide)
 have hT:=Z5.stp hN
 refine W ?_
 refine WR ?_
 exact .mk ⟨hv,hT⟩
 focus repeat'(first|refine W1 ?_|omega|refine VG ?_ ?_<;>intro hg|refine VC ?_ ?_<;>intro hc)
 refine Z1 (Z0 (vs:=[(0,str [42])]) rfl (bS1 _)) rfl ?_
 rintro v w1 hN
 have hv:SlV X w1 v ([[42]]:List Str):=hN.slv hX rfl rfl (by decide)
 have hT:=Z5.stp hN
 refine W ?_
 refine WR ?_
 exact .mk ⟨by unfold Zo0;rw [if_neg h1,if_neg h2,if_neg h4,if_neg h5];exact hv,hT⟩
theorem Z4y (q:Nat) (w:World) (hq:q<6):CC 99 #[.int .i64 (q:Int)] w fun r w'=>(∃ s∈Z1C,r=str s)∧Stp [] w w':=by
 refine cW1 7 Tryz.func99 ?_
 refine W ?_
 refine CL rfl (Zm rfl) rfl (Z5u [] 4 _ (by simp)) ?_
 rintro v w1 ⟨hv,hS⟩
 replace hv:SlV [] w1 v Z1C:=hv
 have hqn:q<Z1C.length:=by show q<6;exact hq
 refine W ?_
 refine WR ?_
 exact .mk ⟨⟨_,Xf hqn,rfl⟩,hS⟩
structure G3 (X:List Nat) (w0 w:World) (bm b4:Nat) (lv:Value) (l:List Int) (i:Nat):Prop where
 mkr:Mk3 w bm lv i
 sl:SlV [bm] w lv l
 stp:Stp [bm] w0 w
 blk:∃ cs:List Value,cs.length=4∧Blk w b4 27 cs
 ne:b4≠bm
 hX:∀ b∈X,b<w.heap.size
theorem G3.nxt {X:List Nat} {w0 w w':World} {bm b4:Nat} {lv:Value} {l:List Int} {i i':Nat} (h:G3 X w0 w bm b4 lv l i) (hm:Mk3 w' bm lv i') (hS:Stp [bm] w w'):G3 X w0 w' bm b4 lv l i':=
 ⟨hm,h.sl.ext hS (fun _ h=>h) (fun _ h=>.inl h),h.stp.trans hS,h.blk.imp (fun cs hc=>⟨hc.1,hc.2.ext hS (by simpa using h.ne)⟩),h.ne,fun b hb=>Xb (h.hX b hb) hS.size⟩
theorem G3.up {X:List Nat} {w0 w w':World} {bm b4:Nat} {lv:Value} {l:List Int} {i:Nat} (h:G3 X w0 w bm b4 lv l i) (hS:Stp [] w w'):G3 X w0 w' bm b4 lv l i:=
 h.nxt (h.mkr.up hS) (hS.mono (by simp))
theorem G3.fin {X:List Nat} {w0 w1 w w':World} {bm b4:Nat} {lv:Value} {l:List Int} {i:Nat} {y:Nd} {ky:Value} (h:G3 (b4 :: bm :: X) w1 w bm b4 lv l i) (hw:Stp [] w0 w1) (hb:w0.heap.size≤b4) (hy:SlV (b4 :: bm :: X) w ky y.kids) (hS:Stp [b4] w w') :
 NdV X w' (.agg (ndC y ky).toArray) y∧Mk3 w' bm lv i∧Stp [bm] w0 w':=
 ⟨⟨ky,rfl,(hy.ext (X':=b4 :: bm :: X) hS (by simp) (fun _ h=>.inl h)).wk (fun c hc=>by simp [hc])⟩,h.mkr.ext hS (by simpa using h.ne.symm),((hw.mono (by simp)).trans h.stp).own hS (fun c hc=>.inr (by simp at hc;omega))⟩
def Z22 (f:Nat) (t:Int) (d:Nat):Prop:=∀ (X:List Nat) (w:World) (bm:Nat) (lv:Value) (l:List Int) (i:Nat) (z:Int),z=(d:Int)→Mk3 w bm lv i→SlV [bm] w lv l→(∀ a∈l,I64 a)→i+3 * szD (d+1)≤100000→(∀ b∈X,b<w.heap.size)→
 CC f #[.pointer (some ⟨bm,0,none⟩),.int .i64 z] w fun r w'=>∃ y i',NdV X w' r y∧Gn t d y∧Mk3 w' bm lv i'∧i'≤i+3 * szD (d+1)∧Stp [bm] w w'
theorem JN {w w1 w2:World} {b:Nat} (h:Stp [] w w1) (hb:w.heap.size≤b) (h2:Stp [b] w1 w2):Stp [] w w2:=h.own h2 (fun c hc=>.inr (by simp at hc;omega))
end Go.Proofs.YtjdjdoefppebkaaGreatDoor
