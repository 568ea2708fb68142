/-
Merged by program out of own texts: Hlr1, Hlr2, Clr1, Rvm1, Rvm2, Rvm3, Vla8, Arg20, Arg21, Arg18, Gos1.
-/
import Derived.Test.YtjdjdoefppebkaaGreatDoorM6
import Derived.JoinedOf
set_option linter.unusedVariables false
set_option linter.unusedSimpArgs false
namespace Go.Proofs.YtjdjdoefppebkaaGreatDoor
open Go Go.Eng Go.RowKit
theorem Z3f (y m d:Int) (w:World) (hy:1≤y) (hy2:y≤9999) (hm:1≤m) (hm2:m≤12) (hd:0≤d) (hd2:d≤100):CC 265 #[Z82 y m d] w fun r w'=>r=.int .i64 (Jn y m d)∧Stp [] w w':=by
 obtain ⟨K,rfl⟩:∃ K:Nat,m=(K:Int)+1:=⟨(m - 1).toNat,by omega⟩
 have hK:K≤11:=by omega
 have hcm:=fun (k:Nat) (h:k≤12)=>(JK (y:=y) h (Xl _))
 have hc12:=Zbo y
 have hs0:=Z0g hy
 have hs1:=Z0g hy2
 have hsa:ZT 1=0:=by decide
 have hsb:ZT 9999=3651694:=by decide
 have hc0:=fun (k:Nat) (h:k≤12)=>(JK (y:=y) (Xo k) h)
 have hcz:Jv y 0=0:=rfl
 have h12:Jv y 12≤366:=by rw [hc12];split<;>omega
 refine cW1 25 Tryz.func265 ?_
 refine W ?_
 refine Z1 (Zo rfl) rfl ?_
 rintro _ w1 ⟨b,rfl,hb,hblk,hS⟩
 replace hblk:Blk w1 b 291 [.int .i64 y,.int .i64 ((K:Int)+1),.int .i64 d]:=hblk
 refine W ?_
 refine ZDr 8 [] [] [(0,0),(1,1),(3,0),(4,1),(2,2),(5,0),(6,0),(7,0)] (fun w1 hS1=>?_)
 replace hblk:=hblk.up hS1
 replace hS:=hS.trans hS1
 clear hS1
 refine D ?_
 refine Za rfl trivial (Z4 rfl (Zm rfl) (Z41 y _ hy (by omega))) (fun _ _ h=>by rw [h.2];exact Stp.refl _ _) rfl ?_
 rintro _ _ ⟨rfl,rfl⟩
 refine D ?_
 refine W ?_
 refine Zr (σ:=Nat) (fun k=>[(1,.pointer (some ⟨b,0,none⟩)),(3,.int .i64 (ZT y+d - 1+Jv y k)),(4,.int .i64 ((k:Int)+1))])
  (fun k w'=>k≤K∧Stp [] w w'∧Blk w' b 291 [.int .i64 y,.int .i64 ((K:Int)+1),.int .i64 d]) (fun k=>K - k) 0 ⟨rfl,by simp [Jh,Jv],rfl,trivial⟩ ⟨Xo _,hS,hblk⟩ ?_
 clear hblk hS
 rintro k w2 ⟨hk,hS,hblk⟩
 have b1:=hcm k (by omega)
 have b2:=hc0 k (by omega)
 by_cases hlt:k<K
 have b3:=hcm (k+1) (by omega)
 have b4:=Z0h (y:=y) (k:=k) (by omega)
 have hcs:Jv y (k+1)=Jv y k+Zs y ((k:Int)+1):=rfl
 focus repeat'(first|refine W1 ?_|omega|refine VG ?_ ?_<;>intro hg|refine VC ?_ ?_<;>intro hc)
 refine CL rfl (Zb rfl rfl) rfl (Z0K y ((k:Int)+1) _ (by omega) (by omega)) ?_
 rintro _ _ ⟨rfl,rfl⟩
 refine W ?_
 refine Zg (k+1) ⟨rfl,?_,?_,trivial⟩ ⟨hlt,hS,hblk⟩ (by omega)
 simp only [Jh]
 simp
 omega
 simp only [Jh]
 simp
 obtain rfl:k=K:=by omega
 focus repeat'(first|refine W1 ?_|omega|refine VG ?_ ?_<;>intro hg|refine VC ?_ ?_<;>intro hc)
 refine WR ?_
 refine .mk ⟨?_,hS⟩
 rw [Z1k y d k hK]
 congr 1
 omega
theorem ZaS (y m d:Int) (w:World):CC 360 #[Z82 y m d] w fun r w'=>r=.int .i64 (if Z0i y m d then 5 else 0)∧Stp [] w w':=by
 refine cW1 36 Tryz.func360 ?_
 refine W ?_
 refine Z1 (Zo rfl) rfl ?_
 rintro _ w1 ⟨b,rfl,hb,hblk,hS⟩
 replace hblk:Blk w1 b 291 [.int .i64 y,.int .i64 m,.int .i64 d]:=hblk
 refine W ?_
 refine ZDr 33 [] [] [(0,0),(1,1),(2,0),(3,0),(4,0),(5,1),(6,0),(7,0),(8,0),(9,0),(10,1),(11,0),(12,0),(13,0),(14,0),(15,1),(16,0),(17,0),(18,0),(19,0),(20,1),(21,0),(22,0),(23,0),(24,0),(25,1),(26,0),(27,1),(28,0),(29,1),(30,2),(31,0),(32,0)] (fun w1 hS1=>?_)
 replace hblk:=hblk.up hS1
 replace hS:=hS.trans hS1
 clear hS1
 by_cases hg:y<1∨9999<y∨m<1∨12<m∨d<1
 · have hbad:Z0i y m d:=by unfold Z0i;omega
   rw [if_pos hbad]
   repeat'(first|refine D1 ?_|omega|refine J6 rfl rfl rfl rfl (fun hg=>?_) (fun hg=>?_)|(refine ZX rfl rfl rfl rfl (fun hg=>?_) (fun hg=>?_)<;>refine D1 ?_)|fail)
   all_goals repeat'(first|refine W1 ?_|omega|refine VG ?_ ?_<;>intro hg|refine VC ?_ ?_<;>intro hc)
   all_goals refine WR ?_
   all_goals exact .mk ⟨rfl,hS⟩
 · repeat'(first|refine D1 ?_|omega|refine J6 rfl rfl rfl rfl (fun hg=>?_) (fun hg=>?_)|(refine ZX rfl rfl rfl rfl (fun hg=>?_) (fun hg=>?_)<;>refine D1 ?_)|fail)
   refine Za rfl rfl (Z4 rfl (Zb rfl rfl) (Z0K y m _ (by omega) (by omega))) (fun _ _ h=>by rw [h.2];exact Stp.refl _ _) rfl ?_
   rintro _ w3 ⟨rfl,rfl⟩
   repeat'(first|refine D1 ?_|omega|refine J6 rfl rfl rfl rfl (fun hg=>?_) (fun hg=>?_)|(refine ZX rfl rfl rfl rfl (fun hg=>?_) (fun hg=>?_)<;>refine D1 ?_)|fail)
   all_goals repeat'(first|refine W1 ?_|omega|refine VG ?_ ?_<;>intro hg|refine VC ?_ ?_<;>intro hc)
   refine WR ?_
   exact .mk ⟨by rw [if_pos (by unfold Z0i;omega)],hS⟩
   refine WR ?_
   exact .mk ⟨by rw [if_neg (by unfold Z0i;omega)],hS⟩
theorem Z9N (y m d:Int) (w:World):CC 357 #[Z82 y m d] w fun r w'=>r=.tuple #[.int .i64 (if Z0i y m d then 0 else Jn y m d),.int .i64 (if Z0i y m d then 5 else 0)]∧Stp [] w w':=by
 refine cW1 12 Tryz.func357 ?_
 refine W ?_
 refine Z1 (Zo rfl) rfl ?_
 rintro _ w1 ⟨b,rfl,hb,hblk,hS⟩
 replace hblk:Blk w1 b 291 [.int .i64 y,.int .i64 m,.int .i64 d]:=hblk
 refine W ?_
 refine CL rfl (Zm rfl) rfl (ZaS y m d _) ?_
 rintro _ w2 ⟨rfl,hT⟩
 replace hblk:=hblk.up hT
 replace hS:=hS.trans hT
 clear hT
 by_cases hbad:Z0i y m d
 rw [if_pos hbad,if_pos hbad]
 refine W ?_
 refine WR ?_
 exact .mk ⟨rfl,hS⟩
 rw [if_neg hbad,if_neg hbad]
 refine W ?_
 have h31:=Z0H y m
 unfold Z0i at hbad
 refine CL rfl (Zm rfl) rfl (Z3f y m d _ (by omega) (by omega) (by omega) (by omega) (by omega) (by omega)) ?_
 rintro _ w3 ⟨rfl,hT⟩
 refine W ?_
 refine WR ?_
 exact .mk ⟨rfl,hS.trans hT⟩
theorem Z1x (d:Int) (w:World) (h0:0≤d) (h1:d≤9000000000):CC 316 #[.int .i64 d] w fun r w'=>r=.int .i64 (d % 7)∧w'=w:=by
 refine cW1 11 Tryz.func316 ?_
 repeat'(first|refine W1 ?_|omega|refine VG ?_ ?_<;>intro hg|refine VC ?_ ?_<;>intro hc)
 refine WR ?_
 exact .mk ⟨rfl,rfl⟩
theorem ZcT (a:Int) (w:World) (h0:-1000000000≤a) (h1:a≤1000000000):CC 263 #[.int .i64 a,.int .i64 12] w fun r w'=>r=.int .i64 (a / 12)∧w'=w:=by
 obtain ⟨T,hT⟩:∃ T,T=a.tdiv 12:=⟨_,rfl⟩
 obtain ⟨R,hR⟩:∃ R,R=a.tmod 12:=⟨_,rfl⟩
 have hs:(R<0∧T - 1=a / 12)∨(0≤R∧T=a / 12):=by
  rcases Int.lt_or_le a 0 with h|h
  have e1:a.tdiv 12=-((-a) / 12):=by
   rw [← Yaz (by omega),Int.neg_tdiv];omega
  have e2:a.tmod 12=-((-a) % 12):=by
   rw [← XM (by omega),Int.neg_tmod];omega
  rw [e1] at hT
  rw [e2] at hR
  omega
  rw [Yaz h] at hT
  rw [XM h] at hR
  omega
 have hr:-13<R∧R<13:=by
  rcases Int.lt_or_le a 0 with h|h
  have e2:a.tmod 12=-((-a) % 12):=by
   rw [← XM (by omega),Int.neg_tmod];omega
  rw [e2] at hR
  omega
  rw [XM h] at hR
  omega
 refine cW2 16 Tryz.func263 ?_
 refine W ?_
 refine ZhJ rfl rfl (by decide) (by rw [← hT];unfold I64;omega) rfl ?_
 rw [← hT]
 refine W ?_
 refine Zdy rfl rfl (by decide) (by rw [← hR];unfold I64;omega) rfl ?_
 rw [← hR]
 clear hT hR
 repeat'(first|refine W1 ?_|omega|refine VG ?_ ?_<;>intro hg|refine VC ?_ ?_<;>intro hc)
 all_goals refine WR ?_
 all_goals exact .mk ⟨by congr 1;omega,rfl⟩
theorem Zfc (e g:Nat):Zbx e g=if e=24∨(e=25∧11<g) then e+1 else e:=by
 unfold Zbx
 rw [Bool.cond_eq_ite]
 congr 1
 simp [Nat.beq_eq,Nat.blt_eq]
theorem Zfd (e d:Nat):Zby e d=(if 44 - e<21 then 44 - e+30 else 44 - e)+7 - (d+(if 44 - e<21 then 44 - e+30 else 44 - e)) % 7:=by
 unfold Zby
 rw [Bool.cond_eq_ite]
 simp [Nat.blt_eq]
theorem ZqU (X:Int):(X.tmod 30<0∧-30<X.tmod 30∧X.tmod 30+30=X % 30)∨(0≤X.tmod 30∧X.tmod 30=X % 30):=by
 rcases Int.lt_or_le X 0 with h|h
 obtain ⟨Y,rfl⟩:∃ Y,X=-Y:=⟨-X,by omega⟩
 rw [Int.neg_tmod,XM (by omega)]
 omega
 rw [XM h]
 right
 omega
set_option maxRecDepth 100000 in
theorem Z9O (y:Int) (w:World):CC 356 #[.int .i64 y] w fun r w'=>r=.tuple #[.int .i64 (if y<1583∨9999<y then 0 else Z1H y),.int .i64 (if y<1583∨9999<y then 5 else 0)]∧Stp [] w w':=by
 refine cW1 81 Tryz.func356 ?_
 by_cases hy:y<1583∨9999<y
 · rw [if_pos hy,if_pos hy]
   repeat'(first|refine W1 ?_|omega|refine VG ?_ ?_<;>intro hg|refine VC ?_ ?_<;>intro hc)
   all_goals refine WR ?_
   all_goals exact .mk ⟨rfl,Stp.refl _ _⟩
 · rw [if_neg hy,if_neg hy]
   obtain ⟨k,rfl⟩:∃ k:Nat,y=(k:Int):=⟨y.toNat,by omega⟩
   have hk1:1583≤k:=by omega
   have hk2:k≤9999:=by omega
   rw [ZcC hk1 hk2]
   have g1:0≤(k:Int) % 19∧(k:Int) % 19≤18:=by omega
   have g2:15≤(k:Int) / 100∧(k:Int) / 100≤99:=by omega
   have hd31:=dayM_range (y:=(k:Int)) (m:=3) (d:=1) (by omega) (by omega) (by omega) (by omega) (by omega) (by show (1:Int)≤Zs (k:Int) 3;rw [show Zs (k:Int) 3=31 from rfl];decide)
   have hrf:Z8i k=Zby (Zbx (Z7l k) (k % 19+1)) (5 * k / 4 - (3 * (k / 100+1) / 4 - 12) - 10):=rfl
   rw [Zfc] at hrf
   obtain ⟨T,hT⟩:∃ T,T=(11 * ((k:Int) % 19+1)+20+((8 * ((k:Int) / 100+1)+5) / 25 - 5) - (3 * ((k:Int) / 100+1) / 4 - 12)).tmod 30:=⟨_,rfl⟩
   have hep:((Z7l k:Nat):Int)=(11 * ((k:Int) % 19+1)+20+((8 * ((k:Int) / 100+1)+5) / 25 - 5) - (3 * ((k:Int) / 100+1) / 4 - 12)) % 30:=by
    have e1:((k % 19:Nat):Int)=(k:Int) % 19:=by omega
    have e2:((k / 100:Nat):Int)=(k:Int) / 100:=by omega
    rw [← e1,← e2]
    unfold Z7l
    have b2:15≤k / 100:=by omega
    have b3:k / 100≤99:=by omega
    generalize k / 100=c at b2 b3 ⊢
    generalize k % 19=g
    have e3:(8 * ((c:Int)+1)+5) / 25=(((8 * (c+1)+5) / 25:Nat):Int):=by omega
    have e4:3 * ((c:Int)+1) / 4=((3 * (c+1) / 4:Nat):Int):=by omega
    have b4:5≤(8 * (c+1)+5) / 25:=by omega
    have b5:12≤3 * (c+1) / 4∧3 * (c+1) / 4≤75:=by omega
    rw [e3,e4]
    generalize (8 * (c+1)+5) / 25=Z at b4 ⊢
    generalize 3 * (c+1) / 4=Y at b5 ⊢
    omega
   have htm:=ZqU (11 * ((k:Int) % 19+1)+20+((8 * ((k:Int) / 100+1)+5) / 25 - 5) - (3 * ((k:Int) / 100+1) / 4 - 12))
   rw [← hT,← hep] at htm
   have he30:Z7l k<30:=Nat.mod_lt _ (by decide)
   have hTr:-30<T∧T<30:=by omega
   repeat'(first|refine W1 ?_|omega|refine VG ?_ ?_<;>intro hg|refine VC ?_ ?_<;>intro hc)
   refine Zdy rfl rfl (by decide) (by rw [← hT];unfold I64;omega) rfl ?_
   rw [← hT]
   have hX:0≤3 * ((k:Int) / 100+1) / 4 - 12∧3 * ((k:Int) / 100+1) / 4 - 12≤63:=by omega
   obtain ⟨D,hD⟩:∃ D:Nat,D=5 * k / 4 - (3 * (k / 100+1) / 4 - 12) - 10:=⟨_,rfl⟩
   have hD2:5 * (k:Int) / 4 - (3 * ((k:Int) / 100+1) / 4 - 12) - 10=(D:Int):=by omega
   have hD3:D≤20000:=by omega
   have hG:((k % 19:Nat):Int)=(k:Int) % 19:=by omega
   rw [← hD] at hrf
   rw [hD2]
   clear hD hD2 hX hep g2 hT
   generalize Z7l k=E at *
   generalize k % 19=G at *
   rw [← hG] at g1 ⊢
   clear hG
   repeat'(first|refine W1 ?_|omega|refine VG ?_ ?_<;>intro hg|refine VC ?_ ?_<;>intro hc)
   all_goals refine Z6 (vs:=[(0,.int .i64 (k:Int)),(1,.int .i64 3),(2,.int .i64 1)]) rfl (Z1T _ _ _) rfl ?_
   all_goals refine CL rfl (Zm rfl) rfl (Z3f (k:Int) 3 1 _ (by omega) (by omega) (by omega) (by omega) (by omega) (by omega)) ?_
   all_goals rintro _ w1 ⟨rfl,hS⟩
   all_goals refine W ?_
   all_goals refine WR ?_
   all_goals refine .mk ⟨?_,hS⟩
   all_goals refine congrArg (fun z=>Value.tuple #[.int .i64 z,.int .i64 0]) ?_
   all_goals rw [hrf,Zfd]
   all_goals (repeat' split)
   all_goals omega
theorem Z6z (d n:Int) (w:World) (h0:0≤d) (h1:d≤3652058) :
 CC 200 #[.int .i64 d,.int .i64 n] w fun r w'=>r=.tuple #[.int .i64 (Z6a d n).1,.int .i64 (Z6a d n).2]∧Stp [] w w':=by
 obtain ⟨y1,y2,m1,m2,d1,d2,hday⟩:=Z3T h0 h1
 have hin:Zx d=true:=Zy.2 ⟨h0,h1⟩
 unfold Z6a
 refine cW2 60 Tryz.func200 ?_
 by_cases hn:n < -200000∨200000<n
 · rw [if_pos hn]
   repeat'(first|refine W1 ?_|omega|refine VG ?_ ?_<;>intro hg|refine VC ?_ ?_<;>intro hc)
   all_goals refine WR ?_
   all_goals exact .mk ⟨rfl,Stp.refl _ _⟩
 rw [if_neg hn,if_pos hin]
 repeat'(first|refine W1 ?_|omega|refine VG ?_ ?_<;>intro hg|refine VC ?_ ?_<;>intro hc)
 refine CL rfl (Zm rfl) rfl (ZbG d _ h0 h1) ?_
 rintro _ w1 ⟨rfl,hS⟩
 refine W ?_
 refine Z1 Z7 rfl ?_
 rintro _ w2 ⟨b6,rfl,hb6,e6,hS2⟩
 refine W ?_
 refine Z2 (Z3 (us:=[.int .i64 (ofM d).y,.int .i64 (ofM d).m,.int .i64 (ofM d).d]) rfl rfl rfl rfl (by intro u hu;simp at hu;rcases hu with rfl|rfl|rfl<;>rfl) e6 rfl) ?_
 rintro _ w3 ⟨hT,k6⟩
 have hb6w:w.heap.size≤b6:=by have:=hS.size;omega
 replace hS:=hS.trans (hS2.own hT (fun c hc=>.inr (by simp at hc;omega)))
 clear e6 hT hS2
 generalize hM:12 * (ofM d).y+(ofM d).m - 1+n=M
 refine W ?_
 rw [hM]
 refine CL rfl (Zb rfl rfl) rfl (ZcT M _ (by omega) (by omega)) ?_
 rintro _ _ ⟨rfl,rfl⟩
 by_cases hr:M<12∨120000≤M
 · rw [if_pos hr]
   repeat'(first|refine W1 ?_|omega|refine VG ?_ ?_<;>intro hg|refine VC ?_ ?_<;>intro hc)
   all_goals refine WR ?_
   all_goals exact .mk ⟨rfl,hS⟩
 rw [if_neg hr]
 have hl1:=Z0H (M / 12) (M % 12+1)
 have hl0:=Z0h (y:=M / 12) (k:=(M % 12).toNat) (by omega)
 rw [show (((M % 12).toNat:Int))=M % 12 by omega] at hl0
 repeat'(first|refine W1 ?_|omega|refine VG ?_ ?_<;>intro hg|refine VC ?_ ?_<;>intro hc)
 refine Z2 (Ze (u:=.int .i64 (M / 12)) rfl rfl rfl rfl k6 (by simp)) ?_
 rintro _ w4 ⟨hS4,k6⟩
 refine W ?_
 have e12:M - 12 * (M / 12)+1=M % 12+1:=by omega
 rw [e12]
 refine Z2 (Ze (u:=.int .i64 (M % 12+1)) rfl rfl rfl rfl k6 (by simp)) ?_
 rintro _ w5 ⟨hS5,k6⟩
 replace hS:=(hS.own hS4 (fun c hc=>.inr (by simp at hc;omega))).own hS5 (fun c hc=>.inr (by simp at hc;omega))
 clear hS4 hS5
 refine W ?_
 refine ZDr 10 [] [9] [(0,0),(1,1),(2,0),(3,1),(4,0),(5,1),(6,2),(7,0),(8,0),(9,2)] (fun w1 hS1=>?_)
 replace k6:=k6.up hS1
 replace hS:=hS.trans hS1
 clear hS1
 refine D ?_
 refine Za rfl trivial (Z4 rfl (Zb rfl rfl) (Z0K (M / 12) (M % 12+1) _ (by omega) (by omega))) (fun _ _ h=>by rw [h.2];exact Stp.refl _ _) rfl ?_
 rintro _ _ ⟨rfl,rfl⟩
 refine D ?_
 refine Js rfl trivial (Ze (u:=.int .i64 (min (ofM d).d (Zs (M / 12) (M % 12+1)))) rfl rfl rfl rfl k6 (by simp)) rfl ?_
 rintro _ w6 ⟨hS6,k6⟩
 replace hS:=hS.own hS6 (fun c hc=>.inr (by simp at hc;omega))
 refine D ?_
 refine W ?_
 refine CL rfl (Zm rfl) rfl (Z3f (M / 12) (M % 12+1) (min (ofM d).d (Zs (M / 12) (M % 12+1))) _ (by omega) (by omega) (by omega) (by omega) (by omega) (by omega)) ?_
 rintro _ w7 ⟨rfl,hS7⟩
 refine W ?_
 refine WR ?_
 exact .mk ⟨rfl,hS.trans hS7⟩
theorem Z6P (n a b:Int) (w:World):CC 350 #[.int .i64 n,.int .i64 a,.int .i64 b] w fun r w'=>r=.bool (decide (a≤n∧n≤b))∧w'=w:=by
 refine cW3 15 Tryz.func350 ?_
 by_cases h1:n≥a
 by_cases h2:n≤b
 rw [decide_eq_true ⟨h1,h2⟩]
 focus repeat'(first|refine W1 ?_|omega|refine VG ?_ ?_<;>intro hg|refine VC ?_ ?_<;>intro hc)
 refine WR ?_
 exact .mk ⟨by simp [h2],rfl⟩
 rw [decide_eq_false (fun h=>h2 h.2)]
 focus repeat'(first|refine W1 ?_|omega|refine VG ?_ ?_<;>intro hg|refine VC ?_ ?_<;>intro hc)
 refine WR ?_
 exact .mk ⟨by simp [h2],rfl⟩
 rw [decide_eq_false (fun h=>h1 h.1)]
 focus repeat'(first|refine W1 ?_|omega|refine VG ?_ ?_<;>intro hg|refine VC ?_ ?_<;>intro hc)
 refine WR ?_
 exact .mk ⟨rfl,rfl⟩
def Zfe (o:Option Int) (r:Value):Prop:=∃ (n:Int) (b:Bool),r=.tuple #[.int .i64 n,.bool b]∧o=if b=true then some n else none
theorem Z9P (h:Hol) (y:Int) (w:World) (ho:Z0X h) (hy0:0≤y) (hy1:y≤10000) :
 CC 349 #[agg h,.int .i64 y] w fun r w'=>Zfe (Zav h y) r∧Stp [] w w':=by
 have hf1:=ho.f1
 have hl1:=ho.l1
 refine cW2 96 Tryz.func349 ?_
 refine W ?_
 refine Z1 (Zo rfl) rfl ?_
 rintro _ w1 ⟨b,rfl,hb,hblk,hS⟩
 replace hblk:Blk w1 b 187 (Z9.enc h):=hblk
 by_cases hin:y<h.first∨h.last<y
 · repeat'(first|refine W1 ?_|omega|refine VG ?_ ?_<;>intro hg|refine VC ?_ ?_<;>intro hc)
   all_goals refine WR ?_
   all_goals refine .mk ⟨⟨_,false,rfl,?_⟩,hS⟩
   all_goals unfold Zav
   all_goals rw [if_pos hin]
   all_goals rfl
 have hnm:=ZaF (h:=h) (y:=y) (by omega) (by omega)
 rw [hnm]
 have hk1:=ho.k1
 have hk2:=ho.k2
 by_cases k4:h.kind=4
 have e:Z0A h y=((if y<1583∨9999<y then 0 else Z1H y)+h.off,!decide (y<1583∨9999<y)):=by unfold Z0A;rw [if_neg (by omega),if_neg (by omega),if_neg (by omega)]
 rw [e]
 obtain ⟨o1,o2⟩:=ho.off k4
 have hr:0≤(if y<1583∨9999<y then 0 else Z1H y)∧(if y<1583∨9999<y then 0 else Z1H y)≤3652058:=by
  split
  omega
  have:=Z3c (y:=y) (by omega) (by omega)
  omega
 focus repeat'(first|refine W1 ?_|omega|refine VG ?_ ?_<;>intro hg|refine VC ?_ ?_<;>intro hc)
 refine CL rfl (Zm rfl) rfl (Z9O y _) ?_
 rintro _ w2 ⟨rfl,hT⟩
 replace hblk:=hblk.up hT
 replace hS:=hS.trans hT
 refine W ?_
 refine WR ?_
 refine .mk ⟨⟨_,_,rfl,?_⟩,hS⟩
 by_cases hy:y<1583∨9999<y<;>simp [hy]
 by_cases k1:h.kind=1
 have e:Z0A h y=(if Z0i y h.month h.day then 0 else Jn y h.month h.day,!decide (Z0i y h.month h.day)):=by unfold Z0A;rw [if_pos k1]
 rw [e]
 focus repeat'(first|refine W1 ?_|omega|refine VG ?_ ?_<;>intro hg|refine VC ?_ ?_<;>intro hc)
 refine Z6 (vs:=[(0,.int .i64 y),(1,.int .i64 h.month),(2,.int .i64 h.day)]) rfl (Z1T _ _ _) rfl ?_
 refine CL rfl (Zm rfl) rfl (Z9N y _ _ _) ?_
 rintro _ w2 ⟨rfl,hT⟩
 replace hblk:=hblk.up hT
 replace hS:=hS.trans hT
 refine W ?_
 refine WR ?_
 refine .mk ⟨⟨_,_,rfl,?_⟩,hS⟩
 by_cases hb:Z0i y h.month h.day<;>simp [hb]
 obtain ⟨m1,m2⟩:=ho.month (by omega)
 obtain ⟨d1,d2⟩:=ho.wd (by omega)
 obtain ⟨f1,f2,f3,f4,f5⟩:=Z1z (y:=y) (m:=h.month) (by omega) (by omega) m1 m2
 obtain ⟨f6,f7⟩:=Z1K (y:=y) (wd:=h.wd) (by omega) (by omega) m1 m2
 have hfw:Z1w y h.month h.wd=Jn y h.month 1+(h.wd - Jn y h.month 1 % 7+7) % 7:=rfl
 repeat'(first|refine W1 ?_|omega|refine VG ?_ ?_<;>intro hg|refine VC ?_ ?_<;>intro hc)
 refine Z6 (vs:=[(0,.int .i64 y),(1,.int .i64 h.month),(2,.int .i64 1)]) rfl (Z1T _ _ _) rfl ?_
 refine CL rfl (Zm rfl) rfl (Z9N y _ _ _) ?_
 rintro _ w2 ⟨rfl,hT⟩
 rw [if_neg f1,if_neg f1]
 replace hblk:=hblk.up hT
 replace hS:=hS.trans hT
 refine W ?_
 refine CL rfl (Zb rfl rfl) rfl (Z0K y _ _ (by omega) (by omega)) ?_
 rintro _ _ ⟨rfl,rfl⟩
 by_cases k3:h.kind=3
 have e:Z0A h y=(Z1w y h.month h.wd+(Jn y h.month 1+Zs y h.month - 1 - Z1w y h.month h.wd) / 7 * 7,true):=by unfold Z0A;rw [if_neg (by omega),if_neg (by omega),if_pos k3]
 rw [e,if_pos rfl]
 generalize hB:Jn y h.month 1=B at *
 generalize hL:Zs y h.month=L at *
 generalize Z1w y h.month h.wd=F at *
 focus repeat'(first|refine W1 ?_|omega|refine VG ?_ ?_<;>intro hg|refine VC ?_ ?_<;>intro hc)
 refine Zr (σ:=Nat) (fun k=>[(2,.pointer (some ⟨b,0,none⟩)),(12,.int .i64 (B+L - 1 - (k:Int)))])
  (fun k w'=>F+(B+L - 1 - F) / 7 * 7≤B+L - 1 - (k:Int)∧Stp [] w w'∧Blk w' b 187 (Z9.enc h)) (fun k=>100 - k) 0 ⟨rfl,by simp [Jh],trivial⟩ ⟨by omega,hS,hblk⟩ ?_
 clear hblk hS
 rintro k w3 ⟨hk,hS,hblk⟩
 refine W ?_
 refine ZDr 5 [] [] [(0,0),(2,0),(3,1),(1,2),(4,0)] (fun w1 hS1=>?_)
 replace hblk:=hblk.up hS1
 replace hS:=hS.trans hS1
 clear hS1
 refine D ?_
 refine Za rfl trivial (Z4 rfl (Zm rfl) (Z1x _ _ (by omega) (by omega))) (fun _ _ h=>by rw [h.2];exact Stp.refl _ _) rfl ?_
 rintro _ _ ⟨rfl,rfl⟩
 refine D ?_
 by_cases hq:(B+L - 1 - (k:Int)) % 7=h.wd
 focus repeat'(first|refine W1 ?_|omega|refine VG ?_ ?_<;>intro hg|refine VC ?_ ?_<;>intro hc)
 refine WR ?_
 refine .mk ⟨⟨_,true,rfl,?_⟩,hS⟩
 rw [if_pos rfl]
 congr 1
 omega
 focus repeat'(first|refine W1 ?_|omega|refine VG ?_ ?_<;>intro hg|refine VC ?_ ?_<;>intro hc)
 refine Zg (k+1) ⟨rfl,?_,trivial⟩ ⟨?_,hS,hblk⟩ (by omega)
 simp only [Jh]
 simp
 omega
 omega
 have e:Z0A h y=(Z1w y h.month h.wd+7 * (h.nth - 1),decide (Z1w y h.month h.wd+7 * (h.nth - 1)<Jn y h.month 1+Zs y h.month)):=by unfold Z0A;rw [if_neg (by omega),if_pos (by omega)]
 obtain ⟨n1,n2⟩:=ho.nth (by omega)
 rw [e]
 generalize hB:Jn y h.month 1=B at *
 generalize hL:Zs y h.month=L at *
 generalize Z1w y h.month h.wd=F at *
 focus repeat'(first|refine W1 ?_|omega|refine VG ?_ ?_<;>intro hg|refine VC ?_ ?_<;>intro hc)
 refine Zr (σ:=Nat) (fun k=>[(2,.pointer (some ⟨b,0,none⟩)),(10,.int .i64 (B+(k:Int))),(12,.int .i64 (B+L - 1))])
  (fun k w'=>B+(k:Int)≤F∧Stp [] w w'∧Blk w' b 187 (Z9.enc h)) (fun k=>100 - k) 0 ⟨rfl,by simp [Jh],rfl,trivial⟩ ⟨by omega,hS,hblk⟩ ?_
 clear hblk hS
 rintro k w3 ⟨hk,hS,hblk⟩
 refine W ?_
 refine ZDr 5 [] [] [(0,0),(2,0),(3,1),(1,2),(4,0)] (fun w1 hS1=>?_)
 replace hblk:=hblk.up hS1
 replace hS:=hS.trans hS1
 clear hS1
 refine D ?_
 refine Za rfl trivial (Z4 rfl (Zm rfl) (Z1x _ _ (by omega) (by omega))) (fun _ _ h=>by rw [h.2];exact Stp.refl _ _) rfl ?_
 rintro _ _ ⟨rfl,rfl⟩
 refine D ?_
 by_cases hq:(B+(k:Int)) % 7=h.wd
 obtain hFe:B+(k:Int)=F:=by omega
 rw [hFe] at hq ⊢
 focus repeat'(first|refine W1 ?_|omega|refine VG ?_ ?_<;>intro hg|refine VC ?_ ?_<;>intro hc)
 refine WR ?_
 refine .mk ⟨⟨_,_,rfl,?_⟩,hS⟩
 congr 1
 rw [eq_iff_iff,decide_eq_true_eq,decide_eq_true_eq]
 omega
 focus repeat'(first|refine W1 ?_|omega|refine VG ?_ ?_<;>intro hg|refine VC ?_ ?_<;>intro hc)
 refine Zg (k+1) ⟨rfl,?_,rfl,trivial⟩ ⟨?_,hS,hblk⟩ (by omega)
 simp only [Jh]
 simp
 omega
 omega
theorem Zff (h:Hol) (y:Int) (w:World) (ho:Z0X h) (hy0:0≤y) (hy1:y≤10000) :
 CC 333 #[agg h,.int .i64 y] w fun r w'=>Zfe (Z0n h y) r∧Stp [] w w':=by
 have hm1:=ho.m1
 have hm2:=ho.m2
 refine cW2 52 Tryz.func333 ?_
 refine W ?_
 refine Z1 (Zo rfl) rfl ?_
 rintro _ w1 ⟨b,rfl,hb,hblk,hS⟩
 replace hblk:Blk w1 b 187 (Z9.enc h):=hblk
 refine W ?_
 refine CL rfl (Zb rfl rfl) rfl (Z9P h y _ ho hy0 hy1) ?_
 rintro _ w2 ⟨⟨n,ok,rfl,hn⟩,hT⟩
 replace hblk:=hblk.up hT
 replace hS:=hS.trans hT
 clear hT
 unfold Z0n
 cases ok with
 | false=>
   rw [if_neg (by simp)] at hn
   rw [hn]
   refine W ?_
   refine WR ?_
   exact .mk ⟨⟨_,false,rfl,rfl⟩,hS⟩
 | true=>
   rw [if_pos rfl] at hn
   have hr:0≤n∧n≤3653000:=by
    by_cases hin:y<h.first∨h.last<y
    unfold Zav at hn
    rw [if_pos hin] at hn
    cases hn
    rw [ZaF (by omega) (by omega)] at hn
    split at hn
    rename_i hp
    have:=Z6q ho (by omega) (by omega) hp
    simp only [Xh] at hn
    omega
    cases hn
   rw [hn]
   have hmv:=Z7n h.move n
   have fin:∀ r w',r=.tuple #[.int .i64 (Z0V h.move n),.bool (decide (0≤Z0V h.move n∧Z0V h.move n≤3652058))]→Stp [] w w'→
    Ret (fun r w'=>Zfe ((some n).bind fun d=>if Zx (Z0V h.move d)=true then some (Z0V h.move d) else none) r∧Stp [] w w') (.returned r) w':=by
    rintro _ w' rfl hS
    refine .mk ⟨⟨_,_,rfl,?_⟩,hS⟩
    simp only [Option.bind_some]
    rfl
   have hcases:(h.move=1∧n % 7=5∧Z0V h.move n=n+2)∨(h.move=2∧n % 7=5∧Z0V h.move n=n - 1)∨(h.move≠0∧n % 7=6∧Z0V h.move n=n+1)∨((h.move=0∨(n % 7≠5∧n % 7≠6))∧Z0V h.move n=n):=by
    unfold Z0V
    repeat' split
    all_goals omega
   clear hn
   generalize Z0V h.move n=R at *
   refine W ?_
   refine CL rfl (Zm rfl) rfl (Z1x n _ hr.1 (by omega)) ?_
   rintro _ _ ⟨rfl,rfl⟩
   rcases hcases with ⟨c1,c2,rfl⟩|⟨c1,c2,rfl⟩|⟨c1,c2,rfl⟩|⟨c1,rfl⟩
   all_goals repeat'(first|refine W1 ?_|omega|refine VG ?_ ?_<;>intro hg|refine VC ?_ ?_<;>intro hc)
   all_goals refine CL rfl (ZE rfl rfl rfl) rfl (Z6P _ 0 3652058 _) ?_
   all_goals rintro _ _ ⟨rfl,rfl⟩
   all_goals refine W ?_
   all_goals refine WR ?_
   all_goals exact fin _ _ rfl hS
theorem Zfg (v:Value) (l:List Hol) (d:Int) (w:World) (hs:SlV [] w v l) (ho:∀ h∈l,Z0X h) (h0:0≤d) (h1:d≤3652058) :
 CC 318 #[v,.int .i64 d] w fun r w'=>r=.bool (Z1Y l d)∧Stp [] w w':=by
 obtain ⟨y1,y2,-⟩:=Z3T h0 h1
 have hin:Zx d=true:=Zy.2 ⟨h0,h1⟩
 have hmax:=hs.max
 refine cW2 49 Tryz.func318 ?_
 refine W ?_
 refine CL rfl (Zm rfl) rfl (ZbG d _ h0 h1) ?_
 rintro _ w1 ⟨rfl,hS⟩
 refine W ?_
 refine Z1 Z7 rfl ?_
 rintro _ w2 ⟨b5,rfl,hb5,e5,hS2⟩
 refine W ?_
 refine Z2 (Z3 (us:=[.int .i64 (ofM d).y,.int .i64 (ofM d).m,.int .i64 (ofM d).d]) rfl rfl rfl rfl (by intro u hu;simp at hu;rcases hu with rfl|rfl|rfl<;>rfl) e5 rfl) ?_
 rintro _ w3 ⟨hT,k5⟩
 replace hS:=hS.trans (hS2.own hT (fun c hc=>.inr (by simp at hc;omega)))
 clear e5 hT hS2
 replace hs:=hs.up hS
 refine W ?_
 have hany:∀ k:Nat,k<3→(∃ h∈l,Z0n h ((ofM d).y - 1+(k:Int))=some d)→Z1Y l d=true:=by
  rintro k hk ⟨h,hh,hd⟩
  unfold Z1Y
  rw [hin,Bool.true_and,XJ]
  refine ⟨_,?_,XJ.2 ⟨h,hh,decide_eq_true hd⟩⟩
  have:k=0∨k=1∨k=2:=by omega
  rcases this with rfl|rfl|rfl
  simp
  rw [show (ofM d).y - 1+((1:Nat):Int)=(ofM d).y by omega]
  simp
  rw [show (ofM d).y - 1+((2:Nat):Int)=(ofM d).y+1 by omega]
  simp
 refine Zr (σ:=Nat) (fun k=>[(0,v),(1,.int .i64 d),(5,.pointer (some ⟨b5,0,none⟩)),(7,.int .i64 ((ofM d).y - 1+(k:Int)))])
  (fun k w'=>k≤3∧(∀ j:Nat,j<k→∀ h∈l,¬ Z0n h ((ofM d).y - 1+(j:Int))=some d)∧Stp [] w3 w') (fun k=>3 - k) 0 ⟨rfl,rfl,rfl,by simp [Jh],trivial⟩ ⟨Xo _,fun j hj=>absurd hj (Xy _),Stp.refl _ _⟩ ?_
 rintro k w4 ⟨hk,hno,hS4⟩
 have k5b:=k5.up hS4
 have hsb:=hs.up hS4
 by_cases hlt:k<3
 focus repeat'(first|refine W1 ?_|omega|refine VG ?_ ?_<;>intro hg|refine VC ?_ ?_<;>intro hc)
 refine Z9E (σ:=Unit) (fun _=>[(0,v),(1,.int .i64 d),(5,.pointer (some ⟨b5,0,none⟩)),(7,.int .i64 ((ofM d).y - 1+(k:Int)))])
  (fun _ w'=>(∀ h∈l,¬ Z0n h ((ofM d).y - 1+(k:Int))=some d)∧Stp [] w3 w') ?_ ?_
 refine Zr (σ:=Nat) (fun i=>[(0,v),(1,.int .i64 d),(5,.pointer (some ⟨b5,0,none⟩)),(7,.int .i64 ((ofM d).y - 1+(k:Int))),(8,.int .i64 (i:Int))])
  (fun i w'=>i≤l.length∧(∀ h∈l.take i,¬ Z0n h ((ofM d).y - 1+(k:Int))=some d)∧Stp [] w3 w') (fun i=>l.length - i) 0 ⟨rfl,rfl,rfl,rfl,rfl,trivial⟩ ⟨Xo _,by simp,hS4⟩ ?_
 clear k5b hsb
 rintro i w5 ⟨hi,hni,hS5⟩
 have k5b:=k5.up hS5
 have hsb:=hs.up hS5
 by_cases hil:i<l.length
 · have hok:=ho l[i] (Xf hil)
   repeat'(first|refine W1 ?_|omega|refine VG ?_ ?_<;>intro hg|refine VC ?_ ?_<;>intro hc)
   refine CL rfl (Zb rfl rfl) rfl (Zff l[i] ((ofM d).y - 1+(k:Int)) _ hok (by omega) (by omega)) ?_
   rintro _ w6 ⟨⟨n,ok,rfl,hn⟩,hS6⟩
   have next:Z0n l[i] ((ofM d).y - 1+(k:Int))≠some d→∀ h∈l.take (i+1),¬ Z0n h ((ofM d).y - 1+(k:Int))=some d:=by
    intro hne h hh
    rw [Xq hil,Xs] at hh
    rcases hh with hh|hh
    exact hni h hh
    obtain rfl:h=l[i]:=by simpa using hh
    exact hne
   cases ok with
   | false=>
     rw [if_neg (by simp)] at hn
     refine W ?_
     exact Zg (i+1) ⟨rfl,rfl,rfl,rfl,rfl,trivial⟩ ⟨hil,next (by rw [hn];simp),hS5.trans hS6⟩ (by omega)
   | true=>
     rw [if_pos rfl] at hn
     by_cases hnd:n=d
     subst hnd
     focus repeat'(first|refine W1 ?_|omega|refine VG ?_ ?_<;>intro hg|refine VC ?_ ?_<;>intro hc)
     refine WR ?_
     refine .mk ⟨?_,(hS.trans hS5).trans hS6⟩
     rw [hany k hlt ⟨_,Xf hil,hn⟩]
     · repeat'(first|refine W1 ?_|omega|refine VG ?_ ?_<;>intro hg|refine VC ?_ ?_<;>intro hc)
       exact Zg (i+1) ⟨rfl,rfl,rfl,rfl,rfl,trivial⟩ ⟨hil,next (by rw [hn];simpa using hnd),hS5.trans hS6⟩ (by omega)
 obtain rfl:i=l.length:=by omega
 rw [XC] at hni
 focus repeat'(first|refine W1 ?_|omega|refine VG ?_ ?_<;>intro hg|refine VC ?_ ?_<;>intro hc)
 exact ZO () ⟨rfl,rfl,rfl,rfl,trivial⟩ ⟨hni,hS5⟩
 rintro _ w5 ⟨hni,hS5⟩
 refine W ?_
 refine Zg (k+1) ⟨rfl,rfl,rfl,?_,trivial⟩ ⟨hlt,fun j hj=>?_,hS5⟩ (by omega)
 simp only [Jh]
 simp
 omega
 by_cases hjk:j=k
 subst hjk;exact hni
 exact hno j (by omega)
 obtain rfl:k=3:=by omega
 focus repeat'(first|refine W1 ?_|omega|refine VG ?_ ?_<;>intro hg|refine VC ?_ ?_<;>intro hc)
 refine WR ?_
 refine .mk ⟨?_,hS.trans hS4⟩
 have:Z1Y l d=false:=by
  rw [Ya1]
  intro h
  unfold Z1Y at h
  rw [hin,Bool.true_and,XJ] at h
  obtain ⟨y,hy,h⟩:=h
  obtain ⟨q,hq,hd⟩:=XJ.1 h
  have hd:=of_decide_eq_true hd
  simp only [Xe,Xm,or_false] at hy
  rcases hy with rfl|rfl|rfl
  exact hno 0 (by omega) q hq (by simpa using hd)
  exact hno 1 (by omega) q hq (by rw [← hd];congr 1;omega)
  exact hno 2 (by omega) q hq (by rw [← hd];congr 1;omega)
 rw [this]
theorem Z1c (d:Int) (w:World):CC 266 #[.int .i64 d] w fun r w'=>r=.bool (Zx d)∧w'=w:=by
 refine cW1 9 Tryz.func266 ?_
 unfold Zx
 by_cases h1:d≥0
 by_cases h2:d≤3652058
 rw [decide_eq_true ⟨h1,h2⟩]
 focus repeat'(first|refine W1 ?_|omega|refine VG ?_ ?_<;>intro hg|refine VC ?_ ?_<;>intro hc)
 refine WR ?_
 exact .mk ⟨by simp [h2],rfl⟩
 rw [decide_eq_false (fun h=>h2 h.2)]
 focus repeat'(first|refine W1 ?_|omega|refine VG ?_ ?_<;>intro hg|refine VC ?_ ?_<;>intro hc)
 refine WR ?_
 exact .mk ⟨by simp [h2],rfl⟩
 rw [decide_eq_false (fun h=>h1 h.1)]
 focus repeat'(first|refine W1 ?_|omega|refine VG ?_ ?_<;>intro hg|refine VC ?_ ?_<;>intro hc)
 refine WR ?_
 exact .mk ⟨rfl,rfl⟩
theorem Z8u (d kn:Int) (c:Cal) (hv cv zo zs hr:Value) (w:World) (h:Z1m w c hv cv zo zs hr) :
 CC 317 #[Z15 c hv cv zo zs hr,.int .i64 d,.int .i64 kn] w fun r w'=>r=.bool (Z3v c.clos kn d)∧Stp [] w w':=by
 have hcm:=h.clos.max
 refine cW3 37 Tryz.func317 ?_
 refine W ?_
 refine Z1 (Zo rfl) rfl ?_
 rintro _ w1 ⟨b3,rfl,hb3,hblk,hS⟩
 replace hblk:Blk w1 b3 37 (Jm c hv cv zo zs hr):=hblk
 refine W ?_
 refine Zr (σ:=Nat) (fun k=>[(1,.int .i64 d),(2,.int .i64 kn),(3,.pointer (some ⟨b3,0,none⟩)),(7,.int .i64 (k:Int))])
  (fun k w'=>k≤c.clos.length∧Z3v (c.clos.take k) kn d=false∧Stp [] w1 w') (fun k=>c.clos.length - k) 0 ⟨rfl,rfl,rfl,rfl,trivial⟩ ⟨Xo _,rfl,Stp.refl _ _⟩ ?_
 rintro k w2 ⟨hk,hn,hS2⟩
 have kc:=hblk.up hS2
 have hcl:=(h.clos.up hS).up hS2
 by_cases hlt:k<c.clos.length
 have ht:Z3v (c.clos.take (k+1)) kn d=(Z3v (c.clos.take k) kn d || decide (c.clos[k].known≤kn∧c.clos[k].lo≤d∧d≤c.clos[k].hi)):=by
  unfold Z3v
  rw [Xq hlt,List.any_append]
  simp
 rw [hn,Yay] at ht
 focus repeat'(first|refine W1 ?_|omega|refine VG ?_ ?_<;>intro hg|refine VC ?_ ?_<;>intro hc)
 refine Z1 Z7 rfl ?_
 rintro _ w3 ⟨b8,rfl,hb8,e8,hS3⟩
 refine W ?_
 refine Z2 (Z3 (us:=Z9.enc c.clos[k]) rfl rfl rfl rfl (Z9.one _) e8 rfl) ?_
 rintro _ w4 ⟨hT,k8⟩
 replace hS3:=hS3.own hT (fun c hc=>.inr (by simp at hc;omega))
 clear e8 hT
 replace kc:=kc.up hS3
 replace hcl:=hcl.up hS3
 replace hS2:=hS2.trans hS3
 by_cases hx:c.clos[k].known≤kn∧c.clos[k].lo≤d∧d≤c.clos[k].hi
 focus repeat'(first|refine W1 ?_|omega|refine VG ?_ ?_<;>intro hg|refine VC ?_ ?_<;>intro hc)
 refine WR ?_
 refine .mk ⟨?_,hS.trans hS2⟩
 have:Z3v c.clos kn d=true:=by
  unfold Z3v
  exact XJ.2 ⟨c.clos[k],Xf hlt,decide_eq_true hx⟩
 rw [this]
 · rw [decide_eq_false hx] at ht
   repeat'(first|refine W1 ?_|omega|refine VG ?_ ?_<;>intro hg|refine VC ?_ ?_<;>intro hc)
   all_goals exact Zg (k+1) ⟨rfl,rfl,rfl,rfl,trivial⟩ ⟨hlt,ht,hS2⟩ (by omega)
 obtain rfl:k=c.clos.length:=by omega
 rw [XC] at hn
 focus repeat'(first|refine W1 ?_|omega|refine VG ?_ ?_<;>intro hg|refine VC ?_ ?_<;>intro hc)
 refine WR ?_
 exact .mk ⟨by rw [hn],hS.trans hS2⟩
theorem ZaT (d kn:Int) (c:Cal) (hv cv zo zs hr:Value) (w:World) (h:Z1m w c hv cv zo zs hr) :
 CC 296 #[Z15 c hv cv zo zs hr,.int .i64 d,.int .i64 kn] w fun r w'=>r=.bool (Zj c kn d)∧Stp [] w w':=by
 refine cW3 28 Tryz.func296 ?_
 refine W ?_
 refine Z1 (Zo rfl) rfl ?_
 rintro _ w1 ⟨b3,rfl,hb3,hblk,hS⟩
 replace hblk:Blk w1 b3 37 (Jm c hv cv zo zs hr):=hblk
 replace h:=h.up hS
 refine W ?_
 refine CL rfl (Zm rfl) rfl (Z1c d _) ?_
 rintro _ w1 ⟨rfl,rfl⟩
 unfold Zj
 cases hd:Zx d with
 | false=>
   refine W ?_
   refine WR ?_
   exact .mk ⟨rfl,hS⟩
 | true=>
   obtain ⟨h0,h1⟩:=Zy.1 hd
   have hi7:(d % 7).toNat<7:=by omega
   have hwk:=ZbD c hv cv zo zs hr hi7
   refine W ?_
   refine CL rfl (Zm rfl) rfl (Z1x d _ h0 (by omega)) ?_
   rintro _ _ ⟨rfl,rfl⟩
   refine W ?_
   refine Ji (len:=7) (i:=(d % 7).toNat) rfl rfl (by omega) hi7 rfl ?_
   refine Z3y rfl ?_
   refine Z2Q rfl rfl hblk hwk rfl ?_
   unfold Z9k
   cases hw:c.week.getD (d % 7).toNat false with
   | true=>
     refine W ?_
     refine WR ?_
     exact .mk ⟨by simp,hS⟩
   | false=>
     rw [Yay]
     refine W ?_
     refine CL rfl (ZE rfl rfl rfl) rfl (Z8u d kn c hv cv zo zs hr _ h) ?_
     rintro _ w2 ⟨rfl,hS2⟩
     replace h:=h.up hS2
     replace hblk:=hblk.up hS2
     replace hS:=hS.trans hS2
     cases hc:Z3v c.clos kn d with
     | true=>
       refine W ?_
       refine WR ?_
       exact .mk ⟨by simp,hS⟩
     | false=>
       rw [Yay]
       refine W ?_
       refine CL rfl (Zb rfl rfl) rfl (Zfg hv c.hols d _ h.hols h.ok.hols h0 h1) ?_
       rintro _ w3 ⟨rfl,hS3⟩
       refine W ?_
       refine WR ?_
       exact .mk ⟨by simp,hS.trans hS3⟩
theorem Z2I (d kn st:Int) (c:Cal) (hv cv zo zs hr:Value) (w:World) (h:Z1m w c hv cv zo zs hr) (hst:st=1∨st=-1) :
 CC 262 #[Z15 c hv cv zo zs hr,.int .i64 d,.int .i64 kn,.int .i64 st] w fun r w'=>r=.tuple #[.int .i64 (J4 (Zj c kn) st d).1,.int .i64 (J4 (Zj c kn) st d).2]∧Stp [] w w':=by
 refine cW4 39 Tryz.func262 ?_
 refine W ?_
 refine Z1 (Zo rfl) rfl ?_
 rintro _ w1 ⟨b4,rfl,hb4,hblk,hS⟩
 replace hblk:Blk w1 b4 37 (Jm c hv cv zo zs hr):=hblk
 replace h:=h.up hS
 refine W ?_
 refine CL rfl (Zm rfl) rfl (Z1c d _) ?_
 rintro _ w1 ⟨rfl,rfl⟩
 unfold J4
 cases hd:Zx d with
 | false=>
   rw [if_neg (by simp)]
   refine W ?_
   refine WR ?_
   exact .mk ⟨rfl,hS⟩
 | true=>
   rw [if_pos rfl]
   obtain ⟨h0,h1⟩:=Zy.1 hd
   refine W ?_
   refine Zr (σ:=Nat) (fun k=>[(1,.int .i64 d),(2,.int .i64 kn),(3,.int .i64 st),(4,.pointer (some ⟨b4,0,none⟩)),(10,.int .i64 (k:Int))])
    (fun k w'=>k≤1001∧Z1I (Zj c kn) st (1001 - k) (d+st * (k:Int))=Z1I (Zj c kn) st 1001 d∧Stp [] w1 w') (fun k=>1001 - k) 0 ⟨rfl,rfl,rfl,rfl,rfl,trivial⟩ ⟨Xo _,by simp,Stp.refl _ _⟩ ?_
   rintro k w2 ⟨hk,hfg,hS2⟩
   have hblk2:=hblk.up hS2
   have h2:=h.up hS2
   have hsk:-1001≤st * (k:Int)∧st * (k:Int)≤1001:=by rcases hst with rfl|rfl<;>omega
   have hsk1:st * ((k+1:Nat):Int)=st * (k:Int)+st:=by rcases hst with rfl|rfl<;>omega
   by_cases hlt:k≤1000
   · have e1:1001 - k=(1001 - (k+1))+1:=by omega
     rw [e1,Z1I] at hfg
     generalize hX:st * (k:Int)=X at *
     repeat'(first|refine W1 ?_|omega|refine VG ?_ ?_<;>intro hg|refine VC ?_ ?_<;>intro hc)
     rw [hX]
     refine CL rfl (Zm rfl) rfl (Z1c (d+X) _) ?_
     rintro _ _ ⟨rfl,rfl⟩
     cases hd2:Zx (d+X) with
     | false=>
       rw [hd2,if_neg (by simp)] at hfg
       refine W ?_
       refine WR ?_
       rw [← hfg]
       exact .mk ⟨rfl,hS.trans hS2⟩
     | true=>
       rw [hd2,if_pos rfl] at hfg
       refine W ?_
       rw [hX]
       refine CL rfl (ZE rfl rfl rfl) rfl (ZaT (d+X) kn c hv cv zo zs hr _ h2) ?_
       rintro _ w3 ⟨rfl,hS3⟩
       cases ho:Zj c kn (d+X) with
       | true=>
         rw [ho,if_pos rfl] at hfg
         refine W ?_
         rw [hX]
         refine WR ?_
         rw [← hfg]
         exact .mk ⟨rfl,(hS.trans hS2).trans hS3⟩
       | false=>
         rw [ho,if_neg (by simp)] at hfg
         refine W ?_
         refine Zg (k+1) ⟨rfl,rfl,rfl,rfl,rfl,trivial⟩ ⟨by omega,?_,hS2.trans hS3⟩ (by omega)
         rw [hsk1,← Int.add_assoc]
         exact hfg
   obtain rfl:k=1001:=by omega
   rw [Ya6,Z1I] at hfg
   focus repeat'(first|refine W1 ?_|omega|refine VG ?_ ?_<;>intro hg|refine VC ?_ ?_<;>intro hc)
   refine WR ?_
   rw [← hfg]
   exact .mk ⟨rfl,hS.trans hS2⟩
theorem ZaU (d kn:Int) (c:Cal) (hv cv zo zs hr:Value) (w:World) (h:Z1m w c hv cv zo zs hr) :
 CC 195 #[Z15 c hv cv zo zs hr,.int .i64 d,.int .i64 kn] w fun r w'=>r=.tuple #[.int .i64 (J4 (Zj c kn) (1) d).1,.int .i64 (J4 (Zj c kn) (1) d).2]∧Stp [] w w':=by
 refine cW3 14 Tryz.func195 ?_
 refine W ?_
 refine Z1 (Zo rfl) rfl ?_
 rintro _ w1 ⟨b3,rfl,hb3,hblk,hS⟩
 replace hblk:Blk w1 b3 37 (Jm c hv cv zo zs hr):=hblk
 replace h:=h.up hS
 refine W ?_
 refine CL rfl (Z1e rfl rfl rfl rfl) rfl (Z2I d kn (1) c hv cv zo zs hr _ h (by omega)) ?_
 rintro _ w2 ⟨rfl,hS2⟩
 refine W ?_
 refine WR ?_
 exact .mk ⟨rfl,hS.trans hS2⟩
theorem Z6A (d kn:Int) (c:Cal) (hv cv zo zs hr:Value) (w:World) (h:Z1m w c hv cv zo zs hr) :
 CC 196 #[Z15 c hv cv zo zs hr,.int .i64 d,.int .i64 kn] w fun r w'=>r=.tuple #[.int .i64 (J4 (Zj c kn) (-1) d).1,.int .i64 (J4 (Zj c kn) (-1) d).2]∧Stp [] w w':=by
 refine cW3 14 Tryz.func196 ?_
 refine W ?_
 refine Z1 (Zo rfl) rfl ?_
 rintro _ w1 ⟨b3,rfl,hb3,hblk,hS⟩
 replace hblk:Blk w1 b3 37 (Jm c hv cv zo zs hr):=hblk
 replace h:=h.up hS
 refine W ?_
 refine CL rfl (Z1e rfl rfl rfl rfl) rfl (Z2I d kn (-1) c hv cv zo zs hr _ h (by omega)) ?_
 rintro _ w2 ⟨rfl,hS2⟩
 refine W ?_
 refine WR ?_
 exact .mk ⟨rfl,hS.trans hS2⟩
theorem ZcU (d n kn:Int) (c:Cal) (hv cv zo zs hr:Value) (w:World) (h:Z1m w c hv cv zo zs hr) :
 CC 201 #[Z15 c hv cv zo zs hr,.int .i64 d,.int .i64 n,.int .i64 kn] w fun r w'=>r=.tuple #[.int .i64 (Z3w (Zj c kn) d n).1,.int .i64 (Z3w (Zj c kn) d n).2]∧Stp [] w w':=by
 refine cW4 46 Tryz.func201 ?_
 refine W ?_
 refine Z1 (Zo rfl) rfl ?_
 rintro _ w1 ⟨b4,rfl,hb4,hblk,hS⟩
 replace hblk:Blk w1 b4 37 (Jm c hv cv zo zs hr):=hblk
 replace h:=h.up hS
 refine W ?_
 refine CL rfl (Zm rfl) rfl (Z1c d _) ?_
 rintro _ w1 ⟨rfl,rfl⟩
 unfold Z3w
 cases hd:Zx d with
 | false=>
   rw [if_neg (by simp)]
   refine W ?_
   refine WR ?_
   exact .mk ⟨rfl,hS⟩
 | true=>
   rw [if_pos rfl]
   by_cases hn:n < -1000∨1000<n
   · rw [if_pos hn]
     repeat'(first|refine W1 ?_|omega|refine VG ?_ ?_<;>intro hg|refine VC ?_ ?_<;>intro hc)
     all_goals refine WR ?_
     all_goals exact .mk ⟨rfl,hS⟩
   rw [if_neg hn]
   by_cases hneg:n<0
   have hna:(-1) * n=(n.natAbs:Int):=by omega
   have hif:(if n<0 then (-1:Int) else 1)=-1:=by split<;>omega
   rw [hif]
   focus repeat'(first|refine W1 ?_|omega|refine VG ?_ ?_<;>intro hg|refine VC ?_ ?_<;>intro hc)
   refine Zr (σ:=Nat×Int) (fun q=>[(1,.int .i64 q.2),(2,.int .i64 n),(3,.int .i64 kn),(4,.pointer (some ⟨b4,0,none⟩)),(10,.int .i64 (-1)),(11,.int .i64 (q.1:Int))])
    (fun q w'=>q.1≤n.natAbs∧Zx q.2=true∧Z1Z (Zj c kn) (-1) (n.natAbs - q.1) q.2=Z1Z (Zj c kn) (-1) n.natAbs d∧Stp [] w1 w') (fun q=>n.natAbs - q.1) (0,d) ⟨rfl,rfl,rfl,rfl,rfl,rfl,trivial⟩ ⟨Xo _,hd,rfl,Stp.refl _ _⟩ ?_
   rintro ⟨k,q⟩ w2 ⟨hk,hq,hfg,hS2⟩
   dsimp only at hk hq hfg ⊢
   have hblk2:=hblk.up hS2
   have h2:=h.up hS2
   have hqr:=Zy.1 hq
   by_cases hlt:k<n.natAbs
   have e1:n.natAbs - k=(n.natAbs - (k+1))+1:=by omega
   rw [e1,Z1Z] at hfg
   focus repeat'(first|refine W1 ?_|omega|refine VG ?_ ?_<;>intro hg|refine VC ?_ ?_<;>intro hc)
   refine CL rfl (Z1e rfl rfl rfl rfl) rfl (Z2I (q+(-1)) kn (-1) c hv cv zo zs hr _ h2 (by omega)) ?_
   rintro _ w3 ⟨rfl,hS3⟩
   by_cases he:(J4 (Zj c kn) (-1) (q+(-1))).2=0
   rw [if_pos he] at hfg
   rw [he]
   refine W ?_
   exact Zg (k+1,(J4 (Zj c kn) (-1) (q+(-1))).1) ⟨rfl,rfl,rfl,rfl,rfl,rfl,trivial⟩ ⟨by dsimp only;omega,(Z1l he).1,hfg,hS2.trans hS3⟩ (by dsimp only;omega)
   rw [if_neg he] at hfg
   focus repeat'(first|refine W1 ?_|omega|refine VG ?_ ?_<;>intro hg|refine VC ?_ ?_<;>intro hc)
   refine WR ?_
   rw [← hfg]
   exact .mk ⟨rfl,(hS.trans hS2).trans hS3⟩
   have e1:n.natAbs - k=0:=by omega
   rw [e1,Z1Z] at hfg
   focus repeat'(first|refine W1 ?_|omega|refine VG ?_ ?_<;>intro hg|refine VC ?_ ?_<;>intro hc)
   refine WR ?_
   rw [← hfg]
   exact .mk ⟨rfl,hS.trans hS2⟩
   have hna:(1) * n=(n.natAbs:Int):=by omega
   have hif:(if n<0 then (-1:Int) else 1)=1:=by split<;>omega
   rw [hif]
   focus repeat'(first|refine W1 ?_|omega|refine VG ?_ ?_<;>intro hg|refine VC ?_ ?_<;>intro hc)
   refine Zr (σ:=Nat×Int) (fun q=>[(1,.int .i64 q.2),(2,.int .i64 n),(3,.int .i64 kn),(4,.pointer (some ⟨b4,0,none⟩)),(10,.int .i64 (1)),(11,.int .i64 (q.1:Int))])
    (fun q w'=>q.1≤n.natAbs∧Zx q.2=true∧Z1Z (Zj c kn) (1) (n.natAbs - q.1) q.2=Z1Z (Zj c kn) (1) n.natAbs d∧Stp [] w1 w') (fun q=>n.natAbs - q.1) (0,d) ⟨rfl,rfl,rfl,rfl,rfl,rfl,trivial⟩ ⟨Xo _,hd,rfl,Stp.refl _ _⟩ ?_
   rintro ⟨k,q⟩ w2 ⟨hk,hq,hfg,hS2⟩
   dsimp only at hk hq hfg ⊢
   have hblk2:=hblk.up hS2
   have h2:=h.up hS2
   have hqr:=Zy.1 hq
   by_cases hlt:k<n.natAbs
   have e1:n.natAbs - k=(n.natAbs - (k+1))+1:=by omega
   rw [e1,Z1Z] at hfg
   focus repeat'(first|refine W1 ?_|omega|refine VG ?_ ?_<;>intro hg|refine VC ?_ ?_<;>intro hc)
   refine CL rfl (Z1e rfl rfl rfl rfl) rfl (Z2I (q+(1)) kn (1) c hv cv zo zs hr _ h2 (by omega)) ?_
   rintro _ w3 ⟨rfl,hS3⟩
   by_cases he:(J4 (Zj c kn) (1) (q+(1))).2=0
   rw [if_pos he] at hfg
   rw [he]
   refine W ?_
   exact Zg (k+1,(J4 (Zj c kn) (1) (q+(1))).1) ⟨rfl,rfl,rfl,rfl,rfl,rfl,trivial⟩ ⟨by dsimp only;omega,(Z1l he).1,hfg,hS2.trans hS3⟩ (by dsimp only;omega)
   rw [if_neg he] at hfg
   focus repeat'(first|refine W1 ?_|omega|refine VG ?_ ?_<;>intro hg|refine VC ?_ ?_<;>intro hc)
   refine WR ?_
   rw [← hfg]
   exact .mk ⟨rfl,(hS.trans hS2).trans hS3⟩
   have e1:n.natAbs - k=0:=by omega
   rw [e1,Z1Z] at hfg
   focus repeat'(first|refine W1 ?_|omega|refine VG ?_ ?_<;>intro hg|refine VC ?_ ?_<;>intro hc)
   refine WR ?_
   rw [← hfg]
   exact .mk ⟨rfl,hS.trans hS2⟩
abbrev evA (ev:List Int):Value:=.agg (evC ev).toArray
def plC (ev:List Int) (c:Cal) (hv cv zo zs hr:Value) (kn:Int):List Value:=evC ev++Jm c hv cv zo zs hr++[.int .i64 kn]
abbrev plA (ev:List Int) (c:Cal) (hv cv zo zs hr:Value) (kn:Int):Value:=.agg (plC ev c hv cv zo zs hr kn).toArray
abbrev ZcV (r:Int×Int):Value:=.tuple #[.int .i64 r.1,.int .i64 r.2]
def Num (a:Int):Prop:=-2147483647≤a∧a≤2147483647
theorem vOk.num {t v:Int} (h:vOk t v):Num v:=by unfold vOk at h;unfold Num;omega
theorem Z56 (b:Bool) (w:World):CC 198 #[.bool b] w fun r w'=>r=.int .i64 (Jf b)∧w'=w:=by
 refine cW1 4 Tryz.func198 ?_
 cases b
 all_goals
  refine W ?_
  refine WR ?_
  exact .mk ⟨rfl,rfl⟩
theorem Z2J (n:Int) (w:World):CC 197 #[.int .i64 n] w fun r w'=>r=ZcV (Z20 n)∧w'=w:=by
 refine cW1 11 Tryz.func197 ?_
 unfold Z20
 by_cases h:n < -2147483647∨2147483647<n
 · rw [if_pos h]
   repeat'(first|refine W1 ?_|omega|refine VG ?_ ?_<;>intro hg|refine VC ?_ ?_<;>intro hc)
   all_goals refine WR ?_
   all_goals exact .mk ⟨rfl,rfl⟩
 rw [if_neg h]
 focus repeat'(first|refine W1 ?_|omega|refine VG ?_ ?_<;>intro hg|refine VC ?_ ?_<;>intro hc)
 refine WR ?_
 exact .mk ⟨rfl,rfl⟩
theorem Z7o (n:Int) (w:World):CC 199 #[.int .i64 n] w fun r w'=>r=ZcV (Z6I n)∧w'=w:=by
 refine cW1 11 Tryz.func199 ?_
 unfold Z6I
 by_cases h:n<0∨3652058<n
 · rw [if_pos h]
   repeat'(first|refine W1 ?_|omega|refine VG ?_ ?_<;>intro hg|refine VC ?_ ?_<;>intro hc)
   all_goals refine WR ?_
   all_goals exact .mk ⟨rfl,rfl⟩
 rw [if_neg h]
 focus repeat'(first|refine W1 ?_|omega|refine VG ?_ ?_<;>intro hg|refine VC ?_ ?_<;>intro hc)
 refine WR ?_
 exact .mk ⟨rfl,rfl⟩
theorem Z4B (op:Int) (w:World) (h13:op≠13) (h14:op≠14) (h24:op≠24):CC 54 #[.int .i64 op] w fun r w'=>r=.int .i64 (arM op:Int)∧w'=w:=by
 refine cW1 18 Tryz.func54 ?_
 repeat'(first|refine W1 ?_|omega|refine VG ?_ ?_<;>intro hg|refine VC ?_ ?_<;>intro hc)
 all_goals refine WR ?_
 all_goals refine .mk ⟨?_,rfl⟩
 all_goals congr 1
 all_goals unfold arM
 all_goals (repeat' split)
 all_goals omega
section
variable {ev:List Int} {c:Cal} {hv cv zo zs hr:Value} {kn:Int} {w:World}
theorem Z8v (h:Z1m w c hv cv zo zs hr) (op b:Int) (hb:Num b):CC 106 #[plA ev c hv cv zo zs hr kn,.int .i64 op,.int .i64 b] w fun r w'=>r=ZcV (Z1L (Zj c kn) op b)∧Stp [] w w':=by
 unfold Num at hb
 refine cW3 35 Tryz.func106 ?_
 refine W ?_
 refine Z1 (Zo rfl) rfl ?_
 rintro _ w1 ⟨b3,rfl,hb3,hblk,hS⟩
 replace hblk:Blk w1 b3 114 (plC ev c hv cv zo zs hr kn):=hblk
 replace h:=h.up hS
 unfold Z1L
 by_cases k8:op=8
 rw [if_pos k8]
 focus repeat'(first|refine W1 ?_|omega|refine VG ?_ ?_<;>intro hg|refine VC ?_ ?_<;>intro hc)
 refine WR ?_
 exact .mk ⟨rfl,hS⟩
 rw [if_neg k8]
 by_cases k19:op=19
 rw [if_pos k19]
 focus repeat'(first|refine W1 ?_|omega|refine VG ?_ ?_<;>intro hg|refine VC ?_ ?_<;>intro hc)
 refine Zd (Jz (us:=Jm c hv cv zo zs hr) rfl rfl hblk rfl rfl) rfl ?_
 refine W ?_
 refine CL rfl (ZE rfl rfl rfl) rfl (ZaU b kn c hv cv zo zs hr _ h) ?_
 rintro _ w2 ⟨rfl,hS2⟩
 refine W ?_
 refine WR ?_
 exact .mk ⟨rfl,hS.trans hS2⟩
 rw [if_neg k19]
 by_cases k20:op=20
 rw [if_pos k20]
 focus repeat'(first|refine W1 ?_|omega|refine VG ?_ ?_<;>intro hg|refine VC ?_ ?_<;>intro hc)
 refine Zd (Jz (us:=Jm c hv cv zo zs hr) rfl rfl hblk rfl rfl) rfl ?_
 refine W ?_
 refine CL rfl (ZE rfl rfl rfl) rfl (Z6A b kn c hv cv zo zs hr _ h) ?_
 rintro _ w2 ⟨rfl,hS2⟩
 refine W ?_
 refine WR ?_
 exact .mk ⟨rfl,hS.trans hS2⟩
 rw [if_neg k20]
 repeat'(first|refine W1 ?_|omega|refine VG ?_ ?_<;>intro hg|refine VC ?_ ?_<;>intro hc)
 refine WR ?_
 exact .mk ⟨rfl,hS⟩
theorem Z8w (h:Z1m w c hv cv zo zs hr) (op a b:Int) (ha:Num a) (hb:Num b) (h17:op=17→Zx a=true):CC 107 #[plA ev c hv cv zo zs hr kn,.int .i64 op,.int .i64 a,.int .i64 b] w fun r w'=>r=ZcV (J1 (Zj c kn) op a b)∧Stp [] w w':=by
 unfold Num at ha hb
 have hm:-4611686018427387904≤a * b∧a * b≤4611686018427387904:=by
  have h1:(a * b).natAbs≤2147483647 * 2147483647:=by rw [Int.natAbs_mul];exact Nat.mul_le_mul (by omega) (by omega)
  omega
 refine cW4 101 Tryz.func107 ?_
 refine W ?_
 refine Z1 (Zo rfl) rfl ?_
 rintro _ w1 ⟨b4,rfl,hb4,hblk,hS⟩
 replace hblk:Blk w1 b4 114 (plC ev c hv cv zo zs hr kn):=hblk
 replace h:=h.up hS
 unfold J1
 by_cases k5:op=5
 rw [if_pos k5]
 focus repeat'(first|refine W1 ?_|omega|refine VG ?_ ?_<;>intro hg|refine VC ?_ ?_<;>intro hc)
 refine CL rfl (Zm rfl) rfl (Z2J (a+b) _) ?_
 rintro _ _ ⟨rfl,rfl⟩
 refine W ?_
 refine WR ?_
 exact .mk ⟨rfl,hS⟩
 rw [if_neg k5]
 by_cases k6:op=6
 rw [if_pos k6]
 focus repeat'(first|refine W1 ?_|omega|refine VG ?_ ?_<;>intro hg|refine VC ?_ ?_<;>intro hc)
 refine CL rfl (Zm rfl) rfl (Z2J (a - b) _) ?_
 rintro _ _ ⟨rfl,rfl⟩
 refine W ?_
 refine WR ?_
 exact .mk ⟨rfl,hS⟩
 rw [if_neg k6]
 by_cases k7:op=7
 rw [if_pos k7]
 focus repeat'(first|refine W1 ?_|omega|refine VG ?_ ?_<;>intro hg|refine VC ?_ ?_<;>intro hc)
 refine CL rfl (Zm rfl) rfl (Z2J (a * b) _) ?_
 rintro _ _ ⟨rfl,rfl⟩
 refine W ?_
 refine WR ?_
 exact .mk ⟨rfl,hS⟩
 rw [if_neg k7]
 by_cases k9:op=9
 rw [if_pos k9]
 focus repeat'(first|refine W1 ?_|omega|refine VG ?_ ?_<;>intro hg|refine VC ?_ ?_<;>intro hc)
 refine CL rfl (Zm rfl) rfl (Z56 (decide (a<b)) _) ?_
 rintro _ _ ⟨rfl,rfl⟩
 refine W ?_
 refine WR ?_
 exact .mk ⟨rfl,hS⟩
 rw [if_neg k9]
 by_cases k10:op=10
 rw [if_pos k10]
 focus repeat'(first|refine W1 ?_|omega|refine VG ?_ ?_<;>intro hg|refine VC ?_ ?_<;>intro hc)
 refine CL rfl (Zm rfl) rfl (Z56 (decide (a≤b)) _) ?_
 rintro _ _ ⟨rfl,rfl⟩
 refine W ?_
 refine WR ?_
 exact .mk ⟨rfl,hS⟩
 rw [if_neg k10]
 by_cases k11:op=11
 rw [if_pos k11]
 focus repeat'(first|refine W1 ?_|omega|refine VG ?_ ?_<;>intro hg|refine VC ?_ ?_<;>intro hc)
 refine CL rfl (Zm rfl) rfl (Z56 (decide (a=b)) _) ?_
 rintro _ _ ⟨rfl,rfl⟩
 refine W ?_
 refine WR ?_
 exact .mk ⟨rfl,hS⟩
 rw [if_neg k11]
 by_cases k15:op=15
 rw [if_pos k15]
 focus repeat'(first|refine W1 ?_|omega|refine VG ?_ ?_<;>intro hg|refine VC ?_ ?_<;>intro hc)
 refine CL rfl (Zm rfl) rfl (Z7o (a+b) _) ?_
 rintro _ _ ⟨rfl,rfl⟩
 refine W ?_
 refine WR ?_
 exact .mk ⟨rfl,hS⟩
 rw [if_neg k15]
 by_cases k16:op=16
 rw [if_pos k16]
 focus repeat'(first|refine W1 ?_|omega|refine VG ?_ ?_<;>intro hg|refine VC ?_ ?_<;>intro hc)
 refine CL rfl (Zm rfl) rfl (Z7o (a+7 * b) _) ?_
 rintro _ _ ⟨rfl,rfl⟩
 refine W ?_
 refine WR ?_
 exact .mk ⟨rfl,hS⟩
 rw [if_neg k16]
 by_cases k17:op=17
 rw [if_pos k17]
 obtain ⟨d0,d1⟩:=Zy.1 (h17 k17)
 focus repeat'(first|refine W1 ?_|omega|refine VG ?_ ?_<;>intro hg|refine VC ?_ ?_<;>intro hc)
 refine CL rfl (Zb rfl rfl) rfl (Z6z a b _ d0 d1) ?_
 rintro _ w2 ⟨rfl,hS2⟩
 refine W ?_
 refine WR ?_
 exact .mk ⟨rfl,hS.trans hS2⟩
 rw [if_neg k17]
 by_cases k18:op=18
 rw [if_pos k18]
 focus repeat'(first|refine W1 ?_|omega|refine VG ?_ ?_<;>intro hg|refine VC ?_ ?_<;>intro hc)
 refine Zd (Jz (us:=Jm c hv cv zo zs hr) rfl rfl hblk rfl rfl) rfl ?_
 refine W ?_
 refine CL rfl (Z1e rfl rfl rfl rfl) rfl (ZcU a b kn c hv cv zo zs hr _ h) ?_
 rintro _ w2 ⟨rfl,hS2⟩
 refine W ?_
 refine WR ?_
 exact .mk ⟨rfl,hS.trans hS2⟩
 rw [if_neg k18]
 by_cases k21:op=21
 rw [if_pos k21]
 focus repeat'(first|refine W1 ?_|omega|refine VG ?_ ?_<;>intro hg|refine VC ?_ ?_<;>intro hc)
 refine WR ?_
 exact .mk ⟨rfl,hS⟩
 rw [if_neg k21]
 by_cases k22:op=22
 rw [if_pos k22]
 focus repeat'(first|refine W1 ?_|omega|refine VG ?_ ?_<;>intro hg|refine VC ?_ ?_<;>intro hc)
 refine WR ?_
 exact .mk ⟨rfl,hS⟩
 rw [if_neg k22]
 repeat'(first|refine W1 ?_|omega|refine VG ?_ ?_<;>intro hg|refine VC ?_ ?_<;>intro hc)
 refine WR ?_
 exact .mk ⟨rfl,hS⟩
theorem Z9Q (n:Int) (h0:0≤n) (h7:n<7):CC 105 #[evA ev,.int .i64 n] w fun r w'=>r=ZcV (Z4W ev n)∧Stp [] w w':=by
 refine cW2 33 Tryz.func105 ?_
 refine W ?_
 refine Z1 (Zo rfl) rfl ?_
 rintro _ w1 ⟨b2,rfl,hb2,hblk,hS⟩
 replace hblk:Blk w1 b2 29 (evC ev):=hblk
 unfold evC at hblk
 refine W ?_
 refine Z6 (vs:=[(0,.int .i64 (ev.getD 0 0)),(1,.int .i64 (ev.getD 1 0)),(2,.int .i64 (ev.getD 2 0)),(3,.int .i64 (ev.getD 3 0)),(4,.int .i64 (ev.getD 4 0)),(5,.int .i64 (ev.getD 5 0)),(6,.int .i64 (ev.getD 6 0))]) rfl (Zbv _ _ _ _ _ _ _) rfl ?_
 refine Z1 Z7 rfl ?_
 rintro _ w2 ⟨b6,rfl,hb6,e6,hS2⟩
 refine Z2 (Z3 (us:=evC ev) rfl rfl rfl rfl (by intro u hu;simp [evC] at hu;rcases hu with rfl|rfl|rfl|rfl|rfl|rfl|rfl<;>rfl) e6 rfl) ?_
 rintro _ w3 ⟨hT,k6⟩
 have hSn:=hS2.own hT (fun c hc=>.inr (by simp at hc;omega))
 replace hblk:=hblk.up hSn
 replace hS:=hS.trans hSn
 clear e6 hT hS2 hSn
 unfold evC at k6
 unfold Z4W
 by_cases hs:n=1∧ev.getD 1 0=-1
 rw [if_pos hs]
 obtain ⟨rfl,hs⟩:=hs
 focus repeat'(first|refine W1 ?_|omega|refine VG ?_ ?_<;>intro hg|refine VC ?_ ?_<;>intro hc)
 refine WR ?_
 exact .mk ⟨rfl,hS⟩
 rw [if_neg hs]
 have hn:n=0∨n=1∨n=2∨n=3∨n=4∨n=5∨n=6:=by omega
 rcases hn with rfl|rfl|rfl|rfl|rfl|rfl|rfl
 focus repeat'(first|refine W1 ?_|omega|refine VG ?_ ?_<;>intro hg|refine VC ?_ ?_<;>intro hc)
 refine CL rfl (Zb rfl rfl) rfl (ZR 0 7 _ (by omega) (by unfold I64;omega)) ?_
 rintro _ w5 ⟨rfl,hS5⟩
 replace k6:=k6.up hS5
 replace hS:=hS.trans hS5
 refine W ?_
 try refine Ji (len:=7) (i:=0) (z:=(if (0:Int)<0 then -((0:Int)+1) else 0) % 7) rfl rfl (by decide) (by decide) rfl ?_
 refine W ?_
 refine WR ?_
 exact .mk ⟨rfl,hS⟩
 focus repeat'(first|refine W1 ?_|omega|refine VG ?_ ?_<;>intro hg|refine VC ?_ ?_<;>intro hc)
 refine CL rfl (Zb rfl rfl) rfl (ZR 1 7 _ (by omega) (by unfold I64;omega)) ?_
 rintro _ w5 ⟨rfl,hS5⟩
 replace k6:=k6.up hS5
 replace hS:=hS.trans hS5
 refine W ?_
 try refine Ji (len:=7) (i:=1) (z:=(if (1:Int)<0 then -((1:Int)+1) else 1) % 7) rfl rfl (by decide) (by decide) rfl ?_
 refine W ?_
 refine WR ?_
 exact .mk ⟨rfl,hS⟩
 focus repeat'(first|refine W1 ?_|omega|refine VG ?_ ?_<;>intro hg|refine VC ?_ ?_<;>intro hc)
 refine CL rfl (Zb rfl rfl) rfl (ZR 2 7 _ (by omega) (by unfold I64;omega)) ?_
 rintro _ w5 ⟨rfl,hS5⟩
 replace k6:=k6.up hS5
 replace hS:=hS.trans hS5
 refine W ?_
 try refine Ji (len:=7) (i:=2) (z:=(if (2:Int)<0 then -((2:Int)+1) else 2) % 7) rfl rfl (by decide) (by decide) rfl ?_
 refine W ?_
 refine WR ?_
 exact .mk ⟨rfl,hS⟩
 focus repeat'(first|refine W1 ?_|omega|refine VG ?_ ?_<;>intro hg|refine VC ?_ ?_<;>intro hc)
 refine CL rfl (Zb rfl rfl) rfl (ZR 3 7 _ (by omega) (by unfold I64;omega)) ?_
 rintro _ w5 ⟨rfl,hS5⟩
 replace k6:=k6.up hS5
 replace hS:=hS.trans hS5
 refine W ?_
 try refine Ji (len:=7) (i:=3) (z:=(if (3:Int)<0 then -((3:Int)+1) else 3) % 7) rfl rfl (by decide) (by decide) rfl ?_
 refine W ?_
 refine WR ?_
 exact .mk ⟨rfl,hS⟩
 focus repeat'(first|refine W1 ?_|omega|refine VG ?_ ?_<;>intro hg|refine VC ?_ ?_<;>intro hc)
 refine CL rfl (Zb rfl rfl) rfl (ZR 4 7 _ (by omega) (by unfold I64;omega)) ?_
 rintro _ w5 ⟨rfl,hS5⟩
 replace k6:=k6.up hS5
 replace hS:=hS.trans hS5
 refine W ?_
 try refine Ji (len:=7) (i:=4) (z:=(if (4:Int)<0 then -((4:Int)+1) else 4) % 7) rfl rfl (by decide) (by decide) rfl ?_
 refine W ?_
 refine WR ?_
 exact .mk ⟨rfl,hS⟩
 focus repeat'(first|refine W1 ?_|omega|refine VG ?_ ?_<;>intro hg|refine VC ?_ ?_<;>intro hc)
 refine CL rfl (Zb rfl rfl) rfl (ZR 5 7 _ (by omega) (by unfold I64;omega)) ?_
 rintro _ w5 ⟨rfl,hS5⟩
 replace k6:=k6.up hS5
 replace hS:=hS.trans hS5
 refine W ?_
 try refine Ji (len:=7) (i:=5) (z:=(if (5:Int)<0 then -((5:Int)+1) else 5) % 7) rfl rfl (by decide) (by decide) rfl ?_
 refine W ?_
 refine WR ?_
 exact .mk ⟨rfl,hS⟩
 focus repeat'(first|refine W1 ?_|omega|refine VG ?_ ?_<;>intro hg|refine VC ?_ ?_<;>intro hc)
 refine CL rfl (Zb rfl rfl) rfl (ZR 6 7 _ (by omega) (by unfold I64;omega)) ?_
 rintro _ w5 ⟨rfl,hS5⟩
 replace k6:=k6.up hS5
 replace hS:=hS.trans hS5
 refine W ?_
 try refine Ji (len:=7) (i:=6) (z:=(if (6:Int)<0 then -((6:Int)+1) else 6) % 7) rfl rfl (by decide) (by decide) rfl ?_
 refine W ?_
 refine WR ?_
 exact .mk ⟨rfl,hS⟩
theorem Z9R (h:Z1m w c hv cv zo zs hr) (x:Ins) (a b:Int) (ha:Num a) (hb:Num b) (h4:x.op=4→0≤x.n∧x.n<7) (h17:x.op=17→Zx a=true) (h13:x.op≠13) (h14:x.op≠14) (h24:x.op≠24) :
 CC 52 #[plA ev c hv cv zo zs hr kn,agg x,.int .i64 a,.int .i64 b] w fun r w'=>r=ZcV (Jd (Zj c kn) ev x a b)∧Stp [] w w':=by
 refine cW4 44 Tryz.func52 ?_
 refine W ?_
 refine Z1 (Zo rfl) rfl ?_
 rintro _ w1 ⟨b4,rfl,hb4,hblk,hS⟩
 replace hblk:Blk w1 b4 114 (plC ev c hv cv zo zs hr kn):=hblk
 refine W ?_
 refine Z1 (Zo rfl) rfl ?_
 rintro _ w2 ⟨b5,rfl,hb5,hblk5,hS2⟩
 replace hblk5:Blk w2 b5 51 (Z9.enc x):=hblk5
 replace hblk:=hblk.up hS2
 replace hS:=hS.trans hS2
 replace h:=h.up hS
 clear hS2
 refine W ?_
 refine CL rfl (Zm rfl) rfl (Z4B x.op _ h13 h14 h24) ?_
 rintro _ _ ⟨rfl,rfl⟩
 unfold Jd
 by_cases k4:x.op=4
 rw [if_pos k4]
 have ha0:(arM x.op:Int)=0:=by rw [k4];rfl
 rw [ha0]
 focus repeat'(first|refine W1 ?_|omega|refine VG ?_ ?_<;>intro hg|refine VC ?_ ?_<;>intro hc)
 refine Zd (Jz (us:=evC ev) rfl rfl hblk rfl rfl) rfl ?_
 refine W ?_
 refine CL rfl (Zb rfl rfl) rfl (Z9Q x.n (h4 k4).1 (h4 k4).2) ?_
 rintro _ w3 ⟨rfl,hS3⟩
 refine W ?_
 refine WR ?_
 exact .mk ⟨rfl,hS.trans hS3⟩
 rw [if_neg k4]
 by_cases a0:arM x.op=0
 rw [if_pos a0]
 have ha0:(arM x.op:Int)=0:=by rw [a0];rfl
 rw [ha0]
 focus repeat'(first|refine W1 ?_|omega|refine VG ?_ ?_<;>intro hg|refine VC ?_ ?_<;>intro hc)
 refine WR ?_
 exact .mk ⟨rfl,hS⟩
 rw [if_neg a0]
 by_cases a1:arM x.op=1
 rw [if_pos a1]
 have ha0:(arM x.op:Int)=1:=by rw [a1];rfl
 rw [ha0]
 focus repeat'(first|refine W1 ?_|omega|refine VG ?_ ?_<;>intro hg|refine VC ?_ ?_<;>intro hc)
 refine CL rfl (ZE rfl rfl rfl) rfl (Z8v h x.op b hb) ?_
 rintro _ w3 ⟨rfl,hS3⟩
 refine W ?_
 refine WR ?_
 exact .mk ⟨rfl,hS.trans hS3⟩
 rw [if_neg a1]
 repeat'(first|refine W1 ?_|omega|refine VG ?_ ?_<;>intro hg|refine VC ?_ ?_<;>intro hc)
 refine CL rfl (Z1e rfl rfl rfl rfl) rfl (Z8w h x.op a b ha hb h17) ?_
 rintro _ w3 ⟨rfl,hS3⟩
 refine W ?_
 refine WR ?_
 exact .mk ⟨rfl,hS.trans hS3⟩
end
section
variable {ev:List Int} {c:Cal} {hv cv zo zs hr:Value} {kn:Int}
theorem Zhc (ev:List Int) (c:Cal) (hv cv zo zs hr:Value) (kn:Int) (w:World):(Instr.build 114 #[(0,evA ev),(1,Z15 c hv cv zo zs hr),(2,.int .i64 kn)]).run Tryz.prog w=.ok (plA ev c hv cv zo zs hr kn) w:=by kernel_rfl
end
theorem Z9S (v:Value) (l:List Int) (k:Nat) (w:World) (hs:SlV [] w v l) (hk:k≤10):CC 51 #[v,.int .i64 (k:Int)] w fun r w'=>r=.int .i64 (J3 l k)∧w'=w:=by
 have hmax:=hs.max
 refine cW2 17 Tryz.func51 ?_
 unfold J3
 by_cases hlt:k<l.length
 rw [if_pos hlt]
 have e:(l.length:Int) - 1 - (k:Int)=((l.length - 1 - k:Nat):Int):=by omega
 have hi:l.length - 1 - k<l.length:=by omega
 focus repeat'(first|refine W1 ?_|omega|refine VG ?_ ?_<;>intro hg|refine VC ?_ ?_<;>intro hc)
 rw [e]
 refine W ?_
 refine WR ?_
 exact .mk ⟨by simp [List.getD,hi],rfl⟩
 rw [if_neg hlt]
 focus repeat'(first|refine W1 ?_|omega|refine VG ?_ ?_<;>intro hg|refine VC ?_ ?_<;>intro hc)
 refine WR ?_
 exact .mk ⟨rfl,rfl⟩
theorem ZaV (op a b r:Int) (w:World) (ha:Num a):CC 53 #[.int .i64 op,.int .i64 a,.int .i64 b,.int .i64 r] w fun q w'=>J8 111 w w' q (Jt op a b r):=by
 unfold Num at ha
 unfold Jt
 refine cW4 38 Tryz.func53 ?_
 refine W ?_
 by_cases h19:op=19
 subst h19
 rw [if_pos rfl]
 focus repeat'(first|refine W1 ?_|omega|refine VG ?_ ?_<;>intro hg|refine VC ?_ ?_<;>intro hc)
 refine Z6 (vs:=[(0,.int .i64 b),(1,.int .i64 r)]) rfl (Z1n _ _) rfl ?_
 refine Z1 (Z0 (vs:=[(0,agg ((b,r):Spn))]) rfl (Z0T _)) rfl ?_
 rintro bw w1 hN
 refine W ?_
 refine WR ?_
 exact .mk (J8.one (xs:=[((b,r):Spn)]) hN rfl rfl (by simp [maxLen]))
 rw [if_neg h19]
 by_cases h20:op=20
 · subst h20
   rw [if_pos rfl]
   repeat'(first|refine W1 ?_|omega|refine VG ?_ ?_<;>intro hg|refine VC ?_ ?_<;>intro hc)
   all_goals try (exact absurd (by assumption) h19)
   refine Z6 (vs:=[(0,.int .i64 r),(1,.int .i64 b)]) rfl (Z1n _ _) rfl ?_
   refine Z1 (Z0 (vs:=[(0,agg ((r,b):Spn))]) rfl (Z0T _)) rfl ?_
   rintro bw w1 hN
   refine W ?_
   refine WR ?_
   exact .mk (J8.one (xs:=[((r,b):Spn)]) hN rfl rfl (by simp [maxLen]))
 rw [if_neg h20]
 by_cases h18:op=18
 subst h18
 rw [if_pos rfl]
 by_cases hb:0<b
 · rw [if_pos hb]
   repeat'(first|refine W1 ?_|omega|refine VG ?_ ?_<;>intro hg|refine VC ?_ ?_<;>intro hc)
   all_goals try (exact absurd (by assumption) h19)
   refine Z6 (vs:=[(0,.int .i64 (a+1)),(1,.int .i64 r)]) rfl (Z1n _ _) rfl ?_
   refine Z1 (Z0 (vs:=[(0,agg ((a+1,r):Spn))]) rfl (Z0T _)) rfl ?_
   rintro bw w1 hN
   refine W ?_
   refine WR ?_
   exact .mk (J8.one (xs:=[((a+1,r):Spn)]) hN rfl rfl (by simp [maxLen]))
 rw [if_neg hb]
 by_cases hb2:b<0
 · rw [if_pos hb2]
   repeat'(first|refine W1 ?_|omega|refine VG ?_ ?_<;>intro hg|refine VC ?_ ?_<;>intro hc)
   all_goals try (exact absurd (by assumption) h19)
   refine Z6 (vs:=[(0,.int .i64 r),(1,.int .i64 (a - 1))]) rfl (Z1n _ _) rfl ?_
   refine Z1 (Z0 (vs:=[(0,agg ((r,a - 1):Spn))]) rfl (Z0T _)) rfl ?_
   rintro bw w1 hN
   refine W ?_
   refine WR ?_
   exact .mk (J8.one (xs:=[((r,a - 1):Spn)]) hN rfl rfl (by simp [maxLen]))
 · rw [if_neg hb2]
   repeat'(first|refine W1 ?_|omega|refine VG ?_ ?_<;>intro hg|refine VC ?_ ?_<;>intro hc)
   all_goals try (exact absurd (by assumption) h19)
   refine WR ?_
   exact .mk J8.nil
 rw [if_neg h18]
 repeat'(first|refine W1 ?_|omega|refine VG ?_ ?_<;>intro hg|refine VC ?_ ?_<;>intro hc)
 all_goals try (exact absurd (by assumption) h19)
 all_goals try (exact absurd (by assumption) h20)
 all_goals try (exact absurd (by assumption) h18)
 refine WR ?_
 exact .mk J8.nil
theorem ZcW {x:Ins} {s nx:Shp} {st:List Int} (hn:Zv x s=some nx) (hs:Jo s st):(∀ k,Num (J3 st k))∧(x.op=4→0≤x.n∧x.n<7)∧(x.op=17→Zx (J3 st 1)=true):=by
 refine ⟨fun k=>?_,fun h4=>?_,fun h17=>?_⟩
 unfold J3
 split
 rename_i hk
 have h1:st.length - 1 - k<st.length:=by omega
 have h2:st.length - 1 - k<s.length:=by rw [hs.1];exact h1
 have:=(hs.2 _ h2 h1).num
 simpa [List.getD,h1] using this
 unfold Num;omega
 obtain ⟨h1,-⟩:=Z3Z hn hs
 obtain ⟨op,n⟩:=x
 dsimp only at h4
 subst h4
 simp [ZP] at h1
 dsimp only
 omega
 obtain ⟨h1,st0,vs,ts,rfl,hts,hvs⟩:=Z3Z hn hs
 obtain ⟨op,n⟩:=x
 dsimp only at h17
 subst h17
 simp [ZP] at hts
 subst hts
 obtain ⟨a,b,rfl,ha,hb⟩:=hvs.two_inv
 rw [(ZN st0 a b).2]
 exact Zy.2 ha.d
theorem Zfh (a:Int) (w:World):(Instr.buildSlice 22 1 #[(0,.int .i64 a)]).run Tryz.prog w=.ok (.slice (some ⟨w.heap.size,0,none⟩) 1 1) (w.alloc (.cells #[.int .i64 a] 3)):=by kernel_rfl
theorem Zlj {ev:List Int} {c:Cal} {hv cv zo zs hr:Value} {kn:Int} (h1:hv.oneCell'=true) (h2:cv.oneCell'=true) (ho:zo.oneCell'=true∧zs.oneCell'=true∧hr.oneCell'=true):∀ u∈plC ev c hv cv zo zs hr kn,u.oneCell'=true:=by
 intro u hu
 unfold plC at hu
 rcases Xs.1 hu with h|h
 rcases Xs.1 h with h|h
 exact Z42 ev u h
 exact Z2F h1 h2 ho u h
 rw [Xp.1 h]
 rfl
set_option maxHeartbeats 2000000 in
theorem ZcX (v:Value) (code:List Ins) (t kn:Int) (ev:List Int) (c:Cal) (hv cv zo zs hr:Value) (w:World) (hs:SlV [] w v code) (hver:Z2u code=(t,0)) (hcal:Z1m w c hv cv zo zs hr) (hev:Z3x ev) (ho:zo.oneCell'=true∧zs.oneCell'=true∧hr.oneCell'=true) :
 CC 15 #[v,evA ev,Z15 c hv cv zo zs hr,.int .i64 kn] w fun r w'=>∃ pv,r=.tuple #[.int .i64 (Z0r (Zj c kn) ev code).1,pv,.int .i64 (Z0r (Zj c kn) ev code).2.2]∧J8 111 w w' pv (Z0r (Zj c kn) ev code).2.1:=by
 obtain ⟨hl0,hl200,sh,hlen,hok,h16,hsh0,hshn,hgood⟩:=Z6t hver
 refine cW4 95 Tryz.func15 ?_
 refine W ?_
 refine Z1 (Zo rfl) rfl ?_
 rintro _ w1 ⟨b5,rfl,hb5,k5,hS⟩
 replace k5:Blk w1 b5 29 (evC ev):=k5
 refine Z1 (Zo rfl) rfl ?_
 rintro _ w2 ⟨b6,rfl,hb6,k6,hT⟩
 replace k6:Blk w2 b6 37 (Jm c hv cv zo zs hr):=k6
 replace k5:=k5.up hT
 replace hS:=hS.trans hT
 clear hT
 refine W ?_
 refine Z6 (vs:=[(0,evA ev),(1,Z15 c hv cv zo zs hr),(2,.int .i64 kn)]) rfl (Zhc ev c hv cv zo zs hr kn) rfl ?_
 refine Z1 Z7 rfl ?_
 rintro _ w3 ⟨b11,rfl,hb11,k11,hT⟩
 refine Z2 (Z3 (us:=plC ev c hv cv zo zs hr kn) rfl rfl rfl rfl (Zlj hcal.hols.one hcal.clos.one ho) k11 rfl) ?_
 rintro _ w4 ⟨hT2,k11⟩
 replace hT:=hT.own hT2 (fun c hc=>.inr (by simp at hc;omega))
 replace hS:=hS.trans hT
 clear hT hT2 k5 k6
 have hs0:=hs.up hS
 have hcal0:=hcal.up hS
 have k11o:=k11
 clear hs hcal k11
 refine W ?_
 refine Zr (σ:=Nat×Value×Value×List Int×List Spn) (fun q=>[(0,v),(11,.pointer (some ⟨b11,0,none⟩)),(12,q.2.1),(13,q.2.2.1),(14,.int .i64 (q.1:Int))])
  (fun q w'=>q.1<code.length∧q.2.2.2.2.length≤q.1∧Row [] w' w4.heap.size 3 q.2.1 q.2.2.2.1∧Row [] w' w4.heap.size 111 q.2.2.1 q.2.2.2.2∧(∀ b∈ob q.2.1,b∉ob q.2.2.1)∧(∃ s,sh.getD q.1 none=some s∧Jo s q.2.2.2.1)∧(∃ f,code.length≤f+q.1∧Z83 (Zj c kn) ev code f q.1 q.2.2.2.1 q.2.2.2.2=Z0r (Zj c kn) ev code)∧Stp [] w4 w')
  (fun q=>code.length - q.1) (0,.slice none 0 0,.slice none 0 0,[],[]) ⟨rfl,rfl,rfl,rfl,rfl,trivial⟩ ⟨hl0,Xl _,Row.nil,Row.nil,(by simp [ob]),⟨[],hsh0,Jo.nil⟩,⟨code.length,Xl _,rfl⟩,Stp.refl _ _⟩ ?_
 rintro ⟨i,sv,pv,st,sp⟩ w5 ⟨hi,hspl,hsr,hpr,hap,⟨s,hshs,hst⟩,⟨f,hf,hr⟩,hB⟩
 dsimp only at hi hspl hsr hpr hap hshs hst hf hr ⊢
 obtain ⟨s',nx,hg⟩:=hgood i hi
 have hss:s'=s:=by have:=hg.at_;rw [hshs] at this;exact (XP this).symm
 subst hss
 have hx:code.getD i ⟨0,0⟩=code[i]:=by simp [List.getD,hi]
 have hn:=hg.next
 rw [hx] at hn
 have h16':s'.length≤16:=h16 _ (by
  have hil:i<sh.length:=by omega
  rw [Xt,XA hil] at hshs
  simp only [X9] at hshs
  rw [← hshs]
  exact Xf hil)
 have hstl:st.length≤16:=by rw [← hst.1];exact h16'
 obtain ⟨fn1,fn2,fn3⟩:=ZcW hn hst
 have hs:=hs0.up hB
 have k11:=k11o.up hB
 have hmax:=hs.max
 have hii:(i:Int)<(code.length:Int):=by omega
 have hi0:(0:Int)≤(i:Int):=by omega
 have hpr0:=hpr.ob_le
 repeat'(first|refine W1 ?_|omega|refine VG ?_ ?_<;>intro hg|refine VC ?_ ?_<;>intro hc)
 refine Z1 Z7 rfl ?_
 rintro _ w6 ⟨b15,rfl,hb15,k15,hT⟩
 refine Z2 (Z3 (us:=Z9.enc code[i]) rfl rfl rfl rfl (Z9.one _) k15 rfl) ?_
 rintro _ w7 ⟨hT2,k15⟩
 replace hT:=hT.own hT2 (fun c hc=>.inr (by simp at hc;omega))
 clear hT2
 replace k11:=k11.up hT
 replace hsr:=hsr.up hT
 replace hpr:=hpr.up hT
 replace hB:=hB.trans hT
 clear hT
 have n15:b15∉ob pv:=fun h=>by have:=(hpr0 b15 h).2;omega
 refine W ?_
 have hsl:=hsr.slv (X:=[]) (by simp)
 refine CL rfl (Zb rfl rfl) rfl (Z9S sv st 1 _ hsl (by decide)) ?_
 rintro _ _ ⟨rfl,rfl⟩
 refine W ?_
 refine CL rfl (Zb rfl rfl) rfl (Z9S sv st 0 _ hsl (by decide)) ?_
 rintro _ _ ⟨rfl,rfl⟩
 obtain ⟨f,rfl⟩:∃ f',f=f'+1:=⟨f - 1,by omega⟩
 rw [Z83,hx] at hr
 have hen:Z9.enc code[i]=[.int .i64 code[i].op,.int .i64 code[i].n]:=rfl
 rw [hen] at k15
 by_cases h24:code[i].op=24
 rw [if_pos h24] at hr
 focus repeat'(first|refine W1 ?_|omega|refine VG ?_ ?_<;>intro hg|refine VC ?_ ?_<;>intro hc)
 refine WR ?_
 exact .mk ⟨pv,by rw [← hr],by rw [← hr];exact hpr.lower hS.size,hS.trans hB⟩
 rw [if_neg h24] at hr
 by_cases h13:code[i].op=13
 rw [if_pos h13] at hr
 obtain ⟨j1,j2,j3⟩:=hg.jump (.inl (by rw [hx];exact h13))
 rw [hx] at j1 j2 j3
 have hnx:=ZeT h13 hn
 subst hnx
 focus repeat'(first|refine W1 ?_|omega|refine VG ?_ ?_<;>intro hg|refine VC ?_ ?_<;>intro hc)
 rw [show code[i].n=((code[i].n.toNat:Nat):Int) by omega]
 exact Zg (code[i].n.toNat,sv,pv,st,sp) ⟨rfl,rfl,rfl,rfl,rfl,trivial⟩ ⟨by dsimp only;omega,by dsimp only;omega,hsr,hpr,hap,⟨_,j3,hst⟩,⟨f,by dsimp only;omega,hr⟩,hB⟩ (by dsimp only;omega)
 rw [if_neg h13] at hr
 obtain ⟨o1,o2⟩:=hg.on (by rw [hx];exact h24) (by rw [hx];exact h13)
 by_cases h14:code[i].op=14
 rw [if_pos h14] at hr
 obtain ⟨j1,j2,j3⟩:=hg.jump (.inr (by rw [hx];exact h14))
 rw [hx] at j1 j2 j3
 have hnx:=ZeU h14 hn
 have hst2:Jo nx st.dropLast:=by
  rw [hnx,X6,X6,← hst.1]
  exact hst.take _
 have hmaxe:max 0 ((st.length:Int) - 1)=((st.length - 1:Nat):Int):=by omega
 have hml:st.length - 1≤st.length:=by omega
 have hcut:Row [] _ w4.heap.size 3 (slc sv 0 (st.length - 1) 1) (st.take (st.length - 1)):=hsr.cut hml
 rw [← X6] at hcut
 have hap':∀ b∈ob (slc sv 0 (st.length - 1) 1),b∉ob pv:=by rw [Z7w];exact hap
 focus repeat'(first|refine W1 ?_|omega|refine VG ?_ ?_<;>intro hg|refine VC ?_ ?_<;>intro hc)
 refine Z5M rfl hsl rfl hmaxe hml rfl ?_
 focus repeat'(first|refine W1 ?_|omega|refine VG ?_ ?_<;>intro hg|refine VC ?_ ?_<;>intro hc)
 rw [if_pos hc] at hr
 rw [show code[i].n=((code[i].n.toNat:Nat):Int) by omega]
 exact Zg (code[i].n.toNat,slc sv 0 (st.length - 1) 1,pv,st.dropLast,sp) ⟨rfl,rfl,rfl,rfl,rfl,trivial⟩ ⟨by dsimp only;omega,by dsimp only;omega,hcut,hpr,hap',⟨_,j3,hst2⟩,⟨f,by dsimp only;omega,hr⟩,hB⟩ (by dsimp only;omega)
 rw [if_neg hc] at hr
 exact Zg (i+1,slc sv 0 (st.length - 1) 1,pv,st.dropLast,sp) ⟨rfl,rfl,rfl,rfl,rfl,trivial⟩ ⟨(by dsimp only;omega),by dsimp only;omega,hcut,hpr,hap',⟨_,o2,hst2⟩,⟨f,by dsimp only;omega,hr⟩,hB⟩ (by dsimp only;omega)
 rw [if_neg h14] at hr
 repeat'(first|refine W1 ?_|omega|refine VG ?_ ?_<;>intro hg|refine VC ?_ ?_<;>intro hc)
 refine CL rfl (Z1e rfl rfl rfl rfl) rfl (Z9R (hcal0.up hB) code[i] (J3 st 1) (J3 st 0) (fn1 1) (fn1 0) fn2 fn3 h13 h14 h24) ?_
 rintro _ w8 ⟨rfl,hT⟩
 replace k15:=k15.up hT
 replace hsr:=hsr.up hT
 replace hpr:=hpr.up hT
 replace hB:=hB.trans hT
 clear hT hsl
 by_cases he:(Jd (Zj c kn) ev code[i] (J3 st 1) (J3 st 0)).2=0
 · rw [if_pos he] at hr
   have hokn:=Z6c hev hn h24 h13 h14 hst he
   have hspn:(Jt code[i].op (J3 st 1) (J3 st 0) (Jd (Zj c kn) ev code[i] (J3 st 1) (J3 st 0)).1).length≤1:=by
    unfold Jt
    repeat' split
    all_goals simp
   refine W ?_
   rw [he]
   generalize (Jd (Zj c kn) ev code[i] (J3 st 1) (J3 st 0)).1=r at *
   repeat'(first|refine W1 ?_|omega|refine VG ?_ ?_<;>intro hg|refine VC ?_ ?_<;>intro hc)
   all_goals try (exact absurd rfl (by assumption))
   refine CL rfl (Z1e rfl rfl rfl rfl) rfl (ZaV code[i].op (J3 st 1) (J3 st 0) r _ (fn1 1)) ?_
   rintro qv w9 hq
   have hqs:SlV (ob pv++[]) w9 qv (Jt code[i].op (J3 st 1) (J3 st 0) r):=hq.slv (fun b hb=>(hpr.ob_le b (by simpa using hb)).2)
   have hT:=hq.2
   replace k15:=k15.up hT
   replace hsr:=hsr.up hT
   replace hpr:=hpr.up hT
   replace hB:=hB.trans hT
   clear hT hq
   generalize Jt code[i].op (J3 st 1) (J3 st 0) r=qs at *
   have hbs:=hB.size
   refine Z1 (Jw (X:=[]) (base:=w4.heap.size) rfl (by decide) rfl rfl hpr hqs (by omega) (by simp only [maxLen];omega) hbs) rfl ?_
   rintro pv2 w10 ⟨hpr2,hT,hob2⟩
   have hpo:=hpr.ob_le
   have hso:=hsr.ob_le
   have hap2:∀ b∈ob sv,b∉ob pv2:=fun b hb h=>by
    rcases hob2 b h with h1|h1
    exact hap b hb h1
    have:=(hso b hb).2
    omega
   replace hsr:=hsr.keep hT (fun b hb h=>hap b h hb)
   replace k15:=k15.ext hT n15
   replace hB:=hB.own hT (fun b hb=>.inr (hpo b hb).1)
   clear hT hqs hpr hob2
   have hsl:=hsr.slv (X:=[]) (by simp)
   refine W ?_
   refine CL rfl (Zm rfl) rfl (Z4B code[i].op _ h13 h14 h24) ?_
   rintro _ _ ⟨rfl,rfl⟩
   have har:arM code[i].op≤2:=by
    unfold arM
    repeat' split
    all_goals omega
   have hmaxe:max 0 ((st.length:Int) - (arM code[i].op:Int))=((st.length - arM code[i].op:Nat):Int):=by omega
   have hml:st.length - arM code[i].op≤st.length:=by omega
   have hcut:Row [] _ w4.heap.size 3 (slc sv 0 (st.length - arM code[i].op) 1) (st.take (st.length - arM code[i].op)):=hsr.cut hml
   refine W ?_
   refine Z5M rfl hsl rfl hmaxe hml rfl ?_
   refine W ?_
   refine Z1 (Z0 (vs:=[(0,.int .i64 r)]) rfl (Zfh _)) rfl ?_
   rintro bw w11 hN
   have hco:=hcut.ob_le
   have hbw:SlV (ob (slc sv 0 (st.length - arM code[i].op) 1)++[]) w11 bw [r]:=hN.slv (fun b hb=>(hco b (by simpa using hb)).2) rfl rfl (by simp [maxLen])
   have hT:=Z5.stp hN
   clear hN
   replace hcut:=hcut.up hT
   replace hpr2:=hpr2.up hT
   replace hB:=hB.trans hT
   clear hT
   have hbs2:=hB.size
   refine Z1 (Jw (X:=[]) (base:=w4.heap.size) rfl (by decide) rfl rfl hcut hbw (by rw [Xw];simp only [Xc,Xd];omega) (by rw [Xw];simp only [Xc,Xd,maxLen];omega) hbs2) rfl ?_
   rintro sv2 w12 ⟨hsr2,hT,hob3⟩
   rw [Z7w] at hT hob3
   have hpo2:=hpr2.ob_le
   have hap3:∀ b∈ob sv2,b∉ob pv2:=fun b hb h=>by
    rcases hob3 b hb with h1|h1
    exact hap2 b h1 h
    have:=(hpo2 b h).2
    omega
   replace hpr2:=hpr2.keep hT (fun b hb h=>hap2 b hb h)
   have hso2:=hsr.ob_le
   replace hB:=hB.own hT (fun b hb=>.inr (hso2 b hb).1)
   clear hT
   refine W ?_
   exact Zg (i+1,sv2,pv2,_,_) ⟨rfl,rfl,rfl,rfl,rfl,trivial⟩ ⟨(by dsimp only;omega),by dsimp only;rw [Xg];omega,hsr2,hpr2,hap3,⟨_,o2,hokn⟩,⟨f,by dsimp only;omega,hr⟩,hB⟩ (by dsimp only;omega)
 · rw [if_neg he] at hr
   repeat'(first|refine W1 ?_|omega|refine VG ?_ ?_<;>intro hg|refine VC ?_ ?_<;>intro hc)
   all_goals try (exact absurd (by assumption) he)
   refine WR ?_
   exact .mk ⟨.slice none 0 0,by rw [← hr];rfl,by rw [← hr];exact Row.nil,hS.trans hB⟩
theorem Zfi {ev:List Int} (h:ev.length=7):∃ a b c d e f g,ev=[a,b,c,d,e,f,g]:=by
 match ev,h with
 | [a,b,c,d,e,f,g],_=>exact ⟨a,b,c,d,e,f,g,rfl⟩
theorem Zfj (w:World):(Instr.buildSlice 40 0 #[]).run Tryz.prog w=.ok (.slice (some ⟨w.heap.size,0,none⟩) 0 0) (w.alloc (.cells #[] 51)):=by kernel_rfl
theorem Zfk (p1 p2 p3:Option Addr) (l1 c1 l2 c2 l3 c3:Nat) (w:World):(Instr.buildSlice 54 3 #[(0,.slice p1 l1 c1),(1,.slice p2 l2 c2),(2,.slice p3 l3 c3)]).run Tryz.prog w=.ok (.slice (some ⟨w.heap.size,0,none⟩) 3 3) (w.alloc (.cells #[.slice p1 l1 c1,.slice p2 l2 c2,.slice p3 l3 c3] 40)):=by kernel_rfl
theorem Zlk (v0 v1 v2:Value) (l0 l1 l2:List Int) (kd kz:Int) (er:Value) (m:Int) (rv:Value) (raw:List Ins) (az:Int) (by_:Ins) (bgs:List Int) (w:World) (h0:SlV [] w v0 l0) (h1:SlV [] w v1 l1) (h2:SlV [] w v2 l2) (hi0:∀ a∈l0,I64 a) (hi1:∀ a∈l1,I64 a) (hi2:∀ a∈l2,I64 a) (hkd:I64 kd) (hkz:I64 kz) (hL:Z0q w) (hM:Z2C w) (hm:w.cell? ⟨2,0,none⟩=some (.int .i64 m)) (hv4:w.cell? ⟨5,0,none⟩=some er) (hev4:er=.nilIface∨∃ te pe,er=.iface te pe) (hraw:SlV [] w rv raw) (haz:I64 az) (hzl:bgs.length=5) (hz:∀ z∈bgs,I64 z) :
 CC 4 #[Zf2 v0 v1 v2 kd kz,rv,.int .i64 az,agg by_,.agg (bgs.map fun z=>Value.int .i64 z).toArray] w fun r w'=>r=.bool true∧Stp [] w w':=by
 refine cW5 117 Tryz.func4 ?_
 refine W ?_
 refine Z1 (Zo rfl) rfl ?_
 rintro _ w1 ⟨b1,rfl,hb1,k1,hS⟩
 replace k1:Blk w1 b1 24 [v0,v1,v2,.int .i64 kd,.int .i64 kz]:=k1
 refine Z1 (Zo rfl) rfl ?_
 rintro _ w1b ⟨b8,rfl,hb8,k8,hT⟩
 replace k8:Blk w1b b8 51 (Z9.enc by_):=k8
 replace k1:=k1.up hT
 replace hS:=hS.trans hT
 clear hT
 refine Z1 (Zo rfl) rfl ?_
 rintro _ w1c ⟨b9,rfl,hb9,k9,hT⟩
 replace k9:Blk w1c b9 52 (bgs.map fun z=>Value.int .i64 z):=k9
 replace k1:=k1.up hT
 replace k8:=k8.up hT
 replace hS:=hS.trans hT
 clear hT
 refine W ?_
 refine CL rfl (Zm rfl) rfl (ZaO v0 v1 v2 l0 l1 l2 kd kz _ (h0.up hS) (h1.up hS) (h2.up hS) hi0 hi1 hi2 hkd hkz (hL.up hS) (hM.up hS)) ?_
 rintro _ w2 ⟨y,t,ky,ev,c,hv_,cv,zo,zs,hr,kn,rfl,hg,hky,hev,hcal,ho,hcs,hkn,hT⟩
 replace k1:=k1.up hT
 replace k8:=k8.up hT
 replace k9:=k9.up hT
 replace hS:=hS.trans hT
 clear hT
 have hone:=hky.one
 have lt8:=k8.lt
 have lt9:=k9.lt
 have gw2:=hS.size
 refine W ?_
 refine Z1 Z7 rfl ?_
 rintro _ w3 ⟨b3,rfl,hb3,k3,hA⟩
 have lt3:=k3.lt
 refine Z1 Z7 rfl ?_
 rintro _ w4 ⟨b4,rfl,hb4,k4,hT⟩
 have gz4:=hA.size
 replace k3:=k3.up hT
 replace hA:=hA.trans hT
 clear hT
 have lt4:=k4.lt
 refine Z1 Z7 rfl ?_
 rintro _ w5 ⟨b5,rfl,hb5,k5,hT⟩
 have gz5:=hA.size
 replace k3:=k3.up hT
 replace k4:=k4.up hT
 replace hA:=hA.trans hT
 clear hT
 refine Z2 (Z3 (us:=ndC y ky) rfl rfl rfl rfl (Zh hky) k3 rfl) ?_
 rintro _ w6 ⟨hT,k3⟩
 replace k4:=k4.ext hT (by simp;omega)
 replace k5:=k5.ext hT (by simp;omega)
 replace hA:=hA.own hT (fun c hc=>.inr (by simp at hc;omega))
 clear hT
 refine Z2 (Z3 (us:=evC ev) rfl rfl rfl rfl (Z42 _) k4 rfl) ?_
 rintro _ w7 ⟨hT,k4⟩
 replace k3:=k3.ext hT (by simp;omega)
 replace k5:=k5.ext hT (by simp;omega)
 replace hA:=hA.own hT (fun c hc=>.inr (by simp at hc;omega))
 clear hT
 refine Z2 (Z3 (us:=Jm c hv_ cv zo zs hr) rfl rfl rfl rfl (Z2F hcal.hols.one hcal.clos.one ho) k5 rfl) ?_
 rintro _ w8 ⟨hT,k5⟩
 replace k3:=k3.ext hT (by simp;omega)
 replace k4:=k4.ext hT (by simp;omega)
 replace hA:=hA.own hT (fun c hc=>.inr (by simp at hc;omega))
 clear hT
 have n4:b3≠b4∧b5≠b4∧b8≠b4∧b9≠b4∧w2.heap.size≤b4:=by omega
 replace k8:=k8.up hA
 replace k9:=k9.up hA
 have hty:=hg.type
 have htn:Zf y≠0:=by rw [hty];exact hg.ne
 have hn5:Zp y≤5:=hg.nest
 have hn16:Zp y≤16:=by omega
 refine W ?_
 refine CL rfl (Zm rfl) rfl (Z5t _ y _ (Xj hg.size (by decide)) (by omega) ⟨ky,rfl,hky.up hA⟩) ?_
 rintro _ w9 ⟨xv,rfl,hxv,hT⟩
 have hc0:=hxv [b4] (by have:=k4.lt;simp;exact this)
 clear hxv
 replace k4:=k4.up hT
 replace k5:=k5.up hT
 replace k8:=k8.up hT
 replace k9:=k9.up hT
 replace hA:=hA.trans hT
 clear hT
 obtain ⟨ea,eb,ec,ed,ee,ef,eg,rfl⟩:=Zfi hev.len
 have e5:=hev.rest 5 (by omega) (by omega)
 have e4:=hev.rest 4 (by omega) (by omega)
 simp only [Xz,XR] at e4 e5
 by_cases he:Z4a y=0
 · rw [if_pos he] at hc0
   rw [he]
   have hver:=Zfa he
   obtain ⟨hl0,hl200,-⟩:=Z6t hver
   obtain ⟨z0,z1,z2,z3,z4,rfl⟩:∃ z0 z1 z2 z3 z4,bgs=[z0,z1,z2,z3,z4]:=by
    match bgs,hzl with
    | [z0,z1,z2,z3,z4],_=>exact ⟨z0,z1,z2,z3,z4,rfl⟩
   simp only [Xn,Xx] at k9
   repeat'(first|refine W1 ?_|omega|refine VG ?_ ?_<;>intro hg|refine VC ?_ ?_<;>intro hc)
   all_goals try (exact absurd rfl (by assumption))
   refine W ?_
   refine CL rfl (Zb rfl rfl) rfl (Z3e z0 2147483647 _ (by decide) (by decide) (hz _ (by simp))) ?_
   rintro _ wa ⟨x0,rfl,hx0,hy0,hT⟩
   replace k4:=k4.up hT
   replace k5:=k5.up hT
   replace k8:=k8.up hT
   replace k9:=k9.up hT
   replace hc0:=hc0.up hT
   replace hA:=hA.trans hT
   clear hT
   refine W ?_
   refine Z2 (Ze (u:=.int .i64 (x0)) rfl rfl rfl rfl k4 (by simp [evC])) ?_
   rintro _ wS ⟨hT,k4⟩
   replace k4:Blk wS b4 29 (evC [ea,eb,(x0),ed,ee,ef,eg]):=k4
   replace k5:=k5.ext hT (by simpa using n4.2.1)
   replace k8:=k8.ext hT (by simpa using n4.2.2.1)
   replace k9:=k9.ext hT (by simpa using n4.2.2.2.1)
   replace hc0:=hc0.ext (X':=[b4]) hT (by simp) (fun _ h=>.inl h)
   replace hA:=hA.own hT (fun q hq=>.inr (by simp at hq;subst hq;exact n4.2.2.2.2))
   clear hT
   refine W ?_
   refine CL rfl (Zb rfl rfl) rfl (Z3e z1 2147483647 _ (by decide) (by decide) (hz _ (by simp))) ?_
   rintro _ wa ⟨x1,rfl,hx1,hy1,hT⟩
   replace k4:=k4.up hT
   replace k5:=k5.up hT
   replace k8:=k8.up hT
   replace k9:=k9.up hT
   replace hc0:=hc0.up hT
   replace hA:=hA.trans hT
   clear hT
   refine W ?_
   refine Z2 (Ze (u:=.int .i64 (x1)) rfl rfl rfl rfl k4 (by simp [evC])) ?_
   rintro _ wS ⟨hT,k4⟩
   replace k4:Blk wS b4 29 (evC [ea,eb,(x0),(x1),ee,ef,eg]):=k4
   replace k5:=k5.ext hT (by simpa using n4.2.1)
   replace k8:=k8.ext hT (by simpa using n4.2.2.1)
   replace k9:=k9.ext hT (by simpa using n4.2.2.2.1)
   replace hc0:=hc0.ext (X':=[b4]) hT (by simp) (fun _ h=>.inl h)
   replace hA:=hA.own hT (fun q hq=>.inr (by simp at hq;subst hq;exact n4.2.2.2.2))
   clear hT
   refine W ?_
   refine CL rfl (Zb rfl rfl) rfl (Z3e z2 2147483647 _ (by decide) (by decide) (hz _ (by simp))) ?_
   rintro _ wa ⟨x2,rfl,hx2,hy2,hT⟩
   replace k4:=k4.up hT
   replace k5:=k5.up hT
   replace k8:=k8.up hT
   replace k9:=k9.up hT
   replace hc0:=hc0.up hT
   replace hA:=hA.trans hT
   clear hT
   refine W ?_
   refine Z2 (Ze (u:=.int .i64 (x2)) rfl rfl rfl rfl k4 (by simp [evC])) ?_
   rintro _ wS ⟨hT,k4⟩
   replace k4:Blk wS b4 29 (evC [ea,eb,(x0),(x1),ee,ef,(x2)]):=k4
   replace k5:=k5.ext hT (by simpa using n4.2.1)
   replace k8:=k8.ext hT (by simpa using n4.2.2.1)
   replace k9:=k9.ext hT (by simpa using n4.2.2.2.1)
   replace hc0:=hc0.ext (X':=[b4]) hT (by simp) (fun _ h=>.inl h)
   replace hA:=hA.own hT (fun q hq=>.inr (by simp at hq;subst hq;exact n4.2.2.2.2))
   clear hT
   refine W ?_
   refine Ji (len:=5) (i:=3) (z:=3) rfl rfl (by decide) (by decide) rfl ?_
   refine W ?_
   refine CL rfl (Zb rfl rfl) rfl (ZR z3 3652059 _ (by decide) (hz _ (by simp))) ?_
   rintro _ wa ⟨rfl,hT⟩
   have hr3:=Jj (if z3<0 then -(z3+1) else z3) 3652059 (by decide)
   generalize (if z3<0 then -(z3+1) else z3) % 3652059=x3 at hr3 ⊢
   replace k4:=k4.up hT
   replace k5:=k5.up hT
   replace k8:=k8.up hT
   replace k9:=k9.up hT
   replace hc0:=hc0.up hT
   replace hA:=hA.trans hT
   clear hT
   refine W ?_
   refine Z2 (Ze (u:=.int .i64 (x3)) rfl rfl rfl rfl k4 (by simp [evC])) ?_
   rintro _ wS ⟨hT,k4⟩
   replace k4:Blk wS b4 29 (evC [(x3),eb,(x0),(x1),ee,ef,(x2)]):=k4
   replace k5:=k5.ext hT (by simpa using n4.2.1)
   replace k8:=k8.ext hT (by simpa using n4.2.2.1)
   replace k9:=k9.ext hT (by simpa using n4.2.2.2.1)
   replace hc0:=hc0.ext (X':=[b4]) hT (by simp) (fun _ h=>.inl h)
   replace hA:=hA.own hT (fun q hq=>.inr (by simp at hq;subst hq;exact n4.2.2.2.2))
   clear hT
   refine W ?_
   refine Ji (len:=5) (i:=4) (z:=4) rfl rfl (by decide) (by decide) rfl ?_
   refine W ?_
   refine CL rfl (Zb rfl rfl) rfl (ZR z4 3652060 _ (by decide) (hz _ (by simp))) ?_
   rintro _ wa ⟨rfl,hT⟩
   have hr4:=Jj (if z4<0 then -(z4+1) else z4) 3652060 (by decide)
   generalize (if z4<0 then -(z4+1) else z4) % 3652060=x4 at hr4 ⊢
   replace k4:=k4.up hT
   replace k5:=k5.up hT
   replace k8:=k8.up hT
   replace k9:=k9.up hT
   replace hc0:=hc0.up hT
   replace hA:=hA.trans hT
   clear hT
   refine W ?_
   refine Z2 (Ze (u:=.int .i64 (x4 - 1)) rfl rfl rfl rfl k4 (by simp [evC])) ?_
   rintro _ wS ⟨hT,k4⟩
   replace k4:Blk wS b4 29 (evC [(x3),(x4 - 1),(x0),(x1),ee,ef,(x2)]):=k4
   replace k5:=k5.ext hT (by simpa using n4.2.1)
   replace k8:=k8.ext hT (by simpa using n4.2.2.1)
   replace k9:=k9.ext hT (by simpa using n4.2.2.2.1)
   replace hc0:=hc0.ext (X':=[b4]) hT (by simp) (fun _ h=>.inl h)
   replace hA:=hA.own hT (fun q hq=>.inr (by simp at hq;subst hq;exact n4.2.2.2.2))
   clear hT
   have hev2:Z3x [(x3),(x4 - 1),(x0),(x1),ee,ef,(x2)]:=Z8n (by omega) (by omega) (by omega) (by omega) e4 e5 (by omega)
   clear hev
   generalize [(x3),(x4 - 1),(x0),(x1),ee,ef,(x2)]=ev at *
   refine W ?_
   refine Z1 (Z0 (vs:=[]) rfl (Zfj)) rfl ?_
   rintro bv wd hN
   have hrow:=J8.one (xs:=([]:List Ins)) hN rfl rfl (by simp [maxLen])
   clear hN
   have hcs2:SlV (ob bv) wd xv (Z1h y):=hc0.ext hrow.2 (by simp) (fun b hb=>.inr (hrow.ob_le b hb).1)
   refine W ?_
   refine Z1 (Jp rfl (by decide) rfl rfl hrow hcs2 (by simp only [Xd];omega) (by simp only [Xd,maxLen];omega)) rfl ?_
   clear hrow hcs2
   rintro cv2 we ⟨hrow,-,-⟩
   rw [XL] at hrow
   have hT:=hrow.2
   have hob:=hrow.ob_le
   have lt4:=k4.lt
   have lt5:=k5.lt
   have lt8:=k8.lt
   have gA:=hA.size
   have hsl:=hrow.slv (X:=[b4]) (by simpa using lt4)
   replace hc0:SlV (b4 :: ob cv2) we xv (Z1h y):=hc0.ext hT (by simp) (fun b hb=>by
    rcases Xe.1 hb with h|h
    exact .inl (by simp [h])
    exact .inr (hob b h).1)
   have n4c:b4∉ob cv2:=fun h=>by have:=(hob _ h).1;omega
   have n5c:b5∉ob cv2:=fun h=>by have:=(hob _ h).1;omega
   have goc:∀ b∈ob cv2,w2.heap.size≤b:=fun b hb=>by have:=(hob _ hb).1;omega
   replace hrow:=hrow.1
   replace k4:=k4.up hT
   replace k5:=k5.up hT
   replace k8:=k8.up hT
   replace hA:=hA.trans hT
   clear hT hob k9
   have hmaxl:=hsl.max
   repeat'(first|refine W1 ?_|omega|refine VG ?_ ?_<;>intro hg|refine VC ?_ ?_<;>intro hc)
   refine ZDr 8 [] [7] [(0,0),(1,0),(2,0),(3,0),(5,1),(4,2),(6,0),(7,2)] (fun w1 hS1=>?_)
   have hT:=hS1
   replace k4:=k4.up hT
   replace k5:=k5.up hT
   replace k8:=k8.up hT
   replace hc0:=hc0.up hT
   replace hsl:=hsl.up hT
   replace hrow:=hrow.up hT
   replace hA:=hA.trans hT
   clear hT hS1
   refine D ?_
   refine Za rfl trivial (Z4 rfl (Zb rfl rfl) (ZR az ((Z1h y).length:Int) _ (by omega) haz)) (fun _ _ h=>h.2) rfl ?_
   rintro _ wk ⟨rfl,hT⟩
   have hrq:=Jj (if az<0 then -(az+1) else az) ((Z1h y).length:Int) (by omega)
   generalize (if az<0 then -(az+1) else az) % ((Z1h y).length:Int)=q at hrq ⊢
   obtain ⟨kq,rfl⟩:∃ k:Nat,q=(k:Int):=⟨q.toNat,by omega⟩
   have hkq:kq<(Z1h y).length:=by omega
   replace k4:=k4.up hT
   replace k5:=k5.up hT
   replace k8:=k8.up hT
   replace hc0:=hc0.up hT
   replace hsl:=hsl.up hT
   replace hrow:=hrow.up hT
   replace hA:=hA.trans hT
   clear hT
   refine D ?_
   refine Js rfl trivial (Z3I (i:=kq) (y':=by_) rfl rfl rfl rfl hrow (by simp) hkq) rfl ?_
   clear hrow hsl
   rintro _ wl ⟨hrow,hT⟩
   replace k4:=k4.ext hT n4c
   replace k5:=k5.ext hT n5c
   replace hc0:=hc0.ext (X':=[]) hT (fun b hb=>by simp [hb]) (by simp)
   replace hA:=hA.own hT (fun b hb=>.inr (goc b hb))
   clear hT k8
   have hs2:=hrow.slv (X:=[]) (by simp)
   generalize (Z1h y).set kq by_=L2 at *
   generalize Z1h y=L1 at *
   clear hrow n4c n5c goc
   have hS3:=hS.trans hA
   have hs3:=hraw.up hS3
   replace hcal:=hcal.up hA
   clear hS hA hraw he hver
   obtain ⟨p1,c1,e1,-⟩:=id hc0
   obtain ⟨p2,c2,e2,-⟩:=id hs2
   obtain ⟨p3,c3,e3,-⟩:=id hs3
   subst e1 e2 e3
   refine D ?_
   refine W ?_
   refine Z1 (Z0 (vs:=[(0,.slice p1 L1.length c1),(1,.slice p2 L2.length c2),(2,.slice p3 raw.length c3)]) rfl (Zfk _ _ _ _ _ _ _ _ _)) rfl ?_
   rintro av wz hN
   have hav:SlV [] wz av [Sl.mk L1,Sl.mk L2,Sl.mk raw]:=hN.slvS (vs:=[.slice p1 L1.length c1,.slice p2 L2.length c2,.slice p3 raw.length c3]) (by simp) rfl rfl (fun i hi hi'=>by
    have hi3:i=0∨i=1∨i=2:=by simp at hi;omega
    rcases hi3 with rfl|rfl|rfl
    exact hc0
    exact hs2
    exact hs3) (by simp [maxLen])
   have hT:=Z5.stp hN
   replace k4:=k4.up hT
   replace k5:=k5.up hT
   replace hcal:=hcal.up hT
   replace hS3:=hS3.trans hT
   clear hT hN hc0 hs2 hs3
   have hl3:([Sl.mk L1,Sl.mk L2,Sl.mk raw]:List (Sl Ins)).length=3:=rfl
   generalize ([Sl.mk L1,Sl.mk L2,Sl.mk raw]:List (Sl Ins))=all at *
   refine W ?_
   have hav0:=hav
   have k40:=k4
   have k50:=k5
   have hcal0:=hcal
   refine Zr (σ:=Nat) (fun i=>[(12,.pointer (some ⟨b4,0,none⟩)),(13,.pointer (some ⟨b5,0,none⟩)),(14,.int .i64 kn),(18,av),(19,.int .i64 (i:Int))]) (fun i w'=>i≤3∧Stp [] wz w') (fun i=>3 - i) 0 ⟨rfl,rfl,rfl,rfl,rfl,trivial⟩ ⟨Xo _,Stp.refl _ _⟩ ?_
   clear hav k4 k5 hcal
   rintro i wi ⟨hi,hB⟩
   have hav:=hav0.up hB
   have k4:=k40.up hB
   have k5:=k50.up hB
   have hcal:=hcal0.up hB
   by_cases hlt:i<3
   have hli:i<all.length:=by omega
   have hlt2:(i:Int)<3:=by omega
   obtain ⟨u,hu,hsu⟩:=hav.sub hli
   focus repeat'(first|refine W1 ?_|omega|refine VG ?_ ?_<;>intro hg|refine VC ?_ ?_<;>intro hc)
   refine Zd (Z0L rfl rfl hu) rfl ?_
   refine W ?_
   refine CL rfl (Zm rfl) rfl (Z97 u all[i].l _ hsu) ?_
   rintro _ wv ⟨rfl,hT⟩
   replace hu:=Z04 hav hli hT hu
   replace hav:=hav.up hT
   replace k4:=k4.up hT
   replace k5:=k5.up hT
   replace hcal:=hcal.up hT
   replace hsu:=hsu.up hT
   replace hB:=hB.trans hT
   clear hT
   by_cases hv:(Z2u all[i].l).2=0
   · have hvr:Z2u all[i].l=((Z2u all[i].l).1,0):=Prod.ext rfl hv
     rw [hv]
     repeat'(first|refine W1 ?_|omega|refine VG ?_ ?_<;>intro hg|refine VC ?_ ?_<;>intro hc)
     all_goals try (exact absurd rfl (by assumption))
     refine ZDr 15 [] [] [(0,0),(1,0),(2,0),(3,1),(4,1),(5,1),(6,0),(7,2),(8,0),(9,0),(10,0),(11,0),(12,0),(13,0),(14,0)] (fun w1 hS1=>?_)
     have hT:=hS1
     clear hS1
     replace hu:=Z04 hav hli hT hu
     replace hav:=hav.up hT
     replace k4:=k4.up hT
     replace k5:=k5.up hT
     replace hcal:=hcal.up hT
     replace hsu:=hsu.up hT
     replace hB:=hB.trans hT
     clear hT
     refine D ?_
     refine ZZ rfl trivial (fun w' hS'=>Z0L rfl rfl (Z04 hav hli hS' hu)) rfl ?_
     refine D ?_
     refine Za rfl trivial (Z4 rfl (Z1e rfl rfl rfl rfl) (ZcX u all[i].l _ kn ev c hv_ cv zo zs hr _ hsu hvr hcal hev2 ho)) (fun _ _ h=>h.choose_spec.2.2) rfl ?_
     rintro _ wr ⟨pv,rfl,hp⟩
     have hsp:=hp.slv (X:=[]) (by simp)
     have hT:=hp.2
     clear hp
     replace hu:=Z04 hav hli hT hu
     replace hav:=hav.up hT
     replace k4:=k4.up hT
     replace k5:=k5.up hT
     replace hcal:=hcal.up hT
     replace hsu:=hsu.up hT
     replace hB:=hB.trans hT
     clear hT
     refine D ?_
     refine W ?_
     refine ZDr 12 [] [] [(0,0),(1,0),(2,0),(3,1),(4,1),(5,1),(6,0),(7,0),(8,0),(9,0),(10,2),(11,0)] (fun w1 hS1=>?_)
     have hT:=hS1
     clear hS1
     replace hsp:=hsp.up hT
     replace hu:=Z04 hav hli hT hu
     replace hav:=hav.up hT
     replace k4:=k4.up hT
     replace k5:=k5.up hT
     replace hcal:=hcal.up hT
     replace hsu:=hsu.up hT
     replace hB:=hB.trans hT
     clear hT
     refine D ?_
     refine ZZ rfl trivial (fun w' hS'=>Z0L rfl rfl (Z04 hav hli hS' hu)) rfl ?_
     refine D ?_
     refine Za rfl trivial (Z4 rfl (ZqT rfl rfl rfl rfl rfl rfl rfl) (Zfb u pv all[i].l _ kn _ _ _ ev c hv_ cv zo zs hr _ hsu hvr hcal hev2 ho hsp rfl)) (fun _ _ h=>h.2) rfl ?_
     rintro _ ws ⟨rfl,hT⟩
     replace hu:=Z04 hav hli hT hu
     replace hav:=hav.up hT
     replace k4:=k4.up hT
     replace k5:=k5.up hT
     replace hcal:=hcal.up hT
     replace hsu:=hsu.up hT
     replace hB:=hB.trans hT
     clear hT
     refine D ?_
     repeat'(first|refine W1 ?_|omega|refine VG ?_ ?_<;>intro hg|refine VC ?_ ?_<;>intro hc)
     all_goals try (exact absurd rfl (by assumption))
     exact Zg (i+1) ⟨rfl,rfl,rfl,rfl,rfl,trivial⟩ ⟨hlt,hB⟩ (by omega)
   · repeat'(first|refine W1 ?_|omega|refine VG ?_ ?_<;>intro hg|refine VC ?_ ?_<;>intro hc)
     all_goals try (exact absurd (by assumption) hv)
     exact Zg (i+1) ⟨rfl,rfl,rfl,rfl,rfl,trivial⟩ ⟨hlt,hB⟩ (by omega)
   have hi3:i=3:=by omega
   subst hi3
   have hS:=hS3.trans hB
   focus repeat'(first|refine W1 ?_|omega|refine VG ?_ ?_<;>intro hg|refine VC ?_ ?_<;>intro hc)
   refine CL rfl Z7u rfl (Z5s er m _ (hL.up hS) (hM.up hS) (hS.cell (by simp) hm) (hS.cell (by simp) hv4) hev4) ?_
   rintro _ wl ⟨rfl,hT⟩
   replace hS:=hS.trans hT
   clear hT
   refine W ?_
   refine WR ?_
   exact .mk ⟨rfl,hS⟩
 · repeat'(first|refine W1 ?_|omega|refine VG ?_ ?_<;>intro hg|refine VC ?_ ?_<;>intro hc)
   all_goals try (exact absurd rfl (by assumption))
   replace hS:=hS.trans hA
   refine CL rfl Z7u rfl (Z5s er m _ (hL.up hS) (hM.up hS) (hS.cell (by simp) hm) (hS.cell (by simp) hv4) hev4) ?_
   rintro _ wl ⟨rfl,hT⟩
   replace hS:=hS.trans hT
   clear hT
   refine W ?_
   refine WR ?_
   exact .mk ⟨rfl,hS⟩
end Go.Proofs.YtjdjdoefppebkaaGreatDoor
namespace Go.Eng
open Go Go.RowKit Go.Proofs
def Z9T (P:Program) (w:World) (n:String) (d:DataW Unit):Prop:=∃ g t cs fuel p,P.globalNamed n=some g∧(P.globals[g]?).map (·.type)=some t∧w.var? P n=some cs∧DataW.trod (fun _=>()) P w 0 (fun _=>true) false fuel t cs.toList=some (d,p)
theorem Z4C {P:Program} {w:World}:∀ (l:List (String×DataW Unit)) (ps:List MemPlace),DataW.LaidVars P w l ps→∀ (n:String) (d:DataW Unit),(n,d)∈l→Z9T P w n d
 | [],_,_,n,d,h=>by simp at h
 | (n0, d0) :: r, ps, hl, n, d, h => by
   obtain ⟨g,t,cs,fuel,p,q,h1,h2,h3,h4,h5,_⟩:=hl
   rcases Xe.1 h with h|h
   cases h
   exact ⟨g,t,cs,fuel,p,h1,h2,h3,h4⟩
   exact Z4C r q h5 n d h
theorem ZcY {P:Program} {w:World} {name:String} {g t e n:Nat} {k:IntKind} {zs:List Int} (h:Z9T P w name (Lib.tabData k zs)) (hg:P.globalNamed name=some g) (hty:(P.globals[g]?).map (·.type)=some t) (ht:P.underlying t=some (.array n e)) (he:P.underlying e=some (.int k)) (hce:P.cellsOf e=1) (hct:P.cellsOf t=n):Lib.TabIs P w name k zs:=by
 obtain ⟨g',t',cs,fuel,p,hg',ht',hvar,hd⟩:=h
 obtain rfl:=XP (hg.symm.trans hg')
 obtain rfl:=XP (hty.symm.trans ht')
 unfold Lib.TabIs
 rw [hvar,← Lib.cells_of_tab ht he hce hct hd]
theorem Z9U {P:Program} {W:World} {name:String} {g t:Nat} {ms:Array (String×TypeId)} {d:DataW Unit} (hg:P.globalNamed name=some g) (ht:(P.globals[g]?).map (·.type)=some t) (hu:P.underlying t=some (.interface ms)) (h:Z9T P W name d) :
 ∃ er,W.cell? ⟨g,0,none⟩=some er∧(er=.nilIface∨∃ te pe,er=.iface te pe):=by
 obtain ⟨g0,t0,cs0,f0,p0,hg0,ht0,hv0,hd0⟩:=h
 obtain rfl:=XP (hg.symm.trans hg0)
 obtain rfl:=XP (ht.symm.trans ht0)
 have hv:=World.var?_cell hg0 hv0 0
 rw [hv]
 rw [← Array.getElem?_toList]
 generalize cs0.toList=cs at *
 cases f0 with
 | zero=>simp [DataW.trod] at hd0
 | succ f=>
   unfold DataW.trod at hd0
   rw [hu] at hd0
   match cs,hd0 with
   | [],hd0=>simp at hd0
   | a :: b :: r,hd0=>simp at hd0
   | [x], hd0=>
     refine ⟨x,rfl,?_⟩
     cases x with
     | nilIface=>exact .inl rfl
     | iface u v=>exact .inr ⟨u,v,rfl⟩
     | _=>simp at hd0
end Go.Eng
namespace Go.Proofs.YtjdjdoefppebkaaGreatDoor
open Go Go.Eng Go.RowKit Go.Proofs
open Go Go.Eng Go.RowKit Go.Proofs Go.ChangeShapes Go.WideShapes Go.Deep
theorem ZcZ {W:World} (h:Z9T Tryz.prog W "rollbook/holiday.moves" Rows.laid_rollbook_holiday_moves):Z2C W:=by
 obtain ⟨g0,t0,cs0,f0,p0,hg0,ht0,hv0,hd0⟩:=h
 have hg:Tryz.prog.globalNamed "rollbook/holiday.moves" = some 3:=by kernel_rfl
 have ht:(Tryz.prog.globals[3]?).map (·.type)=some 345:=by kernel_rfl
 obtain rfl:=XP (hg.symm.trans hg0)
 obtain rfl:=XP (ht.symm.trans ht0)
 obtain ⟨xs,m1,rfl,hx1,hlen,hn3,hel⟩:=DataW.trod_array Tryz.underlying345 hd0
 have hc7:Tryz.prog.cellsOf 83=7:=by kernel_rfl
 have e3:(Rows.laid_rollbook_holiday_moves:DataW Unit)=.agg (xs.map (·.1)):=congrArg Prod.fst hx1
 have e4:(.agg [Lib.tabData .i64 [0,0,0,0,0,0,0],Lib.tabData .i64 [0,0,0,0,0,2,1],Lib.tabData .i64 [0,0,0,0,0,-1,1]]:DataW Unit)=.agg (xs.map (·.1)):=e3
 simp only [DataW.agg.injEq] at e4
 have row:∀ (k:Nat) (zs:List Int),k<3→[Lib.tabData .i64 [0,0,0,0,0,0,0],Lib.tabData .i64 [0,0,0,0,0,2,1],(Lib.tabData .i64 [0,0,0,0,0,-1,1]:DataW Unit)][k]?=some (Lib.tabData .i64 zs)→(cs0.toList.drop (k * 7)).take 7=zs.map fun z=>Value.int .i64 z:=by
  intro k zs hk hz
  have h1:=hel k hk
  rw [hc7] at h1
  rw [e4,Ya2] at hz
  cases hx:xs[k]? with
  | none=>rw [hx] at hz;cases hz
  | some y=>
    rw [hx] at hz h1
    have hy:y=(Lib.tabData .i64 zs,y.2):=Prod.ext (XP hz) rfl
    rw [hy] at h1
    exact Lib.cells_of_tab (t:=83) (e:=3) (n:=7) Tryz.underlying83 Tryz.underlying3 (by kernel_rfl) hc7 h1
 have r0:=row 0 _ (by omega) rfl
 have r1:=row 1 _ (by omega) rfl
 have r2:=row 2 _ (by omega) rfl
 have hcell:∀ (k:Nat) (zs:List Int) (j:Nat),(cs0.toList.drop (k * 7)).take 7=(zs.map fun z=>Value.int .i64 z)→j<7→j<zs.length→cs0.toList[k * 7+j]?=some (.int .i64 (zs.getD j 0)):=by
  intro k zs j hr hj hjl
  have h6:=congrArg (fun l=>l[j]?) hr
  simp only [X7,List.getElem?_drop,Ya2,if_pos hj] at h6
  rw [h6]
  simp [List.getD,hjl]
 intro i u hu
 have hi:=(XF.1 hu).1
 have hi21:i<21:=hi
 have hv:=World.var?_cell hg hv0 i
 rw [hv,← Array.getElem?_toList]
 by_cases h7:i<7
 have h2:=hcell 0 _ i r0 h7 (by simpa using h7)
 rw [show 0 * 7+i=i by omega] at h2
 rw [h2]
 have hk:i=0∨i=1∨i=2∨i=3∨i=4∨i=5∨i=6:=by omega
 rcases hk with rfl|rfl|rfl|rfl|rfl|rfl|rfl<;>(simp [Z53] at hu;subst hu;rfl)
 by_cases h14:i<14
 have h2:=hcell 1 _ (i - 7) r1 (by omega) (by simp;omega)
 rw [show 1 * 7+(i - 7)=i by omega] at h2
 rw [h2]
 have hk:i=7∨i=8∨i=9∨i=10∨i=11∨i=12∨i=13:=by omega
 rcases hk with rfl|rfl|rfl|rfl|rfl|rfl|rfl<;>(simp [Z53] at hu;subst hu;rfl)
 have h2:=hcell 2 _ (i - 14) r2 (by omega) (by simp;omega)
 rw [show 2 * 7+(i - 14)=i by omega] at h2
 rw [h2]
 have hk:i=14∨i=15∨i=16∨i=17∨i=18∨i=19∨i=20:=by omega
 rcases hk with rfl|rfl|rfl|rfl|rfl|rfl|rfl<;>(simp [Z53] at hu;subst hu;rfl)
abbrev Z8x:List (String×DataW Unit):=[("math/bits.deBruijn32tab",Rows.laid_math_bits_deBruijn32tab),("math/bits.deBruijn64tab",Rows.laid_math_bits_deBruijn64tab),("internal/strconv.uint64pow10",Rows.laid_internal_strconv_uint64pow10),("strconv.ErrRange",Rows.laid_strconv_ErrRange),("strconv.ErrSyntax",Rows.laid_strconv_ErrSyntax),("rollbook/date.lengths",Rows.laid_rollbook_date_lengths),("rollbook/holiday.moves",Rows.laid_rollbook_holiday_moves)]
theorem Z9V {W:World} (h1:Z9T Tryz.prog W "rollbook/date.lengths" Rows.laid_rollbook_date_lengths):Z0q W:=by
 have h2:=ZcY (k:=.i64) (zs:=Z4l) (g:=1) (t:=322) (e:=3) (n:=13) h1 (by kernel_rfl) (by kernel_rfl) Tryz.underlying322 Tryz.underlying3 (by kernel_rfl) (by kernel_rfl)
 intro i u hu
 have hi:=(XF.1 hu).1
 rw [Lib.TabIs.cell h2 (g:=1) (by kernel_rfl) i hi]
 simp [List.getD,hu]
structure Zhs (W:World):Prop where
 len:Z0q W
 mov:Z2C W
 err:∃ er,W.cell? ⟨5,0,none⟩=some er∧(er=.nilIface∨∃ te pe,er=.iface te pe)
theorem Zfl {W:World} {l:List (String×DataW Unit)} {ps:List MemPlace} (h:DataW.LaidVars Tryz.prog W l ps) (h1:("rollbook/date.lengths",Rows.laid_rollbook_date_lengths)∈l) (h2:("rollbook/holiday.moves",Rows.laid_rollbook_holiday_moves)∈l) (h3:("strconv.ErrRange",Rows.laid_strconv_ErrRange)∈l):Zhs W:=
 ⟨Z9V (Z4C _ _ h _ _ h1),ZcZ (Z4C _ _ h _ _ h2),Z9U (g:=5) (t:=303) (by kernel_rfl) (by kernel_rfl) Tryz.underlying303 (Z4C _ _ h _ _ h3)⟩
theorem Zht {W:World} (h:laidMetH Tryz.prog Z8x W):Zhs W:=by
 rw [MakeChecks.laidMetH_plain _ _ _ (by kernel_rfl)] at h
 obtain ⟨ps,h,_⟩:=h
 exact Zfl h (by simp [Z8x]) (by simp [Z8x]) (by simp [Z8x])
section
variable {H:Type} {enc:TypeId×Value→H} {w:World} {base:Nat} {spare:Nat→Bool} {held:Bool}
theorem ZoA:Tryz.prog.cellsOf 22=1:=by kernel_rfl
theorem ZoB:Tryz.prog.cellsOf 24=5:=by kernel_rfl
set_option maxRecDepth 100000 in
theorem Zln {r:Reach} {b0:Nat} {v:Value} {d:DataW H} {p:List MemPlace} (hv:Value.okWide Tryz.prog w r b0 24 v) (h:DataW.Trod enc Tryz.prog w base spare held 24 v d p) :
 ∃ (v0 v1 v2:Value) (kd kz:Int) (l0 l1 l2:List Int),v=Zf2 v0 v1 v2 kd kz∧SlV [] w v0 l0∧SlV [] w v1 l1∧SlV [] w v2 l2∧(∀ x∈l0,I64 x)∧(∀ x∈l1,I64 x)∧(∀ x∈l2,I64 x)∧I64 kd∧I64 kz:=by
 obtain ⟨cs,rfl,hsz⟩:=okWide_struct Tryz.underlying24 hv
 obtain ⟨fuel,h⟩:=h
 obtain ⟨xs,n,rfl,hx,hlen,hxl,hf⟩:=DataW.trod_struct Tryz.underlying24 h
 rw [ZoB] at hlen
 have h0:DataW.trod enc Tryz.prog w base spare held n 22 (((Value.agg cs).cells.toList.drop 0).take (Tryz.prog.cellsOf 22))=xs[0]?:=hf 0 _ rfl
 have h1:DataW.trod enc Tryz.prog w base spare held n 22 (((Value.agg cs).cells.toList.drop 1).take (Tryz.prog.cellsOf 22))=xs[1]?:=hf 1 _ rfl
 have h2:DataW.trod enc Tryz.prog w base spare held n 22 (((Value.agg cs).cells.toList.drop 2).take (Tryz.prog.cellsOf 22))=xs[2]?:=hf 2 _ rfl
 have h3:DataW.trod enc Tryz.prog w base spare held n 3 (((Value.agg cs).cells.toList.drop 3).take (Tryz.prog.cellsOf 3))=xs[3]?:=hf 3 _ rfl
 have h4:DataW.trod enc Tryz.prog w base spare held n 3 (((Value.agg cs).cells.toList.drop 4).take (Tryz.prog.cellsOf 3))=xs[4]?:=hf 4 _ rfl
 rw [k3] at h3 h4
 rw [ZoA] at h0 h1 h2
 have hcs:(Value.agg cs).cells.toList=cs.toList:=rfl
 rw [hcs] at h0 h1 h2 h3 h4 hlen
 rw [← Array.toArray_toList (xs:=cs)]
 generalize cs.toList=cl at *
 match cl,hlen,xs,hxl with
 | [c0, c1, c2, c3, c4], _, [y0, y1, y2, y3, y4], _=>
   simp only [List.drop,List.take] at h0 h1 h2 h3 h4
   obtain ⟨a,e3,-,ha⟩:=DataW.trod_int Tryz.underlying3 h3
   obtain ⟨b,e4,-,hb⟩:=DataW.trod_int Tryz.underlying3 h4
   obtain ⟨u0,l0,e0,hs0,hok0,-⟩:=Z5Q Tryz.underlying22 (by kernel_rfl) Tryz.underlying3 h0
   obtain ⟨u1,l1,e1,hs1,hok1,-⟩:=Z5Q Tryz.underlying22 (by kernel_rfl) Tryz.underlying3 h1
   obtain ⟨u2,l2,e2,hs2,hok2,-⟩:=Z5Q Tryz.underlying22 (by kernel_rfl) Tryz.underlying3 h2
   obtain rfl:=(YaU e0).1
   obtain rfl:=(YaU e1).1
   obtain rfl:=(YaU e2).1
   obtain rfl:=(YaU e3).1
   obtain rfl:=(YaU e4).1
   exact ⟨c0,c1,c2,a,b,l0,l1,l2,rfl,hs0,hs1,hs2,hok0,hok1,hok2,by simpa [I64,Lit.wf,IntKind.min,IntKind.max,IntKind.signed,IntKind.bits] using ha,by simpa [I64,Lit.wf,IntKind.min,IntKind.max,IntKind.signed,IntKind.bits] using hb⟩
theorem Z8y {P:Program} {t e:TypeId} {n b0:Nat} {r:Reach} {v:Value} (ht:P.underlying t=some (.array n e)) (h:Value.okWide P w r b0 t v):∃ cs,v=.agg cs∧cs.size=P.cellsOf t:=by
 simp only [Value.okWide,ht] at h
 obtain ⟨cs,h1,h2,_⟩:=h
 exact ⟨cs,h1,h2⟩
theorem ZoC {P:Program} {t e:TypeId} {n b0:Nat} {r:Reach} {v:Value} {d:DataW H} {p:List MemPlace} (ht:P.underlying t=some (.array n e)) (he:P.underlying e=some (.int .i64)) (hce:P.cellsOf e=1) (hct:P.cellsOf t=n) (hv:Value.okWide P w r b0 t v) (h:DataW.Trod enc P w base spare held t v d p) :
 ∃ zs:List Int,zs.length=n∧v=.agg (zs.map fun z=>Value.int .i64 z).toArray∧∀ z∈zs,I64 z:=by
 obtain ⟨cs,rfl,hsz⟩:=Z8y ht hv
 obtain ⟨fuel,h⟩:=h
 obtain ⟨xs,m,rfl,hx,hlen,hxl,hel⟩:=DataW.trod_array ht h
 have hcs:(Value.agg cs).cells.toList=cs.toList:=rfl
 rw [hcs] at hel hlen
 rw [hct] at hsz
 have hall:∀ i:Fin n,∃ z:Int,cs.toList[i.val]?=some (.int .i64 z)∧I64 z:=by
  intro i
  have h1:=hel i.val i.2
  rw [hce,Nat.mul_one] at h1
  have hi:i.val<xs.length:=by rw [hxl];exact i.2
  rw [XA hi] at h1
  obtain ⟨z,e1,_,hz⟩:=DataW.trod_int he h1
  refine ⟨z,?_,by simpa [I64,Lit.wf,IntKind.min,IntKind.max,IntKind.signed,IntKind.bits] using hz⟩
  have h2:=congrArg (fun l=>l[0]?) e1
  simpa [X7,List.getElem?_drop] using h2
 obtain ⟨f,hf⟩:=Classical.axiomOfChoice hall
 refine ⟨List.ofFn f,by simp,?_,?_⟩
 have:cs.toList=(List.ofFn f).map fun z=>Value.int .i64 z:=by
  apply List.ext_getElem?
  intro i
  by_cases hi:i<n
  have:=(hf ⟨i,hi⟩).1
  rw [this]
  simp [hi]
  rw [YaQ (by simpa [hsz] using hi),YaQ (by simpa using hi)]
 rw [← this]
 intro z hz
 obtain ⟨i,rfl⟩:=(List.mem_ofFn).1 hz
 exact (hf i).2
set_option maxRecDepth 100000 in
theorem ZoD {r:Reach} {b0:Nat} {v:Value} {d:DataW H} {p:List MemPlace} (hv:Value.okWide Tryz.prog w r b0 51 v) (h:DataW.Trod enc Tryz.prog w base spare held 51 v d p):∃ x:Ins,v=agg x:=by
 obtain ⟨cs,rfl,hsz⟩:=okWide_struct Tryz.underlying51 hv
 obtain ⟨fuel,h⟩:=h
 have hl:cs.toList.length=2:=by
  have hc:Tryz.prog.cellsOf 51=2:=by kernel_rfl
  rw [hc] at hsz
  simpa using hsz
 obtain ⟨zs,h1,h2,-⟩:=Z2S (k:=2) (by kernel_rfl) hl h
 match zs,h1 with
 | [a, b], _=>
   refine ⟨⟨a,b⟩,?_⟩
   have hcs:cs.toList=[.int .i64 a,.int .i64 b]:=h2
   rw [← Array.toArray_toList (xs:=cs),hcs]
   rfl
end
section
variable {P:Program} {H:Type} {enc:TypeId×Value→H} {w:World} {base:Nat} {spare:Nat→Bool} {held:Bool}
theorem Zhd {t t1 t2 t3 t4:TypeId} {args:Array Value} {ds:List (DataW H)} {ps:List MemPlace} (h:DataW.TrodAll enc P w base spare held [t,t1,t2,t3,t4] args.toList ds ps) :
 ∃ v v1 v2 v3 v4 d d1 d2 d3 d4 p p1 p2 p3 p4,args=#[v,v1,v2,v3,v4]∧ds=[d,d1,d2,d3,d4]∧ps=p++p1++p2++p3++p4∧DataW.Trod enc P w base spare held t v d p∧DataW.Trod enc P w base spare held t1 v1 d1 p1∧DataW.Trod enc P w base spare held t2 v2 d2 p2∧DataW.Trod enc P w base spare held t3 v3 d3 p3∧DataW.Trod enc P w base spare held t4 v4 d4 p4:=by
 obtain ⟨v,vs,d,ds0,p,q,hargs,rfl,rfl,hd,hrest⟩:=trodAll_cons h
 obtain ⟨v1,vs1,d1,ds1,p1,q1,rfl,rfl,rfl,hd1,hrest1⟩:=trodAll_cons hrest
 obtain ⟨v2,vs2,d2,ds2,p2,q2,rfl,rfl,rfl,hd2,hrest2⟩:=trodAll_cons hrest1
 obtain ⟨v3,vs3,d3,ds3,p3,q3,rfl,rfl,rfl,hd3,hrest3⟩:=trodAll_cons hrest2
 obtain ⟨v4,vs4,d4,ds4,p4,q4,rfl,rfl,rfl,hd4,hrest4⟩:=trodAll_cons hrest3
 obtain ⟨rfl,rfl,rfl⟩:=trodAll_nil hrest4
 exact ⟨v,v1,v2,v3,v4,d,d1,d2,d3,d4,p,p1,p2,p3,p4,by cases args;simp_all,rfl,by simp,hd,hd1,hd2,hd3,hd4⟩
end
end Go.Proofs.YtjdjdoefppebkaaGreatDoor
namespace Go.Eng
open Go Go.RowKit Go.Proofs Go.ChangeShapes Go.WideShapes Go.Deep
def Z57 (P:Program) (lo n:Nat):Bool:=(List.range n).all fun i=>!((P.funcs[lo+i]?).any Func.goes)
theorem Z0E {P:Program} {lo n g:Nat} (h:Z57 P lo n=true) (h1:lo≤g) (h2:g<lo+n):(P.funcs[g]?).any Func.goes=false:=by
 have:=XH.1 h (g - lo) (List.mem_range.2 (by omega))
 rw [show lo+(g - lo)=g by omega] at this
 simpa using this
theorem Zp7 {P:Program} (h:∀ g:Nat,(P.funcs[g]?).any Func.goes=false) {c:OpenClaim} (hs:c.start=.entering):false=c.goesBy P:=by
 symm
 have hall:P.funcs.any Func.goes=false:=by
  rw [Array.any_eq_false]
  intro i hi hg
  have:=h i
  rw [Yaj hi] at this
  simp only [Option.any_some] at this
  rw [this] at hg
  cases hg
 have hgo:∀ f,P.goes f=false:=by
  intro f
  unfold Program.goes
  rw [hall,Bool.and_false,Bool.or_false]
  rw [Ya1]
  intro hc
  have hc2:=hc
  simp [h] at hc2
 unfold OpenClaim.goesBy Program.goesAt Program.goesFrom
 rw [hs]
 cases hf:P.funcNamed c.func with
 | none=>rfl
 | some f=>simp [hgo]
theorem Zhe {P:Program} {f:FuncId} {fn:Func} {s:ChangeSpec} {c:OpenClaim} (a1:c.wf (OpenSpec.ofChange s)=true) (a2:laidOutB P=true) (a3:mapsRowed P=true) (a4:fn.params.all (P.readableRec ·)=true) (a5:namedTie P c.named s.vars=true)
 (a6:((c.stops == []) && (P.stops == []) && (c.knobs == []) && (P.stopKnobs == []))=true)
 (h2:(c.inPlace == P.inPlace f)=true) (h3:(c.unfollowed == P.unfollowed f)=true) (h4:(c.recurses == P.recurses f)=true) (h5:(c.named == P.varsNamed f)=true)
 (h6 : ((c.maps == (fn.params.toList ++ s.plain.varTypes P).any (P.mapsRec ·)) && (c.ifaces == (fn.params.toList ++ s.plain.varTypes P).any (P.ifacesRec ·)) && (c.mapsOut == P.mapsAmong fn.resultTypes.toList) &&
   (c.loops == (fn.params.toList++s.plain.varTypes P).any (P.loopsFrom ·)) && (c.wideKeys == (fn.params.toList++s.plain.varTypes P++fn.resultTypes.toList).any (P.wideKeysFrom ·)) &&
   s.vars.all (P.varReadable ·) && fn.resultTypes.all (fun t=>P.readableRec t && decide (t<P.types.size)) && (c.ifacesOut == fn.resultTypes.toList.any (P.ifacesRec ·)) && (c.loopsOut == fn.resultTypes.toList.any (P.loopsFrom ·)) && (c.plainKeys == P.plainKeys) && c.shortTexts.isNone && P.stopsHeard && P.mayEnter && (c.lifted == P.liftsFinal) && (P.make == some c.make) && (c.kinds == (if c.domain.isEmpty then [] else fn.params.toList.map fun t=>match P.underlying t with|some (.int k)=>some k|_=>none)) && (c.pinned == c.pinnedBy) &&
   (c.veiled == (fn.params.toList++s.plain.varTypes P++fn.resultTypes.toList).any (P.veiledRec ·)) && c.veiledFits P fn.params.toList (fn.params.toList++s.plain.varTypes P++fn.resultTypes.toList))=true) :
 joinedFacts P f fn s c=true:=by
 simp only [Xi] at a6 h6
 unfold joinedFacts
 simp only [Xi]
 exact ⟨⟨⟨⟨⟨⟨⟨⟨⟨⟨⟨⟨⟨⟨⟨⟨⟨⟨⟨⟨⟨⟨⟨⟨⟨⟨⟨⟨⟨⟨⟨a1,a2⟩,a3⟩,a4⟩,a5⟩,a6.1.1.1⟩,a6.1.1.2⟩,a6.1.2⟩,a6.2⟩,h2⟩,h3⟩,h4⟩,h5⟩,h6.1.1.1.1.1.1.1.1.1.1.1.1.1.1.1.1.1.1⟩,h6.1.1.1.1.1.1.1.1.1.1.1.1.1.1.1.1.1.2⟩,h6.1.1.1.1.1.1.1.1.1.1.1.1.1.1.1.1.2⟩,h6.1.1.1.1.1.1.1.1.1.1.1.1.1.1.1.2⟩,h6.1.1.1.1.1.1.1.1.1.1.1.1.1.1.2⟩,h6.1.1.1.1.1.1.1.1.1.1.1.1.1.2⟩,h6.1.1.1.1.1.1.1.1.1.1.1.1.2⟩,h6.1.1.1.1.1.1.1.1.1.1.1.2⟩,h6.1.1.1.1.1.1.1.1.1.1.2⟩,h6.1.1.1.1.1.1.1.1.1.2⟩,h6.1.1.1.1.1.1.1.1.2⟩,h6.1.1.1.1.1.1.1.2⟩,h6.1.1.1.1.1.1.2⟩,h6.1.1.1.1.1.2⟩,h6.1.1.1.1.2⟩,h6.1.1.1.2⟩,h6.1.1.2⟩,h6.1.2⟩,h6.2⟩
end Go.Eng
namespace Go.Proofs.YtjdjdoefppebkaaGreatDoor
open Go Go.Eng Go.RowKit Go.Proofs Go.ChangeShapes Go.WideShapes Go.Deep
theorem ZoE:mapsRowed Tryz.prog=true:=by kernel_rfl
theorem Zfm:Tryz.prog.funcs.size=404:=by kernel_rfl
theorem Zd0:Z57 Tryz.prog 0 34=true:=by kernel_rfl
theorem Zd1:Z57 Tryz.prog 34 34=true:=by kernel_rfl
theorem Zd2:Z57 Tryz.prog 68 34=true:=by kernel_rfl
theorem Zd3:Z57 Tryz.prog 102 34=true:=by kernel_rfl
theorem Zd4:Z57 Tryz.prog 136 34=true:=by kernel_rfl
theorem Zd5:Z57 Tryz.prog 170 34=true:=by kernel_rfl
theorem Zd6:Z57 Tryz.prog 204 34=true:=by kernel_rfl
theorem Zd7:Z57 Tryz.prog 238 34=true:=by kernel_rfl
theorem Zd8:Z57 Tryz.prog 272 34=true:=by kernel_rfl
theorem Zd9:Z57 Tryz.prog 306 34=true:=by kernel_rfl
theorem ZaW:Z57 Tryz.prog 340 34=true:=by kernel_rfl
theorem ZaX:Z57 Tryz.prog 374 34=true:=by kernel_rfl
theorem ZoF:∀ g:Nat,(Tryz.prog.funcs[g]?).any Func.goes=false:=fun g=>by
 by_cases h:g<404
 by_cases h0:g<34
 exact Z0E Zd0 (by omega) (by omega)
 by_cases h1:g<68
 exact Z0E Zd1 (by omega) (by omega)
 by_cases h2:g<102
 exact Z0E Zd2 (by omega) (by omega)
 by_cases h3:g<136
 exact Z0E Zd3 (by omega) (by omega)
 by_cases h4:g<170
 exact Z0E Zd4 (by omega) (by omega)
 by_cases h5:g<204
 exact Z0E Zd5 (by omega) (by omega)
 by_cases h6:g<238
 exact Z0E Zd6 (by omega) (by omega)
 by_cases h7:g<272
 exact Z0E Zd7 (by omega) (by omega)
 by_cases h8:g<306
 exact Z0E Zd8 (by omega) (by omega)
 by_cases h9:g<340
 exact Z0E Zd9 (by omega) (by omega)
 by_cases h10:g<374
 exact Z0E ZaW (by omega) (by omega)
 exact Z0E ZaX (by omega) (by omega)
 rw [YaL (by rw [Zfm];omega)]
 rfl
end Go.Proofs.YtjdjdoefppebkaaGreatDoor
