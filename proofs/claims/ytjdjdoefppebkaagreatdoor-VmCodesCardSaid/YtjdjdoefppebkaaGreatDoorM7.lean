/-
Merged by program out of own texts: Hlr2, Clr1, Rvm1, Rvm2, Rvm3, Vla8, Arg20, Arg21, Arg18, Gos1.
-/
import Derived.Test.YtjdjdoefppebkaaGreatDoorM6
import Derived.JoinedOf
set_option linter.unusedVariables false
set_option linter.unusedSimpArgs false
namespace Go.Proofs.YtjdjdoefppebkaaGreatDoor
open Go Go.Eng Go.RowKit
theorem hwithin10_any (n a b:Int) (w:World):Calls Tryz.prog 350 #[.int .i64 n,.int .i64 a,.int .i64 b] w (Ret fun r w'=>r=.bool (decide (a≤n∧n≤b))∧w'=w):=by
 refine calls_of_WC3 (n:=15) Tryz.func350 rfl rfl rfl ?_
 by_cases h1:n≥a
 by_cases h2:n≤b
 rw [decide_eq_true ⟨h1,h2⟩]
 focus repeat' (first|refine W1 ?_|omega|(refine VG ?_ ?_<;>intro hg)|(refine VC ?_ ?_<;>intro hc))
 refine WR ?_
 exact .mk ⟨by simp [h2],rfl⟩
 rw [decide_eq_false (fun h=>h2 h.2)]
 focus repeat' (first|refine W1 ?_|omega|(refine VG ?_ ?_<;>intro hg)|(refine VC ?_ ?_<;>intro hc))
 refine WR ?_
 exact .mk ⟨by simp [h2],rfl⟩
 rw [decide_eq_false (fun h=>h1 h.1)]
 focus repeat' (first|refine W1 ?_|omega|(refine VG ?_ ?_<;>intro hg)|(refine VC ?_ ?_<;>intro hc))
 refine WR ?_
 exact .mk ⟨rfl,rfl⟩
def IsDay (o:Option Int) (r:Value):Prop:=∃ (n:Int) (b:Bool),r=.tuple #[.int .i64 n,.bool b]∧o=if b=true then some n else none
theorem Nominal_any (h:Hol) (y:Int) (w:World) (ho:HolOk h) (hy0:0≤y) (hy1:y≤10000) :
 Calls Tryz.prog 349 #[agg h,.int .i64 y] w (Ret fun r w'=>IsDay (nomM h y) r∧Stp [] w w'):=by
 have hf1:=ho.f1
 have hl1:=ho.l1
 refine calls_of_WC2 (n:=96) Tryz.func349 rfl rfl rfl ?_
 refine W ?_
 refine WL_eff (OE_box rfl) rfl ?_
 rintro _ w1 ⟨b,rfl,hb,hblk,hS⟩
 replace hblk:Blk w1 b 187 (Flat.enc h):=hblk
 by_cases hin:y<h.first∨h.last<y
 · repeat' (first|refine W1 ?_|omega|(refine VG ?_ ?_<;>intro hg)|(refine VC ?_ ?_<;>intro hc))
   all_goals refine WR ?_
   all_goals refine .mk ⟨⟨_,false,rfl,?_⟩,hS⟩
   all_goals unfold nomM
   all_goals rw [if_pos hin]
   all_goals rfl
 have hnm:=nomM_P (h:=h) (y:=y) (by omega) (by omega)
 rw [hnm]
 have hk1:=ho.k1
 have hk2:=ho.k2
 by_cases k4:h.kind=4
 have e:nomP h y=((if y<1583∨9999<y then 0 else eastM y)+h.off,!decide (y<1583∨9999<y)):=by unfold nomP;rw [if_neg (by omega),if_neg (by omega),if_neg (by omega)]
 rw [e]
 obtain ⟨o1,o2⟩:=ho.off k4
 have hr:0≤(if y<1583∨9999<y then 0 else eastM y)∧(if y<1583∨9999<y then 0 else eastM y)≤3652058:=by
  split
  omega
  have:=eastM_range (y:=y) (by omega) (by omega)
  omega
 focus repeat' (first|refine W1 ?_|omega|(refine VG ?_ ?_<;>intro hg)|(refine VC ?_ ?_<;>intro hc))
 refine CL rfl (evs1 rfl) rfl (Easter8_any y _) ?_
 rintro _ w2 ⟨rfl,hT⟩
 replace hblk:=hblk.up hT
 replace hS:=hS.trans hT
 refine W ?_
 refine WR ?_
 refine .mk ⟨⟨_,_,rfl,?_⟩,hS⟩
 by_cases hy:y<1583∨9999<y<;>simp [hy]
 by_cases k1:h.kind=1
 have e:nomP h y=(if badD y h.month h.day then 0 else dayM y h.month h.day,!decide (badD y h.month h.day)):=by unfold nomP;rw [if_pos k1]
 rw [e]
 focus repeat' (first|refine W1 ?_|omega|(refine VG ?_ ?_<;>intro hg)|(refine VC ?_ ?_<;>intro hc))
 refine WL_build (vs:=[(0,.int .i64 y),(1,.int .i64 h.month),(2,.int .i64 h.day)]) rfl (buildDt _ _ _) rfl ?_
 refine CL rfl (evs1 rfl) rfl (Day8_any y _ _ _) ?_
 rintro _ w2 ⟨rfl,hT⟩
 replace hblk:=hblk.up hT
 replace hS:=hS.trans hT
 refine W ?_
 refine WR ?_
 refine .mk ⟨⟨_,_,rfl,?_⟩,hS⟩
 by_cases hb:badD y h.month h.day<;>simp [hb]
 obtain ⟨m1,m2⟩:=ho.month (by omega)
 obtain ⟨d1,d2⟩:=ho.wd (by omega)
 obtain ⟨f1,f2,f3,f4,f5⟩:=first_day (y:=y) (m:=h.month) (by omega) (by omega) m1 m2
 obtain ⟨f6,f7⟩:=fstW_range (y:=y) (wd:=h.wd) (by omega) (by omega) m1 m2
 have hfw:fstW y h.month h.wd=dayM y h.month 1+(h.wd - dayM y h.month 1 % 7+7) % 7:=rfl
 repeat' (first|refine W1 ?_|omega|(refine VG ?_ ?_<;>intro hg)|(refine VC ?_ ?_<;>intro hc))
 refine WL_build (vs:=[(0,.int .i64 y),(1,.int .i64 h.month),(2,.int .i64 1)]) rfl (buildDt _ _ _) rfl ?_
 refine CL rfl (evs1 rfl) rfl (Day8_any y _ _ _) ?_
 rintro _ w2 ⟨rfl,hT⟩
 rw [if_neg f1,if_neg f1]
 replace hblk:=hblk.up hT
 replace hS:=hS.trans hT
 refine W ?_
 refine CL rfl (evs2 rfl rfl) rfl (Length8_any y _ _ (by omega) (by omega)) ?_
 rintro _ _ ⟨rfl,rfl⟩
 by_cases k3:h.kind=3
 have e:nomP h y=(fstW y h.month h.wd+(dayM y h.month 1+lengthM y h.month - 1 - fstW y h.month h.wd) / 7 * 7,true):=by unfold nomP;rw [if_neg (by omega),if_neg (by omega),if_pos k3]
 rw [e,if_pos rfl]
 generalize hB:dayM y h.month 1=B at *
 generalize hL:lengthM y h.month=L at *
 generalize fstW y h.month h.wd=F at *
 focus repeat' (first|refine W1 ?_|omega|(refine VG ?_ ?_<;>intro hg)|(refine VC ?_ ?_<;>intro hc))
 refine WC_loop (σ:=Nat) (fun k=>[(2,.pointer (some ⟨b,0,none⟩)),(12,.int .i64 (B+L - 1 - (k:Int)))])
  (fun k w'=>F+(B+L - 1 - F) / 7 * 7≤B+L - 1 - (k:Int)∧Stp [] w w'∧Blk w' b 187 (Flat.enc h)) (fun k=>100 - k) 0 ⟨rfl,by simp [look_cons],trivial⟩ ⟨by omega,hS,hblk⟩ ?_
 clear hblk hS
 rintro k w3 ⟨hk,hS,hblk⟩
 refine W ?_
 refine WC_drawn 5 [] [] [(0,0),(2,0),(3,1),(1,2),(4,0)] rfl mixed (by kernel_rfl) (by kernel_rfl) (by kernel_rfl) (fun w1 hS1=>?_)
 replace hblk:=hblk.up hS1
 replace hS:=hS.trans hS1
 clear hS1
 refine D ?_
 refine WD_eff rfl trivial (OE_call rfl (evs1 rfl) (Weekday8_any _ _ (by omega) (by omega))) (fun _ _ h=>by rw [h.2];exact Stp.refl _ _) rfl ?_
 rintro _ _ ⟨rfl,rfl⟩
 refine D ?_
 by_cases hq:(B+L - 1 - (k:Int)) % 7=h.wd
 focus repeat' (first|refine W1 ?_|omega|(refine VG ?_ ?_<;>intro hg)|(refine VC ?_ ?_<;>intro hc))
 refine WR ?_
 refine .mk ⟨⟨_,true,rfl,?_⟩,hS⟩
 rw [if_pos rfl]
 congr 1
 omega
 focus repeat' (first|refine W1 ?_|omega|(refine VG ?_ ?_<;>intro hg)|(refine VC ?_ ?_<;>intro hc))
 refine WQ_loop (k+1) ⟨rfl,?_,trivial⟩ ⟨?_,hS,hblk⟩ (by omega)
 simp only [look_cons]
 simp
 omega
 omega
 have e:nomP h y=(fstW y h.month h.wd+7 * (h.nth - 1),decide (fstW y h.month h.wd+7 * (h.nth - 1)<dayM y h.month 1+lengthM y h.month)):=by unfold nomP;rw [if_neg (by omega),if_pos (by omega)]
 obtain ⟨n1,n2⟩:=ho.nth (by omega)
 rw [e]
 generalize hB:dayM y h.month 1=B at *
 generalize hL:lengthM y h.month=L at *
 generalize fstW y h.month h.wd=F at *
 focus repeat' (first|refine W1 ?_|omega|(refine VG ?_ ?_<;>intro hg)|(refine VC ?_ ?_<;>intro hc))
 refine WC_loop (σ:=Nat) (fun k=>[(2,.pointer (some ⟨b,0,none⟩)),(10,.int .i64 (B+(k:Int))),(12,.int .i64 (B+L - 1))])
  (fun k w'=>B+(k:Int)≤F∧Stp [] w w'∧Blk w' b 187 (Flat.enc h)) (fun k=>100 - k) 0 ⟨rfl,by simp [look_cons],rfl,trivial⟩ ⟨by omega,hS,hblk⟩ ?_
 clear hblk hS
 rintro k w3 ⟨hk,hS,hblk⟩
 refine W ?_
 refine WC_drawn 5 [] [] [(0,0),(2,0),(3,1),(1,2),(4,0)] rfl mixed (by kernel_rfl) (by kernel_rfl) (by kernel_rfl) (fun w1 hS1=>?_)
 replace hblk:=hblk.up hS1
 replace hS:=hS.trans hS1
 clear hS1
 refine D ?_
 refine WD_eff rfl trivial (OE_call rfl (evs1 rfl) (Weekday8_any _ _ (by omega) (by omega))) (fun _ _ h=>by rw [h.2];exact Stp.refl _ _) rfl ?_
 rintro _ _ ⟨rfl,rfl⟩
 refine D ?_
 by_cases hq:(B+(k:Int)) % 7=h.wd
 obtain hFe:B+(k:Int)=F:=by omega
 rw [hFe] at hq ⊢
 focus repeat' (first|refine W1 ?_|omega|(refine VG ?_ ?_<;>intro hg)|(refine VC ?_ ?_<;>intro hc))
 refine WR ?_
 refine .mk ⟨⟨_,_,rfl,?_⟩,hS⟩
 congr 1
 rw [eq_iff_iff,decide_eq_true_eq,decide_eq_true_eq]
 omega
 focus repeat' (first|refine W1 ?_|omega|(refine VG ?_ ?_<;>intro hg)|(refine VC ?_ ?_<;>intro hc))
 refine WQ_loop (k+1) ⟨rfl,?_,rfl,trivial⟩ ⟨?_,hS,hblk⟩ (by omega)
 simp only [look_cons]
 simp
 omega
 omega
theorem Kept_any (h:Hol) (y:Int) (w:World) (ho:HolOk h) (hy0:0≤y) (hy1:y≤10000) :
 Calls Tryz.prog 333 #[agg h,.int .i64 y] w (Ret fun r w'=>IsDay (keptM h y) r∧Stp [] w w'):=by
 have hm1:=ho.m1
 have hm2:=ho.m2
 refine calls_of_WC2 (n:=52) Tryz.func333 rfl rfl rfl ?_
 refine W ?_
 refine WL_eff (OE_box rfl) rfl ?_
 rintro _ w1 ⟨b,rfl,hb,hblk,hS⟩
 replace hblk:Blk w1 b 187 (Flat.enc h):=hblk
 refine W ?_
 refine CL rfl (evs2 rfl rfl) rfl (Nominal_any h y _ ho hy0 hy1) ?_
 rintro _ w2 ⟨⟨n,ok,rfl,hn⟩,hT⟩
 replace hblk:=hblk.up hT
 replace hS:=hS.trans hT
 clear hT
 unfold keptM
 cases ok with
 | false =>
   rw [if_neg (by simp)] at hn
   rw [hn]
   refine W ?_
   refine WR ?_
   exact .mk ⟨⟨_,false,rfl,rfl⟩,hS⟩
 | true =>
   rw [if_pos rfl] at hn
   have hr:0≤n∧n≤3653000:=by
    by_cases hin:y<h.first∨h.last<y
    unfold nomM at hn
    rw [if_pos hin] at hn
    cases hn
    rw [nomM_P (by omega) (by omega)] at hn
    split at hn
    rename_i hp
    have:=nomP_range ho (by omega) (by omega) hp
    simp only [Option.some.injEq] at hn
    omega
    cases hn
   rw [hn]
   have hmv:=movM_near h.move n
   have fin:∀ r w',r=.tuple #[.int .i64 (movM h.move n),.bool (decide (0≤movM h.move n∧movM h.move n≤3652058))]→Stp [] w w' →
    Ret (fun r w'=>IsDay ((some n).bind fun d=>if inDays (movM h.move d)=true then some (movM h.move d) else none) r∧Stp [] w w') (.returned r) w':=by
    rintro _ w' rfl hS
    refine .mk ⟨⟨_,_,rfl,?_⟩,hS⟩
    simp only [Option.bind_some]
    rfl
   have hcases:(h.move=1∧n % 7=5∧movM h.move n=n+2)∨(h.move=2∧n % 7=5∧movM h.move n=n - 1)∨(h.move≠0∧n % 7=6∧movM h.move n=n+1)∨((h.move=0∨(n % 7≠5∧n % 7≠6))∧movM h.move n=n):=by
    unfold movM
    repeat' split
    all_goals omega
   clear hn
   generalize movM h.move n=R at *
   refine W ?_
   refine CL rfl (evs1 rfl) rfl (Weekday8_any n _ hr.1 (by omega)) ?_
   rintro _ _ ⟨rfl,rfl⟩
   rcases hcases with ⟨c1,c2,rfl⟩|⟨c1,c2,rfl⟩|⟨c1,c2,rfl⟩|⟨c1,rfl⟩
   all_goals repeat' (first|refine W1 ?_|omega|(refine VG ?_ ?_<;>intro hg)|(refine VC ?_ ?_<;>intro hc))
   all_goals refine CL rfl (evs3 rfl rfl rfl) rfl (hwithin10_any _ 0 3652058 _) ?_
   all_goals rintro _ _ ⟨rfl,rfl⟩
   all_goals refine W ?_
   all_goals refine WR ?_
   all_goals exact fin _ _ rfl hS
theorem Is10_any (v:Value) (l:List Hol) (d:Int) (w:World) (hs:SlV [] w v l) (ho:∀ h∈l,HolOk h) (h0:0≤d) (h1:d≤3652058) :
 Calls Tryz.prog 318 #[v,.int .i64 d] w (Ret fun r w'=>r=.bool (isHolM l d)∧Stp [] w w'):=by
 obtain ⟨y1,y2,-⟩:=ofM_ok h0 h1
 have hin:inDays d=true:=inDays_iff.2 ⟨h0,h1⟩
 have hmax:=hs.max
 refine calls_of_WC2 (n:=49) Tryz.func318 rfl rfl rfl ?_
 refine W ?_
 refine CL rfl (evs1 rfl) rfl (Of8_any d _ h0 h1) ?_
 rintro _ w1 ⟨rfl,hS⟩
 refine W ?_
 refine WL_eff OE_alloc rfl ?_
 rintro _ w2 ⟨b5,rfl,hb5,e5,hS2⟩
 refine W ?_
 refine WL_eff0 (OE_storeA (us:=[.int .i64 (ofM d).y,.int .i64 (ofM d).m,.int .i64 (ofM d).d]) rfl rfl rfl rfl (by intro u hu;simp at hu;rcases hu with rfl|rfl|rfl<;>rfl) e5 rfl) ?_
 rintro _ w3 ⟨hT,k5⟩
 replace hS:=hS.trans (hS2.own hT (fun c hc=>.inr (by simp at hc;omega)))
 clear e5 hT hS2
 replace hs:=hs.up hS
 refine W ?_
 have hany:∀ k:Nat,k<3→(∃ h∈l,keptM h ((ofM d).y - 1+(k:Int))=some d)→isHolM l d=true:=by
  rintro k hk ⟨h,hh,hd⟩
  unfold isHolM
  rw [hin,Bool.true_and,List.any_eq_true]
  refine ⟨_,?_,List.any_eq_true.2 ⟨h,hh,decide_eq_true hd⟩⟩
  have:k=0∨k=1∨k=2:=by omega
  rcases this with rfl|rfl|rfl
  simp
  rw [show (ofM d).y - 1+((1:Nat):Int)=(ofM d).y by omega]
  simp
  rw [show (ofM d).y - 1+((2:Nat):Int)=(ofM d).y+1 by omega]
  simp
 refine WC_loop (σ:=Nat) (fun k=>[(0,v),(1,.int .i64 d),(5,.pointer (some ⟨b5,0,none⟩)),(7,.int .i64 ((ofM d).y - 1+(k:Int)))])
  (fun k w'=>k≤3∧(∀ j:Nat,j<k→∀ h∈l,¬ keptM h ((ofM d).y - 1+(j:Int))=some d)∧Stp [] w3 w') (fun k=>3 - k) 0 ⟨rfl,rfl,rfl,by simp [look_cons],trivial⟩ ⟨Nat.zero_le _,fun j hj=>absurd hj (Nat.not_lt_zero _),Stp.refl _ _⟩ ?_
 rintro k w4 ⟨hk,hno,hS4⟩
 have k5b:=k5.up hS4
 have hsb:=hs.up hS4
 by_cases hlt:k<3
 focus repeat' (first|refine W1 ?_|omega|(refine VG ?_ ?_<;>intro hg)|(refine VC ?_ ?_<;>intro hc))
 refine WC_cutBB (σ:=Unit) (fun _=>[(0,v),(1,.int .i64 d),(5,.pointer (some ⟨b5,0,none⟩)),(7,.int .i64 ((ofM d).y - 1+(k:Int)))])
  (fun _ w'=>(∀ h∈l,¬ keptM h ((ofM d).y - 1+(k:Int))=some d)∧Stp [] w3 w') ?_ ?_
 refine WC_loop (σ:=Nat) (fun i=>[(0,v),(1,.int .i64 d),(5,.pointer (some ⟨b5,0,none⟩)),(7,.int .i64 ((ofM d).y - 1+(k:Int))),(8,.int .i64 (i:Int))])
  (fun i w'=>i≤l.length∧(∀ h∈l.take i,¬ keptM h ((ofM d).y - 1+(k:Int))=some d)∧Stp [] w3 w') (fun i=>l.length - i) 0 ⟨rfl,rfl,rfl,rfl,rfl,trivial⟩ ⟨Nat.zero_le _,by simp,hS4⟩ ?_
 clear k5b hsb
 rintro i w5 ⟨hi,hni,hS5⟩
 have k5b:=k5.up hS5
 have hsb:=hs.up hS5
 by_cases hil:i<l.length
 · have hok:=ho l[i] (List.getElem_mem hil)
   repeat' (first|refine W1 ?_|omega|(refine VG ?_ ?_<;>intro hg)|(refine VC ?_ ?_<;>intro hc))
   refine CL rfl (evs2 rfl rfl) rfl (Kept_any l[i] ((ofM d).y - 1+(k:Int)) _ hok (by omega) (by omega)) ?_
   rintro _ w6 ⟨⟨n,ok,rfl,hn⟩,hS6⟩
   have next:keptM l[i] ((ofM d).y - 1+(k:Int))≠some d→∀ h∈l.take (i+1),¬ keptM h ((ofM d).y - 1+(k:Int))=some d:=by
    intro hne h hh
    rw [List.take_succ_eq_append_getElem hil,List.mem_append] at hh
    rcases hh with hh|hh
    exact hni h hh
    obtain rfl:h=l[i]:=by simpa using hh
    exact hne
   cases ok with
   | false =>
     rw [if_neg (by simp)] at hn
     refine W ?_
     exact WQ_loop (i+1) ⟨rfl,rfl,rfl,rfl,rfl,trivial⟩ ⟨hil,next (by rw [hn];simp),hS5.trans hS6⟩ (by omega)
   | true =>
     rw [if_pos rfl] at hn
     by_cases hnd:n=d
     subst hnd
     focus repeat' (first|refine W1 ?_|omega|(refine VG ?_ ?_<;>intro hg)|(refine VC ?_ ?_<;>intro hc))
     refine WR ?_
     refine .mk ⟨?_,(hS.trans hS5).trans hS6⟩
     rw [hany k hlt ⟨_,List.getElem_mem hil,hn⟩]
     · repeat' (first|refine W1 ?_|omega|(refine VG ?_ ?_<;>intro hg)|(refine VC ?_ ?_<;>intro hc))
       exact WQ_loop (i+1) ⟨rfl,rfl,rfl,rfl,rfl,trivial⟩ ⟨hil,next (by rw [hn];simpa using hnd),hS5.trans hS6⟩ (by omega)
 obtain rfl:i=l.length:=by omega
 rw [List.take_length] at hni
 focus repeat' (first|refine W1 ?_|omega|(refine VG ?_ ?_<;>intro hg)|(refine VC ?_ ?_<;>intro hc))
 exact WQ_cut () ⟨rfl,rfl,rfl,rfl,trivial⟩ ⟨hni,hS5⟩
 rintro _ w5 ⟨hni,hS5⟩
 refine W ?_
 refine WQ_loop (k+1) ⟨rfl,rfl,rfl,?_,trivial⟩ ⟨hlt,fun j hj=>?_,hS5⟩ (by omega)
 simp only [look_cons]
 simp
 omega
 by_cases hjk:j=k
 subst hjk;exact hni
 exact hno j (by omega)
 obtain rfl:k=3:=by omega
 focus repeat' (first|refine W1 ?_|omega|(refine VG ?_ ?_<;>intro hg)|(refine VC ?_ ?_<;>intro hc))
 refine WR ?_
 refine .mk ⟨?_,hS.trans hS4⟩
 have:isHolM l d=false:=by
  rw [Bool.eq_false_iff]
  intro h
  unfold isHolM at h
  rw [hin,Bool.true_and,List.any_eq_true] at h
  obtain ⟨y,hy,h⟩:=h
  obtain ⟨q,hq,hd⟩:=List.any_eq_true.1 h
  have hd:=of_decide_eq_true hd
  simp only [List.mem_cons,List.not_mem_nil,or_false] at hy
  rcases hy with rfl|rfl|rfl
  exact hno 0 (by omega) q hq (by simpa using hd)
  exact hno 1 (by omega) q hq (by rw [← hd];congr 1;omega)
  exact hno 2 (by omega) q hq (by rw [← hd];congr 1;omega)
 rw [this]
theorem cwithin11_any (d:Int) (w:World):Calls Tryz.prog 266 #[.int .i64 d] w (Ret fun r w'=>r=.bool (inDays d)∧w'=w):=by
 refine calls_of_WC1 (n:=9) Tryz.func266 rfl rfl rfl ?_
 unfold inDays
 by_cases h1:d≥0
 by_cases h2:d≤3652058
 rw [decide_eq_true ⟨h1,h2⟩]
 focus repeat' (first|refine W1 ?_|omega|(refine VG ?_ ?_<;>intro hg)|(refine VC ?_ ?_<;>intro hc))
 refine WR ?_
 exact .mk ⟨by simp [h2],rfl⟩
 rw [decide_eq_false (fun h=>h2 h.2)]
 focus repeat' (first|refine W1 ?_|omega|(refine VG ?_ ?_<;>intro hg)|(refine VC ?_ ?_<;>intro hc))
 refine WR ?_
 exact .mk ⟨by simp [h2],rfl⟩
 rw [decide_eq_false (fun h=>h1 h.1)]
 focus repeat' (first|refine W1 ?_|omega|(refine VG ?_ ?_<;>intro hg)|(refine VC ?_ ?_<;>intro hc))
 refine WR ?_
 exact .mk ⟨rfl,rfl⟩
theorem closed11_any (d kn:Int) (c:Cal) (hv cv zo zs hr:Value) (w:World) (h:CalV w c hv cv zo zs hr) :
 Calls Tryz.prog 317 #[calA c hv cv zo zs hr,.int .i64 d,.int .i64 kn] w (Ret fun r w'=>r=.bool (cloM c.clos kn d)∧Stp [] w w'):=by
 have hcm:=h.clos.max
 refine calls_of_WC3 (n:=37) Tryz.func317 rfl rfl rfl ?_
 refine W ?_
 refine WL_eff (OE_box rfl) rfl ?_
 rintro _ w1 ⟨b3,rfl,hb3,hblk,hS⟩
 replace hblk:Blk w1 b3 37 (calC c hv cv zo zs hr):=hblk
 refine W ?_
 refine WC_loop (σ:=Nat) (fun k=>[(1,.int .i64 d),(2,.int .i64 kn),(3,.pointer (some ⟨b3,0,none⟩)),(7,.int .i64 (k:Int))])
  (fun k w'=>k≤c.clos.length∧cloM (c.clos.take k) kn d=false∧Stp [] w1 w') (fun k=>c.clos.length - k) 0 ⟨rfl,rfl,rfl,rfl,trivial⟩ ⟨Nat.zero_le _,rfl,Stp.refl _ _⟩ ?_
 rintro k w2 ⟨hk,hn,hS2⟩
 have kc:=hblk.up hS2
 have hcl:=(h.clos.up hS).up hS2
 by_cases hlt:k<c.clos.length
 have ht:cloM (c.clos.take (k+1)) kn d=(cloM (c.clos.take k) kn d || decide (c.clos[k].known≤kn∧c.clos[k].lo≤d∧d≤c.clos[k].hi)):=by
  unfold cloM
  rw [List.take_succ_eq_append_getElem hlt,List.any_append]
  simp
 rw [hn,Bool.false_or] at ht
 focus repeat' (first|refine W1 ?_|omega|(refine VG ?_ ?_<;>intro hg)|(refine VC ?_ ?_<;>intro hc))
 refine WL_eff OE_alloc rfl ?_
 rintro _ w3 ⟨b8,rfl,hb8,e8,hS3⟩
 refine W ?_
 refine WL_eff0 (OE_storeA (us:=Flat.enc c.clos[k]) rfl rfl rfl rfl (Flat.one _) e8 rfl) ?_
 rintro _ w4 ⟨hT,k8⟩
 replace hS3:=hS3.own hT (fun c hc=>.inr (by simp at hc;omega))
 clear e8 hT
 replace kc:=kc.up hS3
 replace hcl:=hcl.up hS3
 replace hS2:=hS2.trans hS3
 by_cases hx:c.clos[k].known≤kn∧c.clos[k].lo≤d∧d≤c.clos[k].hi
 focus repeat' (first|refine W1 ?_|omega|(refine VG ?_ ?_<;>intro hg)|(refine VC ?_ ?_<;>intro hc))
 refine WR ?_
 refine .mk ⟨?_,hS.trans hS2⟩
 have:cloM c.clos kn d=true:=by
  unfold cloM
  exact List.any_eq_true.2 ⟨c.clos[k],List.getElem_mem hlt,decide_eq_true hx⟩
 rw [this]
 · rw [decide_eq_false hx] at ht
   repeat' (first|refine W1 ?_|omega|(refine VG ?_ ?_<;>intro hg)|(refine VC ?_ ?_<;>intro hc))
   all_goals exact WQ_loop (k+1) ⟨rfl,rfl,rfl,rfl,trivial⟩ ⟨hlt,ht,hS2⟩ (by omega)
 obtain rfl:k=c.clos.length:=by omega
 rw [List.take_length] at hn
 focus repeat' (first|refine W1 ?_|omega|(refine VG ?_ ?_<;>intro hg)|(refine VC ?_ ?_<;>intro hc))
 refine WR ?_
 exact .mk ⟨by rw [hn],hS.trans hS2⟩
theorem Open11_any (d kn:Int) (c:Cal) (hv cv zo zs hr:Value) (w:World) (h:CalV w c hv cv zo zs hr) :
 Calls Tryz.prog 296 #[calA c hv cv zo zs hr,.int .i64 d,.int .i64 kn] w (Ret fun r w'=>r=.bool (openM c kn d)∧Stp [] w w'):=by
 refine calls_of_WC3 (n:=28) Tryz.func296 rfl rfl rfl ?_
 refine W ?_
 refine WL_eff (OE_box rfl) rfl ?_
 rintro _ w1 ⟨b3,rfl,hb3,hblk,hS⟩
 replace hblk:Blk w1 b3 37 (calC c hv cv zo zs hr):=hblk
 replace h:=h.up hS
 refine W ?_
 refine CL rfl (evs1 rfl) rfl (cwithin11_any d _) ?_
 rintro _ w1 ⟨rfl,rfl⟩
 unfold openM
 cases hd:inDays d with
 | false =>
   refine W ?_
   refine WR ?_
   exact .mk ⟨rfl,hS⟩
 | true =>
   obtain ⟨h0,h1⟩:=inDays_iff.1 hd
   have hi7:(d % 7).toNat<7:=by omega
   have hwk:=week_at c hv cv zo zs hr hi7
   refine W ?_
   refine CL rfl (evs1 rfl) rfl (Weekday8_any d _ h0 (by omega)) ?_
   rintro _ _ ⟨rfl,rfl⟩
   refine W ?_
   refine WL_idxA (len:=7) (i:=(d % 7).toNat) rfl rfl (by omega) hi7 rfl ?_
   refine WL_go rfl ?_
   refine WL_load_blk rfl rfl hblk hwk rfl ?_
   unfold shutM
   cases hw:c.week.getD (d % 7).toNat false with
   | true =>
     refine W ?_
     refine WR ?_
     exact .mk ⟨by simp,hS⟩
   | false =>
     rw [Bool.false_or]
     refine W ?_
     refine CL rfl (evs3 rfl rfl rfl) rfl (closed11_any d kn c hv cv zo zs hr _ h) ?_
     rintro _ w2 ⟨rfl,hS2⟩
     replace h:=h.up hS2
     replace hblk:=hblk.up hS2
     replace hS:=hS.trans hS2
     cases hc:cloM c.clos kn d with
     | true =>
       refine W ?_
       refine WR ?_
       exact .mk ⟨by simp,hS⟩
     | false =>
       rw [Bool.false_or]
       refine W ?_
       refine CL rfl (evs2 rfl rfl) rfl (Is10_any hv c.hols d _ h.hols h.ok.hols h0 h1) ?_
       rintro _ w3 ⟨rfl,hS3⟩
       refine W ?_
       refine WR ?_
       exact .mk ⟨by simp,hS.trans hS3⟩
theorem find11_any (d kn st:Int) (c:Cal) (hv cv zo zs hr:Value) (w:World) (h:CalV w c hv cv zo zs hr) (hst:st=1∨st=-1) :
 Calls Tryz.prog 262 #[calA c hv cv zo zs hr,.int .i64 d,.int .i64 kn,.int .i64 st] w (Ret fun r w'=>r=.tuple #[.int .i64 (findM (openM c kn) st d).1,.int .i64 (findM (openM c kn) st d).2]∧Stp [] w w'):=by
 refine calls_of_WC4 (n:=39) Tryz.func262 rfl rfl rfl ?_
 refine W ?_
 refine WL_eff (OE_box rfl) rfl ?_
 rintro _ w1 ⟨b4,rfl,hb4,hblk,hS⟩
 replace hblk:Blk w1 b4 37 (calC c hv cv zo zs hr):=hblk
 replace h:=h.up hS
 refine W ?_
 refine CL rfl (evs1 rfl) rfl (cwithin11_any d _) ?_
 rintro _ w1 ⟨rfl,rfl⟩
 unfold findM
 cases hd:inDays d with
 | false =>
   rw [if_neg (by simp)]
   refine W ?_
   refine WR ?_
   exact .mk ⟨rfl,hS⟩
 | true =>
   rw [if_pos rfl]
   obtain ⟨h0,h1⟩:=inDays_iff.1 hd
   refine W ?_
   refine WC_loop (σ:=Nat) (fun k=>[(1,.int .i64 d),(2,.int .i64 kn),(3,.int .i64 st),(4,.pointer (some ⟨b4,0,none⟩)),(10,.int .i64 (k:Int))])
    (fun k w'=>k≤1001∧findG (openM c kn) st (1001 - k) (d+st * (k:Int))=findG (openM c kn) st 1001 d∧Stp [] w1 w') (fun k=>1001 - k) 0 ⟨rfl,rfl,rfl,rfl,rfl,trivial⟩ ⟨Nat.zero_le _,by simp,Stp.refl _ _⟩ ?_
   rintro k w2 ⟨hk,hfg,hS2⟩
   have hblk2:=hblk.up hS2
   have h2:=h.up hS2
   have hsk:-1001≤st * (k:Int)∧st * (k:Int)≤1001:=by rcases hst with rfl|rfl<;>omega
   have hsk1:st * ((k+1:Nat):Int)=st * (k:Int)+st:=by rcases hst with rfl|rfl<;>omega
   by_cases hlt:k≤1000
   · have e1:1001 - k=(1001 - (k+1))+1:=by omega
     rw [e1,findG] at hfg
     generalize hX:st * (k:Int)=X at *
     repeat' (first|refine W1 ?_|omega|(refine VG ?_ ?_<;>intro hg)|(refine VC ?_ ?_<;>intro hc))
     rw [hX]
     refine CL rfl (evs1 rfl) rfl (cwithin11_any (d+X) _) ?_
     rintro _ _ ⟨rfl,rfl⟩
     cases hd2:inDays (d+X) with
     | false =>
       rw [hd2,if_neg (by simp)] at hfg
       refine W ?_
       refine WR ?_
       rw [← hfg]
       exact .mk ⟨rfl,hS.trans hS2⟩
     | true =>
       rw [hd2,if_pos rfl] at hfg
       refine W ?_
       rw [hX]
       refine CL rfl (evs3 rfl rfl rfl) rfl (Open11_any (d+X) kn c hv cv zo zs hr _ h2) ?_
       rintro _ w3 ⟨rfl,hS3⟩
       cases ho:openM c kn (d+X) with
       | true =>
         rw [ho,if_pos rfl] at hfg
         refine W ?_
         rw [hX]
         refine WR ?_
         rw [← hfg]
         exact .mk ⟨rfl,(hS.trans hS2).trans hS3⟩
       | false =>
         rw [ho,if_neg (by simp)] at hfg
         refine W ?_
         refine WQ_loop (k+1) ⟨rfl,rfl,rfl,rfl,rfl,trivial⟩ ⟨by omega,?_,hS2.trans hS3⟩ (by omega)
         rw [hsk1,← Int.add_assoc]
         exact hfg
   obtain rfl:k=1001:=by omega
   rw [Nat.sub_self,findG] at hfg
   focus repeat' (first|refine W1 ?_|omega|(refine VG ?_ ?_<;>intro hg)|(refine VC ?_ ?_<;>intro hc))
   refine WR ?_
   rw [← hfg]
   exact .mk ⟨rfl,hS.trans hS2⟩
theorem Next11_any (d kn:Int) (c:Cal) (hv cv zo zs hr:Value) (w:World) (h:CalV w c hv cv zo zs hr) :
 Calls Tryz.prog 195 #[calA c hv cv zo zs hr,.int .i64 d,.int .i64 kn] w (Ret fun r w'=>r=.tuple #[.int .i64 (findM (openM c kn) (1) d).1,.int .i64 (findM (openM c kn) (1) d).2]∧Stp [] w w'):=by
 refine calls_of_WC3 (n:=14) Tryz.func195 rfl rfl rfl ?_
 refine W ?_
 refine WL_eff (OE_box rfl) rfl ?_
 rintro _ w1 ⟨b3,rfl,hb3,hblk,hS⟩
 replace hblk:Blk w1 b3 37 (calC c hv cv zo zs hr):=hblk
 replace h:=h.up hS
 refine W ?_
 refine CL rfl (evs4 rfl rfl rfl rfl) rfl (find11_any d kn (1) c hv cv zo zs hr _ h (by omega)) ?_
 rintro _ w2 ⟨rfl,hS2⟩
 refine W ?_
 refine WR ?_
 exact .mk ⟨rfl,hS.trans hS2⟩
theorem Previous11_any (d kn:Int) (c:Cal) (hv cv zo zs hr:Value) (w:World) (h:CalV w c hv cv zo zs hr) :
 Calls Tryz.prog 196 #[calA c hv cv zo zs hr,.int .i64 d,.int .i64 kn] w (Ret fun r w'=>r=.tuple #[.int .i64 (findM (openM c kn) (-1) d).1,.int .i64 (findM (openM c kn) (-1) d).2]∧Stp [] w w'):=by
 refine calls_of_WC3 (n:=14) Tryz.func196 rfl rfl rfl ?_
 refine W ?_
 refine WL_eff (OE_box rfl) rfl ?_
 rintro _ w1 ⟨b3,rfl,hb3,hblk,hS⟩
 replace hblk:Blk w1 b3 37 (calC c hv cv zo zs hr):=hblk
 replace h:=h.up hS
 refine W ?_
 refine CL rfl (evs4 rfl rfl rfl rfl) rfl (find11_any d kn (-1) c hv cv zo zs hr _ h (by omega)) ?_
 rintro _ w2 ⟨rfl,hS2⟩
 refine W ?_
 refine WR ?_
 exact .mk ⟨rfl,hS.trans hS2⟩
theorem Add11_any (d n kn:Int) (c:Cal) (hv cv zo zs hr:Value) (w:World) (h:CalV w c hv cv zo zs hr) :
 Calls Tryz.prog 201 #[calA c hv cv zo zs hr,.int .i64 d,.int .i64 n,.int .i64 kn] w (Ret fun r w'=>r=.tuple #[.int .i64 (addM (openM c kn) d n).1,.int .i64 (addM (openM c kn) d n).2]∧Stp [] w w'):=by
 refine calls_of_WC4 (n:=46) Tryz.func201 rfl rfl rfl ?_
 refine W ?_
 refine WL_eff (OE_box rfl) rfl ?_
 rintro _ w1 ⟨b4,rfl,hb4,hblk,hS⟩
 replace hblk:Blk w1 b4 37 (calC c hv cv zo zs hr):=hblk
 replace h:=h.up hS
 refine W ?_
 refine CL rfl (evs1 rfl) rfl (cwithin11_any d _) ?_
 rintro _ w1 ⟨rfl,rfl⟩
 unfold addM
 cases hd:inDays d with
 | false =>
   rw [if_neg (by simp)]
   refine W ?_
   refine WR ?_
   exact .mk ⟨rfl,hS⟩
 | true =>
   rw [if_pos rfl]
   by_cases hn:n < -1000∨1000<n
   · rw [if_pos hn]
     repeat' (first|refine W1 ?_|omega|(refine VG ?_ ?_<;>intro hg)|(refine VC ?_ ?_<;>intro hc))
     all_goals refine WR ?_
     all_goals exact .mk ⟨rfl,hS⟩
   rw [if_neg hn]
   by_cases hneg:n<0
   have hna:(-1) * n=(n.natAbs:Int):=by omega
   have hif:(if n<0 then (-1:Int) else 1)=-1:=by split<;>omega
   rw [hif]
   focus repeat' (first|refine W1 ?_|omega|(refine VG ?_ ?_<;>intro hg)|(refine VC ?_ ?_<;>intro hc))
   refine WC_loop (σ:=Nat×Int) (fun q=>[(1,.int .i64 q.2),(2,.int .i64 n),(3,.int .i64 kn),(4,.pointer (some ⟨b4,0,none⟩)),(10,.int .i64 (-1)),(11,.int .i64 (q.1:Int))])
    (fun q w'=>q.1≤n.natAbs∧inDays q.2=true∧addG (openM c kn) (-1) (n.natAbs - q.1) q.2=addG (openM c kn) (-1) n.natAbs d∧Stp [] w1 w') (fun q=>n.natAbs - q.1) (0,d) ⟨rfl,rfl,rfl,rfl,rfl,rfl,trivial⟩ ⟨Nat.zero_le _,hd,rfl,Stp.refl _ _⟩ ?_
   rintro ⟨k,q⟩ w2 ⟨hk,hq,hfg,hS2⟩
   dsimp only at hk hq hfg ⊢
   have hblk2:=hblk.up hS2
   have h2:=h.up hS2
   have hqr:=inDays_iff.1 hq
   by_cases hlt:k<n.natAbs
   have e1:n.natAbs - k=(n.natAbs - (k+1))+1:=by omega
   rw [e1,addG] at hfg
   focus repeat' (first|refine W1 ?_|omega|(refine VG ?_ ?_<;>intro hg)|(refine VC ?_ ?_<;>intro hc))
   refine CL rfl (evs4 rfl rfl rfl rfl) rfl (find11_any (q+(-1)) kn (-1) c hv cv zo zs hr _ h2 (by omega)) ?_
   rintro _ w3 ⟨rfl,hS3⟩
   by_cases he:(findM (openM c kn) (-1) (q+(-1))).2=0
   rw [if_pos he] at hfg
   rw [he]
   refine W ?_
   exact WQ_loop (k+1,(findM (openM c kn) (-1) (q+(-1))).1) ⟨rfl,rfl,rfl,rfl,rfl,rfl,trivial⟩ ⟨by dsimp only;omega,(findM_ok he).1,hfg,hS2.trans hS3⟩ (by dsimp only;omega)
   rw [if_neg he] at hfg
   focus repeat' (first|refine W1 ?_|omega|(refine VG ?_ ?_<;>intro hg)|(refine VC ?_ ?_<;>intro hc))
   refine WR ?_
   rw [← hfg]
   exact .mk ⟨rfl,(hS.trans hS2).trans hS3⟩
   have e1:n.natAbs - k=0:=by omega
   rw [e1,addG] at hfg
   focus repeat' (first|refine W1 ?_|omega|(refine VG ?_ ?_<;>intro hg)|(refine VC ?_ ?_<;>intro hc))
   refine WR ?_
   rw [← hfg]
   exact .mk ⟨rfl,hS.trans hS2⟩
   have hna:(1) * n=(n.natAbs:Int):=by omega
   have hif:(if n<0 then (-1:Int) else 1)=1:=by split<;>omega
   rw [hif]
   focus repeat' (first|refine W1 ?_|omega|(refine VG ?_ ?_<;>intro hg)|(refine VC ?_ ?_<;>intro hc))
   refine WC_loop (σ:=Nat×Int) (fun q=>[(1,.int .i64 q.2),(2,.int .i64 n),(3,.int .i64 kn),(4,.pointer (some ⟨b4,0,none⟩)),(10,.int .i64 (1)),(11,.int .i64 (q.1:Int))])
    (fun q w'=>q.1≤n.natAbs∧inDays q.2=true∧addG (openM c kn) (1) (n.natAbs - q.1) q.2=addG (openM c kn) (1) n.natAbs d∧Stp [] w1 w') (fun q=>n.natAbs - q.1) (0,d) ⟨rfl,rfl,rfl,rfl,rfl,rfl,trivial⟩ ⟨Nat.zero_le _,hd,rfl,Stp.refl _ _⟩ ?_
   rintro ⟨k,q⟩ w2 ⟨hk,hq,hfg,hS2⟩
   dsimp only at hk hq hfg ⊢
   have hblk2:=hblk.up hS2
   have h2:=h.up hS2
   have hqr:=inDays_iff.1 hq
   by_cases hlt:k<n.natAbs
   have e1:n.natAbs - k=(n.natAbs - (k+1))+1:=by omega
   rw [e1,addG] at hfg
   focus repeat' (first|refine W1 ?_|omega|(refine VG ?_ ?_<;>intro hg)|(refine VC ?_ ?_<;>intro hc))
   refine CL rfl (evs4 rfl rfl rfl rfl) rfl (find11_any (q+(1)) kn (1) c hv cv zo zs hr _ h2 (by omega)) ?_
   rintro _ w3 ⟨rfl,hS3⟩
   by_cases he:(findM (openM c kn) (1) (q+(1))).2=0
   rw [if_pos he] at hfg
   rw [he]
   refine W ?_
   exact WQ_loop (k+1,(findM (openM c kn) (1) (q+(1))).1) ⟨rfl,rfl,rfl,rfl,rfl,rfl,trivial⟩ ⟨by dsimp only;omega,(findM_ok he).1,hfg,hS2.trans hS3⟩ (by dsimp only;omega)
   rw [if_neg he] at hfg
   focus repeat' (first|refine W1 ?_|omega|(refine VG ?_ ?_<;>intro hg)|(refine VC ?_ ?_<;>intro hc))
   refine WR ?_
   rw [← hfg]
   exact .mk ⟨rfl,(hS.trans hS2).trans hS3⟩
   have e1:n.natAbs - k=0:=by omega
   rw [e1,addG] at hfg
   focus repeat' (first|refine W1 ?_|omega|(refine VG ?_ ?_<;>intro hg)|(refine VC ?_ ?_<;>intro hc))
   refine WR ?_
   rw [← hfg]
   exact .mk ⟨rfl,hS.trans hS2⟩
abbrev evA (ev:List Int):Value:=.agg (evC ev).toArray
def plC (ev:List Int) (c:Cal) (hv cv zo zs hr:Value) (kn:Int):List Value:=evC ev++calC c hv cv zo zs hr++[.int .i64 kn]
abbrev plA (ev:List Int) (c:Cal) (hv cv zo zs hr:Value) (kn:Int):Value:=.agg (plC ev c hv cv zo zs hr kn).toArray
abbrev nums (r:Int×Int):Value:=.tuple #[.int .i64 r.1,.int .i64 r.2]
def Num (a:Int):Prop:=-2147483647≤a∧a≤2147483647
theorem vOk.num {t v:Int} (h:vOk t v):Num v:=by unfold vOk at h;unfold Num;omega
theorem one16_any (b:Bool) (w:World):Calls Tryz.prog 198 #[.bool b] w (Ret fun r w'=>r=.int .i64 (oneB' b)∧w'=w):=by
 refine calls_of_WC1 (n:=4) Tryz.func198 rfl rfl rfl ?_
 cases b
 all_goals
  refine W ?_
  refine WR ?_
  exact .mk ⟨rfl,rfl⟩
theorem number16_any (n:Int) (w:World):Calls Tryz.prog 197 #[.int .i64 n] w (Ret fun r w'=>r=nums (numE n)∧w'=w):=by
 refine calls_of_WC1 (n:=11) Tryz.func197 rfl rfl rfl ?_
 unfold numE
 by_cases h:n < -2147483647∨2147483647<n
 · rw [if_pos h]
   repeat' (first|refine W1 ?_|omega|(refine VG ?_ ?_<;>intro hg)|(refine VC ?_ ?_<;>intro hc))
   all_goals refine WR ?_
   all_goals exact .mk ⟨rfl,rfl⟩
 rw [if_neg h]
 focus repeat' (first|refine W1 ?_|omega|(refine VG ?_ ?_<;>intro hg)|(refine VC ?_ ?_<;>intro hc))
 refine WR ?_
 exact .mk ⟨rfl,rfl⟩
theorem day16_any (n:Int) (w:World):Calls Tryz.prog 199 #[.int .i64 n] w (Ret fun r w'=>r=nums (dayE n)∧w'=w):=by
 refine calls_of_WC1 (n:=11) Tryz.func199 rfl rfl rfl ?_
 unfold dayE
 by_cases h:n<0∨3652058<n
 · rw [if_pos h]
   repeat' (first|refine W1 ?_|omega|(refine VG ?_ ?_<;>intro hg)|(refine VC ?_ ?_<;>intro hc))
   all_goals refine WR ?_
   all_goals exact .mk ⟨rfl,rfl⟩
 rw [if_neg h]
 focus repeat' (first|refine W1 ?_|omega|(refine VG ?_ ?_<;>intro hg)|(refine VC ?_ ?_<;>intro hc))
 refine WR ?_
 exact .mk ⟨rfl,rfl⟩
theorem operands_any (op:Int) (w:World) (h13:op≠13) (h14:op≠14) (h24:op≠24):Calls Tryz.prog 54 #[.int .i64 op] w (Ret fun r w'=>r=.int .i64 (arM op:Int)∧w'=w):=by
 refine calls_of_WC1 (n:=18) Tryz.func54 rfl rfl rfl ?_
 repeat' (first|refine W1 ?_|omega|(refine VG ?_ ?_<;>intro hg)|(refine VC ?_ ?_<;>intro hc))
 all_goals refine WR ?_
 all_goals refine .mk ⟨?_,rfl⟩
 all_goals congr 1
 all_goals unfold arM
 all_goals (repeat' split)
 all_goals omega
section
variable {ev:List Int} {c:Cal} {hv cv zo zs hr:Value} {kn:Int} {w:World}
theorem single16_any (h:CalV w c hv cv zo zs hr) (op b:Int) (hb:Num b):Calls Tryz.prog 106 #[plA ev c hv cv zo zs hr kn,.int .i64 op,.int .i64 b] w (Ret fun r w'=>r=nums (sngM (openM c kn) op b)∧Stp [] w w'):=by
 unfold Num at hb
 refine calls_of_WC3 (n:=35) Tryz.func106 rfl rfl rfl ?_
 refine W ?_
 refine WL_eff (OE_box rfl) rfl ?_
 rintro _ w1 ⟨b3,rfl,hb3,hblk,hS⟩
 replace hblk:Blk w1 b3 114 (plC ev c hv cv zo zs hr kn):=hblk
 replace h:=h.up hS
 unfold sngM
 by_cases k8:op=8
 rw [if_pos k8]
 focus repeat' (first|refine W1 ?_|omega|(refine VG ?_ ?_<;>intro hg)|(refine VC ?_ ?_<;>intro hc))
 refine WR ?_
 exact .mk ⟨rfl,hS⟩
 rw [if_neg k8]
 by_cases k19:op=19
 rw [if_pos k19]
 focus repeat' (first|refine W1 ?_|omega|(refine VG ?_ ?_<;>intro hg)|(refine VC ?_ ?_<;>intro hc))
 refine WL_pure (PR_loadN_blk (us:=calC c hv cv zo zs hr) rfl rfl hblk rfl rfl) rfl ?_
 refine W ?_
 refine CL rfl (evs3 rfl rfl rfl) rfl (Next11_any b kn c hv cv zo zs hr _ h) ?_
 rintro _ w2 ⟨rfl,hS2⟩
 refine W ?_
 refine WR ?_
 exact .mk ⟨rfl,hS.trans hS2⟩
 rw [if_neg k19]
 by_cases k20:op=20
 rw [if_pos k20]
 focus repeat' (first|refine W1 ?_|omega|(refine VG ?_ ?_<;>intro hg)|(refine VC ?_ ?_<;>intro hc))
 refine WL_pure (PR_loadN_blk (us:=calC c hv cv zo zs hr) rfl rfl hblk rfl rfl) rfl ?_
 refine W ?_
 refine CL rfl (evs3 rfl rfl rfl) rfl (Previous11_any b kn c hv cv zo zs hr _ h) ?_
 rintro _ w2 ⟨rfl,hS2⟩
 refine W ?_
 refine WR ?_
 exact .mk ⟨rfl,hS.trans hS2⟩
 rw [if_neg k20]
 repeat' (first|refine W1 ?_|omega|(refine VG ?_ ?_<;>intro hg)|(refine VC ?_ ?_<;>intro hc))
 refine WR ?_
 exact .mk ⟨rfl,hS⟩
theorem double16_any (h:CalV w c hv cv zo zs hr) (op a b:Int) (ha:Num a) (hb:Num b) (h17:op=17→inDays a=true):Calls Tryz.prog 107 #[plA ev c hv cv zo zs hr kn,.int .i64 op,.int .i64 a,.int .i64 b] w (Ret fun r w'=>r=nums (dblM (openM c kn) op a b)∧Stp [] w w'):=by
 unfold Num at ha hb
 have hm:-4611686018427387904≤a * b∧a * b≤4611686018427387904:=by
  have h1:(a * b).natAbs≤2147483647 * 2147483647:=by rw [Int.natAbs_mul];exact Nat.mul_le_mul (by omega) (by omega)
  omega
 refine calls_of_WC4 (n:=101) Tryz.func107 rfl rfl rfl ?_
 refine W ?_
 refine WL_eff (OE_box rfl) rfl ?_
 rintro _ w1 ⟨b4,rfl,hb4,hblk,hS⟩
 replace hblk:Blk w1 b4 114 (plC ev c hv cv zo zs hr kn):=hblk
 replace h:=h.up hS
 unfold dblM
 by_cases k5:op=5
 rw [if_pos k5]
 focus repeat' (first|refine W1 ?_|omega|(refine VG ?_ ?_<;>intro hg)|(refine VC ?_ ?_<;>intro hc))
 refine CL rfl (evs1 rfl) rfl (number16_any (a+b) _) ?_
 rintro _ _ ⟨rfl,rfl⟩
 refine W ?_
 refine WR ?_
 exact .mk ⟨rfl,hS⟩
 rw [if_neg k5]
 by_cases k6:op=6
 rw [if_pos k6]
 focus repeat' (first|refine W1 ?_|omega|(refine VG ?_ ?_<;>intro hg)|(refine VC ?_ ?_<;>intro hc))
 refine CL rfl (evs1 rfl) rfl (number16_any (a - b) _) ?_
 rintro _ _ ⟨rfl,rfl⟩
 refine W ?_
 refine WR ?_
 exact .mk ⟨rfl,hS⟩
 rw [if_neg k6]
 by_cases k7:op=7
 rw [if_pos k7]
 focus repeat' (first|refine W1 ?_|omega|(refine VG ?_ ?_<;>intro hg)|(refine VC ?_ ?_<;>intro hc))
 refine CL rfl (evs1 rfl) rfl (number16_any (a * b) _) ?_
 rintro _ _ ⟨rfl,rfl⟩
 refine W ?_
 refine WR ?_
 exact .mk ⟨rfl,hS⟩
 rw [if_neg k7]
 by_cases k9:op=9
 rw [if_pos k9]
 focus repeat' (first|refine W1 ?_|omega|(refine VG ?_ ?_<;>intro hg)|(refine VC ?_ ?_<;>intro hc))
 refine CL rfl (evs1 rfl) rfl (one16_any (decide (a<b)) _) ?_
 rintro _ _ ⟨rfl,rfl⟩
 refine W ?_
 refine WR ?_
 exact .mk ⟨rfl,hS⟩
 rw [if_neg k9]
 by_cases k10:op=10
 rw [if_pos k10]
 focus repeat' (first|refine W1 ?_|omega|(refine VG ?_ ?_<;>intro hg)|(refine VC ?_ ?_<;>intro hc))
 refine CL rfl (evs1 rfl) rfl (one16_any (decide (a≤b)) _) ?_
 rintro _ _ ⟨rfl,rfl⟩
 refine W ?_
 refine WR ?_
 exact .mk ⟨rfl,hS⟩
 rw [if_neg k10]
 by_cases k11:op=11
 rw [if_pos k11]
 focus repeat' (first|refine W1 ?_|omega|(refine VG ?_ ?_<;>intro hg)|(refine VC ?_ ?_<;>intro hc))
 refine CL rfl (evs1 rfl) rfl (one16_any (decide (a=b)) _) ?_
 rintro _ _ ⟨rfl,rfl⟩
 refine W ?_
 refine WR ?_
 exact .mk ⟨rfl,hS⟩
 rw [if_neg k11]
 by_cases k15:op=15
 rw [if_pos k15]
 focus repeat' (first|refine W1 ?_|omega|(refine VG ?_ ?_<;>intro hg)|(refine VC ?_ ?_<;>intro hc))
 refine CL rfl (evs1 rfl) rfl (day16_any (a+b) _) ?_
 rintro _ _ ⟨rfl,rfl⟩
 refine W ?_
 refine WR ?_
 exact .mk ⟨rfl,hS⟩
 rw [if_neg k15]
 by_cases k16:op=16
 rw [if_pos k16]
 focus repeat' (first|refine W1 ?_|omega|(refine VG ?_ ?_<;>intro hg)|(refine VC ?_ ?_<;>intro hc))
 refine CL rfl (evs1 rfl) rfl (day16_any (a+7 * b) _) ?_
 rintro _ _ ⟨rfl,rfl⟩
 refine W ?_
 refine WR ?_
 exact .mk ⟨rfl,hS⟩
 rw [if_neg k16]
 by_cases k17:op=17
 rw [if_pos k17]
 obtain ⟨d0,d1⟩:=inDays_iff.1 (h17 k17)
 focus repeat' (first|refine W1 ?_|omega|(refine VG ?_ ?_<;>intro hg)|(refine VC ?_ ?_<;>intro hc))
 refine CL rfl (evs2 rfl rfl) rfl (AddMonths8_any a b _ d0 d1) ?_
 rintro _ w2 ⟨rfl,hS2⟩
 refine W ?_
 refine WR ?_
 exact .mk ⟨rfl,hS.trans hS2⟩
 rw [if_neg k17]
 by_cases k18:op=18
 rw [if_pos k18]
 focus repeat' (first|refine W1 ?_|omega|(refine VG ?_ ?_<;>intro hg)|(refine VC ?_ ?_<;>intro hc))
 refine WL_pure (PR_loadN_blk (us:=calC c hv cv zo zs hr) rfl rfl hblk rfl rfl) rfl ?_
 refine W ?_
 refine CL rfl (evs4 rfl rfl rfl rfl) rfl (Add11_any a b kn c hv cv zo zs hr _ h) ?_
 rintro _ w2 ⟨rfl,hS2⟩
 refine W ?_
 refine WR ?_
 exact .mk ⟨rfl,hS.trans hS2⟩
 rw [if_neg k18]
 by_cases k21:op=21
 rw [if_pos k21]
 focus repeat' (first|refine W1 ?_|omega|(refine VG ?_ ?_<;>intro hg)|(refine VC ?_ ?_<;>intro hc))
 refine WR ?_
 exact .mk ⟨rfl,hS⟩
 rw [if_neg k21]
 by_cases k22:op=22
 rw [if_pos k22]
 focus repeat' (first|refine W1 ?_|omega|(refine VG ?_ ?_<;>intro hg)|(refine VC ?_ ?_<;>intro hc))
 refine WR ?_
 exact .mk ⟨rfl,hS⟩
 rw [if_neg k22]
 repeat' (first|refine W1 ?_|omega|(refine VG ?_ ?_<;>intro hg)|(refine VC ?_ ?_<;>intro hc))
 refine WR ?_
 exact .mk ⟨rfl,hS⟩
theorem field16_any (n:Int) (h0:0≤n) (h7:n<7):Calls Tryz.prog 105 #[evA ev,.int .i64 n] w (Ret fun r w'=>r=nums (fldM ev n)∧Stp [] w w'):=by
 refine calls_of_WC2 (n:=33) Tryz.func105 rfl rfl rfl ?_
 refine W ?_
 refine WL_eff (OE_box rfl) rfl ?_
 rintro _ w1 ⟨b2,rfl,hb2,hblk,hS⟩
 replace hblk:Blk w1 b2 29 (evC ev):=hblk
 unfold evC at hblk
 refine W ?_
 refine WL_build (vs:=[(0,.int .i64 (ev.getD 0 0)),(1,.int .i64 (ev.getD 1 0)),(2,.int .i64 (ev.getD 2 0)),(3,.int .i64 (ev.getD 3 0)),(4,.int .i64 (ev.getD 4 0)),(5,.int .i64 (ev.getD 5 0)),(6,.int .i64 (ev.getD 6 0))]) rfl (buildF7 _ _ _ _ _ _ _) rfl ?_
 refine WL_eff OE_alloc rfl ?_
 rintro _ w2 ⟨b6,rfl,hb6,e6,hS2⟩
 refine WL_eff0 (OE_storeA (us:=evC ev) rfl rfl rfl rfl (by intro u hu;simp [evC] at hu;rcases hu with rfl|rfl|rfl|rfl|rfl|rfl|rfl<;>rfl) e6 rfl) ?_
 rintro _ w3 ⟨hT,k6⟩
 have hSn:=hS2.own hT (fun c hc=>.inr (by simp at hc;omega))
 replace hblk:=hblk.up hSn
 replace hS:=hS.trans hSn
 clear e6 hT hS2 hSn
 unfold evC at k6
 unfold fldM
 by_cases hs:n=1∧ev.getD 1 0=-1
 rw [if_pos hs]
 obtain ⟨rfl,hs⟩:=hs
 focus repeat' (first|refine W1 ?_|omega|(refine VG ?_ ?_<;>intro hg)|(refine VC ?_ ?_<;>intro hc))
 refine WR ?_
 exact .mk ⟨rfl,hS⟩
 rw [if_neg hs]
 have hn:n=0∨n=1∨n=2∨n=3∨n=4∨n=5∨n=6:=by omega
 rcases hn with rfl|rfl|rfl|rfl|rfl|rfl|rfl
 focus repeat' (first|refine W1 ?_|omega|(refine VG ?_ ?_<;>intro hg)|(refine VC ?_ ?_<;>intro hc))
 refine CL rfl (evs2 rfl rfl) rfl (Around01_any 0 7 _ (by omega) (by unfold I64;omega)) ?_
 rintro _ w5 ⟨rfl,hS5⟩
 replace k6:=k6.up hS5
 replace hS:=hS.trans hS5
 refine W ?_
 try refine WL_idxA (len:=7) (i:=0) (z:=(if (0:Int)<0 then -((0:Int)+1) else 0) % 7) rfl rfl (by decide) (by decide) rfl ?_
 refine W ?_
 refine WR ?_
 exact .mk ⟨rfl,hS⟩
 focus repeat' (first|refine W1 ?_|omega|(refine VG ?_ ?_<;>intro hg)|(refine VC ?_ ?_<;>intro hc))
 refine CL rfl (evs2 rfl rfl) rfl (Around01_any 1 7 _ (by omega) (by unfold I64;omega)) ?_
 rintro _ w5 ⟨rfl,hS5⟩
 replace k6:=k6.up hS5
 replace hS:=hS.trans hS5
 refine W ?_
 try refine WL_idxA (len:=7) (i:=1) (z:=(if (1:Int)<0 then -((1:Int)+1) else 1) % 7) rfl rfl (by decide) (by decide) rfl ?_
 refine W ?_
 refine WR ?_
 exact .mk ⟨rfl,hS⟩
 focus repeat' (first|refine W1 ?_|omega|(refine VG ?_ ?_<;>intro hg)|(refine VC ?_ ?_<;>intro hc))
 refine CL rfl (evs2 rfl rfl) rfl (Around01_any 2 7 _ (by omega) (by unfold I64;omega)) ?_
 rintro _ w5 ⟨rfl,hS5⟩
 replace k6:=k6.up hS5
 replace hS:=hS.trans hS5
 refine W ?_
 try refine WL_idxA (len:=7) (i:=2) (z:=(if (2:Int)<0 then -((2:Int)+1) else 2) % 7) rfl rfl (by decide) (by decide) rfl ?_
 refine W ?_
 refine WR ?_
 exact .mk ⟨rfl,hS⟩
 focus repeat' (first|refine W1 ?_|omega|(refine VG ?_ ?_<;>intro hg)|(refine VC ?_ ?_<;>intro hc))
 refine CL rfl (evs2 rfl rfl) rfl (Around01_any 3 7 _ (by omega) (by unfold I64;omega)) ?_
 rintro _ w5 ⟨rfl,hS5⟩
 replace k6:=k6.up hS5
 replace hS:=hS.trans hS5
 refine W ?_
 try refine WL_idxA (len:=7) (i:=3) (z:=(if (3:Int)<0 then -((3:Int)+1) else 3) % 7) rfl rfl (by decide) (by decide) rfl ?_
 refine W ?_
 refine WR ?_
 exact .mk ⟨rfl,hS⟩
 focus repeat' (first|refine W1 ?_|omega|(refine VG ?_ ?_<;>intro hg)|(refine VC ?_ ?_<;>intro hc))
 refine CL rfl (evs2 rfl rfl) rfl (Around01_any 4 7 _ (by omega) (by unfold I64;omega)) ?_
 rintro _ w5 ⟨rfl,hS5⟩
 replace k6:=k6.up hS5
 replace hS:=hS.trans hS5
 refine W ?_
 try refine WL_idxA (len:=7) (i:=4) (z:=(if (4:Int)<0 then -((4:Int)+1) else 4) % 7) rfl rfl (by decide) (by decide) rfl ?_
 refine W ?_
 refine WR ?_
 exact .mk ⟨rfl,hS⟩
 focus repeat' (first|refine W1 ?_|omega|(refine VG ?_ ?_<;>intro hg)|(refine VC ?_ ?_<;>intro hc))
 refine CL rfl (evs2 rfl rfl) rfl (Around01_any 5 7 _ (by omega) (by unfold I64;omega)) ?_
 rintro _ w5 ⟨rfl,hS5⟩
 replace k6:=k6.up hS5
 replace hS:=hS.trans hS5
 refine W ?_
 try refine WL_idxA (len:=7) (i:=5) (z:=(if (5:Int)<0 then -((5:Int)+1) else 5) % 7) rfl rfl (by decide) (by decide) rfl ?_
 refine W ?_
 refine WR ?_
 exact .mk ⟨rfl,hS⟩
 focus repeat' (first|refine W1 ?_|omega|(refine VG ?_ ?_<;>intro hg)|(refine VC ?_ ?_<;>intro hc))
 refine CL rfl (evs2 rfl rfl) rfl (Around01_any 6 7 _ (by omega) (by unfold I64;omega)) ?_
 rintro _ w5 ⟨rfl,hS5⟩
 replace k6:=k6.up hS5
 replace hS:=hS.trans hS5
 refine W ?_
 try refine WL_idxA (len:=7) (i:=6) (z:=(if (6:Int)<0 then -((6:Int)+1) else 6) % 7) rfl rfl (by decide) (by decide) rfl ?_
 refine W ?_
 refine WR ?_
 exact .mk ⟨rfl,hS⟩
theorem value16_any (h:CalV w c hv cv zo zs hr) (x:Ins) (a b:Int) (ha:Num a) (hb:Num b) (h4:x.op=4→0≤x.n∧x.n<7) (h17:x.op=17→inDays a=true) (h13:x.op≠13) (h14:x.op≠14) (h24:x.op≠24) :
 Calls Tryz.prog 52 #[plA ev c hv cv zo zs hr kn,agg x,.int .i64 a,.int .i64 b] w (Ret fun r w'=>r=nums (valM (openM c kn) ev x a b)∧Stp [] w w'):=by
 refine calls_of_WC4 (n:=44) Tryz.func52 rfl rfl rfl ?_
 refine W ?_
 refine WL_eff (OE_box rfl) rfl ?_
 rintro _ w1 ⟨b4,rfl,hb4,hblk,hS⟩
 replace hblk:Blk w1 b4 114 (plC ev c hv cv zo zs hr kn):=hblk
 refine W ?_
 refine WL_eff (OE_box rfl) rfl ?_
 rintro _ w2 ⟨b5,rfl,hb5,hblk5,hS2⟩
 replace hblk5:Blk w2 b5 51 (Flat.enc x):=hblk5
 replace hblk:=hblk.up hS2
 replace hS:=hS.trans hS2
 replace h:=h.up hS
 clear hS2
 refine W ?_
 refine CL rfl (evs1 rfl) rfl (operands_any x.op _ h13 h14 h24) ?_
 rintro _ _ ⟨rfl,rfl⟩
 unfold valM
 by_cases k4:x.op=4
 rw [if_pos k4]
 have ha0:(arM x.op:Int)=0:=by rw [k4];rfl
 rw [ha0]
 focus repeat' (first|refine W1 ?_|omega|(refine VG ?_ ?_<;>intro hg)|(refine VC ?_ ?_<;>intro hc))
 refine WL_pure (PR_loadN_blk (us:=evC ev) rfl rfl hblk rfl rfl) rfl ?_
 refine W ?_
 refine CL rfl (evs2 rfl rfl) rfl (field16_any x.n (h4 k4).1 (h4 k4).2) ?_
 rintro _ w3 ⟨rfl,hS3⟩
 refine W ?_
 refine WR ?_
 exact .mk ⟨rfl,hS.trans hS3⟩
 rw [if_neg k4]
 by_cases a0:arM x.op=0
 rw [if_pos a0]
 have ha0:(arM x.op:Int)=0:=by rw [a0];rfl
 rw [ha0]
 focus repeat' (first|refine W1 ?_|omega|(refine VG ?_ ?_<;>intro hg)|(refine VC ?_ ?_<;>intro hc))
 refine WR ?_
 exact .mk ⟨rfl,hS⟩
 rw [if_neg a0]
 by_cases a1:arM x.op=1
 rw [if_pos a1]
 have ha0:(arM x.op:Int)=1:=by rw [a1];rfl
 rw [ha0]
 focus repeat' (first|refine W1 ?_|omega|(refine VG ?_ ?_<;>intro hg)|(refine VC ?_ ?_<;>intro hc))
 refine CL rfl (evs3 rfl rfl rfl) rfl (single16_any h x.op b hb) ?_
 rintro _ w3 ⟨rfl,hS3⟩
 refine W ?_
 refine WR ?_
 exact .mk ⟨rfl,hS.trans hS3⟩
 rw [if_neg a1]
 repeat' (first|refine W1 ?_|omega|(refine VG ?_ ?_<;>intro hg)|(refine VC ?_ ?_<;>intro hc))
 refine CL rfl (evs4 rfl rfl rfl rfl) rfl (double16_any h x.op a b ha hb h17) ?_
 rintro _ w3 ⟨rfl,hS3⟩
 refine W ?_
 refine WR ?_
 exact .mk ⟨rfl,hS.trans hS3⟩
end
section
variable {ev:List Int} {c:Cal} {hv cv zo zs hr:Value} {kn:Int}
theorem buildPl (ev:List Int) (c:Cal) (hv cv zo zs hr:Value) (kn:Int) (w:World):(Instr.build 114 #[(0,evA ev),(1,calA c hv cv zo zs hr),(2,.int .i64 kn)]).run Tryz.prog w=.ok (plA ev c hv cv zo zs hr kn) w:=by kernel_rfl
end
theorem at16_any (v:Value) (l:List Int) (k:Nat) (w:World) (hs:SlV [] w v l) (hk:k≤10):Calls Tryz.prog 51 #[v,.int .i64 (k:Int)] w (Ret fun r w'=>r=.int .i64 (topK l k)∧w'=w):=by
 have hmax:=hs.max
 refine calls_of_WC2 (n:=17) Tryz.func51 rfl rfl rfl ?_
 unfold topK
 by_cases hlt:k<l.length
 rw [if_pos hlt]
 have e:(l.length:Int) - 1 - (k:Int)=((l.length - 1 - k:Nat):Int):=by omega
 have hi:l.length - 1 - k<l.length:=by omega
 focus repeat' (first|refine W1 ?_|omega|(refine VG ?_ ?_<;>intro hg)|(refine VC ?_ ?_<;>intro hc))
 rw [e]
 refine W ?_
 refine WR ?_
 exact .mk ⟨by simp [List.getD,hi],rfl⟩
 rw [if_neg hlt]
 focus repeat' (first|refine W1 ?_|omega|(refine VG ?_ ?_<;>intro hg)|(refine VC ?_ ?_<;>intro hc))
 refine WR ?_
 exact .mk ⟨rfl,rfl⟩
theorem span16_any (op a b r:Int) (w:World) (ha:Num a):Calls Tryz.prog 53 #[.int .i64 op,.int .i64 a,.int .i64 b,.int .i64 r] w (Ret fun q w'=>RowF 111 w w' q (spanM op a b r)):=by
 unfold Num at ha
 unfold spanM
 refine calls_of_WC4 (n:=38) Tryz.func53 rfl rfl rfl ?_
 refine W ?_
 by_cases h19:op=19
 subst h19
 rw [if_pos rfl]
 focus repeat' (first|refine W1 ?_|omega|(refine VG ?_ ?_<;>intro hg)|(refine VC ?_ ?_<;>intro hc))
 refine WL_build (vs:=[(0,.int .i64 b),(1,.int .i64 r)]) rfl (buildSp2 _ _) rfl ?_
 refine WL_eff (OE_buildSlice (vs:=[(0,agg ((b,r):Spn))]) rfl (buildSSp _)) rfl ?_
 rintro bw w1 hN
 refine W ?_
 refine WR ?_
 exact .mk (RowF.one (xs:=[((b,r):Spn)]) hN rfl rfl (by simp [maxLen]))
 rw [if_neg h19]
 by_cases h20:op=20
 · subst h20
   rw [if_pos rfl]
   repeat' (first|refine W1 ?_|omega|(refine VG ?_ ?_<;>intro hg)|(refine VC ?_ ?_<;>intro hc))
   all_goals try (exact absurd (by assumption) h19)
   refine WL_build (vs:=[(0,.int .i64 r),(1,.int .i64 b)]) rfl (buildSp2 _ _) rfl ?_
   refine WL_eff (OE_buildSlice (vs:=[(0,agg ((r,b):Spn))]) rfl (buildSSp _)) rfl ?_
   rintro bw w1 hN
   refine W ?_
   refine WR ?_
   exact .mk (RowF.one (xs:=[((r,b):Spn)]) hN rfl rfl (by simp [maxLen]))
 rw [if_neg h20]
 by_cases h18:op=18
 subst h18
 rw [if_pos rfl]
 by_cases hb:0<b
 · rw [if_pos hb]
   repeat' (first|refine W1 ?_|omega|(refine VG ?_ ?_<;>intro hg)|(refine VC ?_ ?_<;>intro hc))
   all_goals try (exact absurd (by assumption) h19)
   refine WL_build (vs:=[(0,.int .i64 (a+1)),(1,.int .i64 r)]) rfl (buildSp2 _ _) rfl ?_
   refine WL_eff (OE_buildSlice (vs:=[(0,agg ((a+1,r):Spn))]) rfl (buildSSp _)) rfl ?_
   rintro bw w1 hN
   refine W ?_
   refine WR ?_
   exact .mk (RowF.one (xs:=[((a+1,r):Spn)]) hN rfl rfl (by simp [maxLen]))
 rw [if_neg hb]
 by_cases hb2:b<0
 · rw [if_pos hb2]
   repeat' (first|refine W1 ?_|omega|(refine VG ?_ ?_<;>intro hg)|(refine VC ?_ ?_<;>intro hc))
   all_goals try (exact absurd (by assumption) h19)
   refine WL_build (vs:=[(0,.int .i64 r),(1,.int .i64 (a - 1))]) rfl (buildSp2 _ _) rfl ?_
   refine WL_eff (OE_buildSlice (vs:=[(0,agg ((r,a - 1):Spn))]) rfl (buildSSp _)) rfl ?_
   rintro bw w1 hN
   refine W ?_
   refine WR ?_
   exact .mk (RowF.one (xs:=[((r,a - 1):Spn)]) hN rfl rfl (by simp [maxLen]))
 · rw [if_neg hb2]
   repeat' (first|refine W1 ?_|omega|(refine VG ?_ ?_<;>intro hg)|(refine VC ?_ ?_<;>intro hc))
   all_goals try (exact absurd (by assumption) h19)
   refine WR ?_
   exact .mk RowF.nil
 rw [if_neg h18]
 repeat' (first|refine W1 ?_|omega|(refine VG ?_ ?_<;>intro hg)|(refine VC ?_ ?_<;>intro hc))
 all_goals try (exact absurd (by assumption) h19)
 all_goals try (exact absurd (by assumption) h20)
 all_goals try (exact absurd (by assumption) h18)
 refine WR ?_
 exact .mk RowF.nil
theorem ins_facts {x:Ins} {s nx:Shp} {st:List Int} (hn:nextM x s=some nx) (hs:StOk s st):(∀ k,Num (topK st k))∧(x.op=4→0≤x.n∧x.n<7)∧(x.op=17→inDays (topK st 1)=true):=by
 refine ⟨fun k=>?_,fun h4=>?_,fun h17=>?_⟩
 unfold topK
 split
 rename_i hk
 have h1:st.length - 1 - k<st.length:=by omega
 have h2:st.length - 1 - k<s.length:=by rw [hs.1];exact h1
 have:=(hs.2 _ h2 h1).num
 simpa [List.getD,h1] using this
 unfold Num;omega
 obtain ⟨h1,-⟩:=next_split hn hs
 obtain ⟨op,n⟩:=x
 dsimp only at h4
 subst h4
 simp [effF] at h1
 dsimp only
 omega
 obtain ⟨h1,st0,vs,ts,rfl,hts,hvs⟩:=next_split hn hs
 obtain ⟨op,n⟩:=x
 dsimp only at h17
 subst h17
 simp [effF] at hts
 subst hts
 obtain ⟨a,b,rfl,ha,hb⟩:=hvs.two_inv
 rw [(topK_app1 st0 a b).2]
 exact inDays_iff.2 ha.d
theorem buildI1s (a:Int) (w:World):(Instr.buildSlice 22 1 #[(0,.int .i64 a)]).run Tryz.prog w=.ok (.slice (some ⟨w.heap.size,0,none⟩) 1 1) (w.alloc (.cells #[.int .i64 a] 3)):=by kernel_rfl
theorem pl_one {ev:List Int} {c:Cal} {hv cv zo zs hr:Value} {kn:Int} (h1:hv.oneCell'=true) (h2:cv.oneCell'=true) (ho:zo.oneCell'=true∧zs.oneCell'=true∧hr.oneCell'=true):∀ u∈plC ev c hv cv zo zs hr kn,u.oneCell'=true:=by
 intro u hu
 unfold plC at hu
 rcases List.mem_append.1 hu with h|h
 rcases List.mem_append.1 h with h|h
 exact ev_one ev u h
 exact cal_one h1 h2 ho u h
 rw [List.mem_singleton.1 h]
 rfl
set_option maxHeartbeats 2000000 in
theorem Run16_any (v:Value) (code:List Ins) (t kn:Int) (ev:List Int) (c:Cal) (hv cv zo zs hr:Value) (w:World) (hs:SlV [] w v code) (hver:verM code=(t,0)) (hcal:CalV w c hv cv zo zs hr) (hev:EvOk ev) (ho:zo.oneCell'=true∧zs.oneCell'=true∧hr.oneCell'=true) :
 Calls Tryz.prog 15 #[v,evA ev,calA c hv cv zo zs hr,.int .i64 kn] w (Ret fun r w'=>∃ pv,r=.tuple #[.int .i64 (runAll (openM c kn) ev code).1,pv,.int .i64 (runAll (openM c kn) ev code).2.2]∧RowF 111 w w' pv (runAll (openM c kn) ev code).2.1):=by
 obtain ⟨hl0,hl200,sh,hlen,hok,h16,hsh0,hshn,hgood⟩:=ver_good hver
 refine calls_of_WC4 (n:=95) Tryz.func15 rfl rfl rfl ?_
 refine W ?_
 refine WL_eff (OE_box rfl) rfl ?_
 rintro _ w1 ⟨b5,rfl,hb5,k5,hS⟩
 replace k5:Blk w1 b5 29 (evC ev):=k5
 refine WL_eff (OE_box rfl) rfl ?_
 rintro _ w2 ⟨b6,rfl,hb6,k6,hT⟩
 replace k6:Blk w2 b6 37 (calC c hv cv zo zs hr):=k6
 replace k5:=k5.up hT
 replace hS:=hS.trans hT
 clear hT
 refine W ?_
 refine WL_build (vs:=[(0,evA ev),(1,calA c hv cv zo zs hr),(2,.int .i64 kn)]) rfl (buildPl ev c hv cv zo zs hr kn) rfl ?_
 refine WL_eff OE_alloc rfl ?_
 rintro _ w3 ⟨b11,rfl,hb11,k11,hT⟩
 refine WL_eff0 (OE_storeA (us:=plC ev c hv cv zo zs hr kn) rfl rfl rfl rfl (pl_one hcal.hols.one hcal.clos.one ho) k11 rfl) ?_
 rintro _ w4 ⟨hT2,k11⟩
 replace hT:=hT.own hT2 (fun c hc=>.inr (by simp at hc;omega))
 replace hS:=hS.trans hT
 clear hT hT2 k5 k6
 have hs0:=hs.up hS
 have hcal0:=hcal.up hS
 have k11o:=k11
 clear hs hcal k11
 refine W ?_
 refine WC_loop (σ:=Nat×Value×Value×List Int×List Spn) (fun q=>[(0,v),(11,.pointer (some ⟨b11,0,none⟩)),(12,q.2.1),(13,q.2.2.1),(14,.int .i64 (q.1:Int))])
  (fun q w'=>q.1<code.length∧q.2.2.2.2.length≤q.1∧Row [] w' w4.heap.size 3 q.2.1 q.2.2.2.1∧Row [] w' w4.heap.size 111 q.2.2.1 q.2.2.2.2∧(∀ b∈ob q.2.1,b∉ob q.2.2.1)∧(∃ s,sh.getD q.1 none=some s∧StOk s q.2.2.2.1)∧(∃ f,code.length≤f+q.1∧runV (openM c kn) ev code f q.1 q.2.2.2.1 q.2.2.2.2=runAll (openM c kn) ev code)∧Stp [] w4 w')
  (fun q=>code.length - q.1) (0,.slice none 0 0,.slice none 0 0,[],[]) ⟨rfl,rfl,rfl,rfl,rfl,trivial⟩ ⟨hl0,Nat.le_refl _,Row.nil,Row.nil,(by simp [ob]),⟨[],hsh0,StOk.nil⟩,⟨code.length,Nat.le_refl _,rfl⟩,Stp.refl _ _⟩ ?_
 rintro ⟨i,sv,pv,st,sp⟩ w5 ⟨hi,hspl,hsr,hpr,hap,⟨s,hshs,hst⟩,⟨f,hf,hr⟩,hB⟩
 dsimp only at hi hspl hsr hpr hap hshs hst hf hr ⊢
 obtain ⟨s',nx,hg⟩:=hgood i hi
 have hss:s'=s:=by have:=hg.at_;rw [hshs] at this;exact (Option.some.inj this).symm
 subst hss
 have hx:code.getD i ⟨0,0⟩=code[i]:=by simp [List.getD,hi]
 have hn:=hg.next
 rw [hx] at hn
 have h16':s'.length≤16:=h16 _ (by
  have hil:i<sh.length:=by omega
  rw [List.getD_eq_getElem?_getD,List.getElem?_eq_getElem hil] at hshs
  simp only [Option.getD_some] at hshs
  rw [← hshs]
  exact List.getElem_mem hil)
 have hstl:st.length≤16:=by rw [← hst.1];exact h16'
 obtain ⟨fn1,fn2,fn3⟩:=ins_facts hn hst
 have hs:=hs0.up hB
 have k11:=k11o.up hB
 have hmax:=hs.max
 have hii:(i:Int)<(code.length:Int):=by omega
 have hi0:(0:Int)≤(i:Int):=by omega
 have hpr0:=hpr.ob_le
 repeat' (first|refine W1 ?_|omega|(refine VG ?_ ?_<;>intro hg)|(refine VC ?_ ?_<;>intro hc))
 refine WL_eff OE_alloc rfl ?_
 rintro _ w6 ⟨b15,rfl,hb15,k15,hT⟩
 refine WL_eff0 (OE_storeA (us:=Flat.enc code[i]) rfl rfl rfl rfl (Flat.one _) k15 rfl) ?_
 rintro _ w7 ⟨hT2,k15⟩
 replace hT:=hT.own hT2 (fun c hc=>.inr (by simp at hc;omega))
 clear hT2
 replace k11:=k11.up hT
 replace hsr:=hsr.up hT
 replace hpr:=hpr.up hT
 replace hB:=hB.trans hT
 clear hT
 have n15:b15∉ob pv:=fun h=>by have:=(hpr0 b15 h).2;omega
 refine W ?_
 have hsl:=hsr.slv (X:=[]) (by simp)
 refine CL rfl (evs2 rfl rfl) rfl (at16_any sv st 1 _ hsl (by decide)) ?_
 rintro _ _ ⟨rfl,rfl⟩
 refine W ?_
 refine CL rfl (evs2 rfl rfl) rfl (at16_any sv st 0 _ hsl (by decide)) ?_
 rintro _ _ ⟨rfl,rfl⟩
 obtain ⟨f,rfl⟩:∃ f',f=f'+1:=⟨f - 1,by omega⟩
 rw [runV,hx] at hr
 have hen:Flat.enc code[i]=[.int .i64 code[i].op,.int .i64 code[i].n]:=rfl
 rw [hen] at k15
 by_cases h24:code[i].op=24
 rw [if_pos h24] at hr
 focus repeat' (first|refine W1 ?_|omega|(refine VG ?_ ?_<;>intro hg)|(refine VC ?_ ?_<;>intro hc))
 refine WR ?_
 exact .mk ⟨pv,by rw [← hr],by rw [← hr];exact hpr.lower hS.size,hS.trans hB⟩
 rw [if_neg h24] at hr
 by_cases h13:code[i].op=13
 rw [if_pos h13] at hr
 obtain ⟨j1,j2,j3⟩:=hg.jump (.inl (by rw [hx];exact h13))
 rw [hx] at j1 j2 j3
 have hnx:=next13 h13 hn
 subst hnx
 focus repeat' (first|refine W1 ?_|omega|(refine VG ?_ ?_<;>intro hg)|(refine VC ?_ ?_<;>intro hc))
 rw [show code[i].n=((code[i].n.toNat:Nat):Int) by omega]
 exact WQ_loop (code[i].n.toNat,sv,pv,st,sp) ⟨rfl,rfl,rfl,rfl,rfl,trivial⟩ ⟨by dsimp only;omega,by dsimp only;omega,hsr,hpr,hap,⟨_,j3,hst⟩,⟨f,by dsimp only;omega,hr⟩,hB⟩ (by dsimp only;omega)
 rw [if_neg h13] at hr
 obtain ⟨o1,o2⟩:=hg.on (by rw [hx];exact h24) (by rw [hx];exact h13)
 by_cases h14:code[i].op=14
 rw [if_pos h14] at hr
 obtain ⟨j1,j2,j3⟩:=hg.jump (.inr (by rw [hx];exact h14))
 rw [hx] at j1 j2 j3
 have hnx:=next14 h14 hn
 have hst2:StOk nx st.dropLast:=by
  rw [hnx,List.dropLast_eq_take,List.dropLast_eq_take,← hst.1]
  exact hst.take _
 have hmaxe:max 0 ((st.length:Int) - 1)=((st.length - 1:Nat):Int):=by omega
 have hml:st.length - 1≤st.length:=by omega
 have hcut:Row [] _ w4.heap.size 3 (slc sv 0 (st.length - 1) 1) (st.take (st.length - 1)):=hsr.cut hml
 rw [← List.dropLast_eq_take] at hcut
 have hap':∀ b∈ob (slc sv 0 (st.length - 1) 1),b∉ob pv:=by rw [ob_slc];exact hap
 focus repeat' (first|refine W1 ?_|omega|(refine VG ?_ ?_<;>intro hg)|(refine VC ?_ ?_<;>intro hc))
 refine WL_slice_h rfl hsl rfl hmaxe hml rfl ?_
 focus repeat' (first|refine W1 ?_|omega|(refine VG ?_ ?_<;>intro hg)|(refine VC ?_ ?_<;>intro hc))
 rw [if_pos hc] at hr
 rw [show code[i].n=((code[i].n.toNat:Nat):Int) by omega]
 exact WQ_loop (code[i].n.toNat,slc sv 0 (st.length - 1) 1,pv,st.dropLast,sp) ⟨rfl,rfl,rfl,rfl,rfl,trivial⟩ ⟨by dsimp only;omega,by dsimp only;omega,hcut,hpr,hap',⟨_,j3,hst2⟩,⟨f,by dsimp only;omega,hr⟩,hB⟩ (by dsimp only;omega)
 rw [if_neg hc] at hr
 exact WQ_loop (i+1,slc sv 0 (st.length - 1) 1,pv,st.dropLast,sp) ⟨rfl,rfl,rfl,rfl,rfl,trivial⟩ ⟨(by dsimp only;omega),by dsimp only;omega,hcut,hpr,hap',⟨_,o2,hst2⟩,⟨f,by dsimp only;omega,hr⟩,hB⟩ (by dsimp only;omega)
 rw [if_neg h14] at hr
 repeat' (first|refine W1 ?_|omega|(refine VG ?_ ?_<;>intro hg)|(refine VC ?_ ?_<;>intro hc))
 refine CL rfl (evs4 rfl rfl rfl rfl) rfl (value16_any (hcal0.up hB) code[i] (topK st 1) (topK st 0) (fn1 1) (fn1 0) fn2 fn3 h13 h14 h24) ?_
 rintro _ w8 ⟨rfl,hT⟩
 replace k15:=k15.up hT
 replace hsr:=hsr.up hT
 replace hpr:=hpr.up hT
 replace hB:=hB.trans hT
 clear hT hsl
 by_cases he:(valM (openM c kn) ev code[i] (topK st 1) (topK st 0)).2=0
 · rw [if_pos he] at hr
   have hokn:=vstep_ok hev hn h24 h13 h14 hst he
   have hspn:(spanM code[i].op (topK st 1) (topK st 0) (valM (openM c kn) ev code[i] (topK st 1) (topK st 0)).1).length≤1:=by
    unfold spanM
    repeat' split
    all_goals simp
   refine W ?_
   rw [he]
   generalize (valM (openM c kn) ev code[i] (topK st 1) (topK st 0)).1=r at *
   repeat' (first|refine W1 ?_|omega|(refine VG ?_ ?_<;>intro hg)|(refine VC ?_ ?_<;>intro hc))
   all_goals try (exact absurd rfl (by assumption))
   refine CL rfl (evs4 rfl rfl rfl rfl) rfl (span16_any code[i].op (topK st 1) (topK st 0) r _ (fn1 1)) ?_
   rintro qv w9 hq
   have hqs:SlV (ob pv++[]) w9 qv (spanM code[i].op (topK st 1) (topK st 0) r):=hq.slv (fun b hb=>(hpr.ob_le b (by simpa using hb)).2)
   have hT:=hq.2
   replace k15:=k15.up hT
   replace hsr:=hsr.up hT
   replace hpr:=hpr.up hT
   replace hB:=hB.trans hT
   clear hT hq
   generalize spanM code[i].op (topK st 1) (topK st 0) r=qs at *
   have hbs:=hB.size
   refine WL_eff (OE_append (X:=[]) (base:=w4.heap.size) rfl (by decide) rfl rfl hpr hqs (by omega) (by simp only [maxLen];omega) hbs) rfl ?_
   rintro pv2 w10 ⟨hpr2,hT,hob2⟩
   have hpo:=hpr.ob_le
   have hso:=hsr.ob_le
   have hap2:∀ b∈ob sv,b∉ob pv2:=fun b hb h=>by
    rcases hob2 b h with h1|h1
    exact hap b hb h1
    have:=(hso b hb).2
    omega
   replace hsr:=hsr.keep hT (fun b hb h=>hap b h hb)
   replace k15:=k15.ext hT n15
   replace hB:=hB.own hT (fun b hb=>.inr (hpo b hb).1)
   clear hT hqs hpr hob2
   have hsl:=hsr.slv (X:=[]) (by simp)
   refine W ?_
   refine CL rfl (evs1 rfl) rfl (operands_any code[i].op _ h13 h14 h24) ?_
   rintro _ _ ⟨rfl,rfl⟩
   have har:arM code[i].op≤2:=by
    unfold arM
    repeat' split
    all_goals omega
   have hmaxe:max 0 ((st.length:Int) - (arM code[i].op:Int))=((st.length - arM code[i].op:Nat):Int):=by omega
   have hml:st.length - arM code[i].op≤st.length:=by omega
   have hcut:Row [] _ w4.heap.size 3 (slc sv 0 (st.length - arM code[i].op) 1) (st.take (st.length - arM code[i].op)):=hsr.cut hml
   refine W ?_
   refine WL_slice_h rfl hsl rfl hmaxe hml rfl ?_
   refine W ?_
   refine WL_eff (OE_buildSlice (vs:=[(0,.int .i64 r)]) rfl (buildI1s _)) rfl ?_
   rintro bw w11 hN
   have hco:=hcut.ob_le
   have hbw:SlV (ob (slc sv 0 (st.length - arM code[i].op) 1)++[]) w11 bw [r]:=hN.slv (fun b hb=>(hco b (by simpa using hb)).2) rfl rfl (by simp [maxLen])
   have hT:=NewSl.stp hN
   clear hN
   replace hcut:=hcut.up hT
   replace hpr2:=hpr2.up hT
   replace hB:=hB.trans hT
   clear hT
   have hbs2:=hB.size
   refine WL_eff (OE_append (X:=[]) (base:=w4.heap.size) rfl (by decide) rfl rfl hcut hbw (by rw [List.length_take];simp only [List.length_cons,List.length_nil];omega) (by rw [List.length_take];simp only [List.length_cons,List.length_nil,maxLen];omega) hbs2) rfl ?_
   rintro sv2 w12 ⟨hsr2,hT,hob3⟩
   rw [ob_slc] at hT hob3
   have hpo2:=hpr2.ob_le
   have hap3:∀ b∈ob sv2,b∉ob pv2:=fun b hb h=>by
    rcases hob3 b hb with h1|h1
    exact hap2 b h1 h
    have:=(hpo2 b h).2
    omega
   replace hpr2:=hpr2.keep hT (fun b hb h=>hap2 b hb h)
   have hso2:=hsr.ob_le
   replace hB:=hB.own hT (fun b hb=>.inr (hso2 b hb).1)
   clear hT
   refine W ?_
   exact WQ_loop (i+1,sv2,pv2,_,_) ⟨rfl,rfl,rfl,rfl,rfl,trivial⟩ ⟨(by dsimp only;omega),by dsimp only;rw [List.length_append];omega,hsr2,hpr2,hap3,⟨_,o2,hokn⟩,⟨f,by dsimp only;omega,hr⟩,hB⟩ (by dsimp only;omega)
 · rw [if_neg he] at hr
   repeat' (first|refine W1 ?_|omega|(refine VG ?_ ?_<;>intro hg)|(refine VC ?_ ?_<;>intro hc))
   all_goals try (exact absurd (by assumption) he)
   refine WR ?_
   exact .mk ⟨.slice none 0 0,by rw [← hr];rfl,by rw [← hr];exact Row.nil,hS.trans hB⟩
theorem ev_seven {ev:List Int} (h:ev.length=7):∃ a b c d e f g,ev=[a,b,c,d,e,f,g]:=by
 match ev,h with
 | [a,b,c,d,e,f,g],_=>exact ⟨a,b,c,d,e,f,g,rfl⟩
theorem buildSI0 (w:World):(Instr.buildSlice 40 0 #[]).run Tryz.prog w=.ok (.slice (some ⟨w.heap.size,0,none⟩) 0 0) (w.alloc (.cells #[] 51)):=by kernel_rfl
theorem buildSSI (p1 p2 p3:Option Addr) (l1 c1 l2 c2 l3 c3:Nat) (w:World):(Instr.buildSlice 54 3 #[(0,.slice p1 l1 c1),(1,.slice p2 l2 c2),(2,.slice p3 l3 c3)]).run Tryz.prog w=.ok (.slice (some ⟨w.heap.size,0,none⟩) 3 3) (w.alloc (.cells #[.slice p1 l1 c1,.slice p2 l2 c2,.slice p3 l3 c3] 40)):=by kernel_rfl
theorem vmCodesLaw (v0 v1 v2:Value) (l0 l1 l2:List Int) (kd kz:Int) (er:Value) (m:Int) (rv:Value) (raw:List Ins) (az:Int) (by_:Ins) (bgs:List Int) (w:World) (h0:SlV [] w v0 l0) (h1:SlV [] w v1 l1) (h2:SlV [] w v2 l2) (hi0:∀ a∈l0,I64 a) (hi1:∀ a∈l1,I64 a) (hi2:∀ a∈l2,I64 a) (hkd:I64 kd) (hkz:I64 kz) (hL:LenG w) (hM:MovG w) (hm:w.cell? ⟨2,0,none⟩=some (.int .i64 m)) (hv4:w.cell? ⟨5,0,none⟩=some er) (hev4:er=.nilIface∨∃ te pe,er=.iface te pe) (hraw:SlV [] w rv raw) (haz:I64 az) (hzl:bgs.length=5) (hz:∀ z∈bgs,I64 z) :
 Calls Tryz.prog 4 #[caseA v0 v1 v2 kd kz,rv,.int .i64 az,agg by_,.agg (bgs.map fun z=>Value.int .i64 z).toArray] w (Ret fun r w'=>r=.bool true∧Stp [] w w'):=by
 refine calls_of_WC5 (n:=117) Tryz.func4 rfl rfl rfl ?_
 refine W ?_
 refine WL_eff (OE_box rfl) rfl ?_
 rintro _ w1 ⟨b1,rfl,hb1,k1,hS⟩
 replace k1:Blk w1 b1 24 [v0,v1,v2,.int .i64 kd,.int .i64 kz]:=k1
 refine WL_eff (OE_box rfl) rfl ?_
 rintro _ w1b ⟨b8,rfl,hb8,k8,hT⟩
 replace k8:Blk w1b b8 51 (Flat.enc by_):=k8
 replace k1:=k1.up hT
 replace hS:=hS.trans hT
 clear hT
 refine WL_eff (OE_box rfl) rfl ?_
 rintro _ w1c ⟨b9,rfl,hb9,k9,hT⟩
 replace k9:Blk w1c b9 52 (bgs.map fun z=>Value.int .i64 z):=k9
 replace k1:=k1.up hT
 replace k8:=k8.up hT
 replace hS:=hS.trans hT
 clear hT
 refine W ?_
 refine CL rfl (evs1 rfl) rfl (Made16_any v0 v1 v2 l0 l1 l2 kd kz _ (h0.up hS) (h1.up hS) (h2.up hS) hi0 hi1 hi2 hkd hkz (hL.up hS) (hM.up hS)) ?_
 rintro _ w2 ⟨y,t,ky,ev,c,hv_,cv,zo,zs,hr,kn,rfl,hg,hky,hev,hcal,ho,hcs,hkn,hT⟩
 replace k1:=k1.up hT
 replace k8:=k8.up hT
 replace k9:=k9.up hT
 replace hS:=hS.trans hT
 clear hT
 have hone:=hky.one
 have lt8:=k8.lt
 have lt9:=k9.lt
 have gw2:=hS.size
 refine W ?_
 refine WL_eff OE_alloc rfl ?_
 rintro _ w3 ⟨b3,rfl,hb3,k3,hA⟩
 have lt3:=k3.lt
 refine WL_eff OE_alloc rfl ?_
 rintro _ w4 ⟨b4,rfl,hb4,k4,hT⟩
 have gz4:=hA.size
 replace k3:=k3.up hT
 replace hA:=hA.trans hT
 clear hT
 have lt4:=k4.lt
 refine WL_eff OE_alloc rfl ?_
 rintro _ w5 ⟨b5,rfl,hb5,k5,hT⟩
 have gz5:=hA.size
 replace k3:=k3.up hT
 replace k4:=k4.up hT
 replace hA:=hA.trans hT
 clear hT
 refine WL_eff0 (OE_storeA (us:=ndC y ky) rfl rfl rfl rfl (ndC_one hky) k3 rfl) ?_
 rintro _ w6 ⟨hT,k3⟩
 replace k4:=k4.ext hT (by simp;omega)
 replace k5:=k5.ext hT (by simp;omega)
 replace hA:=hA.own hT (fun c hc=>.inr (by simp at hc;omega))
 clear hT
 refine WL_eff0 (OE_storeA (us:=evC ev) rfl rfl rfl rfl (ev_one _) k4 rfl) ?_
 rintro _ w7 ⟨hT,k4⟩
 replace k3:=k3.ext hT (by simp;omega)
 replace k5:=k5.ext hT (by simp;omega)
 replace hA:=hA.own hT (fun c hc=>.inr (by simp at hc;omega))
 clear hT
 refine WL_eff0 (OE_storeA (us:=calC c hv_ cv zo zs hr) rfl rfl rfl rfl (cal_one hcal.hols.one hcal.clos.one ho) k5 rfl) ?_
 rintro _ w8 ⟨hT,k5⟩
 replace k3:=k3.ext hT (by simp;omega)
 replace k4:=k4.ext hT (by simp;omega)
 replace hA:=hA.own hT (fun c hc=>.inr (by simp at hc;omega))
 clear hT
 have n4:b3≠b4∧b5≠b4∧b8≠b4∧b9≠b4∧w2.heap.size≤b4:=by omega
 replace k8:=k8.up hA
 replace k9:=k9.up hA
 have hty:=hg.type
 have htn:typeT y≠0:=by rw [hty];exact hg.ne
 have hn5:nestN y≤5:=hg.nest
 have hn16:nestN y≤16:=by omega
 refine W ?_
 refine CL rfl (evs1 rfl) rfl (ExpressionR_any _ y _ (Nat.le_trans hg.size (by decide)) (by omega) ⟨ky,rfl,hky.up hA⟩) ?_
 rintro _ w9 ⟨xv,rfl,hxv,hT⟩
 have hc0:=hxv [b4] (by have:=k4.lt;simp;exact this)
 clear hxv
 replace k4:=k4.up hT
 replace k5:=k5.up hT
 replace k8:=k8.up hT
 replace k9:=k9.up hT
 replace hA:=hA.trans hT
 clear hT
 obtain ⟨ea,eb,ec,ed,ee,ef,eg,rfl⟩:=ev_seven hev.len
 have e5:=hev.rest 5 (by omega) (by omega)
 have e4:=hev.rest 4 (by omega) (by omega)
 simp only [List.getD_cons_zero,List.getD_cons_succ] at e4 e5
 by_cases he:errX y=0
 · rw [if_pos he] at hc0
   rw [he]
   have hver:=errX_ver he
   obtain ⟨hl0,hl200,-⟩:=ver_good hver
   obtain ⟨z0,z1,z2,z3,z4,rfl⟩:∃ z0 z1 z2 z3 z4,bgs=[z0,z1,z2,z3,z4]:=by
    match bgs,hzl with
    | [z0,z1,z2,z3,z4],_=>exact ⟨z0,z1,z2,z3,z4,rfl⟩
   simp only [List.map_cons,List.map_nil] at k9
   repeat' (first|refine W1 ?_|omega|(refine VG ?_ ?_<;>intro hg)|(refine VC ?_ ?_<;>intro hc))
   all_goals try (exact absurd rfl (by assumption))
   refine W ?_
   refine CL rfl (evs2 rfl rfl) rfl (Bound16_any z0 2147483647 _ (by decide) (by decide) (hz _ (by simp))) ?_
   rintro _ wa ⟨x0,rfl,hx0,hy0,hT⟩
   replace k4:=k4.up hT
   replace k5:=k5.up hT
   replace k8:=k8.up hT
   replace k9:=k9.up hT
   replace hc0:=hc0.up hT
   replace hA:=hA.trans hT
   clear hT
   refine W ?_
   refine WL_eff0 (OE_store1 (u:=.int .i64 (x0)) rfl rfl rfl rfl k4 (by simp [evC])) ?_
   rintro _ wS ⟨hT,k4⟩
   replace k4:Blk wS b4 29 (evC [ea,eb,(x0),ed,ee,ef,eg]):=k4
   replace k5:=k5.ext hT (by simpa using n4.2.1)
   replace k8:=k8.ext hT (by simpa using n4.2.2.1)
   replace k9:=k9.ext hT (by simpa using n4.2.2.2.1)
   replace hc0:=hc0.ext (X':=[b4]) hT (by simp) (fun _ h=>.inl h)
   replace hA:=hA.own hT (fun q hq=>.inr (by simp at hq;subst hq;exact n4.2.2.2.2))
   clear hT
   refine W ?_
   refine CL rfl (evs2 rfl rfl) rfl (Bound16_any z1 2147483647 _ (by decide) (by decide) (hz _ (by simp))) ?_
   rintro _ wa ⟨x1,rfl,hx1,hy1,hT⟩
   replace k4:=k4.up hT
   replace k5:=k5.up hT
   replace k8:=k8.up hT
   replace k9:=k9.up hT
   replace hc0:=hc0.up hT
   replace hA:=hA.trans hT
   clear hT
   refine W ?_
   refine WL_eff0 (OE_store1 (u:=.int .i64 (x1)) rfl rfl rfl rfl k4 (by simp [evC])) ?_
   rintro _ wS ⟨hT,k4⟩
   replace k4:Blk wS b4 29 (evC [ea,eb,(x0),(x1),ee,ef,eg]):=k4
   replace k5:=k5.ext hT (by simpa using n4.2.1)
   replace k8:=k8.ext hT (by simpa using n4.2.2.1)
   replace k9:=k9.ext hT (by simpa using n4.2.2.2.1)
   replace hc0:=hc0.ext (X':=[b4]) hT (by simp) (fun _ h=>.inl h)
   replace hA:=hA.own hT (fun q hq=>.inr (by simp at hq;subst hq;exact n4.2.2.2.2))
   clear hT
   refine W ?_
   refine CL rfl (evs2 rfl rfl) rfl (Bound16_any z2 2147483647 _ (by decide) (by decide) (hz _ (by simp))) ?_
   rintro _ wa ⟨x2,rfl,hx2,hy2,hT⟩
   replace k4:=k4.up hT
   replace k5:=k5.up hT
   replace k8:=k8.up hT
   replace k9:=k9.up hT
   replace hc0:=hc0.up hT
   replace hA:=hA.trans hT
   clear hT
   refine W ?_
   refine WL_eff0 (OE_store1 (u:=.int .i64 (x2)) rfl rfl rfl rfl k4 (by simp [evC])) ?_
   rintro _ wS ⟨hT,k4⟩
   replace k4:Blk wS b4 29 (evC [ea,eb,(x0),(x1),ee,ef,(x2)]):=k4
   replace k5:=k5.ext hT (by simpa using n4.2.1)
   replace k8:=k8.ext hT (by simpa using n4.2.2.1)
   replace k9:=k9.ext hT (by simpa using n4.2.2.2.1)
   replace hc0:=hc0.ext (X':=[b4]) hT (by simp) (fun _ h=>.inl h)
   replace hA:=hA.own hT (fun q hq=>.inr (by simp at hq;subst hq;exact n4.2.2.2.2))
   clear hT
   refine W ?_
   refine WL_idxA (len:=5) (i:=3) (z:=3) rfl rfl (by decide) (by decide) rfl ?_
   refine W ?_
   refine CL rfl (evs2 rfl rfl) rfl (Around01_any z3 3652059 _ (by decide) (hz _ (by simp))) ?_
   rintro _ wa ⟨rfl,hT⟩
   have hr3:=around_range (if z3<0 then -(z3+1) else z3) 3652059 (by decide)
   generalize (if z3<0 then -(z3+1) else z3) % 3652059=x3 at hr3 ⊢
   replace k4:=k4.up hT
   replace k5:=k5.up hT
   replace k8:=k8.up hT
   replace k9:=k9.up hT
   replace hc0:=hc0.up hT
   replace hA:=hA.trans hT
   clear hT
   refine W ?_
   refine WL_eff0 (OE_store1 (u:=.int .i64 (x3)) rfl rfl rfl rfl k4 (by simp [evC])) ?_
   rintro _ wS ⟨hT,k4⟩
   replace k4:Blk wS b4 29 (evC [(x3),eb,(x0),(x1),ee,ef,(x2)]):=k4
   replace k5:=k5.ext hT (by simpa using n4.2.1)
   replace k8:=k8.ext hT (by simpa using n4.2.2.1)
   replace k9:=k9.ext hT (by simpa using n4.2.2.2.1)
   replace hc0:=hc0.ext (X':=[b4]) hT (by simp) (fun _ h=>.inl h)
   replace hA:=hA.own hT (fun q hq=>.inr (by simp at hq;subst hq;exact n4.2.2.2.2))
   clear hT
   refine W ?_
   refine WL_idxA (len:=5) (i:=4) (z:=4) rfl rfl (by decide) (by decide) rfl ?_
   refine W ?_
   refine CL rfl (evs2 rfl rfl) rfl (Around01_any z4 3652060 _ (by decide) (hz _ (by simp))) ?_
   rintro _ wa ⟨rfl,hT⟩
   have hr4:=around_range (if z4<0 then -(z4+1) else z4) 3652060 (by decide)
   generalize (if z4<0 then -(z4+1) else z4) % 3652060=x4 at hr4 ⊢
   replace k4:=k4.up hT
   replace k5:=k5.up hT
   replace k8:=k8.up hT
   replace k9:=k9.up hT
   replace hc0:=hc0.up hT
   replace hA:=hA.trans hT
   clear hT
   refine W ?_
   refine WL_eff0 (OE_store1 (u:=.int .i64 (x4 - 1)) rfl rfl rfl rfl k4 (by simp [evC])) ?_
   rintro _ wS ⟨hT,k4⟩
   replace k4:Blk wS b4 29 (evC [(x3),(x4 - 1),(x0),(x1),ee,ef,(x2)]):=k4
   replace k5:=k5.ext hT (by simpa using n4.2.1)
   replace k8:=k8.ext hT (by simpa using n4.2.2.1)
   replace k9:=k9.ext hT (by simpa using n4.2.2.2.1)
   replace hc0:=hc0.ext (X':=[b4]) hT (by simp) (fun _ h=>.inl h)
   replace hA:=hA.own hT (fun q hq=>.inr (by simp at hq;subst hq;exact n4.2.2.2.2))
   clear hT
   have hev2:EvOk [(x3),(x4 - 1),(x0),(x1),ee,ef,(x2)]:=evok16 (by omega) (by omega) (by omega) (by omega) e4 e5 (by omega)
   clear hev
   generalize [(x3),(x4 - 1),(x0),(x1),ee,ef,(x2)]=ev at *
   refine W ?_
   refine WL_eff (OE_buildSlice (vs:=[]) rfl (buildSI0)) rfl ?_
   rintro bv wd hN
   have hrow:=RowF.one (xs:=([]:List Ins)) hN rfl rfl (by simp [maxLen])
   clear hN
   have hcs2:SlV (ob bv) wd xv (exprF y):=hc0.ext hrow.2 (by simp) (fun b hb=>.inr (hrow.ob_le b hb).1)
   refine W ?_
   refine WL_eff (OE_appF rfl (by decide) rfl rfl hrow hcs2 (by simp only [List.length_nil];omega) (by simp only [List.length_nil,maxLen];omega)) rfl ?_
   clear hrow hcs2
   rintro cv2 we ⟨hrow,-,-⟩
   rw [List.nil_append] at hrow
   have hT:=hrow.2
   have hob:=hrow.ob_le
   have lt4:=k4.lt
   have lt5:=k5.lt
   have lt8:=k8.lt
   have gA:=hA.size
   have hsl:=hrow.slv (X:=[b4]) (by simpa using lt4)
   replace hc0:SlV (b4 :: ob cv2) we xv (exprF y):=hc0.ext hT (by simp) (fun b hb=>by
    rcases List.mem_cons.1 hb with h|h
    exact .inl (by simp [h])
    exact .inr (hob b h).1)
   have n4c:b4∉ob cv2:=fun h=>by have:=(hob _ h).1;omega
   have n5c:b5∉ob cv2:=fun h=>by have:=(hob _ h).1;omega
   have goc:∀ b∈ob cv2,w2.heap.size≤b:=fun b hb=>by have:=(hob _ hb).1;omega
   replace hrow:=hrow.1
   replace k4:=k4.up hT
   replace k5:=k5.up hT
   replace k8:=k8.up hT
   replace hA:=hA.trans hT
   clear hT hob k9
   have hmaxl:=hsl.max
   repeat' (first|refine W1 ?_|omega|(refine VG ?_ ?_<;>intro hg)|(refine VC ?_ ?_<;>intro hc))
   refine WC_drawn 8 [] [7] [(0,0),(1,0),(2,0),(3,0),(5,1),(4,2),(6,0),(7,2)] rfl mixed (by kernel_rfl) (by kernel_rfl) (by kernel_rfl) (fun w1 hS1=>?_)
   have hT:=hS1
   replace k4:=k4.up hT
   replace k5:=k5.up hT
   replace k8:=k8.up hT
   replace hc0:=hc0.up hT
   replace hsl:=hsl.up hT
   replace hrow:=hrow.up hT
   replace hA:=hA.trans hT
   clear hT hS1
   refine D ?_
   refine WD_eff rfl trivial (OE_call rfl (evs2 rfl rfl) (Around01_any az ((exprF y).length:Int) _ (by omega) haz)) (fun _ _ h=>h.2) rfl ?_
   rintro _ wk ⟨rfl,hT⟩
   have hrq:=around_range (if az<0 then -(az+1) else az) ((exprF y).length:Int) (by omega)
   generalize (if az<0 then -(az+1) else az) % ((exprF y).length:Int)=q at hrq ⊢
   obtain ⟨kq,rfl⟩:∃ k:Nat,q=(k:Int):=⟨q.toNat,by omega⟩
   have hkq:kq<(exprF y).length:=by omega
   replace k4:=k4.up hT
   replace k5:=k5.up hT
   replace k8:=k8.up hT
   replace hc0:=hc0.up hT
   replace hsl:=hsl.up hT
   replace hrow:=hrow.up hT
   replace hA:=hA.trans hT
   clear hT
   refine D ?_
   refine WD_late0 rfl trivial (OE_storeEl (i:=kq) (y':=by_) rfl rfl rfl rfl hrow (by simp) hkq) rfl ?_
   clear hrow hsl
   rintro _ wl ⟨hrow,hT⟩
   replace k4:=k4.ext hT n4c
   replace k5:=k5.ext hT n5c
   replace hc0:=hc0.ext (X':=[]) hT (fun b hb=>by simp [hb]) (by simp)
   replace hA:=hA.own hT (fun b hb=>.inr (goc b hb))
   clear hT k8
   have hs2:=hrow.slv (X:=[]) (by simp)
   generalize (exprF y).set kq by_=L2 at *
   generalize exprF y=L1 at *
   clear hrow n4c n5c goc
   have hS3:=hS.trans hA
   have hs3:=hraw.up hS3
   replace hcal:=hcal.up hA
   clear hS hA hraw he hver
   obtain ⟨p1,c1,e1,-⟩:=id hc0
   obtain ⟨p2,c2,e2,-⟩:=id hs2
   obtain ⟨p3,c3,e3,-⟩:=id hs3
   subst e1 e2 e3
   refine D ?_
   refine W ?_
   refine WL_eff (OE_buildSlice (vs:=[(0,.slice p1 L1.length c1),(1,.slice p2 L2.length c2),(2,.slice p3 raw.length c3)]) rfl (buildSSI _ _ _ _ _ _ _ _ _)) rfl ?_
   rintro av wz hN
   have hav:SlV [] wz av [Sl.mk L1,Sl.mk L2,Sl.mk raw]:=hN.slvS (vs:=[.slice p1 L1.length c1,.slice p2 L2.length c2,.slice p3 raw.length c3]) (by simp) rfl rfl (fun i hi hi'=>by
    have hi3:i=0∨i=1∨i=2:=by simp at hi;omega
    rcases hi3 with rfl|rfl|rfl
    exact hc0
    exact hs2
    exact hs3) (by simp [maxLen])
   have hT:=NewSl.stp hN
   replace k4:=k4.up hT
   replace k5:=k5.up hT
   replace hcal:=hcal.up hT
   replace hS3:=hS3.trans hT
   clear hT hN hc0 hs2 hs3
   have hl3:([Sl.mk L1,Sl.mk L2,Sl.mk raw]:List (Sl Ins)).length=3:=rfl
   generalize ([Sl.mk L1,Sl.mk L2,Sl.mk raw]:List (Sl Ins))=all at *
   refine W ?_
   have hav0:=hav
   have k40:=k4
   have k50:=k5
   have hcal0:=hcal
   refine WC_loop (σ:=Nat) (fun i=>[(12,.pointer (some ⟨b4,0,none⟩)),(13,.pointer (some ⟨b5,0,none⟩)),(14,.int .i64 kn),(18,av),(19,.int .i64 (i:Int))]) (fun i w'=>i≤3∧Stp [] wz w') (fun i=>3 - i) 0 ⟨rfl,rfl,rfl,rfl,rfl,trivial⟩ ⟨Nat.zero_le _,Stp.refl _ _⟩ ?_
   clear hav k4 k5 hcal
   rintro i wi ⟨hi,hB⟩
   have hav:=hav0.up hB
   have k4:=k40.up hB
   have k5:=k50.up hB
   have hcal:=hcal0.up hB
   by_cases hlt:i<3
   have hli:i<all.length:=by omega
   have hlt2:(i:Int)<3:=by omega
   obtain ⟨u,hu,hsu⟩:=hav.sub hli
   focus repeat' (first|refine W1 ?_|omega|(refine VG ?_ ?_<;>intro hg)|(refine VC ?_ ?_<;>intro hc))
   refine WL_pure (PR_load1 rfl rfl hu) rfl ?_
   refine W ?_
   refine CL rfl (evs1 rfl) rfl (VerifyR_any u all[i].l _ hsu) ?_
   rintro _ wv ⟨rfl,hT⟩
   replace hu:=cell_on hav hli hT hu
   replace hav:=hav.up hT
   replace k4:=k4.up hT
   replace k5:=k5.up hT
   replace hcal:=hcal.up hT
   replace hsu:=hsu.up hT
   replace hB:=hB.trans hT
   clear hT
   by_cases hv:(verM all[i].l).2=0
   · have hvr:verM all[i].l=((verM all[i].l).1,0):=Prod.ext rfl hv
     rw [hv]
     repeat' (first|refine W1 ?_|omega|(refine VG ?_ ?_<;>intro hg)|(refine VC ?_ ?_<;>intro hc))
     all_goals try (exact absurd rfl (by assumption))
     refine WC_drawn 15 [] [] [(0,0),(1,0),(2,0),(3,1),(4,1),(5,1),(6,0),(7,2),(8,0),(9,0),(10,0),(11,0),(12,0),(13,0),(14,0)] rfl mixed (by kernel_rfl) (by kernel_rfl) (by kernel_rfl) (fun w1 hS1=>?_)
     have hT:=hS1
     clear hS1
     replace hu:=cell_on hav hli hT hu
     replace hav:=hav.up hT
     replace k4:=k4.up hT
     replace k5:=k5.up hT
     replace hcal:=hcal.up hT
     replace hsu:=hsu.up hT
     replace hB:=hB.trans hT
     clear hT
     refine D ?_
     refine WD_read rfl trivial (fun w' hS'=>PR_load1 rfl rfl (cell_on hav hli hS' hu)) rfl ?_
     refine D ?_
     refine WD_eff rfl trivial (OE_call rfl (evs4 rfl rfl rfl rfl) (Run16_any u all[i].l _ kn ev c hv_ cv zo zs hr _ hsu hvr hcal hev2 ho)) (fun _ _ h=>h.choose_spec.2.2) rfl ?_
     rintro _ wr ⟨pv,rfl,hp⟩
     have hsp:=hp.slv (X:=[]) (by simp)
     have hT:=hp.2
     clear hp
     replace hu:=cell_on hav hli hT hu
     replace hav:=hav.up hT
     replace k4:=k4.up hT
     replace k5:=k5.up hT
     replace hcal:=hcal.up hT
     replace hsu:=hsu.up hT
     replace hB:=hB.trans hT
     clear hT
     refine D ?_
     refine W ?_
     refine WC_drawn 12 [] [] [(0,0),(1,0),(2,0),(3,1),(4,1),(5,1),(6,0),(7,0),(8,0),(9,0),(10,2),(11,0)] rfl mixed (by kernel_rfl) (by kernel_rfl) (by kernel_rfl) (fun w1 hS1=>?_)
     have hT:=hS1
     clear hS1
     replace hsp:=hsp.up hT
     replace hu:=cell_on hav hli hT hu
     replace hav:=hav.up hT
     replace k4:=k4.up hT
     replace k5:=k5.up hT
     replace hcal:=hcal.up hT
     replace hsu:=hsu.up hT
     replace hB:=hB.trans hT
     clear hT
     refine D ?_
     refine WD_read rfl trivial (fun w' hS'=>PR_load1 rfl rfl (cell_on hav hli hS' hu)) rfl ?_
     refine D ?_
     refine WD_eff rfl trivial (OE_call rfl (evs7 rfl rfl rfl rfl rfl rfl rfl) (same_any u pv all[i].l _ kn _ _ _ ev c hv_ cv zo zs hr _ hsu hvr hcal hev2 ho hsp rfl)) (fun _ _ h=>h.2) rfl ?_
     rintro _ ws ⟨rfl,hT⟩
     replace hu:=cell_on hav hli hT hu
     replace hav:=hav.up hT
     replace k4:=k4.up hT
     replace k5:=k5.up hT
     replace hcal:=hcal.up hT
     replace hsu:=hsu.up hT
     replace hB:=hB.trans hT
     clear hT
     refine D ?_
     repeat' (first|refine W1 ?_|omega|(refine VG ?_ ?_<;>intro hg)|(refine VC ?_ ?_<;>intro hc))
     all_goals try (exact absurd rfl (by assumption))
     exact WQ_loop (i+1) ⟨rfl,rfl,rfl,rfl,rfl,trivial⟩ ⟨hlt,hB⟩ (by omega)
   · repeat' (first|refine W1 ?_|omega|(refine VG ?_ ?_<;>intro hg)|(refine VC ?_ ?_<;>intro hc))
     all_goals try (exact absurd (by assumption) hv)
     exact WQ_loop (i+1) ⟨rfl,rfl,rfl,rfl,rfl,trivial⟩ ⟨hlt,hB⟩ (by omega)
   have hi3:i=3:=by omega
   subst hi3
   have hS:=hS3.trans hB
   focus repeat' (first|refine W1 ?_|omega|(refine VG ?_ ?_<;>intro hg)|(refine VC ?_ ?_<;>intro hc))
   refine CL rfl evs0 rfl (lives16_any er m _ (hL.up hS) (hM.up hS) (hS.cell (by simp) hm) (hS.cell (by simp) hv4) hev4) ?_
   rintro _ wl ⟨rfl,hT⟩
   replace hS:=hS.trans hT
   clear hT
   refine W ?_
   refine WR ?_
   exact .mk ⟨rfl,hS⟩
 · repeat' (first|refine W1 ?_|omega|(refine VG ?_ ?_<;>intro hg)|(refine VC ?_ ?_<;>intro hc))
   all_goals try (exact absurd rfl (by assumption))
   replace hS:=hS.trans hA
   refine CL rfl evs0 rfl (lives16_any er m _ (hL.up hS) (hM.up hS) (hS.cell (by simp) hm) (hS.cell (by simp) hv4) hev4) ?_
   rintro _ wl ⟨rfl,hT⟩
   replace hS:=hS.trans hT
   clear hT
   refine W ?_
   refine WR ?_
   exact .mk ⟨rfl,hS⟩
end Go.Proofs.YtjdjdoefppebkaaGreatDoor
namespace Go.Eng
open Go Go.RowKit Go.Proofs
def Laid1 (P:Program) (w:World) (n:String) (d:DataW Unit):Prop:=∃ g t cs fuel p,P.globalNamed n=some g∧(P.globals[g]?).map (·.type)=some t∧w.var? P n=some cs∧DataW.trod (fun _=>()) P w 0 (fun _=>true) false fuel t cs.toList=some (d,p)
theorem laid1_of {P:Program} {w:World}:∀ (l:List (String×DataW Unit)) (ps:List MemPlace),DataW.LaidVars P w l ps→∀ (n:String) (d:DataW Unit),(n,d)∈l→Laid1 P w n d
 | [],_,_,n,d,h=>by simp at h
 | (n0, d0) :: r, ps, hl, n, d, h => by
   obtain ⟨g,t,cs,fuel,p,q,h1,h2,h3,h4,h5,_⟩:=hl
   rcases List.mem_cons.1 h with h|h
   cases h
   exact ⟨g,t,cs,fuel,p,h1,h2,h3,h4⟩
   exact laid1_of r q h5 n d h
theorem laid1_tab {P:Program} {w:World} {name:String} {g t e n:Nat} {k:IntKind} {zs:List Int} (h:Laid1 P w name (Lib.tabData k zs)) (hg:P.globalNamed name=some g) (hty:(P.globals[g]?).map (·.type)=some t) (ht:P.underlying t=some (.array n e)) (he:P.underlying e=some (.int k)) (hce:P.cellsOf e=1) (hct:P.cellsOf t=n):Lib.TabIs P w name k zs:=by
 obtain ⟨g',t',cs,fuel,p,hg',ht',hvar,hd⟩:=h
 obtain rfl:=Option.some.inj (hg.symm.trans hg')
 obtain rfl:=Option.some.inj (hty.symm.trans ht')
 unfold Lib.TabIs
 rw [hvar,← Lib.cells_of_tab ht he hce hct hd]
theorem laid1_iface {P:Program} {W:World} {name:String} {g t:Nat} {ms:Array (String×TypeId)} {d:DataW Unit} (hg:P.globalNamed name=some g) (ht:(P.globals[g]?).map (·.type)=some t) (hu:P.underlying t=some (.interface ms)) (h:Laid1 P W name d) :
 ∃ er,W.cell? ⟨g,0,none⟩=some er∧(er=.nilIface∨∃ te pe,er=.iface te pe):=by
 obtain ⟨g0,t0,cs0,f0,p0,hg0,ht0,hv0,hd0⟩:=h
 obtain rfl:=Option.some.inj (hg.symm.trans hg0)
 obtain rfl:=Option.some.inj (ht.symm.trans ht0)
 have hv:=World.var?_cell hg0 hv0 0
 rw [hv]
 rw [← Array.getElem?_toList]
 generalize cs0.toList=cs at *
 cases f0 with
 | zero=>simp [DataW.trod] at hd0
 | succ f =>
   unfold DataW.trod at hd0
   rw [hu] at hd0
   match cs,hd0 with
   | [],hd0=>simp at hd0
   | a :: b :: r,hd0=>simp at hd0
   | [x], hd0 =>
     refine ⟨x,rfl,?_⟩
     cases x with
     | nilIface=>exact .inl rfl
     | iface u v=>exact .inr ⟨u,v,rfl⟩
     | _=>simp at hd0
end Go.Eng
namespace Go.Proofs.YtjdjdoefppebkaaGreatDoor
open Go Go.Eng Go.RowKit Go.Proofs
open Go Go.Eng Go.RowKit Go.Proofs Go.ChangeShapes Go.WideShapes Go.Deep
theorem movesData {W:World} (h:Laid1 Tryz.prog W "rollbook/holiday.moves" Rows.laid_rollbook_holiday_moves):MovG W:=by
 obtain ⟨g0,t0,cs0,f0,p0,hg0,ht0,hv0,hd0⟩:=h
 have hg:Tryz.prog.globalNamed "rollbook/holiday.moves" = some 3:=by kernel_rfl
 have ht:(Tryz.prog.globals[3]?).map (·.type)=some 345:=by kernel_rfl
 obtain rfl:=Option.some.inj (hg.symm.trans hg0)
 obtain rfl:=Option.some.inj (ht.symm.trans ht0)
 obtain ⟨xs,m1,rfl,hx1,hlen,hn3,hel⟩:=DataW.trod_array Tryz.underlying345 hd0
 have hc7:Tryz.prog.cellsOf 83=7:=by kernel_rfl
 have e3:(Rows.laid_rollbook_holiday_moves:DataW Unit)=.agg (xs.map (·.1)):=congrArg Prod.fst hx1
 have e4:(.agg [Lib.tabData .i64 [0,0,0,0,0,0,0],Lib.tabData .i64 [0,0,0,0,0,2,1],Lib.tabData .i64 [0,0,0,0,0,-1,1]]:DataW Unit)=.agg (xs.map (·.1)):=e3
 simp only [DataW.agg.injEq] at e4
 have row:∀ (k:Nat) (zs:List Int),k<3→[Lib.tabData .i64 [0,0,0,0,0,0,0],Lib.tabData .i64 [0,0,0,0,0,2,1],(Lib.tabData .i64 [0,0,0,0,0,-1,1]:DataW Unit)][k]?=some (Lib.tabData .i64 zs)→(cs0.toList.drop (k * 7)).take 7=zs.map fun z=>Value.int .i64 z:=by
  intro k zs hk hz
  have h1:=hel k hk
  rw [hc7] at h1
  rw [e4,List.getElem?_map] at hz
  cases hx:xs[k]? with
  | none=>rw [hx] at hz;cases hz
  | some y =>
    rw [hx] at hz h1
    have hy:y=(Lib.tabData .i64 zs,y.2):=Prod.ext (Option.some.inj hz) rfl
    rw [hy] at h1
    exact Lib.cells_of_tab (t:=83) (e:=3) (n:=7) Tryz.underlying83 Tryz.underlying3 (by kernel_rfl) hc7 h1
 have r0:=row 0 _ (by omega) rfl
 have r1:=row 1 _ (by omega) rfl
 have r2:=row 2 _ (by omega) rfl
 have hcell:∀ (k:Nat) (zs:List Int) (j:Nat),(cs0.toList.drop (k * 7)).take 7=(zs.map fun z=>Value.int .i64 z)→j<7→j<zs.length→cs0.toList[k * 7+j]?=some (.int .i64 (zs.getD j 0)):=by
  intro k zs j hr hj hjl
  have h6:=congrArg (fun l=>l[j]?) hr
  simp only [List.getElem?_take,List.getElem?_drop,List.getElem?_map,if_pos hj] at h6
  rw [h6]
  simp [List.getD,hjl]
 intro i u hu
 have hi:=(List.getElem?_eq_some_iff.1 hu).1
 have hi21:i<21:=hi
 have hv:=World.var?_cell hg hv0 i
 rw [hv,← Array.getElem?_toList]
 by_cases h7:i<7
 have h2:=hcell 0 _ i r0 h7 (by simpa using h7)
 rw [show 0 * 7+i=i by omega] at h2
 rw [h2]
 have hk:i=0∨i=1∨i=2∨i=3∨i=4∨i=5∨i=6:=by omega
 rcases hk with rfl|rfl|rfl|rfl|rfl|rfl|rfl<;>(simp [movesL] at hu;subst hu;rfl)
 by_cases h14:i<14
 have h2:=hcell 1 _ (i - 7) r1 (by omega) (by simp;omega)
 rw [show 1 * 7+(i - 7)=i by omega] at h2
 rw [h2]
 have hk:i=7∨i=8∨i=9∨i=10∨i=11∨i=12∨i=13:=by omega
 rcases hk with rfl|rfl|rfl|rfl|rfl|rfl|rfl<;>(simp [movesL] at hu;subst hu;rfl)
 have h2:=hcell 2 _ (i - 14) r2 (by omega) (by simp;omega)
 rw [show 2 * 7+(i - 14)=i by omega] at h2
 rw [h2]
 have hk:i=14∨i=15∨i=16∨i=17∨i=18∨i=19∨i=20:=by omega
 rcases hk with rfl|rfl|rfl|rfl|rfl|rfl|rfl<;>(simp [movesL] at hu;subst hu;rfl)
abbrev laid7b:List (String×DataW Unit):=[("math/bits.deBruijn32tab",Rows.laid_math_bits_deBruijn32tab),("math/bits.deBruijn64tab",Rows.laid_math_bits_deBruijn64tab),("internal/strconv.uint64pow10",Rows.laid_internal_strconv_uint64pow10),("strconv.ErrRange",Rows.laid_strconv_ErrRange),("strconv.ErrSyntax",Rows.laid_strconv_ErrSyntax),("rollbook/date.lengths",Rows.laid_rollbook_date_lengths),("rollbook/holiday.moves",Rows.laid_rollbook_holiday_moves)]
theorem lengthsData {W:World} (h1:Laid1 Tryz.prog W "rollbook/date.lengths" Rows.laid_rollbook_date_lengths):LenG W:=by
 have h2:=laid1_tab (k:=.i64) (zs:=lengthsL) (g:=1) (t:=322) (e:=3) (n:=13) h1 (by kernel_rfl) (by kernel_rfl) Tryz.underlying322 Tryz.underlying3 (by kernel_rfl) (by kernel_rfl)
 intro i u hu
 have hi:=(List.getElem?_eq_some_iff.1 hu).1
 rw [Lib.TabIs.cell h2 (g:=1) (by kernel_rfl) i hi]
 simp [List.getD,hu]
structure LaidV (W:World):Prop where
 len:LenG W
 mov:MovG W
 err:∃ er,W.cell? ⟨5,0,none⟩=some er∧(er=.nilIface∨∃ te pe,er=.iface te pe)
theorem laidV_of {W:World} {l:List (String×DataW Unit)} {ps:List MemPlace} (h:DataW.LaidVars Tryz.prog W l ps) (h1:("rollbook/date.lengths",Rows.laid_rollbook_date_lengths)∈l) (h2:("rollbook/holiday.moves",Rows.laid_rollbook_holiday_moves)∈l) (h3:("strconv.ErrRange",Rows.laid_strconv_ErrRange)∈l):LaidV W :=
 ⟨lengthsData (laid1_of _ _ h _ _ h1),movesData (laid1_of _ _ h _ _ h2),laid1_iface (g:=5) (t:=303) (by kernel_rfl) (by kernel_rfl) Tryz.underlying303 (laid1_of _ _ h _ _ h3)⟩
theorem laid7b_vars {W:World} (h:laidMetH Tryz.prog laid7b W):LaidV W:=by
 rw [MakeChecks.laidMetH_plain _ _ _ (by kernel_rfl)] at h
 obtain ⟨ps,h,_⟩:=h
 exact laidV_of h (by simp [laid7b]) (by simp [laid7b]) (by simp [laid7b])
section
variable {H:Type} {enc:TypeId×Value→H} {w:World} {base:Nat} {spare:Nat→Bool} {held:Bool}
theorem kInts:Tryz.prog.cellsOf 22=1:=by kernel_rfl
theorem kCase:Tryz.prog.cellsOf 24=5:=by kernel_rfl
set_option maxRecDepth 100000 in
theorem case_read {r:Reach} {b0:Nat} {v:Value} {d:DataW H} {p:List MemPlace} (hv:Value.okWide Tryz.prog w r b0 24 v) (h:DataW.Trod enc Tryz.prog w base spare held 24 v d p) :
 ∃ (v0 v1 v2:Value) (kd kz:Int) (l0 l1 l2:List Int),v=caseA v0 v1 v2 kd kz∧SlV [] w v0 l0∧SlV [] w v1 l1∧SlV [] w v2 l2∧(∀ x∈l0,I64 x)∧(∀ x∈l1,I64 x)∧(∀ x∈l2,I64 x)∧I64 kd∧I64 kz:=by
 obtain ⟨cs,rfl,hsz⟩:=okWide_struct Tryz.underlying24 hv
 obtain ⟨fuel,h⟩:=h
 obtain ⟨xs,n,rfl,hx,hlen,hxl,hf⟩:=DataW.trod_struct Tryz.underlying24 h
 rw [kCase] at hlen
 have h0:DataW.trod enc Tryz.prog w base spare held n 22 (((Value.agg cs).cells.toList.drop 0).take (Tryz.prog.cellsOf 22))=xs[0]?:=hf 0 _ rfl
 have h1:DataW.trod enc Tryz.prog w base spare held n 22 (((Value.agg cs).cells.toList.drop 1).take (Tryz.prog.cellsOf 22))=xs[1]?:=hf 1 _ rfl
 have h2:DataW.trod enc Tryz.prog w base spare held n 22 (((Value.agg cs).cells.toList.drop 2).take (Tryz.prog.cellsOf 22))=xs[2]?:=hf 2 _ rfl
 have h3:DataW.trod enc Tryz.prog w base spare held n 3 (((Value.agg cs).cells.toList.drop 3).take (Tryz.prog.cellsOf 3))=xs[3]?:=hf 3 _ rfl
 have h4:DataW.trod enc Tryz.prog w base spare held n 3 (((Value.agg cs).cells.toList.drop 4).take (Tryz.prog.cellsOf 3))=xs[4]?:=hf 4 _ rfl
 rw [k3] at h3 h4
 rw [kInts] at h0 h1 h2
 have hcs:(Value.agg cs).cells.toList=cs.toList:=rfl
 rw [hcs] at h0 h1 h2 h3 h4 hlen
 rw [← Array.toArray_toList (xs:=cs)]
 generalize cs.toList=cl at *
 match cl,hlen,xs,hxl with
 | [c0, c1, c2, c3, c4], _, [y0, y1, y2, y3, y4], _ =>
   simp only [List.drop,List.take] at h0 h1 h2 h3 h4
   obtain ⟨a,e3,-,ha⟩:=DataW.trod_int Tryz.underlying3 h3
   obtain ⟨b,e4,-,hb⟩:=DataW.trod_int Tryz.underlying3 h4
   obtain ⟨u0,l0,e0,hs0,hok0,-⟩:=slv_ints Tryz.underlying22 (by kernel_rfl) Tryz.underlying3 h0
   obtain ⟨u1,l1,e1,hs1,hok1,-⟩:=slv_ints Tryz.underlying22 (by kernel_rfl) Tryz.underlying3 h1
   obtain ⟨u2,l2,e2,hs2,hok2,-⟩:=slv_ints Tryz.underlying22 (by kernel_rfl) Tryz.underlying3 h2
   obtain rfl:=(List.cons.inj e0).1
   obtain rfl:=(List.cons.inj e1).1
   obtain rfl:=(List.cons.inj e2).1
   obtain rfl:=(List.cons.inj e3).1
   obtain rfl:=(List.cons.inj e4).1
   exact ⟨c0,c1,c2,a,b,l0,l1,l2,rfl,hs0,hs1,hs2,hok0,hok1,hok2,by simpa [I64,Lit.wf,IntKind.min,IntKind.max,IntKind.signed,IntKind.bits] using ha,by simpa [I64,Lit.wf,IntKind.min,IntKind.max,IntKind.signed,IntKind.bits] using hb⟩
theorem okWide_array {P:Program} {t e:TypeId} {n b0:Nat} {r:Reach} {v:Value} (ht:P.underlying t=some (.array n e)) (h:Value.okWide P w r b0 t v):∃ cs,v=.agg cs∧cs.size=P.cellsOf t:=by
 simp only [Value.okWide,ht] at h
 obtain ⟨cs,h1,h2,_⟩:=h
 exact ⟨cs,h1,h2⟩
theorem arr_read {P:Program} {t e:TypeId} {n b0:Nat} {r:Reach} {v:Value} {d:DataW H} {p:List MemPlace} (ht:P.underlying t=some (.array n e)) (he:P.underlying e=some (.int .i64)) (hce:P.cellsOf e=1) (hct:P.cellsOf t=n) (hv:Value.okWide P w r b0 t v) (h:DataW.Trod enc P w base spare held t v d p) :
 ∃ zs:List Int,zs.length=n∧v=.agg (zs.map fun z=>Value.int .i64 z).toArray∧∀ z∈zs,I64 z:=by
 obtain ⟨cs,rfl,hsz⟩:=okWide_array ht hv
 obtain ⟨fuel,h⟩:=h
 obtain ⟨xs,m,rfl,hx,hlen,hxl,hel⟩:=DataW.trod_array ht h
 have hcs:(Value.agg cs).cells.toList=cs.toList:=rfl
 rw [hcs] at hel hlen
 rw [hct] at hsz
 have hall:∀ i:Fin n,∃ z:Int,cs.toList[i.val]?=some (.int .i64 z)∧I64 z:=by
  intro i
  have h1:=hel i.val i.2
  rw [hce,Nat.mul_one] at h1
  have hi:i.val<xs.length:=by rw [hxl];exact i.2
  rw [List.getElem?_eq_getElem hi] at h1
  obtain ⟨z,e1,_,hz⟩:=DataW.trod_int he h1
  refine ⟨z,?_,by simpa [I64,Lit.wf,IntKind.min,IntKind.max,IntKind.signed,IntKind.bits] using hz⟩
  have h2:=congrArg (fun l=>l[0]?) e1
  simpa [List.getElem?_take,List.getElem?_drop] using h2
 obtain ⟨f,hf⟩:=Classical.axiomOfChoice hall
 refine ⟨List.ofFn f,by simp,?_,?_⟩
 have:cs.toList=(List.ofFn f).map fun z=>Value.int .i64 z:=by
  apply List.ext_getElem?
  intro i
  by_cases hi:i<n
  have:=(hf ⟨i,hi⟩).1
  rw [this]
  simp [hi]
  rw [List.getElem?_eq_none (by simpa [hsz] using hi),List.getElem?_eq_none (by simpa using hi)]
 rw [← this]
 intro z hz
 obtain ⟨i,rfl⟩:=(List.mem_ofFn).1 hz
 exact (hf i).2
set_option maxRecDepth 100000 in
theorem ins_read {r:Reach} {b0:Nat} {v:Value} {d:DataW H} {p:List MemPlace} (hv:Value.okWide Tryz.prog w r b0 51 v) (h:DataW.Trod enc Tryz.prog w base spare held 51 v d p):∃ x:Ins,v=agg x:=by
 obtain ⟨cs,rfl,hsz⟩:=okWide_struct Tryz.underlying51 hv
 obtain ⟨fuel,h⟩:=h
 have hl:cs.toList.length=2:=by
  have hc:Tryz.prog.cellsOf 51=2:=by kernel_rfl
  rw [hc] at hsz
  simpa using hsz
 obtain ⟨zs,h1,h2,-⟩:=intStruct_spec (k:=2) (by kernel_rfl) hl h
 match zs,h1 with
 | [a, b], _ =>
   refine ⟨⟨a,b⟩,?_⟩
   have hcs:cs.toList=[.int .i64 a,.int .i64 b]:=h2
   rw [← Array.toArray_toList (xs:=cs),hcs]
   rfl
end
section
variable {P:Program} {H:Type} {enc:TypeId×Value→H} {w:World} {base:Nat} {spare:Nat→Bool} {held:Bool}
theorem trodAll_five {t t1 t2 t3 t4:TypeId} {args:Array Value} {ds:List (DataW H)} {ps:List MemPlace} (h:DataW.TrodAll enc P w base spare held [t,t1,t2,t3,t4] args.toList ds ps) :
 ∃ v v1 v2 v3 v4 d d1 d2 d3 d4 p p1 p2 p3 p4,args=#[v,v1,v2,v3,v4]∧ds=[d,d1,d2,d3,d4]∧ps=p++p1++p2++p3++p4∧DataW.Trod enc P w base spare held t v d p∧DataW.Trod enc P w base spare held t1 v1 d1 p1∧DataW.Trod enc P w base spare held t2 v2 d2 p2∧DataW.Trod enc P w base spare held t3 v3 d3 p3∧DataW.Trod enc P w base spare held t4 v4 d4 p4:=by
 obtain ⟨v,vs,d,ds0,p,q,hargs,rfl,rfl,hd,hrest⟩:=trodAll_cons h
 obtain ⟨v1,vs1,d1,ds1,p1,q1,rfl,rfl,rfl,hd1,hrest1⟩:=trodAll_cons hrest
 obtain ⟨v2,vs2,d2,ds2,p2,q2,rfl,rfl,rfl,hd2,hrest2⟩:=trodAll_cons hrest1
 obtain ⟨v3,vs3,d3,ds3,p3,q3,rfl,rfl,rfl,hd3,hrest3⟩:=trodAll_cons hrest2
 obtain ⟨v4,vs4,d4,ds4,p4,q4,rfl,rfl,rfl,hd4,hrest4⟩:=trodAll_cons hrest3
 obtain ⟨rfl,rfl,rfl⟩:=trodAll_nil hrest4
 exact ⟨v,v1,v2,v3,v4,d,d1,d2,d3,d4,p,p1,p2,p3,p4,by cases args;simp_all,rfl,by simp,hd,hd1,hd2,hd3,hd4⟩
end
end Go.Proofs.YtjdjdoefppebkaaGreatDoor
namespace Go.Eng
open Go Go.RowKit Go.Proofs Go.ChangeShapes Go.WideShapes Go.Deep
def noGo (P:Program) (lo n:Nat):Bool:=(List.range n).all fun i=>!((P.funcs[lo+i]?).any Func.goes)
theorem noGo_at {P:Program} {lo n g:Nat} (h:noGo P lo n=true) (h1:lo≤g) (h2:g<lo+n):(P.funcs[g]?).any Func.goes=false:=by
 have:=List.all_eq_true.1 h (g - lo) (List.mem_range.2 (by omega))
 rw [show lo+(g - lo)=g by omega] at this
 simpa using this
theorem goes_of {P:Program} (h:∀ g:Nat,(P.funcs[g]?).any Func.goes=false) {c:OpenClaim} (hs:c.start=.entering):false=c.goesBy P:=by
 symm
 have hall:P.funcs.any Func.goes=false:=by
  rw [Array.any_eq_false]
  intro i hi hg
  have:=h i
  rw [Array.getElem?_eq_getElem hi] at this
  simp only [Option.any_some] at this
  rw [this] at hg
  cases hg
 have hgo:∀ f,P.goes f=false:=by
  intro f
  unfold Program.goes
  rw [hall,Bool.and_false,Bool.or_false]
  rw [Bool.eq_false_iff]
  intro hc
  have hc2:=hc
  simp [h] at hc2
 unfold OpenClaim.goesBy Program.goesAt Program.goesFrom
 rw [hs]
 cases hf:P.funcNamed c.func with
 | none=>rfl
 | some f=>simp [hgo]
theorem joined_parts {P:Program} {f:FuncId} {fn:Func} {s:ChangeSpec} {c:OpenClaim} (a1:c.wf (OpenSpec.ofChange s)=true) (a2:laidOutB P=true) (a3:mapsRowed P=true) (a4:fn.params.all (P.readableRec ·)=true) (a5:namedTie P c.named s.vars=true)
 (a6:((c.stops == []) && (P.stops == []) && (c.knobs == []) && (P.stopKnobs == []))=true)
 (h2:(c.inPlace == P.inPlace f)=true) (h3:(c.unfollowed == P.unfollowed f)=true) (h4:(c.recurses == P.recurses f)=true) (h5:(c.named == P.varsNamed f)=true)
 (h6 : ((c.maps == (fn.params.toList ++ s.plain.varTypes P).any (P.mapsRec ·)) && (c.ifaces == (fn.params.toList ++ s.plain.varTypes P).any (P.ifacesRec ·)) && (c.mapsOut == P.mapsAmong fn.resultTypes.toList) &&
   (c.loops == (fn.params.toList++s.plain.varTypes P).any (P.loopsFrom ·)) && (c.wideKeys == (fn.params.toList++s.plain.varTypes P++fn.resultTypes.toList).any (P.wideKeysFrom ·)) &&
   s.vars.all (P.varReadable ·) && fn.resultTypes.all (fun t=>P.readableRec t && decide (t<P.types.size)) && (c.ifacesOut == fn.resultTypes.toList.any (P.ifacesRec ·)) && (c.loopsOut == fn.resultTypes.toList.any (P.loopsFrom ·)) && (c.plainKeys == P.plainKeys) && c.shortTexts.isNone && P.stopsHeard && P.mayEnter && (c.lifted == P.liftsFinal) && (P.make == some c.make) && (c.kinds == (if c.domain.isEmpty then [] else fn.params.toList.map fun t=>match P.underlying t with|some (.int k)=>some k|_=>none)) && (c.pinned == c.pinnedBy) &&
   (c.veiled == (fn.params.toList++s.plain.varTypes P++fn.resultTypes.toList).any (P.veiledRec ·)) && c.veiledFits P fn.params.toList (fn.params.toList++s.plain.varTypes P++fn.resultTypes.toList))=true) :
 joinedFacts P f fn s c=true:=by
 simp only [Bool.and_eq_true] at a6 h6
 unfold joinedFacts
 simp only [Bool.and_eq_true]
 exact ⟨⟨⟨⟨⟨⟨⟨⟨⟨⟨⟨⟨⟨⟨⟨⟨⟨⟨⟨⟨⟨⟨⟨⟨⟨⟨⟨⟨⟨⟨⟨a1,a2⟩,a3⟩,a4⟩,a5⟩,a6.1.1.1⟩,a6.1.1.2⟩,a6.1.2⟩,a6.2⟩,h2⟩,h3⟩,h4⟩,h5⟩,h6.1.1.1.1.1.1.1.1.1.1.1.1.1.1.1.1.1.1⟩,h6.1.1.1.1.1.1.1.1.1.1.1.1.1.1.1.1.1.2⟩,h6.1.1.1.1.1.1.1.1.1.1.1.1.1.1.1.1.2⟩,h6.1.1.1.1.1.1.1.1.1.1.1.1.1.1.1.2⟩,h6.1.1.1.1.1.1.1.1.1.1.1.1.1.1.2⟩,h6.1.1.1.1.1.1.1.1.1.1.1.1.1.2⟩,h6.1.1.1.1.1.1.1.1.1.1.1.1.2⟩,h6.1.1.1.1.1.1.1.1.1.1.1.2⟩,h6.1.1.1.1.1.1.1.1.1.1.2⟩,h6.1.1.1.1.1.1.1.1.1.2⟩,h6.1.1.1.1.1.1.1.1.2⟩,h6.1.1.1.1.1.1.1.2⟩,h6.1.1.1.1.1.1.2⟩,h6.1.1.1.1.1.2⟩,h6.1.1.1.1.2⟩,h6.1.1.1.2⟩,h6.1.1.2⟩,h6.1.2⟩,h6.2⟩
end Go.Eng
namespace Go.Proofs.YtjdjdoefppebkaaGreatDoor
open Go Go.Eng Go.RowKit Go.Proofs Go.ChangeShapes Go.WideShapes Go.Deep
theorem law_maps:mapsRowed Tryz.prog=true:=by kernel_rfl
theorem law_size:Tryz.prog.funcs.size=404:=by kernel_rfl
theorem law_goes0:noGo Tryz.prog 0 34=true:=by kernel_rfl
theorem law_goes1:noGo Tryz.prog 34 34=true:=by kernel_rfl
theorem law_goes2:noGo Tryz.prog 68 34=true:=by kernel_rfl
theorem law_goes3:noGo Tryz.prog 102 34=true:=by kernel_rfl
theorem law_goes4:noGo Tryz.prog 136 34=true:=by kernel_rfl
theorem law_goes5:noGo Tryz.prog 170 34=true:=by kernel_rfl
theorem law_goes6:noGo Tryz.prog 204 34=true:=by kernel_rfl
theorem law_goes7:noGo Tryz.prog 238 34=true:=by kernel_rfl
theorem law_goes8:noGo Tryz.prog 272 34=true:=by kernel_rfl
theorem law_goes9:noGo Tryz.prog 306 34=true:=by kernel_rfl
theorem law_goes10:noGo Tryz.prog 340 34=true:=by kernel_rfl
theorem law_goes11:noGo Tryz.prog 374 34=true:=by kernel_rfl
theorem law_goes:∀ g:Nat,(Tryz.prog.funcs[g]?).any Func.goes=false:=fun g=>by
 by_cases h:g<404
 by_cases h0:g<34
 exact noGo_at law_goes0 (by omega) (by omega)
 by_cases h1:g<68
 exact noGo_at law_goes1 (by omega) (by omega)
 by_cases h2:g<102
 exact noGo_at law_goes2 (by omega) (by omega)
 by_cases h3:g<136
 exact noGo_at law_goes3 (by omega) (by omega)
 by_cases h4:g<170
 exact noGo_at law_goes4 (by omega) (by omega)
 by_cases h5:g<204
 exact noGo_at law_goes5 (by omega) (by omega)
 by_cases h6:g<238
 exact noGo_at law_goes6 (by omega) (by omega)
 by_cases h7:g<272
 exact noGo_at law_goes7 (by omega) (by omega)
 by_cases h8:g<306
 exact noGo_at law_goes8 (by omega) (by omega)
 by_cases h9:g<340
 exact noGo_at law_goes9 (by omega) (by omega)
 by_cases h10:g<374
 exact noGo_at law_goes10 (by omega) (by omega)
 exact noGo_at law_goes11 (by omega) (by omega)
 rw [Array.getElem?_eq_none (by rw [law_size];omega)]
 rfl
end Go.Proofs.YtjdjdoefppebkaaGreatDoor
