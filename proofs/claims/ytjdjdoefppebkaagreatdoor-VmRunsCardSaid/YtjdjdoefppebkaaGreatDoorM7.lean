/-
Merged by program out of own texts: Rvm2, Vla4, Arg20, Arg21, Gos1, Rvm3, Vla7.
-/
import Derived.Test.YtjdjdoefppebkaaGreatDoorM6
import Derived.JoinedOf
set_option linter.unusedVariables false
set_option linter.unusedSimpArgs false
namespace Go.Proofs.YtjdjdoefppebkaaGreatDoor
open Go Go.Eng Go.RowKit
theorem named16_any (i:Nat) (hi:i<7) (w:World):Calls Tryz.prog 113 #[str (fieldNames.getD i [])] w (Ret fun r w'=>r=.int .i64 (i:Int)∧Stp [] w w'):=by
 have hl7:fieldNames.length=7:=rfl
 refine calls_of_WC1 (n:=19) Tryz.func113 rfl rfl rfl ?_
 refine W ?_
 refine WL_eff (OE_buildSlice (vs:=[(0,str [100,97,121]),(1,str [115,101,114,118,101,100]),(2,str [101,120,116,114,97]),(3,str [98,121]),(4,str [116,111]),(5,str [99,111,117,114,116]),(6,str [97,109,111,117,110,116])]) rfl (buildSF7 _ _ _ _ _ _ _)) rfl ?_
 rintro sv w1 hN
 have hsv:SlV [] w1 sv fieldNames:=hN.slv (by simp) rfl rfl (by simp [maxLen,hl7])
 have hS:=NewSl.stp hN
 clear hN
 refine W ?_
 refine WC_loop (σ:=Nat) (fun q=>[(0,str (fieldNames.getD i [])),(3,sv),(4,.int .i64 (q:Int))]) (fun q w'=>q≤i∧w'=w1) (fun q=>7 - q) 0 ⟨rfl,rfl,rfl,trivial⟩ ⟨Nat.zero_le _,rfl⟩ ?_
 rintro q _ ⟨hq,rfl⟩
 have hql:q<fieldNames.length:=by omega
 have hqi:(q:Int)<(fieldNames.length:Int):=by omega
 by_cases hqe:q=i
 subst hqe
 focus repeat'(first|refine W1 ?_|omega|refine VG ?_ ?_<;>intro hg|refine VC ?_ ?_<;>intro hc)
 refine WR ?_
 exact .mk ⟨rfl,hS⟩
 rename_i hc
 exact absurd (names_at q hql) hc
 focus repeat'(first|refine W1 ?_|omega|refine VG ?_ ?_<;>intro hg|refine VC ?_ ?_<;>intro hc)
 rename_i hc
 exact absurd ((names_at q hql).symm.trans hc) (names_ne i hi q (by omega))
 exact WQ_loop (q+1) ⟨rfl,rfl,rfl,trivial⟩ ⟨by omega,rfl⟩ (by omega)
theorem unit16_any (s:Str) (w:World):Calls Tryz.prog 115 #[str s] w (Ret fun r w'=>r=.int .i64 (unitO s)∧w'=w):=by
 refine calls_of_WC1 (n:=10) Tryz.func115 rfl rfl rfl ?_
 unfold unitO
 by_cases h1:s=[100,97,121,115]
 subst h1
 focus repeat'(first|refine W1 ?_|omega|refine VG ?_ ?_<;>intro hg|refine VC ?_ ?_<;>intro hc)
 refine WR ?_
 exact .mk ⟨rfl,rfl⟩
 rw [if_neg h1]
 by_cases h2:s=[119,101,101,107,115]
 · subst h2
   repeat'(first|refine W1 ?_|omega|refine VG ?_ ?_<;>intro hg|refine VC ?_ ?_<;>intro hc)
   all_goals try (exact absurd rfl (by assumption))
   refine WR ?_
   exact .mk ⟨rfl,rfl⟩
 rw [if_neg h2]
 repeat'(first|refine W1 ?_|omega|refine VG ?_ ?_<;>intro hg|refine VC ?_ ?_<;>intro hc)
 all_goals try (exact absurd (by assumption) h1)
 all_goals try (exact absurd (by assumption) h2)
 rename_i hc
 refine WR ?_
 exact .mk ⟨by rw [if_pos hc],rfl⟩
 rename_i hc
 refine WR ?_
 exact .mk ⟨by rw [if_neg hc],rfl⟩
theorem function16_any (s:Str) (w:World):Calls Tryz.prog 114 #[str s] w (Ret fun r w'=>r=.int .i64 (funO s)∧w'=w):=by
 refine calls_of_WC1 (n:=12) Tryz.func114 rfl rfl rfl ?_
 unfold funO
 repeat'(first|refine W1 ?_|omega|refine VG ?_ ?_<;>intro hg|refine VC ?_ ?_<;>intro hc)
 all_goals refine WR ?_
 all_goals exact .mk ⟨by simp [*],rfl⟩
theorem binary16_any (s:Str) (a b:Int) (ha:Num a) (hb:Num b) (w:World):Calls Tryz.prog 116 #[str s,.int .i64 a,.int .i64 b] w (Ret fun r w'=>r=nums (binV s a b)∧w'=w):=by
 unfold Num at ha hb
 have hmul:-4611686018427387904≤a * b∧a * b≤4611686018427387904:=by
  have h1:(a * b).natAbs≤2147483647 * 2147483647:=by rw [Int.natAbs_mul];exact Nat.mul_le_mul (by omega) (by omega)
  omega
 refine calls_of_WC3 (n:=70) Tryz.func116 rfl rfl rfl ?_
 unfold binV
 by_cases h0:s=[43]
 · subst h0
   repeat'(first|refine W1 ?_|omega|refine VG ?_ ?_<;>intro hg|refine VC ?_ ?_<;>intro hc)
   all_goals try (exact absurd rfl (by assumption))
   refine CL rfl (evs1 rfl) rfl (number16_any (a+b) _) ?_
   rintro _ _ ⟨rfl,rfl⟩
   refine W ?_
   refine WR ?_
   exact .mk ⟨rfl,rfl⟩
 rw [if_neg h0]
 by_cases h1:s=[45]
 · subst h1
   repeat'(first|refine W1 ?_|omega|refine VG ?_ ?_<;>intro hg|refine VC ?_ ?_<;>intro hc)
   all_goals try (exact absurd rfl (by assumption))
   refine CL rfl (evs1 rfl) rfl (number16_any (a - b) _) ?_
   rintro _ _ ⟨rfl,rfl⟩
   refine W ?_
   refine WR ?_
   exact .mk ⟨rfl,rfl⟩
 rw [if_neg h1]
 by_cases h2:s=[42]
 · subst h2
   repeat'(first|refine W1 ?_|omega|refine VG ?_ ?_<;>intro hg|refine VC ?_ ?_<;>intro hc)
   all_goals try (exact absurd rfl (by assumption))
   refine CL rfl (evs1 rfl) rfl (number16_any (a * b) _) ?_
   rintro _ _ ⟨rfl,rfl⟩
   refine W ?_
   refine WR ?_
   exact .mk ⟨rfl,rfl⟩
 rw [if_neg h2]
 by_cases h3:s=[60]
 · subst h3
   repeat'(first|refine W1 ?_|omega|refine VG ?_ ?_<;>intro hg|refine VC ?_ ?_<;>intro hc)
   all_goals try (exact absurd rfl (by assumption))
   all_goals refine CL rfl (evs1 rfl) rfl (one16_any (decide (a<b)) _) ?_
   all_goals rintro _ _ ⟨rfl,rfl⟩
   all_goals refine W ?_
   all_goals refine WR ?_
   all_goals exact .mk ⟨rfl,rfl⟩
 rw [if_neg h3]
 by_cases h4:s=[60,61]
 · subst h4
   repeat'(first|refine W1 ?_|omega|refine VG ?_ ?_<;>intro hg|refine VC ?_ ?_<;>intro hc)
   all_goals try (exact absurd rfl (by assumption))
   all_goals refine CL rfl (evs1 rfl) rfl (one16_any (decide (a≤b)) _) ?_
   all_goals rintro _ _ ⟨rfl,rfl⟩
   all_goals refine W ?_
   all_goals refine WR ?_
   all_goals exact .mk ⟨rfl,rfl⟩
 rw [if_neg h4]
 by_cases h5:s=[61]
 · subst h5
   repeat'(first|refine W1 ?_|omega|refine VG ?_ ?_<;>intro hg|refine VC ?_ ?_<;>intro hc)
   all_goals try (exact absurd rfl (by assumption))
   all_goals refine CL rfl (evs1 rfl) rfl (one16_any (decide (a=b)) _) ?_
   all_goals rintro _ _ ⟨rfl,rfl⟩
   all_goals refine W ?_
   all_goals refine WR ?_
   all_goals exact .mk ⟨rfl,rfl⟩
 rw [if_neg h5]
 by_cases h6:s=[33,61]
 · subst h6
   repeat'(first|refine W1 ?_|omega|refine VG ?_ ?_<;>intro hg|refine VC ?_ ?_<;>intro hc)
   all_goals try (exact absurd rfl (by assumption))
   all_goals refine CL rfl (evs1 rfl) rfl (one16_any (decide (¬ a=b)) _) ?_
   all_goals rintro _ _ ⟨rfl,rfl⟩
   all_goals refine W ?_
   all_goals refine WR ?_
   all_goals exact .mk ⟨rfl,rfl⟩
 rw [if_neg h6]
 by_cases h7:s=[62]
 · subst h7
   repeat'(first|refine W1 ?_|omega|refine VG ?_ ?_<;>intro hg|refine VC ?_ ?_<;>intro hc)
   all_goals try (exact absurd rfl (by assumption))
   all_goals refine CL rfl (evs1 rfl) rfl (one16_any (decide (b<a)) _) ?_
   all_goals rintro _ _ ⟨rfl,rfl⟩
   all_goals refine W ?_
   all_goals refine WR ?_
   all_goals exact .mk ⟨rfl,rfl⟩
 rw [if_neg h7]
 by_cases h8:s=[62,61]
 · subst h8
   repeat'(first|refine W1 ?_|omega|refine VG ?_ ?_<;>intro hg|refine VC ?_ ?_<;>intro hc)
   all_goals try (exact absurd rfl (by assumption))
   all_goals refine CL rfl (evs1 rfl) rfl (one16_any (decide (b≤a)) _) ?_
   all_goals rintro _ _ ⟨rfl,rfl⟩
   all_goals refine W ?_
   all_goals refine WR ?_
   all_goals exact .mk ⟨rfl,rfl⟩
 rw [if_neg h8]
 repeat'(first|refine W1 ?_|omega|refine VG ?_ ?_<;>intro hg|refine VC ?_ ?_<;>intro hc)
 all_goals try (exact absurd (by assumption) (by assumption))
 refine WR ?_
 exact .mk ⟨rfl,rfl⟩
theorem tbl_kids:∀ r∈tblP,(r.ts=[1]∧r.k=5∨r.ts=[2]∧r.k=5∧r.s=[110,111,116]∨r.ts=[3]∧r.k=10)∨(r.ts=[3,3]∧r.k=10)∨(r.ts=[3,1]∧(r.k=7∨r.k=8))∨((r.ts=[1,1]∨r.ts=[3,3])∧r.k=6):=by decide +kernel
def Zr (r:Int×Int):Prop:=r.2≠0→r.1=0
theorem Zr.ite {p:Prop} [Decidable p] {a b:Int×Int} (ha:Zr a) (hb:Zr b):Zr (if p then a else b):=by
 by_cases h:p
 rw [if_pos h];exact ha
 rw [if_neg h];exact hb
theorem Zr.ok (v:Int):Zr (v,0):=fun h=>absurd rfl h
theorem Zr.err (e:Int):Zr (0,e):=fun _=>rfl
theorem zr_num (z:Int):Zr (numE z):=.ite (.err _) (.ok _)
theorem zr_day (z:Int):Zr (dayE z):=.ite (.err _) (.ok _)
theorem zr_findG (opn:Int→Bool) (step:Int):∀ (k:Nat) (d:Int),Zr (findG opn step k d)
 | 0,d=>.err _
 | k + 1, d => by
   unfold findG
   exact .ite (.ite (.ok _) (zr_findG opn step k _)) (.err _)
theorem zr_find (opn:Int→Bool) (step d:Int):Zr (findM opn step d):=.ite (zr_findG _ _ _ _) (.err _)
theorem zr_addG (opn:Int→Bool) (step:Int):∀ (k:Nat) (d:Int),Zr (addG opn step k d)
 | 0,d=>.ok _
 | k + 1, d => by
   unfold addG
   exact .ite (zr_addG opn step k _) (.err _)
theorem zr_add (opn:Int→Bool) (d n:Int):Zr (addM opn d n):=.ite (.ite (.err _) (zr_addG _ _ _ _)) (.err _)
theorem zr_mon (d n:Int):Zr (monM d n):=.ite (.err _) (.ite (.ite (.err _) (.ok _)) (.err _))
theorem zr_sng (opn:Int→Bool) (o a:Int):Zr (sngM opn o a):=.ite (.ok _) (.ite (zr_find _ _ _) (.ite (zr_find _ _ _) (.ok _)))
theorem zr_dbl (opn:Int→Bool) (o a b:Int):Zr (dblM opn o a b):=
 .ite (zr_num _) (.ite (zr_num _) (.ite (zr_num _) (.ite (.ok _) (.ite (.ok _) (.ite (.ok _) (.ite (zr_day _) (.ite (zr_day _) (.ite (zr_mon _ _) (.ite (zr_add _ _ _) (.ite (.ok _) (.ite (.ok _) (.ok _))))))))))))
theorem zr_bin (s:Str) (a b:Int):Zr (binV s a b):=
 .ite (zr_num _) (.ite (zr_num _) (.ite (zr_num _) (.ite (.ok _) (.ite (.ok _) (.ite (.ok _) (.ite (.ok _) (.ite (.ok _) (.ite (.ok _) (.ok _)))))))))
theorem eval_err0 (opn:Int→Bool) (ev:List Int) (x:Nd):Zr (evalV opn ev x):=by
 induction x using Nd.ind with
 | h k n s l ih=>
 have hev2:evalV opn ev (.mk k n s l)=combV opn ev k n s (l.map (evalV opn ev)):=evalV_eq _ _ _
 rw [hev2]
 have hk:∀ i,Zr ((l.map (evalV opn ev)).getD i (0,0)):=by
  intro i
  by_cases hi:i<l.length
  have e:(l.map (evalV opn ev)).getD i (0,0)=evalV opn ev l[i]:=by simp [List.getD,hi]
  rw [e]
  exact ih _ (List.getElem_mem hi)
  have e:(l.map (evalV opn ev)).getD i (0,0)=(0,0):=by simp [List.getD,hi]
  rw [e]
  exact .ok _
 unfold combV
 exact .ite (.ok _) (.ite (.ite (.err _) (.ok _)) (.ite (.err _) (.ite (.ite (.ok _) (.ok _)) (.ite (hk _) (.ite (zr_sng _ _ _) (.ite (.ok _) (.ite (.err _) (.ite (zr_dbl _ _ _ _) (.ite (zr_dbl _ _ _ _) (.ite (zr_dbl _ _ _ _) (zr_bin _ _ _)))))))))))
theorem funO_ne (s:Str):funO s≠17:=by
 unfold funO
 repeat' split
 all_goals decide
section
variable {ev:List Int} {c:Cal} {hv cv zo zs hr:Value} {kn:Int}
set_option maxHeartbeats 4000000 in
theorem eval16_any (hev:EvOk ev) (x:Nd):typeT x≠0→∀ (nv:Value) (w:World),CalV w c hv cv zo zs hr→NdV [] w nv x→Calls Tryz.prog 60 #[plA ev c hv cv zo zs hr kn,nv] w (Ret fun r w'=>r=nums (evalV (openM c kn) ev x)∧Stp [] w w'):=by
 induction x using Nd.ind with
 | h k n s l ih=>
 intro ht nv w hcal hx
 have hkid:∀ y∈l,typeT y≠0:=fun y hy=>typeT_kid (x:=.mk k n s l) ht hy
 have hev2:evalV (openM c kn) ev (.mk k n s l)=combV (openM c kn) ev k n s (l.map (evalV (openM c kn) ev)):=evalV_eq _ _ _
 obtain ⟨kv,rfl,hs⟩:=hx
 replace hs:SlV [] w kv l:=hs
 refine calls_of_WC2 (n:=151) Tryz.func60 rfl rfl rfl ?_
 refine W ?_
 refine WL_eff (OE_box rfl) rfl ?_
 rintro _ w1 ⟨b2,rfl,hb2,k2,hS⟩
 replace k2:Blk w1 b2 114 (plC ev c hv cv zo zs hr kn):=k2
 refine WL_eff (OE_box rfl) rfl ?_
 rintro _ w2 ⟨b3,rfl,hb3,k3,hT⟩
 replace k3:Blk w2 b3 27 [.int .i64 k,.int .i64 n,str s,kv]:=k3
 replace k2:=k2.up hT
 replace hS:=hS.trans hT
 replace hs:=hs.up hS
 replace hcal:=hcal.up hS
 clear hT
 rw [hev2]
 rcases typed_view ht with ⟨rfl,hlf⟩|⟨rfl,a,b,d,rfl,ta,tb,tc⟩|⟨rfl,hs',a,b,rfl,ta,tb,ht2⟩|⟨r,hr',rfl,rfl,hts,htt⟩
 rcases hlf with ⟨hk,ht2,hv⟩|⟨rfl,i,hi,rfl,hf,ht2⟩
 · have hc:combV (openM c kn) ev k n s (List.map (evalV (openM c kn) ev) [])=(n,0):=by unfold combV;rw [if_pos hk]
   rw [hc]
   rcases hk with rfl|rfl|rfl
   all_goals
    repeat'(first|refine W1 ?_|omega|refine VG ?_ ?_<;>intro hg|refine VC ?_ ?_<;>intro hc)
    refine WR ?_
    exact .mk ⟨rfl,hS⟩
 have e:combV (openM c kn) ev 4 n (fieldNames.getD i []) (List.map (evalV (openM c kn) ev) [])=fldM ev (i:Int):=by
  unfold combV
  rw [if_neg (by decide),if_pos rfl,hf]
 rw [e]
 focus repeat'(first|refine W1 ?_|omega|refine VG ?_ ?_<;>intro hg|refine VC ?_ ?_<;>intro hc)
 refine WC_drawn 10 [] [] [(0,0),(1,1),(2,0),(3,1),(4,2),(5,2),(6,0),(7,0),(8,0),(9,0)] rfl mixed (by kernel_rfl) (by kernel_rfl) (by kernel_rfl) (fun w1 hS1=>?_)
 replace k2:=k2.up hS1
 replace k3:=k3.up hS1
 replace hs:=hs.up hS1
 replace hcal:=hcal.up hS1
 replace hS:=hS.trans hS1
 clear hS1
 refine D ?_
 refine WD_read rfl trivial (fun w' hS'=>PR_loadN_blk (us:=evC ev) rfl rfl (k2.up hS') rfl rfl) rfl ?_
 refine D ?_
 refine WD_eff rfl trivial (OE_call rfl (evs1 rfl) (named16_any i hi _)) (fun _ _ h=>h.2) rfl ?_
 rintro _ wk ⟨rfl,hT⟩
 replace k2:=k2.up hT
 replace k3:=k3.up hT
 replace hs:=hs.up hT
 replace hcal:=hcal.up hT
 replace hS:=hS.trans hT
 clear hT
 refine WD_eff rfl trivial (OE_call rfl (evs2 rfl rfl) (field16_any (i:Int) (by omega) (by omega))) (fun _ _ h=>h.2) rfl ?_
 rintro _ wk ⟨rfl,hT⟩
 replace k2:=k2.up hT
 replace k3:=k3.up hT
 replace hs:=hs.up hT
 replace hcal:=hcal.up hT
 replace hS:=hS.trans hT
 clear hT
 refine D ?_
 refine W ?_
 refine WR ?_
 exact .mk ⟨rfl,hS⟩
 have em:[a,b,d].map (evalV (openM c kn) ev)=[evalV (openM c kn) ev a,evalV (openM c kn) ev b,evalV (openM c kn) ev d]:=rfl
 have e0:[evalV (openM c kn) ev a,evalV (openM c kn) ev b,evalV (openM c kn) ev d].getD 0 (0,0)=evalV (openM c kn) ev a:=rfl
 have l0:0 < [a,b,d].length:=by simp
 have l1:1 < [a,b,d].length:=by simp
 have l2:2 < [a,b,d].length:=by simp
 focus repeat'(first|refine W1 ?_|omega|refine VG ?_ ?_<;>intro hg|refine VC ?_ ?_<;>intro hc)
 refine WC_drawn 11 [] [] [(0,1),(1,0),(2,1),(3,0),(4,1),(5,2),(6,0),(7,0),(8,0),(9,0),(10,0)] rfl mixed (by kernel_rfl) (by kernel_rfl) (by kernel_rfl) (fun w1 hS1=>?_)
 replace k2:=k2.up hS1
 replace k3:=k3.up hS1
 replace hs:=hs.up hS1
 replace hcal:=hcal.up hS1
 replace hS:=hS.trans hS1
 clear hS1
 obtain ⟨q0,g0,c0⟩:=hs.nd l0
 refine D ?_
 refine WD_read rfl trivial (fun w' hS'=>PR_loadNd rfl rfl (hs.up hS') l0 (fun j u hj=>cell_on hs l0 (hS'.mono (by simp)) (c0 j u hj))) rfl ?_
 refine WD_eff rfl trivial (OE_call rfl (evs2 rfl rfl) (ih a (by simp) (hkid a (by simp)) _ _ hcal ⟨q0,rfl,g0⟩)) (fun _ _ h=>h.2) rfl ?_
 rintro _ wk ⟨rfl,hT⟩
 clear g0 c0
 replace k2:=k2.up hT
 replace k3:=k3.up hT
 replace hs:=hs.up hT
 replace hcal:=hcal.up hT
 replace hS:=hS.trans hT
 clear hT
 refine D ?_
 rw [em]
 unfold combV
 rw [if_neg (by decide),if_neg (by decide),e0]
 by_cases he:(evalV (openM c kn) ev a).2=0
 rw [if_neg (fun h=>h he),if_neg (by decide),if_pos rfl]
 have hva:=eval_vok (openM c kn) ev hev a (hkid a (by simp)) he
 rw [ta] at hva
 rw [he]
 rcases hva.b with h0|h0
 · rw [h0]
   repeat'(first|refine W1 ?_|omega|refine VG ?_ ?_<;>intro hg|refine VC ?_ ?_<;>intro hc)
   all_goals try (exact absurd rfl (by assumption))
   refine WC_drawn 12 [] [] [(0,1),(1,0),(2,1),(3,0),(4,0),(5,0),(6,1),(7,2),(8,0),(9,0),(10,0),(11,0)] rfl mixed (by kernel_rfl) (by kernel_rfl) (by kernel_rfl) (fun w1 hS1=>?_)
   replace k2:=k2.up hS1
   replace k3:=k3.up hS1
   replace hs:=hs.up hS1
   replace hcal:=hcal.up hS1
   replace hS:=hS.trans hS1
   clear hS1
   obtain ⟨q2,g2,c2⟩:=hs.nd l2
   refine D ?_
   refine WD_read rfl trivial (fun w' hS'=>PR_loadNd rfl rfl (hs.up hS') l2 (fun j u hj=>cell_on hs l2 (hS'.mono (by simp)) (c2 j u hj))) rfl ?_
   refine WD_eff rfl trivial (OE_call rfl (evs2 rfl rfl) (ih d (by simp) (hkid d (by simp)) _ _ hcal ⟨q2,rfl,g2⟩)) (fun _ _ h=>h.2) rfl ?_
   rintro _ wk ⟨rfl,hT⟩
   clear g2 c2
   replace k2:=k2.up hT
   replace k3:=k3.up hT
   replace hs:=hs.up hT
   replace hcal:=hcal.up hT
   replace hS:=hS.trans hT
   clear hT
   refine D ?_
   refine W ?_
   refine WR ?_
   exact .mk ⟨rfl,hS⟩
 · rw [h0]
   repeat'(first|refine W1 ?_|omega|refine VG ?_ ?_<;>intro hg|refine VC ?_ ?_<;>intro hc)
   all_goals try (exact absurd rfl (by assumption))
   refine WC_drawn 12 [] [] [(0,1),(1,0),(2,1),(3,0),(4,0),(5,0),(6,1),(7,2),(8,0),(9,0),(10,0),(11,0)] rfl mixed (by kernel_rfl) (by kernel_rfl) (by kernel_rfl) (fun w1 hS1=>?_)
   replace k2:=k2.up hS1
   replace k3:=k3.up hS1
   replace hs:=hs.up hS1
   replace hcal:=hcal.up hS1
   replace hS:=hS.trans hS1
   clear hS1
   obtain ⟨q1,g1,c1⟩:=hs.nd l1
   refine D ?_
   refine WD_read rfl trivial (fun w' hS'=>PR_loadNd rfl rfl (hs.up hS') l1 (fun j u hj=>cell_on hs l1 (hS'.mono (by simp)) (c1 j u hj))) rfl ?_
   refine WD_eff rfl trivial (OE_call rfl (evs2 rfl rfl) (ih b (by simp) (hkid b (by simp)) _ _ hcal ⟨q1,rfl,g1⟩)) (fun _ _ h=>h.2) rfl ?_
   rintro _ wk ⟨rfl,hT⟩
   clear g1 c1
   replace k2:=k2.up hT
   replace k3:=k3.up hT
   replace hs:=hs.up hT
   replace hcal:=hcal.up hT
   replace hS:=hS.trans hT
   clear hT
   refine D ?_
   refine W ?_
   refine WR ?_
   exact .mk ⟨rfl,hS⟩
 · rw [if_pos he]
   repeat'(first|refine W1 ?_|omega|refine VG ?_ ?_<;>intro hg|refine VC ?_ ?_<;>intro hc)
   all_goals try (exact absurd (by assumption) he)
   refine WR ?_
   exact .mk ⟨rfl,hS⟩
 have em:[a,b].map (evalV (openM c kn) ev)=[evalV (openM c kn) ev a,evalV (openM c kn) ev b]:=rfl
 have e0:[evalV (openM c kn) ev a,evalV (openM c kn) ev b].getD 0 (0,0)=evalV (openM c kn) ev a:=rfl
 have e1:[evalV (openM c kn) ev a,evalV (openM c kn) ev b].getD 1 (0,0)=evalV (openM c kn) ev b:=rfl
 have el:¬ [evalV (openM c kn) ev a,evalV (openM c kn) ev b].length=1:=by simp
 have l0:0 < [a,b].length:=by simp
 have l1:1 < [a,b].length:=by simp
 have hlen2:([a,b]:List Nd).length=2:=rfl
 focus repeat'(first|refine W1 ?_|omega|refine VG ?_ ?_<;>intro hg|refine VC ?_ ?_<;>intro hc)
 refine WC_drawn 11 [] [] [(0,1),(1,0),(2,1),(3,0),(4,1),(5,2),(6,0),(7,0),(8,0),(9,0),(10,0)] rfl mixed (by kernel_rfl) (by kernel_rfl) (by kernel_rfl) (fun w1 hS1=>?_)
 replace k2:=k2.up hS1
 replace k3:=k3.up hS1
 replace hs:=hs.up hS1
 replace hcal:=hcal.up hS1
 replace hS:=hS.trans hS1
 clear hS1
 obtain ⟨q0,g0,c0⟩:=hs.nd l0
 refine D ?_
 refine WD_read rfl trivial (fun w' hS'=>PR_loadNd rfl rfl (hs.up hS') l0 (fun j u hj=>cell_on hs l0 (hS'.mono (by simp)) (c0 j u hj))) rfl ?_
 refine WD_eff rfl trivial (OE_call rfl (evs2 rfl rfl) (ih a (by simp) (hkid a (by simp)) _ _ hcal ⟨q0,rfl,g0⟩)) (fun _ _ h=>h.2) rfl ?_
 rintro _ wk ⟨rfl,hT⟩
 clear g0 c0
 replace k2:=k2.up hT
 replace k3:=k3.up hT
 replace hs:=hs.up hT
 replace hcal:=hcal.up hT
 replace hS:=hS.trans hT
 clear hT
 refine D ?_
 rw [em]
 unfold combV
 rw [if_neg (by decide),if_neg (by decide),e0,e1]
 by_cases he:(evalV (openM c kn) ev a).2=0
 rw [if_neg (fun h=>h he),if_neg (by decide),if_neg (by decide),if_neg el]
 rw [he]
 have hva:=eval_vok (openM c kn) ev hev a (hkid a (by simp)) he
 rw [ta] at hva
 have hb1:binV [97,110,100] (evalV (openM c kn) ev a).1 (evalV (openM c kn) ev b).1=((evalV (openM c kn) ev b).1,0):=rfl
 have hb2:binV [111,114] (evalV (openM c kn) ev a).1 (evalV (openM c kn) ev b).1=((evalV (openM c kn) ev b).1,0):=rfl
 rcases hs' with rfl|rfl
 rcases hva.b with h0|h0
 · rw [if_pos (by simp [h0]),h0]
   repeat'(first|refine W1 ?_|omega|refine VG ?_ ?_<;>intro hg|refine VC ?_ ?_<;>intro hc)
   all_goals try (exact absurd rfl (by assumption))
   refine WR ?_
   exact .mk ⟨rfl,hS⟩
 · rw [if_neg (by simp [h0]),h0]
   repeat'(first|refine W1 ?_|omega|refine VG ?_ ?_<;>intro hg|refine VC ?_ ?_<;>intro hc)
   all_goals try (exact absurd rfl (by assumption))
   refine WC_drawn 11 [] [] [(0,1),(1,0),(2,1),(3,0),(4,1),(5,2),(6,0),(7,0),(8,0),(9,0),(10,0)] rfl mixed (by kernel_rfl) (by kernel_rfl) (by kernel_rfl) (fun w1 hS1=>?_)
   replace k2:=k2.up hS1
   replace k3:=k3.up hS1
   replace hs:=hs.up hS1
   replace hcal:=hcal.up hS1
   replace hS:=hS.trans hS1
   clear hS1
   obtain ⟨q1,g1,c1⟩:=hs.nd l1
   refine D ?_
   refine WD_read rfl trivial (fun w' hS'=>PR_loadNd rfl rfl (hs.up hS') l1 (fun j u hj=>cell_on hs l1 (hS'.mono (by simp)) (c1 j u hj))) rfl ?_
   refine WD_eff rfl trivial (OE_call rfl (evs2 rfl rfl) (ih b (by simp) (hkid b (by simp)) _ _ hcal ⟨q1,rfl,g1⟩)) (fun _ _ h=>h.2) rfl ?_
   rintro _ wk ⟨rfl,hT⟩
   clear g1 c1
   replace k2:=k2.up hT
   replace k3:=k3.up hT
   replace hs:=hs.up hT
   replace hcal:=hcal.up hT
   replace hS:=hS.trans hT
   clear hT
   refine D ?_
   by_cases he1:(evalV (openM c kn) ev b).2=0
   · rw [if_neg (fun h=>h he1),if_neg (by decide),if_neg (by decide),if_neg (by decide),he1]
     repeat'(first|refine W1 ?_|omega|refine VG ?_ ?_<;>intro hg|refine VC ?_ ?_<;>intro hc)
     all_goals try (exact absurd rfl (by assumption))
     have hvb:=eval_vok (openM c kn) ev hev b (hkid b (by simp)) he1
     refine CL rfl (evs3 rfl rfl rfl) rfl (binary16_any [97,110,100] _ _ (by unfold Num;omega) hvb.num _) ?_
     rintro _ _ ⟨rfl,rfl⟩
     refine W ?_
     refine WR ?_
     exact .mk ⟨rfl,hS⟩
   · rw [if_pos he1]
     repeat'(first|refine W1 ?_|omega|refine VG ?_ ?_<;>intro hg|refine VC ?_ ?_<;>intro hc)
     all_goals try (exact absurd (by assumption) he1)
     refine WR ?_
     exact .mk ⟨rfl,hS⟩
 rcases hva.b with h0|h0
 · rw [if_neg (by simp [h0]),h0]
   repeat'(first|refine W1 ?_|omega|refine VG ?_ ?_<;>intro hg|refine VC ?_ ?_<;>intro hc)
   all_goals try (exact absurd rfl (by assumption))
   refine WC_drawn 11 [] [] [(0,1),(1,0),(2,1),(3,0),(4,1),(5,2),(6,0),(7,0),(8,0),(9,0),(10,0)] rfl mixed (by kernel_rfl) (by kernel_rfl) (by kernel_rfl) (fun w1 hS1=>?_)
   replace k2:=k2.up hS1
   replace k3:=k3.up hS1
   replace hs:=hs.up hS1
   replace hcal:=hcal.up hS1
   replace hS:=hS.trans hS1
   clear hS1
   obtain ⟨q1,g1,c1⟩:=hs.nd l1
   refine D ?_
   refine WD_read rfl trivial (fun w' hS'=>PR_loadNd rfl rfl (hs.up hS') l1 (fun j u hj=>cell_on hs l1 (hS'.mono (by simp)) (c1 j u hj))) rfl ?_
   refine WD_eff rfl trivial (OE_call rfl (evs2 rfl rfl) (ih b (by simp) (hkid b (by simp)) _ _ hcal ⟨q1,rfl,g1⟩)) (fun _ _ h=>h.2) rfl ?_
   rintro _ wk ⟨rfl,hT⟩
   clear g1 c1
   replace k2:=k2.up hT
   replace k3:=k3.up hT
   replace hs:=hs.up hT
   replace hcal:=hcal.up hT
   replace hS:=hS.trans hT
   clear hT
   refine D ?_
   by_cases he1:(evalV (openM c kn) ev b).2=0
   · rw [if_neg (fun h=>h he1),if_neg (by decide),if_neg (by decide),if_neg (by decide),he1]
     repeat'(first|refine W1 ?_|omega|refine VG ?_ ?_<;>intro hg|refine VC ?_ ?_<;>intro hc)
     all_goals try (exact absurd rfl (by assumption))
     have hvb:=eval_vok (openM c kn) ev hev b (hkid b (by simp)) he1
     refine CL rfl (evs3 rfl rfl rfl) rfl (binary16_any [111,114] _ _ (by unfold Num;omega) hvb.num _) ?_
     rintro _ _ ⟨rfl,rfl⟩
     refine W ?_
     refine WR ?_
     exact .mk ⟨rfl,hS⟩
   · rw [if_pos he1]
     repeat'(first|refine W1 ?_|omega|refine VG ?_ ?_<;>intro hg|refine VC ?_ ?_<;>intro hc)
     all_goals try (exact absurd (by assumption) he1)
     refine WR ?_
     exact .mk ⟨rfl,hS⟩
 · rw [if_pos (by simp [h0]),h0]
   repeat'(first|refine W1 ?_|omega|refine VG ?_ ?_<;>intro hg|refine VC ?_ ?_<;>intro hc)
   all_goals try (exact absurd rfl (by assumption))
   refine WR ?_
   exact .mk ⟨rfl,hS⟩
 · rw [if_pos he]
   repeat'(first|refine W1 ?_|omega|refine VG ?_ ?_<;>intro hg|refine VC ?_ ?_<;>intro hc)
   all_goals try (exact absurd (by assumption) he)
   refine WR ?_
   exact .mk ⟨rfl,hS⟩
 obtain ⟨⟨h123,h4,h9⟩,hao,hlen12⟩:=tbl_k r hr'
 have hk1:¬ r.k=1∧¬ r.k=2∧¬ r.k=3:=by omega
 rcases tbl_kids r hr' with (hone|hone|hone)|htwo|htwo|htwo
 obtain ⟨a,rfl⟩:∃ a,l=[a]:=List.length_eq_one_iff.1 (by have:=congrArg List.length hts;rw [hone.1] at this;simpa using this)
 have hta:typeT a=1:=by rw [hone.1] at hts;simpa using hts
 have em:[a].map (evalV (openM c kn) ev)=[evalV (openM c kn) ev a]:=rfl
 have e0:[evalV (openM c kn) ev a].getD 0 (0,0)=evalV (openM c kn) ev a:=rfl
 have el:[evalV (openM c kn) ev a].length=1:=rfl
 have l0:0 < [a].length:=by simp
 have hlen1:([a]:List Nd).length=1:=rfl
 rw [hone.2] at k3 ⊢
 focus repeat'(first|refine W1 ?_|omega|refine VG ?_ ?_<;>intro hg|refine VC ?_ ?_<;>intro hc)
 refine WC_drawn 11 [] [] [(0,1),(1,0),(2,1),(3,0),(4,1),(5,2),(6,0),(7,0),(8,0),(9,0),(10,0)] rfl mixed (by kernel_rfl) (by kernel_rfl) (by kernel_rfl) (fun w1 hS1=>?_)
 replace k2:=k2.up hS1
 replace k3:=k3.up hS1
 replace hs:=hs.up hS1
 replace hcal:=hcal.up hS1
 replace hS:=hS.trans hS1
 clear hS1
 obtain ⟨q0,g0,c0⟩:=hs.nd l0
 refine D ?_
 refine WD_read rfl trivial (fun w' hS'=>PR_loadNd rfl rfl (hs.up hS') l0 (fun j u hj=>cell_on hs l0 (hS'.mono (by simp)) (c0 j u hj))) rfl ?_
 refine WD_eff rfl trivial (OE_call rfl (evs2 rfl rfl) (ih a (by simp) (hkid a (by simp)) _ _ hcal ⟨q0,rfl,g0⟩)) (fun _ _ h=>h.2) rfl ?_
 rintro _ wk ⟨rfl,hT⟩
 clear g0 c0
 replace k2:=k2.up hT
 replace k3:=k3.up hT
 replace hs:=hs.up hT
 replace hcal:=hcal.up hT
 replace hS:=hS.trans hT
 clear hT
 refine D ?_
 rw [em]
 unfold combV
 rw [if_neg (by decide),if_neg (by decide),e0]
 by_cases he:(evalV (openM c kn) ev a).2=0
 · rw [if_neg (fun h=>h he)]
   rw [he]
   have hva:=eval_vok (openM c kn) ev hev a (hkid a (by simp)) he
   have hnum:=hva.num
   unfold Num at hnum
   rw [if_pos rfl]
   repeat'(first|refine W1 ?_|omega|refine VG ?_ ?_<;>intro hg|refine VC ?_ ?_<;>intro hc)
   all_goals try (exact absurd rfl (by assumption))
   rename_i hc
   refine WR ?_
   exact .mk ⟨by rw [if_pos hc],hS⟩
   rename_i hc
   refine WR ?_
   exact .mk ⟨by rw [if_neg hc],hS⟩
 · rw [if_pos he]
   repeat'(first|refine W1 ?_|omega|refine VG ?_ ?_<;>intro hg|refine VC ?_ ?_<;>intro hc)
   all_goals try (exact absurd (by assumption) he)
   refine WR ?_
   exact .mk ⟨rfl,hS⟩
 obtain ⟨a,rfl⟩:∃ a,l=[a]:=List.length_eq_one_iff.1 (by have:=congrArg List.length hts;rw [hone.1] at this;simpa using this)
 have hta:typeT a=2:=by rw [hone.1] at hts;simpa using hts
 have em:[a].map (evalV (openM c kn) ev)=[evalV (openM c kn) ev a]:=rfl
 have e0:[evalV (openM c kn) ev a].getD 0 (0,0)=evalV (openM c kn) ev a:=rfl
 have el:[evalV (openM c kn) ev a].length=1:=rfl
 have l0:0 < [a].length:=by simp
 have hlen1:([a]:List Nd).length=1:=rfl
 rw [hone.2.1] at k3 ⊢
 focus repeat'(first|refine W1 ?_|omega|refine VG ?_ ?_<;>intro hg|refine VC ?_ ?_<;>intro hc)
 refine WC_drawn 11 [] [] [(0,1),(1,0),(2,1),(3,0),(4,1),(5,2),(6,0),(7,0),(8,0),(9,0),(10,0)] rfl mixed (by kernel_rfl) (by kernel_rfl) (by kernel_rfl) (fun w1 hS1=>?_)
 replace k2:=k2.up hS1
 replace k3:=k3.up hS1
 replace hs:=hs.up hS1
 replace hcal:=hcal.up hS1
 replace hS:=hS.trans hS1
 clear hS1
 obtain ⟨q0,g0,c0⟩:=hs.nd l0
 refine D ?_
 refine WD_read rfl trivial (fun w' hS'=>PR_loadNd rfl rfl (hs.up hS') l0 (fun j u hj=>cell_on hs l0 (hS'.mono (by simp)) (c0 j u hj))) rfl ?_
 refine WD_eff rfl trivial (OE_call rfl (evs2 rfl rfl) (ih a (by simp) (hkid a (by simp)) _ _ hcal ⟨q0,rfl,g0⟩)) (fun _ _ h=>h.2) rfl ?_
 rintro _ wk ⟨rfl,hT⟩
 clear g0 c0
 replace k2:=k2.up hT
 replace k3:=k3.up hT
 replace hs:=hs.up hT
 replace hcal:=hcal.up hT
 replace hS:=hS.trans hT
 clear hT
 refine D ?_
 rw [em]
 unfold combV
 rw [if_neg (by decide),if_neg (by decide),e0]
 by_cases he:(evalV (openM c kn) ev a).2=0
 · rw [if_neg (fun h=>h he)]
   rw [he]
   have hva:=eval_vok (openM c kn) ev hev a (hkid a (by simp)) he
   have hnum:=hva.num
   unfold Num at hnum
   rw [if_pos rfl]
   repeat'(first|refine W1 ?_|omega|refine VG ?_ ?_<;>intro hg|refine VC ?_ ?_<;>intro hc)
   all_goals try (exact absurd rfl (by assumption))
   rename_i hc
   refine WR ?_
   exact .mk ⟨by rw [if_pos hc],hS⟩
   rename_i hc
   refine WR ?_
   exact .mk ⟨by rw [if_neg hc],hS⟩
 · rw [if_pos he]
   repeat'(first|refine W1 ?_|omega|refine VG ?_ ?_<;>intro hg|refine VC ?_ ?_<;>intro hc)
   all_goals try (exact absurd (by assumption) he)
   refine WR ?_
   exact .mk ⟨rfl,hS⟩
 obtain ⟨a,rfl⟩:∃ a,l=[a]:=List.length_eq_one_iff.1 (by have:=congrArg List.length hts;rw [hone.1] at this;simpa using this)
 have hta:typeT a=3:=by rw [hone.1] at hts;simpa using hts
 have em:[a].map (evalV (openM c kn) ev)=[evalV (openM c kn) ev a]:=rfl
 have e0:[evalV (openM c kn) ev a].getD 0 (0,0)=evalV (openM c kn) ev a:=rfl
 have el:[evalV (openM c kn) ev a].length=1:=rfl
 have l0:0 < [a].length:=by simp
 have hlen1:([a]:List Nd).length=1:=rfl
 rw [hone.2] at k3 ⊢
 focus repeat'(first|refine W1 ?_|omega|refine VG ?_ ?_<;>intro hg|refine VC ?_ ?_<;>intro hc)
 refine WC_drawn 11 [] [] [(0,1),(1,0),(2,1),(3,0),(4,1),(5,2),(6,0),(7,0),(8,0),(9,0),(10,0)] rfl mixed (by kernel_rfl) (by kernel_rfl) (by kernel_rfl) (fun w1 hS1=>?_)
 replace k2:=k2.up hS1
 replace k3:=k3.up hS1
 replace hs:=hs.up hS1
 replace hcal:=hcal.up hS1
 replace hS:=hS.trans hS1
 clear hS1
 obtain ⟨q0,g0,c0⟩:=hs.nd l0
 refine D ?_
 refine WD_read rfl trivial (fun w' hS'=>PR_loadNd rfl rfl (hs.up hS') l0 (fun j u hj=>cell_on hs l0 (hS'.mono (by simp)) (c0 j u hj))) rfl ?_
 refine WD_eff rfl trivial (OE_call rfl (evs2 rfl rfl) (ih a (by simp) (hkid a (by simp)) _ _ hcal ⟨q0,rfl,g0⟩)) (fun _ _ h=>h.2) rfl ?_
 rintro _ wk ⟨rfl,hT⟩
 clear g0 c0
 replace k2:=k2.up hT
 replace k3:=k3.up hT
 replace hs:=hs.up hT
 replace hcal:=hcal.up hT
 replace hS:=hS.trans hT
 clear hT
 refine D ?_
 rw [em]
 unfold combV
 rw [if_neg (by decide),if_neg (by decide),e0]
 by_cases he:(evalV (openM c kn) ev a).2=0
 · rw [if_neg (fun h=>h he)]
   rw [he]
   have hva:=eval_vok (openM c kn) ev hev a (hkid a (by simp)) he
   have hnum:=hva.num
   unfold Num at hnum
   rw [if_neg (by decide),if_neg (by decide),if_pos el]
   repeat'(first|refine W1 ?_|omega|refine VG ?_ ?_<;>intro hg|refine VC ?_ ?_<;>intro hc)
   all_goals try (exact absurd rfl (by assumption))
   refine WC_drawn 10 [] [] [(0,1),(1,0),(2,1),(4,0),(3,2),(5,2),(6,0),(7,0),(8,0),(9,0)] rfl mixed (by kernel_rfl) (by kernel_rfl) (by kernel_rfl) (fun w1 hS1=>?_)
   replace k2:=k2.up hS1
   replace k3:=k3.up hS1
   replace hs:=hs.up hS1
   replace hcal:=hcal.up hS1
   replace hS:=hS.trans hS1
   clear hS1
   refine D ?_
   refine WD_eff rfl trivial (OE_call rfl (evs1 rfl) (function16_any r.s _)) (fun _ _ h=>h.2 ▸ Stp.refl _ _) rfl ?_
   rintro _ _ ⟨rfl,rfl⟩
   refine D ?_
   refine WD_eff rfl trivial (OE_call rfl (evs3 rfl rfl rfl) (single16_any hcal (funO r.s) (evalV (openM c kn) ev a).1 hva.num)) (fun _ _ h=>h.2) rfl ?_
   rintro _ wk ⟨rfl,hT⟩
   replace k2:=k2.up hT
   replace k3:=k3.up hT
   replace hs:=hs.up hT
   replace hcal:=hcal.up hT
   replace hS:=hS.trans hT
   clear hT
   refine D ?_
   refine W ?_
   refine WR ?_
   exact .mk ⟨rfl,hS⟩
 · rw [if_pos he]
   repeat'(first|refine W1 ?_|omega|refine VG ?_ ?_<;>intro hg|refine VC ?_ ?_<;>intro hc)
   all_goals try (exact absurd (by assumption) he)
   refine WR ?_
   exact .mk ⟨rfl,hS⟩
 obtain ⟨a,b,rfl⟩:∃ a b,l=[a,b]:=ctyLen2 (by have:=congrArg List.length hts;rw [htwo.1] at this;simpa using this)
 have hta:typeT a=3:=by rw [htwo.1] at hts;simp only [List.map_cons,List.map_nil,List.cons.injEq] at hts;exact hts.1
 have em:[a,b].map (evalV (openM c kn) ev)=[evalV (openM c kn) ev a,evalV (openM c kn) ev b]:=rfl
 have e0:[evalV (openM c kn) ev a,evalV (openM c kn) ev b].getD 0 (0,0)=evalV (openM c kn) ev a:=rfl
 have e1:[evalV (openM c kn) ev a,evalV (openM c kn) ev b].getD 1 (0,0)=evalV (openM c kn) ev b:=rfl
 have el:¬ [evalV (openM c kn) ev a,evalV (openM c kn) ev b].length=1:=by simp
 have l0:0 < [a,b].length:=by simp
 have l1:1 < [a,b].length:=by simp
 have hlen2:([a,b]:List Nd).length=2:=rfl
 have hand:¬ (r.k=6∧(r.s=[97,110,100]∧(evalV (openM c kn) ev a).1=0∨r.s=[111,114]∧(evalV (openM c kn) ev a).1=1)):=fun h=>hao ⟨h.1,h.2.elim (fun x=>.inl x.1) (fun x=>.inr x.1)⟩
 rw [htwo.2] at k3 hand ⊢
 focus repeat'(first|refine W1 ?_|omega|refine VG ?_ ?_<;>intro hg|refine VC ?_ ?_<;>intro hc)
 refine WC_drawn 11 [] [] [(0,1),(1,0),(2,1),(3,0),(4,1),(5,2),(6,0),(7,0),(8,0),(9,0),(10,0)] rfl mixed (by kernel_rfl) (by kernel_rfl) (by kernel_rfl) (fun w1 hS1=>?_)
 replace k2:=k2.up hS1
 replace k3:=k3.up hS1
 replace hs:=hs.up hS1
 replace hcal:=hcal.up hS1
 replace hS:=hS.trans hS1
 clear hS1
 obtain ⟨q0,g0,c0⟩:=hs.nd l0
 refine D ?_
 refine WD_read rfl trivial (fun w' hS'=>PR_loadNd rfl rfl (hs.up hS') l0 (fun j u hj=>cell_on hs l0 (hS'.mono (by simp)) (c0 j u hj))) rfl ?_
 refine WD_eff rfl trivial (OE_call rfl (evs2 rfl rfl) (ih a (by simp) (hkid a (by simp)) _ _ hcal ⟨q0,rfl,g0⟩)) (fun _ _ h=>h.2) rfl ?_
 rintro _ wk ⟨rfl,hT⟩
 clear g0 c0
 replace k2:=k2.up hT
 replace k3:=k3.up hT
 replace hs:=hs.up hT
 replace hcal:=hcal.up hT
 replace hS:=hS.trans hT
 clear hT
 refine D ?_
 rw [em]
 unfold combV
 rw [if_neg (by decide),if_neg (by decide),e0,e1]
 by_cases he:(evalV (openM c kn) ev a).2=0
 · rw [if_neg (fun h=>h he),if_neg (by decide),if_neg (by decide),if_neg el,if_neg hand]
   rw [he]
   have hva:=eval_vok (openM c kn) ev hev a (hkid a (by simp)) he
   have hnum:=hva.num
   unfold Num at hnum
   repeat'(first|refine W1 ?_|omega|refine VG ?_ ?_<;>intro hg|refine VC ?_ ?_<;>intro hc)
   all_goals try (exact absurd rfl (by assumption))
   refine WC_drawn 11 [] [] [(0,1),(1,0),(2,1),(3,0),(4,1),(5,2),(6,0),(7,0),(8,0),(9,0),(10,0)] rfl mixed (by kernel_rfl) (by kernel_rfl) (by kernel_rfl) (fun w1 hS1=>?_)
   replace k2:=k2.up hS1
   replace k3:=k3.up hS1
   replace hs:=hs.up hS1
   replace hcal:=hcal.up hS1
   replace hS:=hS.trans hS1
   clear hS1
   obtain ⟨q1,g1,c1⟩:=hs.nd l1
   refine D ?_
   refine WD_read rfl trivial (fun w' hS'=>PR_loadNd rfl rfl (hs.up hS') l1 (fun j u hj=>cell_on hs l1 (hS'.mono (by simp)) (c1 j u hj))) rfl ?_
   refine WD_eff rfl trivial (OE_call rfl (evs2 rfl rfl) (ih b (by simp) (hkid b (by simp)) _ _ hcal ⟨q1,rfl,g1⟩)) (fun _ _ h=>h.2) rfl ?_
   rintro _ wk ⟨rfl,hT⟩
   clear g1 c1
   replace k2:=k2.up hT
   replace k3:=k3.up hT
   replace hs:=hs.up hT
   replace hcal:=hcal.up hT
   replace hS:=hS.trans hT
   clear hT
   refine D ?_
   by_cases he1:(evalV (openM c kn) ev b).2=0
   · rw [if_neg (fun h=>h he1),if_neg (by decide),if_neg (by decide),if_pos rfl,he1]
     have hvb:=eval_vok (openM c kn) ev hev b (hkid b (by simp)) he1
     have hnumb:=hvb.num
     unfold Num at hnumb
     repeat'(first|refine W1 ?_|omega|refine VG ?_ ?_<;>intro hg|refine VC ?_ ?_<;>intro hc)
     all_goals try (exact absurd rfl (by assumption))
     refine WC_drawn 11 [] [] [(0,1),(1,0),(2,1),(4,0),(5,0),(3,2),(6,2),(7,0),(8,0),(9,0),(10,0)] rfl mixed (by kernel_rfl) (by kernel_rfl) (by kernel_rfl) (fun w1 hS1=>?_)
     replace k2:=k2.up hS1
     replace k3:=k3.up hS1
     replace hs:=hs.up hS1
     replace hcal:=hcal.up hS1
     replace hS:=hS.trans hS1
     clear hS1
     refine D ?_
     refine WD_eff rfl trivial (OE_call rfl (evs1 rfl) (function16_any r.s _)) (fun _ _ h=>h.2 ▸ Stp.refl _ _) rfl ?_
     rintro _ _ ⟨rfl,rfl⟩
     refine D ?_
     refine WD_eff rfl trivial (OE_call rfl (evs4 rfl rfl rfl rfl) (double16_any hcal (funO r.s) (evalV (openM c kn) ev a).1 (evalV (openM c kn) ev b).1 hva.num hvb.num (fun h=>absurd h (funO_ne _)))) (fun _ _ h=>h.2) rfl ?_
     rintro _ wk ⟨rfl,hT⟩
     replace k2:=k2.up hT
     replace k3:=k3.up hT
     replace hs:=hs.up hT
     replace hcal:=hcal.up hT
     replace hS:=hS.trans hT
     clear hT
     refine D ?_
     refine W ?_
     refine WR ?_
     exact .mk ⟨rfl,hS⟩
   · rw [if_pos he1]
     repeat'(first|refine W1 ?_|omega|refine VG ?_ ?_<;>intro hg|refine VC ?_ ?_<;>intro hc)
     all_goals try (exact absurd (by assumption) he1)
     refine WR ?_
     exact .mk ⟨rfl,hS⟩
 · rw [if_pos he]
   repeat'(first|refine W1 ?_|omega|refine VG ?_ ?_<;>intro hg|refine VC ?_ ?_<;>intro hc)
   all_goals try (exact absurd (by assumption) he)
   refine WR ?_
   exact .mk ⟨rfl,hS⟩
 rcases htwo.2 with hk7|hk7
 obtain ⟨a,b,rfl⟩:∃ a b,l=[a,b]:=ctyLen2 (by have:=congrArg List.length hts;rw [htwo.1] at this;simpa using this)
 have hta:typeT a=3:=by rw [htwo.1] at hts;simp only [List.map_cons,List.map_nil,List.cons.injEq] at hts;exact hts.1
 have em:[a,b].map (evalV (openM c kn) ev)=[evalV (openM c kn) ev a,evalV (openM c kn) ev b]:=rfl
 have e0:[evalV (openM c kn) ev a,evalV (openM c kn) ev b].getD 0 (0,0)=evalV (openM c kn) ev a:=rfl
 have e1:[evalV (openM c kn) ev a,evalV (openM c kn) ev b].getD 1 (0,0)=evalV (openM c kn) ev b:=rfl
 have el:¬ [evalV (openM c kn) ev a,evalV (openM c kn) ev b].length=1:=by simp
 have l0:0 < [a,b].length:=by simp
 have l1:1 < [a,b].length:=by simp
 have hlen2:([a,b]:List Nd).length=2:=rfl
 have hand:¬ (r.k=6∧(r.s=[97,110,100]∧(evalV (openM c kn) ev a).1=0∨r.s=[111,114]∧(evalV (openM c kn) ev a).1=1)):=fun h=>hao ⟨h.1,h.2.elim (fun x=>.inl x.1) (fun x=>.inr x.1)⟩
 rw [hk7] at k3 hand ⊢
 focus repeat'(first|refine W1 ?_|omega|refine VG ?_ ?_<;>intro hg|refine VC ?_ ?_<;>intro hc)
 refine WC_drawn 11 [] [] [(0,1),(1,0),(2,1),(3,0),(4,1),(5,2),(6,0),(7,0),(8,0),(9,0),(10,0)] rfl mixed (by kernel_rfl) (by kernel_rfl) (by kernel_rfl) (fun w1 hS1=>?_)
 replace k2:=k2.up hS1
 replace k3:=k3.up hS1
 replace hs:=hs.up hS1
 replace hcal:=hcal.up hS1
 replace hS:=hS.trans hS1
 clear hS1
 obtain ⟨q0,g0,c0⟩:=hs.nd l0
 refine D ?_
 refine WD_read rfl trivial (fun w' hS'=>PR_loadNd rfl rfl (hs.up hS') l0 (fun j u hj=>cell_on hs l0 (hS'.mono (by simp)) (c0 j u hj))) rfl ?_
 refine WD_eff rfl trivial (OE_call rfl (evs2 rfl rfl) (ih a (by simp) (hkid a (by simp)) _ _ hcal ⟨q0,rfl,g0⟩)) (fun _ _ h=>h.2) rfl ?_
 rintro _ wk ⟨rfl,hT⟩
 clear g0 c0
 replace k2:=k2.up hT
 replace k3:=k3.up hT
 replace hs:=hs.up hT
 replace hcal:=hcal.up hT
 replace hS:=hS.trans hT
 clear hT
 refine D ?_
 rw [em]
 unfold combV
 rw [if_neg (by decide),if_neg (by decide),e0,e1]
 by_cases he:(evalV (openM c kn) ev a).2=0
 · rw [if_neg (fun h=>h he),if_neg (by decide),if_neg (by decide),if_neg el,if_neg hand]
   rw [he]
   have hva:=eval_vok (openM c kn) ev hev a (hkid a (by simp)) he
   have hnum:=hva.num
   unfold Num at hnum
   repeat'(first|refine W1 ?_|omega|refine VG ?_ ?_<;>intro hg|refine VC ?_ ?_<;>intro hc)
   all_goals try (exact absurd rfl (by assumption))
   refine WC_drawn 11 [] [] [(0,1),(1,0),(2,1),(3,0),(4,1),(5,2),(6,0),(7,0),(8,0),(9,0),(10,0)] rfl mixed (by kernel_rfl) (by kernel_rfl) (by kernel_rfl) (fun w1 hS1=>?_)
   replace k2:=k2.up hS1
   replace k3:=k3.up hS1
   replace hs:=hs.up hS1
   replace hcal:=hcal.up hS1
   replace hS:=hS.trans hS1
   clear hS1
   obtain ⟨q1,g1,c1⟩:=hs.nd l1
   refine D ?_
   refine WD_read rfl trivial (fun w' hS'=>PR_loadNd rfl rfl (hs.up hS') l1 (fun j u hj=>cell_on hs l1 (hS'.mono (by simp)) (c1 j u hj))) rfl ?_
   refine WD_eff rfl trivial (OE_call rfl (evs2 rfl rfl) (ih b (by simp) (hkid b (by simp)) _ _ hcal ⟨q1,rfl,g1⟩)) (fun _ _ h=>h.2) rfl ?_
   rintro _ wk ⟨rfl,hT⟩
   clear g1 c1
   replace k2:=k2.up hT
   replace k3:=k3.up hT
   replace hs:=hs.up hT
   replace hcal:=hcal.up hT
   replace hS:=hS.trans hT
   clear hT
   refine D ?_
   by_cases he1:(evalV (openM c kn) ev b).2=0
   · rw [if_neg (fun h=>h he1),if_pos rfl,he1]
     have hvb:=eval_vok (openM c kn) ev hev b (hkid b (by simp)) he1
     have hnumb:=hvb.num
     unfold Num at hnumb
     repeat'(first|refine W1 ?_|omega|refine VG ?_ ?_<;>intro hg|refine VC ?_ ?_<;>intro hc)
     all_goals try (exact absurd rfl (by assumption))
     refine WC_drawn 11 [] [] [(0,1),(1,0),(2,1),(4,0),(5,0),(3,2),(6,2),(7,0),(8,0),(9,0),(10,0)] rfl mixed (by kernel_rfl) (by kernel_rfl) (by kernel_rfl) (fun w1 hS1=>?_)
     replace k2:=k2.up hS1
     replace k3:=k3.up hS1
     replace hs:=hs.up hS1
     replace hcal:=hcal.up hS1
     replace hS:=hS.trans hS1
     clear hS1
     refine D ?_
     refine WD_eff rfl trivial (OE_call rfl (evs1 rfl) (unit16_any r.s _)) (fun _ _ h=>h.2 ▸ Stp.refl _ _) rfl ?_
     rintro _ _ ⟨rfl,rfl⟩
     refine D ?_
     refine WD_eff rfl trivial (OE_call rfl (evs4 rfl rfl rfl rfl) (double16_any hcal (unitO r.s) (evalV (openM c kn) ev a).1 (evalV (openM c kn) ev b).1 hva.num hvb.num (fun _=>inDays_iff.2 (by rw [hta] at hva;exact hva.d)))) (fun _ _ h=>h.2) rfl ?_
     rintro _ wk ⟨rfl,hT⟩
     replace k2:=k2.up hT
     replace k3:=k3.up hT
     replace hs:=hs.up hT
     replace hcal:=hcal.up hT
     replace hS:=hS.trans hT
     clear hT
     refine D ?_
     refine W ?_
     refine WR ?_
     exact .mk ⟨rfl,hS⟩
   · rw [if_pos he1]
     repeat'(first|refine W1 ?_|omega|refine VG ?_ ?_<;>intro hg|refine VC ?_ ?_<;>intro hc)
     all_goals try (exact absurd (by assumption) he1)
     refine WR ?_
     exact .mk ⟨rfl,hS⟩
 · rw [if_pos he]
   repeat'(first|refine W1 ?_|omega|refine VG ?_ ?_<;>intro hg|refine VC ?_ ?_<;>intro hc)
   all_goals try (exact absurd (by assumption) he)
   refine WR ?_
   exact .mk ⟨rfl,hS⟩
 obtain ⟨a,b,rfl⟩:∃ a b,l=[a,b]:=ctyLen2 (by have:=congrArg List.length hts;rw [htwo.1] at this;simpa using this)
 have hta:typeT a=3:=by rw [htwo.1] at hts;simp only [List.map_cons,List.map_nil,List.cons.injEq] at hts;exact hts.1
 have em:[a,b].map (evalV (openM c kn) ev)=[evalV (openM c kn) ev a,evalV (openM c kn) ev b]:=rfl
 have e0:[evalV (openM c kn) ev a,evalV (openM c kn) ev b].getD 0 (0,0)=evalV (openM c kn) ev a:=rfl
 have e1:[evalV (openM c kn) ev a,evalV (openM c kn) ev b].getD 1 (0,0)=evalV (openM c kn) ev b:=rfl
 have el:¬ [evalV (openM c kn) ev a,evalV (openM c kn) ev b].length=1:=by simp
 have l0:0 < [a,b].length:=by simp
 have l1:1 < [a,b].length:=by simp
 have hlen2:([a,b]:List Nd).length=2:=rfl
 have hand:¬ (r.k=6∧(r.s=[97,110,100]∧(evalV (openM c kn) ev a).1=0∨r.s=[111,114]∧(evalV (openM c kn) ev a).1=1)):=fun h=>hao ⟨h.1,h.2.elim (fun x=>.inl x.1) (fun x=>.inr x.1)⟩
 rw [hk7] at k3 hand ⊢
 focus repeat'(first|refine W1 ?_|omega|refine VG ?_ ?_<;>intro hg|refine VC ?_ ?_<;>intro hc)
 refine WC_drawn 11 [] [] [(0,1),(1,0),(2,1),(3,0),(4,1),(5,2),(6,0),(7,0),(8,0),(9,0),(10,0)] rfl mixed (by kernel_rfl) (by kernel_rfl) (by kernel_rfl) (fun w1 hS1=>?_)
 replace k2:=k2.up hS1
 replace k3:=k3.up hS1
 replace hs:=hs.up hS1
 replace hcal:=hcal.up hS1
 replace hS:=hS.trans hS1
 clear hS1
 obtain ⟨q0,g0,c0⟩:=hs.nd l0
 refine D ?_
 refine WD_read rfl trivial (fun w' hS'=>PR_loadNd rfl rfl (hs.up hS') l0 (fun j u hj=>cell_on hs l0 (hS'.mono (by simp)) (c0 j u hj))) rfl ?_
 refine WD_eff rfl trivial (OE_call rfl (evs2 rfl rfl) (ih a (by simp) (hkid a (by simp)) _ _ hcal ⟨q0,rfl,g0⟩)) (fun _ _ h=>h.2) rfl ?_
 rintro _ wk ⟨rfl,hT⟩
 clear g0 c0
 replace k2:=k2.up hT
 replace k3:=k3.up hT
 replace hs:=hs.up hT
 replace hcal:=hcal.up hT
 replace hS:=hS.trans hT
 clear hT
 refine D ?_
 rw [em]
 unfold combV
 rw [if_neg (by decide),if_neg (by decide),e0,e1]
 by_cases he:(evalV (openM c kn) ev a).2=0
 · rw [if_neg (fun h=>h he),if_neg (by decide),if_neg (by decide),if_neg el,if_neg hand]
   rw [he]
   have hva:=eval_vok (openM c kn) ev hev a (hkid a (by simp)) he
   have hnum:=hva.num
   unfold Num at hnum
   repeat'(first|refine W1 ?_|omega|refine VG ?_ ?_<;>intro hg|refine VC ?_ ?_<;>intro hc)
   all_goals try (exact absurd rfl (by assumption))
   refine WC_drawn 11 [] [] [(0,1),(1,0),(2,1),(3,0),(4,1),(5,2),(6,0),(7,0),(8,0),(9,0),(10,0)] rfl mixed (by kernel_rfl) (by kernel_rfl) (by kernel_rfl) (fun w1 hS1=>?_)
   replace k2:=k2.up hS1
   replace k3:=k3.up hS1
   replace hs:=hs.up hS1
   replace hcal:=hcal.up hS1
   replace hS:=hS.trans hS1
   clear hS1
   obtain ⟨q1,g1,c1⟩:=hs.nd l1
   refine D ?_
   refine WD_read rfl trivial (fun w' hS'=>PR_loadNd rfl rfl (hs.up hS') l1 (fun j u hj=>cell_on hs l1 (hS'.mono (by simp)) (c1 j u hj))) rfl ?_
   refine WD_eff rfl trivial (OE_call rfl (evs2 rfl rfl) (ih b (by simp) (hkid b (by simp)) _ _ hcal ⟨q1,rfl,g1⟩)) (fun _ _ h=>h.2) rfl ?_
   rintro _ wk ⟨rfl,hT⟩
   clear g1 c1
   replace k2:=k2.up hT
   replace k3:=k3.up hT
   replace hs:=hs.up hT
   replace hcal:=hcal.up hT
   replace hS:=hS.trans hT
   clear hT
   refine D ?_
   by_cases he1:(evalV (openM c kn) ev b).2=0
   · rw [if_neg (fun h=>h he1),if_neg (by decide),if_pos rfl,he1]
     have hvb:=eval_vok (openM c kn) ev hev b (hkid b (by simp)) he1
     have hnumb:=hvb.num
     unfold Num at hnumb
     repeat'(first|refine W1 ?_|omega|refine VG ?_ ?_<;>intro hg|refine VC ?_ ?_<;>intro hc)
     all_goals try (exact absurd rfl (by assumption))
     refine WC_drawn 12 [] [] [(0,1),(1,0),(2,1),(4,0),(5,0),(6,0),(3,2),(7,2),(8,0),(9,0),(10,0),(11,0)] rfl mixed (by kernel_rfl) (by kernel_rfl) (by kernel_rfl) (fun w1 hS1=>?_)
     replace k2:=k2.up hS1
     replace k3:=k3.up hS1
     replace hs:=hs.up hS1
     replace hcal:=hcal.up hS1
     replace hS:=hS.trans hS1
     clear hS1
     refine D ?_
     refine WD_eff rfl trivial (OE_call rfl (evs1 rfl) (unit16_any r.s _)) (fun _ _ h=>h.2 ▸ Stp.refl _ _) rfl ?_
     rintro _ _ ⟨rfl,rfl⟩
     refine D ?_
     refine WD_eff rfl trivial (OE_call rfl (evs4 rfl rfl rfl rfl) (double16_any hcal (unitO r.s) (evalV (openM c kn) ev a).1 (-(evalV (openM c kn) ev b).1) hva.num (by unfold Num;omega) (fun _=>inDays_iff.2 (by rw [hta] at hva;exact hva.d)))) (fun _ _ h=>h.2) rfl ?_
     rintro _ wk ⟨rfl,hT⟩
     replace k2:=k2.up hT
     replace k3:=k3.up hT
     replace hs:=hs.up hT
     replace hcal:=hcal.up hT
     replace hS:=hS.trans hT
     clear hT
     refine D ?_
     refine W ?_
     refine WR ?_
     exact .mk ⟨rfl,hS⟩
   · rw [if_pos he1]
     repeat'(first|refine W1 ?_|omega|refine VG ?_ ?_<;>intro hg|refine VC ?_ ?_<;>intro hc)
     all_goals try (exact absurd (by assumption) he1)
     refine WR ?_
     exact .mk ⟨rfl,hS⟩
 · rw [if_pos he]
   repeat'(first|refine W1 ?_|omega|refine VG ?_ ?_<;>intro hg|refine VC ?_ ?_<;>intro hc)
   all_goals try (exact absurd (by assumption) he)
   refine WR ?_
   exact .mk ⟨rfl,hS⟩
 rcases htwo.1 with ht1|ht1
 obtain ⟨a,b,rfl⟩:∃ a b,l=[a,b]:=ctyLen2 (by have:=congrArg List.length hts;rw [ht1] at this;simpa using this)
 have hta:typeT a=1:=by rw [ht1] at hts;simp only [List.map_cons,List.map_nil,List.cons.injEq] at hts;exact hts.1
 have em:[a,b].map (evalV (openM c kn) ev)=[evalV (openM c kn) ev a,evalV (openM c kn) ev b]:=rfl
 have e0:[evalV (openM c kn) ev a,evalV (openM c kn) ev b].getD 0 (0,0)=evalV (openM c kn) ev a:=rfl
 have e1:[evalV (openM c kn) ev a,evalV (openM c kn) ev b].getD 1 (0,0)=evalV (openM c kn) ev b:=rfl
 have el:¬ [evalV (openM c kn) ev a,evalV (openM c kn) ev b].length=1:=by simp
 have l0:0 < [a,b].length:=by simp
 have l1:1 < [a,b].length:=by simp
 have hlen2:([a,b]:List Nd).length=2:=rfl
 have hand:¬ (r.k=6∧(r.s=[97,110,100]∧(evalV (openM c kn) ev a).1=0∨r.s=[111,114]∧(evalV (openM c kn) ev a).1=1)):=fun h=>hao ⟨h.1,h.2.elim (fun x=>.inl x.1) (fun x=>.inr x.1)⟩
 have hna:¬ r.s=[97,110,100]:=fun h=>hao ⟨htwo.2,.inl h⟩
 have hno:¬ r.s=[111,114]:=fun h=>hao ⟨htwo.2,.inr h⟩
 rw [htwo.2] at k3 hand ⊢
 focus repeat'(first|refine W1 ?_|omega|refine VG ?_ ?_<;>intro hg|refine VC ?_ ?_<;>intro hc)
 refine WC_drawn 11 [] [] [(0,1),(1,0),(2,1),(3,0),(4,1),(5,2),(6,0),(7,0),(8,0),(9,0),(10,0)] rfl mixed (by kernel_rfl) (by kernel_rfl) (by kernel_rfl) (fun w1 hS1=>?_)
 replace k2:=k2.up hS1
 replace k3:=k3.up hS1
 replace hs:=hs.up hS1
 replace hcal:=hcal.up hS1
 replace hS:=hS.trans hS1
 clear hS1
 obtain ⟨q0,g0,c0⟩:=hs.nd l0
 refine D ?_
 refine WD_read rfl trivial (fun w' hS'=>PR_loadNd rfl rfl (hs.up hS') l0 (fun j u hj=>cell_on hs l0 (hS'.mono (by simp)) (c0 j u hj))) rfl ?_
 refine WD_eff rfl trivial (OE_call rfl (evs2 rfl rfl) (ih a (by simp) (hkid a (by simp)) _ _ hcal ⟨q0,rfl,g0⟩)) (fun _ _ h=>h.2) rfl ?_
 rintro _ wk ⟨rfl,hT⟩
 clear g0 c0
 replace k2:=k2.up hT
 replace k3:=k3.up hT
 replace hs:=hs.up hT
 replace hcal:=hcal.up hT
 replace hS:=hS.trans hT
 clear hT
 refine D ?_
 rw [em]
 unfold combV
 rw [if_neg (by decide),if_neg (by decide),e0,e1]
 by_cases he:(evalV (openM c kn) ev a).2=0
 · rw [if_neg (fun h=>h he),if_neg (by decide),if_neg (by decide),if_neg el,if_neg hand]
   rw [he]
   have hva:=eval_vok (openM c kn) ev hev a (hkid a (by simp)) he
   have hnum:=hva.num
   unfold Num at hnum
   repeat'(first|refine W1 ?_|omega|refine VG ?_ ?_<;>intro hg|refine VC ?_ ?_<;>intro hc)
   all_goals try (exact absurd rfl (by assumption))
   all_goals try (exact absurd (by assumption) hna)
   all_goals try (exact absurd (by assumption) hno)
   refine WC_drawn 11 [] [] [(0,1),(1,0),(2,1),(3,0),(4,1),(5,2),(6,0),(7,0),(8,0),(9,0),(10,0)] rfl mixed (by kernel_rfl) (by kernel_rfl) (by kernel_rfl) (fun w1 hS1=>?_)
   replace k2:=k2.up hS1
   replace k3:=k3.up hS1
   replace hs:=hs.up hS1
   replace hcal:=hcal.up hS1
   replace hS:=hS.trans hS1
   clear hS1
   obtain ⟨q1,g1,c1⟩:=hs.nd l1
   refine D ?_
   refine WD_read rfl trivial (fun w' hS'=>PR_loadNd rfl rfl (hs.up hS') l1 (fun j u hj=>cell_on hs l1 (hS'.mono (by simp)) (c1 j u hj))) rfl ?_
   refine WD_eff rfl trivial (OE_call rfl (evs2 rfl rfl) (ih b (by simp) (hkid b (by simp)) _ _ hcal ⟨q1,rfl,g1⟩)) (fun _ _ h=>h.2) rfl ?_
   rintro _ wk ⟨rfl,hT⟩
   clear g1 c1
   replace k2:=k2.up hT
   replace k3:=k3.up hT
   replace hs:=hs.up hT
   replace hcal:=hcal.up hT
   replace hS:=hS.trans hT
   clear hT
   refine D ?_
   by_cases he1:(evalV (openM c kn) ev b).2=0
   · rw [if_neg (fun h=>h he1),if_neg (by decide),if_neg (by decide),if_neg (by decide),he1]
     have hvb:=eval_vok (openM c kn) ev hev b (hkid b (by simp)) he1
     have hnumb:=hvb.num
     unfold Num at hnumb
     repeat'(first|refine W1 ?_|omega|refine VG ?_ ?_<;>intro hg|refine VC ?_ ?_<;>intro hc)
     all_goals try (exact absurd rfl (by assumption))
     refine CL rfl (evs3 rfl rfl rfl) rfl (binary16_any r.s _ _ hva.num hvb.num _) ?_
     rintro _ _ ⟨rfl,rfl⟩
     refine W ?_
     refine WR ?_
     exact .mk ⟨rfl,hS⟩
   · rw [if_pos he1]
     repeat'(first|refine W1 ?_|omega|refine VG ?_ ?_<;>intro hg|refine VC ?_ ?_<;>intro hc)
     all_goals try (exact absurd (by assumption) he1)
     refine WR ?_
     exact .mk ⟨rfl,hS⟩
 · rw [if_pos he]
   repeat'(first|refine W1 ?_|omega|refine VG ?_ ?_<;>intro hg|refine VC ?_ ?_<;>intro hc)
   all_goals try (exact absurd (by assumption) he)
   refine WR ?_
   exact .mk ⟨rfl,hS⟩
 obtain ⟨a,b,rfl⟩:∃ a b,l=[a,b]:=ctyLen2 (by have:=congrArg List.length hts;rw [ht1] at this;simpa using this)
 have hta:typeT a=3:=by rw [ht1] at hts;simp only [List.map_cons,List.map_nil,List.cons.injEq] at hts;exact hts.1
 have em:[a,b].map (evalV (openM c kn) ev)=[evalV (openM c kn) ev a,evalV (openM c kn) ev b]:=rfl
 have e0:[evalV (openM c kn) ev a,evalV (openM c kn) ev b].getD 0 (0,0)=evalV (openM c kn) ev a:=rfl
 have e1:[evalV (openM c kn) ev a,evalV (openM c kn) ev b].getD 1 (0,0)=evalV (openM c kn) ev b:=rfl
 have el:¬ [evalV (openM c kn) ev a,evalV (openM c kn) ev b].length=1:=by simp
 have l0:0 < [a,b].length:=by simp
 have l1:1 < [a,b].length:=by simp
 have hlen2:([a,b]:List Nd).length=2:=rfl
 have hand:¬ (r.k=6∧(r.s=[97,110,100]∧(evalV (openM c kn) ev a).1=0∨r.s=[111,114]∧(evalV (openM c kn) ev a).1=1)):=fun h=>hao ⟨h.1,h.2.elim (fun x=>.inl x.1) (fun x=>.inr x.1)⟩
 have hna:¬ r.s=[97,110,100]:=fun h=>hao ⟨htwo.2,.inl h⟩
 have hno:¬ r.s=[111,114]:=fun h=>hao ⟨htwo.2,.inr h⟩
 rw [htwo.2] at k3 hand ⊢
 focus repeat'(first|refine W1 ?_|omega|refine VG ?_ ?_<;>intro hg|refine VC ?_ ?_<;>intro hc)
 refine WC_drawn 11 [] [] [(0,1),(1,0),(2,1),(3,0),(4,1),(5,2),(6,0),(7,0),(8,0),(9,0),(10,0)] rfl mixed (by kernel_rfl) (by kernel_rfl) (by kernel_rfl) (fun w1 hS1=>?_)
 replace k2:=k2.up hS1
 replace k3:=k3.up hS1
 replace hs:=hs.up hS1
 replace hcal:=hcal.up hS1
 replace hS:=hS.trans hS1
 clear hS1
 obtain ⟨q0,g0,c0⟩:=hs.nd l0
 refine D ?_
 refine WD_read rfl trivial (fun w' hS'=>PR_loadNd rfl rfl (hs.up hS') l0 (fun j u hj=>cell_on hs l0 (hS'.mono (by simp)) (c0 j u hj))) rfl ?_
 refine WD_eff rfl trivial (OE_call rfl (evs2 rfl rfl) (ih a (by simp) (hkid a (by simp)) _ _ hcal ⟨q0,rfl,g0⟩)) (fun _ _ h=>h.2) rfl ?_
 rintro _ wk ⟨rfl,hT⟩
 clear g0 c0
 replace k2:=k2.up hT
 replace k3:=k3.up hT
 replace hs:=hs.up hT
 replace hcal:=hcal.up hT
 replace hS:=hS.trans hT
 clear hT
 refine D ?_
 rw [em]
 unfold combV
 rw [if_neg (by decide),if_neg (by decide),e0,e1]
 by_cases he:(evalV (openM c kn) ev a).2=0
 · rw [if_neg (fun h=>h he),if_neg (by decide),if_neg (by decide),if_neg el,if_neg hand]
   rw [he]
   have hva:=eval_vok (openM c kn) ev hev a (hkid a (by simp)) he
   have hnum:=hva.num
   unfold Num at hnum
   repeat'(first|refine W1 ?_|omega|refine VG ?_ ?_<;>intro hg|refine VC ?_ ?_<;>intro hc)
   all_goals try (exact absurd rfl (by assumption))
   all_goals try (exact absurd (by assumption) hna)
   all_goals try (exact absurd (by assumption) hno)
   refine WC_drawn 11 [] [] [(0,1),(1,0),(2,1),(3,0),(4,1),(5,2),(6,0),(7,0),(8,0),(9,0),(10,0)] rfl mixed (by kernel_rfl) (by kernel_rfl) (by kernel_rfl) (fun w1 hS1=>?_)
   replace k2:=k2.up hS1
   replace k3:=k3.up hS1
   replace hs:=hs.up hS1
   replace hcal:=hcal.up hS1
   replace hS:=hS.trans hS1
   clear hS1
   obtain ⟨q1,g1,c1⟩:=hs.nd l1
   refine D ?_
   refine WD_read rfl trivial (fun w' hS'=>PR_loadNd rfl rfl (hs.up hS') l1 (fun j u hj=>cell_on hs l1 (hS'.mono (by simp)) (c1 j u hj))) rfl ?_
   refine WD_eff rfl trivial (OE_call rfl (evs2 rfl rfl) (ih b (by simp) (hkid b (by simp)) _ _ hcal ⟨q1,rfl,g1⟩)) (fun _ _ h=>h.2) rfl ?_
   rintro _ wk ⟨rfl,hT⟩
   clear g1 c1
   replace k2:=k2.up hT
   replace k3:=k3.up hT
   replace hs:=hs.up hT
   replace hcal:=hcal.up hT
   replace hS:=hS.trans hT
   clear hT
   refine D ?_
   by_cases he1:(evalV (openM c kn) ev b).2=0
   · rw [if_neg (fun h=>h he1),if_neg (by decide),if_neg (by decide),if_neg (by decide),he1]
     have hvb:=eval_vok (openM c kn) ev hev b (hkid b (by simp)) he1
     have hnumb:=hvb.num
     unfold Num at hnumb
     repeat'(first|refine W1 ?_|omega|refine VG ?_ ?_<;>intro hg|refine VC ?_ ?_<;>intro hc)
     all_goals try (exact absurd rfl (by assumption))
     refine CL rfl (evs3 rfl rfl rfl) rfl (binary16_any r.s _ _ hva.num hvb.num _) ?_
     rintro _ _ ⟨rfl,rfl⟩
     refine W ?_
     refine WR ?_
     exact .mk ⟨rfl,hS⟩
   · rw [if_pos he1]
     repeat'(first|refine W1 ?_|omega|refine VG ?_ ?_<;>intro hg|refine VC ?_ ?_<;>intro hc)
     all_goals try (exact absurd (by assumption) he1)
     refine WR ?_
     exact .mk ⟨rfl,hS⟩
 · rw [if_pos he]
   repeat'(first|refine W1 ?_|omega|refine VG ?_ ?_<;>intro hg|refine VC ?_ ?_<;>intro hc)
   all_goals try (exact absurd (by assumption) he)
   refine WR ?_
   exact .mk ⟨rfl,hS⟩
theorem buildPl (ev:List Int) (c:Cal) (hv cv zo zs hr:Value) (kn:Int) (w:World):(Instr.build 114 #[(0,evA ev),(1,calA c hv cv zo zs hr),(2,.int .i64 kn)]).run Tryz.prog w=.ok (plA ev c hv cv zo zs hr kn) w:=by kernel_rfl
theorem Eval16_any (hev:EvOk ev) (x:Nd) (ht:typeT x≠0) (nv:Value) (w:World) (hcal:CalV w c hv cv zo zs hr) (ho:zo.oneCell'=true∧zs.oneCell'=true∧hr.oneCell'=true) (hx:NdV [] w nv x) :
 Calls Tryz.prog 21 #[nv,evA ev,calA c hv cv zo zs hr,.int .i64 kn] w (Ret fun r w'=>r=nums (evalV (openM c kn) ev x)∧Stp [] w w'):=by
 obtain ⟨kv,rfl,hsk⟩:=hx
 refine calls_of_WC4 (n:=18) Tryz.func21 rfl rfl rfl ?_
 refine W ?_
 refine WL_eff (OE_box rfl) rfl ?_
 rintro _ w1 ⟨b4,rfl,hb4,k4,hS⟩
 replace k4:Blk w1 b4 27 [.int .i64 x.kind,.int .i64 x.num,str x.word,kv]:=k4
 refine WL_eff (OE_box rfl) rfl ?_
 rintro _ w2 ⟨b5,rfl,hb5,k5,hT⟩
 replace k5:Blk w2 b5 29 (evC ev):=k5
 replace k4:=k4.up hT
 replace hS:=hS.trans hT
 clear hT
 refine WL_eff (OE_box rfl) rfl ?_
 rintro _ w3 ⟨b6,rfl,hb6,k6,hT⟩
 replace k6:Blk w3 b6 37 (calC c hv cv zo zs hr):=k6
 replace k4:=k4.up hT
 replace k5:=k5.up hT
 replace hS:=hS.trans hT
 clear hT
 refine W ?_
 refine WL_build (vs:=[(0,evA ev),(1,calA c hv cv zo zs hr),(2,.int .i64 kn)]) rfl (buildPl ev c hv cv zo zs hr kn) rfl ?_
 refine W ?_
 refine CL rfl (evs2 rfl rfl) rfl (eval16_any hev x ht _ _ (hcal.up hS) ⟨kv,rfl,hsk.up hS⟩) ?_
 rintro _ w4 ⟨rfl,hT⟩
 refine W ?_
 refine WR ?_
 exact .mk ⟨rfl,hS.trans hT⟩
end
theorem vmEvalsLaw (v0 v1 v2:Value) (l0 l1 l2:List Int) (kd kz:Int) (er:Value) (m:Int)  (w:World) (h0:SlV [] w v0 l0) (h1:SlV [] w v1 l1) (h2:SlV [] w v2 l2) (hi0:∀ a∈l0,I64 a) (hi1:∀ a∈l1,I64 a) (hi2:∀ a∈l2,I64 a) (hkd:I64 kd) (hkz:I64 kz) (hL:LenG w) (hM:MovG w) (hm:w.cell? ⟨2,0,none⟩=some (.int .i64 m)) (hv4:w.cell? ⟨5,0,none⟩=some er) (hev4:er=.nilIface∨∃ te pe,er=.iface te pe)  :
 Calls Tryz.prog 5 #[caseA v0 v1 v2 kd kz] w (Ret fun r w'=>r=.bool true∧Stp [] w w'):=by
 refine calls_of_WC1 (n:=45) Tryz.func5 rfl rfl rfl ?_
 refine W ?_
 refine WL_eff (OE_box rfl) rfl ?_
 rintro _ w1 ⟨b1,rfl,hb1,k1,hS⟩
 replace k1:Blk w1 b1 24 [v0,v1,v2,.int .i64 kd,.int .i64 kz]:=k1
 refine W ?_
 refine CL rfl (evs1 rfl) rfl (Made16_any v0 v1 v2 l0 l1 l2 kd kz _ (h0.up hS) (h1.up hS) (h2.up hS) hi0 hi1 hi2 hkd hkz (hL.up hS) (hM.up hS)) ?_
 rintro _ w2 ⟨y,t,ky,ev,c,hv,cv,zo,zs,hr,kn,rfl,hg,hky,hev,hcal,ho,hcs,hkn,hT⟩
 replace k1:=k1.up hT
 replace hS:=hS.trans hT
 clear hT
 have hone:=hky.one
 refine W ?_
 refine WL_eff OE_alloc rfl ?_
 rintro _ w3 ⟨b3,rfl,hb3,k3,hA⟩
 have lt3:=k3.lt
 refine WL_eff OE_alloc rfl ?_
 rintro _ w4 ⟨b4,rfl,hb4,k4,hT⟩
 have gz4:=hA.size
 replace k3:=k3.up hT
 replace hA:=hA.trans hT
 clear hT
 have lt4:=k4.lt
 refine WL_eff OE_alloc rfl ?_
 rintro _ w5 ⟨b5,rfl,hb5,k5,hT⟩
 have gz5:=hA.size
 replace k3:=k3.up hT
 replace k4:=k4.up hT
 replace hA:=hA.trans hT
 clear hT
 refine WL_eff0 (OE_storeA (us:=ndC y ky) rfl rfl rfl rfl (ndC_one hky) k3 rfl) ?_
 rintro _ w6 ⟨hT,k3⟩
 replace k4:=k4.ext hT (by simp;omega)
 replace k5:=k5.ext hT (by simp;omega)
 replace hA:=hA.own hT (fun c hc=>.inr (by simp at hc;omega))
 clear hT
 refine WL_eff0 (OE_storeA (us:=evC ev) rfl rfl rfl rfl (ev_one _) k4 rfl) ?_
 rintro _ w7 ⟨hT,k4⟩
 replace k3:=k3.ext hT (by simp;omega)
 replace k5:=k5.ext hT (by simp;omega)
 replace hA:=hA.own hT (fun c hc=>.inr (by simp at hc;omega))
 clear hT
 refine WL_eff0 (OE_storeA (us:=calC c hv cv zo zs hr) rfl rfl rfl rfl (cal_one hcal.hols.one hcal.clos.one ho) k5 rfl) ?_
 rintro _ w8 ⟨hT,k5⟩
 replace k3:=k3.ext hT (by simp;omega)
 replace k4:=k4.ext hT (by simp;omega)
 replace hA:=hA.own hT (fun c hc=>.inr (by simp at hc;omega))
 clear hT gz4 gz5
 replace hky:=hky.up hA
 replace hcal:=hcal.up hA
 replace k1:=k1.up hA
 replace hS:=hS.trans hA
 clear hA
 have hty:=hg.type
 have htn:typeT y≠0:=by rw [hty];exact hg.ne
 have hn5:nestN y≤5:=hg.nest
 have hn16:nestN y≤16:=by omega
 refine W ?_
 refine CL rfl (evs4 rfl rfl rfl rfl) rfl (VEval_any _ y kn ev c hv cv zo zs hr _ ⟨ky,rfl,hky⟩ htn hn16 hcal hev ho) ?_
 rintro _ wE ⟨rfl,hT⟩
 replace k1:=k1.up hT
 replace k3:=k3.up hT
 replace k4:=k4.up hT
 replace k5:=k5.up hT
 replace hky:=hky.up hT
 replace hcal:=hcal.up hT
 replace hS:=hS.trans hT
 clear hT
 refine W ?_
 refine CL rfl (evs4 rfl rfl rfl rfl) rfl (Eval16_any (kn:=kn) hev y htn _ _ hcal ho ⟨ky,rfl,hky⟩) ?_
 rintro _ wF ⟨rfl,hT⟩
 replace k1:=k1.up hT
 replace k3:=k3.up hT
 replace k4:=k4.up hT
 replace k5:=k5.up hT
 replace hky:=hky.up hT
 replace hcal:=hcal.up hT
 replace hS:=hS.trans hT
 clear hT
 have hz:(if (evalV (openM c kn) ev y).2=0 then (evalV (openM c kn) ev y).1 else 0)=(evalV (openM c kn) ev y).1:=by
  by_cases h:(evalV (openM c kn) ev y).2=0
  rw [if_pos h]
  rw [if_neg h,eval_err0 _ _ _ h]
 rw [hz]
 refine W ?_
 simp only [eq_self,decide_true]
 refine W ?_
 simp only [eq_self,decide_true]
 refine W ?_
 refine CL rfl evs0 rfl (lives16_any er m _ (hL.up hS) (hM.up hS) (hS.cell (by simp) hm) (hS.cell (by simp) hv4) hev4) ?_
 rintro _ wl ⟨rfl,hT⟩
 replace hS:=hS.trans hT
 clear hT
 refine W ?_
 refine WR ?_
 exact .mk ⟨by simp,hS⟩
end Go.Proofs.YtjdjdoefppebkaaGreatDoor
namespace Go.Eng
open Go Go.RowKit Go.Proofs
def Laid1 (P:Program) (w:World) (n:String) (d:DataW Unit):Prop:=∃ g t cs fuel p,P.globalNamed n=some g∧(P.globals[g]?).map (·.type)=some t∧w.var? P n=some cs∧DataW.trod (fun _=>()) P w 0 (fun _=>true) false fuel t cs.toList=some (d,p)
theorem laid1_of {P:Program} {w:World}:∀ (l:List (String×DataW Unit)) (ps:List MemPlace),DataW.LaidVars P w l ps→∀ (n:String) (d:DataW Unit),(n,d)∈l→Laid1 P w n d
 | [],_,_,n,d,h=>by simp at h
 | (n0, d0) :: r, ps, hl, n, d, h => by
   obtain ⟨g,t,cs,fuel,p,q,h1,h2,h3,h4,h5,_⟩:=hl
   rcases List.mem_cons.1 h with h|h
   cases h
   exact ⟨g,t,cs,fuel,p,h1,h2,h3,h4⟩
   exact laid1_of r q h5 n d h
theorem laid1_tab {P:Program} {w:World} {name:String} {g t e n:Nat} {k:IntKind} {zs:List Int} (h:Laid1 P w name (Lib.tabData k zs)) (hg:P.globalNamed name=some g) (hty:(P.globals[g]?).map (·.type)=some t) (ht:P.underlying t=some (.array n e)) (he:P.underlying e=some (.int k)) (hce:P.cellsOf e=1) (hct:P.cellsOf t=n):Lib.TabIs P w name k zs:=by
 obtain ⟨g',t',cs,fuel,p,hg',ht',hvar,hd⟩:=h
 obtain rfl:=Option.some.inj (hg.symm.trans hg')
 obtain rfl:=Option.some.inj (hty.symm.trans ht')
 unfold Lib.TabIs
 rw [hvar,← Lib.cells_of_tab ht he hce hct hd]
theorem laid1_iface {P:Program} {W:World} {name:String} {g t:Nat} {ms:Array (String×TypeId)} {d:DataW Unit} (hg:P.globalNamed name=some g) (ht:(P.globals[g]?).map (·.type)=some t) (hu:P.underlying t=some (.interface ms)) (h:Laid1 P W name d) :
 ∃ er,W.cell? ⟨g,0,none⟩=some er∧(er=.nilIface∨∃ te pe,er=.iface te pe):=by
 obtain ⟨g0,t0,cs0,f0,p0,hg0,ht0,hv0,hd0⟩:=h
 obtain rfl:=Option.some.inj (hg.symm.trans hg0)
 obtain rfl:=Option.some.inj (ht.symm.trans ht0)
 have hv:=World.var?_cell hg0 hv0 0
 rw [hv]
 rw [← Array.getElem?_toList]
 generalize cs0.toList=cs at *
 cases f0 with
 | zero=>simp [DataW.trod] at hd0
 | succ f=>
   unfold DataW.trod at hd0
   rw [hu] at hd0
   match cs,hd0 with
   | [],hd0=>simp at hd0
   | a :: b :: r,hd0=>simp at hd0
   | [x], hd0=>
     refine ⟨x,rfl,?_⟩
     cases x with
     | nilIface=>exact .inl rfl
     | iface u v=>exact .inr ⟨u,v,rfl⟩
     | _=>simp at hd0
end Go.Eng
namespace Go.Proofs.YtjdjdoefppebkaaGreatDoor
open Go Go.Eng Go.RowKit Go.Proofs
open Go Go.Eng Go.RowKit Go.Proofs Go.ChangeShapes Go.WideShapes Go.Deep
theorem movesData {W:World} (h:Laid1 Tryz.prog W "rollbook/holiday.moves" Rows.laid_rollbook_holiday_moves):MovG W:=by
 obtain ⟨g0,t0,cs0,f0,p0,hg0,ht0,hv0,hd0⟩:=h
 have hg:Tryz.prog.globalNamed "rollbook/holiday.moves" = some 3:=by kernel_rfl
 have ht:(Tryz.prog.globals[3]?).map (·.type)=some 345:=by kernel_rfl
 obtain rfl:=Option.some.inj (hg.symm.trans hg0)
 obtain rfl:=Option.some.inj (ht.symm.trans ht0)
 obtain ⟨xs,m1,rfl,hx1,hlen,hn3,hel⟩:=DataW.trod_array Tryz.underlying345 hd0
 have hc7:Tryz.prog.cellsOf 83=7:=by kernel_rfl
 have e3:(Rows.laid_rollbook_holiday_moves:DataW Unit)=.agg (xs.map (·.1)):=congrArg Prod.fst hx1
 have e4:(.agg [Lib.tabData .i64 [0,0,0,0,0,0,0],Lib.tabData .i64 [0,0,0,0,0,2,1],Lib.tabData .i64 [0,0,0,0,0,-1,1]]:DataW Unit)=.agg (xs.map (·.1)):=e3
 simp only [DataW.agg.injEq] at e4
 have row:∀ (k:Nat) (zs:List Int),k<3→[Lib.tabData .i64 [0,0,0,0,0,0,0],Lib.tabData .i64 [0,0,0,0,0,2,1],(Lib.tabData .i64 [0,0,0,0,0,-1,1]:DataW Unit)][k]?=some (Lib.tabData .i64 zs)→(cs0.toList.drop (k * 7)).take 7=zs.map fun z=>Value.int .i64 z:=by
  intro k zs hk hz
  have h1:=hel k hk
  rw [hc7] at h1
  rw [e4,List.getElem?_map] at hz
  cases hx:xs[k]? with
  | none=>rw [hx] at hz;cases hz
  | some y=>
    rw [hx] at hz h1
    have hy:y=(Lib.tabData .i64 zs,y.2):=Prod.ext (Option.some.inj hz) rfl
    rw [hy] at h1
    exact Lib.cells_of_tab (t:=83) (e:=3) (n:=7) Tryz.underlying83 Tryz.underlying3 (by kernel_rfl) hc7 h1
 have r0:=row 0 _ (by omega) rfl
 have r1:=row 1 _ (by omega) rfl
 have r2:=row 2 _ (by omega) rfl
 have hcell:∀ (k:Nat) (zs:List Int) (j:Nat),(cs0.toList.drop (k * 7)).take 7=(zs.map fun z=>Value.int .i64 z)→j<7→j<zs.length→cs0.toList[k * 7+j]?=some (.int .i64 (zs.getD j 0)):=by
  intro k zs j hr hj hjl
  have h6:=congrArg (fun l=>l[j]?) hr
  simp only [List.getElem?_take,List.getElem?_drop,List.getElem?_map,if_pos hj] at h6
  rw [h6]
  simp [List.getD,hjl]
 intro i u hu
 have hi:=(List.getElem?_eq_some_iff.1 hu).1
 have hi21:i<21:=hi
 have hv:=World.var?_cell hg hv0 i
 rw [hv,← Array.getElem?_toList]
 by_cases h7:i<7
 have h2:=hcell 0 _ i r0 h7 (by simpa using h7)
 rw [show 0 * 7+i=i by omega] at h2
 rw [h2]
 have hk:i=0∨i=1∨i=2∨i=3∨i=4∨i=5∨i=6:=by omega
 rcases hk with rfl|rfl|rfl|rfl|rfl|rfl|rfl<;>(simp [movesL] at hu;subst hu;rfl)
 by_cases h14:i<14
 have h2:=hcell 1 _ (i - 7) r1 (by omega) (by simp;omega)
 rw [show 1 * 7+(i - 7)=i by omega] at h2
 rw [h2]
 have hk:i=7∨i=8∨i=9∨i=10∨i=11∨i=12∨i=13:=by omega
 rcases hk with rfl|rfl|rfl|rfl|rfl|rfl|rfl<;>(simp [movesL] at hu;subst hu;rfl)
 have h2:=hcell 2 _ (i - 14) r2 (by omega) (by simp;omega)
 rw [show 2 * 7+(i - 14)=i by omega] at h2
 rw [h2]
 have hk:i=14∨i=15∨i=16∨i=17∨i=18∨i=19∨i=20:=by omega
 rcases hk with rfl|rfl|rfl|rfl|rfl|rfl|rfl<;>(simp [movesL] at hu;subst hu;rfl)
abbrev laid7b:List (String×DataW Unit):=[("math/bits.deBruijn32tab",Rows.laid_math_bits_deBruijn32tab),("math/bits.deBruijn64tab",Rows.laid_math_bits_deBruijn64tab),("internal/strconv.uint64pow10",Rows.laid_internal_strconv_uint64pow10),("strconv.ErrRange",Rows.laid_strconv_ErrRange),("strconv.ErrSyntax",Rows.laid_strconv_ErrSyntax),("rollbook/date.lengths",Rows.laid_rollbook_date_lengths),("rollbook/holiday.moves",Rows.laid_rollbook_holiday_moves)]
theorem lengthsData {W:World} (h1:Laid1 Tryz.prog W "rollbook/date.lengths" Rows.laid_rollbook_date_lengths):LenG W:=by
 have h2:=laid1_tab (k:=.i64) (zs:=lengthsL) (g:=1) (t:=322) (e:=3) (n:=13) h1 (by kernel_rfl) (by kernel_rfl) Tryz.underlying322 Tryz.underlying3 (by kernel_rfl) (by kernel_rfl)
 intro i u hu
 have hi:=(List.getElem?_eq_some_iff.1 hu).1
 rw [Lib.TabIs.cell h2 (g:=1) (by kernel_rfl) i hi]
 simp [List.getD,hu]
structure LaidV (W:World):Prop where
 len:LenG W
 mov:MovG W
 err:∃ er,W.cell? ⟨5,0,none⟩=some er∧(er=.nilIface∨∃ te pe,er=.iface te pe)
theorem laidV_of {W:World} {l:List (String×DataW Unit)} {ps:List MemPlace} (h:DataW.LaidVars Tryz.prog W l ps) (h1:("rollbook/date.lengths",Rows.laid_rollbook_date_lengths)∈l) (h2:("rollbook/holiday.moves",Rows.laid_rollbook_holiday_moves)∈l) (h3:("strconv.ErrRange",Rows.laid_strconv_ErrRange)∈l):LaidV W:=
 ⟨lengthsData (laid1_of _ _ h _ _ h1),movesData (laid1_of _ _ h _ _ h2),laid1_iface (g:=5) (t:=303) (by kernel_rfl) (by kernel_rfl) Tryz.underlying303 (laid1_of _ _ h _ _ h3)⟩
theorem laid7b_vars {W:World} (h:laidMetH Tryz.prog laid7b W):LaidV W:=by
 rw [MakeChecks.laidMetH_plain _ _ _ (by kernel_rfl)] at h
 obtain ⟨ps,h,_⟩:=h
 exact laidV_of h (by simp [laid7b]) (by simp [laid7b]) (by simp [laid7b])
section
variable {H:Type} {enc:TypeId×Value→H} {w:World} {base:Nat} {spare:Nat→Bool} {held:Bool}
theorem kInts:Tryz.prog.cellsOf 22=1:=by kernel_rfl
theorem kCase:Tryz.prog.cellsOf 24=5:=by kernel_rfl
set_option maxRecDepth 100000 in
theorem case_read {r:Reach} {b0:Nat} {v:Value} {d:DataW H} {p:List MemPlace} (hv:Value.okWide Tryz.prog w r b0 24 v) (h:DataW.Trod enc Tryz.prog w base spare held 24 v d p) :
 ∃ (v0 v1 v2:Value) (kd kz:Int) (l0 l1 l2:List Int),v=caseA v0 v1 v2 kd kz∧SlV [] w v0 l0∧SlV [] w v1 l1∧SlV [] w v2 l2∧(∀ x∈l0,I64 x)∧(∀ x∈l1,I64 x)∧(∀ x∈l2,I64 x)∧I64 kd∧I64 kz:=by
 obtain ⟨cs,rfl,hsz⟩:=okWide_struct Tryz.underlying24 hv
 obtain ⟨fuel,h⟩:=h
 obtain ⟨xs,n,rfl,hx,hlen,hxl,hf⟩:=DataW.trod_struct Tryz.underlying24 h
 rw [kCase] at hlen
 have h0:DataW.trod enc Tryz.prog w base spare held n 22 (((Value.agg cs).cells.toList.drop 0).take (Tryz.prog.cellsOf 22))=xs[0]?:=hf 0 _ rfl
 have h1:DataW.trod enc Tryz.prog w base spare held n 22 (((Value.agg cs).cells.toList.drop 1).take (Tryz.prog.cellsOf 22))=xs[1]?:=hf 1 _ rfl
 have h2:DataW.trod enc Tryz.prog w base spare held n 22 (((Value.agg cs).cells.toList.drop 2).take (Tryz.prog.cellsOf 22))=xs[2]?:=hf 2 _ rfl
 have h3:DataW.trod enc Tryz.prog w base spare held n 3 (((Value.agg cs).cells.toList.drop 3).take (Tryz.prog.cellsOf 3))=xs[3]?:=hf 3 _ rfl
 have h4:DataW.trod enc Tryz.prog w base spare held n 3 (((Value.agg cs).cells.toList.drop 4).take (Tryz.prog.cellsOf 3))=xs[4]?:=hf 4 _ rfl
 rw [k3] at h3 h4
 rw [kInts] at h0 h1 h2
 have hcs:(Value.agg cs).cells.toList=cs.toList:=rfl
 rw [hcs] at h0 h1 h2 h3 h4 hlen
 rw [← Array.toArray_toList (xs:=cs)]
 generalize cs.toList=cl at *
 match cl,hlen,xs,hxl with
 | [c0, c1, c2, c3, c4], _, [y0, y1, y2, y3, y4], _=>
   simp only [List.drop,List.take] at h0 h1 h2 h3 h4
   obtain ⟨a,e3,-,ha⟩:=DataW.trod_int Tryz.underlying3 h3
   obtain ⟨b,e4,-,hb⟩:=DataW.trod_int Tryz.underlying3 h4
   obtain ⟨u0,l0,e0,hs0,hok0,-⟩:=slv_ints Tryz.underlying22 (by kernel_rfl) Tryz.underlying3 h0
   obtain ⟨u1,l1,e1,hs1,hok1,-⟩:=slv_ints Tryz.underlying22 (by kernel_rfl) Tryz.underlying3 h1
   obtain ⟨u2,l2,e2,hs2,hok2,-⟩:=slv_ints Tryz.underlying22 (by kernel_rfl) Tryz.underlying3 h2
   obtain rfl:=(List.cons.inj e0).1
   obtain rfl:=(List.cons.inj e1).1
   obtain rfl:=(List.cons.inj e2).1
   obtain rfl:=(List.cons.inj e3).1
   obtain rfl:=(List.cons.inj e4).1
   exact ⟨c0,c1,c2,a,b,l0,l1,l2,rfl,hs0,hs1,hs2,hok0,hok1,hok2,by simpa [I64,Lit.wf,IntKind.min,IntKind.max,IntKind.signed,IntKind.bits] using ha,by simpa [I64,Lit.wf,IntKind.min,IntKind.max,IntKind.signed,IntKind.bits] using hb⟩
end
end Go.Proofs.YtjdjdoefppebkaaGreatDoor
namespace Go.Eng
open Go Go.RowKit Go.Proofs Go.ChangeShapes Go.WideShapes Go.Deep
def noGo (P:Program) (lo n:Nat):Bool:=(List.range n).all fun i=>!((P.funcs[lo+i]?).any Func.goes)
theorem noGo_at {P:Program} {lo n g:Nat} (h:noGo P lo n=true) (h1:lo≤g) (h2:g<lo+n):(P.funcs[g]?).any Func.goes=false:=by
 have:=List.all_eq_true.1 h (g - lo) (List.mem_range.2 (by omega))
 rw [show lo+(g - lo)=g by omega] at this
 simpa using this
theorem goes_of {P:Program} (h:∀ g:Nat,(P.funcs[g]?).any Func.goes=false) {c:OpenClaim} (hs:c.start=.entering):false=c.goesBy P:=by
 symm
 have hall:P.funcs.any Func.goes=false:=by
  rw [Array.any_eq_false]
  intro i hi hg
  have:=h i
  rw [Array.getElem?_eq_getElem hi] at this
  simp only [Option.any_some] at this
  rw [this] at hg
  cases hg
 have hgo:∀ f,P.goes f=false:=by
  intro f
  unfold Program.goes
  rw [hall,Bool.and_false,Bool.or_false]
  rw [Bool.eq_false_iff]
  intro hc
  have hc2:=hc
  simp [h] at hc2
 unfold OpenClaim.goesBy Program.goesAt Program.goesFrom
 rw [hs]
 cases hf:P.funcNamed c.func with
 | none=>rfl
 | some f=>simp [hgo]
theorem joined_parts {P:Program} {f:FuncId} {fn:Func} {s:ChangeSpec} {c:OpenClaim} (a1:c.wf (OpenSpec.ofChange s)=true) (a2:laidOutB P=true) (a3:mapsRowed P=true) (a4:fn.params.all (P.readableRec ·)=true) (a5:namedTie P c.named s.vars=true)
 (a6:((c.stops == []) && (P.stops == []) && (c.knobs == []) && (P.stopKnobs == []))=true)
 (h2:(c.inPlace == P.inPlace f)=true) (h3:(c.unfollowed == P.unfollowed f)=true) (h4:(c.recurses == P.recurses f)=true) (h5:(c.named == P.varsNamed f)=true)
 (h6 : ((c.maps == (fn.params.toList ++ s.plain.varTypes P).any (P.mapsRec ·)) && (c.ifaces == (fn.params.toList ++ s.plain.varTypes P).any (P.ifacesRec ·)) && (c.mapsOut == P.mapsAmong fn.resultTypes.toList) &&
   (c.loops == (fn.params.toList++s.plain.varTypes P).any (P.loopsFrom ·)) && (c.wideKeys == (fn.params.toList++s.plain.varTypes P++fn.resultTypes.toList).any (P.wideKeysFrom ·)) &&
   s.vars.all (P.varReadable ·) && fn.resultTypes.all (fun t=>P.readableRec t && decide (t<P.types.size)) && (c.ifacesOut == fn.resultTypes.toList.any (P.ifacesRec ·)) && (c.loopsOut == fn.resultTypes.toList.any (P.loopsFrom ·)) && (c.plainKeys == P.plainKeys) && c.shortTexts.isNone && P.stopsHeard && P.mayEnter && (c.lifted == P.liftsFinal) && (P.make == some c.make) && (c.kinds == (if c.domain.isEmpty then [] else fn.params.toList.map fun t=>match P.underlying t with|some (.int k)=>some k|_=>none)) && (c.pinned == c.pinnedBy) &&
   (c.veiled == (fn.params.toList++s.plain.varTypes P++fn.resultTypes.toList).any (P.veiledRec ·)) && c.veiledFits P fn.params.toList (fn.params.toList++s.plain.varTypes P++fn.resultTypes.toList))=true) :
 joinedFacts P f fn s c=true:=by
 simp only [Bool.and_eq_true] at a6 h6
 unfold joinedFacts
 simp only [Bool.and_eq_true]
 exact ⟨⟨⟨⟨⟨⟨⟨⟨⟨⟨⟨⟨⟨⟨⟨⟨⟨⟨⟨⟨⟨⟨⟨⟨⟨⟨⟨⟨⟨⟨⟨a1,a2⟩,a3⟩,a4⟩,a5⟩,a6.1.1.1⟩,a6.1.1.2⟩,a6.1.2⟩,a6.2⟩,h2⟩,h3⟩,h4⟩,h5⟩,h6.1.1.1.1.1.1.1.1.1.1.1.1.1.1.1.1.1.1⟩,h6.1.1.1.1.1.1.1.1.1.1.1.1.1.1.1.1.1.2⟩,h6.1.1.1.1.1.1.1.1.1.1.1.1.1.1.1.1.2⟩,h6.1.1.1.1.1.1.1.1.1.1.1.1.1.1.1.2⟩,h6.1.1.1.1.1.1.1.1.1.1.1.1.1.1.2⟩,h6.1.1.1.1.1.1.1.1.1.1.1.1.1.2⟩,h6.1.1.1.1.1.1.1.1.1.1.1.1.2⟩,h6.1.1.1.1.1.1.1.1.1.1.1.2⟩,h6.1.1.1.1.1.1.1.1.1.1.2⟩,h6.1.1.1.1.1.1.1.1.1.2⟩,h6.1.1.1.1.1.1.1.1.2⟩,h6.1.1.1.1.1.1.1.2⟩,h6.1.1.1.1.1.1.2⟩,h6.1.1.1.1.1.2⟩,h6.1.1.1.1.2⟩,h6.1.1.1.2⟩,h6.1.1.2⟩,h6.1.2⟩,h6.2⟩
end Go.Eng
namespace Go.Proofs.YtjdjdoefppebkaaGreatDoor
open Go Go.Eng Go.RowKit Go.Proofs Go.ChangeShapes Go.WideShapes Go.Deep
theorem law_maps:mapsRowed Tryz.prog=true:=by kernel_rfl
theorem law_size:Tryz.prog.funcs.size=404:=by kernel_rfl
theorem law_goes0:noGo Tryz.prog 0 34=true:=by kernel_rfl
theorem law_goes1:noGo Tryz.prog 34 34=true:=by kernel_rfl
theorem law_goes2:noGo Tryz.prog 68 34=true:=by kernel_rfl
theorem law_goes3:noGo Tryz.prog 102 34=true:=by kernel_rfl
theorem law_goes4:noGo Tryz.prog 136 34=true:=by kernel_rfl
theorem law_goes5:noGo Tryz.prog 170 34=true:=by kernel_rfl
theorem law_goes6:noGo Tryz.prog 204 34=true:=by kernel_rfl
theorem law_goes7:noGo Tryz.prog 238 34=true:=by kernel_rfl
theorem law_goes8:noGo Tryz.prog 272 34=true:=by kernel_rfl
theorem law_goes9:noGo Tryz.prog 306 34=true:=by kernel_rfl
theorem law_goes10:noGo Tryz.prog 340 34=true:=by kernel_rfl
theorem law_goes11:noGo Tryz.prog 374 34=true:=by kernel_rfl
theorem law_goes:∀ g:Nat,(Tryz.prog.funcs[g]?).any Func.goes=false:=fun g=>by
 by_cases h:g<404
 by_cases h0:g<34
 exact noGo_at law_goes0 (by omega) (by omega)
 by_cases h1:g<68
 exact noGo_at law_goes1 (by omega) (by omega)
 by_cases h2:g<102
 exact noGo_at law_goes2 (by omega) (by omega)
 by_cases h3:g<136
 exact noGo_at law_goes3 (by omega) (by omega)
 by_cases h4:g<170
 exact noGo_at law_goes4 (by omega) (by omega)
 by_cases h5:g<204
 exact noGo_at law_goes5 (by omega) (by omega)
 by_cases h6:g<238
 exact noGo_at law_goes6 (by omega) (by omega)
 by_cases h7:g<272
 exact noGo_at law_goes7 (by omega) (by omega)
 by_cases h8:g<306
 exact noGo_at law_goes8 (by omega) (by omega)
 by_cases h9:g<340
 exact noGo_at law_goes9 (by omega) (by omega)
 by_cases h10:g<374
 exact noGo_at law_goes10 (by omega) (by omega)
 exact noGo_at law_goes11 (by omega) (by omega)
 rw [Array.getElem?_eq_none (by rw [law_size];omega)]
 rfl
theorem at16_any (v:Value) (l:List Int) (k:Nat) (w:World) (hs:SlV [] w v l) (hk:k≤10):Calls Tryz.prog 51 #[v,.int .i64 (k:Int)] w (Ret fun r w'=>r=.int .i64 (topK l k)∧w'=w):=by
 have hmax:=hs.max
 refine calls_of_WC2 (n:=17) Tryz.func51 rfl rfl rfl ?_
 unfold topK
 by_cases hlt:k<l.length
 rw [if_pos hlt]
 have e:(l.length:Int) - 1 - (k:Int)=((l.length - 1 - k:Nat):Int):=by omega
 have hi:l.length - 1 - k<l.length:=by omega
 focus repeat'(first|refine W1 ?_|omega|refine VG ?_ ?_<;>intro hg|refine VC ?_ ?_<;>intro hc)
 rw [e]
 refine W ?_
 refine WR ?_
 exact .mk ⟨by simp [List.getD,hi],rfl⟩
 rw [if_neg hlt]
 focus repeat'(first|refine W1 ?_|omega|refine VG ?_ ?_<;>intro hg|refine VC ?_ ?_<;>intro hc)
 refine WR ?_
 exact .mk ⟨rfl,rfl⟩
theorem span16_any (op a b r:Int) (w:World) (ha:Num a):Calls Tryz.prog 53 #[.int .i64 op,.int .i64 a,.int .i64 b,.int .i64 r] w (Ret fun q w'=>RowF 111 w w' q (spanM op a b r)):=by
 unfold Num at ha
 unfold spanM
 refine calls_of_WC4 (n:=38) Tryz.func53 rfl rfl rfl ?_
 refine W ?_
 by_cases h19:op=19
 subst h19
 rw [if_pos rfl]
 focus repeat'(first|refine W1 ?_|omega|refine VG ?_ ?_<;>intro hg|refine VC ?_ ?_<;>intro hc)
 refine WL_build (vs:=[(0,.int .i64 b),(1,.int .i64 r)]) rfl (buildSp2 _ _) rfl ?_
 refine WL_eff (OE_buildSlice (vs:=[(0,agg ((b,r):Spn))]) rfl (buildSSp _)) rfl ?_
 rintro bw w1 hN
 refine W ?_
 refine WR ?_
 exact .mk (RowF.one (xs:=[((b,r):Spn)]) hN rfl rfl (by simp [maxLen]))
 rw [if_neg h19]
 by_cases h20:op=20
 · subst h20
   rw [if_pos rfl]
   repeat'(first|refine W1 ?_|omega|refine VG ?_ ?_<;>intro hg|refine VC ?_ ?_<;>intro hc)
   all_goals try (exact absurd (by assumption) h19)
   refine WL_build (vs:=[(0,.int .i64 r),(1,.int .i64 b)]) rfl (buildSp2 _ _) rfl ?_
   refine WL_eff (OE_buildSlice (vs:=[(0,agg ((r,b):Spn))]) rfl (buildSSp _)) rfl ?_
   rintro bw w1 hN
   refine W ?_
   refine WR ?_
   exact .mk (RowF.one (xs:=[((r,b):Spn)]) hN rfl rfl (by simp [maxLen]))
 rw [if_neg h20]
 by_cases h18:op=18
 subst h18
 rw [if_pos rfl]
 by_cases hb:0<b
 · rw [if_pos hb]
   repeat'(first|refine W1 ?_|omega|refine VG ?_ ?_<;>intro hg|refine VC ?_ ?_<;>intro hc)
   all_goals try (exact absurd (by assumption) h19)
   refine WL_build (vs:=[(0,.int .i64 (a+1)),(1,.int .i64 r)]) rfl (buildSp2 _ _) rfl ?_
   refine WL_eff (OE_buildSlice (vs:=[(0,agg ((a+1,r):Spn))]) rfl (buildSSp _)) rfl ?_
   rintro bw w1 hN
   refine W ?_
   refine WR ?_
   exact .mk (RowF.one (xs:=[((a+1,r):Spn)]) hN rfl rfl (by simp [maxLen]))
 rw [if_neg hb]
 by_cases hb2:b<0
 · rw [if_pos hb2]
   repeat'(first|refine W1 ?_|omega|refine VG ?_ ?_<;>intro hg|refine VC ?_ ?_<;>intro hc)
   all_goals try (exact absurd (by assumption) h19)
   refine WL_build (vs:=[(0,.int .i64 r),(1,.int .i64 (a - 1))]) rfl (buildSp2 _ _) rfl ?_
   refine WL_eff (OE_buildSlice (vs:=[(0,agg ((r,a - 1):Spn))]) rfl (buildSSp _)) rfl ?_
   rintro bw w1 hN
   refine W ?_
   refine WR ?_
   exact .mk (RowF.one (xs:=[((r,a - 1):Spn)]) hN rfl rfl (by simp [maxLen]))
 · rw [if_neg hb2]
   repeat'(first|refine W1 ?_|omega|refine VG ?_ ?_<;>intro hg|refine VC ?_ ?_<;>intro hc)
   all_goals try (exact absurd (by assumption) h19)
   refine WR ?_
   exact .mk RowF.nil
 rw [if_neg h18]
 repeat'(first|refine W1 ?_|omega|refine VG ?_ ?_<;>intro hg|refine VC ?_ ?_<;>intro hc)
 all_goals try (exact absurd (by assumption) h19)
 all_goals try (exact absurd (by assumption) h20)
 all_goals try (exact absurd (by assumption) h18)
 refine WR ?_
 exact .mk RowF.nil
theorem ins_facts {x:Ins} {s nx:Shp} {st:List Int} (hn:nextM x s=some nx) (hs:StOk s st):(∀ k,Num (topK st k))∧(x.op=4→0≤x.n∧x.n<7)∧(x.op=17→inDays (topK st 1)=true):=by
 refine ⟨fun k=>?_,fun h4=>?_,fun h17=>?_⟩
 unfold topK
 split
 rename_i hk
 have h1:st.length - 1 - k<st.length:=by omega
 have h2:st.length - 1 - k<s.length:=by rw [hs.1];exact h1
 have:=(hs.2 _ h2 h1).num
 simpa [List.getD,h1] using this
 unfold Num;omega
 obtain ⟨h1,-⟩:=next_split hn hs
 obtain ⟨op,n⟩:=x
 dsimp only at h4
 subst h4
 simp [effF] at h1
 dsimp only
 omega
 obtain ⟨h1,st0,vs,ts,rfl,hts,hvs⟩:=next_split hn hs
 obtain ⟨op,n⟩:=x
 dsimp only at h17
 subst h17
 simp [effF] at hts
 subst hts
 obtain ⟨a,b,rfl,ha,hb⟩:=hvs.two_inv
 rw [(topK_app1 st0 a b).2]
 exact inDays_iff.2 ha.d
theorem buildI1s (a:Int) (w:World):(Instr.buildSlice 22 1 #[(0,.int .i64 a)]).run Tryz.prog w=.ok (.slice (some ⟨w.heap.size,0,none⟩) 1 1) (w.alloc (.cells #[.int .i64 a] 3)):=by kernel_rfl
theorem pl_one {ev:List Int} {c:Cal} {hv cv zo zs hr:Value} {kn:Int} (h1:hv.oneCell'=true) (h2:cv.oneCell'=true) (ho:zo.oneCell'=true∧zs.oneCell'=true∧hr.oneCell'=true):∀ u∈plC ev c hv cv zo zs hr kn,u.oneCell'=true:=by
 intro u hu
 unfold plC at hu
 rcases List.mem_append.1 hu with h|h
 rcases List.mem_append.1 h with h|h
 exact ev_one ev u h
 exact cal_one h1 h2 ho u h
 rw [List.mem_singleton.1 h]
 rfl
set_option maxHeartbeats 2000000 in
theorem Run16_any (v:Value) (code:List Ins) (t kn:Int) (ev:List Int) (c:Cal) (hv cv zo zs hr:Value) (w:World) (hs:SlV [] w v code) (hver:verM code=(t,0)) (hcal:CalV w c hv cv zo zs hr) (hev:EvOk ev) (ho:zo.oneCell'=true∧zs.oneCell'=true∧hr.oneCell'=true) :
 Calls Tryz.prog 15 #[v,evA ev,calA c hv cv zo zs hr,.int .i64 kn] w (Ret fun r w'=>∃ pv,r=.tuple #[.int .i64 (runAll (openM c kn) ev code).1,pv,.int .i64 (runAll (openM c kn) ev code).2.2]∧RowF 111 w w' pv (runAll (openM c kn) ev code).2.1):=by
 obtain ⟨hl0,hl200,sh,hlen,hok,h16,hsh0,hshn,hgood⟩:=ver_good hver
 refine calls_of_WC4 (n:=95) Tryz.func15 rfl rfl rfl ?_
 refine W ?_
 refine WL_eff (OE_box rfl) rfl ?_
 rintro _ w1 ⟨b5,rfl,hb5,k5,hS⟩
 replace k5:Blk w1 b5 29 (evC ev):=k5
 refine WL_eff (OE_box rfl) rfl ?_
 rintro _ w2 ⟨b6,rfl,hb6,k6,hT⟩
 replace k6:Blk w2 b6 37 (calC c hv cv zo zs hr):=k6
 replace k5:=k5.up hT
 replace hS:=hS.trans hT
 clear hT
 refine W ?_
 refine WL_build (vs:=[(0,evA ev),(1,calA c hv cv zo zs hr),(2,.int .i64 kn)]) rfl (buildPl ev c hv cv zo zs hr kn) rfl ?_
 refine WL_eff OE_alloc rfl ?_
 rintro _ w3 ⟨b11,rfl,hb11,k11,hT⟩
 refine WL_eff0 (OE_storeA (us:=plC ev c hv cv zo zs hr kn) rfl rfl rfl rfl (pl_one hcal.hols.one hcal.clos.one ho) k11 rfl) ?_
 rintro _ w4 ⟨hT2,k11⟩
 replace hT:=hT.own hT2 (fun c hc=>.inr (by simp at hc;omega))
 replace hS:=hS.trans hT
 clear hT hT2 k5 k6
 have hs0:=hs.up hS
 have hcal0:=hcal.up hS
 have k11o:=k11
 clear hs hcal k11
 refine W ?_
 refine WC_loop (σ:=Nat×Value×Value×List Int×List Spn) (fun q=>[(0,v),(11,.pointer (some ⟨b11,0,none⟩)),(12,q.2.1),(13,q.2.2.1),(14,.int .i64 (q.1:Int))])
  (fun q w'=>q.1<code.length∧q.2.2.2.2.length≤q.1∧Row [] w' w4.heap.size 3 q.2.1 q.2.2.2.1∧Row [] w' w4.heap.size 111 q.2.2.1 q.2.2.2.2∧(∀ b∈ob q.2.1,b∉ob q.2.2.1)∧(∃ s,sh.getD q.1 none=some s∧StOk s q.2.2.2.1)∧(∃ f,code.length≤f+q.1∧runV (openM c kn) ev code f q.1 q.2.2.2.1 q.2.2.2.2=runAll (openM c kn) ev code)∧Stp [] w4 w')
  (fun q=>code.length - q.1) (0,.slice none 0 0,.slice none 0 0,[],[]) ⟨rfl,rfl,rfl,rfl,rfl,trivial⟩ ⟨hl0,Nat.le_refl _,Row.nil,Row.nil,(by simp [ob]),⟨[],hsh0,StOk.nil⟩,⟨code.length,Nat.le_refl _,rfl⟩,Stp.refl _ _⟩ ?_
 rintro ⟨i,sv,pv,st,sp⟩ w5 ⟨hi,hspl,hsr,hpr,hap,⟨s,hshs,hst⟩,⟨f,hf,hr⟩,hB⟩
 dsimp only at hi hspl hsr hpr hap hshs hst hf hr ⊢
 obtain ⟨s',nx,hg⟩:=hgood i hi
 have hss:s'=s:=by have:=hg.at_;rw [hshs] at this;exact (Option.some.inj this).symm
 subst hss
 have hx:code.getD i ⟨0,0⟩=code[i]:=by simp [List.getD,hi]
 have hn:=hg.next
 rw [hx] at hn
 have h16':s'.length≤16:=h16 _ (by
  have hil:i<sh.length:=by omega
  rw [List.getD_eq_getElem?_getD,List.getElem?_eq_getElem hil] at hshs
  simp only [Option.getD_some] at hshs
  rw [← hshs]
  exact List.getElem_mem hil)
 have hstl:st.length≤16:=by rw [← hst.1];exact h16'
 obtain ⟨fn1,fn2,fn3⟩:=ins_facts hn hst
 have hs:=hs0.up hB
 have k11:=k11o.up hB
 have hmax:=hs.max
 have hii:(i:Int)<(code.length:Int):=by omega
 have hi0:(0:Int)≤(i:Int):=by omega
 have hpr0:=hpr.ob_le
 repeat'(first|refine W1 ?_|omega|refine VG ?_ ?_<;>intro hg|refine VC ?_ ?_<;>intro hc)
 refine WL_eff OE_alloc rfl ?_
 rintro _ w6 ⟨b15,rfl,hb15,k15,hT⟩
 refine WL_eff0 (OE_storeA (us:=Flat.enc code[i]) rfl rfl rfl rfl (Flat.one _) k15 rfl) ?_
 rintro _ w7 ⟨hT2,k15⟩
 replace hT:=hT.own hT2 (fun c hc=>.inr (by simp at hc;omega))
 clear hT2
 replace k11:=k11.up hT
 replace hsr:=hsr.up hT
 replace hpr:=hpr.up hT
 replace hB:=hB.trans hT
 clear hT
 have n15:b15∉ob pv:=fun h=>by have:=(hpr0 b15 h).2;omega
 refine W ?_
 have hsl:=hsr.slv (X:=[]) (by simp)
 refine CL rfl (evs2 rfl rfl) rfl (at16_any sv st 1 _ hsl (by decide)) ?_
 rintro _ _ ⟨rfl,rfl⟩
 refine W ?_
 refine CL rfl (evs2 rfl rfl) rfl (at16_any sv st 0 _ hsl (by decide)) ?_
 rintro _ _ ⟨rfl,rfl⟩
 obtain ⟨f,rfl⟩:∃ f',f=f'+1:=⟨f - 1,by omega⟩
 rw [runV,hx] at hr
 have hen:Flat.enc code[i]=[.int .i64 code[i].op,.int .i64 code[i].n]:=rfl
 rw [hen] at k15
 by_cases h24:code[i].op=24
 rw [if_pos h24] at hr
 focus repeat'(first|refine W1 ?_|omega|refine VG ?_ ?_<;>intro hg|refine VC ?_ ?_<;>intro hc)
 refine WR ?_
 exact .mk ⟨pv,by rw [← hr],by rw [← hr];exact hpr.lower hS.size,hS.trans hB⟩
 rw [if_neg h24] at hr
 by_cases h13:code[i].op=13
 rw [if_pos h13] at hr
 obtain ⟨j1,j2,j3⟩:=hg.jump (.inl (by rw [hx];exact h13))
 rw [hx] at j1 j2 j3
 have hnx:=next13 h13 hn
 subst hnx
 focus repeat'(first|refine W1 ?_|omega|refine VG ?_ ?_<;>intro hg|refine VC ?_ ?_<;>intro hc)
 rw [show code[i].n=((code[i].n.toNat:Nat):Int) by omega]
 exact WQ_loop (code[i].n.toNat,sv,pv,st,sp) ⟨rfl,rfl,rfl,rfl,rfl,trivial⟩ ⟨by dsimp only;omega,by dsimp only;omega,hsr,hpr,hap,⟨_,j3,hst⟩,⟨f,by dsimp only;omega,hr⟩,hB⟩ (by dsimp only;omega)
 rw [if_neg h13] at hr
 obtain ⟨o1,o2⟩:=hg.on (by rw [hx];exact h24) (by rw [hx];exact h13)
 by_cases h14:code[i].op=14
 rw [if_pos h14] at hr
 obtain ⟨j1,j2,j3⟩:=hg.jump (.inr (by rw [hx];exact h14))
 rw [hx] at j1 j2 j3
 have hnx:=next14 h14 hn
 have hst2:StOk nx st.dropLast:=by
  rw [hnx,List.dropLast_eq_take,List.dropLast_eq_take,← hst.1]
  exact hst.take _
 have hmaxe:max 0 ((st.length:Int) - 1)=((st.length - 1:Nat):Int):=by omega
 have hml:st.length - 1≤st.length:=by omega
 have hcut:Row [] _ w4.heap.size 3 (slc sv 0 (st.length - 1) 1) (st.take (st.length - 1)):=hsr.cut hml
 rw [← List.dropLast_eq_take] at hcut
 have hap':∀ b∈ob (slc sv 0 (st.length - 1) 1),b∉ob pv:=by rw [ob_slc];exact hap
 focus repeat'(first|refine W1 ?_|omega|refine VG ?_ ?_<;>intro hg|refine VC ?_ ?_<;>intro hc)
 refine WL_slice_h rfl hsl rfl hmaxe hml rfl ?_
 focus repeat'(first|refine W1 ?_|omega|refine VG ?_ ?_<;>intro hg|refine VC ?_ ?_<;>intro hc)
 rw [if_pos hc] at hr
 rw [show code[i].n=((code[i].n.toNat:Nat):Int) by omega]
 exact WQ_loop (code[i].n.toNat,slc sv 0 (st.length - 1) 1,pv,st.dropLast,sp) ⟨rfl,rfl,rfl,rfl,rfl,trivial⟩ ⟨by dsimp only;omega,by dsimp only;omega,hcut,hpr,hap',⟨_,j3,hst2⟩,⟨f,by dsimp only;omega,hr⟩,hB⟩ (by dsimp only;omega)
 rw [if_neg hc] at hr
 exact WQ_loop (i+1,slc sv 0 (st.length - 1) 1,pv,st.dropLast,sp) ⟨rfl,rfl,rfl,rfl,rfl,trivial⟩ ⟨(by dsimp only;omega),by dsimp only;omega,hcut,hpr,hap',⟨_,o2,hst2⟩,⟨f,by dsimp only;omega,hr⟩,hB⟩ (by dsimp only;omega)
 rw [if_neg h14] at hr
 repeat'(first|refine W1 ?_|omega|refine VG ?_ ?_<;>intro hg|refine VC ?_ ?_<;>intro hc)
 refine CL rfl (evs4 rfl rfl rfl rfl) rfl (value16_any (hcal0.up hB) code[i] (topK st 1) (topK st 0) (fn1 1) (fn1 0) fn2 fn3 h13 h14 h24) ?_
 rintro _ w8 ⟨rfl,hT⟩
 replace k15:=k15.up hT
 replace hsr:=hsr.up hT
 replace hpr:=hpr.up hT
 replace hB:=hB.trans hT
 clear hT hsl
 by_cases he:(valM (openM c kn) ev code[i] (topK st 1) (topK st 0)).2=0
 · rw [if_pos he] at hr
   have hokn:=vstep_ok hev hn h24 h13 h14 hst he
   have hspn:(spanM code[i].op (topK st 1) (topK st 0) (valM (openM c kn) ev code[i] (topK st 1) (topK st 0)).1).length≤1:=by
    unfold spanM
    repeat' split
    all_goals simp
   refine W ?_
   rw [he]
   generalize (valM (openM c kn) ev code[i] (topK st 1) (topK st 0)).1=r at *
   repeat'(first|refine W1 ?_|omega|refine VG ?_ ?_<;>intro hg|refine VC ?_ ?_<;>intro hc)
   all_goals try (exact absurd rfl (by assumption))
   refine CL rfl (evs4 rfl rfl rfl rfl) rfl (span16_any code[i].op (topK st 1) (topK st 0) r _ (fn1 1)) ?_
   rintro qv w9 hq
   have hqs:SlV (ob pv++[]) w9 qv (spanM code[i].op (topK st 1) (topK st 0) r):=hq.slv (fun b hb=>(hpr.ob_le b (by simpa using hb)).2)
   have hT:=hq.2
   replace k15:=k15.up hT
   replace hsr:=hsr.up hT
   replace hpr:=hpr.up hT
   replace hB:=hB.trans hT
   clear hT hq
   generalize spanM code[i].op (topK st 1) (topK st 0) r=qs at *
   have hbs:=hB.size
   refine WL_eff (OE_append (X:=[]) (base:=w4.heap.size) rfl (by decide) rfl rfl hpr hqs (by omega) (by simp only [maxLen];omega) hbs) rfl ?_
   rintro pv2 w10 ⟨hpr2,hT,hob2⟩
   have hpo:=hpr.ob_le
   have hso:=hsr.ob_le
   have hap2:∀ b∈ob sv,b∉ob pv2:=fun b hb h=>by
    rcases hob2 b h with h1|h1
    exact hap b hb h1
    have:=(hso b hb).2
    omega
   replace hsr:=hsr.keep hT (fun b hb h=>hap b h hb)
   replace k15:=k15.ext hT n15
   replace hB:=hB.own hT (fun b hb=>.inr (hpo b hb).1)
   clear hT hqs hpr hob2
   have hsl:=hsr.slv (X:=[]) (by simp)
   refine W ?_
   refine CL rfl (evs1 rfl) rfl (operands_any code[i].op _ h13 h14 h24) ?_
   rintro _ _ ⟨rfl,rfl⟩
   have har:arM code[i].op≤2:=by
    unfold arM
    repeat' split
    all_goals omega
   have hmaxe:max 0 ((st.length:Int) - (arM code[i].op:Int))=((st.length - arM code[i].op:Nat):Int):=by omega
   have hml:st.length - arM code[i].op≤st.length:=by omega
   have hcut:Row [] _ w4.heap.size 3 (slc sv 0 (st.length - arM code[i].op) 1) (st.take (st.length - arM code[i].op)):=hsr.cut hml
   refine W ?_
   refine WL_slice_h rfl hsl rfl hmaxe hml rfl ?_
   refine W ?_
   refine WL_eff (OE_buildSlice (vs:=[(0,.int .i64 r)]) rfl (buildI1s _)) rfl ?_
   rintro bw w11 hN
   have hco:=hcut.ob_le
   have hbw:SlV (ob (slc sv 0 (st.length - arM code[i].op) 1)++[]) w11 bw [r]:=hN.slv (fun b hb=>(hco b (by simpa using hb)).2) rfl rfl (by simp [maxLen])
   have hT:=NewSl.stp hN
   clear hN
   replace hcut:=hcut.up hT
   replace hpr2:=hpr2.up hT
   replace hB:=hB.trans hT
   clear hT
   have hbs2:=hB.size
   refine WL_eff (OE_append (X:=[]) (base:=w4.heap.size) rfl (by decide) rfl rfl hcut hbw (by rw [List.length_take];simp only [List.length_cons,List.length_nil];omega) (by rw [List.length_take];simp only [List.length_cons,List.length_nil,maxLen];omega) hbs2) rfl ?_
   rintro sv2 w12 ⟨hsr2,hT,hob3⟩
   rw [ob_slc] at hT hob3
   have hpo2:=hpr2.ob_le
   have hap3:∀ b∈ob sv2,b∉ob pv2:=fun b hb h=>by
    rcases hob3 b hb with h1|h1
    exact hap2 b h1 h
    have:=(hpo2 b h).2
    omega
   replace hpr2:=hpr2.keep hT (fun b hb h=>hap2 b hb h)
   have hso2:=hsr.ob_le
   replace hB:=hB.own hT (fun b hb=>.inr (hso2 b hb).1)
   clear hT
   refine W ?_
   exact WQ_loop (i+1,sv2,pv2,_,_) ⟨rfl,rfl,rfl,rfl,rfl,trivial⟩ ⟨(by dsimp only;omega),by dsimp only;rw [List.length_append];omega,hsr2,hpr2,hap3,⟨_,o2,hokn⟩,⟨f,by dsimp only;omega,hr⟩,hB⟩ (by dsimp only;omega)
 · rw [if_neg he] at hr
   repeat'(first|refine W1 ?_|omega|refine VG ?_ ?_<;>intro hg|refine VC ?_ ?_<;>intro hc)
   all_goals try (exact absurd (by assumption) he)
   refine WR ?_
   exact .mk ⟨.slice none 0 0,by rw [← hr];rfl,by rw [← hr];exact Row.nil,hS.trans hB⟩
theorem vmRunsLaw (v0 v1 v2:Value) (l0 l1 l2:List Int) (kd kz:Int) (er:Value) (m:Int)  (w:World) (h0:SlV [] w v0 l0) (h1:SlV [] w v1 l1) (h2:SlV [] w v2 l2) (hi0:∀ a∈l0,I64 a) (hi1:∀ a∈l1,I64 a) (hi2:∀ a∈l2,I64 a) (hkd:I64 kd) (hkz:I64 kz) (hL:LenG w) (hM:MovG w) (hm:w.cell? ⟨2,0,none⟩=some (.int .i64 m)) (hv4:w.cell? ⟨5,0,none⟩=some er) (hev4:er=.nilIface∨∃ te pe,er=.iface te pe)  :
 Calls Tryz.prog 3 #[caseA v0 v1 v2 kd kz] w (Ret fun r w'=>r=.bool true∧Stp [] w w'):=by
 refine calls_of_WC1 (n:=47) Tryz.func3 rfl rfl rfl ?_
 refine W ?_
 refine WL_eff (OE_box rfl) rfl ?_
 rintro _ w1 ⟨b1,rfl,hb1,k1,hS⟩
 replace k1:Blk w1 b1 24 [v0,v1,v2,.int .i64 kd,.int .i64 kz]:=k1
 refine W ?_
 refine CL rfl (evs1 rfl) rfl (Made16_any v0 v1 v2 l0 l1 l2 kd kz _ (h0.up hS) (h1.up hS) (h2.up hS) hi0 hi1 hi2 hkd hkz (hL.up hS) (hM.up hS)) ?_
 rintro _ w2 ⟨y,t,ky,ev,c,hv,cv,zo,zs,hr,kn,rfl,hg,hky,hev,hcal,ho,hcs,hkn,hT⟩
 replace k1:=k1.up hT
 replace hS:=hS.trans hT
 clear hT
 have hone:=hky.one
 refine W ?_
 refine WL_eff OE_alloc rfl ?_
 rintro _ w3 ⟨b3,rfl,hb3,k3,hA⟩
 have lt3:=k3.lt
 refine WL_eff OE_alloc rfl ?_
 rintro _ w4 ⟨b4,rfl,hb4,k4,hT⟩
 have gz4:=hA.size
 replace k3:=k3.up hT
 replace hA:=hA.trans hT
 clear hT
 have lt4:=k4.lt
 refine WL_eff OE_alloc rfl ?_
 rintro _ w5 ⟨b5,rfl,hb5,k5,hT⟩
 have gz5:=hA.size
 replace k3:=k3.up hT
 replace k4:=k4.up hT
 replace hA:=hA.trans hT
 clear hT
 refine WL_eff0 (OE_storeA (us:=ndC y ky) rfl rfl rfl rfl (ndC_one hky) k3 rfl) ?_
 rintro _ w6 ⟨hT,k3⟩
 replace k4:=k4.ext hT (by simp;omega)
 replace k5:=k5.ext hT (by simp;omega)
 replace hA:=hA.own hT (fun c hc=>.inr (by simp at hc;omega))
 clear hT
 refine WL_eff0 (OE_storeA (us:=evC ev) rfl rfl rfl rfl (ev_one _) k4 rfl) ?_
 rintro _ w7 ⟨hT,k4⟩
 replace k3:=k3.ext hT (by simp;omega)
 replace k5:=k5.ext hT (by simp;omega)
 replace hA:=hA.own hT (fun c hc=>.inr (by simp at hc;omega))
 clear hT
 refine WL_eff0 (OE_storeA (us:=calC c hv cv zo zs hr) rfl rfl rfl rfl (cal_one hcal.hols.one hcal.clos.one ho) k5 rfl) ?_
 rintro _ w8 ⟨hT,k5⟩
 replace k3:=k3.ext hT (by simp;omega)
 replace k4:=k4.ext hT (by simp;omega)
 replace hA:=hA.own hT (fun c hc=>.inr (by simp at hc;omega))
 clear hT gz4 gz5
 replace hky:=hky.up hA
 replace hcal:=hcal.up hA
 replace k1:=k1.up hA
 replace hS:=hS.trans hA
 clear hA
 have hty:=hg.type
 have htn:typeT y≠0:=by rw [hty];exact hg.ne
 have hn5:nestN y≤5:=hg.nest
 have hn16:nestN y≤16:=by omega
 refine W ?_
 refine CL rfl (evs1 rfl) rfl (ExpressionR_any _ y _ (Nat.le_trans hg.size (by decide)) (by omega) ⟨ky,rfl,hky⟩) ?_
 rintro _ w9 ⟨xv,rfl,hxv,hT⟩
 have hc0:=hxv [] (by simp)
 clear hxv
 replace k1:=k1.up hT
 replace k3:=k3.up hT
 replace k4:=k4.up hT
 replace k5:=k5.up hT
 replace hky:=hky.up hT
 replace hcal:=hcal.up hT
 replace hS:=hS.trans hT
 clear hT
 by_cases he:errX y=0
 · rw [if_pos he] at hc0
   rw [he]
   have hver:=errX_ver he
   repeat'(first|refine W1 ?_|omega|refine VG ?_ ?_<;>intro hg|refine VC ?_ ?_<;>intro hc)
   all_goals try (exact absurd rfl (by assumption))
   refine CL rfl (evs4 rfl rfl rfl rfl) rfl (Run16_any xv (exprF y) (typeT y) kn ev c hv cv zo zs hr _ hc0 hver hcal hev ho) ?_
   rintro _ wR ⟨pv,rfl,hp⟩
   have hsp:=hp.slv (X:=[]) (by simp)
   have hT:=hp.2
   clear hp
   replace k1:=k1.up hT
   replace k3:=k3.up hT
   replace k4:=k4.up hT
   replace k5:=k5.up hT
   replace hky:=hky.up hT
   replace hcal:=hcal.up hT
   replace hc0:=hc0.up hT
   replace hS:=hS.trans hT
   clear hT
   refine W ?_
   refine CL rfl (evs7 rfl rfl rfl rfl rfl rfl rfl) rfl (same_any xv pv (exprF y) (typeT y) kn _ _ _ ev c hv cv zo zs hr _ hc0 hver hcal hev ho hsp rfl) ?_
   rintro _ ws ⟨rfl,hT⟩
   replace hS:=hS.trans hT
   clear hT
   refine W ?_
   refine CL rfl evs0 rfl (lives16_any er m _ (hL.up hS) (hM.up hS) (hS.cell (by simp) hm) (hS.cell (by simp) hv4) hev4) ?_
   rintro _ wl ⟨rfl,hT⟩
   replace hS:=hS.trans hT
   clear hT
   refine W ?_
   refine WR ?_
   exact .mk ⟨by simp,hS⟩
 · repeat'(first|refine W1 ?_|omega|refine VG ?_ ?_<;>intro hg|refine VC ?_ ?_<;>intro hc)
   all_goals try (exact absurd rfl (by assumption))
   refine CL rfl evs0 rfl (lives16_any er m _ (hL.up hS) (hM.up hS) (hS.cell (by simp) hm) (hS.cell (by simp) hv4) hev4) ?_
   rintro _ wl ⟨rfl,hT⟩
   replace hS:=hS.trans hT
   clear hT
   refine W ?_
   refine WR ?_
   exact .mk ⟨rfl,hS⟩
end Go.Proofs.YtjdjdoefppebkaaGreatDoor
