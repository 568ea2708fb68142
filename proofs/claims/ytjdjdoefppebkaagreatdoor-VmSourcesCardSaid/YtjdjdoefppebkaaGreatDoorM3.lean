/-
Merged by program out of own texts: Cty1, Eng23, Eng24, Psr0, PsrP, Rt1, Rt2, Rt3, Eng25, LexM, Lex1, Rt4, Rt5, Rt6, Rt7, Dtr1, Dat1, Vmm, Vme.
-/
import Derived.Test.YtjdjdoefppebkaaGreatDoorM2
import Derived.Lib.ItoaNum
import Derived.Laws.RangeString
import Derived.Laws.RangeAny
set_option linter.unusedVariables false
set_option linter.unusedSimpArgs false
namespace Go.Proofs.YtjdjdoefppebkaaGreatDoor
open Go Go.Eng Go.RowKit
theorem ZhZ {x:Sig} (h:Z3u x≠0):(x,Value.int .i64 (Z3u x))∈Z2x:=by
 have hs:=Za6 x
 unfold Z3u ZbP Z2Z at *
 cases hf:Z2x.find? (fun p=>decide (p.1=x)) with
 | none=>rw [hf] at h;simp at h
 | some p=>
   have h1:=X3 hf
   have h2:=YaU hf
   simp only [decide_eq_true_eq] at h2
   rw [hf] at hs
   simp only at hs ⊢
   rw [← hs,← h2]
   exact h1
theorem Z8t {x:Sig} (h:Z3u x≠0):∃ e∈Z2x,x=e.1∧e.2=.int .i64 (Z3u x):=⟨_,ZhZ h,rfl,rfl⟩
theorem ZcQ {ts:List Int} (h0:(0:Int)∉ts) (h3:ts.length≤3) (hn:ts≠[]) (h2:ts.getD 2 0=0):(ts.getD 1 0=0∧ts=[ts.getD 0 0])∨(ts.getD 1 0≠0∧ts=[ts.getD 0 0,ts.getD 1 0]):=by
 match ts,h3 with
 | [],_=>exact absurd rfl hn
 | [a],_=>left;exact ⟨rfl,rfl⟩
 | [a,b],_=>right;refine ⟨fun hb=>h0 ?_,rfl⟩;simp at hb;simp [hb]
 | [a,b,c],_=>exact absurd (by simp at h2;simp [h2]) h0
theorem Z6q {k n:Int} {s:Str} {ts:List Int} (h:Jb k n s ts≠0) :
 (ts=[]∧Jb k n s ts=Z0E k n s)∨
 ((0:Int)∉ts∧ts.length≤3∧ts≠[]∧((k=9∧ts=[2,Jb k n s ts,Jb k n s ts])∨(k=6∧ts.getD 2 0=0∧Jb k n s ts=Z1A s (ts.getD 0 0) (ts.getD 1 0))∨(Jb k n s ts=Z3u ⟨k,s,ts.getD 0 0,ts.getD 1 0,ts.getD 2 0⟩))):=by
 unfold Jb at h ⊢
 split at h
 exact absurd rfl h
 rename_i h3
 split at h
 exact absurd rfl h
 rename_i h0
 rw [if_neg h3,if_neg h0]
 split at h
 rename_i he
 left
 exact ⟨he,by rw [if_pos he]⟩
 rename_i he
 right
 rw [if_neg he]
 refine ⟨h0,by omega,he,?_⟩
 split at h
 exact absurd rfl h
 rename_i hn
 rw [if_neg hn]
 split at h
 · rename_i h9
   left
   rw [if_pos h9]
   refine ⟨h9.1,?_⟩
   obtain ⟨_,_,e2,e3⟩:=h9
   match ts,h3 with
   | [],_=>exact absurd rfl he
   | [a],_=>simp at e2 e3 h
   | [a,b],_=>simp at e2 e3 h;exact absurd e3 h
   | [a,b,c],_=>simp at e2 e3 ⊢;exact ⟨e2,e3.symm⟩
   | a :: b :: c :: d :: r,h3=>simp at h3
 rename_i h9
 rw [if_neg h9]
 split at h
 rename_i h6
 right;left
 rw [if_pos h6]
 exact ⟨h6.1,h6.2,rfl⟩
 rename_i h6
 right;right
 rw [if_neg h6]
theorem Z9i {α:Type} {l:List α} (h:l.length=2):∃ a b,l=[a,b]:=by
 match l,h with
 | [a,b],_=>exact ⟨a,b,rfl⟩
theorem ZcR {α:Type} {l:List α} (h:l.length=3):∃ a b c,l=[a,b,c]:=by
 match l,h with
 | [a,b,c],_=>exact ⟨a,b,c,rfl⟩
theorem Zam (x:Nd):Zd x≠0→∀ p,Zq x p≠[]:=by
 induction x using Nd.ind with
 | h k n s l ih=>
 intro ht p
 have hk:∀ y∈l,Zd y≠0:=fun y hy=>Z34 (x:=.mk k n s l) ht hy
 rw [Zq]
 unfold Z1n
 have hp:∀ p,l≠[]→Z17 k s (l.map Zq) p≠[]:=by
  intro p hl
  unfold Z17
  cases l with
  | nil=>exact absurd rfl hl
  | cons y r=>
    have:=ih y (by simp) (hk y (by simp)) p
    simp only [Xn,JL]
    intro h
    simp only [YaM] at h
    exact this h.1.1.1
 split
 simp
 rename_i hl
 have hl':l≠[]:=fun h=>hl (by rw [h];rfl)
 split
 unfold chC;simp
 split
 unfold chC;simp
 split
 unfold chC;simp
 split
 simp
 exact hp p hl'
theorem Zan {C:List Ins}:∀ (l:List Nd),(∀ y∈l,∀ p s,Seg C p (Zq y p)→s.length+Zw y≤16→Z35 C p (Zq y p) s (s++[Zd y]))→(∀ y∈l,∀ p,Zq y p≠[])→
 ∀ p s,l≠[]→Seg C p (JL (l.map Zq) p)→(∀ y∈l,s.length+(l.length - 1)+Zw y≤16)→Z35 C p (JL (l.map Zq) p) s (s++l.map Zd)
 | [],_,_,_,_,h,_,_=>absurd rfl h
 | [y], hr, hne, p, s, _, hs, hb => by
   have e:JL ([y].map Zq) p=Zq y p:=by simp [JL]
   rw [e] at hs ⊢
   exact hr y (by simp) p s hs (by have:=hb y (by simp);simpa using this)
 | y :: z :: l, hr, hne, p, s, _, hs, hb => by
   have e:JL ((y :: z :: l).map Zq) p=Zq y p++JL ((z :: l).map Zq) (p+(Zq y p).length):=by simp [JL]
   rw [e] at hs ⊢
   have h1:=hr y (by simp) p s hs.left (by have:=hb y (by simp);omega)
   have h2:=Zan (z :: l) (fun y hy=>hr y (by simp [hy])) (fun y hy=>hne y (by simp [hy])) (p+(Zq y p).length) (s++[Zd y]) (by simp) hs.right (fun w hw=>by
    have:=hb w (by simp [hw])
    simp only [Xb,Xc,Xe] at this ⊢
    omega)
   have h3:JL ((z :: l).map Zq) (p+(Zq y p).length)≠[]:=by
    simp only [Xn,JL]
    intro h
    simp only [YaM] at h
    exact hne z (by simp) _ h.1
   have:=Z35.app h1 h2 (hne y (by simp) p) h3
   simpa using this
theorem Z2k {C:List Ins} {l:List Nd} {L:List Ins} {p:Nat} {s ts r:Shp} (hr:∀ y∈l,∀ p s,Seg C p (Zq y p)→s.length+Zw y≤16→Z35 C p (Zq y p) s (s++[Zd y])) (hne:∀ y∈l,∀ p,Zq y p≠[])
 (hts:l.map Zd=ts) (hl:l≠[]) (hL:L≠[]) (hs:Seg C p (JL (l.map Zq) p++L)) (hb:∀ y∈l,s.length+(l.length - 1)+Zw y≤16) (ho:∀ x∈L,x.op≠24∧x.op≠13∧x.op≠14) (hf:Z36 2 L ts=some r) (h2:s.length+2≤16) :
 Z35 C p (JL (l.map Zq) p++L) s (s++r):=by
 have h1:=Zan l hr hne p s hl hs.left hb
 rw [hts] at h1
 have h3:JL (l.map Zq) p≠[]:=by
  cases l with
  | nil=>exact absurd rfl hl
  | cons y l=>
    simp only [Xn,JL]
    intro h
    simp only [YaM] at h
    exact hne y (by simp) _ h.1
 exact Z35.app h1 (Z8s 2 L _ s ts r hL hs.right ho hf h2) h3 hL
def Z4V (k:Int) (s:Str):List Ins:=(if k=8∨k=5∧s=[45] then [⟨8,0⟩] else [])++Z87 (opF s)
theorem Z29 (k:Int) (s:Str) (cs:List Cf) (p:Nat):Z17 k s cs p=JL cs p++Z4V k s:=by unfold Z17 Z4V;rw [Xr]
def okL (L:List Ins) (ts:List Int) (t:Int):Bool:=decide (L≠[]) && L.all (fun x=>decide (x.op≠24∧x.op≠13∧x.op≠14)) && decide (Z36 2 L ts=some [t])
theorem Z37 {L:List Ins} {ts:List Int} {t:Int} (h:okL L ts t=true):L≠[]∧(∀ x∈L,x.op≠24∧x.op≠13∧x.op≠14)∧Z36 2 L ts=some [t]:=by
 unfold okL at h
 simp only [Xi,decide_eq_true_eq,XD] at h
 exact ⟨h.1.1,h.1.2,h.2⟩
def Zj7 (e:Zfv):Bool:=
 match e.2 with
 | .int .i64 t=>decide (e.1.kind≠9) && decide (e.1.kind≠6) && decide (e.1.c=0) && okL (Z4V e.1.kind e.1.s) (if e.1.b=0 then [e.1.a] else [e.1.a,e.1.b]) t
 | _=>false
theorem Zi0:Z2x.all Zj7=true:=by decide +kernel
theorem ZfO:Z0f.all (fun s=>okL (Z4V 6 s++(if s=[45] then [⟨6,0⟩] else [])) [1,1] 1 && !decide (s=[97,110,100]) && !decide (s=[111,114]))=true:=by decide +kernel
theorem Zi1:Z25.all (fun s=>okL (Z4V 6 s) [1,1] 2 && okL (Z4V 6 s) [3,3] 2 && !decide (s=[97,110,100]) && !decide (s=[111,114]) && !decide (s=[45]))=true:=by decide +kernel
theorem ZdK (C:List Ins) (x:Nd):Zd x≠0→∀ p s,Seg C p (Zq x p)→s.length+Zw x≤16→Z35 C p (Zq x p) s (s++[Zd x]):=by
 induction x using Nd.ind with
 | h k n s l ih=>
 intro ht p sh hs hb
 have hk:∀ y∈l,Zd y≠0:=fun y hy=>Z34 (x:=.mk k n s l) ht hy
 have hr:∀ y∈l,∀ p s,Seg C p (Zq y p)→s.length+Zw y≤16→Z35 C p (Zq y p) s (s++[Zd y]):=fun y hy=>ih y hy (hk y hy)
 have hne:∀ y∈l,∀ p,Zq y p≠[]:=fun y hy=>Zam y (hk y hy)
 have hnest:∀ y∈l,Zw y+1≤Zw (.mk k n s l):=fun y hy=>by have:=Z1l (x:=.mk k n s l) hy;omega
 have hrange:=Z2F (.mk k n s l)
 have hteq:Zd (.mk k n s l)=Jb k n s (l.map Zd):=Z08 _
 rw [Zq] at hs ⊢
 rw [hteq] at ht hrange ⊢
 rcases Z6q ht with ⟨he,hc⟩|⟨h0,h3,hn0,hc⟩
 ·
   have hl:l=[]:=by simpa using he
   subst hl
   unfold Z1n at hs ⊢
   rw [if_pos (show (List.map Zq ([]:List Nd)).length=0 from rfl)] at hs ⊢
   rw [hc] at ht ⊢
   have hlen:sh.length+1≤16:=by
    have:1≤Zw (.mk k n s []):=by rw [Z09];omega
    omega
   refine Z5l hs ?_ ?_ ?_ ?_
   unfold Z32;split<;>(try split)<;>(try split)<;>simp
   unfold Z32;split<;>(try split)<;>(try split)<;>simp
   unfold Z32;split<;>(try split)<;>(try split)<;>simp
   have hnx:Jn (Z32 k n s) []=some [Z0E k n s]:=by
    unfold Z0E at ht ⊢
    unfold Z32
    by_cases k4:k=4
    subst k4
    rw [if_pos rfl] at ht ⊢
    split at ht
    · rename_i hn
      rw [if_pos hn]
      have hf:((ZZ s).2.1=3∧((ZZ s).1=0∨(ZZ s).1=1))∨((ZZ s).2.1=1∧2≤(ZZ s).1∧(ZZ s).1<7):=by
       have h1:(ZZ s).2.2=true:=by
        cases hb:(ZZ s).2.2 with
        | true=>rfl
        | false=>exact absurd (Z8o hb) ht
       obtain ⟨i,hi,hsn,_⟩:=(Z7g s (ZZ s).1).1 ⟨h1,rfl⟩
       subst hsn
       match i,hi with
       | 0,_=>decide +kernel
       | 1,_=>decide +kernel
       | 2,_=>decide +kernel
       | 3,_=>decide +kernel
       | 4,_=>decide +kernel
       | 5,_=>decide +kernel
       | 6,_=>decide +kernel
      rw [if_neg (by decide),if_neg (by decide),if_neg (by decide)]
      rcases hf with ⟨e1,e2⟩|⟨e1,e2,e3⟩
      simp [Jn,J7,e1,e2];omega
      simp [Jn,J7,e1];omega
    exact absurd rfl ht
    rw [if_neg k4] at ht ⊢
    split at ht
    exact absurd rfl ht
    rename_i hs0
    rw [if_neg hs0]
    by_cases k1:k=1
    rw [if_pos k1] at ht ⊢
    rw [if_pos k1]
    split at ht
    rename_i h;rw [if_pos h];simp [Jn,J7];omega
    exact absurd rfl ht
    rw [if_neg k1] at ht ⊢
    rw [if_neg k1]
    by_cases k2:k=2
    rw [if_pos k2] at ht ⊢
    rw [if_pos k2]
    split at ht
    rename_i h;rw [if_pos h];simp [Jn,J7];omega
    exact absurd rfl ht
    rw [if_neg k2] at ht ⊢
    rw [if_neg k2]
    by_cases k3:k=3
    rw [if_pos k3] at ht ⊢
    rw [if_pos k3]
    split at ht
    rename_i h;rw [if_pos h];simp [Jn,J7];omega
    exact absurd rfl ht
    rw [if_neg k3] at ht;exact absurd rfl ht
   have:=Z1B (s:=sh) hnx (by simpa using hlen)
   simpa using this
 · have hl:l≠[]:=fun h=>hn0 (by rw [h];rfl)
   have hlen:l.length≤3:=by simpa using h3
   have hlen0:¬ (l.map Zq).length=0:=by simpa using hl
   unfold Z1n at hs ⊢
   rw [if_neg hlen0] at hs ⊢
   rcases hc with ⟨h9,hts⟩|⟨h6,hg2,hbt⟩|hsg
   ·
     rw [if_pos h9] at hs ⊢
     generalize Jb k n s (l.map Zd)=t at *
     have hl3:l.length=3:=by have:=congrArg List.length hts;simpa using this
     obtain ⟨a,b,c,rfl⟩:=ZcR hl3
     simp only [Xn,Xv,Yay,and_true] at hts
     obtain ⟨ta,tb,tc⟩:=hts
     simp only [Xn,Xv,Xm,XH] at hs ⊢
     unfold chC at hs ⊢
     have na:=hnest a (by simp)
     have nb:=hnest b (by simp)
     have nc:=hnest c (by simp)
     refine Z9h _ _ hs rfl rfl ?_ ?_ ?_ (hne a (by simp) _) (hne b (by simp) _) (hne c (by simp) _) (by omega) (by simp only [Xb,Xc,Xe];omega)
     rw [← ta]
     exact hr a (by simp) p sh (by have:=hs.left.left.left.left;exact this) (by omega)
     rw [← tb]
     have h2:=hs.left.left.right
     simp only [Xb,Xc,Xe] at h2
     exact hr b (by simp) _ sh h2 (by omega)
     rw [← tc]
     have h2:=hs.right
     simp only [Xb,Xc,Xe] at h2
     have e:p+((Zq a p).length+(0+1)+(Zq b (p+(Zq a p).length+1)).length+(0+1))=p+(Zq a p).length+1+(Zq b (p+(Zq a p).length+1)).length+1:=by omega
     rw [e] at h2
     exact hr c (by simp) _ sh h2 (by omega)
   ·
     subst h6
     rw [if_neg (by decide)] at hs ⊢
     rcases ZcQ h0 h3 hn0 hg2 with ⟨hb0,hts⟩|⟨hb0,hts⟩
     exfalso
     apply ht
     rw [hbt,hb0]
     have ha0:(l.map Zd).getD 0 0≠0:=fun h=>h0 (by rw [hts,h];simp)
     unfold Z1A
     split
     rw [if_neg (by omega)]
     split
     rw [if_neg (by omega)]
     split
     rw [if_neg (by omega)]
     rfl
     have hl2:l.length=2:=by have:=congrArg List.length hts;simpa using this
     obtain ⟨a,b,rfl⟩:=Z9i hl2
     simp only [Xn,Xv,Xm,XH] at hbt
     have na:=hnest a (by simp)
     have nb:=hnest b (by simp)
     have ra:=Z2F a
     have hbnd:∀ y∈[a,b],sh.length+([a,b].length - 1)+Zw y≤16:=fun y hy=>by
      have:=hnest y hy
      simp only [Xc,Xe]
      omega
     have h2:sh.length+2≤16:=by
      have:1≤Zw a:=by rw [Z09];omega
      omega
     by_cases hA:s∈Z0f
     have hok:=XD.1 ZfO s hA
     simp only [Xi,Bool.not_eq_true',decide_eq_false_iff_not] at hok
     obtain ⟨⟨hok,hand⟩,hor⟩:=hok
     obtain ⟨o1,o2,o3⟩:=Z37 hok
     have hab:Zd a=Zd b∧Zd a=1:=by
      unfold Z1A at hbt
      rw [if_pos hA] at hbt
      split at hbt
      assumption
      exact absurd hbt ht
     have ht1:Jb 6 n s ([a,b].map Zd)=1:=by
      show Jb 6 n s [Zd a,Zd b]=1
      rw [hbt];unfold Z1A;rw [if_pos hA,if_pos hab]
     rw [ht1]
     rw [if_neg (by intro h;exact hand h.2),if_neg (by intro h;exact hor h.2)] at hs ⊢
     split at hs
     rename_i hm
     rw [if_pos hm]
     rw [Z29,Xr] at hs ⊢
     rw [if_pos hm.2] at o1 o2 o3
     exact Z2k hr hne (ts:=[1,1]) (by simp [hab.2,← hab.1]) (by simp) o1 hs hbnd o2 o3 h2
     rename_i hm
     rw [if_neg hm]
     have hm':¬ s=[45]:=fun h=>hm ⟨rfl,h⟩
     rw [if_neg hm',Xz] at o1 o2 o3
     rw [Z29] at hs ⊢
     exact Z2k hr hne (ts:=[1,1]) (by simp [hab.2,← hab.1]) (by simp) o1 hs hbnd o2 o3 h2
     by_cases hC:s∈Z25
     have hok:=XD.1 Zi1 s hC
     simp only [Xi,Bool.not_eq_true',decide_eq_false_iff_not] at hok
     obtain ⟨⟨⟨⟨hok1,hok3⟩,hand⟩,hor⟩,hmi⟩:=hok
     have hab:Zd a=Zd b∧¬ Zd a=2:=by
      unfold Z1A at hbt
      rw [if_neg hA,if_pos hC] at hbt
      split at hbt
      assumption
      exact absurd hbt ht
     have ht2:Jb 6 n s ([a,b].map Zd)=2:=by
      show Jb 6 n s [Zd a,Zd b]=2
      rw [hbt];unfold Z1A;rw [if_neg hA,if_pos hC,if_pos hab]
     rw [ht2]
     rw [if_neg (by intro h;exact hand h.2),if_neg (by intro h;exact hor h.2),if_neg (by intro h;exact hmi h.2),Z29] at hs ⊢
     have ka:=hk a (by simp)
     have h13:Zd a=1∨Zd a=3:=by omega
     rcases h13 with h|h
     obtain ⟨o1,o2,o3⟩:=Z37 hok1
     exact Z2k hr hne (ts:=[1,1]) (by simp [h,← hab.1]) (by simp) o1 hs hbnd o2 o3 h2
     obtain ⟨o1,o2,o3⟩:=Z37 hok3
     exact Z2k hr hne (ts:=[3,3]) (by simp [h,← hab.1]) (by simp) o1 hs hbnd o2 o3 h2
     have hL:s∈Z0g:=by
      by_cases hL:s∈Z0g
      exact hL
      exfalso;apply ht;show Jb 6 n s [Zd a,Zd b]=0;rw [hbt];unfold Z1A;rw [if_neg hA,if_neg hC,if_neg hL]
     have hab:Zd a=Zd b∧Zd a=2:=by
      unfold Z1A at hbt
      rw [if_neg hA,if_neg hC,if_pos hL] at hbt
      split at hbt
      assumption
      exact absurd hbt ht
     have ht2:Jb 6 n s ([a,b].map Zd)=2:=by
      show Jb 6 n s [Zd a,Zd b]=2
      rw [hbt];unfold Z1A;rw [if_neg hA,if_neg hC,if_pos hL,if_pos hab]
     rw [ht2]
     have hconst:∀ (z:Int) (q:Nat),(z=0∨z=1)→Seg C q [⟨2,z⟩]→Z35 C q [⟨2,z⟩] sh (sh++[2]):=fun z q hz hsq=>by
      have hnx:Jn ⟨2,z⟩ []=some [2]:=by simp [Jn,J7,hz]
      have:=Z1B (s:=sh) hnx (by simp only [Xc,Xe];omega)
      rw [Xz] at this
      exact Z5l hsq (by simp) (by simp) (by simp) this
     simp only [Z0g,Xf,Xk,or_false] at hL
     rcases hL with hL|hL
     rw [if_pos ⟨rfl,hL⟩] at hs ⊢
     simp only [Xn,Xv,Xm,XH] at hs ⊢
     unfold chC at hs ⊢
     refine Z9h _ _ hs rfl rfl ?_ ?_ ?_ (hne a (by simp) _) (hne b (by simp) _) (by simp) (by omega) (by simp only [Xb,Xc,Xe];omega)
     have h1:=hr a (by simp) p sh hs.left.left.left.left (by omega)
     rw [hab.2] at h1
     exact h1
     have h2:=hs.left.left.right
     simp only [Xb,Xc,Xe] at h2
     have h1:=hr b (by simp) _ sh h2 (by omega)
     rw [← hab.1,hab.2] at h1
     exact h1
     have h2:=hs.right
     simp only [Xb,Xc,Xe] at h2
     have e:p+((Zq a p).length+(0+1)+(Zq b (p+(Zq a p).length+1)).length+(0+1))=p+(Zq a p).length+1+(Zq b (p+(Zq a p).length+1)).length+1:=by omega
     rw [e] at h2
     exact hconst 0 _ (.inl rfl) h2
     have hna:¬ ((6:Int)=6∧s=[97,110,100]):=by rintro ⟨_,h⟩;rw [hL] at h;exact absurd h (by decide)
     rw [if_neg hna,if_pos ⟨rfl,hL⟩] at hs ⊢
     simp only [Xn,Xv,Xm,XH] at hs ⊢
     unfold chC at hs ⊢
     refine Z9h _ _ hs rfl rfl ?_ ?_ ?_ (hne a (by simp) _) (by simp) (hne b (by simp) _) (by omega) (by simp only [Xb,Xc,Xe];omega)
     have h1:=hr a (by simp) p sh hs.left.left.left.left (by omega)
     rw [hab.2] at h1
     exact h1
     have h2:=hs.left.left.right
     simp only [Xb,Xc,Xe] at h2
     exact hconst 1 _ (.inr rfl) h2
     have h2:=hs.right
     simp only [Xb,Xc,Xe] at h2
     have e:p+((Zq a p).length+(0+1)+(0+1)+(0+1))=p+(Zq a p).length+1+(0+1)+1:=by omega
     rw [e] at h2
     have h1:=hr b (by simp) _ sh h2 (by omega)
     rw [← hab.1,hab.2] at h1
     exact h1
   ·
     obtain ⟨e,he,hxe,hev⟩:=Z8t (by rw [← hsg];exact ht)
     have hok:=XD.1 Zi0 e he
     unfold Zj7 at hok
     rw [hev] at hok
     simp only [Xi,decide_eq_true_eq] at hok
     obtain ⟨⟨⟨k9,k6⟩,hc0⟩,hokl⟩:=hok
     rw [← hxe] at k9 k6 hc0 hokl
     simp only at k9 k6 hc0 hokl
     obtain ⟨o1,o2,o3⟩:=Z37 hokl
     rw [if_neg k9,if_neg (by intro h;exact k6 h.1),if_neg (by intro h;exact k6 h.1),if_neg (by intro h;exact k6 h.1),Z29] at hs ⊢
     rw [hsg]
     have hts:l.map Zd=(if (l.map Zd).getD 1 0=0 then [(l.map Zd).getD 0 0] else [(l.map Zd).getD 0 0,(l.map Zd).getD 1 0]):=by
      rcases ZcQ h0 h3 hn0 hc0 with ⟨h1,h2⟩|⟨h1,h2⟩
      rw [if_pos h1];exact h2
      rw [if_neg h1];exact h2
     have hl2:l.length≤2:=by
      have:=congrArg List.length hts
      rw [XM] at this
      split at this<;>simp only [Xc,Xe] at this<;>omega
     have h2:sh.length+2≤16:=by
      cases l with
      | nil=>exact absurd rfl hl
      | cons y r=>
        have:=hnest y (by simp)
        have:1≤Zw y:=by rw [Z09];omega
        omega
     exact Z2k hr hne hts hl o1 hs (fun y hy=>by have:=hnest y hy;omega) o2 o3 h2
theorem ZdL (y:Nd) (ht:Zd y≠0) (hn:Zw y≤12) (hl:(Jm y).length≤200):Z89 (Jm y)=(Zd y,0):=by
 have hne:=Zam y ht 0
 have hpos:=XX.2 hne
 unfold Jm at hl ⊢
 have hlen:(Zq y 0++[(⟨24,0⟩:Ins)]).length=(Zq y 0).length+1:=by simp
 have hr:=ZdK (Zq y 0++[⟨24,0⟩]) y ht 0 [] ⟨[],[⟨24,0⟩],by simp,rfl⟩ (by simp only [Xe];omega)
 obtain ⟨st,r1,r2,r3,_⟩:=hr ((some []) :: List.replicate ((Zq y 0++[(⟨24,0⟩:Ins)]).length - 1) none) (by simp) (by rw [hlen];omega) (by simp) (fun i hi hi2=>by
  cases i with
  | zero=>omega
  | succ i=>
    rw [Yav,List.getElem?_replicate,if_pos (by rw [hlen];omega)]) (.inl (by
  rw [XO]
  obtain ⟨m,hm⟩:∃ m,(Zq y 0).length=m+1:=⟨(Zq y 0).length - 1,by omega⟩
  rw [hm,Yav,List.getElem?_replicate,if_pos (by rw [hlen];omega)]))
 rw [XO] at r3
 rw [XS] at r3
 unfold Z89
 rw [if_neg (by rw [hlen] at hl ⊢;omega)]
 have hrun:Z9e (Zq y 0++[⟨24,0⟩]) (Zq y 0++[(⟨24,0⟩:Ins)]).length ((some []) :: List.replicate ((Zq y 0++[(⟨24,0⟩:Ins)]).length - 1) none)=some st:=by
  rw [Z8r]
  conv=>lhs;arg 3;rw [hlen]
  rw [Z1W,r1,XQ,XO,Z40]
  have hg:(Zq y 0++[(⟨24,0⟩:Ins)]).getD (Zq y 0).length ⟨0,0⟩=⟨24,0⟩:=by simp
  rw [hg]
  unfold Z2j
  rw [Xx,r3]
  have hnx:Jn ⟨24,0⟩ [Zd y]=some [Zd y]:=by simp [Jn,J7]
  simp only [Yae,hnx]
  rw [if_pos trivial,if_pos (by constructor<;>simp [r2])]
 rw [hrun]
 have e:(Zq y 0++[(⟨24,0⟩:Ins)]).length - 1=(Zq y 0).length:=by rw [hlen];omega
 simp only [e]
 rw [Xx,r3]
 rfl
end Go.Proofs.YtjdjdoefppebkaaGreatDoor
namespace Go.Eng
open Go Go.RowKit Go.Proofs
def PQ (n:Nat) (Q:Exit→Act→World→Prop):Exit→Act→World→Prop
 | .panic ch,a,w=>Has n [] a∧∀ a',Has n [] a'→Q (.panic ch) a' w
 | _,_,_=>False
theorem Has.put_back {n:Nat} {a:Act} {d:Option Nat} {v:Value} (h:Has n [] (a.put d v)):Has n [] a:=by
 cases d with
 | none=>exact h
 | some d=>exact ⟨h.defers,by simpa [Act.put] using h.size,fun t v hv=>by simp [look] at hv⟩
theorem Zc0 {n:Nat} {Q:Exit→Act→World→Prop} (a:Act) (w:World):¬ PQ n Q .outgrown a w:=fun h=>h
theorem ZfP {n:Nat} {Q:Exit→Act→World→Prop} (ch:List PanicEntry) (a:Act) (d:Option Nat) (v:Value) (w:World) (h:PQ n Q (.panic ch) (a.put d v) w):PQ n Q (.panic ch) a w:=⟨h.1.put_back,h.2⟩
theorem ZmA {n:Nat} {Q:Exit→Act→World→Prop} (ex:Exit) (a:Act) (w:World) (h:PQ n Q ex a w):Q ex a w:=by
 cases ex<;>first|exact h.2 a h.1|exact h.elim
theorem ZmB {P:Program} {o:Oper} {a:Act} {w:World} {K:Act→World→Prop} {X Q:Exit→Act→World→Prop} (hX0:∀ a w,¬ X .outgrown a w) (hX:∀ ex a w,X ex a w→Q ex a w) (h:o.wp P a w K X):o.wp P a w K Q:=by
 unfold Oper.wp at *
 generalize (execOp a.eval o).run P w=r at *
 cases r with
 | ok n w'=>
   cases n<;>simp only [Oper.upon] at h ⊢
   case enter f args=>
    refine Calls.mono h (fun e w'' he=>?_)
    cases e with
    | returned v=>exact he
    | panicked c=>exact hX _ _ _ he
    | outgrown=>obtain ⟨_,_,hf⟩:=he;exact (hX0 _ _ hf).elim
   all_goals exact h
 | halt x w'=>cases x<;>simp only [Oper.upon] at h ⊢;exact hX _ _ _ h
theorem ZfQ {P:Program} {ops:Array Oper} {i:Nat} {K:Act→World→Prop} {X Q:Exit→Act→World→Prop} (hX0:∀ a w,¬ X .outgrown a w) (hX:∀ ex a w,X ex a w→Q ex a w) {a:Act} {w:World} (h:wpOp P ops X i K a w):wpOp P ops Q i K a w:=by
 unfold wpOp at *
 cases ho:ops[i]? with
 | none=>simp only [ho] at h ⊢;exact h
 | some o=>
   simp only [ho] at h ⊢
   split
   rename_i hw
   simp only [hw,if_true] at h
   rcases h with h|⟨_,_,_,hf⟩
   exact .inl (ZmB hX0 hX h)
   exact (hX0 _ _ hf).elim
   rename_i hw;simp only [hw] at h;exact h
def Z1N (P:Program) (X:Exit→Act→World→Prop) (md:Region.Mode) (ops:Array Oper) (S:List Nat) (Lt:Nat→Bool) (Z:Act→World→Prop):Nat→Array Bool→Act→World→Prop
 | 0,listed,a,w=>Region.ready md ops listed=[]∧Z a w
 | fuel + 1, listed, a, w=>
   (Region.ready md ops listed=[]→Z a w)∧
   ∀ i∈Region.ready md ops listed,wpOp P ops X i (fun a' w'=>(Stp S w w'∨Lt i=true)∧Z1N P X md ops S Lt Z fuel (listed.setIfInBounds i true) a' w') a w
theorem Z6r {P:Program} {ops:Array Oper} {md:Region.Mode} {S:List Nat} {Lt:Nat→Bool} {X Q:Exit→Act→World→Prop} (hX0:∀ a w,¬ X .outgrown a w) (hX:∀ ex a w,X ex a w→Q ex a w) {Z:Act→World→Prop} (hZ:∀ a w,Z a w→Q .normal a w):∀ (fuel:Nat) (listed:Array Bool) (a:Act) (w:World),
 Z1N P X md ops S Lt Z fuel listed a w→wpAny P md ops Q fuel listed a w
 | 0,_,_,_,h=>⟨h.1,hZ _ _ h.2⟩
 | fuel+1,_,_,_,h=>⟨fun h0=>hZ _ _ (h.1 h0),fun i hi=>wpOp_mono (fun a' w' hk=>Z6r hX0 hX hZ fuel _ a' w' hk.2) (ZfQ hX0 hX (h.2 i hi))⟩
section any
variable {P:Program} {ops:Array Oper} {md:Region.Mode} {S:List Nat} {Lt:Nat→Bool}
theorem Zao {X:Exit→Act→World→Prop} (hX0:∀ a w,¬ X .outgrown a w) (hXp:∀ ch a d v w,X (.panic ch) (Act.put a d v) w→X (.panic ch) a w) {Z:Act→World→Prop} {R:World→World→Prop} (hR0:∀ w,R w w) (hRt:∀ a b c,R a b→R b c→R a c) {i:Nat} {oi:Oper} {v:Value} (hi:ops[i]?=some oi)
 (hRs:∀ j oj,ops[j]?=some oj→(∀ e∈oj.after,Region.binds md e=true→e.on≠i)→j≠i→∀ w w',(Stp S w w'∨Lt j=true)→R w w')
 (hsel:∀ (j:Nat) (o:Oper) cs b,ops[j]?=some o→o.op≠.select cs b) :
 ∀ (fuel : Nat) (listed : Array Bool) (a : Act) (w : World),
   (∀ j oj,ops[j]?=some oj→j≠i→listed.getD j true=false→(∀ e∈oj.after,Region.binds md e=true→e.on≠i)→oi.apart ops oj=true)→
   (Stp S w w∨Lt i=true→True)→i∈Region.ready md ops listed→YE P ops R oi v a w→
   Z1N P X md ops S Lt Z fuel (listed.setIfInBounds i true) (a.put oi.dst v) w→Z1N P X md ops S Lt Z (fuel+1) listed a w:=by
 have now:∀ (fuel:Nat) (listed:Array Bool) (a:Act) (w:World),YE P ops R oi v a w→Z1N P X md ops S Lt Z fuel (listed.setIfInBounds i true) (a.put oi.dst v) w→
  wpOp P ops X i (fun a' w'=>(Stp S w w'∨Lt i=true)∧Z1N P X md ops S Lt Z fuel (listed.setIfInBounds i true) a' w') a w:=by
  intro fuel listed a w hy H
  unfold wpOp
  simp only [hi]
  rcases hy with ⟨hw,hv⟩|⟨hw,rfl⟩
  simp only [hw,if_true,Oper.wp,hv w (hR0 w),Oper.upon];exact .inl ⟨.inl (Stp.refl _ _),H⟩
  simp only [hw,XG,if_false];exact ⟨.inl (Stp.refl _ _),H⟩
 intro fuel
 induction fuel with
 | zero=>
   intro listed a w _ _ hr hy H
   refine ⟨fun h=>(by rw [h] at hr;cases hr),fun j hj=>?_⟩
   by_cases hji:j=i
   subst hji;exact now _ _ _ _ hy H
   have:=ready_mono hj hji
   rw [H.1] at this
   cases this
 | succ fuel ih=>
   intro listed a w hfree hx hr hy H
   refine ⟨fun h=>(by rw [h] at hr;cases hr),fun j hj=>?_⟩
   by_cases hji:j=i
   subst hji;exact now _ _ _ _ hy H
   have h1:=H.2 j (ready_mono hj hji)
   obtain ⟨hjun,oj,hoj,hall⟩:=mem_ready.1 hj
   have hnot:∀ e∈oj.after,Region.binds md e=true→e.on≠i:=fun e he hb heq=>by
    have h1:=hall e he hb
    have h0:=(mem_ready.1 hr).1
    rw [heq] at h1
    rcases Yaj i listed.size with h'|h'
    simp [h'] at h0 h1;rw [h0] at h1;cases h1
    simp [YaJ h'] at h1
   have hap:=hfree j oj hoj hji hjun hnot
   obtain ⟨p1,p2,p3⟩:=Oper.apart_spec hap
   have keep:∀ (a:Act),YE P ops R oi v a w→∀ u,YE P ops R oi v (a.put oj.dst u) w:=fun a hy u=>
    hy.same (execOp_put oi (fun cs b=>hsel i oi cs b hi) a oj.dst u p3) (wanted_put oi a oj.dst u p3)
   have keepD:∀ (a:Act) d,YE P ops R oi v a w→YE P ops R oi v { a with defers:=d :: a.defers } w:=fun a d hy=>hy.same rfl rfl
   have later:∀ (a:Act) w',(Stp S w w'∨Lt j=true)→YE P ops R oi v a w→YE P ops R oi v a w':=fun a w' hs hy=>by
    rcases hy with ⟨hw,hv⟩|hw
    exact .inl ⟨hw,fun w'' h''=>hv w'' (hRt _ _ _ (hRs j oj hoj hnot hji w w' hs) h'')⟩
    exact .inr hw
   have hfree':∀ k ok,ops[k]?=some ok→k≠i→(listed.setIfInBounds j true).getD k true=false→
    (∀ e∈ok.after,Region.binds md e=true→e.on≠i)→oi.apart ops ok=true:=fun k ok hk hki hun hno=>by
    refine hfree k ok hk hki ?_ hno
    by_cases hjk:j=k
    subst hjk;exact hjun
    rw [getD_set_ne true hjk] at hun;exact hun
   have fin:∀ a' w',YE P ops R oi v a' w→(Stp S w w'∨Lt j=true)∧Z1N P X md ops S Lt Z fuel ((listed.setIfInBounds i true).setIfInBounds j true) (a'.put oi.dst v) w'→
    (Stp S w w'∨Lt j=true)∧Z1N P X md ops S Lt Z (fuel+1) (listed.setIfInBounds j true) a' w':=by
    rintro a' w' hy' ⟨hs,hk⟩
    refine ⟨hs,ih _ a' w' hfree' (fun _=>trivial) (ready_mono hr (Ne.symm hji)) (later a' w' hs hy') ?_⟩
    rw [Array.setIfInBounds_comm _ _ hji]
    exact hk
   have hsj:∀ cs b,oj.op≠.select cs b:=fun cs b=>hsel j oj cs b hoj
   unfold wpOp at *
   simp only [hoj] at *
   rw [wanted_put oj a oi.dst v p1] at h1
   split
   · rename_i hw
     simp only [hw,if_true] at h1
     rcases h1 with h1|⟨_,_,_,hf⟩
     case inr=>exact (hX0 _ _ hf).elim
     refine .inl ?_
     unfold Oper.wp at *
     rw [execOp_put oj hsj a oi.dst v p1] at h1
     generalize (execOp a.eval oj).run P w=r at *
     cases r with
     | ok n w'=>
       cases n<;>simp only [Oper.upon] at h1 ⊢
       case value u=>exact fin _ _ (keep a hy u) (by rw [← Act.put_comm a v u p2];exact h1)
       case skip=>exact fin _ _ (keep a hy _) (by rw [← Act.put_comm a v undef p2];exact h1)
       case defer d=>
        refine fin _ _ (keep _ (keepD a d hy) _) ?_
        rw [← Act.put_comm _ v undef p2,← Act.put_defers]
        exact h1
       case enter f args=>
        refine Calls.mono h1 fun e w'' he=>?_
        cases e with
        | returned u=>exact fin _ _ (keep a hy u) (by rw [← Act.put_comm a v u p2];exact he)
        | panicked c=>exact hXp _ _ _ _ _ he
        | outgrown=>obtain ⟨_,_,hf⟩:=he;exact (hX0 _ _ hf).elim
       case row row args=>exact Rows.mono h1 fun u w'' he=>fin _ _ (keep a hy u) (by rw [← Act.put_comm a v u p2];exact he)
     | halt x w'=>
       cases x<;>simp only [Oper.upon] at h1 ⊢
       exact hXp _ _ _ _ _ h1
   rename_i hw
   simp only [hw] at h1
   exact fin _ _ (keep a hy _) (by rw [← Act.put_comm a v undef p2];exact h1)
end any
structure WDq (P:Program) (n:Nat) (ops:Array Oper) (S:List Nat) (Lt:List Nat) (Q:Exit→Act→World→Prop) (ord:List (Nat×Nat)) (e:Env) (w:World):Prop where
 h:∀ listed:Array Bool,Region.noSelect ops=true→Z06 ops Lt ord listed=true→∀ a,Has n e a→Z1N P (PQ n Q) .any ops S (fun j=>Lt.contains j) (fun a w=>Q .normal a w) (wt ord) listed a w
section rules
variable {P:Program} {n:Nat} {Q:Exit→Act→World→Prop} {e:Env} {w:World} {ops:Array Oper} {S:List Nat} {Lt:List Nat} {rest:List (Nat×Nat)}
theorem Z4r {id:Nat} {l:List Oper} (m:Nat) (S:List Nat) (Lt:List Nat) (ord:List (Nat×Nat)) (hlm:l.length=m) (hm:P.follows .mixedOrders=true) (hs:Region.noSelect l.toArray=true) (hl:Nat.beq (wt ord) l.length=true)
 (hB:Z06 l.toArray Lt ord (Array.replicate m false)=true)
 (h:∀ w',Stp [] w w'→WDq P n l.toArray S Lt Q ord e w'):WC P n (.region id l.toArray true) Q e w:=by
 subst hlm
 refine ⟨fun a ha=>wp_region_any hm ?_⟩
 have h1:=(h { w with drawn:=w.drawn+1 } (Stp.drew [] w)).h _ hs hB a ha
 have h2:=Z6r (X:=PQ n Q) (Q:=Q) Zc0 ZmA (fun a w hz=>hz) _ _ _ _ h1
 rw [Yab hl] at h2
 simpa using h2
theorem ZdM {i d:Nat} {o:Oper} {v:Value} (hi:ops[i]?=some o) (hd:o.dst=some d) (hY:∀ a,Has n e a→YE P ops (fun _ _=>True) o v a w) (hdn:Nat.blt d n=true)
 (k:WDq P n ops S Lt Q rest ((d,v) :: e) w):WDq P n ops S Lt Q ((i,0) :: rest) e w:=by
 refine ⟨fun listed hs hB a ha=>?_⟩
 simp only [Z06,Jd,Xi] at hB
 obtain ⟨⟨h1,h2⟩,h3⟩:=hB
 have hk:=k.h _ hs h3 _ (ha.put (v:=v) hdn)
 rw [← hd] at hk
 rw [Z0X (by decide)]
 exact Zao Zc0 ZfP (R:=fun _ _=>True) (fun _=>trivial) (fun _ _ _ _ _=>trivial) hi (fun _ _ _ _ _ _ _ _=>trivial) (Region.noSelect_spec hs) _ _ _ _ (Region.free_spec hi h2) (fun _=>trivial) (by simpa using h1) (hY a ha) hk
theorem ZdN {i d:Nat} {o:Oper} {v:Value} (hi:ops[i]?=some o) (hd:o.dst=some d) (hY:∀ a,Has n e a→YE P ops (Stp S) o v a w) (hdn:Nat.blt d n=true)
 (k:WDq P n ops S Lt Q rest ((d,v) :: e) w):WDq P n ops S Lt Q ((i,1) :: rest) e w:=by
 refine ⟨fun listed hs hB a ha=>?_⟩
 simp only [Z06,Jd,Xi] at hB
 obtain ⟨⟨⟨h1,h2⟩,hb⟩,h3⟩:=hB
 have hk:=k.h _ hs h3 _ (ha.put (v:=v) hdn)
 rw [← hd] at hk
 rw [Z0X (by decide)]
 refine Zao Zc0 ZfP (R:=Stp S) (fun w=>Stp.refl _ w) (fun _ _ _ h k=>h.trans k) hi (fun j oj hj hn hji w w' hs=>?_) (Region.noSelect_spec hs) _ _ _ _ (Region.free_spec hi h2) (fun _=>trivial) (by simpa using h1) (hY a ha) hk
 rcases hs with hs|hs
 exact hs
 rw [Z4S hb hj hn hji] at hs;cases hs
variable {i d:Nat} {op:Op} {ty:TypeId} {pos:String} {af:Array Edge} {gd:Option (Nat×Bool)} {v:Value}
theorem Jo (hi:ops[i]?=some ⟨some d,op,ty,pos,af,gd⟩) (hg:ZR ops e gd) (hp:∀ w',PR P n ⟨some d,op,ty,pos,af,gd⟩ e w' v) (hdn:Nat.blt d n=true)
 (k:WDq P n ops S Lt Q rest ((d,v) :: e) w):WDq P n ops S Lt Q ((i,0) :: rest) e w:=
 ZdM hi rfl (fun a ha=>.inl ⟨Z07 ha hg,fun w' _=>(hp w').h a ha⟩) hdn k
theorem Z38 (hi:ops[i]?=some ⟨some d,op,ty,pos,af,gd⟩) (hg:ZR ops e gd) (hp:∀ w',Stp S w w'→PR P n ⟨some d,op,ty,pos,af,gd⟩ e w' v) (hdn:Nat.blt d n=true)
 (k:WDq P n ops S Lt Q rest ((d,v) :: e) w):WDq P n ops S Lt Q ((i,1) :: rest) e w:=
 ZdN hi rfl (fun a ha=>.inl ⟨Z07 ha hg,fun w' hw=>(hp w' hw).h a ha⟩) hdn k
structure Zrk (P:Program) (n:Nat) (ops:Array Oper) (S:List Nat) (Lt:List Nat) (Q:Exit→Act→World→Prop) (i:Nat) (ord:List (Nat×Nat)) (e:Env) (w:World):Prop where
 h : ∀ listed : Array Bool, Region.noSelect ops = true → Z06 ops Lt ord (listed.setIfInBounds i true) = true → ∀ a, Has n e a→
   wpOp P ops (PQ n Q) i (fun a' w'=>(Stp S w w'∨Lt.contains i=true)∧Z1N P (PQ n Q) .any ops S (fun j=>Lt.contains j) (fun a w=>Q .normal a w) (wt ord) (listed.setIfInBounds i true) a' w') a w
theorem ZcS (h:Zrk P n ops S Lt Q i rest e w):WDq P n ops S Lt Q ((i,2) :: rest) e w:=by
 refine ⟨fun listed hs hB a ha=>?_⟩
 simp only [Z06,Jd] at hB
 rw [if_neg (by simp)] at hB
 simp only [Xi,beq_iff_eq] at hB
 obtain ⟨h1,h3⟩:=hB
 rw [Z0X (by decide)]
 refine ⟨fun h0=>absurd (h1 ▸ h0) (by simp),fun j hj=>?_⟩
 rw [h1] at hj
 obtain rfl:j=i:=by simpa using hj
 exact h.h _ hs h3 a ha
end rules
structure OEP (P:Program) (n:Nat) (o:Oper) (e:Env) (w:World) (G:Value→World→Prop) (F:List PanicEntry→World→Prop):Prop where
 h:∀ a,Has n e a→∀ Q:Exit→Act→World→Prop,(∀ ch w',F ch w'→Q (.panic ch) a w')→o.wp P a w (fun a' w'=>∃ v,a'=a.put o.dst v∧G v w') Q
inductive Zi2 (G:Value→World→Prop) (F:List PanicEntry→World→Prop):Ending→World→Prop
 | ret {v:Value} {w:World}:G v w→Zi2 G F (.returned v) w
 | pan {ch:List PanicEntry} {w:World}:F ch w→Zi2 G F (.panicked ch) w
section
variable {P:Program} {n:Nat} {Q:Exit→Act→World→Prop} {e:Env} {w:World} {ops:Array Oper} {S:List Nat} {Lt:List Nat} {rest:List (Nat×Nat)}
theorem ZfR {i d:Nat} {op:Op} {ty:TypeId} {pos:String} {af:Array Edge} {gd:Option (Nat×Bool)} {G:Value→World→Prop} {F:List PanicEntry→World→Prop} (hi:ops[i]?=some ⟨some d,op,ty,pos,af,gd⟩) (hg:ZR ops e gd)
 (hp:OEP P n ⟨some d,op,ty,pos,af,gd⟩ e w G F) (hG:∀ v w',G v w'→Stp S w w') (hdn:Nat.blt d n=true) (hF:∀ ch w',F ch w'→WQ n Q (.panic ch) [] w')
 (k:∀ v w',G v w'→WDq P n ops S Lt Q rest ((d,v) :: e) w'):WDq P n ops S Lt Q ((i,2) :: rest) e w:=by
 refine ZcS ⟨fun listed hs h3 a ha=>?_⟩
 unfold wpOp
 simp only [hi]
 rw [if_pos (Z07 (o:=⟨some d,op,ty,pos,af,gd⟩) ha hg)]
 have h0:Has n [] a:=⟨ha.defers,ha.size,fun t v hv=>by simp [look] at hv⟩
 refine .inl (Oper.wp_mono ?_ (hp.h a ha (PQ n Q) (fun ch w' h=>⟨h0,fun a' ha'=>(hF ch w' h).h a' ha'⟩)))
 rintro a' w' ⟨v,rfl,hG'⟩
 exact ⟨.inl (hG v w' hG'),(k v w' hG').h _ hs h3 _ (ha.put hdn)⟩
end
section
variable {P:Program} {n:Nat} {Q:Exit→Act→World→Prop} {e:Env} {w:World} {ops:Array Oper} {rest:List Oper} {d:Option Nat} {ty:TypeId} {pos:String} {af:Array Edge} {g:Option (Nat×Bool)}
theorem Z7h {f:Nat} {fn:Func} {xs:Array Operand} {ts:Array TypeId} {vs:Array Value} {G:Value→World→Prop} {F:List PanicEntry→World→Prop} {c:Operand} [hf:Fun P f fn] (hc:ev e c=some (.func (.func f) #[] #[]))
 (hv:∀ a,Has n e a→xs.map a.eval=vs) (h:Calls P f vs w (Zi2 G F)) :
 OEP P n ⟨d,.call { callee:=.value c,args:=xs,argTypes:=ts },ty,pos,af,g⟩ e w G F:=
 ⟨fun a ha Q hQ => by
   have he:(execOp a.eval ⟨d,.call { callee:=.value c,args:=xs,argTypes:=ts },ty,pos,af,g⟩).run P w=.ok (.enter f vs) w:=by
    simp only [execOp,resolve,ha.ev hc,Deferred.ofValue,hv a ha]
    simp [invoke]
    exact hf.enters vs w
   unfold Oper.wp
   rw [he]
   simp only [Oper.upon]
   refine h.mono ?_
   intro r w' hr
   cases hr with
   | ret hg=>exact ⟨_,rfl,hg⟩
   | pan hp=>exact hQ _ _ hp⟩
theorem ZdO {f:Nat} {fn:Func} {xs:Array Operand} {ts:Array TypeId} {vs bd cap us:Array Value} {G:Value→World→Prop} {F:List PanicEntry→World→Prop} {c:Operand} [hf:Fun P f fn] (hc:ev e c=some (.func (.func f) bd cap))
 (hv:∀ a,Has n e a→xs.map a.eval=vs) (hu:bd++vs++cap=us) (h:Calls P f us w (Zi2 G F)) :
 OEP P n ⟨d,.call { callee:=.value c,args:=xs,argTypes:=ts },ty,pos,af,g⟩ e w G F:=
 ⟨fun a ha Q hQ => by
   have he:(execOp a.eval ⟨d,.call { callee:=.value c,args:=xs,argTypes:=ts },ty,pos,af,g⟩).run P w=.ok (.enter f us) w:=by
    simp only [execOp,resolve,ha.ev hc,Deferred.ofValue,hv a ha]
    simp [invoke]
    rw [← Array.append_assoc,hu]
    exact hf.enters us w
   unfold Oper.wp
   rw [he]
   simp only [Oper.upon]
   refine h.mono ?_
   intro r w' hr
   cases hr with
   | ret hg=>exact ⟨_,rfl,hg⟩
   | pan hp=>exact hQ _ _ hp⟩
theorem Z9j {d:Nat} {op:Op} {G:Value→World→Prop} {F:List PanicEntry→World→Prop} (hp:OEP P n ⟨some d,op,ty,pos,af,none⟩ e w G F) (hd:Nat.blt d n=true) (hF:∀ ch w',F ch w'→WQ n Q (.panic ch) e w')
 (k:∀ v w',G v w'→WL P n ops Q rest ((d,v) :: e) w'):WL P n ops Q (⟨some d,op,ty,pos,af,none⟩ :: rest) e w:=by
 refine ⟨fun a ha=>?_⟩
 refine wpList_plain rfl (fun K hK=>?_)
 refine Oper.wp_mono ?_ (hp.h a ha Q (fun ch w' h=>(hF ch w' h).h a ha))
 rintro a' w' ⟨v,rfl,hg⟩
 exact hK _ _ ((k v w' hg).h _ (ha.put hd))
theorem Za {N:Act→World→Prop} {ch:List PanicEntry} (h:WQ n Q (.panic ch) e w):WQ n (Exit.then N Q) (.panic ch) e w:=⟨fun a ha=>h.h a ha⟩
theorem Z8 {i:Nat} {ch:List PanicEntry} (h:WQ n Q (.panic ch) e w):WQ n (Exit.inBlock i Q) (.panic ch) e w:=⟨fun a ha=>h.h a ha⟩
theorem Z8u {x:Exit} (h:WQ n Q x [] w):WQ n Q x e w:=⟨fun a ha=>h.h a ⟨ha.defers,ha.size,fun t v hv=>by simp [look] at hv⟩⟩
theorem Zx {fn:Func} {R:Ending→World→Prop} {ch:List PanicEntry} (h:R (.panicked ch) w):WQ n (bodyPost P fn R) (.panic ch) e w:=⟨fun a ha=>⟨ha.defers,h⟩⟩
end
theorem Z5T {P:Program} {n:Nat} {e:Env} {w:World} {d:Option Nat} {ty:TypeId} {pos:String} {af:Array Edge} {g:Option (Nat×Bool)} {t:TypeId} {x:Operand} {v:Value} {fs:Array Field} [hu:Und P t (.struct fs)] (hx:ev e x=some v):PR P n ⟨d,.makeInterface t x,ty,pos,af,g⟩ e w (.iface t v):=
 ⟨fun a ha=>by simp [execOp,ha.ev hx,Instr.makeInterface,run_underlying hu.h]⟩
theorem ZdP {P:Program} {n:Nat} {e:Env} {w:World} {d:Option Nat} {ty:TypeId} {pos:String} {af:Array Edge} {g:Option (Nat×Bool)} {x:Operand} {t:TypeId} {v:Value} (hx:ev e x=some (.iface t v)):∀ a,Has n e a→(execOp a.eval ⟨d,.panic x,ty,pos,af,g⟩).run P w=.halt (.panic (.iface t v)) w:=
 fun a ha=>by simp [execOp,ha.ev hx,Instr.panic]
theorem ZdQ {P:Program} {n:Nat} {Q:Exit→Act→World→Prop} {e:Env} {w:World} {ops:Array Oper} {S:List Nat} {Lt:List Nat} {rest:List (Nat×Nat)} {i:Nat} {o:Oper} {v:Value} (hi:ops[i]?=some o) (hg:ZR ops e o.guard)
 (hp:∀ a,Has n e a→(execOp a.eval o).run P w=.halt (.panic v) w) (h:WQ n Q (.panic [{ v,recovered:=false }]) [] w):WDq P n ops S Lt Q ((i,2) :: rest) e w:=by
 refine ZcS ⟨fun listed hs h3 a ha=>?_⟩
 unfold wpOp
 simp only [hi]
 rw [if_pos (Z07 ha hg)]
 refine .inl ?_
 unfold Oper.wp
 rw [hp a ha]
 have h0:Has n [] a:=⟨ha.defers,ha.size,fun t v hv=>by simp [look] at hv⟩
 exact ⟨h0,fun a' ha'=>h.h a' ha'⟩
structure Tkn where
 kind:Int
 pos:Int
 text:Str
 num:Int
 deriving DecidableEq
instance:Inhabited Tkn:=⟨⟨0,0,[],0⟩⟩
instance:Zi Tkn where
 k:=4
 enc:=fun t=>[.int .i64 t.kind,.int .i64 t.pos,str t.text,.int .i64 t.num]
 len:=fun _=>rfl
 one:=by intro x u hu;simp at hu;rcases hu with rfl|rfl|rfl|rfl<;>rfl
def cur (l:List Tkn) (i:Nat):Tkn:=l.getD i default
inductive Out (α:Type) where
 | err (a c:Int)
 | ok (x:α) (i o:Nat)
def Out.bind {α β:Type}:Out α→(α→Nat→Nat→Out β)→Out β
 | .err a c,_=>.err a c
 | .ok x i o,k=>k x i o
def Z1q {α:Type} (l:List Tkn) (i:Nat) (c:Int):Out α:=.err (cur l i).pos c
def Jy (l:List Tkn) (s:Str) (i o:Nat):Out Unit:=if (cur l i).text=s then .ok () (i+1) o else Z1q l i 20
def Z0H (l:List Tkn) (k:Int) (i o:Nat):Out Tkn:=if (cur l i).kind=k then .ok (cur l i) (i+1) o else Z1q l i 20
def JF (l:List Tkn) (s:Str) (i o:Nat):Out Unit:=if (cur l i).text=s then (if o=12 then Z1q l i 2 else .ok () (i+1) (o+1)) else Z1q l i 20
def Z04 (l:List Tkn) (s:Str) (i o:Nat):Out Unit:=(Jy l s i o).bind fun _ i o=>.ok () i (o - 1)
def Z0U:List Str:=[[100,97,121],[115,101,114,118,101,100],[101,120,116,114,97],[98,121],[116,111],[99,111,117,114,116],[97,109,111,117,110,116]]
def Z0v:List Str:=[[100,97,121,115],[119,101,101,107,115],[109,111,110,116,104,115],[99,111,117,114,116,100,97,121,115]]
def Z0S:List Str:=[[110,101,120,116],[112,114,101,118],[108,97,116,101,114],[101,97,114,108,105,101,114],[98,101,116,119,101,101,110]]
def Z8v:List Str:=[[114,117,108,101],[102,114,111,109],[111,110],[105,102],[100,117,101],[117,110,108,101,115,115],[101,108,115,101],[116,114,117,101],[102,97,108,115,101],[110,111,116],[97,110,100],[111,114],[116,104,101,110],[101,110,100]]
def Z1X (l:List Tkn) (i o:Nat):Out Str:=if (cur l i).text∈Z8v++Z0v++Z0U++Z0S then Z1q l i 20 else (Z0H l 1 i o).bind fun t i o=>.ok t.text i o
def Zm (s:Str):Nat:=
 if s=[111,114] then 1 else if s=[97,110,100] then 2 else if s=[60]∨s=[60,61]∨s=[61]∨s=[33,61]∨s=[62]∨s=[62,61] then 4
 else if s=[43]∨s=[45] then 5 else if s=[42] then 6 else 0
def Z0I (s:Str):Nat:=if s=[110,101,120,116]∨s=[112,114,101,118] then 1 else 2
def JM (m:Nat→Nat→Option (Out Nd)) (sep:Nat→Nat→Nat→Out Unit):Nat→Nat→List Nd→Nat→Nat→Option (Out (List Nd))
 | 0,_,ks,i,o=>some (.ok ks i o)
 | n + 1, k, ks, i, o=>
   match sep k i o with
   | .err a c=>some (.err a c)
   | .ok _ i o=>
     match m i o with
     | none=>none
     | some (.err a c)=>some (.err a c)
     | some (.ok x i o)=>JM m sep n (k+1) (ks++[x]) i o
def Z18 (l:List Tkn) (k i o:Nat):Out Unit:=if 0<k then Jy l [44] i o else .ok () i o
def Z5m (l:List Tkn) (k i o:Nat):Out Unit:=Jy l (if k=0 then [116,104,101,110] else [101,108,115,101]) i o
inductive Call where
 | expr (level:Nat)
 | loop (level:Nat) (x:Nd)
 | prim
def Zz (l:List Tkn):Nat→Call→Nat→Nat→Option (Out Nd)
 | 0,_,_,_=>none
 | f + 1, .expr k, i, o=>
   if (k=3∧(cur l i).text=[110,111,116])∨(k=7∧(cur l i).text=[45]) then
    match JF l (cur l i).text i o with
    | .err a c=>some (.err a c)
    | .ok _ i' o'=>
      match Zz l f (.expr k) i' o' with
      | none=>none
      | some (.err a c)=>some (.err a c)
      | some (.ok x i'' o'')=>some (.ok (.mk 5 0 (cur l i).text [x]) i'' (o'' - 1))
   else if k=8 then Zz l f .prim i o
   else
    match Zz l f (.expr (k+1)) i o with
    | none=>none
    | some (.err a c)=>some (.err a c)
    | some (.ok x i' o')=>Zz l f (.loop k x) i' o'
 | f + 1, .loop k x, i, o=>
   if Zm (cur l i).text=k then
    match Zz l f (.expr (k+1)) (i+1) o with
    | none=>none
    | some (.err a c)=>some (.err a c)
    | some (.ok y i' o')=>
      if k=5∧(cur l i').text∈Z0v then Zz l f (.loop k (.mk (if (cur l i).text=[45] then 8 else 7) 0 (cur l i').text [x,y])) (i'+1) o'
      else if k=4 then some (.ok (.mk 6 0 (cur l i).text [x,y]) i' o')
      else Zz l f (.loop k (.mk 6 0 (cur l i).text [x,y])) i' o'
   else some (.ok x i o)
 | f + 1, .prim, i, o=>
   let t:=cur l i
   if t.kind=2 then some (.ok (.mk 1 t.num [] []) (i+1) o)
   else if t.kind=3 then some (.ok (.mk 3 t.num [] []) (i+1) o)
   else if t.text=[116,114,117,101] then some (.ok (.mk 2 1 [] []) (i+1) o)
   else if t.text=[102,97,108,115,101] then some (.ok (.mk 2 0 [] []) (i+1) o)
   else if t.text=[40] then
    match JF l [40] i o with
    | .err a c=>some (.err a c)
    | .ok _ i' o'=>
      match Zz l f (.expr 1) i' o' with
      | none=>none
      | some (.err a c)=>some (.err a c)
      | some (.ok x i'' o'')=>
        match Z04 l [41] i'' o'' with
        | .err a c=>some (.err a c)
        | .ok _ i3 o3=>some (.ok x i3 o3)
   else if t.text=[105,102] then
    match JF l [105,102] i o with
    | .err a c=>some (.err a c)
    | .ok _ i' o'=>
      match Zz l f (.expr 1) i' o' with
      | none=>none
      | some (.err a c)=>some (.err a c)
      | some (.ok x i'' o'')=>
        match JM (Zz l f (.expr 1)) (Z5m l) 2 0 [x] i'' o'' with
        | none=>none
        | some (.err a c)=>some (.err a c)
        | some (.ok ks i3 o3)=>
          match Z04 l [101,110,100] i3 o3 with
          | .err a c=>some (.err a c)
          | .ok _ i4 o4=>some (.ok (.mk 9 0 [] ks) i4 o4)
   else if t.text∈Z0S then
    match Z0H l 1 i o with
    | .err a c=>some (.err a c)
    | .ok _ i1 o1=>
      match JF l [40] i1 o1 with
      | .err a c=>some (.err a c)
      | .ok _ i' o'=>
        match JM (Zz l f (.expr 1)) (Z18 l) (Z0I t.text) 0 [] i' o' with
        | none=>none
        | some (.err a c)=>some (.err a c)
        | some (.ok ks i3 o3)=>
          match Z04 l [41] i3 o3 with
          | .err a c=>some (.err a c)
          | .ok _ i4 o4=>some (.ok (.mk 10 0 t.text ks) i4 o4)
   else if t.text∈Z0U then some (.ok (.mk 4 0 t.text []) (i+1) o)
   else some (Z1q l i 20)
structure RuleM where
 name:Str
 frm:Int
 on:Str
 cond:Nd
 due:Nd
 unl:Str
 els:Str
def Z0J {α:Type} (l:List Tkn) (w:Str) (z:α) (rd:Nat→Nat→Out α) (i o:Nat):Out α:=
 if (cur l i).text=w then (rd (i+1) o).bind fun x i o=>(Jy l [59] i o).bind fun _ i o=>.ok x i o else .ok z i o
def Z7i (l:List Tkn) (i:Nat):Nat:=20 * (l.length - i)+20
def Z0u (l:List Tkn) (i o:Nat):Out Nd:=(Zz l (Z7i l i) (.expr 1) i o).getD (.err 0 0)
def Jz:Nd:=.mk 0 0 [] []
def Z6s (l:List Tkn) (i o:Nat):Out RuleM:=
 (Jy l [114,117,108,101] i o).bind fun _ i o=>(Z1X l i o).bind fun nm i o=>(Jy l [102,114,111,109] i o).bind fun _ i o=>(Z0H l 3 i o).bind fun t i o=>(Jy l [123] i o).bind fun _ i o=>
 if (cur l i).text=[111,110] then
  (Z0J l [111,110] [] (Z1X l) i o).bind fun on i o=>(Z0J l [105,102] Jz (Z0u l) i o).bind fun cd i o=>
  if (cur l i).text=[100,117,101] then
   (Z0J l [100,117,101] Jz (Z0u l) i o).bind fun due i o=>(Z0J l [117,110,108,101,115,115] [] (Z1X l) i o).bind fun un i o=>(Z0J l [101,108,115,101] [] (Z1X l) i o).bind fun el i o=>(Jy l [125] i o).bind fun _ i o=>
   .ok ⟨nm,t.num,on,if cd.kind=0 then .mk 2 1 [] [] else cd,due,un,el⟩ i o
  else Z1q l i 20
 else Z1q l i 20
def Z1C (l:List Tkn):Nat→List RuleM→Nat→Nat→Out (List RuleM)
 | 0,rs,i,o=>.ok rs i o
 | f+1,rs,i,o=>if (cur l i).kind=0 then .ok rs i o else (Z6s l i o).bind fun r i o=>Z1C l f (rs++[r]) i o
structure Z2A (l:List Tkn):Prop where
 pos:0<l.length
 last:(cur l (l.length - 1)).kind=0∧(cur l (l.length - 1)).text=[]
 body:∀ i,i+1<l.length→(cur l i).kind≠0∧(cur l i).text≠[]
 len:l.length≤4001
 sp:∀ i,∀ c∈(cur l i).text,c≠32
 tl:∀ i,(cur l i).text.length≤4000
theorem Z2A.end_of {l:List Tkn} (h:Z2A l) {i:Nat} (hi:i<l.length) (ht:(cur l i).text≠[]):i+1<l.length:=by
 by_cases hl:i+1<l.length
 exact hl
 exfalso
 obtain rfl:i=l.length - 1:=by omega
 exact ht h.last.2
theorem Z2A.end_of_kind {l:List Tkn} (h:Z2A l) {i:Nat} (hi:i<l.length) (ht:(cur l i).kind≠0):i+1<l.length:=by
 by_cases hl:i+1<l.length
 exact hl
 exfalso
 obtain rfl:i=l.length - 1:=by omega
 exact ht h.last.1
theorem Z2l {l:List Tkn} {s:Str} {i o:Nat} {u:Unit} {i' o':Nat} (h:Jy l s i o=.ok u i' o'):o'=o:=by
 unfold Jy Z1q at h;split at h<;>simp at h;omega
theorem Z2G {l:List Tkn} {s:Str} {i o:Nat} {u:Unit} {i' o':Nat} (h:Jy l s i o=.ok u i' o'):i'=i+1∧(cur l i).text=s:=by
 unfold Jy Z1q at h;split at h<;>simp at h;exact ⟨by omega,by assumption⟩
theorem Z1d {l:List Tkn} {k:Int} {i o:Nat} {t:Tkn} {i' o':Nat} (h:Z0H l k i o=.ok t i' o'):o'=o∧i'=i+1∧t=cur l i∧t.kind=k:=by
 unfold Z0H Z1q at h;split at h<;>simp at h
 obtain ⟨rfl,rfl,rfl⟩:=h
 exact ⟨rfl,rfl,rfl,by assumption⟩
theorem ZT {l:List Tkn} {s:Str} {i o:Nat} {u:Unit} {i' o':Nat} (h:JF l s i o=.ok u i' o'):o'=o+1∧i'=i+1∧(cur l i).text=s:=by
 unfold JF Z1q at h;split at h
 split at h<;>simp at h
 exact ⟨by omega,by omega,by assumption⟩
 simp at h
theorem Z0P {l:List Tkn} {s:Str} {i o:Nat} {u:Unit} {i' o':Nat} (h:Z04 l s i o=.ok u i' o'):o'=o - 1∧i'=i+1∧(cur l i).text=s:=by
 unfold Z04 at h
 cases hm:Jy l s i o with
 | err a c=>rw [hm] at h;simp [Out.bind] at h
 | ok x j p=>
   rw [hm] at h
   simp [Out.bind] at h
   have:=Z2l hm
   have:=Z2G hm
   exact ⟨by omega,by omega,this.2⟩
theorem Z4W {m:Nat→Nat→Option (Out Nd)} {sep:Nat→Nat→Nat→Out Unit} (hm:∀ i o x i' o',m i o=some (.ok x i' o')→o'=o) (hs:∀ k i o u i' o',sep k i o=.ok u i' o'→o'=o) :
 ∀ (n k:Nat) (ks:List Nd) (i o:Nat) (ks':List Nd) (i' o':Nat),JM m sep n k ks i o=some (.ok ks' i' o')→o'=o
 | 0,k,ks,i,o,ks',i',o',h=>by simp [JM] at h;omega
 | n + 1, k, ks, i, o, ks', i', o', h => by
   simp only [JM] at h
   cases h1:sep k i o with
   | err a c=>rw [h1] at h;simp at h
   | ok u i1 o1=>
     rw [h1] at h
     simp only at h
     cases h2:m i1 o1 with
     | none=>rw [h2] at h;simp at h
     | some r=>
       rw [h2] at h
       cases r with
       | err a c=>simp at h
       | ok x i2 o2=>
         simp only at h
         have:=Z4W hm hs n _ _ _ _ _ _ _ h
         have:=hm _ _ _ _ _ h2
         have:=hs _ _ _ _ _ _ h1
         omega
theorem Zap {l:List Tkn} {k i o:Nat} {u:Unit} {i' o':Nat} (h:Z18 l k i o=.ok u i' o'):o'=o:=by
 unfold Z18 at h
 split at h
 exact Z2l h
 simp at h;omega
theorem Zc1 {l:List Tkn} {k i o:Nat} {u:Unit} {i' o':Nat} (h:Z5m l k i o=.ok u i' o'):o'=o:=Z2l h
theorem Z0l (l:List Tkn):∀ (f:Nat) (c:Call) (i o:Nat) (x:Nd) (i' o':Nat),Zz l f c i o=some (.ok x i' o')→o'=o
 | 0,c,i,o,x,i',o',h=>by simp [Zz] at h
 | f + 1, .expr k, i, o, x, i', o', h => by
   have ih:=Z0l l f
   rw [Zz] at h
   split at h
   split at h
   simp at h
   rename_i h1
   have:=ZT h1
   split at h
   simp at h
   simp at h
   rename_i h2
   have:=ih _ _ _ _ _ _ h2
   simp at h
   omega
   split at h
   exact ih _ _ _ _ _ _ h
   split at h
   simp at h
   simp at h
   rename_i h2
   have:=ih _ _ _ _ _ _ h2
   have:=ih _ _ _ _ _ _ h
   omega
 | f + 1, .loop k y, i, o, x, i', o', h => by
   have ih:=Z0l l f
   rw [Zz] at h
   split at h
   split at h
   simp at h
   simp at h
   rename_i h2
   have h3:=ih _ _ _ _ _ _ h2
   split at h
   have:=ih _ _ _ _ _ _ h
   omega
   split at h
   simp at h;omega
   have:=ih _ _ _ _ _ _ h
   omega
   simp at h;omega
 | f + 1, .prim, i, o, x, i', o', h => by
   have ih:=Z0l l f
   rw [Zz] at h
   repeat' split at h
   all_goals try (simp at h;done)
   all_goals try (simp at h;omega)
   rename_i h1 _ _ _ _ h2 _ _ _ _ h3
   have:=ZT h1;have:=ih _ _ _ _ _ _ h2;have:=Z0P h3
   simp at h;omega
   rename_i h1 _ _ _ _ h2 _ _ _ _ h3 _ _ _ _ h4
   have:=ZT h1;have:=ih _ _ _ _ _ _ h2;have:=Z4W (fun _ _ _ _ _ h=>ih _ _ _ _ _ _ h) (fun _ _ _ _ _ _ h=>Zc1 h) _ _ _ _ _ _ _ _ h3;have:=Z0P h4
   simp at h;omega
   rename_i h1 _ _ _ _ h2 _ _ _ _ h3 _ _ _ _ h4
   have:=Z1d h1;have:=ZT h2;have:=Z4W (fun _ _ _ _ _ h=>ih _ _ _ _ _ _ h) (fun _ _ _ _ _ _ h=>Zap h) _ _ _ _ _ _ _ _ h3;have:=Z0P h4
   simp at h;omega
   all_goals (simp [Z1q] at h)
theorem Z7j {m:Nat→Nat→Option (Out Nd)} {sep:Nat→Nat→Nat→Out Unit} (hm:∀ i o x i' o',m i o=some (.ok x i' o')→i≤i') (hs:∀ k i o u i' o',sep k i o=.ok u i' o'→i≤i') :
 ∀ (n k:Nat) (ks:List Nd) (i o:Nat) (ks':List Nd) (i' o':Nat),JM m sep n k ks i o=some (.ok ks' i' o')→i≤i'
 | 0,k,ks,i,o,ks',i',o',h=>by simp [JM] at h;omega
 | n + 1, k, ks, i, o, ks', i', o', h => by
   simp only [JM] at h
   cases h1:sep k i o with
   | err a c=>rw [h1] at h;simp at h
   | ok u i1 o1=>
     rw [h1] at h
     simp only at h
     cases h2:m i1 o1 with
     | none=>rw [h2] at h;simp at h
     | some r=>
       rw [h2] at h
       cases r with
       | err a c=>simp at h
       | ok x i2 o2=>
         simp only at h
         have:=Z7j hm hs n _ _ _ _ _ _ _ h
         have:=hm _ _ _ _ _ h2
         have:=hs _ _ _ _ _ _ h1
         omega
theorem Z8w {l:List Tkn} {k i o:Nat} {u:Unit} {i' o':Nat} (h:Z18 l k i o=.ok u i' o'):i≤i':=by
 unfold Z18 at h
 split at h
 have:=(Z2G h).1;omega
 simp at h;omega
theorem Zaq {l:List Tkn} {k i o:Nat} {u:Unit} {i' o':Nat} (h:Z5m l k i o=.ok u i' o'):i≤i':=by have:=(Z2G h).1;omega
def Call.lo:Call→Nat→Nat
 | .expr _,i=>i+1
 | .prim,i=>i+1
 | .loop _ _,i=>i
theorem Z2m (l:List Tkn):∀ (f:Nat) (c:Call) (i o:Nat) (x:Nd) (i' o':Nat),Zz l f c i o=some (.ok x i' o')→c.lo i≤i'
 | 0,c,i,o,x,i',o',h=>by simp [Zz] at h
 | f + 1, .expr k, i, o, x, i', o', h => by
   have ih:=Z2m l f
   rw [Zz] at h
   simp only [Call.lo]
   split at h
   split at h
   simp at h
   rename_i h1
   have:=ZT h1
   split at h
   simp at h
   simp at h
   rename_i h2
   have:=ih _ _ _ _ _ _ h2
   simp only [Call.lo] at this
   simp at h
   omega
   split at h
   exact ih _ _ _ _ _ _ h
   split at h
   simp at h
   simp at h
   rename_i h2
   have h3:=ih _ _ _ _ _ _ h2
   have:=ih _ _ _ _ _ _ h
   simp only [Call.lo] at this h3
   omega
 | f + 1, .loop k y, i, o, x, i', o', h => by
   have ih:=Z2m l f
   rw [Zz] at h
   simp only [Call.lo]
   split at h
   split at h
   simp at h
   simp at h
   rename_i h2
   have h3:=ih _ _ _ _ _ _ h2
   simp only [Call.lo] at h3
   split at h
   have:=ih _ _ _ _ _ _ h
   simp only [Call.lo] at this
   omega
   split at h
   simp at h;omega
   have:=ih _ _ _ _ _ _ h
   simp only [Call.lo] at this
   omega
   simp at h;omega
 | f + 1, .prim, i, o, x, i', o', h => by
   have ih:=Z2m l f
   rw [Zz] at h
   simp only [Call.lo]
   repeat' split at h
   all_goals try (simp at h;done)
   all_goals try (simp at h;omega)
   rename_i h1 _ _ _ _ h2 _ _ _ _ h3
   have:=ZT h1;have h2:=ih _ _ _ _ _ _ h2;have:=Z0P h3
   simp only [Call.lo] at h2
   simp at h;omega
   rename_i h1 _ _ _ _ h2 _ _ _ _ h3 _ _ _ _ h4
   have:=ZT h1;have h2:=ih _ _ _ _ _ _ h2;have:=Z7j (fun _ _ _ _ _ h=>by have:=ih _ _ _ _ _ _ h;simp only [Call.lo] at this;omega) (fun _ _ _ _ _ _ h=>Zaq h) _ _ _ _ _ _ _ _ h3;have:=Z0P h4
   simp only [Call.lo] at h2
   simp at h;omega
   rename_i h1 _ _ _ _ h2 _ _ _ _ h3 _ _ _ _ h4
   have:=Z1d h1;have:=ZT h2;have:=Z7j (fun _ _ _ _ _ h=>by have:=ih _ _ _ _ _ _ h;simp only [Call.lo] at this;omega) (fun _ _ _ _ _ _ h=>Z8w h) _ _ _ _ _ _ _ _ h3;have:=Z0P h4
   simp at h;omega
   all_goals (simp [Z1q] at h)
theorem Z4X {m:Nat→Nat→Option (Out Nd)} {sep:Nat→Nat→Nat→Out Unit} (i0:Nat) (ht:∀ i o,i0≤i→m i o≠none) (hm:∀ i o x i' o',m i o=some (.ok x i' o')→i≤i') (hs:∀ k i o u i' o',sep k i o=.ok u i' o'→i≤i') :
 ∀ (n k:Nat) (ks:List Nd) (i o:Nat),i0≤i→JM m sep n k ks i o≠none
 | 0,k,ks,i,o,h0=>by simp [JM]
 | n + 1, k, ks, i, o, h0 => by
   simp only [JM]
   cases h1:sep k i o with
   | err a c=>simp
   | ok u i1 o1=>
     have:=hs _ _ _ _ _ _ h1
     simp only
     cases h2:m i1 o1 with
     | none=>exact absurd h2 (ht _ _ (by omega))
     | some r=>
       cases r with
       | err a c=>simp
       | ok x i2 o2=>
         have:=hm _ _ _ _ _ h2
         exact Z4X i0 ht hm hs n _ _ _ _ (by omega)
theorem Zi3 {l:List Tkn} {i:Nat} (h:l.length≤i):cur l i=default:=by simp [cur,List.getD,h]
theorem Z4Y {l:List Tkn} {i:Nat} (h:(cur l i).text≠[]):i<l.length:=by
 by_cases hl:i<l.length
 exact hl
 rw [Zi3 (by omega)] at h;exact absurd rfl h
def Call.need (n:Nat):Call→Nat→Nat
 | .expr k,i=>10 * (n - i)+(10 - k)
 | .prim,i=>10 * (n - i)+1
 | .loop _ _,i=>10 * (n - i)+1
def Call.fine:Call→Prop
 | .expr k=>1≤k∧k≤8
 | .prim=>True
 | .loop k _=>1≤k∧k≤7
theorem Z7k {s:Str} {k:Nat} (h:Zm s=k) (hk:1≤k):s≠[]:=by
 rintro rfl
 have:Zm []=0:=by decide
 omega
theorem Z3w (l:List Tkn):∀ (f:Nat) (c:Call) (i o:Nat),c.fine→c.need l.length i≤f→Zz l f c i o≠none
 | 0, c, i, o, hc, h => by
   cases c<;>simp only [Call.need,Call.fine] at h hc<;>omega
 | f + 1, .expr k, i, o, hc, h => by
   have ih:=Z3w l f
   simp only [Call.need,Call.fine] at h hc
   rw [Zz]
   split
   rename_i hsp
   have hi:i<l.length:=Z4Y (by rcases hsp with ⟨_,h⟩|⟨_,h⟩<;>rw [h]<;>decide)
   split
   simp
   rename_i h1
   have:=ZT h1
   split
   rename_i h2;exact absurd h2 (ih _ _ _ hc (by simp only [Call.need];omega))
   simp
   simp
   split
   exact ih _ _ _ trivial (by simp only [Call.need];omega)
   split
   rename_i h2;exact absurd h2 (ih _ _ _ (by simp only [Call.fine];omega) (by simp only [Call.need];omega))
   simp
   rename_i h2
   have h3:=Z2m l _ _ _ _ _ _ _ h2
   simp only [Call.lo] at h3
   exact ih _ _ _ (by simp only [Call.fine];omega) (by simp only [Call.need];omega)
 | f + 1, .loop k y, i, o, hc, h => by
   have ih:=Z3w l f
   simp only [Call.need,Call.fine] at h hc
   rw [Zz]
   split
   rename_i hlv
   have hi:i<l.length:=Z4Y (Z7k hlv hc.1)
   split
   rename_i h2;exact absurd h2 (ih _ _ _ (by simp only [Call.fine];omega) (by simp only [Call.need];omega))
   simp
   rename_i h2
   have h3:=Z2m l _ _ _ _ _ _ _ h2
   simp only [Call.lo] at h3
   split
   exact ih _ _ _ hc (by simp only [Call.need];omega)
   split
   simp
   exact ih _ _ _ hc (by simp only [Call.need];omega)
   simp
 | f + 1, .prim, i, o, hc, h => by
   have ih:=Z3w l f
   have hle:∀ i o x i' o',Zz l f (.expr 1) i o=some (.ok x i' o')→i≤i':=fun _ _ _ _ _ h=>by have:=Z2m l _ _ _ _ _ _ _ h;simp only [Call.lo] at this;omega
   simp only [Call.need,Call.fine] at h hc
   have hrec:∀ j o,i<l.length→i+1≤j→Zz l f (.expr 1) j o≠none:=fun j o hi hj=>ih _ _ _ (by simp [Call.fine]) (by simp only [Call.need];omega)
   rw [Zz]
   have hpar:=fun h=>Z4Y (l:=l) (i:=i) h
   split
   simp
   split
   simp
   split
   simp
   split
   simp
   split
   rename_i ht
   have hi:=hpar (by rw [ht];decide)
   split
   simp
   rename_i h1
   have:=ZT h1
   split
   rename_i h2;exact absurd h2 (hrec _ _ hi (by omega))
   simp
   split<;>simp
   split
   rename_i ht
   have hi:=hpar (by rw [ht];decide)
   split
   simp
   rename_i h1
   have:=ZT h1
   split
   rename_i h2;exact absurd h2 (hrec _ _ hi (by omega))
   simp
   rename_i h2
   have:=hle _ _ _ _ _ h2
   split
   rename_i h3;exact absurd h3 (Z4X (i+1) (fun j o hj=>hrec j o hi hj) hle (fun _ _ _ _ _ _ h=>Zaq h) _ _ _ _ _ (by omega))
   simp
   split<;>simp
   split
   rename_i ht
   have hi:=hpar (fun h0=>by rw [h0] at ht;revert ht;decide)
   split
   simp
   rename_i h1
   have:=Z1d h1
   split
   simp
   rename_i h2
   have:=ZT h2
   split
   rename_i h3;exact absurd h3 (Z4X (i+1) (fun j o hj=>hrec j o hi hj) hle (fun _ _ _ _ _ _ h=>Z8w h) _ _ _ _ _ (by omega))
   simp
   split<;>simp
   split<;>simp
theorem Z5U (l:List Tkn) (i o:Nat):Zz l (Z7i l i) (.expr 1) i o=some (Z0u l i o):=by
 have:=Z3w l (Z7i l i) (.expr 1) i o (by simp [Call.fine]) (by simp only [Call.need,Z7i];omega)
 unfold Z0u
 cases h:Zz l (Z7i l i) (.expr 1) i o with
 | none=>exact absurd h this
 | some r=>rfl
theorem Z4Z {m m':Nat→Nat→Option (Out Nd)} {sep:Nat→Nat→Nat→Out Unit} (hm:∀ i o r,m i o=some r→m' i o=some r) :
 ∀ (n k:Nat) (ks:List Nd) (i o:Nat) (r:Out (List Nd)),JM m sep n k ks i o=some r→JM m' sep n k ks i o=some r
 | 0,k,ks,i,o,r,h=>by simpa [JM] using h
 | n + 1, k, ks, i, o, r, h => by
   simp only [JM] at h ⊢
   cases h1:sep k i o with
   | err a c=>rw [h1] at h;exact h
   | ok u i1 o1=>
     rw [h1] at h
     simp only at h ⊢
     cases h2:m i1 o1 with
     | none=>rw [h2] at h;simp at h
     | some r2=>
       rw [h2] at h
       rw [hm _ _ _ h2]
       cases r2 with
       | err a c=>exact h
       | ok x i2 o2=>exact Z4Z hm n _ _ _ _ _ h
theorem Z3x (l:List Tkn):∀ (f:Nat) (c:Call) (i o:Nat) (r:Out Nd),Zz l f c i o=some r→Zz l (f+1) c i o=some r
 | 0,c,i,o,r,h=>by simp [Zz] at h
 | f + 1, .expr k, i, o, r, h => by
   have ih:=Z3x l f
   rw [Zz] at h ⊢
   split at h
   · rename_i hsp
     rw [if_pos hsp]
     cases h1:JF l (cur l i).text i o with
     | err a c=>rw [h1] at h;exact h
     | ok u i1 o1=>
       rw [h1] at h
       simp only at h ⊢
       cases h2:Zz l f (.expr k) i1 o1 with
       | none=>rw [h2] at h;simp at h
       | some r2=>rw [h2] at h;rw [ih _ _ _ _ h2];exact h
   rename_i hsp
   rw [if_neg hsp]
   split at h
   rename_i h8;rw [if_pos h8];exact ih _ _ _ _ h
   · rename_i h8
     rw [if_neg h8]
     cases h2:Zz l f (.expr (k+1)) i o with
     | none=>rw [h2] at h;simp at h
     | some r2=>
       rw [h2] at h
       rw [ih _ _ _ _ h2]
       cases r2 with
       | err a c=>exact h
       | ok x i2 o2=>exact ih _ _ _ _ h
 | f + 1, .loop k y, i, o, r, h => by
   have ih:=Z3x l f
   rw [Zz] at h ⊢
   split at h
   · rename_i hk
     rw [if_pos hk]
     cases h2:Zz l f (.expr (k+1)) (i+1) o with
     | none=>rw [h2] at h;simp at h
     | some r2=>
       rw [h2] at h
       rw [ih _ _ _ _ h2]
       cases r2 with
       | err a c=>exact h
       | ok x i2 o2=>
         simp only at h ⊢
         split at h
         rename_i h5;rw [if_pos h5];exact ih _ _ _ _ h
         rename_i h5
         rw [if_neg h5]
         split at h
         rename_i h4;rw [if_pos h4];exact h
         rename_i h4;rw [if_neg h4];exact ih _ _ _ _ h
   rename_i hk;rw [if_neg hk];exact h
 | f + 1, .prim, i, o, r, h => by
   have ih:=Z3x l f
   have hE:∀ i o r,Zz l f (.expr 1) i o=some r→Zz l (f+1) (.expr 1) i o=some r:=fun i o r h=>ih _ _ _ _ h
   rw [Zz] at h ⊢
   split at h
   rename_i hc;rw [if_pos hc];exact h
   rename_i hc;rw [if_neg hc];clear hc
   split at h
   rename_i hc;rw [if_pos hc];exact h
   rename_i hc;rw [if_neg hc];clear hc
   split at h
   rename_i hc;rw [if_pos hc];exact h
   rename_i hc;rw [if_neg hc];clear hc
   split at h
   rename_i hc;rw [if_pos hc];exact h
   rename_i hc;rw [if_neg hc];clear hc
   split at h
   · rename_i hc
     rw [if_pos hc]
     cases h1:JF l [40] i o with
     | err a c=>rw [h1] at h;exact h
     | ok u i1 o1=>
       rw [h1] at h
       simp only at h ⊢
       cases h2:Zz l f (.expr 1) i1 o1 with
       | none=>rw [h2] at h;simp at h
       | some r2=>rw [h2] at h;rw [hE _ _ _ h2];exact h
   rename_i hc;rw [if_neg hc];clear hc
   split at h
   · rename_i hc
     rw [if_pos hc]
     cases h1:JF l [105,102] i o with
     | err a c=>rw [h1] at h;exact h
     | ok u i1 o1=>
       rw [h1] at h
       simp only at h ⊢
       cases h2:Zz l f (.expr 1) i1 o1 with
       | none=>rw [h2] at h;simp at h
       | some r2=>
         rw [h2] at h
         rw [hE _ _ _ h2]
         cases r2 with
         | err a c=>exact h
         | ok x i2 o2=>
           simp only at h ⊢
           cases h3:JM (Zz l f (.expr 1)) (Z5m l) 2 0 [x] i2 o2 with
           | none=>rw [h3] at h;simp at h
           | some r3=>rw [h3] at h;rw [Z4Z hE _ _ _ _ _ _ h3];exact h
   rename_i hc;rw [if_neg hc];clear hc
   split at h
   · rename_i hc
     rw [if_pos hc]
     cases h1:Z0H l 1 i o with
     | err a c=>rw [h1] at h;exact h
     | ok u i1 o1=>
       rw [h1] at h
       simp only at h ⊢
       cases h2:JF l [40] i1 o1 with
       | err a c=>rw [h2] at h;exact h
       | ok u2 i2 o2=>
         rw [h2] at h
         simp only at h ⊢
         cases h3:JM (Zz l f (.expr 1)) (Z18 l) (Z0I (cur l i).text) 0 [] i2 o2 with
         | none=>rw [h3] at h;simp at h
         | some r3=>rw [h3] at h;rw [Z4Z hE _ _ _ _ _ _ h3];exact h
   rename_i hc;rw [if_neg hc];clear hc
   split at h
   rename_i hc;rw [if_pos hc];exact h
   rename_i hc;rw [if_neg hc];exact h
theorem ZO (l:List Tkn) {f f':Nat} (h:f≤f') {c:Call} {i o:Nat} {r:Out Nd} (he:Zz l f c i o=some r):Zz l f' c i o=some r:=by
 induction h with
 | refl=>exact he
 | step _ ih=>exact Z3x l _ _ _ _ _ ih
def Ev (l:List Tkn) (c:Call) (i o:Nat) (r:Out Nd):Prop:=∃ f,Zz l f c i o=some r
theorem Ev.whole {l:List Tkn} {i o:Nat} {r:Out Nd} (h:Ev l (.expr 1) i o r):Z0u l i o=r:=by
 obtain ⟨f,h⟩:=h
 have h2:=Z5U l i o
 have h3:=ZO l (Yah f (Z7i l i)) h
 have h4:=ZO l (X6 f (Z7i l i)) h2
 rw [h3] at h4
 exact (XJ h4).symm
section
variable {l:List Tkn} {i o i' o' k:Nat} {x y:Nd} {r:Out Nd}
theorem Ev.lvl (hk:k≠8) (hns:¬ ((k=3∧(cur l i).text=[110,111,116])∨(k=7∧(cur l i).text=[45]))) (h1:Ev l (.expr (k+1)) i o (.ok x i' o')) (h2:Ev l (.loop k x) i' o' r):Ev l (.expr k) i o r:=by
 obtain ⟨f1,h1⟩:=h1
 obtain ⟨f2,h2⟩:=h2
 refine ⟨max f1 f2+1,?_⟩
 rw [Zz,if_neg hns,if_neg hk,ZO l (Yah f1 f2) h1]
 exact ZO l (X6 f1 f2) h2
theorem Ev.stop (h:Zm (cur l i).text≠k):Ev l (.loop k x) i o (.ok x i o):=⟨1,by rw [Zz,if_neg h]⟩
theorem Ev.bin (h:Zm (cur l i).text=k) (h1:Ev l (.expr (k+1)) (i+1) o (.ok y i' o')) (h4:k≠4) (hu:¬ (k=5∧(cur l i').text∈Z0v))
 (h2:Ev l (.loop k (.mk 6 0 (cur l i).text [x,y])) i' o' r):Ev l (.loop k x) i o r:=by
 obtain ⟨f1,h1⟩:=h1
 obtain ⟨f2,h2⟩:=h2
 refine ⟨max f1 f2+1,?_⟩
 rw [Zz,if_pos h,ZO l (Yah f1 f2) h1]
 simp only
 rw [if_neg hu,if_neg h4]
 exact ZO l (X6 f1 f2) h2
theorem Ev.cmp (h:Zm (cur l i).text=4) (h1:Ev l (.expr 5) (i+1) o (.ok y i' o')):Ev l (.loop 4 x) i o (.ok (.mk 6 0 (cur l i).text [x,y]) i' o'):=by
 obtain ⟨f1,h1⟩:=h1
 refine ⟨f1+1,?_⟩
 rw [Zz,if_pos h,h1]
 simp
theorem Ev.unit (h:Zm (cur l i).text=5) (h1:Ev l (.expr 6) (i+1) o (.ok y i' o')) (hu:(cur l i').text∈Z0v)
 (h2:Ev l (.loop 5 (.mk (if (cur l i).text=[45] then 8 else 7) 0 (cur l i').text [x,y])) (i'+1) o' r):Ev l (.loop 5 x) i o r:=by
 obtain ⟨f1,h1⟩:=h1
 obtain ⟨f2,h2⟩:=h2
 refine ⟨max f1 f2+1,?_⟩
 rw [Zz,if_pos h,ZO l (Yah f1 f2) h1]
 simp only
 rw [if_pos ⟨trivial,hu⟩]
 exact ZO l (X6 f1 f2) h2
theorem Ev.un (hsp:(k=3∧(cur l i).text=[110,111,116])∨(k=7∧(cur l i).text=[45])) (ho:o<12) (h1:Ev l (.expr k) (i+1) (o+1) (.ok x i' o')):Ev l (.expr k) i o (.ok (.mk 5 0 (cur l i).text [x]) i' (o' - 1)):=by
 obtain ⟨f1,h1⟩:=h1
 refine ⟨f1+1,?_⟩
 rw [Zz,if_pos hsp]
 unfold JF
 rw [if_pos rfl,if_neg (by omega)]
 simp only
 rw [h1]
theorem Ev.p8 (h:Ev l .prim i o r):Ev l (.expr 8) i o r:=by
 obtain ⟨f,h⟩:=h
 refine ⟨f+1,?_⟩
 rw [Zz,if_neg (by simp),if_pos rfl]
 exact h
theorem Ev.num (h:(cur l i).kind=2):Ev l .prim i o (.ok (.mk 1 (cur l i).num [] []) (i+1) o):=⟨1,by rw [Zz];(try simp only);rw [if_pos h]⟩
theorem Ev.day (h:(cur l i).kind=3):Ev l .prim i o (.ok (.mk 3 (cur l i).num [] []) (i+1) o):=⟨1,by rw [Zz];(try simp only);rw [if_neg (by omega),if_pos h]⟩
def Z50 (l:List Tkn) (i:Nat):Prop:=(cur l i).kind≠2∧(cur l i).kind≠3
theorem Ev.true (h0:Z50 l i) (h:(cur l i).text=[116,114,117,101]):Ev l .prim i o (.ok (.mk 2 1 [] []) (i+1) o):=⟨1,by rw [Zz];(try simp only);rw [if_neg h0.1,if_neg h0.2,if_pos h]⟩
theorem Ev.false (h0:Z50 l i) (h:(cur l i).text=[102,97,108,115,101]):Ev l .prim i o (.ok (.mk 2 0 [] []) (i+1) o):=⟨1,by rw [Zz];(try simp only);rw [if_neg h0.1,if_neg h0.2,if_neg (by rw [h];decide),if_pos h]⟩
theorem Ev.field (h0:Z50 l i) (h:(cur l i).text∈Z0U):Ev l .prim i o (.ok (.mk 4 0 (cur l i).text []) (i+1) o):=by
 have hne:∀ s:Str,s∉Z0U→(cur l i).text≠s:=fun s hs e=>hs (e ▸ h)
 have hf:(cur l i).text∉Z0S:=fun hf=>by
  have:∀ s∈Z0U,s∉Z0S:=by decide
  exact this _ h hf
 exact ⟨1,by rw [Zz];(try simp only);rw [if_neg h0.1,if_neg h0.2,if_neg (hne _ (by decide)),if_neg (hne _ (by decide)),if_neg (hne _ (by decide)),if_neg (hne _ (by decide)),if_neg hf,if_pos h]⟩
theorem Ev.par (h0:Z50 l i) (h:(cur l i).text=[40]) (ho:o<12) (h1:Ev l (.expr 1) (i+1) (o+1) (.ok x i' o')) (h2:(cur l i').text=[41]):Ev l .prim i o (.ok x (i'+1) (o' - 1)):=by
 obtain ⟨f,h1⟩:=h1
 refine ⟨f+1,?_⟩
 rw [Zz]
 try simp only
 rw [if_neg h0.1,if_neg h0.2,if_neg (by rw [h];decide),if_neg (by rw [h];decide),if_pos h]
 unfold JF
 rw [if_pos h,if_neg (by omega)]
 simp only
 rw [h1]
 simp only [Z04,Jy]
 rw [if_pos h2]
 rfl
theorem Ev.cond {x1 x2 x3:Nd} {i1 i2 i3 o1 o2 o3:Nat} (h0:Z50 l i) (h:(cur l i).text=[105,102]) (ho:o<12) (h1:Ev l (.expr 1) (i+1) (o+1) (.ok x1 i1 o1)) (ht:(cur l i1).text=[116,104,101,110])
 (h2:Ev l (.expr 1) (i1+1) o1 (.ok x2 i2 o2)) (hs:(cur l i2).text=[101,108,115,101]) (h3:Ev l (.expr 1) (i2+1) o2 (.ok x3 i3 o3)) (he:(cur l i3).text=[101,110,100]):Ev l .prim i o (.ok (.mk 9 0 [] [x1,x2,x3]) (i3+1) (o3 - 1)):=by
 obtain ⟨f1,h1⟩:=h1
 obtain ⟨f2,h2⟩:=h2
 obtain ⟨f3,h3⟩:=h3
 refine ⟨max f1 (max f2 f3)+1,?_⟩
 have g1:=ZO l (Yah f1 (max f2 f3)) h1
 have g2:=ZO l (Xh (Yah f2 f3) (X6 f1 (max f2 f3))) h2
 have g3:=ZO l (Xh (X6 f2 f3) (X6 f1 (max f2 f3))) h3
 rw [Zz]
 try simp only
 rw [if_neg h0.1,if_neg h0.2,if_neg (by rw [h];decide),if_neg (by rw [h];decide),if_neg (by rw [h];decide),if_pos h]
 unfold JF
 rw [if_pos h,if_neg (by omega)]
 simp only
 rw [g1]
 simp only [JM,Z5m,Jy]
 simp only [ht,if_true,g2]
 simp [hs,g3,Z04,Jy,he,Out.bind]
theorem Ev.call1 {x1:Nd} {i1 o1:Nat} (h0:(cur l i).kind=1) (h:(cur l i).text∈Z0S) (ha:Z0I (cur l i).text=1) (hp:(cur l (i+1)).text=[40]) (ho:o<12) (h1:Ev l (.expr 1) (i+2) (o+1) (.ok x1 i1 o1))
 (he:(cur l i1).text=[41]):Ev l .prim i o (.ok (.mk 10 0 (cur l i).text [x1]) (i1+1) (o1 - 1)):=by
 have hne:∀ s:Str,s∉Z0S→(cur l i).text≠s:=fun s hs e=>hs (e ▸ h)
 obtain ⟨f1,h1⟩:=h1
 refine ⟨f1+1,?_⟩
 rw [Zz]
 try simp only
 rw [if_neg (by omega),if_neg (by omega),if_neg (hne _ (by decide)),if_neg (hne _ (by decide)),if_neg (hne _ (by decide)),if_neg (hne _ (by decide)),if_pos h]
 unfold Z0H
 rw [if_pos h0]
 simp only
 unfold JF
 rw [if_pos hp,if_neg (by omega)]
 simp only [ha,JM,Z18,Nat.lt_irrefl,if_false]
 rw [h1]
 simp [Z04,Jy,he,Out.bind]
theorem Ev.call2 {x1 x2:Nd} {i1 o1 i2 o2:Nat} (h0:(cur l i).kind=1) (h:(cur l i).text∈Z0S) (ha:Z0I (cur l i).text=2) (hp:(cur l (i+1)).text=[40]) (ho:o<12) (h1:Ev l (.expr 1) (i+2) (o+1) (.ok x1 i1 o1))
 (hc:(cur l i1).text=[44]) (h2:Ev l (.expr 1) (i1+1) o1 (.ok x2 i2 o2)) (he:(cur l i2).text=[41]):Ev l .prim i o (.ok (.mk 10 0 (cur l i).text [x1,x2]) (i2+1) (o2 - 1)):=by
 have hne:∀ s:Str,s∉Z0S→(cur l i).text≠s:=fun s hs e=>hs (e ▸ h)
 obtain ⟨f1,h1⟩:=h1
 obtain ⟨f2,h2⟩:=h2
 refine ⟨max f1 f2+1,?_⟩
 have g1:=ZO l (Yah f1 f2) h1
 have g2:=ZO l (X6 f1 f2) h2
 rw [Zz]
 try simp only
 rw [if_neg (by omega),if_neg (by omega),if_neg (hne _ (by decide)),if_neg (hne _ (by decide)),if_neg (hne _ (by decide)),if_neg (hne _ (by decide)),if_pos h]
 unfold Z0H
 rw [if_pos h0]
 simp only
 unfold JF
 rw [if_pos hp,if_neg (by omega)]
 simp only [ha,JM,Z18,Nat.lt_irrefl,if_false]
 rw [g1]
 simp [Jy,hc,g2,Z04,he,Out.bind]
end
abbrev T3:=Int×Str×Int
def of3 (t:Tkn):T3:=(t.kind,t.text,t.num)
def At (l:List Tkn):Nat→List T3→Prop
 | _,[]=>True
 | i,t :: r=>of3 (cur l i)=t∧At l (i+1) r
theorem Z1r {l:List Tkn}:∀ {a b:List T3} {i:Nat},At l i (a++b)↔At l i a∧At l (i+a.length) b
 | [],b,i=>by simp [At]
 | t :: a, b, i => by
   simp only [Xp,At,Xc]
   rw [Z1r,and_assoc]
   rw [show i+1+a.length=i+(a.length+1) by omega]
theorem ZJ {l:List Tkn} {t:T3} {r:List T3} {i:Nat} (h:At l i (t :: r)):((cur l i).kind=t.1∧(cur l i).text=t.2.1∧(cur l i).num=t.2.2)∧At l (i+1) r:=by
 obtain ⟨h1,h2⟩:=h
 subst h1
 exact ⟨⟨rfl,rfl,rfl⟩,h2⟩
def lvl (x:Nd):Nat:=if x.kind=6 then Zm x.word else if x.kind=7∨x.kind=8 then 5 else if x.kind=5 then (if x.word=[110,111,116] then 3 else 7) else 8
def Z0w (k:Nat):Nat:=if k=4 then 5 else k
abbrev Z2B:=Int→Str
section
variable (ds:Z2B)
def JA (least:Nat) (p:Nat×Str):Str:=if p.1<least then 40 :: p.2++[41] else p.2
def JB (least:Nat) (p:Nat×List T3):List T3:=if p.1<least then (4,[40],0) :: p.2++[(4,[41],0)] else p.2
def Z1s (least:Nat) (p:Nat×Nat):Nat:=if p.1<least then p.2+1 else p.2
def Z9k (s:Str):Int:=if s=[111,114]∨s=[97,110,100] then 1 else 4
def Zp3 (k n:Int) (s:Str) (ks:List (Nat×List T3)):List T3:=
 if k=1 then [(2,Lib.itoa n,n)] else if k=2 then [(1,if n=1 then [116,114,117,101] else [102,97,108,115,101],0)] else if k=3 then [(3,64 :: ds n,n)] else if k=4 then [(1,s,0)]
 else if k=5 then (if s=[110,111,116] then (1,[110,111,116],0) :: JB 3 (ks.getD 0 (0,[])) else (4,[45],0) :: JB 7 (ks.getD 0 (0,[])))
 else if k=9 then (1,[105,102],0) :: ((ks.getD 0 (0,[])).2++(1,[116,104,101,110],0) :: ((ks.getD 1 (0,[])).2++(1,[101,108,115,101],0) :: ((ks.getD 2 (0,[])).2++[(1,[101,110,100],0)])))
 else if k=10 then (1,s,0) :: (4,[40],0) :: ((match ks with|[]=>[]|a :: r=>a.2++r.flatMap fun p=>(4,[44],0) :: p.2)++[(4,[41],0)])
 else if k=7 then JB 5 (ks.getD 0 (0,[]))++(4,[43],0) :: (JB 6 (ks.getD 1 (0,[]))++[(1,s,0)])
 else if k=8 then JB 5 (ks.getD 0 (0,[]))++(4,[45],0) :: (JB 6 (ks.getD 1 (0,[]))++[(1,s,0)])
 else JB (Z0w (Zm s)) (ks.getD 0 (0,[]))++(Z9k s,s,0) :: JB (Zm s+1) (ks.getD 1 (0,[]))
def ZA:Nd→List T3
 | .mk k n s l=>Zp3 ds k n s (l.map fun y=>(lvl y,ZA y))
def opK (k:Int) (s:Str) (ks:List (Nat×Nat)):Nat:=
 if k=5 then 1+(if s=[110,111,116] then Z1s 3 (ks.getD 0 (0,0)) else Z1s 7 (ks.getD 0 (0,0)))
 else if k=9∨k=10 then 1+(ks.map (·.2)).foldl max 0
 else if k=7∨k=8 then max (Z1s 5 (ks.getD 0 (0,0))) (Z1s 6 (ks.getD 1 (0,0)))
 else if k=6 then max (Z1s (Z0w (Zm s)) (ks.getD 0 (0,0))) (Z1s (Zm s+1) (ks.getD 1 (0,0)))
 else 0
def opN:Nd→Nat
 | .mk k n s l=>opK k s (l.map fun y=>(lvl y,opN y))
theorem Ji (k n:Int) (s:Str) (l:List Nd):ZA ds (.mk k n s l)=Zp3 ds k n s (l.map fun y=>(lvl y,ZA ds y)):=by rw [ZA]
theorem Z0K (k n:Int) (s:Str) (l:List Nd):opN (.mk k n s l)=opK k s (l.map fun y=>(lvl y,opN y)):=by rw [opN]
end
inductive Wf:Nd→Prop
 | num (n:Int) (h:0≤n∧n≤2147483647):Wf (.mk 1 n [] [])
 | bool (n:Int) (h:n=0∨n=1):Wf (.mk 2 n [] [])
 | day (n:Int) (h:0≤n∧n≤3652058):Wf (.mk 3 n [] [])
 | field (s:Str) (h:s∈Z0U):Wf (.mk 4 0 s [])
 | neg (a:Nd) (ha:Wf a):Wf (.mk 5 0 [45] [a])
 | not (a:Nd) (ha:Wf a):Wf (.mk 5 0 [110,111,116] [a])
 | bin (s:Str) (a b:Nd) (hs:1≤Zm s) (ha:Wf a) (hb:Wf b):Wf (.mk 6 0 s [a,b])
 | after (s:Str) (a b:Nd) (hs:s∈Z0v) (ha:Wf a) (hb:Wf b):Wf (.mk 7 0 s [a,b])
 | before (s:Str) (a b:Nd) (hs:s∈Z0v) (ha:Wf a) (hb:Wf b):Wf (.mk 8 0 s [a,b])
 | cond (a b c:Nd) (ha:Wf a) (hb:Wf b) (hc:Wf c):Wf (.mk 9 0 [] [a,b,c])
 | call1 (s:Str) (a:Nd) (hs:s∈Z0S) (h1:Z0I s=1) (ha:Wf a):Wf (.mk 10 0 s [a])
 | call2 (s:Str) (a b:Nd) (hs:s∈Z0S) (h2:Z0I s=2) (ha:Wf a) (hb:Wf b):Wf (.mk 10 0 s [a,b])
theorem Ev.det {l:List Tkn} {c:Call} {i o:Nat} {r r':Out Nd} (h:Ev l c i o r) (h':Ev l c i o r'):r=r':=by
 obtain ⟨f,h⟩:=h
 obtain ⟨f',h'⟩:=h'
 have g:=ZO l (Yah f f') h
 have g':=ZO l (X6 f f') h'
 rw [g] at g'
 exact XJ g'
theorem Z4s (s:Str):Zm s≤6∧Zm s≠3:=by
 unfold Zm
 repeat' split
 all_goals omega
theorem Z41:∀ s∈Z0v,Zm s=0:=by decide
theorem Zc2 {s:Str} (h:1≤Zm s):s∉Z0v∧s≠[110,111,116]:=by
 refine ⟨fun hs=>by have:=Z41 s hs;omega,fun hs=>by rw [hs] at h;revert h;decide⟩
section climb
variable {l:List Tkn} {i j o k m:Nat} {x:Nd} {r:Out Nd}
abbrev CC (l:List Tkn) (x:Nd) (i j o k:Nat):Prop:=∀ r,Ev l (.loop k x) j o r→Ev l (.expr k) i o r
theorem CC.ok (h:CC l x i j o k) (hn:Zm (cur l j).text≠k):Ev l (.expr k) i o (.ok x j o):=h _ (Ev.stop hn)
theorem CC.of_ok (h:Ev l (.expr k) i o (.ok x j o)) (hn:Zm (cur l j).text≠k):CC l x i j o k:=fun r hr=>by
 rw [Ev.det hr (Ev.stop hn)]
 exact h
theorem CC.climb:∀ (d k:Nat),k+d=m→m≤7→Zm (cur l j).text≤k→(m≤3∨(cur l i).text≠[110,111,116])→CC l x i j o m→CC l x i j o k
 | 0, k, hk, hm, hn, hs, h => by
   have:k=m:=by omega
   subst this
   exact h
 | d + 1, k, hk, hm, hn, hs, h => by
   have h1:=CC.climb d (k+1) (by omega) hm (by omega) hs h
   intro r hr
   refine Ev.lvl (by omega) ?_ (h1.ok (by omega)) hr
   rintro (⟨h3,ht⟩|⟨h7,_⟩)
   rcases hs with hs|hs
   omega
   exact hs ht
   omega
theorem CC.prim (h:Ev l .prim i o (.ok x j o)) (h1:(cur l i).text≠[110,111,116]) (h2:(cur l i).text≠[45]) (hk:k≤7) (hn:Zm (cur l j).text≤k):CC l x i j o k:=by
 refine CC.climb (m:=7) (7 - k) k (by omega) (by omega) hn (.inr h1) ?_
 intro r hr
 refine Ev.lvl (by omega) ?_ h.p8 hr
 rintro (⟨_,ht⟩|⟨_,ht⟩)
 exact h1 ht
 exact h2 ht
end climb
structure PT (ds:Z2B) (l:List Tkn) (x:Nd) (i:Nat):Prop where
 nn:4≤lvl x→(cur l i).text≠[110,111,116]
 cc:∀ k o,1≤k→k≤7→k≤lvl x→o+opN x≤12→Zm (cur l (i+(ZA ds x).length)).text≤k→((cur l (i+(ZA ds x).length)).text∈Z0v→6≤lvl x)→
  (lvl x=4→Zm (cur l (i+(ZA ds x).length)).text≠4)→CC l x i (i+(ZA ds x).length) o k
structure PO (ds:Z2B) (l:List Tkn) (x:Nd) (least i:Nat):Prop where
 nn:4≤least→(cur l i).text≠[110,111,116]
 cc:∀ k o,1≤k→k≤7→k≤least→o+Z1s least (lvl x,opN x)≤12→Zm (cur l (i+(JB least (lvl x,ZA ds x)).length)).text≤k→((cur l (i+(JB least (lvl x,ZA ds x)).length)).text∈Z0v→6≤least)→
  (least≤4→Zm (cur l (i+(JB least (lvl x,ZA ds x)).length)).text≠4)→CC l x i (i+(JB least (lvl x,ZA ds x)).length) o k
theorem Z2H {x:Nd} (h:Wf x):1≤lvl x:=by
 cases h with
 | bin s a b hs ha hb=>exact hs
 | not a ha=>show 1≤(if [110,111,116]=[110,111,116] then 3 else 7);decide
 | neg a ha=>show 1≤(if [45]=[110,111,116] then 3 else 7);decide
 | num=>show 1≤8;decide
 | bool=>show 1≤8;decide
 | day=>show 1≤8;decide
 | field=>show 1≤8;decide
 | after=>show 1≤5;decide
 | before=>show 1≤5;decide
 | cond=>show 1≤8;decide
 | call1=>show 1≤8;decide
 | call2=>show 1≤8;decide
theorem PO.of {ds:Z2B} {l:List Tkn} {x:Nd} (hw:Wf x) (ih:∀ i,At l i (ZA ds x)→PT ds l x i) {least i:Nat} (hl:least≤8) (h:At l i (JB least (lvl x,ZA ds x))):PO ds l x least i:=by
 have hx:=Z2H hw
 by_cases hp:lvl x<least
 unfold JB at h
 simp only [hp,if_true] at h
 rw [Xp] at h
 obtain ⟨⟨a1,a2,a3⟩,h⟩:=ZJ h
 rw [Z1r] at h
 obtain ⟨h,h'⟩:=h
 obtain ⟨⟨b1,b2,b3⟩,-⟩:=ZJ h'
 simp only at a1 a2 a3 b1 b2 b3
 have hlen:(JB least (lvl x,ZA ds x)).length=(ZA ds x).length+2:=by
  unfold JB
  simp only [hp,if_true]
  simp
 have e1:i+(JB least (lvl x,ZA ds x)).length=i+1+(ZA ds x).length+1:=by rw [hlen];omega
 refine ⟨fun _=>by rw [a2];decide,fun k o hk1 hk7 hkl ho hn hu h4=>?_⟩
 have hd:Z1s least (lvl x,opN x)=opN x+1:=by unfold Z1s;simp only [hp,if_true]
 rw [hd] at ho
 rw [e1] at hn ⊢
 have hin:=((ih (i+1) h).cc 1 (o+1) (by omega) (by omega) hx (by omega) (by rw [b2];decide) (by rw [b2];intro hu;exact absurd hu (by decide)) (by rw [b2];intro _;decide)).ok (by rw [b2];decide)
 have hpr:=Ev.par (l:=l) (i:=i) (o:=o) ⟨by rw [a1];decide,by rw [a1];decide⟩ a2 (by omega) hin b2
 exact CC.prim hpr (by rw [a2];decide) (by rw [a2];decide) hk7 hn
 have e1:JB least (lvl x,ZA ds x)=ZA ds x:=by unfold JB;simp only [hp,if_false]
 have e2:Z1s least (lvl x,opN x)=opN x:=by unfold Z1s;simp only [hp,if_false]
 rw [e1] at h
 have hi:=ih i h
 refine ⟨fun h4=>hi.nn (by omega),fun k o hk1 hk7 hkl ho hn hu h4=>?_⟩
 rw [e1] at hn hu h4 ⊢
 rw [e2] at ho
 exact hi.cc k o hk1 hk7 (by omega) ho hn (fun h=>by have:=hu h;omega) (fun h=>h4 (by omega))
theorem Z2P (u:Nat):∀ c∈Lib.decDigits u,48≤c.toNat∧c.toNat≤57:=by
 induction u using Nat.strongRecOn with
 | _ u ih=>
   have h1:∀ k,k<10→48≤(UInt8.ofNat (48+k)).toNat∧(UInt8.ofNat (48+k)).toNat≤57:=by decide
   by_cases h:u<10
   rw [Lib.decDigits,dif_pos h]
   intro c hc
   simp only [Xq] at hc
   subst hc
   exact h1 u h
   rw [Lib.decDigits,dif_neg h]
   intro c hc
   rcases Xt.1 hc with hc|hc
   exact ih _ (by omega) c hc
   simp only [Xq] at hc
   subst hc
   exact h1 _ (by omega)
theorem ZfS {n:Int} (h:0≤n):∀ c∈Lib.itoa n,48≤c.toNat∧c.toNat≤57:=by
 unfold Lib.itoa
 rw [if_neg (by omega)]
 exact Z2P _
theorem Zi4 {n:Int} (h:0≤n):Lib.itoa n≠[110,111,116]∧Lib.itoa n≠[45]:=by
 have:=ZfS h
 refine ⟨fun e=>?_,fun e=>?_⟩
 rw [e] at this;revert this;decide
 rw [e] at this;revert this;decide
section
variable {ds:Z2B} {l:List Tkn} {x:Nd} {i:Nat}
theorem PT.prim (h1:(cur l i).text≠[110,111,116]) (h2:(cur l i).text≠[45]) (h:∀ o,o+opN x≤12→Ev l .prim i o (.ok x (i+(ZA ds x).length) o)):PT ds l x i:=
 ⟨fun _=>h1,fun k o _ hk7 _ ho hn _ _=>CC.prim (h o ho) h1 h2 hk7 hn⟩
end
theorem ZfT:∀ s∈Z0U,s≠[110,111,116]∧s≠[45]:=by decide
theorem ZcT:∀ s∈Z0S,s≠[110,111,116]∧s≠[45]:=by decide
theorem ZmC (ds:Z2B) {x:Nd} (hx:Wf x):∀ (l:List Tkn) (i:Nat),At l i (ZA ds x)→PT ds l x i:=by
 induction hx with
 | num n h=>
   intro l i hA
   have e:ZA ds (.mk 1 n [] [])=[(2,Lib.itoa n,n)]:=by rw [Ji];rfl
   have hn:=Zi4 h.1
   rw [e] at hA
   obtain ⟨⟨t1,t2,t3⟩,-⟩:=ZJ hA
   simp only at t1 t2 t3
   refine PT.prim (by rw [t2];exact hn.1) (by rw [t2];exact hn.2) (fun o _=>?_)
   have:=Ev.num (o:=o) t1
   rw [t3] at this
   rw [e]
   exact this
 | bool n h=>
   intro l i hA
   have e:ZA ds (.mk 2 n [] [])=[(1,if n=1 then [116,114,117,101] else [102,97,108,115,101],0)]:=by rw [Ji];rfl
   rw [e] at hA
   obtain ⟨⟨t1,t2,t3⟩,-⟩:=ZJ hA
   simp only at t1 t2 t3
   have hp:Z50 l i:=⟨by rw [t1];decide,by rw [t1];decide⟩
   rcases h with rfl|rfl
   rw [if_neg (by decide)] at t2
   refine PT.prim (by rw [t2];decide) (by rw [t2];decide) (fun o _=>?_)
   rw [e]
   exact Ev.false hp t2
   rw [if_pos rfl] at t2
   refine PT.prim (by rw [t2];decide) (by rw [t2];decide) (fun o _=>?_)
   rw [e]
   exact Ev.true hp t2
 | day n h=>
   intro l i hA
   have e:ZA ds (.mk 3 n [] [])=[(3,64 :: ds n,n)]:=by rw [Ji];rfl
   rw [e] at hA
   obtain ⟨⟨t1,t2,t3⟩,-⟩:=ZJ hA
   simp only at t1 t2 t3
   refine PT.prim (by rw [t2];intro h;injection h with h _;revert h;decide) (by rw [t2];intro h;injection h with h _;revert h;decide) (fun o _=>?_)
   have:=Ev.day (o:=o) t1
   rw [t3] at this
   rw [e]
   exact this
 | field s h=>
   intro l i hA
   have e:ZA ds (.mk 4 0 s [])=[(1,s,0)]:=by rw [Ji];rfl
   rw [e] at hA
   obtain ⟨⟨t1,t2,t3⟩,-⟩:=ZJ hA
   simp only at t1 t2 t3
   have hp:Z50 l i:=⟨by rw [t1];decide,by rw [t1];decide⟩
   have hn:=ZfT s h
   refine PT.prim (by rw [t2];exact hn.1) (by rw [t2];exact hn.2) (fun o _=>?_)
   have:=Ev.field (o:=o) hp (by rw [t2];exact h)
   rw [t2] at this
   rw [e]
   exact this
 | neg a ha iha=>
   intro l i hA
   have e:ZA ds (.mk 5 0 [45] [a])=(4,[45],0) :: JB 7 (lvl a,ZA ds a):=by rw [Ji];rfl
   have eo:opN (.mk 5 0 [45] [a])=1+Z1s 7 (lvl a,opN a):=by rw [Z0K];rfl
   rw [e] at hA
   obtain ⟨⟨t1,t2,t3⟩,hA⟩:=ZJ hA
   simp only at t1 t2 t3
   have pa:=PO.of ha (iha l) (by decide) hA
   have ej:i+(ZA ds (.mk 5 0 [45] [a])).length=i+1+(JB 7 (lvl a,ZA ds a)).length:=by rw [e,Xc];omega
   have el:lvl (.mk 5 0 [45] [a])=7:=rfl
   refine ⟨fun _=>by rw [t2];decide,?_⟩
   rw [ej,el,eo]
   intro k o hk1 hk7 hkl ho hn hu h4
   have hle:=Z4s (cur l (i+1+(JB 7 (lvl a,ZA ds a)).length)).text
   have hin:=(pa.cc 7 (o+1) (by omega) (by omega) (by omega) (by omega) (by omega) (by omega) (by omega)).ok (by omega)
   have h7:=Ev.un (.inr ⟨rfl,t2⟩) (by omega) hin
   rw [t2] at h7
   exact CC.climb (m:=7) (7 - k) k (by omega) (by omega) hn (.inr (by rw [t2];decide)) (CC.of_ok h7 (by omega))
 | not a ha iha=>
   intro l i hA
   have e:ZA ds (.mk 5 0 [110,111,116] [a])=(1,[110,111,116],0) :: JB 3 (lvl a,ZA ds a):=by rw [Ji];rfl
   have eo:opN (.mk 5 0 [110,111,116] [a])=1+Z1s 3 (lvl a,opN a):=by rw [Z0K];rfl
   rw [e] at hA
   obtain ⟨⟨t1,t2,t3⟩,hA⟩:=ZJ hA
   simp only at t1 t2 t3
   have pa:=PO.of ha (iha l) (by decide) hA
   have ej:i+(ZA ds (.mk 5 0 [110,111,116] [a])).length=i+1+(JB 3 (lvl a,ZA ds a)).length:=by rw [e,Xc];omega
   have el:lvl (.mk 5 0 [110,111,116] [a])=3:=rfl
   refine ⟨fun h=>by rw [el] at h;omega,?_⟩
   rw [ej,el,eo]
   intro k o hk1 hk7 hkl ho hn hu h4
   have hle:=Z4s (cur l (i+1+(JB 3 (lvl a,ZA ds a)).length)).text
   have hin:=(pa.cc 3 (o+1) (by omega) (by omega) (by omega) (by omega) (by omega) (fun h=>by have:=hu h;omega) (by omega)).ok (by omega)
   have h7:=Ev.un (.inl ⟨rfl,t2⟩) (by omega) hin
   rw [t2] at h7
   exact CC.climb (m:=3) (3 - k) k (by omega) (by omega) hn (.inl (by omega)) (CC.of_ok h7 (by omega))
 | bin s a b hs ha hb iha ihb=>
   intro l i hA
   have e:ZA ds (.mk 6 0 s [a,b])=JB (Z0w (Zm s)) (lvl a,ZA ds a)++(Z9k s,s,0) :: JB (Zm s+1) (lvl b,ZA ds b):=by rw [Ji];rfl
   have eo:opN (.mk 6 0 s [a,b])=max (Z1s (Z0w (Zm s)) (lvl a,opN a)) (Z1s (Zm s+1) (lvl b,opN b)):=by rw [Z0K];rfl
   have el:lvl (.mk 6 0 s [a,b])=Zm s:=rfl
   have hL:=Z4s s
   have hP:=Zc2 hs
   have hlf:Z0w (Zm s)=if Zm s=4 then 5 else Zm s:=rfl
   rw [e,Z1r] at hA
   obtain ⟨hA1,hA⟩:=hA
   obtain ⟨⟨t1,t2,t3⟩,hA2⟩:=ZJ hA
   simp only at t1 t2 t3
   have pa:=PO.of ha (iha l) (by rw [hlf];split<;>omega) hA1
   have pb:=PO.of hb (ihb l) (by omega) hA2
   have ej:i+(ZA ds (.mk 6 0 s [a,b])).length=i+(JB (Z0w (Zm s)) (lvl a,ZA ds a)).length+1+(JB (Zm s+1) (lvl b,ZA ds b)).length:=by rw [e];simp;omega
   have hnn:4≤Zm s→(cur l i).text≠[110,111,116]:=fun h=>pa.nn (by rw [hlf];split<;>omega)
   refine ⟨fun h=>hnn h,?_⟩
   rw [ej,el,eo]
   clear e ej eo hA
   intro k o hk1 hk7 hkl ho hn hu h4
   have pac:=pa.cc
   have pbc:=pb.cc
   generalize i+(JB (Z0w (Zm s)) (lvl a,ZA ds a)).length=ja at *
   generalize ja+1+(JB (Zm s+1) (lvl b,ZA ds b)).length=j at *
   by_cases h44:Zm s=4
   rw [hlf,if_pos h44] at pac ho
   have hEa:=(pac 5 o (by omega) (by omega) (by omega) (by omega) (by rw [t2];omega) (fun h=>absurd (t2 ▸ h) hP.1) (by omega)).ok (by rw [t2];omega)
   have hEb:=(pbc 5 o (by omega) (by omega) (by omega) (by omega) (by omega) (fun h=>by have:=hu h;omega) (by omega)).ok (by omega)
   have hc:=Ev.cmp (x:=a) (by rw [t2];exact h44) hEb
   rw [t2] at hc
   have h4':=Ev.lvl (k:=4) (by omega) (by omega) hEa hc
   exact CC.climb (m:=4) (4 - k) k (by omega) (by omega) hn (.inr (hnn (by omega))) (CC.of_ok h4' (h4 h44))
   rw [hlf,if_neg h44] at pac ho
   have hEb:=(pbc (Zm s+1) o (by omega) (by omega) (by omega) (by omega) (by omega) (fun h=>by have:=hu h;omega) (by omega)).ok (by omega)
   refine CC.climb (m:=Zm s) (Zm s - k) k (by omega) (by omega) hn (by rcases Yaj (Zm s) 4 with h|h;exact .inl (by omega);exact .inr (hnn h)) ?_
   intro r hr
   refine pac (Zm s) o hs (by omega) (by omega) (by omega) (by rw [t2];omega) (fun h=>absurd (t2 ▸ h) hP.1) (fun _=>by rw [t2];omega) r ?_
   refine Ev.bin (by rw [t2]) hEb h44 (fun ⟨h5,h⟩=>by have:=hu h;omega) ?_
   rw [t2]
   exact hr
 | after s a b hs ha hb iha ihb=>
   intro l i hA
   have e:ZA ds (.mk 7 0 s [a,b])=JB 5 (lvl a,ZA ds a)++(4,[43],0) :: (JB 6 (lvl b,ZA ds b)++[(1,s,0)]):=by rw [Ji];rfl
   have eo:opN (.mk 7 0 s [a,b])=max (Z1s 5 (lvl a,opN a)) (Z1s 6 (lvl b,opN b)):=by rw [Z0K];rfl
   have el:lvl (.mk 7 0 s [a,b])=5:=rfl
   have hP:=Z41 s hs
   rw [e,Z1r] at hA
   obtain ⟨hA1,hA⟩:=hA
   obtain ⟨⟨t1,t2,t3⟩,hA2⟩:=ZJ hA
   rw [Z1r] at hA2
   obtain ⟨hA2,hA3⟩:=hA2
   obtain ⟨⟨u1,u2,u3⟩,-⟩:=ZJ hA3
   simp only at t1 t2 t3 u1 u2 u3
   have pa:=PO.of ha (iha l) (by omega) hA1
   have pb:=PO.of hb (ihb l) (by omega) hA2
   have ej:i+(ZA ds (.mk 7 0 s [a,b])).length=i+(JB 5 (lvl a,ZA ds a)).length+1+(JB 6 (lvl b,ZA ds b)).length+1:=by rw [e];simp;omega
   have hnn:(cur l i).text≠[110,111,116]:=pa.nn (by omega)
   refine ⟨fun h=>hnn,?_⟩
   rw [ej,el,eo]
   clear e ej eo hA
   intro k o hk1 hk7 hkl ho hn hu h4
   have pac:=pa.cc
   have pbc:=pb.cc
   generalize i+(JB 5 (lvl a,ZA ds a)).length=ja at *
   generalize ja+1+(JB 6 (lvl b,ZA ds b)).length=jb at *
   have hEb:=(pbc 6 o (by omega) (by omega) (by omega) (by omega) (by rw [u2];omega) (fun h=>by omega) (by omega)).ok (by rw [u2];omega)
   have lv5:Zm (cur l ja).text=5:=by rw [t2];decide
   refine CC.climb (m:=5) (5 - k) k (by omega) (by omega) hn (.inr hnn) ?_
   intro r hr
   refine pac 5 o (by omega) (by omega) (by omega) (by omega) (by omega) (fun h=>by rw [t2] at h;exact absurd h (by decide)) (fun _=>by omega) r ?_
   refine Ev.unit lv5 hEb (by rw [u2];exact hs) ?_
   rw [t2,u2,if_neg (by decide)]
   exact hr
 | before s a b hs ha hb iha ihb=>
   intro l i hA
   have e:ZA ds (.mk 8 0 s [a,b])=JB 5 (lvl a,ZA ds a)++(4,[45],0) :: (JB 6 (lvl b,ZA ds b)++[(1,s,0)]):=by rw [Ji];rfl
   have eo:opN (.mk 8 0 s [a,b])=max (Z1s 5 (lvl a,opN a)) (Z1s 6 (lvl b,opN b)):=by rw [Z0K];rfl
   have el:lvl (.mk 8 0 s [a,b])=5:=rfl
   have hP:=Z41 s hs
   rw [e,Z1r] at hA
   obtain ⟨hA1,hA⟩:=hA
   obtain ⟨⟨t1,t2,t3⟩,hA2⟩:=ZJ hA
   rw [Z1r] at hA2
   obtain ⟨hA2,hA3⟩:=hA2
   obtain ⟨⟨u1,u2,u3⟩,-⟩:=ZJ hA3
   simp only at t1 t2 t3 u1 u2 u3
   have pa:=PO.of ha (iha l) (by omega) hA1
   have pb:=PO.of hb (ihb l) (by omega) hA2
   have ej:i+(ZA ds (.mk 8 0 s [a,b])).length=i+(JB 5 (lvl a,ZA ds a)).length+1+(JB 6 (lvl b,ZA ds b)).length+1:=by rw [e];simp;omega
   have hnn:(cur l i).text≠[110,111,116]:=pa.nn (by omega)
   refine ⟨fun h=>hnn,?_⟩
   rw [ej,el,eo]
   clear e ej eo hA
   intro k o hk1 hk7 hkl ho hn hu h4
   have pac:=pa.cc
   have pbc:=pb.cc
   generalize i+(JB 5 (lvl a,ZA ds a)).length=ja at *
   generalize ja+1+(JB 6 (lvl b,ZA ds b)).length=jb at *
   have hEb:=(pbc 6 o (by omega) (by omega) (by omega) (by omega) (by rw [u2];omega) (fun h=>by omega) (by omega)).ok (by rw [u2];omega)
   have lv5:Zm (cur l ja).text=5:=by rw [t2];decide
   refine CC.climb (m:=5) (5 - k) k (by omega) (by omega) hn (.inr hnn) ?_
   intro r hr
   refine pac 5 o (by omega) (by omega) (by omega) (by omega) (by omega) (fun h=>by rw [t2] at h;exact absurd h (by decide)) (fun _=>by omega) r ?_
   refine Ev.unit lv5 hEb (by rw [u2];exact hs) ?_
   rw [t2,u2,if_pos rfl]
   exact hr
 | cond a b c ha hb hc iha ihb ihc=>
   intro l i hA
   have e:ZA ds (.mk 9 0 [] [a,b,c])=(1,[105,102],0) :: (ZA ds a++(1,[116,104,101,110],0) :: (ZA ds b++(1,[101,108,115,101],0) :: (ZA ds c++[(1,[101,110,100],0)]))):=by rw [Ji];rfl
   have eo:opN (.mk 9 0 [] [a,b,c])=1+max (max (max 0 (opN a)) (opN b)) (opN c):=by rw [Z0K];rfl
   have ej:i+(ZA ds (.mk 9 0 [] [a,b,c])).length=i+1+(ZA ds a).length+1+(ZA ds b).length+1+(ZA ds c).length+1:=by rw [e];simp;omega
   rw [e] at hA
   obtain ⟨⟨t1,t2,t3⟩,hA⟩:=ZJ hA
   rw [Z1r] at hA
   obtain ⟨hA1,hA⟩:=hA
   obtain ⟨⟨u1,u2,u3⟩,hA⟩:=ZJ hA
   rw [Z1r] at hA
   obtain ⟨hA2,hA⟩:=hA
   obtain ⟨⟨v1,v2,v3⟩,hA⟩:=ZJ hA
   rw [Z1r] at hA
   obtain ⟨hA3,hA⟩:=hA
   obtain ⟨⟨x1,x2,x3⟩,-⟩:=ZJ hA
   simp only at t1 t2 t3 u1 u2 u3 v1 v2 v3 x1 x2 x3
   refine PT.prim (by rw [t2];decide) (by rw [t2];decide) (fun o ho=>?_)
   rw [eo] at ho
   rw [ej]
   have p1:=((iha l _ hA1).cc 1 (o+1) (by omega) (by omega) (Z2H ha) (by omega) (by rw [u2];decide) (by rw [u2];intro h;exact absurd h (by decide)) (by rw [u2];intro _;decide)).ok (by rw [u2];decide)
   have p2:=((ihb l _ hA2).cc 1 (o+1) (by omega) (by omega) (Z2H hb) (by omega) (by rw [v2];decide) (by rw [v2];intro h;exact absurd h (by decide)) (by rw [v2];intro _;decide)).ok (by rw [v2];decide)
   have p3:=((ihc l _ hA3).cc 1 (o+1) (by omega) (by omega) (Z2H hc) (by omega) (by rw [x2];decide) (by rw [x2];intro h;exact absurd h (by decide)) (by rw [x2];intro _;decide)).ok (by rw [x2];decide)
   exact Ev.cond ⟨by rw [t1];decide,by rw [t1];decide⟩ t2 (by omega) p1 u2 p2 v2 p3 x2
 | call1 s a hs h1 ha iha=>
   intro l i hA
   have e:ZA ds (.mk 10 0 s [a])=(1,s,0) :: (4,[40],0) :: ((ZA ds a++[])++[(4,[41],0)]):=by rw [Ji];rfl
   have eo:opN (.mk 10 0 s [a])=1+max 0 (opN a):=by rw [Z0K];rfl
   have ej:i+(ZA ds (.mk 10 0 s [a])).length=i+2+(ZA ds a).length+1:=by rw [e];simp;omega
   rw [Xz] at e
   rw [e] at hA
   obtain ⟨⟨t1,t2,t3⟩,hA⟩:=ZJ hA
   obtain ⟨⟨u1,u2,u3⟩,hA⟩:=ZJ hA
   rw [Z1r] at hA
   obtain ⟨hA1,hA⟩:=hA
   obtain ⟨⟨x1,x2,x3⟩,-⟩:=ZJ hA
   simp only at t1 t2 t3 u1 u2 u3 x1 x2 x3
   have hn:=ZcT s hs
   refine PT.prim (by rw [t2];exact hn.1) (by rw [t2];exact hn.2) (fun o ho=>?_)
   rw [eo] at ho
   rw [ej]
   have p1:=((iha l _ hA1).cc 1 (o+1) (by omega) (by omega) (Z2H ha) (by omega) (by rw [x2];decide) (by rw [x2];intro h;exact absurd h (by decide)) (by rw [x2];intro _;decide)).ok (by rw [x2];decide)
   have:=Ev.call1 t1 (by rw [t2];exact hs) (by rw [t2];exact h1) u2 (by omega) p1 x2
   rw [t2] at this
   exact this
 | call2 s a b hs h2 ha hb iha ihb=>
   intro l i hA
   have e:ZA ds (.mk 10 0 s [a,b])=(1,s,0) :: (4,[40],0) :: ((ZA ds a++((4,[44],0) :: ZA ds b++[]))++[(4,[41],0)]):=by rw [Ji];rfl
   have eo:opN (.mk 10 0 s [a,b])=1+max (max 0 (opN a)) (opN b):=by rw [Z0K];rfl
   have ej:i+(ZA ds (.mk 10 0 s [a,b])).length=i+2+(ZA ds a).length+1+(ZA ds b).length+1:=by rw [e];simp;omega
   rw [Xz,Xr,Xp] at e
   rw [e] at hA
   obtain ⟨⟨t1,t2,t3⟩,hA⟩:=ZJ hA
   obtain ⟨⟨u1,u2,u3⟩,hA⟩:=ZJ hA
   rw [Z1r] at hA
   obtain ⟨hA1,hA⟩:=hA
   obtain ⟨⟨v1,v2,v3⟩,hA⟩:=ZJ hA
   rw [Z1r] at hA
   obtain ⟨hA2,hA⟩:=hA
   obtain ⟨⟨x1,x2,x3⟩,-⟩:=ZJ hA
   simp only at t1 t2 t3 u1 u2 u3 v1 v2 v3 x1 x2 x3
   have hn:=ZcT s hs
   refine PT.prim (by rw [t2];exact hn.1) (by rw [t2];exact hn.2) (fun o ho=>?_)
   rw [eo] at ho
   rw [ej]
   have p1:=((iha l _ hA1).cc 1 (o+1) (by omega) (by omega) (Z2H ha) (by omega) (by rw [v2];decide) (by rw [v2];intro h;exact absurd h (by decide)) (by rw [v2];intro _;decide)).ok (by rw [v2];decide)
   have p2:=((ihb l _ hA2).cc 1 (o+1) (by omega) (by omega) (Z2H hb) (by omega) (by rw [x2];decide) (by rw [x2];intro h;exact absurd h (by decide)) (by rw [x2];intro _;decide)).ok (by rw [x2];decide)
   have:=Ev.call2 t1 (by rw [t2];exact hs) (by rw [t2];exact h2) u2 (by omega) p1 v2 p2 x2
   rw [t2] at this
   exact this
theorem Zc3 (ds:Z2B) {x:Nd} (hx:Wf x) {l:List Tkn} {i o:Nat} (hA:At l i (ZA ds x)) (ho:o+opN x≤12) (hn:Zm (cur l (i+(ZA ds x).length)).text=0) (hu:(cur l (i+(ZA ds x).length)).text∉Z0v) :
 Z0u l i o=.ok x (i+(ZA ds x).length) o:=
 Ev.whole (((ZmC ds hx l i hA).cc 1 o (by omega) (by omega) (Z2H hx) ho (by omega) (fun h=>absurd h hu) (fun _=>by omega)).ok (by omega))
abbrev bts (s:Str):ByteArray:=⟨s.toArray⟩
def Itr (w:World) (b:Nat) (s:Str) (p:Nat):Prop:=w.heap[b]?=some (.stringIter (bts s) p)
theorem Itr.lt {w:World} {b p:Nat} {s:Str} (h:Itr w b s p):b<w.heap.size:=(Xl.1 h).1
def dec (s:Str) (p:Nat):Nat×Nat:=Utf8.decode (bts s) p
theorem Z5n (s:Str):(bts s).size=s.length:=by simp [ByteArray.size]
theorem Z4t {s:Str} {p:Nat} (h:p<s.length) (ha:(s[p]).toNat<128):dec s p=((s[p]).toNat,1):=by
 have h1:p<(bts s).size:=by rw [Z5n];exact h
 have e:(bts s)[p]'h1=s[p]:=by simp [bts,ByteArray.getElem_eq_getElem_data]
 have:=decode_ascii (bts s) p h1 (by rw [e];exact ha)
 rw [e] at this
 exact this
theorem Zar {s:Str} {p:Nat} (h:p<s.length) (ha:128≤(s[p]).toNat):128≤(dec s p).1∧1≤(dec s p).2:=by
 have h1:p<(bts s).size:=by rw [Z5n];exact h
 have e:(bts s)[p]'h1=s[p]:=by simp [bts,ByteArray.getElem_eq_getElem_data]
 exact decode_high (bts s) p h1 (by rw [e];exact ha)
theorem Zi5 {s:Str} {p:Nat} (h:p<s.length):1≤(dec s p).2:=by
 by_cases ha:(s[p]).toNat<128
 rw [Z4t h ha];exact Xo _
 exact (Zar h (by omega)).2
section
variable {P:Program} {n:Nat} {e:Env} {w:World} {d:Option Nat} {ty:TypeId} {pos:String} {af:Array Edge} {g:Option (Nat×Bool)}
theorem Zas {x:Operand} {t:TypeId} {s:Str} [hu:Und P t .string] (hx:ev e x=some (str s)):OE P n ⟨d,.range t x,ty,pos,af,g⟩ e w (fun v w'=>∃ b,v=.pointer (some ⟨b,0,none⟩)∧w.heap.size≤b∧Itr w' b s 0∧Stp [] w w'):=
 Z0q (v:=.pointer (some ⟨w.heap.size,0,none⟩)) (w':=w.iter (bts s) 0) (fun a ha=>by
  have:=run_range_string (P:=P) w t (bts s) hu.h
  simp [execOp,ha.ev hx,this]) ⟨w.heap.size,rfl,Xo _,World.iter_heap _ _ _,Stp.alloc _ _ _⟩
theorem ZcU {x:Operand} {s:Str} {b p:Nat} (hx:ev e x=some (.pointer (some ⟨b,0,none⟩))) (hI:Itr w b s p) (hp:p<s.length) :
 OE P n ⟨d,.next x true,ty,pos,af,g⟩ e w (fun v w'=>v=.tuple #[.bool true,.int .i64 p,.int .i32 ((dec s p).1:Int)]∧Itr w' b s (p+(dec s p).2)∧Stp [b] w w'):=by
 have hlt:=hI.lt
 have hp':p<(bts s).size:=by rw [Z5n];exact hp
 unfold Itr at hI
 refine Z0q (v:=.tuple #[.bool true,.int .i64 p,.int .i32 ((dec s p).1:Int)]) (w':={ w with heap:=w.heap.setIfInBounds b (.stringIter (bts s) (p+(dec s p).2)) }) (fun a ha=>?_) ⟨rfl,?_,⟨rfl,rfl,rfl,by simp,fun k hk hn=>?_⟩⟩
 · simp [execOp,ha.ev hx,Instr.next,getObj,setObj,Sem.run,hI,hp',goInt,dec]
 show (w.heap.setIfInBounds b _)[b]?=_
 simp [hlt]
 show (w.heap.setIfInBounds b _)[k]?=_
 exact Yas (by simpa using fun h=>hn (by simp [h]))
theorem Z7l {x:Operand} {s:Str} {b p:Nat} (hx:ev e x=some (.pointer (some ⟨b,0,none⟩))) (hI:Itr w b s p) (hp:¬ p<s.length) :
 OE P n ⟨d,.next x true,ty,pos,af,g⟩ e w (fun v w'=>v=.tuple #[.bool false]∧w'=w):=by
 have hp':¬ p<(bts s).size:=by rw [Z5n];exact hp
 unfold Itr at hI
 refine Z0q (v:=.tuple #[.bool false]) (w':=w) (fun a ha=>?_) ⟨rfl,rfl⟩
 simp [execOp,ha.ev hx,Instr.next,getObj,Sem.run,hI,hp']
theorem Z7m {x:Operand} {t:TypeId} {i:Nat} {u v:Value} (hx:ev e x=some u) (hb:∀ w,(Instr.field t u i).run P w=.ok v w):PR P n ⟨d,.field t x i,ty,pos,af,g⟩ e w v:=
 ⟨fun a ha=>by simp [execOp,ha.ev hx,hb]⟩
end
def Z3y (c:UInt8):Bool:=decide (97≤c.toNat) && decide (c.toNat≤122)
def ZV (c:UInt8):Bool:=decide (48≤c.toNat) && decide (c.toNat≤57)
def ldB (c:UInt8):Bool:=Z3y c || ZV c
def Z0z (s:Str):Nat:=s.foldl (fun n c=>10 * n+(c.toNat - 48)) 0
def Z0L (y:Int):Bool:=decide (y % 4=0) && (decide (¬ y % 100=0) || decide (y % 400=0))
def ZM (y m:Int):Int:=
 if m<1∨12<m then 0 else if m=2 then (if Z0L y then 29 else 28) else if m=4∨m=6∨m=9∨m=11 then 30 else 31
def Z0h (y m d:Int):Int:=
 let (y,m):=if m - 3<0 then (y - 1,m+9) else (y,m - 3)
 365 * y+y / 4 - y / 100+y / 400+(153 * m+2) / 5+d - 307
def Z1w (s:Str):Int×Int:=
 if s.length=10∧s.getD 4 0=45∧s.getD 7 0=45∧((s.take 4).all ZV∧((s.drop 5).take 2).all ZV∧(s.drop 8).all ZV) then
  let y:Int:=Z0z (s.take 4)
  let m:Int:=Z0z ((s.drop 5).take 2)
  let d:Int:=Z0z (s.drop 8)
  if y<1∨9999<y∨m<1∨12<m∨d<1∨ZM y m<d then (0,5) else (Z0h y m d,0)
 else (0,7)
inductive Lx where
 | err (c:Int)
 | ok (t:Tkn)
def Z4I (s:Str):Lx:=let n:=(s.takeWhile ldB).length;if 12<n then .err 2 else .ok ⟨1,0,s.take n,0⟩
def Z3z (s:Str):Lx:=
 let t:=s.takeWhile ZV
 if 1<t.length∧t.getD 0 0=48 then .err 20 else if 2147483647<Z0z t then .err 5 else .ok ⟨2,0,t,Z0z t⟩
def Jk:Str:=[64,100,100,100,100,45,100,100,45,100,100]
def Z4E (c x:UInt8):Bool:=if c=100 then ZV x else decide (x=c)
def Z8a (s:Str):Lx:=
 if s.length<11 then .err 20 else if ((Jk.zip s).all fun p=>Z4E p.1 p.2) then
  (let d:=Z1w ((s.take 11).drop 1);if d.2=0 then .ok ⟨3,0,s.take 11,d.1⟩ else .err 5)
 else .err 20
def Z7n:Str:=[123,125,40,41,59,44,43,45,42,60,61,62]
def JT (s:Str):Lx:=
 if s.take 2=[60,61]∨s.take 2=[33,61]∨s.take 2=[62,61] then .ok ⟨4,0,s.take 2,0⟩
 else if s.getD 0 0∈Z7n then .ok ⟨4,0,s.take 1,0⟩ else .err 20
def JP (s:Str):Lx:=
 let c:=s.getD 0 0
 if Z3y c then Z4I s else if ZV c then Z3z s else if c=64 then Z8a s else JT s
def Z1D (c:UInt8):Bool:=c=9 || c=10 || c=13 || c=32
inductive Tks where
 | err (a c:Int)
 | ok (l:List Tkn)
def JU (nl:Str→Nat) (s:Str):Nat→Nat→List Tkn→Tks
 | 0,at_,l=>.ok (l++[⟨0,at_,[],0⟩])
 | f + 1, at_, l=>
   if at_<s.length then
    let rest:=s.drop at_
    let c:=rest.getD 0 0
    if Z1D c then JU nl s f (at_+1) l
    else if c=35 then JU nl s f (at_+nl rest) l
    else match JP rest with
     | .err e=>.err at_ e
     | .ok t=>JU nl s f (at_+t.text.length) (l++[{ t with pos:=at_ }])
   else .ok (l++[⟨0,at_,[],0⟩])
structure ZfU (t:Tkn):Prop where
 kind:t.kind≠0
 kinds:1≤t.kind∧t.kind≤4
 text:t.text≠[]
 sp:∀ c∈t.text,c≠32
 word:t.kind=1→t.text.length≤12∧(∀ c∈t.text,ldB c=true)∧Z3y (t.text.getD 0 0)=true
 num:t.kind=2→0≤t.num∧t.num≤2147483647
 day:t.kind=3→0≤t.num∧t.num≤3652058
theorem Z0Y {p:UInt8→Bool}:∀ {l:Str} {c:UInt8},c∈l.takeWhile p→p c=true
 | [],c,h=>by simp at h
 | a :: r, c, h => by
   simp only [YaG] at h
   split at h
   rename_i ha
   rcases Xf.1 h with rfl|h
   exact ha
   exact Z0Y h
   simp at h
theorem Z0a {p:UInt8→Bool}:∀ (l:Str),l.take (l.takeWhile p).length=l.takeWhile p
 | []=>by simp
 | a :: r => by
   simp only [YaG]
   split
   simp [Z0a r]
   simp
theorem Zp4 {c:UInt8} (h:ldB c=true):c≠32:=by rintro rfl;revert h;decide
theorem ZfV {c:UInt8} (h:ZV c=true):c≠32:=by rintro rfl;revert h;decide
theorem ZmD {c x:UInt8} (h:Z4E c x=true) (hc:c≠32):x≠32:=by
 unfold Z4E at h
 split at h
 exact ZfV h
 simp at h;rw [h];exact hc
theorem ZcV {p:UInt8→UInt8→Bool}:∀ {a s:Str},a.length≤s.length→((a.zip s).all fun q=>p q.1 q.2)=true→∀ x∈s.take a.length,∃ c∈a,p c x=true
 | [],s,hl,h,x,hx=>by simp at hx
 | c :: a,[],hl,h,x,hx=>by simp at hl
 | c :: a, y :: s, hl, h, x, hx => by
   simp only [List.zip_cons_cons,Yaz,Xi] at h
   simp only [Xc,Yai,Xf] at hx
   rcases hx with rfl|hx
   exact ⟨c,by simp,h.1⟩
   obtain ⟨d,hd,h'⟩:=ZcV (by simpa using hl) h.2 x hx
   exact ⟨d,by simp [hd],h'⟩
theorem Z19 (y m:Int):ZM y m≤31:=by
 unfold ZM
 repeat' split
 all_goals omega
theorem dayM_range {y m d:Int} (hy:1≤y) (hy2:y≤9999) (hm:1≤m) (hm2:m≤12) (hd:1≤d) (hd2:d≤ZM y m):0≤Z0h y m d∧Z0h y m d≤3652058:=by
 have h31:=Z19 y m
 have hm':m=1∨m=2∨m=3∨m=4∨m=5∨m=6∨m=7∨m=8∨m=9∨m=10∨m=11∨m=12:=by omega
 unfold Z0h
 rcases hm' with rfl|rfl|rfl|rfl|rfl|rfl|rfl|rfl|rfl|rfl|rfl|rfl<;>simp<;>omega
theorem Zat (s:Str):0≤(Z1w s).1∧(Z1w s).1≤3652058:=by
 unfold Z1w
 split
 simp only
 split
 simp
 rename_i h
 simp only [not_or,Int.not_lt] at h
 exact dayM_range h.1 h.2.1 h.2.2.1 h.2.2.2.1 h.2.2.2.2.1 h.2.2.2.2.2
 simp
theorem Z39 {s:Str} {t:Tkn} (hs:s≠[]) (hsp:s.getD 0 0≠32) (h:JP s=.ok t):ZfU t∧t.text.length≤s.length∧t.text=s.take t.text.length:=by
 obtain ⟨a,r,rfl⟩:∃ a r,s=a :: r:=by cases s with|nil=>exact absurd rfl hs|cons a r=>exact ⟨a,r,rfl⟩
 simp only [Xm] at hsp
 unfold JP at h
 simp only [Xm] at h
 split at h
 rename_i hl
 unfold Z4I at h
 simp only at h
 split at h
 simp at h
 rename_i hn
 simp only [Lx.ok.injEq] at h
 subst h
 have hld:ldB a=true:=by simp [ldB,hl]
 have hne:(a :: r).takeWhile ldB=a :: r.takeWhile ldB:=by simp [hld]
 have ht:=Z0a (p:=ldB) (a :: r)
 refine ⟨⟨by simp,by simp,?_,?_,fun _=>⟨?_,?_,?_⟩,by simp,by simp⟩,by simp;omega,by simp⟩
 simp only;rw [ht,hne];simp
 simp only;rw [ht];exact fun c hc=>Zp4 (Z0Y hc)
 simp only;rw [ht];omega
 simp only;rw [ht];exact fun c hc=>Z0Y hc
 simp only;rw [ht,hne];simpa using hl
 split at h
 rename_i hl
 unfold Z3z at h
 simp only at h
 split at h
 simp at h
 split at h
 simp at h
 rename_i hn
 simp only [Lx.ok.injEq] at h
 subst h
 have hne:(a :: r).takeWhile ZV=a :: r.takeWhile ZV:=by simp [hl]
 have ht:=Z0a (p:=ZV) (a :: r)
 have hlen:=congrArg List.length ht
 simp only [XR] at hlen
 refine ⟨⟨by simp,by simp,?_,?_,by simp,fun _=>⟨?_,?_⟩,by simp⟩,?_,?_⟩
 simp only;rw [hne];simp
 exact fun c hc=>ZfV (Z0Y hc)
 simp only;omega
 simp only;omega
 simp only;omega
 exact ht.symm
 split at h
 rename_i h64
 unfold Z8a at h
 split at h
 simp at h
 rename_i h11
 split at h
 rename_i hf
 simp only at h
 split at h
 simp only [Lx.ok.injEq] at h
 subst h
 have hd:=Zat (((a :: r).take 11).drop 1)
 refine ⟨⟨by simp,by simp,by simp,?_,by simp,by simp,fun _=>hd⟩,by simp;omega,by simp⟩
 intro c hc
 obtain ⟨x,hx,h'⟩:=ZcV (a:=Jk) (s:=a :: r) (by simp only [Jk,Xc,Xe] at h11 ⊢;omega) hf c hc
 exact ZmD h' (by revert hx;simp only [Jk];intro hx h0;subst h0;simp at hx)
 simp at h
 simp at h
 unfold JT at h
 split at h
 rename_i h2
 simp only [Lx.ok.injEq] at h
 subst h
 refine ⟨⟨by simp,by simp,by simp,?_,by simp,by simp,by simp⟩,by simp;omega,by simp⟩
 simp only
 intro c hc
 rcases h2 with h2|h2|h2<;>rw [h2] at hc<;>(rintro rfl;simp at hc)
 split at h
 simp only [Lx.ok.injEq] at h
 subst h
 refine ⟨⟨by simp,by simp,by simp,?_,by simp,by simp,by simp⟩,by simp,by simp⟩
 simp only [Yai,Ybh,Xq]
 rintro c rfl
 exact hsp
 simp at h
theorem Z3A {nl:Str→Nat} {s:Str} (hsl:s.length≤4000):∀ (f at_:Nat) (l l':List Tkn),(∀ t∈l,ZfU t)→(∀ t∈l,t.text.length≤4000)→l.length≤at_→l.length≤s.length→JU nl s f at_ l=.ok l'→
 ∃ l1 p,l'=l1++[⟨0,p,[],0⟩]∧(∀ t∈l1,ZfU t)∧(∀ t∈l1,t.text.length≤4000)∧l1.length≤s.length
 | 0, at_, l, l', h1, h2, h3, h4, h => by
   simp only [JU,Tks.ok.injEq] at h
   exact ⟨l,_,h.symm,h1,h2,h4⟩
 | f + 1, at_, l, l', h1, h2, h3, h4, h => by
   simp only [JU] at h
   split at h
   rename_i hlt
   split at h
   exact Z3A hsl f _ _ _ h1 h2 (by omega) h4 h
   split at h
   exact Z3A hsl f _ _ _ h1 h2 (by omega) h4 h
   · rename_i hnsp _
     cases hr:JP (s.drop at_) with
     | err e=>rw [hr] at h;simp at h
     | ok t=>
       rw [hr] at h
       simp only at h
       obtain ⟨g1,g2,g3⟩:=Z39 (s:=s.drop at_) (by simp;omega) (by rintro h32;rw [h32] at hnsp;exact hnsp (by decide)) hr
       have hpos:1≤t.text.length:=by
        have:=g1.text
        cases ht:t.text with
        | nil=>exact absurd ht this
        | cons a r=>simp
       have hlen:t.text.length≤s.length - at_:=by simpa using g2
       refine Z3A hsl f _ _ _ ?_ ?_ ?_ ?_ h
       intro u hu
       rcases Xt.1 hu with hu|hu
       exact h1 u hu
       simp only [Xq] at hu
       subst hu
       exact ⟨g1.kind,g1.kinds,g1.text,g1.sp,g1.word,g1.num,g1.day⟩
       intro u hu
       rcases Xt.1 hu with hu|hu
       exact h2 u hu
       simp only [Xq] at hu
       subst hu
       simp only
       omega
       simp;omega
       simp;omega
   simp only [Tks.ok.injEq] at h
   exact ⟨l,_,h.symm,h1,h2,h4⟩
theorem Zi6 {l1:List Tkn} {p:Int} (h1:∀ t∈l1,ZfU t) (h2:∀ t∈l1,t.text.length≤4000) (h3:l1.length≤4000):Z2A (l1++([⟨0,p,[],0⟩]:List Tkn)):=by
 have hc:∀ i,cur (l1++([⟨0,p,[],0⟩]:List Tkn)) i=⟨0,p,[],0⟩∨cur (l1++([⟨0,p,[],0⟩]:List Tkn)) i=default∨cur (l1++([⟨0,p,[],0⟩]:List Tkn)) i∈l1:=by
  intro i
  unfold cur
  rw [Xx,List.getElem?_append]
  split
  rename_i h
  right;right
  simp [h]
  · cases hk:i - l1.length with
    | zero=>left;simp
    | succ j=>right;left;simp
 refine ⟨by simp,?_,?_,by simp;omega,?_,?_⟩
 have:cur (l1++([⟨0,p,[],0⟩]:List Tkn)) ((l1++([⟨0,p,[],0⟩]:List Tkn)).length - 1)=⟨0,p,[],0⟩:=by
  unfold cur
  simp
 rw [this]
 exact ⟨rfl,rfl⟩
 intro i hi
 have hi2:i<l1.length:=by simpa using hi
 have:cur (l1++([⟨0,p,[],0⟩]:List Tkn)) i=l1[i]:=by
  unfold cur
  rw [Xx,X9 hi2]
  simp [hi2]
 rw [this]
 have:=h1 _ (Xg hi2)
 exact ⟨this.kind,this.text⟩
 intro i c hcm
 rcases hc i with h|h|h
 rw [h] at hcm;simp at hcm
 rw [h] at hcm;simp [default] at hcm
 exact (h1 _ h).sp c hcm
 intro i
 rcases hc i with h|h|h
 rw [h];simp
 rw [h];simp [default]
 exact h2 _ h
def Z00 (s:Str) (p:Nat→Bool):Nat→Nat→Nat
 | 0,_=>s.length
 | f+1,i=>if i<s.length then (if p (dec s i).1 then Z00 s p f (i+(dec s i).2) else i) else s.length
theorem Z8x (s:Str) (p:Nat→Bool):∀ (f i:Nat),Z00 s p f i≤s.length
 | 0,i=>Xo _
 | f + 1, i => by
   unfold Z00
   split
   split
   exact Z8x s p f _
   omega
   exact Xo _
theorem Z8y (s:Str) (p:Nat→Bool):∀ (f i:Nat),i≤s.length→i≤Z00 s p f i
 | 0,i,h=>h
 | f + 1, i, h => by
   unfold Z00
   split
   split
   by_cases hw:i+(dec s i).2≤s.length
   exact Xh (Nat.le_add_right _ _) (Z8y s p f _ hw)
   · have:∀ f j,s.length<j→Z00 s p f j=s.length:=fun f j hj=>by
      cases f with
      | zero=>rfl
      | succ f=>unfold Z00;rw [if_neg (by omega)]
     rw [this _ _ (by omega)]
     omega
   exact Xo _
   exact h
theorem Z3B (p:Nat→Bool) (q:UInt8→Bool) (hq:∀ c:UInt8,c.toNat<128→p c.toNat=q c) (hp:∀ n,128≤n→p n=false) (hq2:∀ c:UInt8,128≤c.toNat→q c=false) (s:Str) :
 ∀ (f i:Nat),i≤s.length→s.length≤i+f→Z00 s p f i=i+((s.drop i).takeWhile q).length
 | 0, i, h1, h2 => by
   have:i=s.length:=by omega
   subst this
   simp [Z00]
 | f + 1, i, h1, h2 => by
   unfold Z00
   by_cases hlt:i<s.length
   rw [if_pos hlt]
   have hd:s.drop i=s[i] :: s.drop (i+1):=Yaa hlt
   rw [hd,YaG]
   by_cases ha:(s[i]).toNat<128
   rw [Z4t hlt ha]
   simp only [hq _ ha]
   split
   rw [Z3B p q hq hp hq2 s f (i+1) (by omega) (by omega),Xc];omega
   simp
   have h3:=(Zar hlt (by omega)).1
   rw [hp _ h3,hq2 _ (by omega)]
   simp
   rw [if_neg hlt]
   rw [YaK (by omega)]
   simp;omega
def Z9l (n:Nat):Bool:=decide (97≤n) && decide (n≤122)
def Z5V (n:Nat):Bool:=decide (48≤n) && decide (n≤57)
def Z7o (n:Nat):Bool:=decide (¬ n=10)
def nlM (s:Str):Nat:=Z00 s Z7o s.length 0
def Z14 (s:Str):Tks:=if 4000<s.length then .err 4000 2 else JU nlM s (s.length+1) 0 []
theorem ZdR (s:Str):Z00 s Z5V s.length 0=(s.takeWhile ZV).length:=by
 rw [Z3B Z5V ZV (fun c h=>rfl) (fun n h=>by unfold Z5V;simp;omega) (fun c h=>by unfold ZV;simp;omega) s s.length 0 (by omega) (by omega)]
 simp
theorem ZfW (s:Str):Z00 s (fun n=>Z9l n || Z5V n) s.length 0=(s.takeWhile ldB).length:=by
 rw [Z3B (fun n=>Z9l n || Z5V n) ldB (fun c h=>rfl) (fun n h=>by unfold Z9l Z5V;simp;omega) (fun c h=>by unfold ldB Z3y ZV;simp;omega) s s.length 0 (by omega) (by omega)]
 simp
end Go.Eng
namespace Go.Proofs.YtjdjdoefppebkaaGreatDoor
open Go Go.Eng Go.RowKit Go.Proofs
theorem Z7p (c:Nat) (w:World):CC 207 #[.int .i32 (c:Int)] w fun r w'=>r=.bool (Z9l c)∧w'=w:=by
 unfold Z9l
 refine cW1 9 Tryz.func207 ?_
 repeat'(first|refine W1 ?_|omega|refine VG ?_ ?_<;>intro hg|refine VC ?_ ?_<;>intro hc)
 all_goals refine WR ?_
 all_goals refine .mk ⟨?_,rfl⟩
 all_goals congr 1
 all_goals (first|done|(rw [X0];simp;omega)|(simp [*]))
theorem Z4u (c:Nat) (w:World):CC 209 #[.int .i32 (c:Int)] w fun r w'=>r=.bool (Z5V c)∧w'=w:=by
 unfold Z5V
 refine cW1 9 Tryz.func209 ?_
 repeat'(first|refine W1 ?_|omega|refine VG ?_ ?_<;>intro hg|refine VC ?_ ?_<;>intro hc)
 all_goals refine WR ?_
 all_goals refine .mk ⟨?_,rfl⟩
 all_goals congr 1
 all_goals (first|done|(rw [X0];simp;omega)|(simp [*]))
theorem ZmE (c:Nat) (w:World):CC 206 #[.int .i32 (c:Int)] w fun r w'=>r=.bool (Z7o c)∧w'=w:=by
 unfold Z7o
 refine cW1 5 Tryz.func206 ?_
 repeat'(first|refine W1 ?_|omega|refine VG ?_ ?_<;>intro hg|refine VC ?_ ?_<;>intro hc)
 all_goals refine WR ?_
 all_goals refine .mk ⟨?_,rfl⟩
 all_goals congr 1
 all_goals (first|done|(rw [X0];simp;omega)|(simp [*]))
theorem ZmF (c:Nat) (w:World):CC 270 #[.int .i32 (c:Int)] w fun r w'=>r=.bool (Z9l c || Z5V c)∧w'=w:=by
 refine cW1 9 Tryz.func270 ?_
 refine W ?_
 refine CL rfl (Zp rfl) rfl (Z7p c _) ?_
 rintro _ _ ⟨rfl,rfl⟩
 cases Z9l c
 refine W ?_
 refine CL rfl (Zp rfl) rfl (Z4u c _) ?_
 rintro _ _ ⟨rfl,rfl⟩
 refine W ?_
 refine WR ?_
 exact .mk ⟨rfl,rfl⟩
 refine W ?_
 refine WR ?_
 exact .mk ⟨rfl,rfl⟩
theorem Z5W {g:Nat} {fn:Func} [hf:Fun Tryz.prog g fn] (p:Nat→Bool) (hg:∀ (c:Nat) (w:World),CC g #[.int .i32 (c:Int)] w fun r w'=>r=.bool (p c)∧w'=w) (s:Str) (w:World) (hl:s.length≤1000000) :
 CC 205 #[str s,.func (.func g) #[] #[]] w fun r w'=>r=.int .i64 (Z00 s p s.length 0:Int)∧Stp [] w w':=by
 refine cW2 20 Tryz.func205 ?_
 refine W ?_
 refine Z3 (Zas rfl) rfl ?_
 rintro _ w1 ⟨b,rfl,hb,hI,hS⟩
 refine W ?_
 refine ZD (σ:=Nat×Nat) (fun q=>[(0,str s),(1,.func (.func g) #[] #[]),(8,.pointer (some ⟨b,0,none⟩))]) (fun q w'=>Itr w' b s q.2∧Stp [] w w'∧Z00 s p q.1 q.2=Z00 s p s.length 0∧s.length≤q.2+q.1) (fun q=>q.1+1 - (if q.2<s.length then 0 else 1)) (s.length,0) ⟨rfl,rfl,rfl,trivial⟩ ⟨hI,hS,rfl,by omega⟩ ?_
 rintro ⟨f,i⟩ w2 ⟨hI,hS,he,hfl⟩
 dsimp only at hI hS he hfl ⊢
 generalize Z00 s p s.length 0=R at he ⊢
 by_cases hlt:i<s.length
 obtain ⟨f,rfl⟩:∃ f',f=f'+1:=⟨f - 1,by omega⟩
 have hd:=Zi5 hlt
 unfold Z00 at he
 rw [if_pos hlt] at he
 refine W ?_
 refine Z3 (ZcU rfl hI hlt) rfl ?_
 rintro _ w3 ⟨rfl,hI3,hT⟩
 replace hS:=hS.own hT (fun c hc=>.inr (by simp at hc;omega))
 refine W ?_
 refine CL rfl (Zp rfl) rfl (hg _ _) ?_
 rintro _ _ ⟨rfl,rfl⟩
 cases hpc:p (dec s i).1
 rw [hpc] at he
 refine W ?_
 refine WR ?_
 simp only [XG,if_false] at he
 exact .mk ⟨by rw [← he];rfl,hS⟩
 · rw [hpc] at he
   refine W ?_
   refine Zr (f,i+(dec s i).2) ⟨rfl,rfl,rfl,trivial⟩ ⟨hI3,hS,he,by dsimp only;omega⟩ ?_
   dsimp only
   repeat' split
   all_goals omega
 · refine W ?_
   refine Z3 (Z7l rfl hI hlt) rfl ?_
   rintro _ _ ⟨rfl,rfl⟩
   refine W ?_
   refine WR ?_
   refine .mk ⟨?_,hS⟩
   rw [← he]
   cases f with
   | zero=>rfl
   | succ f=>unfold Z00;rw [if_neg hlt]
end Go.Proofs.YtjdjdoefppebkaaGreatDoor
namespace Go.Eng
open Go Go.RowKit Go.Proofs
inductive Zn:Str→List T3→Prop
 | nil:Zn [] []
 | sp {c:UInt8} {r:Str} {ts:List T3} (hc:Z1D c=true) (h:Zn r ts):Zn (c :: r) ts
 | tok {s:Str} {t:Tkn} {ts:List T3} (hs:s≠[]) (h1:Z1D (s.getD 0 0)=false) (h2:s.getD 0 0≠35) (hr:JP s=.ok t) (h:Zn (s.drop t.text.length) ts):Zn s (of3 t :: ts)
theorem Zau (nl:Str→Nat) (s:Str) {u:Str} {ts:List T3} (h:Zn u ts):∀ (f at_:Nat) (l:List Tkn),s.drop at_=u→s.length - at_<f→
 ∃ (l1:List Tkn) (p:Int),JU nl s f at_ l=.ok (l++l1++[⟨0,p,[],0⟩])∧l1.map of3=ts:=by
 induction h with
 | nil=>
   intro f at_ l hu hf
   have hn:¬ at_<s.length:=by
    intro hlt
    have:=congrArg List.length hu
    simp at this
    omega
   cases f with
   | zero=>omega
   | succ f=>
     refine ⟨[],(at_:Int),?_,rfl⟩
     simp only [JU,if_neg hn,Xz]
 | @sp c r ts hc h ih=>
   intro f at_ l hu hf
   have hlt:at_<s.length:=by
    have:=congrArg List.length hu
    simp at this
    omega
   cases f with
   | zero=>omega
   | succ f=>
     have hd:s.drop (at_+1)=r:=by rw [← List.drop_drop,hu];rfl
     obtain ⟨l1,p,g1,g2⟩:=ih f (at_+1) l hd (by omega)
     refine ⟨l1,p,?_,g2⟩
     simp only [JU]
     rw [if_pos hlt,hu]
     simp only [Xm]
     rw [if_pos hc]
     exact g1
 | @tok u t ts hs h1 h2 hr h ih=>
   intro f at_ l hu hf
   have hlt:at_<s.length:=by
    have:=congrArg List.length hu
    have h0:0<u.length:=XX.2 hs
    simp at this
    omega
   have hok:=Z39 hs (by rintro h32;rw [h32] at h1;exact absurd h1 (by decide)) hr
   have hpos:0<t.text.length:=XX.2 hok.1.text
   cases f with
   | zero=>omega
   | succ f=>
     have hd:s.drop (at_+t.text.length)=u.drop t.text.length:=by rw [← List.drop_drop,hu]
     obtain ⟨l1,p,g1,g2⟩:=ih f (at_+t.text.length) (l++[{ t with pos:=at_ }]) hd (by omega)
     refine ⟨{ t with pos:=(at_:Int) } :: l1,p,?_,by simp [g2,of3]⟩
     simp only [JU]
     rw [if_pos hlt,hu,if_neg (by rw [h1];decide),if_neg h2,hr]
     simp only
     rw [g1]
     simp
theorem ZdS {l1:List Tkn}:∀ (l0 l2:List Tkn),At (l0++l1++l2) l0.length (l1.map of3):=by
 induction l1 with
 | nil=>intro l0 l2;trivial
 | cons t r ih=>
   intro l0 l2
   refine ⟨?_,?_⟩
   have:cur (l0++t :: r++l2) l0.length=t:=by unfold cur;simp
   rw [this]
   have:=ih (l0++[t]) l2
   simp only [Xr,List.singleton_append,Xb,Xc,Xe] at this ⊢
   exact this
theorem Zav {s:Str} {ts:List T3} (hl:s.length≤4000) (h:Zn s ts):∃ (l1:List Tkn) (p:Int),Z14 s=.ok (l1++[⟨0,p,[],0⟩])∧l1.map of3=ts∧At (l1++[⟨0,p,[],0⟩]) 0 ts:=by
 obtain ⟨l1,p,g1,g2⟩:=Zau nlM s h (s.length+1) 0 [] (by simp) (by omega)
 refine ⟨l1,p,?_,g2,?_⟩
 unfold Z14
 rw [if_neg (by omega),g1]
 simp
 have:=ZdS (l1:=l1) [] [⟨0,p,[],0⟩]
 rw [g2] at this
 exact this
def Z5o (r:Str):Prop:=r=[]∨(ldB (r.getD 0 0)=false∧r.getD 0 0≠61)
theorem Z2Q {p:UInt8→Bool}:∀ {w r:Str},(∀ c∈w,p c=true)→(r=[]∨p (r.getD 0 0)=false)→(w++r).takeWhile p=w
 | [], r, h, hr => by
   rcases hr with rfl|hr
   rfl
   · cases r with
     | nil=>rfl
     | cons a r=>
       simp only [Xm] at hr
       simp [hr]
 | a :: w, r, h, hr => by
   simp only [Xp,YaG]
   rw [if_pos (h a (by simp)),Z2Q (fun c hc=>h c (by simp [hc])) hr]
theorem ZdT {c:UInt8} (h:Z3y c=true):ldB c=true:=by simp [ldB,h]
theorem ZdU {c:UInt8} (h:ZV c=true):ldB c=true:=by simp [ldB,h]
theorem Zaw {c:UInt8} (h:ZV c=true):Z3y c=false:=by
 unfold ZV at h
 unfold Z3y
 simp at h ⊢
 omega
theorem Zax {c:UInt8} (h:ldB c=true):Z1D c=false∧c≠35∧c≠64:=by
 refine ⟨?_,?_,?_⟩
 · cases hs:Z1D c with
   | false=>rfl
   | true=>
     unfold Z1D at hs
     simp only [Yao,decide_eq_true_eq] at hs
     rcases hs with ((rfl|rfl)|rfl)|rfl<;>(revert h;decide)
 rintro rfl;revert h;decide
 rintro rfl;revert h;decide
theorem Z5o.ld {r:Str} (h:Z5o r):r=[]∨ldB (r.getD 0 0)=false:=h.imp id (·.1)
theorem Z5o.dig {r:Str} (h:Z5o r):r=[]∨ZV (r.getD 0 0)=false:=h.imp id (fun h=>by
 have:=h.1
 unfold ldB at this
 simp only [Bool.or_eq_false_iff] at this
 exact this.2)
structure Z7q (w:Str):Prop where
 ne:w≠[]
 len:w.length≤12
 first:Z3y (w.getD 0 0)=true
 all:∀ c∈w,ldB c=true
section
variable {r:Str} {ts:List T3}
theorem Zn.word {w:Str} (hw:Z7q w) (hr:Z5o r) (h:Zn r ts):Zn (w++r) ((1,w,0) :: ts):=by
 obtain ⟨a,q,rfl⟩:∃ a q,w=a :: q:=by cases w with|nil=>exact absurd rfl hw.ne|cons a q=>exact ⟨a,q,rfl⟩
 have hf:Z3y a=true:=by simpa using hw.first
 have hn:=Zax (ZdT hf)
 have htw:=Z2Q hw.all hr.ld
 have hread:JP (a :: q++r)=.ok ⟨1,0,a :: q,0⟩:=by
  unfold JP
  simp only [Xp,Xm,hf,if_true]
  unfold Z4I
  simp only
  rw [← Xp,htw,if_neg (by have:=hw.len;omega)]
  simp
 refine Zn.tok (t:=⟨1,0,a :: q,0⟩) (by simp) (by simpa using hn.1) (by simpa using hn.2.1) hread ?_
 simpa using h
theorem ZfX (a:Str) (c:UInt8):Z0z (a++[c])=10 * Z0z a+(c.toNat - 48):=by simp [Z0z,List.foldl_append]
theorem Zay (u:Nat):Z0z (Lib.decDigits u)=u:=by
 induction u using Nat.strongRecOn with
 | _ u ih=>
   have h1:∀ k,k<10→(UInt8.ofNat (48+k)).toNat - 48=k:=by decide
   by_cases h:u<10
   rw [Lib.decDigits,dif_pos h]
   have:=h1 u h
   simp only [Z0z,YaV,List.foldl_nil,Nat.mul_zero,XO]
   exact this
   rw [Lib.decDigits,dif_neg h,ZfX,ih _ (by omega),h1 _ (by omega)]
   omega
theorem Z26 (u:Nat):Lib.decDigits u≠[]:=by
 rw [Lib.decDigits]
 split
 simp
 simp
theorem Z6I (u:Nat):1<(Lib.decDigits u).length→(Lib.decDigits u).getD 0 0≠48:=by
 induction u using Nat.strongRecOn with
 | _ u ih=>
   have h1:∀ k,k<10→1≤k→UInt8.ofNat (48+k)≠48:=by decide
   intro hl
   by_cases h:u<10
   rw [Lib.decDigits,dif_pos h] at hl
   simp at hl
   · rw [Lib.decDigits,dif_neg h]
     have hne:=Z26 (u / 10)
     have hg:(Lib.decDigits (u / 10)++[UInt8.ofNat (48+u % 10)]).getD 0 0=(Lib.decDigits (u / 10)).getD 0 0:=by
      cases hd:Lib.decDigits (u / 10) with
      | nil=>exact absurd hd hne
      | cons a q=>simp
     rw [hg]
     by_cases h10:u / 10<10
     rw [Lib.decDigits,dif_pos h10]
     simp only [Xm]
     exact h1 _ h10 (by omega)
     exact ih _ (by omega) (by
      rw [Lib.decDigits,dif_neg h10]
      have:=XX.2 (Z26 (u / 10 / 10))
      simp
      omega)
theorem ZcW {c:UInt8} (h:48≤c.toNat∧c.toNat≤57):ZV c=true:=by unfold ZV;simp;exact h
theorem Zn.num {n:Int} (h0:0≤n) (h1:n≤2147483647) (hr:Z5o r) (h:Zn r ts):Zn (Lib.itoa n++r) ((2,Lib.itoa n,n) :: ts):=by
 have hi:Lib.itoa n=Lib.decDigits n.toNat:=by unfold Lib.itoa;rw [if_neg (by omega)]
 rw [hi]
 have hall:∀ c∈Lib.decDigits n.toNat,ZV c=true:=fun c hc=>ZcW (Z2P _ c hc)
 have hne:=Z26 n.toNat
 have hfst:=Z6I n.toNat
 have hdec:=Zay n.toNat
 have htw:=Z2Q hall hr.dig
 generalize Lib.decDigits n.toNat=w at *
 obtain ⟨a,q,rfl⟩:∃ a q,w=a :: q:=by cases w with|nil=>exact absurd rfl hne|cons a q=>exact ⟨a,q,rfl⟩
 have ha:=hall a (by simp)
 have hn:=Zax (ZdU ha)
 have hread:JP (a :: q++r)=.ok ⟨2,0,a :: q,n⟩:=by
  unfold JP
  simp only [Xp,Xm,Zaw ha,ha,if_true,XG,if_false]
  unfold Z3z
  simp only
  rw [← Xp,htw,if_neg (by rintro ⟨g1,g2⟩;exact hfst g1 (by simpa using g2)),hdec,if_neg (by omega),Yat h0]
 refine Zn.tok (t:=⟨2,0,a :: q,n⟩) (by simp) (by simpa using hn.1) (by simpa using hn.2.1) hread ?_
 simpa using h
theorem Zn.sym {c:UInt8} (hc:c∈Z7n) (hr:r.getD 0 0≠61∨(c≠60∧c≠62)) (h:Zn r ts):Zn (c :: r) ((4,[c],0) :: ts):=by
 have hp:∀ c∈Z7n,Z3y c=false∧ZV c=false∧c≠64∧Z1D c=false∧c≠35∧c≠33:=by decide
 obtain ⟨h1,h2,h3,h4,h5,h6⟩:=hp c hc
 have hread:JP (c :: r)=.ok ⟨4,0,[c],0⟩:=by
  unfold JP
  simp only [Xm,h1,h2,if_neg h3,XG,if_false]
  unfold JT
  have hno:¬ ((c :: r).take 2=[60,61]∨(c :: r).take 2=[33,61]∨(c :: r).take 2=[62,61]):=by
   cases r with
   | nil=>simp
   | cons d q=>
     simp only [Yai,Ybh,Yay,and_true]
     simp only [Xm] at hr
     rintro (⟨rfl,rfl⟩|⟨rfl,rfl⟩|⟨rfl,rfl⟩)
     rcases hr with h|h;exact h rfl;exact h.1 rfl
     exact h6 rfl
     rcases hr with h|h;exact h rfl;exact h.2 rfl
  rw [if_neg hno]
  simp [hc]
 refine Zn.tok (t:=⟨4,0,[c],0⟩) (by simp) (by simpa using h4) (by simpa using h5) hread ?_
 simpa using h
theorem Zn.sym2 {c:UInt8} (hc:c=60∨c=33∨c=62) (h:Zn r ts):Zn (c :: 61 :: r) ((4,[c,61],0) :: ts):=by
 have hp:∀ c:UInt8,c=60∨c=33∨c=62→Z3y c=false∧ZV c=false∧c≠64∧Z1D c=false∧c≠35:=by
  rintro c (rfl|rfl|rfl)<;>decide
 obtain ⟨h1,h2,h3,h4,h5⟩:=hp c hc
 have hread:JP (c :: 61 :: r)=.ok ⟨4,0,[c,61],0⟩:=by
  unfold JP
  simp only [Xm,h1,h2,if_neg h3,XG,if_false]
  unfold JT
  rw [if_pos (by simpa using hc)]
  simp
 refine Zn.tok (t:=⟨4,0,[c,61],0⟩) (by simp) (by simpa using h4) (by simpa using h5) hread ?_
 simpa using h
theorem Zn.spc (h:Zn r ts):Zn (32 :: r) ts:=.sp (by decide) h
theorem Zn.nl (h:Zn r ts):Zn (10 :: r) ts:=.sp (by decide) h
end
theorem Z2a {c:UInt8} {r:Str} (h:ldB c=false) (h2:c≠61):Z5o (c :: r):=.inr (by simpa using ⟨h,h2⟩)
theorem JH {r:Str}:Z5o (32 :: r):=Z2a (by decide) (by decide)
theorem Z7r {r:Str}:Z5o (41 :: r):=Z2a (by decide) (by decide)
theorem ZfY {r:Str}:Z5o (44 :: r):=Z2a (by decide) (by decide)
theorem Z8z {r:Str}:Z5o (59 :: r):=Z2a (by decide) (by decide)
section
variable (ds:Z2B)
def Z4J (k n:Int) (s:Str) (ks:List (Nat×Str)):Str:=
 if k=1 then Lib.itoa n else if k=2 then (if n=1 then [116,114,117,101] else [102,97,108,115,101]) else if k=3 then 64 :: ds n else if k=4 then s
 else if k=5 then (if s=[110,111,116] then [110,111,116,32]++JA 3 (ks.getD 0 (0,[])) else [45]++JA 7 (ks.getD 0 (0,[])))
 else if k=9 then [105,102,32]++(ks.getD 0 (0,[])).2++[32,116,104,101,110,32]++(ks.getD 1 (0,[])).2++[32,101,108,115,101,32]++(ks.getD 2 (0,[])).2++[32,101,110,100]
 else if k=10 then s++[40]++([44,32]:Str).intercalate (ks.map (·.2))++[41]
 else if k=7 then JA 5 (ks.getD 0 (0,[]))++[32,43,32]++JA 6 (ks.getD 1 (0,[]))++[32]++s
 else if k=8 then JA 5 (ks.getD 0 (0,[]))++[32,45,32]++JA 6 (ks.getD 1 (0,[]))++[32]++s
 else JA (Z0w (Zm s)) (ks.getD 0 (0,[]))++[32]++s++[32]++JA (Zm s+1) (ks.getD 1 (0,[]))
def Zl:Nd→Str
 | .mk k n s l=>Z4J ds k n s (l.map fun y=>(lvl y,Zl y))
theorem Zt (k n:Int) (s:Str) (l:List Nd):Zl ds (.mk k n s l)=Z4J ds k n s (l.map fun y=>(lvl y,Zl ds y)):=by rw [Zl]
end
def Z6t (ds:Z2B):Prop:=∀ n:Int,0≤n→n≤3652058→(ds n).length=10∧∀ r:Str,JP (64 :: ds n++r)=.ok ⟨3,0,64 :: ds n,n⟩
theorem ZX {w:Str} (h:(decide (w≠[]) && decide (w.length≤12) && Z3y (w.getD 0 0) && w.all ldB)=true):Z7q w:=by
 simp only [Xi,decide_eq_true_eq,XD] at h
 exact ⟨h.1.1.1,h.1.1.2,h.1.2,h.2⟩
theorem Zc4:∀ s∈Z0U,(decide (s≠[]) && decide (s.length≤12) && Z3y (s.getD 0 0) && s.all ldB)=true:=by decide
theorem Z8A:∀ s∈Z0v,(decide (s≠[]) && decide (s.length≤12) && Z3y (s.getD 0 0) && s.all ldB)=true:=by decide
theorem Z8B:∀ s∈Z0S,(decide (s≠[]) && decide (s.length≤12) && Z3y (s.getD 0 0) && s.all ldB)=true:=by decide
def Z5X:List Str:=[[111,114],[97,110,100],[60],[60,61],[61],[33,61],[62],[62,61],[43],[45],[42]]
theorem Z7s {s:Str} (h:1≤Zm s):s∈Z5X:=by
 unfold Zm at h
 simp only [Z5X,Xf,Xk,or_false]
 repeat' split at h
 all_goals first
  | omega
  | (rename_i h1;subst h1;simp;done)
  | (rename_i h1;rcases h1 with rfl|rfl|rfl|rfl|rfl|rfl<;>simp;done)
  | (rename_i h1;rcases h1 with rfl|rfl<;>simp;done)
section
variable {ds:Z2B} {r:Str} {ts:List T3}
theorem Zn.op {s:Str} (hs:1≤Zm s) (h:Zn r ts):Zn (s++32 :: r) ((Z9k s,s,0) :: ts):=by
 have hm:=Z7s hs
 have h':=h.spc
 simp only [Z5X,Xf,Xk,or_false] at hm
 rcases hm with rfl|rfl|rfl|rfl|rfl|rfl|rfl|rfl|rfl|rfl|rfl
 exact Zn.word (ZX (by decide)) JH h'
 exact Zn.word (ZX (by decide)) JH h'
 exact Zn.sym (by decide) (.inl (by show (32:UInt8)≠61;decide)) h'
 exact Zn.sym2 (by decide) h'
 exact Zn.sym (by decide) (.inr (by decide)) h'
 exact Zn.sym2 (by decide) h'
 exact Zn.sym (by decide) (.inl (by show (32:UInt8)≠61;decide)) h'
 exact Zn.sym2 (by decide) h'
 exact Zn.sym (by decide) (.inr (by decide)) h'
 exact Zn.sym (by decide) (.inr (by decide)) h'
 exact Zn.sym (by decide) (.inr (by decide)) h'
theorem Zn.par {x:Nd} (least:Nat) (ih:∀ (r:Str) (ts:List T3),Z5o r→Zn r ts→Zn (Zl ds x++r) (ZA ds x++ts)) (hr:Z5o r) (h:Zn r ts) :
 Zn (JA least (lvl x,Zl ds x)++r) (JB least (lvl x,ZA ds x)++ts):=by
 unfold JA JB
 simp only
 split
 have h1:Zn (41 :: r) ((4,[41],0) :: ts):=Zn.sym (by decide) (.inr (by decide)) h
 have h2:=ih _ _ Z7r h1
 have h3:Zn (40 :: (Zl ds x++41 :: r)) ((4,[40],0) :: (ZA ds x++(4,[41],0) :: ts)):=Zn.sym (by decide) (.inr (by decide)) h2
 simpa using h3
 exact ih r ts hr h
theorem Zn.day {n:Int} (hd:Z6t ds) (h0:0≤n) (h1:n≤3652058) (h:Zn r ts):Zn (64 :: ds n++r) ((3,64 :: ds n,n) :: ts):=by
 obtain ⟨hl,hr⟩:=hd n h0 h1
 refine Zn.tok (t:=⟨3,0,64 :: ds n,n⟩) (by simp) (by simp;decide) (by simp) (hr r) ?_
 simpa using h
end
theorem ZfZ {ds:Z2B} (hd:Z6t ds) {x:Nd} (hx:Wf x):∀ (r:Str) (ts:List T3),Z5o r→Zn r ts→Zn (Zl ds x++r) (ZA ds x++ts):=by
 induction hx with
 | num n h=>
   intro r ts hr hl
   have e:Zl ds (.mk 1 n [] [])=Lib.itoa n:=by rw [Zt];rfl
   have e2:ZA ds (.mk 1 n [] [])=[(2,Lib.itoa n,n)]:=by rw [Ji];rfl
   rw [e,e2]
   exact Zn.num h.1 h.2 hr hl
 | bool n h=>
   intro r ts hr hl
   have e:Zl ds (.mk 2 n [] [])=if n=1 then [116,114,117,101] else [102,97,108,115,101]:=by rw [Zt];rfl
   have e2:ZA ds (.mk 2 n [] [])=[(1,if n=1 then [116,114,117,101] else [102,97,108,115,101],0)]:=by rw [Ji];rfl
   rw [e,e2]
   rcases h with rfl|rfl
   exact Zn.word (ZX (by decide)) hr hl
   exact Zn.word (ZX (by decide)) hr hl
 | day n h=>
   intro r ts hr hl
   have e:Zl ds (.mk 3 n [] [])=64 :: ds n:=by rw [Zt];rfl
   have e2:ZA ds (.mk 3 n [] [])=[(3,64 :: ds n,n)]:=by rw [Ji];rfl
   rw [e,e2]
   exact Zn.day hd h.1 h.2 hl
 | field s h=>
   intro r ts hr hl
   have e:Zl ds (.mk 4 0 s [])=s:=by rw [Zt];rfl
   have e2:ZA ds (.mk 4 0 s [])=[(1,s,0)]:=by rw [Ji];rfl
   rw [e,e2]
   exact Zn.word (ZX (Zc4 s h)) hr hl
 | neg a ha iha=>
   intro r ts hr hl
   have e:Zl ds (.mk 5 0 [45] [a])=[45]++JA 7 (lvl a,Zl ds a):=by rw [Zt];rfl
   have e2:ZA ds (.mk 5 0 [45] [a])=(4,[45],0) :: JB 7 (lvl a,ZA ds a):=by rw [Ji];rfl
   rw [e,e2]
   have h1:=Zn.par 7 iha hr hl
   have h2:=Zn.sym (c:=45) (by decide) (.inr (by decide)) h1
   simpa using h2
 | not a ha iha=>
   intro r ts hr hl
   have e:Zl ds (.mk 5 0 [110,111,116] [a])=[110,111,116,32]++JA 3 (lvl a,Zl ds a):=by rw [Zt];rfl
   have e2:ZA ds (.mk 5 0 [110,111,116] [a])=(1,[110,111,116],0) :: JB 3 (lvl a,ZA ds a):=by rw [Ji];rfl
   rw [e,e2]
   have h1:=Zn.par 3 iha hr hl
   have h2:=Zn.word (w:=[110,111,116]) (ZX (by decide)) JH h1.spc
   simpa using h2
 | bin s a b hs ha hb iha ihb=>
   intro r ts hr hl
   have e:Zl ds (.mk 6 0 s [a,b])=JA (Z0w (Zm s)) (lvl a,Zl ds a)++[32]++s++[32]++JA (Zm s+1) (lvl b,Zl ds b):=by rw [Zt];rfl
   have e2:ZA ds (.mk 6 0 s [a,b])=JB (Z0w (Zm s)) (lvl a,ZA ds a)++(Z9k s,s,0) :: JB (Zm s+1) (lvl b,ZA ds b):=by rw [Ji];rfl
   rw [e,e2]
   have h1:=Zn.par (Zm s+1) ihb hr hl
   have h2:=(Zn.op hs h1).spc
   have h3:=Zn.par (Z0w (Zm s)) iha JH h2
   simpa using h3
 | after s a b hs ha hb iha ihb=>
   intro r ts hr hl
   have e:Zl ds (.mk 7 0 s [a,b])=JA 5 (lvl a,Zl ds a)++[32,43,32]++JA 6 (lvl b,Zl ds b)++[32]++s:=by rw [Zt];rfl
   have e2:ZA ds (.mk 7 0 s [a,b])=JB 5 (lvl a,ZA ds a)++(4,[43],0) :: (JB 6 (lvl b,ZA ds b)++[(1,s,0)]):=by rw [Ji];rfl
   rw [e,e2]
   have h0:=Zn.word (ZX (Z8A s hs)) hr hl
   have h1:=Zn.par 6 ihb JH h0.spc
   have h2:=(Zn.sym (c:=43) (by decide) (.inr (by decide)) h1.spc).spc
   have h3:=Zn.par 5 iha JH h2
   simpa using h3
 | before s a b hs ha hb iha ihb=>
   intro r ts hr hl
   have e:Zl ds (.mk 8 0 s [a,b])=JA 5 (lvl a,Zl ds a)++[32,45,32]++JA 6 (lvl b,Zl ds b)++[32]++s:=by rw [Zt];rfl
   have e2:ZA ds (.mk 8 0 s [a,b])=JB 5 (lvl a,ZA ds a)++(4,[45],0) :: (JB 6 (lvl b,ZA ds b)++[(1,s,0)]):=by rw [Ji];rfl
   rw [e,e2]
   have h0:=Zn.word (ZX (Z8A s hs)) hr hl
   have h1:=Zn.par 6 ihb JH h0.spc
   have h2:=(Zn.sym (c:=45) (by decide) (.inr (by decide)) h1.spc).spc
   have h3:=Zn.par 5 iha JH h2
   simpa using h3
 | cond a b c ha hb hc iha ihb ihc=>
   intro r ts hr hl
   have e:Zl ds (.mk 9 0 [] [a,b,c])=[105,102,32]++Zl ds a++[32,116,104,101,110,32]++Zl ds b++[32,101,108,115,101,32]++Zl ds c++[32,101,110,100]:=by rw [Zt];rfl
   have e2:ZA ds (.mk 9 0 [] [a,b,c])=(1,[105,102],0) :: (ZA ds a++(1,[116,104,101,110],0) :: (ZA ds b++(1,[101,108,115,101],0) :: (ZA ds c++[(1,[101,110,100],0)]))):=by rw [Ji];rfl
   rw [e,e2]
   have h0:=(Zn.word (w:=[101,110,100]) (ZX (by decide)) hr hl).spc
   have h1:=(ihc _ _ JH h0).spc
   have h2:=(Zn.word (w:=[101,108,115,101]) (ZX (by decide)) JH h1).spc
   have h3:=(ihb _ _ JH h2).spc
   have h4:=(Zn.word (w:=[116,104,101,110]) (ZX (by decide)) JH h3).spc
   have h5:=(iha _ _ JH h4).spc
   have h6:=Zn.word (w:=[105,102]) (ZX (by decide)) JH h5
   simpa using h6
 | call1 s a hs h1 ha iha=>
   intro r ts hr hl
   have e:Zl ds (.mk 10 0 s [a])=s++[40]++Zl ds a++[41]:=by rw [Zt];simp [Z4J,List.intercalate]
   have e2:ZA ds (.mk 10 0 s [a])=(1,s,0) :: (4,[40],0) :: ((ZA ds a++[])++[(4,[41],0)]):=by rw [Ji];rfl
   rw [e,e2]
   have h0:=Zn.sym (c:=41) (by decide) (.inr (by decide)) hl
   have h1:=iha _ _ Z7r h0
   have h2:=Zn.sym (c:=40) (by decide) (.inr (by decide)) h1
   have h3:=Zn.word (ZX (Z8B s hs)) (Z2a (by decide) (by decide)) h2
   simpa using h3
 | call2 s a b hs h2 ha hb iha ihb=>
   intro r ts hr hl
   have e:Zl ds (.mk 10 0 s [a,b])=s++[40]++(Zl ds a++[44,32]++Zl ds b)++[41]:=by rw [Zt];simp [Z4J,List.intercalate]
   have e2:ZA ds (.mk 10 0 s [a,b])=(1,s,0) :: (4,[40],0) :: ((ZA ds a++((4,[44],0) :: ZA ds b++[]))++[(4,[41],0)]):=by rw [Ji];rfl
   rw [e,e2]
   have h0:=Zn.sym (c:=41) (by decide) (.inr (by decide)) hl
   have h1:=(ihb _ _ Z7r h0).spc
   have h2:=Zn.sym (c:=44) (by decide) (.inr (by decide)) h1
   have h3:=iha _ _ ZfY h2
   have h4:=Zn.sym (c:=40) (by decide) (.inr (by decide)) h3
   have h5:=Zn.word (ZX (Z8B s hs)) (Z2a (by decide) (by decide)) h4
   simpa using h5
section
variable (ds:Z2B)
def JE (w s:Str):Str:=if s=[] then [] else [32,32]++w++[32]++s++[59,10]
def Z2n (x:Nd):Prop:=x.kind=2∧x.num=1
instance (x:Nd):Decidable (Z2n x):=by unfold Z2n;infer_instance
def ifS (x:Nd):Str:=if Z2n x then [] else JE [105,102] (Zl ds x)
def Z2I (r:RuleM):Str:=[114,117,108,101,32]++r.name++[32,102,114,111,109,32,64]++ds r.frm++[32,123,10]
def J2 (r:RuleM):Str:=Z2I ds r++JE [111,110] r.on++ifS ds r.cond++JE [100,117,101] (Zl ds r.due)++JE [117,110,108,101,115,115] r.unl++JE [101,108,115,101] r.els++[125,10]
def Z2C (w s:Str):List T3:=if s=[] then [] else [(1,w,0),(1,s,0),(4,[59],0)]
def ifT (x:Nd):List T3:=if Z2n x then [] else (1,[105,102],0) :: (ZA ds x++[(4,[59],0)])
def ZcX (r:RuleM):List T3:=Z2C [117,110,108,101,115,115] r.unl++(Z2C [101,108,115,101] r.els++[(4,[125],0)])
def JV (r:RuleM):List T3:=
 (1, [114, 117, 108, 101], 0) :: (1, r.name, 0) :: (1, [102, 114, 111, 109], 0) :: (3, 64 :: ds r.frm, r.frm) :: (4, [123], 0) :: (1, [111, 110], 0) :: (1, r.on, 0) :: (4, [59], 0) ::
   (ifT ds r.cond++((1,[100,117,101],0) :: (ZA ds r.due++(4,[59],0) :: ZcX r)))
end
structure Z42 (s:Str):Prop where
 word:Z7q s
 free:s∉Z8v++Z0v++Z0U++Z0S
structure Z51 (r:RuleM):Prop where
 name:Z42 r.name
 frm:0≤r.frm∧r.frm≤3652058
 on:Z42 r.on
 cond:Wf r.cond
 cop:opN r.cond≤12
 due:Wf r.due
 dop:opN r.due≤12
 unl:r.unl=[]∨Z42 r.unl
 els:r.els=[]∨Z42 r.els
theorem Z8C {x:Nd} (hx:Wf x) (h:Z2n x):x=.mk 2 1 [] []:=by
 obtain ⟨h1,h2⟩:=h
 cases hx<;>simp only [Nd.kind,Nd.num] at h1 h2<;>first|(exact absurd h1 (by decide))|(subst h2;rfl)
theorem Zi7 {x:Nd} (hx:Wf x):x.kind≠0:=by
 cases hx<;>(simp only [Nd.kind];decide)
theorem Z7t {ds:Z2B} {x:Nd} (hx:Wf x):Zl ds x≠[]:=by
 cases hx with
 | num n h=>rw [Zt];show Lib.itoa n≠[];unfold Lib.itoa;rw [if_neg (by omega)];exact Z26 _
 | bool n h=>rw [Zt];show (if n=1 then [116,114,117,101] else [102,97,108,115,101]:Str)≠[];split<;>decide
 | day n h=>rw [Zt];show (64 :: ds n:Str)≠[];simp
 | field s h=>rw [Zt];show s≠[];rintro rfl;revert h;decide
 | neg a ha=>rw [Zt];show ([45]++_:Str)≠[];simp
 | not a ha=>rw [Zt];show ([110,111,116,32]++_:Str)≠[];simp
 | bin s a b hs ha hb=>rw [Zt];show (_++[32]++s++[32]++_:Str)≠[];simp
 | after s a b hs ha hb=>rw [Zt];show (_++[32,43,32]++_++[32]++s:Str)≠[];simp
 | before s a b hs ha hb=>rw [Zt];show (_++[32,45,32]++_++[32]++s:Str)≠[];simp
 | cond a b c ha hb hc=>rw [Zt];show ([105,102,32]++_++[32,116,104,101,110,32]++_++[32,101,108,115,101,32]++_++[32,101,110,100]:Str)≠[];simp
 | call1 s a hs h1 ha=>rw [Zt];simp [Z4J]
 | call2 s a b hs h2 ha hb=>rw [Zt];simp [Z4J]
section lexing
variable {ds:Z2B} {r:Str} {ts:List T3}
theorem Z9m {w s:Str} (hw:Z7q w) (hs:s=[]∨Z42 s) (h:Zn r ts):Zn (JE w s++r) (Z2C w s++ts):=by
 unfold JE Z2C
 by_cases h0:s=[]
 rw [if_pos h0,if_pos h0];exact h
 rw [if_neg h0,if_neg h0]
 have hn:=(hs.resolve_left h0).word
 have h1:=Zn.sym (c:=59) (by decide) (.inr (by decide)) h.nl
 have h2:=(Zn.word hn Z8z h1).spc
 have h3:=(Zn.word hw JH h2).spc.spc
 simpa using h3
theorem Zaz {w:Str} {x:Nd} (hd:Z6t ds) (hw:Z7q w) (hx:Wf x) (h:Zn r ts):Zn (JE w (Zl ds x)++r) ((1,w,0) :: (ZA ds x++(4,[59],0) :: ts)):=by
 unfold JE
 rw [if_neg (Z7t hx)]
 have h1:=Zn.sym (c:=59) (by decide) (.inr (by decide)) h.nl
 have h2:=(ZfZ hd hx _ _ Z8z h1).spc
 have h3:=(Zn.word hw JH h2).spc.spc
 simpa using h3
theorem ZmG {x:Nd} (hd:Z6t ds) (hx:Wf x) (h:Zn r ts):Zn (ifS ds x++r) (ifT ds x++ts):=by
 unfold ifS ifT
 by_cases ht:Z2n x
 rw [if_pos ht,if_pos ht];exact h
 rw [if_neg ht,if_neg ht]
 have:=Zaz hd (w:=[105,102]) (ZX (by decide)) hx h
 simpa using this
theorem Zg0 {x:RuleM} (hd:Z6t ds) (hx:Z51 x) (h:Zn r ts):Zn (J2 ds x++r) (JV ds x++ts):=by
 have h1:=Zn.sym (c:=125) (by decide) (.inr (by decide)) h.nl
 have h2:=Z9m (w:=[101,108,115,101]) (ZX (by decide)) hx.els h1
 have h3:=Z9m (w:=[117,110,108,101,115,115]) (ZX (by decide)) hx.unl h2
 have h4:=Zaz hd (w:=[100,117,101]) (ZX (by decide)) hx.due h3
 have h5:=ZmG hd hx.cond h4
 have h6:=Z9m (w:=[111,110]) (ZX (by decide)) (.inr hx.on) h5
 have hon:x.on≠[]:=hx.on.word.ne
 have e6:Z2C [111,110] x.on=[(1,[111,110],0),(1,x.on,0),(4,[59],0)]:=by unfold Z2C;rw [if_neg hon]
 rw [e6] at h6
 have h7:=(Zn.sym (c:=123) (by decide) (.inr (by decide)) h6.nl).spc
 have h8:=(Zn.day hd hx.frm.1 hx.frm.2 h7).spc
 have h9:=(Zn.word (w:=[102,114,111,109]) (ZX (by decide)) JH h8).spc
 have h10:=(Zn.word hx.name.word JH h9).spc
 have h11:=Zn.word (w:=[114,117,108,101]) (ZX (by decide)) JH h10
 unfold J2 JV Z2I ZcX
 simpa using h11
theorem ZdV {xs:List RuleM} (hd:Z6t ds) (hx:∀ x∈xs,Z51 x):Zn (xs.flatMap (J2 ds)) (xs.flatMap (JV ds)):=by
 induction xs with
 | nil=>exact .nil
 | cons a q ih=>
   simp only [XY]
   exact Zg0 hd (hx a (by simp)) (ih fun x h=>hx x (by simp [h]))
end lexing
section parsing
variable {l:List Tkn} {i o:Nat}
theorem Z5p {k n:Int} {s:Str} {q:List T3} (h:At l i ((k,s,n) :: q)):Jy l s i o=.ok () (i+1) o∧At l (i+1) q:=by
 obtain ⟨⟨_,h2,_⟩,h⟩:=ZJ h
 exact ⟨by unfold Jy;rw [if_pos h2],h⟩
theorem Z7u {s:Str} {q:List T3} (hs:Z42 s) (h:At l i ((1,s,0) :: q)):Z1X l i o=.ok s (i+1) o∧At l (i+1) q:=by
 obtain ⟨⟨h1,h2,_⟩,h⟩:=ZJ h
 refine ⟨?_,h⟩
 simp only at h1 h2
 unfold Z1X
 rw [h2,if_neg hs.free]
 unfold Z0H
 rw [if_pos h1]
 simp [Out.bind,h2]
theorem ZaA {α:Type} {w:Str} {z:α} {rd:Nat→Nat→Out α} (h:(cur l i).text≠w):Z0J l w z rd i o=.ok z i o:=by unfold Z0J;rw [if_neg h]
theorem Z4v {α:Type} {w:Str} {z x:α} {rd:Nat→Nat→Out α} {j o':Nat} (h:(cur l i).text=w) (hr:rd (i+1) o=.ok x j o') (hs:(cur l j).text=[59]):Z0J l w z rd i o=.ok x (j+1) o':=by
 unfold Z0J
 rw [if_pos h,hr]
 simp only [Out.bind,Jy]
 rw [if_pos hs]
theorem Z8D {w s:Str} {q:List T3} (hs:s=[]∨Z42 s) (h:At l i (Z2C w s++q)) (hq:At l i q→(cur l i).text≠w) :
 Z0J l w [] (Z1X l) i o=.ok s (i+(Z2C w s).length) o∧At l (i+(Z2C w s).length) q:=by
 by_cases h0:s=[]
 subst h0
 have e:Z2C w []=[]:=rfl
 rw [e] at h ⊢
 exact ⟨ZaA (hq h),h⟩
 have e:Z2C w s=[(1,w,0),(1,s,0),(4,[59],0)]:=by unfold Z2C;rw [if_neg h0]
 rw [e] at h ⊢
 obtain ⟨⟨_,h2,_⟩,h⟩:=ZJ h
 obtain ⟨hn,h⟩:=Z7u (o:=o) (hs.resolve_left h0) h
 obtain ⟨⟨_,g2,_⟩,h⟩:=ZJ h
 exact ⟨Z4v h2 hn g2,h⟩
theorem Z8E {ds:Z2B} {x:Nd} (hx:Wf x) (ho:o+opN x≤12) {q:List T3} (h:At l i (ZA ds x++(4,[59],0) :: q)):Z0u l i o=.ok x (i+(ZA ds x).length) o∧(cur l (i+(ZA ds x).length)).text=[59]∧At l (i+(ZA ds x).length+1) q:=by
 rw [Z1r] at h
 obtain ⟨h1,h⟩:=h
 obtain ⟨⟨_,h2,_⟩,h⟩:=ZJ h
 simp only at h2
 exact ⟨Zc3 ds hx h1 ho (by rw [h2];decide) (by rw [h2];decide),h2,h⟩
theorem Zg1 {ds:Z2B} {x:Nd} (hx:Wf x) (ho:o+opN x≤12) {q:List T3} (h:At l i (ifT ds x++((1,[100,117,101],0) :: q))) :
 ∃ cd,Z0J l [105,102] Jz (Z0u l) i o=.ok cd (i+(ifT ds x).length) o∧(if cd.kind=0 then Nd.mk 2 1 [] [] else cd)=x∧At l (i+(ifT ds x).length) ((1,[100,117,101],0) :: q):=by
 by_cases ht:Z2n x
 have e:ifT ds x=[]:=by unfold ifT;rw [if_pos ht]
 rw [e] at h ⊢
 refine ⟨Jz,ZaA ?_,?_,h⟩
 obtain ⟨⟨_,h2,_⟩,_⟩:=ZJ h
 rw [h2]
 simp
 rw [Z8C hx ht];rfl
 have e:ifT ds x=(1,[105,102],0) :: (ZA ds x++[(4,[59],0)]):=by unfold ifT;rw [if_neg ht]
 rw [e] at h ⊢
 rw [Xp,Xr] at h
 obtain ⟨⟨_,h2,_⟩,h⟩:=ZJ h
 obtain ⟨g1,g2,g3⟩:=Z8E (o:=o) hx ho h
 refine ⟨x,?_,by rw [if_neg (Zi7 hx)],?_⟩
 have:=Z4v (z:=Jz) (w:=[105,102]) h2 g1 g2
 rw [this]
 simp only [Xc,Xb,Xe]
 rw [show i+1+(ZA ds x).length+1=i+((ZA ds x).length+(0+1)+1) by omega]
 simp only [Xc,Xb,Xe]
 rw [show i+((ZA ds x).length+(0+1)+1)=i+1+(ZA ds x).length+1 by omega]
 exact g3
theorem ZdW {ds:Z2B} {x:Nd} (hx:Wf x) (ho:o+opN x≤12) {q:List T3} (h:At l i ((1,[100,117,101],0) :: (ZA ds x++(4,[59],0) :: q))) :
 (cur l i).text=[100,117,101]∧Z0J l [100,117,101] Jz (Z0u l) i o=.ok x (i+(ZA ds x).length+2) o∧At l (i+(ZA ds x).length+2) q:=by
 obtain ⟨⟨_,h2,_⟩,h⟩:=ZJ h
 obtain ⟨g1,g2,g3⟩:=Z8E (o:=o) hx ho h
 refine ⟨h2,?_,?_⟩
 have:=Z4v (z:=Jz) (w:=[100,117,101]) h2 g1 g2
 rw [this]
 rw [show i+1+(ZA ds x).length+1=i+(ZA ds x).length+2 by omega]
 rw [show i+(ZA ds x).length+2=i+1+(ZA ds x).length+1 by omega]
 exact g3
theorem Zg2 {ds:Z2B} {x:RuleM} (hx:Z51 x) {q:List T3} (h:At l i (JV ds x++q)):Z6s l i 0=.ok x (i+(JV ds x).length) 0∧At l (i+(JV ds x).length) q:=by
 have hlen:(JV ds x).length=8+(ifT ds x.cond).length+(ZA ds x.due).length+2+(Z2C [117,110,108,101,115,115] x.unl).length+(Z2C [101,108,115,101] x.els).length+1:=by
  unfold JV ZcX
  simp only [Xc,Xb,Xe]
  omega
 unfold JV ZcX at h
 simp only [Xp,Xr,XS] at h
 obtain ⟨m1,h⟩:=Z5p (o:=0) h
 obtain ⟨m2,h⟩:=Z7u (o:=0) hx.name h
 obtain ⟨m3,h⟩:=Z5p (o:=0) h
 obtain ⟨⟨t1,t2,t3⟩,h⟩:=ZJ h
 simp only at t1 t2 t3
 have m4:Z0H l 3 (i+1+1+1) 0=.ok (cur l (i+1+1+1)) (i+1+1+1+1) 0:=by unfold Z0H;rw [if_pos t1]
 obtain ⟨m5,h⟩:=Z5p (o:=0) h
 have hon:(cur l (i+1+1+1+1+1)).text=[111,110]:=(ZJ h).1.2.1
 have h':=(ZJ h).2
 obtain ⟨m6,h'⟩:=Z7u (o:=0) hx.on h'
 have hsem:=(ZJ h').1.2.1
 have h:=(ZJ h').2
 have m7:=Z4v (z:=([]:Str)) (w:=[111,110]) hon m6 hsem
 obtain ⟨cd,m8,hcd,h⟩:=Zg1 (o:=0) hx.cond (by have:=hx.cop;omega) h
 obtain ⟨hdue,m9,h⟩:=ZdW (o:=0) hx.due (by have:=hx.dop;omega) h
 obtain ⟨m10,h⟩:=Z8D (o:=0) (w:=[117,110,108,101,115,115]) hx.unl h (fun h e=>by
  by_cases h0:x.els=[]
  have:Z2C [101,108,115,101] x.els=[]:=by unfold Z2C;rw [if_pos h0]
  rw [this] at h
  have:=(ZJ h).1.2.1
  rw [e] at this
  exact absurd this (by decide)
  have:Z2C [101,108,115,101] x.els=[(1,[101,108,115,101],0),(1,x.els,0),(4,[59],0)]:=by unfold Z2C;rw [if_neg h0]
  rw [this] at h
  have:=(ZJ h).1.2.1
  rw [e] at this
  exact absurd this (by decide))
 obtain ⟨m11,h⟩:=Z8D (o:=0) (w:=[101,108,115,101]) hx.els h (fun h e=>by
  have:=(ZJ h).1.2.1
  rw [e] at this
  exact absurd this (by decide))
 obtain ⟨m12,h⟩:=Z5p (o:=0) h
 refine ⟨?_,?_⟩
 unfold Z6s
 rw [m1];simp only [Out.bind]
 rw [m2];simp only
 rw [m3];simp only
 rw [m4];simp only
 rw [m5];simp only
 rw [if_pos hon,m7];simp only
 rw [m8];simp only
 rw [if_pos hdue,m9];simp only
 rw [m10];simp only
 rw [m11];simp only
 rw [m12];simp only
 rw [hcd,t3,hlen]
 congr 1
 omega
 rw [hlen]
 have e:i+(8+(ifT ds x.cond).length+(ZA ds x.due).length+2+(Z2C [117,110,108,101,115,115] x.unl).length+(Z2C [101,108,115,101] x.els).length+1)=i+1+1+1+1+1+1+1+1+(ifT ds x.cond).length+(ZA ds x.due).length+2+(Z2C [117,110,108,101,115,115] x.unl).length+(Z2C [101,108,115,101] x.els).length+1:=by omega
 rw [e]
 exact h
theorem ZaB {ds:Z2B} {x:RuleM}:0<(JV ds x).length:=by unfold JV;simp
theorem Z8F {ds:Z2B}:∀ (xs:List RuleM) (rs:List RuleM) (f i:Nat),(∀ x∈xs,Z51 x)→xs.length<f→At l i (xs.flatMap (JV ds))→(cur l (i+(xs.flatMap (JV ds)).length)).kind=0→
 Z1C l f rs i 0=.ok (rs++xs) (i+(xs.flatMap (JV ds)).length) 0
 | [], rs, f, i, hx, hf, h, hk => by
   cases f with
   | zero=>omega
   | succ f=>
     simp only [Yak,Xe,Ya7] at hk ⊢
     simp only [Z1C]
     rw [if_pos hk]
     simp
 | a :: xs, rs, f, i, hx, hf, h, hk => by
   cases f with
   | zero=>omega
   | succ f=>
     simp only [XY] at h hk ⊢
     obtain ⟨m,h'⟩:=Zg2 (hx a (by simp)) h
     have hne:(cur l i).kind≠0:=by
      unfold JV at h
      simp only [Xp] at h
      rw [(ZJ h).1.1]
      decide
     rw [Xb,← XT] at hk
     have ih:=Z8F (ds:=ds) xs (rs++[a]) f _ (fun x hx'=>hx x (by simp [hx'])) (by simp at hf;omega) h' hk
     simp only [Z1C]
     rw [if_neg hne,m]
     simp only [Out.bind]
     rw [ih,Xr,Xb,← XT]
     rfl
end parsing
inductive Ps where
 | err (a c:Int)
 | ok (l:List RuleM)
def Z3C (s:Str):Ps:=
 match Z14 s with
 | .err a c=>.err a c
 | .ok l => match Z1C l (l.length + 1) [] 0 0 with
   | .err a c=>.err a c
   | .ok rs _ _=>.ok rs
theorem ZaC {ds:Z2B} (hd:Z6t ds) {xs:List RuleM} (hx:∀ x∈xs,Z51 x) (hl:(xs.flatMap (J2 ds)).length≤4000):Z3C (xs.flatMap (J2 ds))=.ok xs:=by
 obtain ⟨l1,p,g1,g2,g3⟩:=Zav hl (ZdV hd hx)
 have hlen:l1.length=(xs.flatMap (JV ds)).length:=by rw [← g2];simp
 have hxs:xs.length≤l1.length:=by
  rw [hlen]
  clear g1 g2 g3 hlen hl hx
  induction xs with
  | nil=>simp
  | cons a q ih=>
    have:=ZaB (ds:=ds) (x:=a)
    simp only [XY,Xb,Xc]
    omega
 have hend:(cur (l1++[⟨0,p,[],0⟩]) (0+(xs.flatMap (JV ds)).length)).kind=0:=by
  rw [XO,← hlen]
  unfold cur
  simp
 unfold Z3C
 rw [g1]
 simp only
 rw [Z8F xs [] _ 0 hx (by simp;omega) g3 hend]
 simp
def Z5q (d:Nat):Nat:=(d - d / 1460+d / 36524 - d / 146096) / 365
def Z5Y (y:Nat):Nat:=365 * y+y / 4 - y / 100
def Zg3 (y:Nat):Bool:=Nat.beq (y % 4) 0 && (!(Nat.beq (y % 100) 0) || Nat.beq (y % 400) 0)
def ZmH (d:Nat):Bool:=Nat.ble 146097 d || (Nat.ble (Z5Y (Z5q d)) d && (Nat.blt d (Z5Y (Z5q d)+365) || (Nat.beq d (Z5Y (Z5q d)+365) && Zg3 (Z5q d+1))))
def Zg4:Nat→Nat→Bool
 | 0,lo=>ZmH lo
 | k+1,lo=>Zg4 k lo && Zg4 k (lo+2 ^ k)
theorem Z5Z:∀ (k lo d:Nat),Zg4 k lo=true→lo≤d→d<lo+2 ^ k→ZmH d=true
 | 0, lo, d, h, h1, h2 => by
   have:d=lo:=by simp at h2;omega
   subst this
   exact h
 | k + 1, lo, d, h, h1, h2 => by
   simp only [Zg4,Xi] at h
   rw [Nat.pow_succ] at h2
   rcases Yaj d (lo+2 ^ k) with h3|h3
   exact Z5Z k lo d h.1 h1 h3
   exact Z5Z k (lo+2 ^ k) d h.2 h3 (by omega)
theorem Zg5:Zg4 18 0=true:=by kernel_rfl
theorem Zg6 (y:Nat):Zg3 y=Z0L (y:Int):=by
 unfold Zg3 Z0L
 have h:∀ a b:Nat,Nat.beq (a % b) 0=decide ((a:Int) % (b:Int)=0):=fun a b=>by
  rw [X0]
  simp only [decide_eq_true_eq]
  rw [Nat.beq_eq]
  omega
 rw [show Nat.beq (y % 4) 0=decide ((y:Int) % 4=0) from h y 4,show Nat.beq (y % 100) 0=decide ((y:Int) % 100=0) from h y 100,show Nat.beq (y % 400) 0=decide ((y:Int) % 400=0) from h y 400]
 simp
structure Dat where
 y:Int
 m:Int
 d:Int
def ofM (day:Int):Dat:=
 let z:=day+306
 let era:=z / 146097
 let doe:=z % 146097
 let yoe:=(doe - doe / 1460+doe / 36524 - doe / 146096) / 365
 let doy:=doe - (365 * yoe+yoe / 4 - yoe / 100)
 let m:=(5 * doy+2) / 153
 if m≥10 then ⟨yoe+400 * era+1,m - 9,doy - (153 * m+2) / 5+1⟩ else ⟨yoe+400 * era,m+3,doy - (153 * m+2) / 5+1⟩
theorem Zg7:∀ q:Nat,q<366→(5 * q+2) / 153≤11∧(153 * ((5 * q+2) / 153)+2) / 5≤q∧
 q - (153 * ((5 * q+2) / 153)+2) / 5+1≤(if (5 * q+2) / 153=11 then (if q=365 then 29 else 28) else if (5 * q+2) / 153=1∨(5 * q+2) / 153=3∨(5 * q+2) / 153=6∨(5 * q+2) / 153=8 then 30 else 31):=by decide +kernel
theorem Zg8 (doe:Int) (h0:0≤doe) (h1:doe<146097):∃ yoe doy:Nat,(doe - doe / 1460+doe / 36524 - doe / 146096) / 365=(yoe:Int)∧doe - (365 * (yoe:Int)+(yoe:Int) / 4 - (yoe:Int) / 100)=(doy:Int)∧yoe≤399∧doy≤365∧(doy=365→Z0L ((yoe:Int)+1)=true):=by
 obtain ⟨d,rfl⟩:∃ d:Nat,doe=(d:Int):=⟨doe.toNat,by omega⟩
 have hd:d<146097:=by omega
 have h:=Z5Z 18 0 d Zg5 (by omega) (by omega)
 unfold ZmH at h
 rw [show Nat.ble 146097 d=false by rw [Bool.eq_false_iff];simp;omega] at h
 simp only [Ya3,Xi,Yao,Nat.ble_eq,Nat.beq_eq] at h
 obtain ⟨h2,h3⟩:=h
 have hy:((d:Int) - (d:Int) / 1460+(d:Int) / 36524 - (d:Int) / 146096) / 365=((Z5q d:Nat):Int):=by unfold Z5q;omega
 have hyle:Z5q d≤399:=by unfold Z5q;omega
 have hst:(Z5Y (Z5q d):Int)=365 * (Z5q d:Int)+(Z5q d:Int) / 4 - (Z5q d:Int) / 100:=by unfold Z5Y;omega
 refine ⟨Z5q d,d - Z5Y (Z5q d),hy,by omega,hyle,?_,fun h4=>?_⟩
 rcases h3 with h3|h3
 have:=XU h3;omega
 have:=h3.1;omega
 rcases h3 with h3|h3
 have:=XU h3;omega
 have:=h3.2;rw [Zg6] at this;exact this
theorem ZdX (y e:Int):Z0L (y+400 * e)=Z0L y:=by
 unfold Z0L
 have h4:(y+400 * e) % 4=y % 4:=by omega
 have h100:(y+400 * e) % 100=y % 100:=by omega
 have h400:(y+400 * e) % 400=y % 400:=by omega
 rw [h4,h100,h400]
theorem Z43 {n:Int} (h0:0≤n) (h1:n≤3652058):1≤(ofM n).y∧(ofM n).y≤9999∧1≤(ofM n).m∧(ofM n).m≤12∧1≤(ofM n).d∧(ofM n).d≤ZM (ofM n).y (ofM n).m∧Z0h (ofM n).y (ofM n).m (ofM n).d=n:=by
 obtain ⟨yoe,doy,e1,e2,hy,hd,hl⟩:=Zg8 ((n+306) % 146097) (by omega) (by omega)
 obtain ⟨m1,m2,m3⟩:=Zg7 doy (by omega)
 have hera:(n+306) / 146097 * 146097+(n+306) % 146097=n+306:=by omega
 unfold ofM
 simp only
 rw [e1,e2]
 have em:(5 * (doy:Int)+2) / 153=(((5 * doy+2) / 153:Nat):Int):=by omega
 rw [em]
 have ek:(153 * (((5 * doy+2) / 153:Nat):Int)+2) / 5=(((153 * ((5 * doy+2) / 153)+2) / 5:Nat):Int):=by omega
 rw [ek]
 generalize (n+306) / 146097=era at *
 generalize (n+306) % 146097=doe at *
 have hk5:∀ m:Nat,m≤11→(153 * (m:Int)+2) / 5=(((153 * m+2) / 5:Nat):Int):=fun m _=>by omega
 generalize hm:(5 * doy+2) / 153=m at *
 have q4:((yoe:Int)+400 * era) / 4=(yoe:Int) / 4+100 * era:=by omega
 have q100:((yoe:Int)+400 * era) / 100=(yoe:Int) / 100+4 * era:=by omega
 have q400:((yoe:Int)+400 * era) / 400=era:=by omega
 by_cases h10:((m:Nat):Int)≥10
 rw [if_pos h10]
 simp only
 have hday:Z0h ((yoe:Int)+400 * era+1) ((m:Int) - 9) ((doy:Int) - (((153 * m+2) / 5:Nat):Int)+1)=n:=by
  unfold Z0h
  rw [if_pos (by omega)]
  simp only
  rw [show (yoe:Int)+400 * era+1 - 1=(yoe:Int)+400 * era by omega,show (m:Int) - 9+9=(m:Int) by omega,hk5 m m1,q4,q100,q400]
  omega
 refine ⟨?_,?_,by omega,by omega,by omega,?_,hday⟩
 omega
 omega
 have hm':m=10∨m=11:=by omega
 rcases hm' with rfl|rfl
 unfold ZM
 rw [if_neg (by omega),if_neg (by omega),if_neg (by omega)]
 rw [if_neg (by omega),if_neg (by omega)] at m3
 omega
 unfold ZM
 rw [if_neg (by omega),if_pos (by omega)]
 rw [if_pos rfl] at m3
 by_cases h365:doy=365
 rw [if_pos h365] at m3
 have hlp:Z0L ((yoe:Int)+400 * era+1)=true:=by
  rw [show (yoe:Int)+400 * era+1=((yoe:Int)+1)+400 * era by omega,ZdX]
  exact hl h365
 rw [hlp]
 simp only [if_true]
 omega
 rw [if_neg h365] at m3
 split<;>omega
 rw [if_neg h10]
 simp only
 have hday:Z0h ((yoe:Int)+400 * era) ((m:Int)+3) ((doy:Int) - (((153 * m+2) / 5:Nat):Int)+1)=n:=by
  unfold Z0h
  rw [if_neg (by omega)]
  simp only
  rw [show (m:Int)+3 - 3=(m:Int) by omega,hk5 m m1,q4,q100,q400]
  omega
 refine ⟨?_,?_,by omega,by omega,by omega,?_,hday⟩
 omega
 omega
 unfold ZM
 rw [if_neg (by omega),if_neg (by omega)]
 rw [if_neg (by omega)] at m3
 split at m3
 rw [if_pos (by omega)];omega
 rw [if_neg (by omega)];omega
def Z7v (w:Nat) (s:Str):Str:=List.replicate (w - s.length) 48++s
def Zh (n:Int):Str:=Z7v 4 (Lib.itoa (ofM n).y)++[45]++Z7v 2 (Lib.itoa (ofM n).m)++[45]++Z7v 2 (Lib.itoa (ofM n).d)
theorem Z01:∀ (k u:Nat),u<10 ^ (k+1)→(Lib.decDigits u).length≤k+1
 | 0,u,h=>by rw [Lib.decDigits,dif_pos (by simpa using h)];simp
 | k + 1, u, h => by
   rw [Lib.decDigits]
   split
   simp
   have:=Z01 k (u / 10) (by rw [Nat.pow_succ] at h;omega)
   simp
   omega
theorem Z9n {w:Nat} {z:Int} (h0:0≤z) (k:Nat) (hk:w=k+1) (h1:z<((10 ^ (k+1):Nat):Int)):(Z7v w (Lib.itoa z)).length=w∧(Z7v w (Lib.itoa z)).all ZV=true∧(Z0z (Z7v w (Lib.itoa z)):Int)=z:=by
 have hi:Lib.itoa z=Lib.decDigits z.toNat:=by unfold Lib.itoa;rw [if_neg (by omega)]
 rw [hi]
 have hl:=Z01 k z.toNat (by omega)
 have hd:=Zay z.toNat
 have ha:=Z2P z.toNat
 generalize Lib.decDigits z.toNat=s at *
 unfold Z7v
 refine ⟨by simp;omega,?_,?_⟩
 simp only [Ybb,Xi,XD]
 refine ⟨fun c hc=>?_,fun c hc=>ZcW (ha c hc)⟩
 rw [List.eq_of_mem_replicate hc]
 decide
 · have hz:∀ (n:Nat) (s:Str),Z0z (List.replicate n 48++s)=Z0z s:=by
    intro n
    induction n with
    | zero=>intro s;simp
    | succ n ih=>intro s;simp only [List.replicate_succ,Xp];unfold Z0z at ih ⊢;simpa using ih s
   rw [hz,hd]
   omega
theorem Z44 {n:Int} (h0:0≤n) (h1:n≤3652058):∃ a b c:Str,Zh n=a++[45]++b++[45]++c∧a.length=4∧b.length=2∧c.length=2∧a.all ZV=true∧b.all ZV=true∧c.all ZV=true∧(Z0z a:Int)=(ofM n).y∧(Z0z b:Int)=(ofM n).m∧(Z0z c:Int)=(ofM n).d:=by
 obtain ⟨g1,g2,g3,g4,g5,g6,g7⟩:=Z43 h0 h1
 have g8:=Z19 (ofM n).y (ofM n).m
 obtain ⟨a1,a2,a3⟩:=Z9n (w:=4) (z:=(ofM n).y) (by omega) 3 rfl (by omega)
 obtain ⟨b1,b2,b3⟩:=Z9n (w:=2) (z:=(ofM n).m) (by omega) 1 rfl (by omega)
 obtain ⟨c1,c2,c3⟩:=Z9n (w:=2) (z:=(ofM n).d) (by omega) 1 rfl (by omega)
 exact ⟨_,_,_,rfl,a1,b1,c1,a2,b2,c2,a3,b3,c3⟩
theorem Z2b {n:Int} (h0:0≤n) (h1:n≤3652058):(Zh n).length=10:=by
 obtain ⟨a,b,c,e,ha,hb,hc,-⟩:=Z44 h0 h1
 rw [e]
 simp [ha,hb,hc]
theorem ZaD {n:Int} (h0:0≤n) (h1:n≤3652058):Z1w (Zh n)=(n,0):=by
 obtain ⟨g1,g2,g3,g4,g5,g6,g7⟩:=Z43 h0 h1
 obtain ⟨a,b,c,e,ha,hb,hc,da,db,dc,na,nb,nc⟩:=Z44 h0 h1
 rw [e]
 match a,ha with
 | [a0, a1, a2, a3], _=>
   match b,hb with
   | [b0, b1], _=>
     match c,hc with
     | [c0, c1], _=>
       unfold Z1w
       have e1:(([a0,a1,a2,a3]++[45]++[b0,b1]++[45]++[c0,c1]:Str)).take 4=[a0,a1,a2,a3]:=rfl
       have e2:((([a0,a1,a2,a3]++[45]++[b0,b1]++[45]++[c0,c1]:Str)).drop 5).take 2=[b0,b1]:=rfl
       have e3:(([a0,a1,a2,a3]++[45]++[b0,b1]++[45]++[c0,c1]:Str)).drop 8=[c0,c1]:=rfl
       rw [e1,e2,e3]
       rw [if_pos ⟨rfl,rfl,rfl,da,db,dc⟩]
       simp only
       rw [na,nb,nc,if_neg (by omega),g7]
theorem Zg9:Z6t Zh:=by
 intro n h0 h1
 refine ⟨Z2b h0 h1,fun r=>?_⟩
 have hp:=ZaD h0 h1
 have hl:=Z2b h0 h1
 obtain ⟨a,b,c,e,ha,hb,hc,da,db,dc,-⟩:=Z44 h0 h1
 have htake:((64 :: Zh n++r:Str)).take 11=64 :: Zh n:=by
  rw [Xp,Yai,List.take_append_of_le_length (by omega),XB (by omega)]
 unfold JP
 simp only [Xp,Xm]
 rw [if_neg (by decide),if_neg (by decide),if_pos (by decide)]
 unfold Z8a
 rw [← Xp,if_neg (by simp;omega),htake]
 have hform:((Jk.zip (64 :: Zh n++r)).all fun p=>Z4E p.1 p.2)=true:=by
  rw [e]
  match a,ha with
  | [a0, a1, a2, a3], _=>
    match b,hb with
    | [b0, b1], _=>
      match c,hc with
      | [c0, c1], _=>
        simp only [Yaz,List.all_nil,YaS,Xi] at da db dc
        simp [Jk,Z4E,da,db,dc]
 rw [if_pos hform]
 simp only [List.drop_succ_cons,Ybd]
 rw [hp]
 simp
def Ja (y:Int):Int:=365 * (y - 1)+(y - 1) / 4 - (y - 1) / 100+(y - 1) / 400
def Z0m (y:Int):Nat→Int
 | 0=>0
 | k+1=>Z0m y k+ZM y ((k:Int)+1)
theorem Z8G (y:Int):Z0L y=true↔(y % 4=0∧(¬ y % 100=0∨y % 400=0)):=by
 unfold Z0L
 simp
theorem Z45 (y:Int):Ja (y+1)=Ja y+(if Z0L y=true then 366 else 365):=by
 unfold Ja
 have h:=Z8G y
 by_cases hl:Z0L y=true
 rw [if_pos hl]
 have:=h.1 hl
 omega
 rw [if_neg hl]
 have:¬ (y % 4=0∧(¬ y % 100=0∨y % 400=0)):=fun h'=>hl (h.2 h')
 omega
theorem Z1Y {a b:Int} (h:a≤b):Ja a≤Ja b:=by
 unfold Ja;omega
theorem Z1Z {y:Int} {k:Nat} (hk:k<12):28≤ZM y ((k:Int)+1):=by
 unfold ZM
 rw [if_neg (by omega)]
 repeat' split
 all_goals omega
theorem Zi8 (y:Int):∀ k:Nat,k≤11→Z0m y k=(if k<2 then 31 * (k:Int) else (if Z0L y=true then 1 else 0)+(153 * ((k:Int) - 2)+2) / 5+59):=by
 intro k hk
 have:k=0∨k=1∨k=2∨k=3∨k=4∨k=5∨k=6∨k=7∨k=8∨k=9∨k=10∨k=11:=by omega
 rcases this with rfl|rfl|rfl|rfl|rfl|rfl|rfl|rfl|rfl|rfl|rfl|rfl<;>simp [Z0m,ZM]<;>cases Z0L y<;>simp
theorem Zga (y:Int):Z0m y 12=if Z0L y=true then 366 else 365:=by
 simp [Z0m,ZM]
 cases Z0L y<;>simp
theorem Z2o (y d:Int) (k:Nat) (hk:k≤11):Z0h y ((k:Int)+1) d=Ja y+Z0m y k+d - 1:=by
 rw [Zi8 y k hk]
 unfold Z0h
 by_cases h2:k<2
 rw [if_pos h2,if_pos (by omega)]
 simp only
 unfold Ja
 omega
 rw [if_neg h2,if_neg (by omega)]
 simp only
 have h:=Z45 y
 have hl:=Z8G y
 have e:(153 * ((k:Int)+1 - 3)+2) / 5=(153 * ((k:Int) - 2)+2) / 5:=by congr 2;omega
 rw [e]
 generalize (153 * ((k:Int) - 2)+2) / 5=z
 have e2:Ja (y+1)=365 * y+y / 4 - y / 100+y / 400:=by unfold Ja;omega
 rw [e2] at h
 by_cases hl':Z0L y=true
 rw [if_pos hl'] at h ⊢;omega
 rw [if_neg hl'] at h ⊢;omega
theorem Z0Q {y:Int}:∀ {a b:Nat},a≤b→b≤12→Z0m y a≤Z0m y b
 | a, 0, h, _ => by obtain rfl : a = 0 := by omega
                    exact Yaw _
 | a, b + 1, h, h2 => by
   by_cases e:a=b+1
   subst e;exact Yaw _
   have:=Z0Q (y:=y) (a:=a) (b:=b) (by omega) (by omega)
   have:=Z1Z (y:=y) (k:=b) (by omega)
   simp only [Z0m];omega
theorem ZdY {n:Int} (h0:0≤n) (h1:n≤3652058):∃ k:Nat,k≤11∧(ofM n).m=(k:Int)+1∧1≤(ofM n).y∧(ofM n).y≤9999∧n=Ja (ofM n).y+Z0m (ofM n).y k+(ofM n).d - 1∧1≤(ofM n).d∧(ofM n).d≤ZM (ofM n).y ((k:Int)+1)∧Ja (ofM n).y≤n∧n<Ja ((ofM n).y+1):=by
 obtain ⟨g1,g2,g3,g4,g5,g6,g7⟩:=Z43 h0 h1
 obtain ⟨k,hk⟩:∃ k:Nat,(ofM n).m=(k:Int)+1:=⟨((ofM n).m - 1).toNat,by omega⟩
 have hk11:k≤11:=by omega
 rw [hk] at g6 g7
 rw [Z2o _ _ k hk11] at g7
 have c0:=Z0Q (y:=(ofM n).y) (a:=0) (b:=k) (by omega) (by omega)
 have c1:=Z0Q (y:=(ofM n).y) (a:=k+1) (b:=12) (by omega) (by omega)
 have c2:=Zga (ofM n).y
 have c3:=Z45 (ofM n).y
 rw [c2,show Z0m (ofM n).y (k+1)=Z0m (ofM n).y k+ZM (ofM n).y ((k:Int)+1) from rfl] at c1
 rw [show Z0m (ofM n).y 0=0 from rfl] at c0
 exact ⟨k,hk11,hk,g1,g2,g7.symm,g5,g6,by omega,by omega⟩
theorem ZaE (k:Nat) (h:0<k):Lib.decDigits k=(if k / 10=0 then [] else Lib.decDigits (k / 10))++[UInt8.ofNat (48+k % 10)]:=by
 rw [Lib.decDigits]
 by_cases h10:k<10
 rw [dif_pos h10,if_pos (by omega)]
 simp [Nat.mod_eq_of_lt h10]
 rw [dif_neg h10,if_neg (by omega)]
theorem Z8H (d:Nat) (h:d<10):(([48,49,50,51,52,53,54,55,56,57]:Str).take (d+1)).drop d=[UInt8.ofNat (48+d)]:=by
 have:d=0∨d=1∨d=2∨d=3∨d=4∨d=5∨d=6∨d=7∨d=8∨d=9:=by omega
 rcases this with rfl|rfl|rfl|rfl|rfl|rfl|rfl|rfl|rfl|rfl<;>rfl
end Go.Eng
namespace Go.Proofs.YtjdjdoefppebkaaGreatDoor
open Go Go.Eng Go.RowKit Go.Proofs
def Z5r:List Int:=[0,31,28,31,30,31,30,31,31,30,31,30,31]
def Z0M (w:World):Prop:=∀ i u,Z5r[i]?=some u→w.cell? ⟨1,i,none⟩=some (.int .i64 u)
theorem Z0M.ext {S:List Nat} {w w':World} (h:Z0M w) (hS:Stp S w w') (hb:1∉S):Z0M w':=fun i u hu=>hS.cell hb (h i u hu)
theorem Z0M.up {w w':World} (h:Z0M w) (hS:Stp [] w w'):Z0M w':=h.ext hS (by simp)
theorem Zgb (y:Int) (w:World) (h0:0≤y) (h1:y≤100000):CC 310 #[.int .i64 y] w fun r w'=>r=.bool (Z0L y)∧w'=w:=by
 unfold Z0L
 refine cW1 16 Tryz.func310 ?_
 repeat'(first|refine W1 ?_|omega|refine VG ?_ ?_<;>intro hg|refine VC ?_ ?_<;>intro hc)
 all_goals refine WR ?_
 all_goals refine .mk ⟨?_,rfl⟩
 all_goals congr 1
 all_goals (first|done|(rw [X0];simp;omega)|(simp [*]))
theorem Z3D (y m:Int) (w:World) (hL:Z0M w) (h0:0≤y) (h1:y≤100000):CC 282 #[.int .i64 y,.int .i64 m] w fun r w'=>r=.int .i64 (ZM y m)∧w'=w:=by
 unfold ZM
 refine cW2 22 Tryz.func282 ?_
 by_cases hm:m<1∨12<m
 · rw [if_pos hm]
   repeat'(first|refine W1 ?_|omega|refine VG ?_ ?_<;>intro hg|refine VC ?_ ?_<;>intro hc)
   all_goals refine WR ?_
   all_goals exact .mk ⟨rfl,rfl⟩
 rw [if_neg hm]
 obtain ⟨k,rfl⟩:∃ k:Nat,m=(k:Int):=⟨m.toNat,by omega⟩
 have hk:k<13:=by omega
 have hcell:w.cell? ⟨1,0+k * 1,none⟩=some (.int .i64 (Z5r.getD k 0)):=hL _ _ (by
  have:k<Z5r.length:=hk
  simp [List.getD,this])
 by_cases h2:(k:Int)=2
 rw [if_pos h2]
 focus repeat'(first|refine W1 ?_|omega|refine VG ?_ ?_<;>intro hg|refine VC ?_ ?_<;>intro hc)
 refine CL rfl (Zp rfl) rfl (Zgb y _ h0 h1) ?_
 rintro _ _ ⟨rfl,rfl⟩
 cases hl:Z0L y
 refine W ?_
 refine Z7 (Z2V rfl rfl hcell) rfl ?_
 refine W ?_
 refine WR ?_
 obtain rfl:k=2:=by omega
 exact .mk ⟨rfl,rfl⟩
 refine W ?_
 refine WR ?_
 exact .mk ⟨rfl,rfl⟩
 rw [if_neg h2]
 focus repeat'(first|refine W1 ?_|omega|refine VG ?_ ?_<;>intro hg|refine VC ?_ ?_<;>intro hc)
 refine Z7 (Z2V rfl rfl hcell) rfl ?_
 refine W ?_
 refine WR ?_
 refine .mk ⟨?_,rfl⟩
 congr 1
 have:k=1∨k=3∨k=4∨k=5∨k=6∨k=7∨k=8∨k=9∨k=10∨k=11∨k=12:=by omega
 rcases this with rfl|rfl|rfl|rfl|rfl|rfl|rfl|rfl|rfl|rfl|rfl<;>rfl
abbrev ZdZ (y m d:Int):Value:=.agg #[.int .i64 y,.int .i64 m,.int .i64 d]
def Z2p (y m d:Int):Prop:=y<1∨9999<y∨m<1∨12<m∨d<1∨ZM y m<d
instance (y m d:Int):Decidable (Z2p y m d):=by unfold Z2p;infer_instance
theorem Zc5 (y m d:Int) (w:World) (hL:Z0M w):CC 325 #[ZdZ y m d] w fun r w'=>r=.int .i64 (if Z2p y m d then 5 else 0)∧Stp [] w w':=by
 refine cW1 36 Tryz.func325 ?_
 refine W ?_
 refine Z3 (Zs rfl) rfl ?_
 rintro _ w1 ⟨b,rfl,hb,hblk,hS⟩
 replace hblk:Blk w1 b 291 [.int .i64 y,.int .i64 m,.int .i64 d]:=hblk
 replace hL:=hL.up hS
 refine W ?_
 refine ZDr 33 [] [] [(0,0),(1,1),(2,0),(3,0),(4,0),(5,1),(6,0),(7,0),(8,0),(9,0),(10,1),(11,0),(12,0),(13,0),(14,0),(15,1),(16,0),(17,0),(18,0),(19,0),(20,1),(21,0),(22,0),(23,0),(24,0),(25,1),(26,0),(27,1),(28,0),(29,1),(30,2),(31,0),(32,0)] (fun w1 hS1=>?_)
 replace hblk:=hblk.up hS1
 replace hL:=hL.up hS1
 replace hS:=hS.trans hS1
 clear hS1
 by_cases hg:y<1∨9999<y∨m<1∨12<m∨d<1
 · have hbad:Z2p y m d:=by unfold Z2p;omega
   rw [if_pos hbad]
   repeat'(first|refine D1 ?_|omega|refine Z0r rfl rfl rfl rfl (fun hg=>?_) (fun hg=>?_)|(refine JY rfl rfl rfl rfl (fun hg=>?_) (fun hg=>?_)<;>refine D1 ?_)|fail)
   all_goals repeat'(first|refine W1 ?_|omega|refine VG ?_ ?_<;>intro hg|refine VC ?_ ?_<;>intro hc)
   all_goals refine WR ?_
   all_goals exact .mk ⟨rfl,hS⟩
 · repeat'(first|refine D1 ?_|omega|refine Z0r rfl rfl rfl rfl (fun hg=>?_) (fun hg=>?_)|(refine JY rfl rfl rfl rfl (fun hg=>?_) (fun hg=>?_)<;>refine D1 ?_)|fail)
   refine Zb rfl rfl (Z5 rfl (Z9 rfl rfl) (Z3D y m _ hL (by omega) (by omega))) (fun _ _ h=>by rw [h.2];exact Stp.refl _ _) rfl ?_
   rintro _ w3 ⟨rfl,rfl⟩
   repeat'(first|refine D1 ?_|omega|refine Z0r rfl rfl rfl rfl (fun hg=>?_) (fun hg=>?_)|(refine JY rfl rfl rfl rfl (fun hg=>?_) (fun hg=>?_)<;>refine D1 ?_)|fail)
   all_goals repeat'(first|refine W1 ?_|omega|refine VG ?_ ?_<;>intro hg|refine VC ?_ ?_<;>intro hc)
   refine WR ?_
   exact .mk ⟨by rw [if_pos (by unfold Z2p;omega)],hS⟩
   refine WR ?_
   exact .mk ⟨by rw [if_neg (by unfold Z2p;omega)],hS⟩
theorem Z52 (y m d:Int) (w:World) (hy:0≤y) (hy2:y≤100000) (hm:1≤m) (hm2:m≤12) (hd:0≤d) (hd2:d≤100000) (h1:m - 3<0→1≤y):CC 283 #[ZdZ y m d] w fun r w'=>r=.int .i64 (Z0h y m d)∧Stp [] w w':=by
 refine cW1 36 Tryz.func283 ?_
 refine W ?_
 refine Z3 (Zs rfl) rfl ?_
 rintro _ w1 ⟨b,rfl,hb,hblk,hS⟩
 replace hblk:Blk w1 b 291 [.int .i64 y,.int .i64 m,.int .i64 d]:=hblk
 refine W ?_
 refine ZDr 7 [] [] [(0,0),(1,1),(2,0),(3,1),(4,0),(5,0),(6,0)] (fun w1 hS1=>?_)
 replace hblk:=hblk.up hS1
 replace hS:=hS.trans hS1
 clear hS1
 refine D ?_
 repeat'(first|refine W1 ?_|omega|refine VG ?_ ?_<;>intro hg|refine VC ?_ ?_<;>intro hc)
 all_goals refine WR ?_
 all_goals refine .mk ⟨?_,hS⟩
 all_goals unfold Z0h
 rw [if_pos (by assumption)]
 congr 1
 dsimp only
 omega
 rw [if_neg (by assumption)]
theorem Z7w (y m d:Int) (w:World) (hL:Z0M w):CC 306 #[ZdZ y m d] w fun r w'=>r=.tuple #[.int .i64 (if Z2p y m d then 0 else Z0h y m d),.int .i64 (if Z2p y m d then 5 else 0)]∧Stp [] w w':=by
 refine cW1 12 Tryz.func306 ?_
 refine W ?_
 refine Z3 (Zs rfl) rfl ?_
 rintro _ w1 ⟨b,rfl,hb,hblk,hS⟩
 replace hblk:Blk w1 b 291 [.int .i64 y,.int .i64 m,.int .i64 d]:=hblk
 replace hL:=hL.up hS
 refine W ?_
 refine CL rfl (Zp rfl) rfl (Zc5 y m d _ hL) ?_
 rintro _ w2 ⟨rfl,hT⟩
 replace hblk:=hblk.up hT
 replace hS:=hS.trans hT
 clear hT
 by_cases hbad:Z2p y m d
 rw [if_pos hbad,if_pos hbad]
 refine W ?_
 refine WR ?_
 exact .mk ⟨rfl,hS⟩
 rw [if_neg hbad,if_neg hbad]
 refine W ?_
 have h31:=Z19 y m
 unfold Z2p at hbad
 refine CL rfl (Zp rfl) rfl (Z52 y m d _ (by omega) (by omega) (by omega) (by omega) (by omega) (by omega) (by omega)) ?_
 rintro _ w3 ⟨rfl,hT⟩
 refine W ?_
 refine WR ?_
 exact .mk ⟨rfl,hS.trans hT⟩
structure Hol where
 kind:Int
 month:Int
 day:Int
 wd:Int
 nth:Int
 off:Int
 move:Int
 first:Int
 last:Int
structure Clo where
 lo:Int
 hi:Int
 known:Int
structure Cal where
 week:List Bool
 hols:List Hol
 clos:List Clo
def ZW (d:Int):Bool:=decide (0≤d∧d≤3652058)
def Z3P (y:Int):Int:=
 let a:=y % 19
 let b:=y / 100
 let c:=y % 100
 let g:=(b - (b+8) / 25+1) / 3
 let h:=(19 * a+b - b / 4 - g+15) % 30
 let l:=(32+2 * (b % 4)+2 * (c / 4) - h - c % 4) % 7
 h+l - 7 * ((a+11 * h+22 * l) / 451)+114
def Z5s (y:Int):Int:=Z0h y (Z3P y / 31) (Z3P y % 31+1)
def Z46 (y m wd:Int):Int:=Z0h y m 1+(wd - Z0h y m 1 % 7+7) % 7
def Zi9 (h:Hol) (y:Int):Option Int:=
 if y<h.first∨h.last<y then none
 else if h.kind=1 then (if Z2p y h.month h.day then none else some (Z0h y h.month h.day))
 else if h.kind=2 then (if Z46 y h.month h.wd+7 * (h.nth - 1)<Z0h y h.month 1+ZM y h.month then some (Z46 y h.month h.wd+7 * (h.nth - 1)) else none)
 else if h.kind=3 then some (Z46 y h.month h.wd+(Z0h y h.month 1+ZM y h.month - 1 - Z46 y h.month h.wd) / 7 * 7)
 else if y<1583∨9999<y then none else some (Z5s y+h.off)
def Z47 (m d:Int):Int:=if m=1∧d % 7=5 then d+2 else if m=2∧d % 7=5 then d - 1 else if (m=1∨m=2)∧d % 7=6 then d+1 else d
def Z2J (h:Hol) (y:Int):Option Int:=(Zi9 h y).bind fun d=>if ZW (Z47 h.move d) then some (Z47 h.move d) else none
structure Z2q (h:Hol):Prop where
 k1:1≤h.kind
 k2:h.kind≤4
 m1:0≤h.move
 m2:h.move≤2
 f1:1≤h.first
 l1:h.last≤9999
 month:h.kind≠4→1≤h.month∧h.month≤12
 day:h.kind=1→1≤h.day∧h.day≤31
 wd:h.kind=2∨h.kind=3→0≤h.wd∧h.wd≤6
 nth:h.kind=2→1≤h.nth∧h.nth≤5
 off:h.kind=4→-100≤h.off∧h.off≤100
def Z7x (l:List Hol) (d:Int):Bool:=
 ZW d && [(ofM d).y - 1,(ofM d).y,(ofM d).y+1].any fun y=>l.any fun h=>decide (Z2J h y=some d)
def ZaF (l:List Clo) (known d:Int):Bool:=l.any fun x=>decide (x.known≤known∧x.lo≤d∧d≤x.hi)
def ZcY (c:Cal) (known d:Int):Bool:=c.week.getD (d % 7).toNat false || ZaF c.clos known d || Z7x c.hols d
def Zv (c:Cal) (known d:Int):Bool:=ZW d && !ZcY c known d
structure ZcZ (c:Cal):Prop where
 week:c.week.length=7
 hols:∀ h∈c.hols,Z2q h
 few:c.hols.length≤6
def Z48 (opn:Int→Bool) (step:Int):Nat→Int→Int×Int
 | 0,_=>(0,31)
 | k+1,d=>if ZW d=true then (if opn d=true then (d,0) else Z48 opn step k (d+step)) else (0,31)
def JN (opn:Int→Bool) (step d:Int):Int×Int:=if ZW d=true then Z48 opn step 1001 d else (0,5)
def Z60 (opn:Int→Bool) (step:Int):Nat→Int→Int×Int
 | 0,d=>(d,0)
 | k+1,d=>if (JN opn step (d+step)).2=0 then Z60 opn step k (JN opn step (d+step)).1 else (0,31)
def Z61 (opn:Int→Bool) (d n:Int):Int×Int:=
 if ZW d=true then (if n < -1000∨1000<n then (0,2) else Z60 opn (if n<0 then -1 else 1) n.natAbs d) else (0,5)
def ZaG (d n:Int):Int×Int:=
 if n < -200000∨200000<n then (0,2) else if ZW d=true then
  (let m:=12 * (ofM d).y+(ofM d).m - 1+n
   if m<12∨120000≤m then (0,5) else (Z0h (m / 12) (m % 12+1) (min (ofM d).d (ZM (m / 12) (m % 12+1))),0))
 else (0,5)
def Jr (b:Bool):Int:=if b=true then 1 else 0
def Z3E (n:Int):Int×Int:=if n < -2147483647∨2147483647<n then (0,5) else (n,0)
def ZaH (n:Int):Int×Int:=if n<0∨3652058<n then (0,5) else (n,0)
def Z6J (ev:List Int) (n:Int):Int×Int:=if n=1∧ev.getD 1 0=-1 then (0,32) else (ev.getD n.toNat 0,0)
def Z3a (opn:Int→Bool) (op b:Int):Int×Int:=
 if op=8 then (-b,0) else if op=19 then JN opn 1 b else if op=20 then JN opn (-1) b else (1 - b,0)
def Jf (opn:Int→Bool) (op a b:Int):Int×Int:=
 if op=5 then Z3E (a+b) else if op=6 then Z3E (a - b) else if op=7 then Z3E (a * b)
 else if op=9 then (Jr (decide (a<b)),0) else if op=10 then (Jr (decide (a≤b)),0) else if op=11 then (Jr (decide (a=b)),0)
 else if op=15 then ZaH (a+b) else if op=16 then ZaH (a+7 * b) else if op=17 then ZaG a b else if op=18 then Z61 opn a b
 else if op=21 then (max a b,0) else if op=22 then (min a b,0) else (b - a,0)
def arM (op:Int):Nat:=if op=1∨op=2∨op=3∨op=4 then 0 else if op=8∨op=12∨op=19∨op=20 then 1 else 2
def Jq (opn:Int→Bool) (ev:List Int) (x:Ins) (a b:Int):Int×Int:=
 if x.op=4 then Z6J ev x.n else if arM x.op=0 then (x.n,0) else if arM x.op=1 then Z3a opn x.op b else Jf opn x.op a b
abbrev Spn:=Int×Int
def Z0b (op a b r:Int):List Spn:=
 if op=19 then [(b,r)] else if op=20 then [(r,b)] else if op=18 then (if 0<b then [(a+1,r)] else if b<0 then [(r,a - 1)] else []) else []
def Js (st:List Int) (k:Nat):Int:=if k<st.length then st.getD (st.length - 1 - k) 0 else 0
def Z2R (opn:Int→Bool) (ev:List Int) (C:List Ins):Nat→Nat→List Int→List Spn→Int×List Spn×Int
 | 0,_,_,_=>(0,[],22)
 | f + 1, i, st, sp=>
   let x:=C.getD i ⟨0,0⟩
   let b:=Js st 0
   let a:=Js st 1
   if x.op=24 then (b,sp,0)
   else if x.op=13 then Z2R opn ev C f x.n.toNat st sp
   else if x.op=14 then Z2R opn ev C f (if b=0 then x.n.toNat else i+1) st.dropLast sp
   else if (Jq opn ev x a b).2=0 then Z2R opn ev C f (i+1) (st.take (st.length - arM x.op)++[(Jq opn ev x a b).1]) (sp++Z0b x.op a b (Jq opn ev x a b).1)
   else (0,[],(Jq opn ev x a b).2)
def Z0V (opn:Int→Bool) (ev:List Int) (C:List Ins):Int×List Spn×Int:=Z2R opn ev C C.length 0 [] []
def Zj8 (s:Str):Int:=if s=[100,97,121,115] then 15 else if s=[119,101,101,107,115] then 16 else if s=[109,111,110,116,104,115] then 17 else 18
def Zp5 (s:Str):Int:=if s=[110,101,120,116] then 19 else if s=[112,114,101,118] then 20 else if s=[108,97,116,101,114] then 21 else if s=[101,97,114,108,105,101,114] then 22 else 23
def Zp6 (s:Str) (a b:Int):Int×Int:=
 if s=[43] then Z3E (a+b) else if s=[45] then Z3E (a - b) else if s=[42] then Z3E (a * b)
 else if s=[60] then (Jr (decide (a<b)),0) else if s=[60,61] then (Jr (decide (a≤b)),0) else if s=[61] then (Jr (decide (a=b)),0)
 else if s=[33,61] then (Jr (decide (¬ a=b)),0) else if s=[62] then (Jr (decide (b<a)),0) else if s=[62,61] then (Jr (decide (b≤a)),0) else (b,0)
def Zo (opn:Int→Bool) (ev:List Int) (k n:Int) (s:Str) (rs:List (Int×Int)):Int×Int:=
 if k=1∨k=2∨k=3 then (n,0) else if k=4 then Z6J ev (ZZ s).1
 else if ¬ (rs.getD 0 (0,0)).2=0 then (0,(rs.getD 0 (0,0)).2)
 else if k=5 then (if s=[110,111,116] then (1 - (rs.getD 0 (0,0)).1,0) else (-(rs.getD 0 (0,0)).1,0))
 else if k=9 then rs.getD (2 - (rs.getD 0 (0,0)).1).toNat (0,0)
 else if rs.length=1 then Z3a opn (Zp5 s) (rs.getD 0 (0,0)).1
 else if k=6∧(s=[97,110,100]∧(rs.getD 0 (0,0)).1=0∨s=[111,114]∧(rs.getD 0 (0,0)).1=1) then ((rs.getD 0 (0,0)).1,0)
 else if ¬ (rs.getD 1 (0,0)).2=0 then (0,(rs.getD 1 (0,0)).2)
 else if k=7 then Jf opn (Zj8 s) (rs.getD 0 (0,0)).1 (rs.getD 1 (0,0)).1
 else if k=8 then Jf opn (Zj8 s) (rs.getD 0 (0,0)).1 (-(rs.getD 1 (0,0)).1)
 else if k=10 then Jf opn (Zp5 s) (rs.getD 0 (0,0)).1 (rs.getD 1 (0,0)).1
 else Zp6 s (rs.getD 0 (0,0)).1 (rs.getD 1 (0,0)).1
def Z4 (opn:Int→Bool) (ev:List Int):Nd→Int×Int
 | .mk k n s l=>Zo opn ev k n s (l.map (Z4 opn ev))
theorem Z2r (opn:Int→Bool) (ev:List Int) (x:Nd):Z4 opn ev x=Zo opn ev x.kind x.num x.word (x.kids.map (Z4 opn ev)):=by
 cases x
 rw [Z4]
 rfl
def vOk (t v:Int):Prop:=(t=1∧-2147483647≤v∧v≤2147483647)∨(t=2∧(v=0∨v=1))∨(t=3∧0≤v∧v≤3652058)
structure Z49 (ev:List Int):Prop where
 len:ev.length=7
 day:0≤ev.getD 0 0∧ev.getD 0 0≤3652058
 served:-1≤ev.getD 1 0∧ev.getD 1 0≤3652058
 rest:∀ i,2≤i→i<7→-2147483647≤ev.getD i 0∧ev.getD i 0≤2147483647
def JI (s:Shp) (st:List Int):Prop:=s.length=st.length∧∀ i (h:i<s.length) (h':i<st.length),vOk s[i] st[i]
theorem J1 {d:Int}:ZW d=true↔0≤d∧d≤3652058:=by unfold ZW;simp
theorem ZaI (opn:Int→Bool) (step:Int):∀ (k:Nat) (d:Int),(Z48 opn step k d).2=0→ZW (Z48 opn step k d).1=true∧opn (Z48 opn step k d).1=true
 | 0,d,h=>by simp [Z48] at h
 | k + 1, d, h => by
   unfold Z48 at h ⊢
   split at h
   rename_i h1
   rw [if_pos h1]
   split at h
   rename_i h2
   rw [if_pos h2]
   exact ⟨h1,h2⟩
   rename_i h2
   rw [if_neg h2]
   exact ZaI opn step k _ h
   simp at h
theorem Z3b {opn:Int→Bool} {step d:Int} (h:(JN opn step d).2=0):ZW (JN opn step d).1=true∧ZW d=true:=by
 unfold JN at h ⊢
 split at h
 rename_i h1
 rw [if_pos h1]
 exact ⟨(ZaI _ _ _ _ h).1,h1⟩
 simp at h
theorem Zd0 (opn:Int→Bool) (step:Int):∀ (k:Nat) (d:Int),ZW d=true→(Z60 opn step k d).2=0→ZW (Z60 opn step k d).1=true
 | 0,d,hd,h=>hd
 | k + 1, d, hd, h => by
   unfold Z60 at h ⊢
   split at h
   rename_i h1
   rw [if_pos h1]
   exact Zd0 opn step k _ (Z3b h1).1 h
   simp at h
theorem Z9o {opn:Int→Bool} {d n:Int} (h:(Z61 opn d n).2=0):ZW (Z61 opn d n).1=true:=by
 unfold Z61 at h ⊢
 split at h
 rename_i h1
 rw [if_pos h1]
 split at h
 simp at h
 rename_i h2
 rw [if_neg h2]
 exact Zd0 _ _ _ _ h1 h
 simp at h
theorem dayM_range {y m d:Int} (hy:1≤y) (hy2:y≤9999) (hm:1≤m) (hm2:m≤12) (hd:1≤d) (hd2:d≤ZM y m):0≤Z0h y m d∧Z0h y m d≤3652058:=by
 obtain ⟨k,hk⟩:∃ k:Nat,m=(k:Int)+1:=⟨(m - 1).toNat,by omega⟩
 subst hk
 have hk:k≤11:=by omega
 rw [Z2o y d k hk]
 have h0:Ja 1=0:=by decide
 have h1:=Z1Y hy
 have h2:=Z1Y (show y+1≤10000 by omega)
 have h3:Ja 10000=3652059:=by decide
 have hc0:0≤Z0m y k:=by
  have:=Z0Q (y:=y) (Xy k) (by omega)
  simpa [Z0m] using this
 have hc:Z0m y (k+1)=Z0m y k+ZM y ((k:Int)+1):=by simp [Z0m]
 have hc12:=Z0Q (y:=y) (show k+1≤12 by omega) (Xo _)
 have hs:=Z45 y
 have h12:=Zga y
 omega
theorem Z9p {d n:Int} (h:(ZaG d n).2=0):ZW (ZaG d n).1=true:=by
 unfold ZaG at h ⊢
 split at h
 simp at h
 rename_i h0
 rw [if_neg h0]
 split at h
 rename_i h1
 rw [if_pos h1]
 dsimp only at h ⊢
 split at h
 simp at h
 rename_i h2
 rw [if_neg h2]
 rw [J1] at h1 ⊢
 obtain ⟨a1,a2,a3,a4,a5,a6,a7⟩:=Z43 h1.1 h1.2
 generalize 12 * (ofM d).y+(ofM d).m - 1+n=m at h2
 have hk:(m % 12).toNat<12:=by omega
 have hl:=Z1Z (y:=m / 12) hk
 rw [show (((m % 12).toNat:Int))=m % 12 by omega] at hl
 dsimp only
 exact dayM_range (by omega) (by omega) (by omega) (by omega) (by omega) (by omega)
 simp at h
theorem JI.nil:JI [] []:=⟨rfl,fun i h=>absurd h (XI _)⟩
theorem JI.one {t v:Int} (h:vOk t v):JI [t] [v]:=⟨rfl,fun i hi _=>by
 have:i=0:=by simpa using hi
 subst this;exact h⟩
theorem JI.app {s1 s2:Shp} {l1 l2:List Int} (h1:JI s1 l1) (h2:JI s2 l2):JI (s1++s2) (l1++l2):=by
 refine ⟨by simp [h1.1,h2.1],fun i h h'=>?_⟩
 by_cases hi:i<s1.length
 rw [XP hi,XP (by rw [← h1.1];exact hi)]
 exact h1.2 i hi _
 have e:=h1.1
 rw [XN (by omega),XN (by omega)]
 have:=h2.2 (i - s1.length) (by simp at h;omega) (by simp at h';omega)
 simpa [e] using this
theorem JI.take {s:Shp} {l:List Int} (h:JI s l) (k:Nat):JI (s.take k) (l.take k):=
 ⟨by simp [h.1],fun i hi hi'=>by simp at hi hi' ⊢;exact h.2 i _ _⟩
theorem JI.drop {s:Shp} {l:List Int} (h:JI s l) (k:Nat):JI (s.drop k) (l.drop k):=
 ⟨by simp [h.1],fun i hi hi'=>by simp at hi hi' ⊢;exact h.2 _ _ _⟩
theorem JI.one_inv {t:Int} {l:List Int} (h:JI [t] l):∃ v,l=[v]∧vOk t v:=by
 match l,h with
 | [v],h=>exact ⟨v,rfl,h.2 0 (by simp) (by simp)⟩
 | [],h=>exact absurd h.1 (by simp)
 | _ :: _ :: _,h=>exact absurd h.1 (by simp)
theorem JI.two_inv {t u:Int} {l:List Int} (h:JI [t,u] l):∃ a b,l=[a,b]∧vOk t a∧vOk u b:=by
 match l,h with
 | [a,b],h=>exact ⟨a,b,rfl,h.2 0 (by simp) (by simp),h.2 1 (by simp) (by simp)⟩
 | [],h=>exact absurd h.1 (by simp)
 | [_],h=>exact absurd h.1 (by simp)
 | _ :: _ :: _ :: _,h=>exact absurd h.1 (by simp)
theorem Z1E (l:List Int) (v:Int):Js (l++[v]) 0=v:=by
 unfold Js
 simp
theorem ZY (l:List Int) (a b:Int):Js (l++[a,b]) 0=b∧Js (l++[a,b]) 1=a:=by
 unfold Js
 constructor<;>simp [Xx,Yam]
theorem Z6S {n:Int} (h:(Z3E n).2=0):vOk 1 (Z3E n).1:=by
 unfold Z3E at h ⊢
 split at h
 simp at h
 rename_i h1;rw [if_neg h1];left;refine ⟨rfl,?_,?_⟩<;>dsimp only<;>omega
theorem Z5t {n:Int} (h:(ZaH n).2=0):vOk 3 (ZaH n).1:=by
 unfold ZaH at h ⊢
 split at h
 simp at h
 rename_i h1;rw [if_neg h1];right;right;refine ⟨rfl,?_,?_⟩<;>dsimp only<;>omega
theorem Z1F (b:Bool):vOk 2 (Jr b):=by
 right;left;refine ⟨rfl,?_⟩;unfold Jr;cases b<;>simp
theorem vOk.days {v:Int} (h:ZW v=true):vOk 3 v:=.inr (.inr ⟨rfl,J1.1 h⟩)
theorem vOk.n {v:Int} (h:vOk 1 v):-2147483647≤v∧v≤2147483647:=by unfold vOk at h;omega
theorem vOk.b {v:Int} (h:vOk 2 v):v=0∨v=1:=by unfold vOk at h;omega
theorem vOk.d {v:Int} (h:vOk 3 v):0≤v∧v≤3652058:=by unfold vOk at h;omega
theorem Z7y {x:Ins} (h:(J7 x).2.2.2=true):1≤x.op∧x.op≤24:=by
 by_cases h1:1≤x.op∧x.op≤24
 exact h1
 · exfalso
   have:J7 x=([],[],[],false):=by
    unfold J7
    repeat rw [if_neg (by omega)]
   rw [this] at h
   simp at h
theorem ZmI {opn:Int→Bool} {ev:List Int} (hev:Z49 ev) {x:Ins} {ts vs:List Int} (hx:(J7 x).2.2.2=true) (h24:x.op≠24) (h13:x.op≠13) (h14:x.op≠14)
 (ht:ts=(J7 x).1∨(J7 x).2.1≠[]∧ts=(J7 x).2.1) (hs:JI ts vs) :
 ts.length=arM x.op∧(J7 x).1.length=arM x.op∧∀ st,((Jq opn ev x (Js (st++vs) 1) (Js (st++vs) 0)).2=0→JI (J7 x).2.2.1 [(Jq opn ev x (Js (st++vs) 1) (Js (st++vs) 0)).1]):=by
 have hr:=Z7y hx
 obtain ⟨op,n⟩:=x
 dsimp only at *
 have hop:op=1∨op=2∨op=3∨op=4∨op=5∨op=6∨op=7∨op=8∨op=9∨op=10∨op=11∨op=12∨op=15∨op=16∨op=17∨op=18∨op=19∨op=20∨op=21∨op=22∨op=23:=by omega
 rcases hop with rfl|rfl|rfl|rfl|rfl|rfl|rfl|rfl|rfl|rfl|rfl|rfl|rfl|rfl|rfl|rfl|rfl|rfl|rfl|rfl|rfl
 case inl|inr.inl|inr.inr.inl=>
  simp [J7] at hx ht ⊢
  subst ht
  refine ⟨rfl,rfl,fun st _=>JI.one ?_⟩
  simp [Jq,arM,vOk]
  omega
 case inr.inr.inr.inl=>
  simp [J7] at hx ht ⊢
  subst ht
  refine ⟨rfl,rfl,fun st h=>JI.one ?_⟩
  simp only [Jq,if_true] at h ⊢
  unfold Z6J at h ⊢
  split at h
  simp at h
  rename_i h1
  rw [if_neg h1]
  dsimp only
  have h0:=hev.day
  have hs1:=hev.served
  by_cases h01:n=0∨n=1
  rw [if_pos h01]
  right;right
  rcases h01 with rfl|rfl
  exact ⟨rfl,h0.1,h0.2⟩
  refine ⟨rfl,?_,hs1.2⟩
  have:¬ ev.getD 1 0=-1:=fun h=>h1 ⟨rfl,h⟩
  show 0≤ev.getD 1 0
  omega
  rw [if_neg h01]
  left
  exact ⟨rfl,hev.rest n.toNat (by omega) (by omega)⟩
 all_goals
  simp [J7] at hx ht ⊢
  try subst hx
 all_goals
  first
  | (subst ht
     obtain ⟨b,rfl,hb⟩:=hs.one_inv
     refine ⟨rfl,rfl,fun st h=>JI.one ?_⟩
     simp only [Z1E] at h ⊢
     simp [Jq,arM,Z3a,Jf] at h ⊢
     first
     | exact .days (Z3b h).1
     | (have:=hb.n;unfold vOk;omega)
     | (have:=hb.b;unfold vOk;omega))
  | (rcases ht with rfl | rfl <;>
     (obtain ⟨a,b,rfl,ha,hb⟩:=hs.two_inv
      refine ⟨rfl,rfl,fun st h=>JI.one ?_⟩
      simp only [ZY] at h ⊢
      simp [Jq,arM,Z3a,Jf] at h ⊢
      exact Z1F _))
  | (subst ht
     obtain ⟨a,b,rfl,ha,hb⟩:=hs.two_inv
     refine ⟨rfl,rfl,fun st h=>JI.one ?_⟩
     simp only [ZY] at h ⊢
     simp [Jq,arM,Z3a,Jf] at h ⊢
     first
     | exact Z6S h
     | exact Z5t h
     | exact .days (Z9p h)
     | exact .days (Z9o h)
     | (have:=ha.d;have:=hb.d;unfold vOk;omega))
theorem ZaJ {opn:Int→Bool} {ev:List Int} (hev:Z49 ev) {x:Ins} {s nx:Shp} {st:List Int} (hn:Jn x s=some nx) (h24:x.op≠24) (h13:x.op≠13) (h14:x.op≠14) (hs:JI s st)
 (he:(Jq opn ev x (Js st 1) (Js st 0)).2=0):JI nx (st.take (st.length - arM x.op)++[(Jq opn ev x (Js st 1) (Js st 0)).1]):=by
 unfold Jn at hn
 dsimp only at hn
 split at hn
 rename_i hc
 obtain ⟨c1,c2,c3,c4⟩:=hc
 simp only [Xj] at hn
 subst hn
 have hsp:st=st.take (s.length - (J7 x).1.length)++st.drop (s.length - (J7 x).1.length):=(XV _ _).symm
 obtain ⟨v1,v2,v3⟩:=ZmI (opn:=opn) hev c1 h24 h13 h14 c3 (hs.drop _)
 have v4:=v3 (st.take (s.length - (J7 x).1.length))
 rw [← hsp] at v4
 rw [← v2,← hs.1]
 exact (hs.take _).app (v4 he)
 cases hn
end Go.Proofs.YtjdjdoefppebkaaGreatDoor
