/-
Merged by program out of own texts: Psr2, PsrP, Gen3, Psr3, Psr4, Psr5, Psr6, Psr7, Eng26, Eng27, LexM, Lex1, Rt7, Eng18, Dat1, Dat2, Eng19, Eng20, Lex2, Lex3, Lex4, Lex5.
-/
import Derived.Test.YtjdjdoefppebkaaGreatDoorM2
import Derived.Recover
import Derived.Laws.BitsAllLaws
import Derived.Laws.Bits64
import Derived.Lib.SlBytesRow
import Derived.Lib.AppendStr
import Derived.Laws.BytesArg
import Derived.Laws.Cover3
import Derived.Scope
import Derived.Laws.Runes
import Derived.Lib.IndexLaws
import Derived.Lib.AtoiAll
import Derived.WideLaws
set_option linter.unusedVariables false
set_option linter.unusedSimpArgs false
namespace Go.Proofs.YtjdjdoefppebkaaGreatDoor
open Go Go.Eng Go.RowKit Go.Proofs
theorem ZX {w w':World} {b:Nat} {m:Int} (hm:w.cell? ⟨2,0,none⟩=some (.int .i64 m)) (hb:b≠2) (hS:Stp [b] w w'):w'.cell? ⟨2,0,none⟩=some (.int .i64 m):=
 hS.cell (by simpa using fun h=>hb h.symm) hm
theorem Zdn (t:Tkn) (w:World):(Instr.field 167 (.agg (Z5.enc t).toArray) 2).run Tryz.prog w=.ok (str t.text) w:=by kernel_rfl
theorem Jq (b:Nat) (tv:Value) (l:List Tkn) (hL:Z25 l) (s:Str) (hs0:s≠[]) (i o:Nat) (w:World) (hp:Pd w b tv l i o) :
 Calls Tryz.prog 212 #[.pointer (some ⟨b,0,none⟩),str s] w (PC b w tv l (JJ l s i o) (fun _ v _=>v=.tuple #[])):=by
 have hn:(cur l i).text=s→i+1<l.length:=fun h=>hL.end_of hp.i_lt (by rw [h];exact hs0)
 unfold JJ
 refine cW2 31 Tryz.func212 ?_
 refine W ?_
 refine CL rfl (Zk rfl) rfl (Jl b tv l i o _ hp) ?_
 rintro _ w1 ⟨rfl,hS1⟩
 have hp1:=hp.up hS1
 have hS:=hS1.mono (S':=[b]) (by simp)
 by_cases h:(cur l i).text=s
 have hi1:=hn h
 rw [if_pos h]
 obtain ⟨hb,hs,hi,hl,ho⟩:=id hp1
 focus repeat'(first|refine W1 ?_|omega|refine VG ?_ ?_<;>intro hg|refine VC ?_ ?_<;>intro hc)
 exact absurd h (by assumption)
 refine Zt rfl (Zb rfl rfl) (Z7G b tv l i o 2 _ w hp1 hS) rfl ?_
 intro w3 hw3
 focus repeat'(first|refine Zc ?_|refine Z9 ?_)
 refine Zn ?_
 rw [if_pos (by omega)]
 exact PC.fail hw3
 refine Z1 (Zg (u:=.int .i64 ((i+1:Nat):Int)) rfl (by show some _=some _;simp) rfl rfl hb (by simp)) ?_
 rintro _ w2 ⟨hT,hb2⟩
 replace hs:=hs.ext (X':=[b]) hT (fun c hc=>hc) (fun c hc=>.inl hc)
 refine W ?_
 refine Z1 (Zg (u:=.int .i64 ((o+1:Nat):Int)) rfl (by show some _=some _;simp) rfl rfl hb2 (by simp)) ?_
 rintro _ w3 ⟨hT3,hb3⟩
 replace hs:=hs.ext (X':=[b]) hT3 (fun c hc=>hc) (fun c hc=>.inl hc)
 refine W ?_
 first|refine Z4y rfl ?_|refine Z4z rfl ?_
 rw [if_neg (by omega)]
 exact PC.ok rfl ⟨hb3,hs,hi1,hl,by omega⟩ ((hS.trans hT).trans hT3)
 · rw [if_neg h]
   repeat'(first|refine W1 ?_|omega|refine VG ?_ ?_<;>intro hg|refine VC ?_ ?_<;>intro hc)
   refine Zt rfl (Zb rfl rfl) (Z7G b tv l i o 20 _ w hp1 hS) rfl ?_
   intro w3 hw3
   focus repeat'(first|refine Zc ?_|refine Z9 ?_)
   refine Zn ?_
   exact PC.fail hw3
   all_goals exact absurd h (by assumption)
theorem Z0m (b:Nat) (tv:Value) (l:List Tkn) (hL:Z25 l) (s:Str) (hs0:s≠[]) (i o:Nat) (ho0:0<o) (w:World) (hp:Pd w b tv l i o) :
 Calls Tryz.prog 273 #[.pointer (some ⟨b,0,none⟩),str s] w (PC b w tv l (JS l s i o) (fun _ v _=>v=.tuple #[])):=by
 unfold JS
 refine cW2 14 Tryz.func273 ?_
 refine W ?_
 cases hr:Z0D l s i o with
 | err a c=>
   refine Zt rfl (Zb rfl rfl) (PC.falls (Z0Q b tv l hL s hs0 i o _ hp) hr (Stp.refl _ _)) rfl ?_
   intro w3 hw3
   repeat'(first|refine Zc ?_|refine Z9 ?_)
   refine Zn ?_
   exact PC.err hw3
 | ok x i1 o1=>
   have ho1:o1=o:=by
    unfold Z0D Z1k at hr
    split at hr<;>simp at hr
    omega
   refine CL rfl (Zb rfl rfl) rfl (PC.goes (Z0Q b tv l hL s hs0 i o _ hp) hr) ?_
   rintro _ w1 ⟨rfl,hp1,hS⟩
   obtain ⟨hb,hs,hi,hl,ho⟩:=id hp1
   refine W ?_
   refine Z1 (Zg (u:=.int .i64 ((o1 - 1:Nat):Int)) rfl (by show some _=some _;simp;omega) rfl rfl hb (by simp)) ?_
   rintro _ w3 ⟨hT3,hb3⟩
   replace hs:=hs.ext (X':=[b]) hT3 (fun c hc=>hc) (fun c hc=>.inl hc)
   refine W ?_
   refine WR ?_
   exact PC.ok rfl ⟨hb3,hs,hi,hl,by omega⟩ (hS.trans hT3)
theorem Z7K (s:Str) (w:World):CC 214 #[str s] w fun r w'=>r=.int .i64 (Z3M s:Int)∧w'=w:=by
 unfold Z3M
 refine cW1 20 Tryz.func214 ?_
 repeat'(first|refine W1 ?_|omega|refine VG ?_ ?_<;>intro hg|refine VC ?_ ?_<;>intro hc)
 all_goals refine WR ?_
 all_goals refine .mk ⟨?_,rfl⟩
 all_goals simp_all
theorem Z5B (s:Str) (w:World):CC 307 #[str s] w fun r w'=>r=.int .i64 (Z0g s:Int)∧w'=w:=by
 unfold Z0g
 refine cW1 9 Tryz.func307 ?_
 repeat'(first|refine W1 ?_|omega|refine VG ?_ ?_<;>intro hg|refine VC ?_ ?_<;>intro hc)
 all_goals refine WR ?_
 all_goals refine .mk ⟨?_,rfl⟩
 all_goals simp_all
end Go.Proofs.YtjdjdoefppebkaaGreatDoor
namespace Go.Eng
open Go Go.RowKit Go.Proofs
theorem Z0U {l:List Tkn} {s:Str} {i o:Nat} {u:Unit} {i' o':Nat} (h:Z0D l s i o=.ok u i' o'):o'=o:=by
 unfold Z0D Z1k at h;split at h<;>simp at h;omega
theorem Z6K {l:List Tkn} {s:Str} {i o:Nat} {u:Unit} {i' o':Nat} (h:Z0D l s i o=.ok u i' o'):i'=i+1∧(cur l i).text=s:=by
 unfold Z0D Z1k at h;split at h<;>simp at h;exact ⟨by omega,by assumption⟩
theorem Z14 {l:List Tkn} {k:Int} {i o:Nat} {t:Tkn} {i' o':Nat} (h:Z2S l k i o=.ok t i' o'):o'=o∧i'=i+1∧t=cur l i∧t.kind=k:=by
 unfold Z2S Z1k at h;split at h<;>simp at h
 obtain ⟨rfl,rfl,rfl⟩:=h
 exact ⟨rfl,rfl,rfl,by assumption⟩
theorem Zu {l:List Tkn} {s:Str} {i o:Nat} {u:Unit} {i' o':Nat} (h:JJ l s i o=.ok u i' o'):o'=o+1∧i'=i+1∧(cur l i).text=s:=by
 unfold JJ Z1k at h;split at h
 split at h<;>simp at h
 exact ⟨by omega,by omega,by assumption⟩
 simp at h
theorem JF {l:List Tkn} {s:Str} {i o:Nat} {u:Unit} {i' o':Nat} (h:JS l s i o=.ok u i' o'):o'=o - 1∧i'=i+1∧(cur l i).text=s:=by
 unfold JS at h
 cases hm:Z0D l s i o with
 | err a c=>rw [hm] at h;simp [Out.bind] at h
 | ok x j p=>
   rw [hm] at h
   simp [Out.bind] at h
   have:=Z0U hm
   have:=Z6K hm
   exact ⟨by omega,by omega,this.2⟩
theorem Z2U {m:Nat→Nat→Option (Out Nd)} {sep:Nat→Nat→Nat→Out Unit} (hm:∀ i o x i' o',m i o=some (.ok x i' o')→o'=o) (hs:∀ k i o u i' o',sep k i o=.ok u i' o'→o'=o) :
 ∀ (n k:Nat) (ks:List Nd) (i o:Nat) (ks':List Nd) (i' o':Nat),JH m sep n k ks i o=some (.ok ks' i' o')→o'=o
 | 0,k,ks,i,o,ks',i',o',h=>by simp [JH] at h;omega
 | n + 1, k, ks, i, o, ks', i', o', h => by
   simp only [JH] at h
   cases h1:sep k i o with
   | err a c=>rw [h1] at h;simp at h
   | ok u i1 o1=>
     rw [h1] at h
     simp only at h
     cases h2:m i1 o1 with
     | none=>rw [h2] at h;simp at h
     | some r=>
       rw [h2] at h
       cases r with
       | err a c=>simp at h
       | ok x i2 o2=>
         simp only at h
         have:=Z2U hm hs n _ _ _ _ _ _ _ h
         have:=hm _ _ _ _ _ h2
         have:=hs _ _ _ _ _ _ h1
         omega
theorem Z7L {l:List Tkn} {k i o:Nat} {u:Unit} {i' o':Nat} (h:Z0B l k i o=.ok u i' o'):o'=o:=by
 unfold Z0B at h
 split at h
 exact Z0U h
 simp at h;omega
theorem Z8H {l:List Tkn} {k i o:Nat} {u:Unit} {i' o':Nat} (h:Z56 l k i o=.ok u i' o'):o'=o:=Z0U h
theorem Jg (l:List Tkn):∀ (f:Nat) (c:Call) (i o:Nat) (x:Nd) (i' o':Nat),Zp l f c i o=some (.ok x i' o')→o'=o
 | 0,c,i,o,x,i',o',h=>by simp [Zp] at h
 | f + 1, .expr k, i, o, x, i', o', h => by
   have ih:=Jg l f
   rw [Zp] at h
   split at h
   split at h
   simp at h
   rename_i h1
   have:=Zu h1
   split at h
   simp at h
   simp at h
   rename_i h2
   have:=ih _ _ _ _ _ _ h2
   simp at h
   omega
   split at h
   exact ih _ _ _ _ _ _ h
   split at h
   simp at h
   simp at h
   rename_i h2
   have:=ih _ _ _ _ _ _ h2
   have:=ih _ _ _ _ _ _ h
   omega
 | f + 1, .loop k y, i, o, x, i', o', h => by
   have ih:=Jg l f
   rw [Zp] at h
   split at h
   split at h
   simp at h
   simp at h
   rename_i h2
   have h3:=ih _ _ _ _ _ _ h2
   split at h
   have:=ih _ _ _ _ _ _ h
   omega
   split at h
   simp at h;omega
   have:=ih _ _ _ _ _ _ h
   omega
   simp at h;omega
 | f + 1, .prim, i, o, x, i', o', h => by
   have ih:=Jg l f
   rw [Zp] at h
   repeat' split at h
   all_goals try (simp at h;done)
   all_goals try (simp at h;omega)
   rename_i h1 _ _ _ _ h2 _ _ _ _ h3
   have:=Zu h1;have:=ih _ _ _ _ _ _ h2;have:=JF h3
   simp at h;omega
   rename_i h1 _ _ _ _ h2 _ _ _ _ h3 _ _ _ _ h4
   have:=Zu h1;have:=ih _ _ _ _ _ _ h2;have:=Z2U (fun _ _ _ _ _ h=>ih _ _ _ _ _ _ h) (fun _ _ _ _ _ _ h=>Z8H h) _ _ _ _ _ _ _ _ h3;have:=JF h4
   simp at h;omega
   rename_i h1 _ _ _ _ h2 _ _ _ _ h3 _ _ _ _ h4
   have:=Z14 h1;have:=Zu h2;have:=Z2U (fun _ _ _ _ _ h=>ih _ _ _ _ _ _ h) (fun _ _ _ _ _ _ h=>Z7L h) _ _ _ _ _ _ _ _ h3;have:=JF h4
   simp at h;omega
   all_goals (simp [Z1k] at h)
theorem Z59 {m:Nat→Nat→Option (Out Nd)} {sep:Nat→Nat→Nat→Out Unit} (hm:∀ i o x i' o',m i o=some (.ok x i' o')→i≤i') (hs:∀ k i o u i' o',sep k i o=.ok u i' o'→i≤i') :
 ∀ (n k:Nat) (ks:List Nd) (i o:Nat) (ks':List Nd) (i' o':Nat),JH m sep n k ks i o=some (.ok ks' i' o')→i≤i'
 | 0,k,ks,i,o,ks',i',o',h=>by simp [JH] at h;omega
 | n + 1, k, ks, i, o, ks', i', o', h => by
   simp only [JH] at h
   cases h1:sep k i o with
   | err a c=>rw [h1] at h;simp at h
   | ok u i1 o1=>
     rw [h1] at h
     simp only at h
     cases h2:m i1 o1 with
     | none=>rw [h2] at h;simp at h
     | some r=>
       rw [h2] at h
       cases r with
       | err a c=>simp at h
       | ok x i2 o2=>
         simp only at h
         have:=Z59 hm hs n _ _ _ _ _ _ _ h
         have:=hm _ _ _ _ _ h2
         have:=hs _ _ _ _ _ _ h1
         omega
theorem Z5X {l:List Tkn} {k i o:Nat} {u:Unit} {i' o':Nat} (h:Z0B l k i o=.ok u i' o'):i≤i':=by
 unfold Z0B at h
 split at h
 have:=(Z6K h).1;omega
 simp at h;omega
theorem Z7M {l:List Tkn} {k i o:Nat} {u:Unit} {i' o':Nat} (h:Z56 l k i o=.ok u i' o'):i≤i':=by have:=(Z6K h).1;omega
def Call.lo:Call→Nat→Nat
 | .expr _,i=>i+1
 | .prim,i=>i+1
 | .loop _ _,i=>i
theorem Z1l (l:List Tkn):∀ (f:Nat) (c:Call) (i o:Nat) (x:Nd) (i' o':Nat),Zp l f c i o=some (.ok x i' o')→c.lo i≤i'
 | 0,c,i,o,x,i',o',h=>by simp [Zp] at h
 | f + 1, .expr k, i, o, x, i', o', h => by
   have ih:=Z1l l f
   rw [Zp] at h
   simp only [Call.lo]
   split at h
   split at h
   simp at h
   rename_i h1
   have:=Zu h1
   split at h
   simp at h
   simp at h
   rename_i h2
   have:=ih _ _ _ _ _ _ h2
   simp only [Call.lo] at this
   simp at h
   omega
   split at h
   exact ih _ _ _ _ _ _ h
   split at h
   simp at h
   simp at h
   rename_i h2
   have h3:=ih _ _ _ _ _ _ h2
   have:=ih _ _ _ _ _ _ h
   simp only [Call.lo] at this h3
   omega
 | f + 1, .loop k y, i, o, x, i', o', h => by
   have ih:=Z1l l f
   rw [Zp] at h
   simp only [Call.lo]
   split at h
   split at h
   simp at h
   simp at h
   rename_i h2
   have h3:=ih _ _ _ _ _ _ h2
   simp only [Call.lo] at h3
   split at h
   have:=ih _ _ _ _ _ _ h
   simp only [Call.lo] at this
   omega
   split at h
   simp at h;omega
   have:=ih _ _ _ _ _ _ h
   simp only [Call.lo] at this
   omega
   simp at h;omega
 | f + 1, .prim, i, o, x, i', o', h => by
   have ih:=Z1l l f
   rw [Zp] at h
   simp only [Call.lo]
   repeat' split at h
   all_goals try (simp at h;done)
   all_goals try (simp at h;omega)
   rename_i h1 _ _ _ _ h2 _ _ _ _ h3
   have:=Zu h1;have h2:=ih _ _ _ _ _ _ h2;have:=JF h3
   simp only [Call.lo] at h2
   simp at h;omega
   rename_i h1 _ _ _ _ h2 _ _ _ _ h3 _ _ _ _ h4
   have:=Zu h1;have h2:=ih _ _ _ _ _ _ h2;have:=Z59 (fun _ _ _ _ _ h=>by have:=ih _ _ _ _ _ _ h;simp only [Call.lo] at this;omega) (fun _ _ _ _ _ _ h=>Z7M h) _ _ _ _ _ _ _ _ h3;have:=JF h4
   simp only [Call.lo] at h2
   simp at h;omega
   rename_i h1 _ _ _ _ h2 _ _ _ _ h3 _ _ _ _ h4
   have:=Z14 h1;have:=Zu h2;have:=Z59 (fun _ _ _ _ _ h=>by have:=ih _ _ _ _ _ _ h;simp only [Call.lo] at this;omega) (fun _ _ _ _ _ _ h=>Z5X h) _ _ _ _ _ _ _ _ h3;have:=JF h4
   simp at h;omega
   all_goals (simp [Z1k] at h)
theorem Z2V {m:Nat→Nat→Option (Out Nd)} {sep:Nat→Nat→Nat→Out Unit} (i0:Nat) (ht:∀ i o,i0≤i→m i o≠none) (hm:∀ i o x i' o',m i o=some (.ok x i' o')→i≤i') (hs:∀ k i o u i' o',sep k i o=.ok u i' o'→i≤i') :
 ∀ (n k:Nat) (ks:List Nd) (i o:Nat),i0≤i→JH m sep n k ks i o≠none
 | 0,k,ks,i,o,h0=>by simp [JH]
 | n + 1, k, ks, i, o, h0 => by
   simp only [JH]
   cases h1:sep k i o with
   | err a c=>simp
   | ok u i1 o1=>
     have:=hs _ _ _ _ _ _ h1
     simp only
     cases h2:m i1 o1 with
     | none=>exact absurd h2 (ht _ _ (by omega))
     | some r=>
       cases r with
       | err a c=>simp
       | ok x i2 o2=>
         have:=hm _ _ _ _ _ h2
         exact Z2V i0 ht hm hs n _ _ _ _ (by omega)
theorem Zdo {l:List Tkn} {i:Nat} (h:l.length≤i):cur l i=default:=by simp [cur,List.getD,h]
theorem Z2W {l:List Tkn} {i:Nat} (h:(cur l i).text≠[]):i<l.length:=by
 by_cases hl:i<l.length
 exact hl
 rw [Zdo (by omega)] at h;exact absurd rfl h
def Call.need (n:Nat):Call→Nat→Nat
 | .expr k,i=>10 * (n - i)+(10 - k)
 | .prim,i=>10 * (n - i)+1
 | .loop _ _,i=>10 * (n - i)+1
def Call.fine:Call→Prop
 | .expr k=>1≤k∧k≤8
 | .prim=>True
 | .loop k _=>1≤k∧k≤7
theorem Z5a {s:Str} {k:Nat} (h:Z3M s=k) (hk:1≤k):s≠[]:=by
 rintro rfl
 have:Z3M []=0:=by decide
 omega
theorem Z1F (l:List Tkn):∀ (f:Nat) (c:Call) (i o:Nat),c.fine→c.need l.length i≤f→Zp l f c i o≠none
 | 0, c, i, o, hc, h => by
   cases c<;>simp only [Call.need,Call.fine] at h hc<;>omega
 | f + 1, .expr k, i, o, hc, h => by
   have ih:=Z1F l f
   simp only [Call.need,Call.fine] at h hc
   rw [Zp]
   split
   rename_i hsp
   have hi:i<l.length:=Z2W (by rcases hsp with ⟨_,h⟩|⟨_,h⟩<;>rw [h]<;>decide)
   split
   simp
   rename_i h1
   have:=Zu h1
   split
   rename_i h2;exact absurd h2 (ih _ _ _ hc (by simp only [Call.need];omega))
   simp
   simp
   split
   exact ih _ _ _ trivial (by simp only [Call.need];omega)
   split
   rename_i h2;exact absurd h2 (ih _ _ _ (by simp only [Call.fine];omega) (by simp only [Call.need];omega))
   simp
   rename_i h2
   have h3:=Z1l l _ _ _ _ _ _ _ h2
   simp only [Call.lo] at h3
   exact ih _ _ _ (by simp only [Call.fine];omega) (by simp only [Call.need];omega)
 | f + 1, .loop k y, i, o, hc, h => by
   have ih:=Z1F l f
   simp only [Call.need,Call.fine] at h hc
   rw [Zp]
   split
   rename_i hlv
   have hi:i<l.length:=Z2W (Z5a hlv hc.1)
   split
   rename_i h2;exact absurd h2 (ih _ _ _ (by simp only [Call.fine];omega) (by simp only [Call.need];omega))
   simp
   rename_i h2
   have h3:=Z1l l _ _ _ _ _ _ _ h2
   simp only [Call.lo] at h3
   split
   exact ih _ _ _ hc (by simp only [Call.need];omega)
   split
   simp
   exact ih _ _ _ hc (by simp only [Call.need];omega)
   simp
 | f + 1, .prim, i, o, hc, h => by
   have ih:=Z1F l f
   have hle:∀ i o x i' o',Zp l f (.expr 1) i o=some (.ok x i' o')→i≤i':=fun _ _ _ _ _ h=>by have:=Z1l l _ _ _ _ _ _ _ h;simp only [Call.lo] at this;omega
   simp only [Call.need,Call.fine] at h hc
   have hrec:∀ j o,i<l.length→i+1≤j→Zp l f (.expr 1) j o≠none:=fun j o hi hj=>ih _ _ _ (by simp [Call.fine]) (by simp only [Call.need];omega)
   rw [Zp]
   have hpar:=fun h=>Z2W (l:=l) (i:=i) h
   split
   simp
   split
   simp
   split
   simp
   split
   simp
   split
   rename_i ht
   have hi:=hpar (by rw [ht];decide)
   split
   simp
   rename_i h1
   have:=Zu h1
   split
   rename_i h2;exact absurd h2 (hrec _ _ hi (by omega))
   simp
   split<;>simp
   split
   rename_i ht
   have hi:=hpar (by rw [ht];decide)
   split
   simp
   rename_i h1
   have:=Zu h1
   split
   rename_i h2;exact absurd h2 (hrec _ _ hi (by omega))
   simp
   rename_i h2
   have:=hle _ _ _ _ _ h2
   split
   rename_i h3;exact absurd h3 (Z2V (i+1) (fun j o hj=>hrec j o hi hj) hle (fun _ _ _ _ _ _ h=>Z7M h) _ _ _ _ _ (by omega))
   simp
   split<;>simp
   split
   rename_i ht
   have hi:=hpar (fun h0=>by rw [h0] at ht;revert ht;decide)
   split
   simp
   rename_i h1
   have:=Z14 h1
   split
   simp
   rename_i h2
   have:=Zu h2
   split
   rename_i h3;exact absurd h3 (Z2V (i+1) (fun j o hj=>hrec j o hi hj) hle (fun _ _ _ _ _ _ h=>Z5X h) _ _ _ _ _ (by omega))
   simp
   split<;>simp
   split<;>simp
theorem Z9Z (l:List Tkn) (i o:Nat):Zp l (Z7B l i) (.expr 1) i o=some (Z3N l i o):=by
 have:=Z1F l (Z7B l i) (.expr 1) i o (by simp [Call.fine]) (by simp only [Call.need,Z7B];omega)
 unfold Z3N
 cases h:Zp l (Z7B l i) (.expr 1) i o with
 | none=>exact absurd h this
 | some r=>rfl
end Go.Eng
namespace Go.Proofs.YtjdjdoefppebkaaGreatDoor
open Go Go.Eng Go.RowKit
theorem Z7N {X:List Nat} {w:World} {y0:Nd} {k0:Value} (s0:SlV X w k0 y0.kids):∀ i (hi:i < [y0].length) (hi':i < [ndC y0 k0].length),Z4.rep X w [y0][i] [ndC y0 k0][i]
 | 0,_,_=>(show Z3D X w y0 (ndC y0 k0) by rw [y0.eta];exact Z4V s0)
theorem Zjw {X:List Nat} {w:World} {y0 y1:Nd} {k0 k1:Value} (s0:SlV X w k0 y0.kids) (s1:SlV X w k1 y1.kids):∀ i (hi:i < [y0,y1].length) (hi':i < [ndC y0 k0,ndC y1 k1].length),Z4.rep X w [y0,y1][i] [ndC y0 k0,ndC y1 k1][i]
 | 0,_,_=>(show Z3D X w y0 (ndC y0 k0) by rw [y0.eta];exact Z4V s0)
 | 1,_,_=>(show Z3D X w y1 (ndC y1 k1) by rw [y1.eta];exact Z4V s1)
theorem ZbB (k n:Int) (s:Str) (p:Option Addr) (l c:Nat) (k' n':Int) (s':Str) (p':Option Addr) (l' c':Nat) (w:World):(Instr.buildSlice 25 2 #[(0,.agg #[.int .i64 k,.int .i64 n,str s,.slice p l c]),(1,.agg #[.int .i64 k',.int .i64 n',str s',.slice p' l' c'])]).run Tryz.prog w=.ok (.slice (some ⟨w.heap.size,0,none⟩) 2 2) (w.alloc (.cells #[.int .i64 k,.int .i64 n,str s,.slice p l c,.int .i64 k',.int .i64 n',str s',.slice p' l' c'] 27)):=by kernel_rfl
end Go.Proofs.YtjdjdoefppebkaaGreatDoor
namespace Go.Eng
open Go Go.RowKit Go.Proofs
section
variable {P:Program} {n:Nat} {Q:Exit→Act→World→Prop} {e:Env} {w:World} {ops:Array Oper} {S:List Nat} {Lt:List Nat} {rest:List (Nat×Nat)}
theorem Z3Q {i d:Nat} {ty:TypeId} {pos:String} {af:Array Edge} {gd:Option (Nat×Bool)} {f:Nat} {fn:Func} {xs:Array Operand} {ts:Array TypeId} {vs:Array Value} {c:Operand} {ch:List PanicEntry} {F:World→Prop} [hf:Fun P f fn]
 (hi:ops[i]?=some ⟨some d,.call { callee:=.value c,args:=xs,argTypes:=ts },ty,pos,af,gd⟩) (hg:Zy ops e gd)
 (hc:ev e c=some (.func (.func f) #[] #[])) (hv:∀ a,Has n e a→xs.map a.eval=vs) (h:Calls P f vs w (fun e w'=>e=.panicked ch∧F w')) (hdn:Nat.blt d n=true) (k:∀ w',F w'→WQ n Q (.panic ch) [] w'):WDq P n ops S Lt Q ((i,2) :: rest) e w:=
 Zbv (G:=fun _ _=>False) (F:=fun ch' w'=>ch'=ch∧F w') hi hg (Z54 hc hv (h.mono fun e w' ⟨h1,h2⟩=>by rw [h1];exact .pan ⟨rfl,h2⟩)) (fun _ _ h=>h.elim) hdn (fun ch' w' ⟨h1,h2⟩=>by subst h1;exact k w' h2) (fun _ _ h=>h.elim)
end
end Go.Eng
namespace Go.Proofs.YtjdjdoefppebkaaGreatDoor
open Go Go.Eng Go.RowKit Go.Proofs
def Z5Y (f:Nat):Prop:=∀ (l:List Tkn) (hL:Z25 l) (m:Int) (c:Eng.Call) (i o:Nat) (r:Out Nd),Zp l f c i o=some r→
 ∀ (X:List Nat) (b:Nat) (tv:Value) (w:World),b≠2→b∈X→(∀ c∈X,c<w.heap.size)→w.cell? ⟨2,0,none⟩=some (.int .i64 m)→Pd w b tv l i o→
 match c with
 | .expr k=>1≤k→k≤8→Calls Tryz.prog 120 #[.pointer (some ⟨b,0,none⟩),.int .i64 (k:Int)] w (PC b w tv l r (fun x v w'=>NdV X w' v x))
 | .prim=>Calls Tryz.prog 213 #[.pointer (some ⟨b,0,none⟩)] w (PC b w tv l r (fun x v w'=>NdV X w' v x))
 | .loop _ _=>True
theorem ZbC (s:Str) (p:Option Addr) (l c:Nat) (w:World):(Instr.build 27 #[(0,.int .i64 5),(2,str s),(3,.slice p l c)]).run Tryz.prog w=.ok (.agg #[.int .i64 5,.int .i64 0,str s,.slice p l c]) w:=by kernel_rfl
theorem Zhs (s:Str) (p:Option Addr) (l c:Nat) (w:World):(Instr.build 27 #[(0,.int .i64 6),(2,str s),(3,.slice p l c)]).run Tryz.prog w=.ok (.agg #[.int .i64 6,.int .i64 0,str s,.slice p l c]) w:=by kernel_rfl
theorem Zjx (f:Nat) (IH:Z5Y f) (l:List Tkn) (hL:Z25 l) (m:Int) (k i o:Nat) (r:Out Nd) (hk:k≤8) (hsp:(k=3∧(cur l i).text=[110,111,116])∨(k=7∧(cur l i).text=[45]))
 (h : (match JJ l (cur l i).text i o with
   | .err a c=>some (.err a c)
   | .ok _ i' o'=>
     match Zp l f (.expr k) i' o' with
     | none=>none
     | some (.err a c)=>some (.err a c)
     | some (.ok x i'' o'')=>some (.ok (.mk 5 0 (cur l i).text [x]) i'' (o'' - 1)))=some r) (X:List Nat) (b:Nat) (tv:Value) (w:World) (hb1:b≠2) (hbX:b∈X) (hX:∀ c∈X,c<w.heap.size) (hm:w.cell? ⟨2,0,none⟩=some (.int .i64 m)) (hp:Pd w b tv l i o) :
 Calls Tryz.prog 120 #[.pointer (some ⟨b,0,none⟩),.int .i64 (k:Int)] w (PC b w tv l r (fun x v w'=>NdV X w' v x)):=by
 have htn:(cur l i).text≠[]:=by rcases hsp with ⟨_,h⟩|⟨_,h⟩<;>rw [h]<;>decide
 have hs0:=hp.2.1
 refine cW2 98 Tryz.func120 ?_
 refine W ?_
 refine Z0 Z8 rfl ?_
 rintro _ w1 ⟨b4,rfl,hb4,e4,hS⟩
 have n4:b4≠b:=by have:=hp.lt;omega
 replace hm:=hS.cell (by simp) hm
 replace hp:=hp.up hS
 rcases hsp with ⟨rfl,ht⟩|⟨rfl,ht⟩
 · refine W ?_
   refine CL rfl (Zk rfl) rfl (Jl b tv l i o _ hp) ?_
   rintro _ w2 ⟨rfl,hT⟩
   replace hp:=hp.up hT;replace e4:=e4.up hT
   replace hm:=hT.cell (by simp) hm
   replace hS:=hS.trans hT
   clear hT
   repeat'(first|refine W1 ?_|omega|refine VG ?_ ?_<;>intro hg|refine VC ?_ ?_<;>intro hc)
   all_goals try exact absurd ht (by assumption)
   refine CL rfl (Zk rfl) rfl (Jl b tv l i o _ hp) ?_
   rintro _ w3 ⟨rfl,hT⟩
   replace hp:=hp.up hT;replace e4:=e4.up hT
   replace hm:=hT.cell (by simp) hm
   replace hS:=hS.trans hT
   clear hT
   refine W ?_
   cases hO:JJ l (cur l i).text i o with
   | err a c=>
     rw [hO] at h
     simp only [Xc] at h
     subst h
     refine Zt rfl (Zb rfl rfl) (PC.falls (Jq b tv l hL _ htn i o _ hp) hO (hS.mono (by simp))) rfl ?_
     intro w4 hw4
     repeat'(first|refine Zc ?_|refine Z9 ?_)
     refine Zn ?_
     exact PC.err hw4
   | ok u i1 o1=>
     have hoo:=Zu hO
     rw [hO] at h
     simp only at h
     refine CL rfl (Zb rfl rfl) rfl (PC.goes (Jq b tv l hL _ htn i o _ hp) hO) ?_
     rintro _ w4 ⟨rfl,hp4,hT⟩
     replace e4:=e4.ext hT (by simpa using n4)
     replace hm:=ZX hm hb1 hT
     have hS4:=(hS.mono (S':=[b]) (by simp)).trans hT
     clear hT hS hp
     have l4:=e4.lt
     have hX4:∀ c∈b4 :: X,c<w4.heap.size:=fun c hc=>by
      rcases Xd.1 hc with rfl|h
      exact l4
      exact Xb (hX c h) hS4.size
     refine W ?_
     cases hE:Zp l f (.expr 3) i1 o1 with
     | none=>rw [hE] at h;simp at h
     | some r1=>
       rw [hE] at h
       have hsub:=IH l hL m (.expr 3) i1 o1 r1 hE (b4 :: X) b tv w4 hb1 (XH _ hbX) hX4 hm hp4 (by omega) (by omega)
       cases r1 with
       | err a c=>
         simp only [Xc] at h
         subst h
         refine Zt rfl (Zb rfl rfl) (PC.falls hsub rfl hS4) rfl ?_
         intro w5 hw5
         repeat'(first|refine Zc ?_|refine Z9 ?_)
         refine Zn ?_
         exact PC.err hw5
       | ok x i2 o2=>
         have hoe:=Jg l _ _ _ _ _ _ _ hE
         simp only [Xc] at h
         subst h
         refine CL rfl (Zb rfl rfl) rfl (PC.goes hsub rfl) ?_
         rintro _ w5 ⟨⟨kx,rfl,hx⟩,hp5,hT⟩
         replace e4:=e4.ext hT (by simpa using n4)
         have hX5:∀ c∈b4 :: X,c<w5.heap.size:=fun c hc=>Xb (hX4 c hc) hT.size
         have hS5:=hS4.trans hT
         clear hT hS4 hp4 hX4 hsub
         obtain ⟨p0,c0,rfl,-⟩:=id hx
         refine W ?_
         refine Z0 (Z3 (vs:=[(0,.agg (ndC x (.slice p0 x.kids.length c0)).toArray)]) rfl (Z26 _ _ _ _ _ _)) rfl ?_
         intro bv w6 hN
         have hbv:SlV (b4 :: X) w6 bv [x]:=hN.slvG (css:=[ndC x _]) hX5 rfl rfl rfl (Z7N hx) (by simp [maxLen])
         obtain ⟨bn,rfl,hbn,-,hT⟩:=id hN
         replace e4:=e4.up hT;replace hp5:=hp5.up hT
         have hX6:∀ c∈b4 :: X,c<w6.heap.size:=fun c hc=>Xb (hX5 c hc) hT.size
         have hS6:=hS5.trans (hT.mono (by simp))
         clear hT hS5 hX5 hN hx
         apply Za (vs:=[(0,.int .i64 5),(2,str (cur l i).text),(3,.slice (some ⟨bn,0,none⟩) 1 1)]) rfl (ZbC _ _ _ _) rfl
         refine Z0 Z8 rfl ?_
         rintro _ w7 ⟨b6,rfl,hb6,e6,hT⟩
         have n64:b6≠b4:=by have:=e4.lt;omega
         have n6b:b6≠b:=by have:=hp5.lt;omega
         refine Z1 (Z2 (us:=ndC (.mk 5 0 (cur l i).text [x]) (.slice (some ⟨bn,0,none⟩) 1 1)) rfl rfl rfl rfl (ZD hbv) e6 rfl) ?_
         rintro _ w8 ⟨hT2,e6'⟩
         replace hT:=hT.own hT2 (fun c hc=>.inr (by simp at hc;omega))
         clear hT2 e6
         replace e4:=e4.up hT;replace hp5:=hp5.up hT
         have hS8:=hS6.trans (hT.mono (by simp))
         replace hbv:SlV (b6 :: b4 :: X) w8 (.slice (some ⟨bn,0,none⟩) 1 1) [x]:=hbv.ext hT (by simp) (fun c hc=>by
          rcases Xd.1 hc with rfl|h
          exact .inr hb6
          exact .inl h)
         have hb4w:w.heap.size≤b4:=hb4
         clear hT hS6 hX6
         obtain ⟨hpb,hps,hpi,hpl,hpo⟩:=id hp5
         refine W ?_
         refine Z1 (Zg (u:=.int .i64 ((o2 - 1:Nat):Int)) rfl (by show some _=some _;simp;omega) rfl rfl hpb (by simp)) ?_
         rintro _ w9 ⟨hT,hpb9⟩
         replace hps:=hps.ext (X':=[b]) hT (fun c hc=>hc) (fun c hc=>.inl hc)
         replace e4:=e4.ext hT (by simpa using n4)
         replace e6':=e6'.ext hT (by simpa using n6b)
         replace hbv:=hbv.ext (X':=b6 :: b4 :: X) hT (fun c hc=>by simp at hc;subst hc;simp [hbX]) (fun c hc=>.inl hc)
         have hS9:=hS8.trans hT
         clear hT hS8 hpb hp5
         refine W ?_
         refine Z1 (Z2 (us:=ndC (.mk 5 0 (cur l i).text [x]) (.slice (some ⟨bn,0,none⟩) 1 1)) rfl rfl rfl rfl (ZD hbv) e4 rfl) ?_
         rintro _ w10 ⟨hT,e4'⟩
         refine W ?_
         refine ZW rfl rfl rfl e4' rfl ?_
         have hl4:=hpb9.lt
         have hSx:=hS9.own hT (fun c hc=>by simp at hc;subst hc;exact .inr hb4w)
         refine PC.ok ⟨_,rfl,?_⟩ ⟨hpb9.ext hT (by simpa using n4.symm),hs0.ext hSx (fun c hc=>hc) (fun c hc=>.inl hc),hpi,hpl,by omega⟩ hSx
         exact (hbv.ext (X':=b6 :: b4 :: X) hT (fun c hc=>by simp at hc;simp [hc]) (fun c hc=>.inl hc)).wk (fun c hc=>by simp [hc])
 · refine W ?_
   refine CL rfl (Zk rfl) rfl (Jl b tv l i o _ hp) ?_
   rintro _ w2 ⟨rfl,hT⟩
   replace hp:=hp.up hT;replace e4:=e4.up hT
   replace hm:=hT.cell (by simp) hm
   replace hS:=hS.trans hT
   clear hT
   repeat'(first|refine W1 ?_|omega|refine VG ?_ ?_<;>intro hg|refine VC ?_ ?_<;>intro hc)
   all_goals try exact absurd ht (by assumption)
   refine CL rfl (Zk rfl) rfl (Jl b tv l i o _ hp) ?_
   rintro _ w3 ⟨rfl,hT⟩
   replace hp:=hp.up hT;replace e4:=e4.up hT
   replace hm:=hT.cell (by simp) hm
   replace hS:=hS.trans hT
   clear hT
   refine W ?_
   cases hO:JJ l (cur l i).text i o with
   | err a c=>
     rw [hO] at h
     simp only [Xc] at h
     subst h
     refine Zt rfl (Zb rfl rfl) (PC.falls (Jq b tv l hL _ htn i o _ hp) hO (hS.mono (by simp))) rfl ?_
     intro w4 hw4
     repeat'(first|refine Zc ?_|refine Z9 ?_)
     refine Zn ?_
     exact PC.err hw4
   | ok u i1 o1=>
     have hoo:=Zu hO
     rw [hO] at h
     simp only at h
     refine CL rfl (Zb rfl rfl) rfl (PC.goes (Jq b tv l hL _ htn i o _ hp) hO) ?_
     rintro _ w4 ⟨rfl,hp4,hT⟩
     replace e4:=e4.ext hT (by simpa using n4)
     replace hm:=ZX hm hb1 hT
     have hS4:=(hS.mono (S':=[b]) (by simp)).trans hT
     clear hT hS hp
     have l4:=e4.lt
     have hX4:∀ c∈b4 :: X,c<w4.heap.size:=fun c hc=>by
      rcases Xd.1 hc with rfl|h
      exact l4
      exact Xb (hX c h) hS4.size
     refine W ?_
     cases hE:Zp l f (.expr 7) i1 o1 with
     | none=>rw [hE] at h;simp at h
     | some r1=>
       rw [hE] at h
       have hsub:=IH l hL m (.expr 7) i1 o1 r1 hE (b4 :: X) b tv w4 hb1 (XH _ hbX) hX4 hm hp4 (by omega) (by omega)
       cases r1 with
       | err a c=>
         simp only [Xc] at h
         subst h
         refine Zt rfl (Zb rfl rfl) (PC.falls hsub rfl hS4) rfl ?_
         intro w5 hw5
         repeat'(first|refine Zc ?_|refine Z9 ?_)
         refine Zn ?_
         exact PC.err hw5
       | ok x i2 o2=>
         have hoe:=Jg l _ _ _ _ _ _ _ hE
         simp only [Xc] at h
         subst h
         refine CL rfl (Zb rfl rfl) rfl (PC.goes hsub rfl) ?_
         rintro _ w5 ⟨⟨kx,rfl,hx⟩,hp5,hT⟩
         replace e4:=e4.ext hT (by simpa using n4)
         have hX5:∀ c∈b4 :: X,c<w5.heap.size:=fun c hc=>Xb (hX4 c hc) hT.size
         have hS5:=hS4.trans hT
         clear hT hS4 hp4 hX4 hsub
         obtain ⟨p0,c0,rfl,-⟩:=id hx
         refine W ?_
         refine Z0 (Z3 (vs:=[(0,.agg (ndC x (.slice p0 x.kids.length c0)).toArray)]) rfl (Z26 _ _ _ _ _ _)) rfl ?_
         intro bv w6 hN
         have hbv:SlV (b4 :: X) w6 bv [x]:=hN.slvG (css:=[ndC x _]) hX5 rfl rfl rfl (Z7N hx) (by simp [maxLen])
         obtain ⟨bn,rfl,hbn,-,hT⟩:=id hN
         replace e4:=e4.up hT;replace hp5:=hp5.up hT
         have hX6:∀ c∈b4 :: X,c<w6.heap.size:=fun c hc=>Xb (hX5 c hc) hT.size
         have hS6:=hS5.trans (hT.mono (by simp))
         clear hT hS5 hX5 hN hx
         apply Za (vs:=[(0,.int .i64 5),(2,str (cur l i).text),(3,.slice (some ⟨bn,0,none⟩) 1 1)]) rfl (ZbC _ _ _ _) rfl
         refine Z0 Z8 rfl ?_
         rintro _ w7 ⟨b6,rfl,hb6,e6,hT⟩
         have n64:b6≠b4:=by have:=e4.lt;omega
         have n6b:b6≠b:=by have:=hp5.lt;omega
         refine Z1 (Z2 (us:=ndC (.mk 5 0 (cur l i).text [x]) (.slice (some ⟨bn,0,none⟩) 1 1)) rfl rfl rfl rfl (ZD hbv) e6 rfl) ?_
         rintro _ w8 ⟨hT2,e6'⟩
         replace hT:=hT.own hT2 (fun c hc=>.inr (by simp at hc;omega))
         clear hT2 e6
         replace e4:=e4.up hT;replace hp5:=hp5.up hT
         have hS8:=hS6.trans (hT.mono (by simp))
         replace hbv:SlV (b6 :: b4 :: X) w8 (.slice (some ⟨bn,0,none⟩) 1 1) [x]:=hbv.ext hT (by simp) (fun c hc=>by
          rcases Xd.1 hc with rfl|h
          exact .inr hb6
          exact .inl h)
         have hb4w:w.heap.size≤b4:=hb4
         clear hT hS6 hX6
         obtain ⟨hpb,hps,hpi,hpl,hpo⟩:=id hp5
         refine W ?_
         refine Z1 (Zg (u:=.int .i64 ((o2 - 1:Nat):Int)) rfl (by show some _=some _;simp;omega) rfl rfl hpb (by simp)) ?_
         rintro _ w9 ⟨hT,hpb9⟩
         replace hps:=hps.ext (X':=[b]) hT (fun c hc=>hc) (fun c hc=>.inl hc)
         replace e4:=e4.ext hT (by simpa using n4)
         replace e6':=e6'.ext hT (by simpa using n6b)
         replace hbv:=hbv.ext (X':=b6 :: b4 :: X) hT (fun c hc=>by simp at hc;subst hc;simp [hbX]) (fun c hc=>.inl hc)
         have hS9:=hS8.trans hT
         clear hT hS8 hpb hp5
         refine W ?_
         refine Z1 (Z2 (us:=ndC (.mk 5 0 (cur l i).text [x]) (.slice (some ⟨bn,0,none⟩) 1 1)) rfl rfl rfl rfl (ZD hbv) e4 rfl) ?_
         rintro _ w10 ⟨hT,e4'⟩
         refine W ?_
         refine ZW rfl rfl rfl e4' rfl ?_
         have hl4:=hpb9.lt
         have hSx:=hS9.own hT (fun c hc=>by simp at hc;subst hc;exact .inr hb4w)
         refine PC.ok ⟨_,rfl,?_⟩ ⟨hpb9.ext hT (by simpa using n4.symm),hs0.ext hSx (fun c hc=>hc) (fun c hc=>.inl hc),hpi,hpl,by omega⟩ hSx
         exact (hbv.ext (X':=b6 :: b4 :: X) hT (fun c hc=>by simp at hc;simp [hc]) (fun c hc=>.inl hc)).wk (fun c hc=>by simp [hc])
theorem Z5Z:([]:Str)∉Z5S:=by decide
theorem Za0:Z7H.length≤1000000:=by decide
theorem Z7O (t:Str) (m:Int) (w:World) (hm:w.cell? ⟨2,0,none⟩=some (.int .i64 m)) (htl:t.length≤4000) (hsp:∀ c∈t,c≠32) :
 CC 215 #[str Z7H,str t] w fun r w'=>r=.bool (decide (t∈Z5S))∧Stp [] w w':=
 Z2T Z7H Z5S Z5Z t m w hm Za0 htl (fun h=>Zby h hsp)
set_option maxHeartbeats 2000000 in
theorem Zjy (f:Nat) (IH:∀ f'≤f,Z5Y f') (l:List Tkn) (hL:Z25 l) (m:Int) (k i o:Nat) (r:Out Nd) (hk1:1≤k) (hk:k≤7) (hsp:¬ ((k=3∧(cur l i).text=[110,111,116])∨(k=7∧(cur l i).text=[45])))
 (h : (match Zp l f (.expr (k + 1)) i o with
   | none=>none
   | some (.err a c)=>some (.err a c)
   | some (.ok x i' o')=>Zp l f (.loop k x) i' o')=some r) (X:List Nat) (b:Nat) (tv:Value) (w:World) (hb1:b≠2) (hbX:b∈X) (hX:∀ c∈X,c<w.heap.size) (hm:w.cell? ⟨2,0,none⟩=some (.int .i64 m)) (hp:Pd w b tv l i o) :
 Calls Tryz.prog 120 #[.pointer (some ⟨b,0,none⟩),.int .i64 (k:Int)] w (PC b w tv l r (fun x v w'=>NdV X w' v x)):=by
 have hs0:=hp.2.1
 refine cW2 98 Tryz.func120 ?_
 refine W ?_
 refine Z0 Z8 rfl ?_
 rintro _ w1 ⟨b4,rfl,hb4,e4,hS⟩
 have n4:b4≠b:=by have:=hp.lt;omega
 replace hm:=hS.cell (by simp) hm
 replace hp:=hp.up hS
 have hX1:∀ c∈X,c<w1.heap.size:=fun c hc=>Xb (hX c hc) hS.size
 refine Z0h ?_
 refine Z0p ?_
 refine Z3A (σ:=Unit) (fun _=>[(0,.pointer (some ⟨b,0,none⟩)),(1,.int .i64 (k:Int)),(4,.pointer (some ⟨b4,0,none⟩))])
  (fun _ w'=>Pd w' b tv l i o∧(∃ cs:List Value,cs.length=4∧Blk w' b4 27 cs)∧w'.cell? ⟨2,0,none⟩=some (.int .i64 m)∧Stp [] w w') ?_ ?_
 by_cases k3:k=3
 · subst k3
   have ht:¬ (cur l i).text=[110,111,116]:=fun e=>hsp (.inl ⟨rfl,e⟩)
   refine W ?_
   refine CL rfl (Zk rfl) rfl (Jl b tv l i o _ hp) ?_
   rintro _ w2 ⟨rfl,hT⟩
   replace hp:=hp.up hT;replace e4:=e4.up hT
   replace hm:=hT.cell (by simp) hm
   replace hS:=hS.trans hT
   repeat'(first|refine W1 ?_|omega|refine VG ?_ ?_<;>intro hg|refine VC ?_ ?_<;>intro hc)
   all_goals try exact absurd (by assumption) ht
   exact ZJ () ⟨rfl,rfl,rfl,trivial⟩ ⟨hp,⟨_,rfl,e4⟩,hm,hS⟩
 by_cases k7:k=7
 · subst k7
   have ht:¬ (cur l i).text=[45]:=fun e=>hsp (.inr ⟨rfl,e⟩)
   refine W ?_
   refine CL rfl (Zk rfl) rfl (Jl b tv l i o _ hp) ?_
   rintro _ w2 ⟨rfl,hT⟩
   replace hp:=hp.up hT;replace e4:=e4.up hT
   replace hm:=hT.cell (by simp) hm
   replace hS:=hS.trans hT
   repeat'(first|refine W1 ?_|omega|refine VG ?_ ?_<;>intro hg|refine VC ?_ ?_<;>intro hc)
   all_goals try exact absurd (by assumption) ht
   exact ZJ () ⟨rfl,rfl,rfl,trivial⟩ ⟨hp,⟨_,rfl,e4⟩,hm,hS⟩
 focus repeat'(first|refine W1 ?_|omega|refine VG ?_ ?_<;>intro hg|refine VC ?_ ?_<;>intro hc)
 exact ZJ () ⟨rfl,rfl,rfl,trivial⟩ ⟨hp,⟨_,rfl,e4⟩,hm,hS⟩
 clear hp e4 hm hS
 rintro _ w2 ⟨hp,⟨cs4,hc4,e4⟩,hm,hS⟩
 have l4:=e4.lt
 have hX2:∀ c∈b4 :: X,c<w2.heap.size:=fun c hc=>by
  rcases Xd.1 hc with rfl|h
  exact l4
  exact Xb (hX c h) hS.size
 refine W ?_
 cases hE:Zp l f (.expr (k+1)) i o with
 | none=>rw [hE] at h;simp at h
 | some r1=>
   rw [hE] at h
   have hsub:=IH f (Xk _) l hL m (.expr (k+1)) i o r1 hE (b4 :: X) b tv w2 hb1 (XH _ hbX) hX2 hm hp (by omega) (by omega)
   cases r1 with
   | err a c=>
     simp only [Xc] at h
     subst h
     refine Zt rfl (Zb rfl rfl) (PC.falls hsub rfl (hS.mono (by simp))) rfl ?_
     intro w3 hw3
     repeat'(first|refine Zc ?_|refine Z9 ?_)
     refine Zn ?_
     exact PC.err hw3
   | ok x i1 o1=>
     simp only at h
     refine CL rfl (Zb rfl rfl) rfl (PC.goes hsub rfl) ?_
     rintro _ w3 ⟨⟨kx,rfl,hx⟩,hp3,hT⟩
     replace e4:=e4.ext hT (by simpa using n4)
     replace hm:=ZX hm hb1 hT
     have hX3:∀ c∈b4 :: X,c<w3.heap.size:=fun c hc=>Xb (hX2 c hc) hT.size
     have hS3:=(hS.mono (S':=[b]) (by simp)).trans hT
     clear hT hS hp hX2 hsub
     refine Z0 Z8 rfl ?_
     rintro _ w4 ⟨b7,rfl,hb7,e7,hT⟩
     have n74:b7≠b4:=by have:=e4.lt;omega
     have n7b:b7≠b:=by have:=hp3.lt;omega
     have n71:b7≠2:=by have:=block_lt_of_cell hm;simp at this;omega
     refine Z1 (Z2 (us:=ndC x kx) rfl rfl rfl rfl (ZD hx) e7 rfl) ?_
     rintro _ w5 ⟨hT2,e7'⟩
     replace hT:=hT.own hT2 (fun c hc=>.inr (by simp at hc;omega))
     clear hT2 e7
     have hb7w:w.heap.size≤b7:=Xg hS3.size hb7
     have hb4w:w.heap.size≤b4:=hb4
     replace e4:=e4.up hT;replace hp3:=hp3.up hT
     replace hm:=hT.cell (by simp) hm
     replace hx:SlV (b7 :: b4 :: X) w5 kx x.kids:=hx.ext hT (by simp) (fun c hc=>by
      rcases Xd.1 hc with rfl|h
      exact .inr hb7
      exact .inl h)
     have hS5:=hS3.trans (hT.mono (by simp))
     clear hT hS3
     have l7:=e7'.lt
     have hX5:∀ c∈b7 :: b4 :: X,c<w5.heap.size:=fun c hc=>by
      rcases Xd.1 hc with rfl|h
      exact l7
      have:=hX3 c h;omega
     refine W ?_
     clear hX3 hE
     refine Zh (σ:=Nat×Nd×Value×Nat×Nat) (fun q=>[(0,.pointer (some ⟨b,0,none⟩)),(1,.int .i64 (k:Int)),(4,.pointer (some ⟨b4,0,none⟩)),(7,.pointer (some ⟨b7,0,none⟩))])
      (fun q w'=>Zp l q.1 (.loop k q.2.1) q.2.2.2.1 q.2.2.2.2=some r∧q.1≤f∧Pd w' b tv l q.2.2.2.1 q.2.2.2.2∧Blk w' b7 27 (ndC q.2.1 q.2.2.1)∧SlV (b7 :: b4 :: X) w' q.2.2.1 q.2.1.kids∧(∃ cs:List Value,cs.length=4∧Blk w' b4 27 cs)∧w'.cell? ⟨2,0,none⟩=some (.int .i64 m)∧Stp [b] w w'∧w5.heap.size≤w'.heap.size)
      (fun q=>q.1) (f,x,kx,i1,o1) ⟨rfl,rfl,rfl,rfl,trivial⟩ ⟨h,Xk _,hp3,e7',hx,⟨cs4,hc4,e4⟩,hm,hS5,Xk _⟩ ?_
     clear h hp3 e7' hx e4 hm hS5 l4 l7 hc4 cs4
     rintro ⟨f1,y,ky,i2,o2⟩ w6 ⟨h,hf1,hp,e7,hy,⟨cs4,hc4,e4⟩,hm,hS,h56⟩
     dsimp only at h hf1 hp e7 hy ⊢
     match cs4,hc4 with
     | [q0,q1,q2,q3],_=>
     cases f1 with
     | zero=>simp [Zp] at h
     | succ f1=>
     rw [Zp] at h
     refine W ?_
     refine CL rfl (Zk rfl) rfl (Jl b tv l i2 o2 _ hp) ?_
     rintro _ w7 ⟨rfl,hT⟩
     replace hp:=hp.up hT;replace e4:=e4.up hT;replace e7:=e7.up hT;replace hy:=hy.up hT
     replace hm:=hT.cell (by simp) hm
     replace hS:=hS.trans (hT.mono (by simp))
     replace h56:=Xg h56 hT.size
     clear hT
     refine W ?_
     refine CL rfl (Zk rfl) rfl (Z7K _ _) ?_
     rintro _ _ ⟨rfl,rfl⟩
     by_cases hlv:Z3M (cur l i2).text=k
     · rw [if_pos hlv] at h
       have hi1:=hL.end_of hp.i_lt (Z5a hlv hk1)
       repeat'(first|refine W1 ?_|omega|refine VG ?_ ?_<;>intro hg|refine VC ?_ ?_<;>intro hc)
       refine CL rfl (Zk rfl) rfl (Jl b tv l i2 o2 _ hp) ?_
       rintro _ w8 ⟨rfl,hT⟩
       replace hp:=hp.up hT;replace e4:=e4.up hT;replace e7:=e7.up hT;replace hy:=hy.up hT
       replace hm:=hT.cell (by simp) hm
       replace hS:=hS.trans (hT.mono (by simp))
       replace h56:=Xg h56 hT.size
       clear hT
       obtain ⟨hpb,hps,hpi,hpl,hpo⟩:=id hp
       refine W ?_
       refine Z1 (Zg (u:=.int .i64 ((i2+1:Nat):Int)) rfl (by show some _=some _;simp) rfl rfl hpb (by simp)) ?_
       rintro _ w9 ⟨hT,hpb9⟩
       replace hps:=hps.ext (X':=[b]) hT (fun c hc=>hc) (fun c hc=>.inl hc)
       replace e4:=e4.ext hT (by simpa using n4)
       replace e7:=e7.ext hT (by simpa using n7b)
       replace hy:=hy.ext (X':=b7 :: b4 :: X) hT (fun c hc=>by simp at hc;subst hc;simp [hbX]) (fun c hc=>.inl hc)
       replace hm:=ZX hm hb1 hT
       replace hS:=hS.trans hT
       replace h56:=Xg h56 hT.size
       replace hp:Pd w9 b tv l (i2+1) o2:=⟨hpb9,hps,hi1,hpl,hpo⟩
       clear hT hpb9 hps hpi hpl hpo hpb
       refine W ?_
       have hX9:∀ c∈b7 :: b4 :: X,c<w9.heap.size:=fun c hc=>Xb (hX5 c hc) h56
       cases hE:Zp l f1 (.expr (k+1)) (i2+1) o2 with
       | none=>rw [hE] at h;simp at h
       | some r2=>
         rw [hE] at h
         cases r2 with
         | err a c=>
           simp only [Xc] at h
           subst h
           refine Z2r 9 ([b]) [8] [(0,0),(1,1),(2,0),(3,0),(4,0),(5,2),(6,2),(7,0),(8,2)] rfl mixed (by kernel_rfl) (by kernel_rfl) (by kernel_rfl) (fun w1 hS1=>?_)
           replace hp:=hp.up hS1;replace e7:=e7.up hS1
           replace hm:=hS1.cell (by simp) hm
           replace hS:=hS.trans (hS1.mono (by simp))
           have hsub:=IH f1 (by omega) l hL m (.expr (k+1)) (i2+1) o2 _ hE (b7 :: b4 :: X) b tv w1 hb1 (by simp [hbX]) (fun c hc=>Xb (hX9 c hc) hS1.size) hm hp (by omega) (by omega)
           refine ZM rfl trivial (fun _=>J2 rfl) rfl ?_
           refine Z1j rfl trivial (fun w' hw=>Z0G rfl rfl (e7.ext hw (by simpa using n7b)) rfl) rfl ?_
           refine ZM rfl trivial (fun _=>J2 rfl) rfl ?_
           refine ZM rfl trivial (fun _=>J2 rfl) rfl ?_
           refine ZM rfl trivial (fun _=>Z6i rfl rfl (by unfold I64;omega)) rfl ?_
           refine Z3Q rfl trivial rfl (Zb rfl rfl) (PC.falls hsub rfl hS) rfl ?_
           intro wz hwz
           repeat'(first|refine Zc ?_|refine Z9 ?_)
           refine Zn ?_
           exact PC.err hwz
         | ok z i3 o3=>
           simp only at h
           refine ZDr 9 ([b]) [8] [(0,0),(1,1),(2,0),(3,0),(4,0),(5,2),(6,2),(7,0),(8,2)] (fun w1 hS1=>?_)
           replace hp:=hp.up hS1;replace e7:=e7.up hS1;replace hy:=hy.up hS1;replace e4:=e4.up hS1
           replace hm:=hS1.cell (by simp) hm
           replace hS:=hS.trans (hS1.mono (by simp))
           have h5x:=Xg h56 hS1.size
           have hX1:∀ c∈b7 :: b4 :: X,c<w1.heap.size:=fun c hc=>Xb (hX9 c hc) hS1.size
           have hsub:=IH f1 (by omega) l hL m (.expr (k+1)) (i2+1) o2 _ hE (b7 :: b4 :: X) b tv w1 hb1 (by simp [hbX]) hX1 hm hp (by omega) (by omega)
           clear hS1 hX9 h56
           refine D ?_
           refine ZC rfl trivial (Ze rfl (Zb rfl rfl) (PC.goes hsub rfl)) (fun _ _ h=>h.2.2) rfl ?_
           rintro _ w10 ⟨⟨kz,rfl,hz⟩,hp10,hT⟩
           replace e4:=e4.ext hT (by simpa using n4)
           replace e7:=e7.ext hT (by simpa using n7b)
           replace hy:=hy.ext (X':=b7 :: b4 :: X) hT (fun c hc=>by simp at hc;subst hc;simp [hbX]) (fun c hc=>.inl hc)
           replace hm:=ZX hm hb1 hT
           replace hS:=hS.trans hT
           have h510:=Xg h5x hT.size
           have hX10:∀ c∈b7 :: b4 :: X,c<w10.heap.size:=fun c hc=>Xb (hX1 c hc) hT.size
           clear hT hp hX1 h5x hsub
           obtain ⟨py,cy,rfl,-⟩:=id hy
           obtain ⟨pz,cz,rfl,-⟩:=id hz
           refine ZC rfl trivial (Z3 (vs:=[(0,.agg (ndC y (.slice py y.kids.length cy)).toArray),(1,.agg (ndC z (.slice pz z.kids.length cz)).toArray)]) rfl (ZbB _ _ _ _ _ _ _ _ _ _ _ _)) (fun _ _ h=>(ZA.stp h).mono (by simp)) rfl ?_
           intro bv w11 hN
           have hbv:SlV (b7 :: b4 :: X) w11 bv [y,z]:=hN.slvG (css:=[ndC y _,ndC z _]) hX10 rfl rfl rfl (Zjw hy hz) (by simp [maxLen])
           obtain ⟨bn,rfl,hbn,-,hT⟩:=id hN
           replace hp10:=hp10.up hT;replace e4:=e4.up hT;replace e7:=e7.up hT
           replace hm:=hT.cell (by simp) hm
           replace hS:=hS.trans (hT.mono (by simp))
           have h511:=Xg h510 hT.size
           clear hT hN hX10 h510 hy hz
           refine Z38 rfl trivial (vs:=[(0,.int .i64 6),(2,str (cur l i2).text),(3,.slice (some ⟨bn,0,none⟩) 2 2)]) rfl (Zhs _ _ _ _) rfl ?_
           refine ZU rfl trivial (Z2 (us:=ndC (.mk 6 0 (cur l i2).text [y,z]) (.slice (some ⟨bn,0,none⟩) 2 2)) rfl rfl rfl rfl (ZD hbv) e7 rfl) rfl ?_
           rintro _ w12 ⟨hT,e7'⟩
           have hb7x:∀ S:List Nat,S=[b7]→∀ c∈S,w.heap.size≤c:=fun S hS c hc=>by subst hS;simp at hc;subst hc;exact hb7w
           replace e4:=e4.ext hT (by simpa using n74.symm)
           replace hp10:Pd w12 b tv l i3 o3:=by
            obtain ⟨g1,g2,g3,g4,g5⟩:=hp10
            have hSx:=hS.own hT (fun c hc=>.inr (hb7x _ rfl c hc))
            exact ⟨g1.ext hT (by simpa using n7b.symm),hs0.ext hSx (fun c hc=>hc) (fun c hc=>.inl hc),g3,g4,g5⟩
           replace hbv:=hbv.ext (X':=b7 :: b4 :: X) hT (fun c hc=>by simp at hc;simp [hc]) (fun c hc=>.inl hc)
           replace hm:=hT.cell (by simpa using n71.symm) hm
           replace hS:=hS.own hT (fun c hc=>.inr (hb7x _ rfl c hc))
           have h512:=Xg h511 hT.size
           clear hT h511
           refine D ?_
           by_cases k5:k=5
           subst k5
           refine W ?_
           refine CL rfl (Zk rfl) rfl (Jl b tv l i3 o3 _ hp10) ?_
           rintro _ w13 ⟨rfl,hT⟩
           replace hp10:=hp10.up hT;replace e4:=e4.up hT;replace e7':=e7'.up hT;replace hbv:=hbv.up hT
           replace hm:=hT.cell (by simp) hm
           replace hS:=hS.trans (hT.mono (by simp))
           replace h512:=Xg h512 hT.size
           clear hT
           refine W ?_
           refine CL rfl (Zb rfl rfl) rfl (Z7O (cur l i3).text m _ hm (hL.tl i3) (hL.sp i3)) ?_
           rintro _ w14 ⟨rfl,hT⟩
           replace hp10:=hp10.up hT;replace e4:=e4.up hT;replace e7':=e7'.up hT;replace hbv:=hbv.up hT
           replace hm:=hT.cell (by simp) hm
           replace hS:=hS.trans (hT.mono (by simp))
           replace h512:=Xg h512 hT.size
           clear hT
           by_cases hu:(cur l i3).text∈Z5S
           rw [if_pos ⟨rfl,hu⟩] at h
           rw [decide_eq_true hu]
           have hi3:=hL.end_of hp10.i_lt (fun e=>Z5Z (e ▸ hu))
           refine W ?_
           refine CL rfl (Zk rfl) rfl (Jl b tv l i3 o3 _ hp10) ?_
           rintro _ w15 ⟨rfl,hT⟩
           replace hp10:=hp10.up hT;replace e4:=e4.up hT;replace e7':=e7'.up hT;replace hbv:=hbv.up hT
           replace hm:=hT.cell (by simp) hm
           replace hS:=hS.trans (hT.mono (by simp))
           replace h512:=Xg h512 hT.size
           clear hT
           refine W ?_
           refine Z1 (Zg (u:=.int .i64 7) rfl rfl rfl rfl e7' (by simp)) ?_
           rintro _ w16 ⟨hT,e7''⟩
           refine W ?_
           refine Z1 (Zg (u:=str (cur l i3).text) rfl rfl rfl rfl e7'' (by simp)) ?_
           rintro _ w17 ⟨hT',e7q⟩
           replace hT:=hT.trans hT'
           replace e7q:Blk w17 b7 27 (ndC (.mk 7 0 (cur l i3).text [y,z]) (.slice (some ⟨bn,0,none⟩) 2 2)):=e7q
           clear hT' e7' e7''
           replace e4:=e4.ext hT (by simpa using n74.symm)
           replace hp10:Pd w17 b tv l i3 o3:=by
            obtain ⟨g1,g2,g3,g4,g5⟩:=hp10
            have hSx:=hS.own hT (fun c hc=>.inr (hb7x _ rfl c hc))
            exact ⟨g1.ext hT (by simpa using n7b.symm),hs0.ext hSx (fun c hc=>hc) (fun c hc=>.inl hc),g3,g4,g5⟩
           replace hbv:=hbv.ext (X':=b7 :: b4 :: X) hT (fun c hc=>by simp at hc;simp [hc]) (fun c hc=>.inl hc)
           replace hm:=hT.cell (by simpa using n71.symm) hm
           replace hS:=hS.own hT (fun c hc=>.inr (hb7x _ rfl c hc))
           replace h512:=Xg h512 hT.size
           clear hT
           refine W ?_
           refine Z33 (σ:=Unit) (fun _=>[(0,.pointer (some ⟨b,0,none⟩)),(1,.int .i64 (5:Int)),(4,.pointer (some ⟨b4,0,none⟩)),(7,.pointer (some ⟨b7,0,none⟩))])
            (fun _ w'=>Blk w' b7 27 (ndC (.mk (if (cur l i2).text=[45] then 8 else 7) 0 (cur l i3).text [y,z]) (.slice (some ⟨bn,0,none⟩) 2 2))∧Stp [b7] w17 w') ?_ ?_
           by_cases hm8:(cur l i2).text=[45]
           rw [if_pos hm8]
           focus repeat'(first|refine W1 ?_|omega|refine VG ?_ ?_<;>intro hg|refine VC ?_ ?_<;>intro hc)
           refine Z1 (Zg (u:=.int .i64 8) rfl rfl rfl rfl e7q (by simp)) ?_
           rintro _ w18 ⟨hT,e8⟩
           refine W ?_
           exact ZJ () ⟨rfl,rfl,rfl,rfl,trivial⟩ ⟨e8,hT⟩
           exact absurd hm8 (by assumption)
           rw [if_neg hm8]
           focus repeat'(first|refine W1 ?_|omega|refine VG ?_ ?_<;>intro hg|refine VC ?_ ?_<;>intro hc)
           exact absurd (by assumption) hm8
           exact ZJ () ⟨rfl,rfl,rfl,rfl,trivial⟩ ⟨e7q,Stp.refl _ _⟩
           rintro _ w18 ⟨e8,hT⟩
           replace e4:=e4.ext hT (by simpa using n74.symm)
           replace hp10:Pd w18 b tv l i3 o3:=by
            obtain ⟨g1,g2,g3,g4,g5⟩:=hp10
            have hSx:=hS.own hT (fun c hc=>.inr (hb7x _ rfl c hc))
            exact ⟨g1.ext hT (by simpa using n7b.symm),hs0.ext hSx (fun c hc=>hc) (fun c hc=>.inl hc),g3,g4,g5⟩
           replace hbv:=hbv.ext (X':=b7 :: b4 :: X) hT (fun c hc=>by simp at hc;simp [hc]) (fun c hc=>.inl hc)
           replace hm:=hT.cell (by simpa using n71.symm) hm
           replace hS:=hS.own hT (fun c hc=>.inr (hb7x _ rfl c hc))
           replace h512:=Xg h512 hT.size
           clear hT e7q
           obtain ⟨hpb,hps,hpi,hpl,hpo⟩:=id hp10
           refine W ?_
           refine Z1 (Zg (u:=.int .i64 ((i3+1:Nat):Int)) rfl (by show some _=some _;simp) rfl rfl hpb (by simp)) ?_
           rintro _ w19 ⟨hT,hpb9⟩
           replace hps:=hps.ext (X':=[b]) hT (fun c hc=>hc) (fun c hc=>.inl hc)
           replace e4:=e4.ext hT (by simpa using n4)
           replace e8:=e8.ext hT (by simpa using n7b)
           replace hbv:=hbv.ext (X':=b7 :: b4 :: X) hT (fun c hc=>by simp at hc;subst hc;simp [hbX]) (fun c hc=>.inl hc)
           replace hm:=ZX hm hb1 hT
           replace hS:=hS.trans hT
           replace h512:=Xg h512 hT.size
           refine W ?_
           exact Zd (f1,.mk (if (cur l i2).text=[45] then 8 else 7) 0 (cur l i3).text [y,z],.slice (some ⟨bn,0,none⟩) 2 2,i3+1,o3) ⟨rfl,rfl,rfl,rfl,trivial⟩ ⟨h,by omega,⟨hpb9,hps,hi3,hpl,hpo⟩,e8,hbv,⟨_,rfl,e4⟩,hm,hS,h512⟩ (by omega)
           rw [if_neg (fun h=>hu h.2),if_neg (by omega)] at h
           rw [decide_eq_false hu]
           refine W ?_
           exact Zd (f1,.mk 6 0 (cur l i2).text [y,z],.slice (some ⟨bn,0,none⟩) 2 2,i3,o3) ⟨rfl,rfl,rfl,rfl,trivial⟩ ⟨h,by omega,hp10,e7',hbv,⟨_,rfl,e4⟩,hm,hS,h512⟩ (by omega)
           rw [if_neg (fun h=>k5 h.1)] at h
           by_cases k4:k=4
           rw [if_pos k4] at h
           subst k4
           simp only [Xc] at h
           subst h
           have e7:=e7'
           replace hp:=hp10
           skip
           refine W ?_
           refine Z1 (Z2 (us:=ndC (.mk 6 0 (cur l i2).text [y,z]) (.slice (some ⟨bn,0,none⟩) 2 2)) rfl rfl rfl rfl (ZD hbv) e4 rfl) ?_
           rintro _ wz ⟨hT,e4'⟩
           refine W ?_
           refine ZW rfl rfl rfl e4' rfl ?_
           obtain ⟨hpb,hps,hpi,hpl,hpo⟩:=id hp
           have hSx:=hS.own hT (fun c hc=>by simp at hc;subst hc;exact .inr hb4w)
           refine PC.ok ⟨_,rfl,?_⟩ ⟨hpb.ext hT (by simpa using n4.symm),hs0.ext hSx (fun c hc=>hc) (fun c hc=>.inl hc),hpi,hpl,hpo⟩ hSx
           exact (hbv.ext (X':=b7 :: b4 :: X) hT (fun c hc=>by simp at hc;simp [hc]) (fun c hc=>.inl hc)).wk (fun c hc=>by simp [hc])
           rw [if_neg k4] at h
           focus repeat'(first|refine W1 ?_|omega|refine VG ?_ ?_<;>intro hg|refine VC ?_ ?_<;>intro hc)
           exact Zd (f1,.mk 6 0 (cur l i2).text [y,z],.slice (some ⟨bn,0,none⟩) 2 2,i3,o3) ⟨rfl,rfl,rfl,rfl,trivial⟩ ⟨h,by omega,hp10,e7',hbv,⟨_,rfl,e4⟩,hm,hS,h512⟩ (by omega)
     rw [if_neg hlv] at h
     simp only [Xc] at h
     subst h
     focus repeat'(first|refine W1 ?_|omega|refine VG ?_ ?_<;>intro hg|refine VC ?_ ?_<;>intro hc)
     skip
     refine W ?_
     refine Z1 (Z2 (us:=ndC y ky) rfl rfl rfl rfl (ZD hy) e4 rfl) ?_
     rintro _ wz ⟨hT,e4'⟩
     refine W ?_
     refine ZW rfl rfl rfl e4' rfl ?_
     obtain ⟨hpb,hps,hpi,hpl,hpo⟩:=id hp
     have hSx:=hS.own hT (fun c hc=>by simp at hc;subst hc;exact .inr hb4w)
     refine PC.ok ⟨_,rfl,?_⟩ ⟨hpb.ext hT (by simpa using n4.symm),hs0.ext hSx (fun c hc=>hc) (fun c hc=>.inl hc),hpi,hpl,hpo⟩ hSx
     exact (hy.ext (X':=b7 :: b4 :: X) hT (fun c hc=>by simp at hc;simp [hc]) (fun c hc=>.inl hc)).wk (fun c hc=>by simp [hc])
end Go.Proofs.YtjdjdoefppebkaaGreatDoor
namespace Go.Eng
open Go Go.RowKit Go.Proofs
theorem Z3i {k:Nat}:∀ (l:List (List Value)),(∀ c∈l,c.length=k)→l.flatten.length=l.length * k
 | [],_=>by simp
 | c :: r, h => by
   simp only [XS,Xh,Xe,XW]
   rw [Z3i r (fun c hc=>h c (by simp [hc])),h c (by simp)]
   omega
theorem ZA.rowG {α:Type} [Z4 α] {w w':World} {X:List Nat} {T len base:Nat} {cs:List Value} {v:Value} {ys:List α} {css:List (List Value)} (h:ZA w T len cs v w') (hX:∀ b∈X,b<w.heap.size) (hbase:base≤w.heap.size) (hl:len=ys.length) (hcl:css.length=ys.length)
 (hc:cs=css.flatten) (hr:∀ i (hi:i<ys.length) (hi':i<css.length),Z4.rep X w ys[i] css[i]) (hm:ys.length≤maxLen):Row X w' base T v ys:=by
 obtain ⟨b,rfl,hb,hblk,hS⟩:=h
 subst hl
 subst hc
 have hk:∀ c∈css,c.length=Z4.k α:=by
  intro c hc
  obtain ⟨i,hi,rfl⟩:=Xj hc
  exact Z4.len (hr i (by omega) hi)
 have hfl:css.flatten.length=ys.length * Z4.k α:=by rw [Z3i css hk,hcl]
 refine ⟨css,hcl,fun i hi hi'=>Z4.ext (hr i hi hi') hS (by simp) (fun c hc=>?_),hfl,.inr ⟨b,ys.length,css.flatten.toArray,rfl,by omega,hblk,Xk _,hm,by rw [Yaa];exact hfl,?_⟩⟩
 rcases Xt.1 hc with hc|hc
 simp only [ob,Xp] at hc
 exact .inr (by omega)
 exact .inl hc
 exact Xn (by show css.flatten.length≤_;rw [hfl];exact Xk _)
theorem Row.slvN {α:Type} [Z4 α] {X:List Nat} {w:World} {base T:Nat} {v:Value} {xs:List α} (h:Row X w base T v xs) (hX:∀ b∈X,b∉ob v):SlV X w v xs:=by
 obtain ⟨css,hl,hr,ho⟩:=h
 have hk:∀ c∈css,c.length=Z4.k α:=by
  intro c hc
  obtain ⟨i,hi,rfl⟩:=Xj hc
  exact Z4.len (hr i (by omega) hi)
 rcases ho.2 with ⟨rfl,hn⟩|⟨q,cap,cur,rfl,hb,hg,hnc,hcm,hcs,ht⟩
 exact ⟨none,0,by rw [hn],by omega,by simp [maxLen],fun _=>rfl,fun i hi=>by omega⟩
 refine ⟨some ⟨q,0,none⟩,cap,rfl,hnc,hcm,fun h=>by simp at h,fun i hi=>?_⟩
 refine ⟨q,0,css[i]'(by omega),rfl,(Array.getElem?_eq_some_iff.1 hg).1,fun hx=>hX q hx (by simp [ob]),?_,fun j u hu=>?_⟩
 exact Z4.ext (hr i hi (by omega)) (Stp.refl [] w) (by simp) (fun b hb=>.inl (by simp [hb]))
 have h1:=Z0i css hk i (by omega) j u hu
 rw [← ht,List.getElem?_take] at h1
 split at h1
 have h2:cur[i * Z4.k α+j]?=some u:=by simpa using h1
 rw [X8,cell_of_row w q _ cur T (0,0) hg]
 exact h2
 cases h1
end Go.Eng
namespace Go.Proofs.YtjdjdoefppebkaaGreatDoor
open Go Go.Eng Go.RowKit Go.Proofs
theorem Z1G {α:Type} [Z4 α] (X:List Nat) (w:World):SlV (α:=α) X w (.slice none 0 0) []:=⟨none,0,rfl,Xk _,by simp [maxLen],fun _=>rfl,fun i hi=>absurd hi (Xs _)⟩
theorem Zht (s:Str) (w:World):(Instr.build 27 #[(0,.int .i64 10),(2,str s)]).run Tryz.prog w=.ok (.agg #[.int .i64 10,.int .i64 0,str s,.slice none 0 0]) w:=by kernel_rfl
theorem Zdp (p:Option Addr) (l c:Nat) (w:World):(Instr.build 27 #[(0,.int .i64 9),(3,.slice p l c)]).run Tryz.prog w=.ok (.agg #[.int .i64 9,.int .i64 0,str [],.slice p l c]) w:=by kernel_rfl
theorem Zdq (a b:Str) (w:World):(Instr.buildSlice 119 2 #[(0,str a),(1,str b)]).run Tryz.prog w=.ok (.slice (some ⟨w.heap.size,0,none⟩) 2 2) (w.alloc (.cells #[str a,str b] 9)):=by kernel_rfl
theorem Za1:([]:Str)∉Z5T:=by decide
theorem ZbD (s:Str):Z0g s≤2:=by unfold Z0g;split<;>omega
theorem Blk.slv2 {w:World} {bw T:Nat} {a c:Str} (h:Blk w bw T [str a,str c]):SlV (α:=Str) [] w (.slice (some ⟨bw,0,none⟩) 2 2) [a,c]:=by
 refine ⟨some ⟨bw,0,none⟩,2,rfl,Xk _,by simp [maxLen],fun h=>by simp at h,fun i hi=>⟨bw,0,[str ([a,c][i])],rfl,h.lt,by simp,rfl,fun j u hu=>h.cell ?_⟩⟩
 have hi2:i<2:=hi
 rcases (by omega:i=0∨i=1) with rfl|rfl
 · cases j with
   | zero=>exact hu
   | succ j=>simp at hu
 · cases j with
   | zero=>exact hu
   | succ j=>simp at hu
theorem Z60 {α:Type} [Z4 α] {X:List Nat} {w:World} {base T:Nat} {v:Value} {xs:List α} (h:Row X w base T v xs):v.cells.toList=[v]:=by
 obtain ⟨css,_,_,ho⟩:=h
 rcases ho.2 with ⟨rfl,hn⟩|⟨q,cap,cur,rfl,_⟩<;>rfl
theorem Z9s {α:Type} [Z4 α] {X:List Nat} {w:World} {base T:Nat} {v:Value} {xs:List α} (h:Row X w base T v xs):v.oneCell'=true:=by
 obtain ⟨css,_,_,ho⟩:=h
 rcases ho.2 with ⟨rfl,hn⟩|⟨q,cap,cur,rfl,_⟩<;>rfl
set_option maxHeartbeats 2000000 in
theorem Zjz (f:Nat) (IH:Z5Y f) (l:List Tkn) (hL:Z25 l) (m:Int) (i o:Nat) (r:Out Nd) (hf:(cur l i).text∈Z5T)
 (h : (match Z2S l 1 i o with
   | .err a c=>some (.err a c)
   | .ok _ i1 o1=>
     match JJ l [40] i1 o1 with
     | .err a c=>some (.err a c)
     | .ok _ i' o'=>
       match JH (Zp l f (.expr 1)) (Z0B l) (Z0g (cur l i).text) 0 [] i' o' with
       | none=>none
       | some (.err a c)=>some (.err a c)
       | some (.ok ks i3 o3)=>
         match JS l [41] i3 o3 with
         | .err a c=>some (.err a c)
         | .ok _ i4 o4=>some (.ok (.mk 10 0 (cur l i).text ks) i4 o4))=some r) (X:List Nat) (b:Nat) (tv:Value) (w:World) (hb1:b≠2) (hbX:b∈X) (hX:∀ c∈X,c<w.heap.size) (hm:w.cell? ⟨2,0,none⟩=some (.int .i64 m)) (hp:Pd w b tv l i o) :
 Calls Tryz.prog 275 #[.pointer (some ⟨b,0,none⟩)] w (PC b w tv l r (fun x v w'=>NdV X w' v x)):=by
 have hs0:=hp.2.1
 have hm0:=hm
 have hbw:=hp.lt
 have hargs:=ZbD (cur l i).text
 have htx:=hL.tl i
 refine cW1 32 Tryz.func275 ?_
 refine W ?_
 refine Z0 Z8 rfl ?_
 rintro _ w1 ⟨b2,rfl,hb2,e2,hS⟩
 have n2b:b2≠b:=by have:=hp.lt;omega
 have hb2w:w.heap.size≤b2:=hb2
 replace hm:=hS.cell (by simp) hm
 replace hp:=hp.up hS
 refine W ?_
 cases hK:Z2S l 1 i o with
 | err a c=>
   rw [hK] at h
   simp only [Xc] at h
   subst h
   refine Zt rfl (Zb rfl rfl) (PC.falls (Z5W b tv l hL 1 (by decide) i o _ hp) hK (hS.mono (by simp))) rfl ?_
   intro wz hwz
   repeat'(first|refine Zc ?_|refine Z9 ?_)
   refine Zn ?_
   exact PC.err hwz
 | ok t i1 o1=>
   obtain ⟨ho1,hi1,ht,hkind⟩:=Z14 hK
   subst o1;subst i1;subst t
   rw [hK] at h
   simp only at h
   refine CL rfl (Zb rfl rfl) rfl (PC.goes (Z5W b tv l hL 1 (by decide) i o _ hp) hK) ?_
   rintro _ w2 ⟨rfl,hp2,hT⟩
   replace e2:=e2.ext hT (by simpa using n2b)
   replace hm:=ZX hm hb1 hT
   replace hS:=(hS.mono (S':=[b]) (by simp)).trans hT
   clear hT hp
   refine Z7 (ZbA rfl (Zdn _)) rfl ?_
   apply Za (vs:=[(0,.int .i64 10),(2,str (cur l i).text)]) rfl (Zht _) rfl
   refine Z0 Z8 rfl ?_
   rintro _ w3 ⟨b3,rfl,hb3,e3,hT⟩
   have n23:b2≠b3:=by have:=e2.lt;omega
   have n3b:b3≠b:=by have:=hp2.lt;omega
   have n31:b3≠2:=by have:=block_lt_of_cell hm;simp at this;omega
   have hb3w:w.heap.size≤b3:=Xg hS.size hb3
   refine Z1 (Z2 (us:=ndC (.mk 10 0 (cur l i).text []) (.slice none 0 0)) rfl rfl rfl rfl (ZD (x:=.mk 10 0 (cur l i).text []) (Z1G [] w)) e3 rfl) ?_
   rintro _ w4 ⟨hT2,e3'⟩
   replace hT:=hT.own hT2 (fun c hc=>.inr (by simp at hc;omega))
   clear hT2 e3
   replace hp2:=hp2.up hT;replace e2:=e2.up hT
   replace hm:=hT.cell (by simp) hm
   replace hS:=hS.trans (hT.mono (by simp))
   clear hT
   refine W ?_
   cases hO:JJ l [40] (i+1) o with
   | err a c=>
     rw [hO] at h
     simp only [Xc] at h
     subst h
     refine Zt rfl (Zb rfl rfl) (PC.falls (Jq b tv l hL [40] (by decide) _ _ _ hp2) hO hS) rfl ?_
     intro wz hwz
     repeat'(first|refine Zc ?_|refine Z9 ?_)
     refine Zn ?_
     exact PC.err hwz
   | ok u iA oA=>
     obtain ⟨hoo,hoi,hopt⟩:=Zu hO
     subst oA;subst iA
     rw [hO] at h
     simp only at h
     refine CL rfl (Zb rfl rfl) rfl (PC.goes (Jq b tv l hL [40] (by decide) _ _ _ hp2) hO) ?_
     rintro _ wB ⟨rfl,hp,hT⟩
     replace e2:=e2.ext hT (by simpa using n2b)
     replace e3:=e3'.ext hT (by simpa using n3b)
     replace hm:=ZX hm hb1 hT
     replace hS:=hS.trans hT
     clear hT hp2 e3'
     have l2:=e2.lt
     have l3:=e3.lt
     have hwB:wB.heap.size≤wB.heap.size:=Xk _
     have hwBw:=hS.size
     have hXb:∀ c∈b3 :: b2 :: X,c<wB.heap.size:=fun c hc=>by
      rcases Xd.1 hc with rfl|hc
      exact l3
      rcases Xd.1 hc with rfl|hc
      exact l2
      have:=hX c hc;have:=hS.size;omega
     refine W ?_
     refine CL rfl (Zk rfl) rfl (Z5B _ _) ?_
     rintro _ wB2 ⟨rfl,hww⟩
     subst wB2
     refine W ?_
     cases hM:JH (Zp l f (.expr 1)) (Z0B l) (Z0g (cur l i).text) 0 [] (i+1+1) (o+1) with
     | none=>rw [hM] at h;simp at h
     | some r3=>
     rw [hM] at h
     refine Zh (σ:=Nat×List Nd×Value×Nat×Nat) (fun q=>[(0,.pointer (some ⟨b,0,none⟩)),(2,.pointer (some ⟨b2,0,none⟩)),(3,.pointer (some ⟨b3,0,none⟩)),(13,.int .i64 (Z0g (cur l i).text:Int)),(14,.int .i64 (q.1:Int))])
      (fun q w'=>JH (Zp l f (.expr 1)) (Z0B l) (Z0g (cur l i).text - q.1) q.1 q.2.1 q.2.2.2.1 q.2.2.2.2=some r3∧q.1≤Z0g (cur l i).text∧q.2.1.length=q.1∧q.2.2.2.2=o+1∧Pd w' b tv l q.2.2.2.1 q.2.2.2.2∧Blk w' b3 27 (ndC (.mk 10 0 (cur l i).text q.2.1) q.2.2.1)∧Row (b3 :: b2 :: X) w' wB.heap.size 27 q.2.2.1 q.2.1∧b3∉ob q.2.2.1∧(∃ cs:List Value,cs.length=4∧Blk w' b2 27 cs)∧w'.cell? ⟨2,0,none⟩=some (.int .i64 m)∧Stp [b] w w'∧wB.heap.size≤w'.heap.size)
      (fun q=>Z0g (cur l i).text - q.1) (0,[],.slice none 0 0,i+1+1,o+1) ⟨rfl,rfl,rfl,rfl,rfl,trivial⟩ ⟨hM,Xo _,rfl,rfl,hp,e3,Row.nil,by simp [ob],⟨_,rfl,e2⟩,hm,hS,Xk _⟩ ?_
     clear hM hp e3 e2 hm hS
     rintro ⟨k,ks,kv,i2,o2⟩ w6 ⟨hM,hka,hkl,ho2',hp,e3,hrow,hn3,⟨cs2,hc2,e2⟩,hm,hS,hsz⟩
     dsimp only at hM hka hkl ho2' hp e3 hrow hn3 hsz ⊢
     match cs2,hc2 with
     | [q0,q1,q2,q3],_=>
     by_cases hlt:k<Z0g (cur l i).text
     obtain ⟨n',hn'⟩:∃ n',Z0g (cur l i).text - k=n'+1:=⟨Z0g (cur l i).text - k - 1,by omega⟩
     rw [hn'] at hM
     simp only [JH] at hM
     refine W ?_
     refine VC ?_ ?_<;>intro hg
     refine W ?_
     refine Z33 (σ:=Nat×Nat) (fun _=>[(0,.pointer (some ⟨b,0,none⟩)),(2,.pointer (some ⟨b2,0,none⟩)),(3,.pointer (some ⟨b3,0,none⟩)),(13,.int .i64 (Z0g (cur l i).text:Int)),(14,.int .i64 (k:Int))])
      (fun q w'=>Z0B l k i2 o2=.ok () q.1 q.2∧q.2=o+1∧Pd w' b tv l q.1 q.2∧Blk w' b3 27 (ndC (.mk 10 0 (cur l i).text ks) kv)∧Row (b3 :: b2 :: X) w' wB.heap.size 27 kv ks∧Blk w' b2 27 [q0,q1,q2,q3]∧w'.cell? ⟨2,0,none⟩=some (.int .i64 m)∧Stp [b] w w'∧wB.heap.size≤w'.heap.size) ?_ ?_
     · repeat'(first|refine W1 ?_|omega|refine VG ?_ ?_<;>intro hg|refine VC ?_ ?_<;>intro hc)
       ·
         have hk0:0<k:=by omega
         have hcm:Z0B l k i2 o2=Z0D l [44] i2 o2:=by unfold Z0B;rw [if_pos hk0]
         rw [hcm] at hM
         cases hU:Z0D l [44] i2 o2 with
         | err a c=>
           rw [hU] at hM
           simp only [Xc] at hM
           subst hM
           simp only [Xc] at h
           subst h
           refine Zt rfl (Zb rfl rfl) (PC.falls (Z0Q b tv l hL _ (by decide) i2 o2 _ hp) hU hS) rfl ?_
           intro wz hwz
           repeat'(first|refine Zc ?_|refine Z9 ?_)
           refine Zn ?_
           exact PC.err hwz
         | ok u iC oC=>
           rw [hU] at hM
           simp only at hM
           have hoC:=Z0U hU
           refine CL rfl (Zb rfl rfl) rfl (PC.goes (Z0Q b tv l hL _ (by decide) i2 o2 _ hp) hU) ?_
           rintro _ wC ⟨rfl,hpC,hT⟩
           have hbk:∀ c∈[b],c∈b3 :: b2 :: X∧c∉ob kv:=fun c hc=>by
            simp only [Xp] at hc
            subst hc
            exact ⟨by simp [hbX],fun h=>by have:=(hrow.ob_le c h).1;have:=hp.lt;omega⟩
           replace hrow:=hrow.ext (X':=b3 :: b2 :: X) hT hbk (fun c hc=>.inl hc)
           replace e2:=e2.ext hT (by simpa using n2b)
           replace e3:=e3.ext hT (by simpa using n3b)
           replace hm:=ZX hm hb1 hT
           replace hS:=hS.trans hT
           replace hsz:=Xg hsz hT.size
           refine W ?_
           exact ZJ (iC,oC) ⟨rfl,rfl,rfl,rfl,rfl,trivial⟩ ⟨hcm.trans hU,by dsimp only;omega,hpC,e3,hrow,e2,hm,hS,hsz⟩
       exact ZJ (i2,o2) ⟨rfl,rfl,rfl,rfl,rfl,trivial⟩ ⟨by unfold Z0B;rw [if_neg (by omega)],ho2',hp,e3,hrow,e2,hm,hS,hsz⟩
     · rintro ⟨iC,oC⟩ wC ⟨hcm,hoC,hp,e3,hrow,e2,hm,hS,hsz⟩
       dsimp only at hcm hoC hp
       rw [hcm] at hM
       simp only at hM
       refine W ?_
       cases hE:Zp l f (.expr 1) iC oC with
       | none=>rw [hE] at hM;simp at hM
       | some r2=>
         rw [hE] at hM
         obtain ⟨hpb,hps,hpi,hpl,hpo⟩:=id hp
         have hlb:=hpb.lt
         have hlk:=hrow.ob_le
         have hXk:∀ c∈ob kv++(b3 :: b2 :: X),c<wC.heap.size:=fun c hc=>by
          rcases Xt.1 hc with h|h
          exact (hlk c h).2
          exact Xb (hXb c h) hsz
         cases r2 with
         | err a c=>
           simp only [Xc] at hM
           subst hM
           simp only [Xc] at h
           subst h
           refine Z2r 8 (b :: ob kv) [7] [(0,0),(1,1),(2,0),(3,2),(4,2),(5,2),(6,0),(7,2)] rfl mixed (by kernel_rfl) (by kernel_rfl) (by kernel_rfl) (fun w1 hS1=>?_)
           replace hp:=hp.up hS1;replace e3:=e3.up hS1
           replace hm:=hS1.cell (by simp) hm
           replace hS:=hS.trans (hS1.mono (by simp))
           have hsub:=IH l hL m (.expr 1) iC oC _ hE (ob kv++(b3 :: b2 :: X)) b tv w1 hb1 (by simp [hbX]) (fun c hc=>Xb (hXk c hc) hS1.size) hm hp (by omega) (by omega)
           refine ZM rfl trivial (fun _=>J3 rfl) rfl ?_
           refine Z1j rfl trivial (fun w' hw=>ZT rfl rfl (e3.ext hw (by simp only [Xd,not_or];exact ⟨n3b,hn3⟩)) rfl) rfl ?_
           refine ZM rfl trivial (fun _=>J2 rfl) rfl ?_
           refine Z3Q rfl trivial rfl (Zb rfl rfl) (PC.falls hsub rfl hS) rfl ?_
           intro wz hwz
           repeat'(first|refine Zc ?_|refine Z9 ?_)
           refine Zn ?_
           exact PC.err hwz
         | ok x i3 o3=>
           simp only at hM
           refine Z4L 8 (b :: ob kv) [7] [(0,0),(1,1),(2,0),(3,2),(4,2),(5,2),(6,0),(7,2)] rfl mixed (by kernel_rfl) (by kernel_rfl) (by kernel_rfl) (fun w1 hS1=>?_)
           replace hp:=hp.up hS1;replace e3:=e3.up hS1;replace e2:=e2.up hS1;replace hrow:=hrow.up hS1
           replace hm:=hS1.cell (by simp) hm
           replace hS:=hS.trans (hS1.mono (by simp))
           have hsz1:=Xg hsz hS1.size
           have hXk1:∀ c∈ob kv++(b3 :: b2 :: X),c<w1.heap.size:=fun c hc=>Xb (hXk c hc) hS1.size
           have hsub:=IH l hL m (.expr 1) iC oC _ hE (ob kv++(b3 :: b2 :: X)) b tv w1 hb1 (by simp [hbX]) hXk1 hm hp (by omega) (by omega)
           clear hS1 hXk hpb hps hlk
           refine Jf rfl trivial rfl rfl ?_
           refine Jv rfl trivial rfl rfl e3 (by simp only [Xd,not_or];exact ⟨n3b,hn3⟩) rfl rfl ?_
           refine Z6s rfl trivial rfl rfl ?_
           refine ZC rfl trivial (Ze rfl (Zb rfl rfl) (PC.goes hsub rfl)) (fun _ _ h=>h.2.2.mono (by simp)) rfl ?_
           rintro _ w7 ⟨⟨kx,rfl,hx⟩,hp7,hT⟩
           have hbk:∀ c∈[b],c∈b3 :: b2 :: X∧c∉ob kv:=fun c hc=>by
            simp only [Xp] at hc
            subst hc
            exact ⟨by simp [hbX],fun h=>by have:=(hrow.ob_le c h).1;omega⟩
           replace hrow:=hrow.ext (X':=b3 :: b2 :: X) hT hbk (fun c hc=>.inl hc)
           replace e2:=e2.ext hT (by simpa using n2b)
           replace e3:=e3.ext hT (by simpa using n3b)
           replace hm:=ZX hm hb1 hT
           replace hS:=hS.trans hT
           have hsz7:=Xg hsz1 hT.size
           have hXk7:∀ c∈ob kv++(b3 :: b2 :: X),c<w7.heap.size:=fun c hc=>Xb (hXk1 c hc) hT.size
           clear hT hXk1 hsz1 hsub hp
           obtain ⟨px,cx,rfl,-⟩:=id hx
           refine ZC rfl trivial (Z3 (vs:=[(0,.agg (ndC x (.slice px x.kids.length cx)).toArray)]) rfl (Z26 _ _ _ _ _ _)) (fun _ _ h=>(ZA.stp h).mono (by simp)) rfl ?_
           intro bv w8 hN
           have hbv:SlV (ob kv++(b3 :: b2 :: X)) w8 bv [x]:=hN.slvG (css:=[ndC x _]) hXk7 rfl rfl rfl (Z7N hx) (by simp [maxLen])
           have hT:=ZA.stp hN
           replace hp7:=hp7.up hT;replace e3:=e3.up hT;replace e2:=e2.up hT;replace hrow:=hrow.up hT
           replace hm:=hT.cell (by simp) hm
           replace hS:=hS.trans (hT.mono (by simp))
           have hsz8:=Xg hsz7 hT.size
           have hXk8:∀ c∈ob kv++(b3 :: b2 :: X),c<w8.heap.size:=fun c hc=>Xb (hXk7 c hc) hT.size
           clear hT hN hXk7 hsz7 hx
           have hbase:wB.heap.size≤w8.heap.size:=Xg hwB hsz8
           refine ZC rfl trivial (Jn (X:=b3 :: b2 :: X) (base:=wB.heap.size) rfl (by decide) rfl rfl hrow hbv (by simp only [Xe,Xi];omega) (by simp only [Xe,Xi,maxLen];omega) hbase) (fun _ _ h=>h.2.1.mono (fun c hc=>XH _ hc)) rfl ?_
           rintro kv' w9 ⟨hrow',hT,hown⟩
           have hown1:∀ c∈ob kv,w.heap.size≤c:=fun c hc=>by have:=(hrow.ob_le c hc).1;omega
           have hn3':b3∉ob kv':=fun h=>by
            rcases hown _ h with h|h
            exact hn3 h
            have:=hXk8 b3 (by simp);omega
           have hn2':b2∉ob kv:=fun h=>by have:=(hrow.ob_le _ h).1;omega
           have hn1:(2:Nat)∉ob kv:=fun h=>by have:=(hrow.ob_le _ h).1;have:=block_lt_of_cell hm0;simp at this;omega
           have hnX:∀ c∈X,c∉ob kv':=fun c hc h=>by
            have:=(hrow'.ob_le _ h).1
            have:=hX c hc
            omega
           replace e2:=e2.ext hT hn2'
           replace e3:=e3.ext hT hn3
           replace hm:=hT.cell hn1 hm
           replace hS:=hS.own hT (fun c hc=>.inr (hown1 c hc))
           replace hp7:Pd w9 b tv l i3 o3:=by
            obtain ⟨g1,g2,g3,g4,g5⟩:=hp7
            exact ⟨g1.ext hT (fun h=>by have:=hown1 b h;omega),hs0.ext hS (fun c hc=>hc) (fun c hc=>.inl hc),g3,g4,g5⟩
           have hsz9:=Xg hsz8 hT.size
           clear hT hbv hXk8 hrow
           refine Jf rfl trivial rfl rfl ?_
           refine ZU rfl trivial (Zg (u:=kv') rfl rfl (Z60 hrow') (Z9s hrow') e3 (by simp)) rfl ?_
           rintro _ w10 ⟨hT,e3'⟩
           replace e3':Blk w10 b3 27 (ndC (.mk 10 0 (cur l i).text (ks++[x])) kv'):=e3'
           replace e2:=e2.ext hT (by simpa using n23)
           replace hm:=hT.cell (by simpa using n31.symm) hm
           replace hS:=hS.own hT (fun c hc=>by simp at hc;subst hc;exact .inr hb3w)
           replace hp7:Pd w10 b tv l i3 o3:=by
            obtain ⟨g1,g2,g3,g4,g5⟩:=hp7
            exact ⟨g1.ext hT (by simpa using n3b.symm),hs0.ext hS (fun c hc=>hc) (fun c hc=>.inl hc),g3,g4,g5⟩
           replace hrow':=hrow'.ext (X':=b3 :: b2 :: X) hT (fun c hc=>by simp at hc;subst hc;exact ⟨by simp,hn3'⟩) (fun c hc=>.inl hc)
           have hsz10:=Xg hsz9 hT.size
           refine D ?_
           refine W ?_
           exact Zd (k+1,ks++[x],kv',i3,o3) ⟨rfl,rfl,rfl,rfl,rfl,trivial⟩ ⟨by rw [show Z0g (cur l i).text - (k+1)=n' by omega];exact hM,by omega,by simp;omega,by show o3=o+1;have:=Jg l _ _ _ _ _ _ _ hE;omega,hp7,e3',hrow',hn3',⟨_,rfl,e2⟩,hm,hS,hsz10⟩ (by dsimp only;omega)
     exfalso
     omega
     · have hk:k=Z0g (cur l i).text:=by omega
       rw [show Z0g (cur l i).text - k=0 by omega] at hM
       simp only [JH,Xc] at hM
       subst hM
       simp only at h
       have ho2:0<o2:=by omega
       repeat'(first|refine W1 ?_|omega|refine VG ?_ ?_<;>intro hg|refine VC ?_ ?_<;>intro hc)
       cases hC:JS l [41] i2 o2 with
       | err a c=>
         rw [hC] at h
         simp only [Xc] at h
         subst h
         refine Zt rfl (Zb rfl rfl) (PC.falls (Z0m b tv l hL _ (by decide) i2 o2 ho2 _ hp) hC hS) rfl ?_
         intro wz hwz
         repeat'(first|refine Zc ?_|refine Z9 ?_)
         refine Zn ?_
         exact PC.err hwz
       | ok u i3 o3=>
         rw [hC] at h
         simp only [Xc] at h
         subst h
         refine CL rfl (Zb rfl rfl) rfl (PC.goes (Z0m b tv l hL _ (by decide) i2 o2 ho2 _ hp) hC) ?_
         rintro _ w7 ⟨rfl,hp7,hT⟩
         have hbk:∀ c∈[b],c∈b3 :: b2 :: X∧c∉ob kv:=fun c hc=>by
          simp only [Xp] at hc
          subst hc
          exact ⟨by simp [hbX],fun h=>by have:=(hrow.ob_le c h).1;have:=hp.lt;omega⟩
         have hnX:∀ c∈b3 :: b2 :: X,c∉ob kv:=fun c hc h=>by
          have h1:=(hrow.ob_le _ h).1
          rcases Xd.1 hc with rfl|hc
          exact hn3 h
          rcases Xd.1 hc with rfl|hc
          omega
          have:=hX c hc;omega
         replace hrow:=hrow.ext (X':=b3 :: b2 :: X) hT hbk (fun c hc=>.inl hc)
         replace e2:=e2.ext hT (by simpa using n2b)
         replace e3:=e3.ext hT (by simpa using n3b)
         replace hS:=hS.trans hT
         have hsl:=hrow.slvN hnX
         refine W ?_
         refine Z1 (Z2 (us:=ndC (.mk 10 0 (cur l i).text ks) kv) rfl rfl rfl rfl (ZD hsl) e2 rfl) ?_
         rintro _ wz ⟨hT,e2'⟩
         refine W ?_
         refine ZW rfl rfl rfl e2' rfl ?_
         obtain ⟨hpb,hps,hpi,hpl,hpo⟩:=id hp7
         have hSx:=hS.own hT (fun c hc=>by simp at hc;subst hc;exact .inr hb2w)
         refine PC.ok ⟨_,rfl,?_⟩ ⟨hpb.ext hT (by simpa using n2b.symm),hs0.ext hSx (fun c hc=>hc) (fun c hc=>.inl hc),hpi,hpl,hpo⟩ hSx
         exact (hsl.ext (X':=b3 :: b2 :: X) hT (fun c hc=>by simp at hc;simp [hc]) (fun c hc=>.inl hc)).wk (fun c hc=>by simp [hc])
set_option maxHeartbeats 2000000 in
theorem Zdr (f:Nat) (IH:Z5Y f) (l:List Tkn) (hL:Z25 l) (m:Int) (i o:Nat) (r:Out Nd)
 (h : (match JJ l [105, 102] i o with
   | .err a c=>some (.err a c)
   | .ok _ i' o'=>
     match Zp l f (.expr 1) i' o' with
     | none=>none
     | some (.err a c)=>some (.err a c)
     | some (.ok x i'' o'')=>
       match JH (Zp l f (.expr 1)) (Z56 l) 2 0 [x] i'' o'' with
       | none=>none
       | some (.err a c)=>some (.err a c)
       | some (.ok ks i3 o3)=>
         match JS l [101,110,100] i3 o3 with
         | .err a c=>some (.err a c)
         | .ok _ i4 o4=>some (.ok (.mk 9 0 [] ks) i4 o4))=some r) (X:List Nat) (b:Nat) (tv:Value) (w:World) (hb1:b≠2) (hbX:b∈X) (hX:∀ c∈X,c<w.heap.size) (hm:w.cell? ⟨2,0,none⟩=some (.int .i64 m)) (hp:Pd w b tv l i o) :
 Calls Tryz.prog 274 #[.pointer (some ⟨b,0,none⟩)] w (PC b w tv l r (fun x v w'=>NdV X w' v x)):=by
 have hs0:=hp.2.1
 have hm0:=hm
 have hbw:=hp.lt
 refine cW1 32 Tryz.func274 ?_
 refine W ?_
 refine Z0 Z8 rfl ?_
 rintro _ w1 ⟨b2,rfl,hb2,e2,hS⟩
 have n2b:b2≠b:=by have:=hp.lt;omega
 have hb2w:w.heap.size≤b2:=hb2
 replace hm:=hS.cell (by simp) hm
 replace hp:=hp.up hS
 refine W ?_
 cases hO:JJ l [105,102] i o with
 | err a c=>
   rw [hO] at h
   simp only [Xc] at h
   subst h
   refine Zt rfl (Zb rfl rfl) (PC.falls (Jq b tv l hL _ (by decide) i o _ hp) hO (hS.mono (by simp))) rfl ?_
   intro wz hwz
   repeat'(first|refine Zc ?_|refine Z9 ?_)
   refine Zn ?_
   exact PC.err hwz
 | ok t i1 o1=>
   obtain ⟨hoo,hoi,hopt⟩:=Zu hO
   subst o1;subst i1
   rw [hO] at h
   simp only at h
   refine CL rfl (Zb rfl rfl) rfl (PC.goes (Jq b tv l hL _ (by decide) i o _ hp) hO) ?_
   rintro _ wA ⟨rfl,hp2,hT⟩
   replace e2:=e2.ext hT (by simpa using n2b)
   replace hm:=ZX hm hb1 hT
   replace hS:=(hS.mono (S':=[b]) (by simp)).trans hT
   clear hT hp
   have l2:=e2.lt
   have hXa:∀ c∈b2 :: X,c<wA.heap.size:=fun c hc=>by
    rcases Xd.1 hc with rfl|hc
    exact l2
    have:=hX c hc;have:=hS.size;omega
   refine W ?_
   cases hE0:Zp l f (.expr 1) (i+1) (o+1) with
   | none=>rw [hE0] at h;simp at h
   | some r1=>
   rw [hE0] at h
   have hsub:=IH l hL m (.expr 1) (i+1) (o+1) r1 hE0 (b2 :: X) b tv wA hb1 (by simp [hbX]) hXa hm hp2 (by omega) (by omega)
   cases r1 with
   | err a c=>
     simp only [Xc] at h
     subst h
     refine Zt rfl (Zb rfl rfl) (PC.falls hsub rfl hS) rfl ?_
     intro wz hwz
     repeat'(first|refine Zc ?_|refine Z9 ?_)
     refine Zn ?_
     exact PC.err hwz
   | ok x0 iA oA=>
     have hoA:=Jg l _ _ _ _ _ _ _ hE0
     simp only at h
     refine CL rfl (Zb rfl rfl) rfl (PC.goes hsub rfl) ?_
     rintro _ wB ⟨⟨kx0,rfl,hx0⟩,hp,hT⟩
     replace e2:=e2.ext hT (by simpa using n2b)
     replace hm:=ZX hm hb1 hT
     replace hS:=hS.trans hT
     have hXB:∀ c∈b2 :: X,c<wB.heap.size:=fun c hc=>Xb (hXa c hc) hT.size
     clear hT hp2 hsub hXa l2
     obtain ⟨p0,c0,rfl,-⟩:=id hx0
     refine Z0 (Z3 (vs:=[(0,.agg (ndC x0 (.slice p0 x0.kids.length c0)).toArray)]) rfl (Z26 _ _ _ _ _ _)) rfl ?_
     intro kv0 wD hN
     have hr0:Row (b2 :: X) wD wB.heap.size 27 kv0 [x0]:=hN.rowG (css:=[ndC x0 _]) hXB (Xk _) rfl rfl rfl (Z7N hx0) (by simp [maxLen])
     obtain ⟨bn,rfl,hbn,-,hT⟩:=id hN
     replace hp:=hp.up hT;replace e2:=e2.up hT
     replace hm:=hT.cell (by simp) hm
     replace hS:=hS.trans (hT.mono (by simp))
     have hBD:=hT.size
     clear hT hN hx0
     apply Za (vs:=[(0,.int .i64 9),(3,.slice (some ⟨bn,0,none⟩) 1 1)]) rfl (Zdp _ _ _) rfl
     refine Z0 Z8 rfl ?_
     rintro _ w3 ⟨b3,rfl,hb3,e3,hT⟩
     have n23:b2≠b3:=by have:=e2.lt;omega
     have n3b:b3≠b:=by have:=hp.lt;omega
     have n31:b3≠2:=by have:=block_lt_of_cell hm;simp at this;omega
     have n3n:b3≠bn:=by have:=(hr0.ob_le bn (by simp [ob])).2;omega
     have hb3w:w.heap.size≤b3:=Xg hS.size hb3
     refine Z1 (Z2 (us:=ndC (.mk 9 0 [] [x0]) (.slice (some ⟨bn,0,none⟩) 1 1)) rfl rfl rfl rfl (by intro c hc;simp [ndC] at hc;rcases hc with rfl|rfl|rfl|rfl<;>rfl) e3 rfl) ?_
     rintro _ w4 ⟨hT2,e3'⟩
     replace hT:=hT.own hT2 (fun c hc=>.inr (by simp at hc;omega))
     clear hT2 e3
     replace hp:=hp.up hT;replace e2:=e2.up hT
     replace hr0:Row (b3 :: b2 :: X) w4 wB.heap.size 27 (.slice (some ⟨bn,0,none⟩) 1 1) [x0]:=hr0.ext hT (by simp) (fun c hc=>by
      rcases Xd.1 hc with rfl|hc
      exact .inr hb3
      exact .inl hc)
     replace hm:=hT.cell (by simp) hm
     replace hS:=hS.trans (hT.mono (by simp))
     have hB4:=Xg hBD hT.size
     clear hT
     refine W ?_
     refine Z0 (Z3 (vs:=[(0,str [116,104,101,110]),(1,str [101,108,115,101])]) rfl (Zdq _ _)) rfl ?_
     intro wv w5 hN
     obtain ⟨bw,rfl,hbw5,ew,hT⟩:=id hN
     have nwb:bw≠b:=by have:=hp.lt;omega
     have nw3:bw≠b3:=by have:=e3'.lt;omega
     have nwn:bw≠bn:=by have:=(hr0.ob_le bn (by simp [ob])).2;omega
     replace hp:=hp.up hT;replace e2:=e2.up hT;replace e3':=e3'.up hT;replace hr0:=hr0.up hT
     replace hm:=hT.cell (by simp) hm
     replace hS:=hS.trans (hT.mono (by simp))
     have hwB:=Xg hB4 hT.size
     have l2:=hXB b2 (by simp)
     have hXb:∀ c∈b3 :: b2 :: X,c<w5.heap.size:=fun c hc=>by
      rcases Xd.1 hc with rfl|hc
      exact e3'.lt
      exact Xb (hXB c hc) hwB
     clear hT hN hbw5
     have hwv:=Blk.slv2 ew
     have hwv2:(0:Nat)<([[116,104,101,110],[101,108,115,101]]:List Str).length:=by simp
     refine W ?_
     cases hM:JH (Zp l f (.expr 1)) (Z56 l) 2 0 [x0] iA oA with
     | none=>rw [hM] at h;simp at h
     | some r3=>
     rw [hM] at h
     refine Zh (σ:=Nat×List Nd×Value×Nat×Nat) (fun q=>[(0,.pointer (some ⟨b,0,none⟩)),(2,.pointer (some ⟨b2,0,none⟩)),(3,.pointer (some ⟨b3,0,none⟩)),(12,.slice (some ⟨bw,0,none⟩) 2 2),(13,.int .i64 2),(14,.int .i64 (q.1:Int))])
      (fun q w'=>JH (Zp l f (.expr 1)) (Z56 l) (2 - q.1) q.1 q.2.1 q.2.2.2.1 q.2.2.2.2=some r3∧q.1≤2∧q.2.1.length=q.1+1∧q.2.2.2.2=o+1∧Pd w' b tv l q.2.2.2.1 q.2.2.2.2∧Blk w' b3 27 (ndC (.mk 9 0 [] q.2.1) q.2.2.1)∧Row (b3 :: b2 :: X) w' wB.heap.size 27 q.2.2.1 q.2.1∧b3∉ob q.2.2.1∧bw∉ob q.2.2.1∧Blk w' bw 9 [str [116,104,101,110],str [101,108,115,101]]∧(∃ cs:List Value,cs.length=4∧Blk w' b2 27 cs)∧w'.cell? ⟨2,0,none⟩=some (.int .i64 m)∧Stp [b] w w'∧w5.heap.size≤w'.heap.size)
      (fun q=>2 - q.1) (0,[x0],.slice (some ⟨bn,0,none⟩) 1 1,iA,oA) ⟨rfl,rfl,rfl,rfl,rfl,rfl,trivial⟩ ⟨hM,by simp,rfl,hoA,hp,e3',hr0,by simpa [ob] using n3n,by simpa [ob] using nwn,ew,⟨_,rfl,e2⟩,hm,hS,Xk _⟩ ?_
     have hwBw:w.heap.size≤wB.heap.size:=by omega
     clear hM hp e3' e2 hm hS hwv hr0 ew
     rintro ⟨k,ks,kv,i2,o2⟩ w6 ⟨hM,hka,hkl,ho2',hp,e3,hrow,hn3,hnw,ew,⟨cs2,hc2,e2⟩,hm,hS,hsz⟩
     dsimp only at hM hka hkl ho2' hp e3 hrow hn3 hnw hsz ⊢
     match cs2,hc2 with
     | [q0,q1,q2,q3],_=>
     have hwv:=Blk.slv2 ew
     by_cases hlt:k<2
     · obtain ⟨n',hn'⟩:∃ n',2 - k=n'+1:=⟨2 - k - 1,by omega⟩
       rw [hn'] at hM
       simp only [JH] at hM
       have hk2:k<([[116,104,101,110],[101,108,115,101]]:List Str).length:=hlt
       have hth:Z56 l k i2 o2=Z0D l (([[116,104,101,110],[101,108,115,101]]:List Str)[k]) i2 o2:=by
        rcases (by omega:k=0∨k=1) with rfl|rfl<;>rfl
       have hne:([[116,104,101,110],[101,108,115,101]]:List Str)[k]≠[]:=by
        rcases (by omega:k=0∨k=1) with rfl|rfl
        show ([116,104,101,110]:Str)≠[];decide
        show ([101,108,115,101]:Str)≠[];decide
       rw [hth] at hM
       repeat'(first|refine W1 ?_|omega|refine VG ?_ ?_<;>intro hg|refine VC ?_ ?_<;>intro hc)
       cases hU:Z0D l (([[116,104,101,110],[101,108,115,101]]:List Str)[k]) i2 o2 with
       | err a c=>
         rw [hU] at hM
         simp only [Xc] at hM
         subst hM
         simp only [Xc] at h
         subst h
         refine Zt rfl (Zb rfl rfl) (PC.falls (Z0Q b tv l hL _ hne i2 o2 _ hp) hU hS) rfl ?_
         intro wz hwz
         repeat'(first|refine Zc ?_|refine Z9 ?_)
         refine Zn ?_
         exact PC.err hwz
       | ok u iC oC=>
         rw [hU] at hM
         simp only at hM
         have hoC:=Z0U hU
         refine CL rfl (Zb rfl rfl) rfl (PC.goes (Z0Q b tv l hL _ hne i2 o2 _ hp) hU) ?_
         rintro _ wC ⟨rfl,hpC,hT⟩
         have hbk:∀ c∈[b],c∈b3 :: b2 :: X∧c∉ob kv:=fun c hc=>by
          simp only [Xp] at hc
          subst hc
          exact ⟨by simp [hbX],fun h=>by have:=(hrow.ob_le c h).1;have:=hp.lt;omega⟩
         replace hrow:=hrow.ext (X':=b3 :: b2 :: X) hT hbk (fun c hc=>.inl hc)
         replace e2:=e2.ext hT (by simpa using n2b)
         replace ew:=ew.ext hT (by simpa using nwb)
         replace e3:=e3.ext hT (by simpa using n3b)
         replace hm:=ZX hm hb1 hT
         replace hS:=hS.trans hT
         replace hsz:=Xg hsz hT.size
         clear hT hp hU hwv hth
         refine W ?_
         have hp:=hpC
         cases hE:Zp l f (.expr 1) iC oC with
         | none=>rw [hE] at hM;simp at hM
         | some r2=>
           rw [hE] at hM
           obtain ⟨hpb,hps,hpi,hpl,hpo⟩:=id hp
           have hlb:=hpb.lt
           have hlk:=hrow.ob_le
           have hXk:∀ c∈ob kv++(b3 :: b2 :: X),c<wC.heap.size:=fun c hc=>by
            rcases Xt.1 hc with h|h
            exact (hlk c h).2
            exact Xb (hXb c h) hsz
           cases r2 with
           | err a c=>
             simp only [Xc] at hM
             subst hM
             simp only [Xc] at h
             subst h
             refine Z2r 8 (b :: ob kv) [7] [(0,0),(1,1),(2,0),(3,2),(4,2),(5,2),(6,0),(7,2)] rfl mixed (by kernel_rfl) (by kernel_rfl) (by kernel_rfl) (fun w1 hS1=>?_)
             replace hp:=hp.up hS1;replace e3:=e3.up hS1
             replace hm:=hS1.cell (by simp) hm
             replace hS:=hS.trans (hS1.mono (by simp))
             have hsub:=IH l hL m (.expr 1) iC oC _ hE (ob kv++(b3 :: b2 :: X)) b tv w1 hb1 (by simp [hbX]) (fun c hc=>Xb (hXk c hc) hS1.size) hm hp (by omega) (by omega)
             refine ZM rfl trivial (fun _=>J3 rfl) rfl ?_
             refine Z1j rfl trivial (fun w' hw=>ZT rfl rfl (e3.ext hw (by simp only [Xd,not_or];exact ⟨n3b,hn3⟩)) rfl) rfl ?_
             refine ZM rfl trivial (fun _=>J2 rfl) rfl ?_
             refine Z3Q rfl trivial rfl (Zb rfl rfl) (PC.falls hsub rfl hS) rfl ?_
             intro wz hwz
             repeat'(first|refine Zc ?_|refine Z9 ?_)
             refine Zn ?_
             exact PC.err hwz
           | ok x i3 o3=>
             simp only at hM
             refine Z4L 8 (b :: ob kv) [7] [(0,0),(1,1),(2,0),(3,2),(4,2),(5,2),(6,0),(7,2)] rfl mixed (by kernel_rfl) (by kernel_rfl) (by kernel_rfl) (fun w1 hS1=>?_)
             replace hp:=hp.up hS1;replace e3:=e3.up hS1;replace e2:=e2.up hS1;replace ew:=ew.up hS1;replace hrow:=hrow.up hS1
             replace hm:=hS1.cell (by simp) hm
             replace hS:=hS.trans (hS1.mono (by simp))
             have hsz1:=Xg hsz hS1.size
             have hXk1:∀ c∈ob kv++(b3 :: b2 :: X),c<w1.heap.size:=fun c hc=>Xb (hXk c hc) hS1.size
             have hsub:=IH l hL m (.expr 1) iC oC _ hE (ob kv++(b3 :: b2 :: X)) b tv w1 hb1 (by simp [hbX]) hXk1 hm hp (by omega) (by omega)
             clear hS1 hXk hpb hps hlk
             refine Jf rfl trivial rfl rfl ?_
             refine Jv rfl trivial rfl rfl e3 (by simp only [Xd,not_or];exact ⟨n3b,hn3⟩) rfl rfl ?_
             refine Z6s rfl trivial rfl rfl ?_
             refine ZC rfl trivial (Ze rfl (Zb rfl rfl) (PC.goes hsub rfl)) (fun _ _ h=>h.2.2.mono (by simp)) rfl ?_
             rintro _ w7 ⟨⟨kx,rfl,hx⟩,hp7,hT⟩
             have hbk:∀ c∈[b],c∈b3 :: b2 :: X∧c∉ob kv:=fun c hc=>by
              simp only [Xp] at hc
              subst hc
              exact ⟨by simp [hbX],fun h=>by have:=(hrow.ob_le c h).1;omega⟩
             replace hrow:=hrow.ext (X':=b3 :: b2 :: X) hT hbk (fun c hc=>.inl hc)
             replace e2:=e2.ext hT (by simpa using n2b)
             replace ew:=ew.ext hT (by simpa using nwb)
             replace e3:=e3.ext hT (by simpa using n3b)
             replace hm:=ZX hm hb1 hT
             replace hS:=hS.trans hT
             have hsz7:=Xg hsz1 hT.size
             have hXk7:∀ c∈ob kv++(b3 :: b2 :: X),c<w7.heap.size:=fun c hc=>Xb (hXk1 c hc) hT.size
             clear hT hXk1 hsz1 hsub hp
             obtain ⟨px,cx,rfl,-⟩:=id hx
             refine ZC rfl trivial (Z3 (vs:=[(0,.agg (ndC x (.slice px x.kids.length cx)).toArray)]) rfl (Z26 _ _ _ _ _ _)) (fun _ _ h=>(ZA.stp h).mono (by simp)) rfl ?_
             intro bv w8 hN
             have hbv:SlV (ob kv++(b3 :: b2 :: X)) w8 bv [x]:=hN.slvG (css:=[ndC x _]) hXk7 rfl rfl rfl (Z7N hx) (by simp [maxLen])
             have hT:=ZA.stp hN
             replace hp7:=hp7.up hT;replace e3:=e3.up hT;replace e2:=e2.up hT;replace ew:=ew.up hT;replace hrow:=hrow.up hT
             replace hm:=hT.cell (by simp) hm
             replace hS:=hS.trans (hT.mono (by simp))
             have hsz8:=Xg hsz7 hT.size
             have hXk8:∀ c∈ob kv++(b3 :: b2 :: X),c<w8.heap.size:=fun c hc=>Xb (hXk7 c hc) hT.size
             clear hT hN hXk7 hsz7 hx
             have hbase:wB.heap.size≤w8.heap.size:=Xg hwB hsz8
             refine ZC rfl trivial (Jn (X:=b3 :: b2 :: X) (base:=wB.heap.size) rfl (by decide) rfl rfl hrow hbv (by simp only [Xe,Xi];omega) (by simp only [Xe,Xi,maxLen];omega) hbase) (fun _ _ h=>h.2.1.mono (fun c hc=>XH _ hc)) rfl ?_
             rintro kv' w9 ⟨hrow',hT,hown⟩
             have hown1:∀ c∈ob kv,w.heap.size≤c:=fun c hc=>by have:=(hrow.ob_le c hc).1;omega
             have hn3':b3∉ob kv':=fun h=>by
              rcases hown _ h with h|h
              exact hn3 h
              have:=hXk8 b3 (by simp);omega
             have hnw':bw∉ob kv':=fun h=>by
              rcases hown _ h with h|h
              exact hnw h
              have:=ew.lt;omega
             have hn2':b2∉ob kv:=fun h=>by have:=(hrow.ob_le _ h).1;omega
             have hn1:(2:Nat)∉ob kv:=fun h=>by have:=(hrow.ob_le _ h).1;have:=block_lt_of_cell hm0;simp at this;omega
             have hnX:∀ c∈X,c∉ob kv':=fun c hc h=>by
              have:=(hrow'.ob_le _ h).1
              have:=hX c hc
              omega
             replace e2:=e2.ext hT hn2'
             replace ew:=ew.ext hT hnw
             replace e3:=e3.ext hT hn3
             replace hm:=hT.cell hn1 hm
             replace hS:=hS.own hT (fun c hc=>.inr (hown1 c hc))
             replace hp7:Pd w9 b tv l i3 o3:=by
              obtain ⟨g1,g2,g3,g4,g5⟩:=hp7
              exact ⟨g1.ext hT (fun h=>by have:=hown1 b h;omega),hs0.ext hS (fun c hc=>hc) (fun c hc=>.inl hc),g3,g4,g5⟩
             have hsz9:=Xg hsz8 hT.size
             clear hT hbv hXk8 hrow
             refine Jf rfl trivial rfl rfl ?_
             refine ZU rfl trivial (Zg (u:=kv') rfl rfl (Z60 hrow') (Z9s hrow') e3 (by simp)) rfl ?_
             rintro _ w10 ⟨hT,e3'⟩
             replace e3':Blk w10 b3 27 (ndC (.mk 9 0 [] (ks++[x])) kv'):=e3'
             replace e2:=e2.ext hT (by simpa using n23)
             replace ew:=ew.ext hT (by simpa using nw3)
             replace hm:=hT.cell (by simpa using n31.symm) hm
             replace hS:=hS.own hT (fun c hc=>by simp at hc;subst hc;exact .inr hb3w)
             replace hp7:Pd w10 b tv l i3 o3:=by
              obtain ⟨g1,g2,g3,g4,g5⟩:=hp7
              exact ⟨g1.ext hT (by simpa using n3b.symm),hs0.ext hS (fun c hc=>hc) (fun c hc=>.inl hc),g3,g4,g5⟩
             replace hrow':=hrow'.ext (X':=b3 :: b2 :: X) hT (fun c hc=>by simp at hc;subst hc;exact ⟨by simp,hn3'⟩) (fun c hc=>.inl hc)
             have hsz10:=Xg hsz9 hT.size
             refine D ?_
             refine W ?_
             exact Zd (k+1,ks++[x],kv',i3,o3) ⟨rfl,rfl,rfl,rfl,rfl,rfl,trivial⟩ ⟨by rw [show 2 - (k+1)=n' by omega];exact hM,by omega,by simp;omega,by show o3=o+1;have:=Jg l _ _ _ _ _ _ _ hE;omega,hp7,e3',hrow',hn3',hnw',ew,⟨_,rfl,e2⟩,hm,hS,hsz10⟩ (by dsimp only;omega)
     · have hk:k=2:=by omega
       subst hk
       simp only [Nat.sub_self,JH,Xc] at hM
       subst hM
       simp only at h
       have ho2:0<o2:=by omega
       repeat'(first|refine W1 ?_|omega|refine VG ?_ ?_<;>intro hg|refine VC ?_ ?_<;>intro hc)
       cases hC:JS l [101,110,100] i2 o2 with
       | err a c=>
         rw [hC] at h
         simp only [Xc] at h
         subst h
         refine Zt rfl (Zb rfl rfl) (PC.falls (Z0m b tv l hL _ (by decide) i2 o2 ho2 _ hp) hC hS) rfl ?_
         intro wz hwz
         repeat'(first|refine Zc ?_|refine Z9 ?_)
         refine Zn ?_
         exact PC.err hwz
       | ok u i3 o3=>
         rw [hC] at h
         simp only [Xc] at h
         subst h
         refine CL rfl (Zb rfl rfl) rfl (PC.goes (Z0m b tv l hL _ (by decide) i2 o2 ho2 _ hp) hC) ?_
         rintro _ w7 ⟨rfl,hp7,hT⟩
         have hbk:∀ c∈[b],c∈b3 :: b2 :: X∧c∉ob kv:=fun c hc=>by
          simp only [Xp] at hc
          subst hc
          exact ⟨by simp [hbX],fun h=>by have:=(hrow.ob_le c h).1;have:=hp.lt;omega⟩
         have hnX:∀ c∈b3 :: b2 :: X,c∉ob kv:=fun c hc h=>by
          have h1:=(hrow.ob_le _ h).1
          rcases Xd.1 hc with rfl|hc
          exact hn3 h
          rcases Xd.1 hc with rfl|hc
          omega
          have:=hX c hc;omega
         replace hrow:=hrow.ext (X':=b3 :: b2 :: X) hT hbk (fun c hc=>.inl hc)
         replace e2:=e2.ext hT (by simpa using n2b)
         replace e3:=e3.ext hT (by simpa using n3b)
         replace hS:=hS.trans hT
         have hsl:=hrow.slvN hnX
         refine W ?_
         refine Z1 (Z2 (us:=ndC (.mk 9 0 [] ks) kv) rfl rfl rfl rfl (ZD hsl) e2 rfl) ?_
         rintro _ wz ⟨hT,e2'⟩
         refine W ?_
         refine ZW rfl rfl rfl e2' rfl ?_
         obtain ⟨hpb,hps,hpi,hpl,hpo⟩:=id hp7
         have hSx:=hS.own hT (fun c hc=>by simp at hc;subst hc;exact .inr hb2w)
         refine PC.ok ⟨_,rfl,?_⟩ ⟨hpb.ext hT (by simpa using n2b.symm),hs0.ext hSx (fun c hc=>hc) (fun c hc=>.inl hc),hpi,hpl,hpo⟩ hSx
         exact (hsl.ext (X':=b3 :: b2 :: X) hT (fun c hc=>by simp at hc;simp [hc]) (fun c hc=>.inl hc)).wk (fun c hc=>by simp [hc])
theorem Z6L (k n:Int) (w:World):(Instr.build 27 #[(0,.int .i64 k),(1,.int .i64 n)]).run Tryz.prog w=.ok (.agg #[.int .i64 k,.int .i64 n,str [],.slice none 0 0]) w:=by kernel_rfl
theorem Zds (k:Int) (w:World):(Instr.build 27 #[(0,.int .i64 k)]).run Tryz.prog w=.ok (.agg #[.int .i64 k,.int .i64 0,str [],.slice none 0 0]) w:=by kernel_rfl
theorem Zdt (k:Int) (s:Str) (w:World):(Instr.build 27 #[(0,.int .i64 k),(2,str s)]).run Tryz.prog w=.ok (.agg #[.int .i64 k,.int .i64 0,str s,.slice none 0 0]) w:=by kernel_rfl
theorem Z8I:Z6J.length≤1000000:=by decide
theorem Za2:Z9q.length≤1000000:=by decide
theorem Z5b:([]:Str)∉Z55:=by decide
set_option maxHeartbeats 4000000 in
theorem ZjA (f:Nat) (IH:Z5Y f) (l:List Tkn) (hL:Z25 l) (m:Int) (i o:Nat) (r:Out Nd) (h:Zp l (f+1) .prim i o=some r) (X:List Nat) (b:Nat) (tv:Value) (w:World) (hb1:b≠2) (hbX:b∈X) (hX:∀ c∈X,c<w.heap.size) (hm:w.cell? ⟨2,0,none⟩=some (.int .i64 m)) (hp:Pd w b tv l i o) :
 Calls Tryz.prog 213 #[.pointer (some ⟨b,0,none⟩)] w (PC b w tv l r (fun x v w'=>NdV X w' v x)):=by
 have hs0:=hp.2.1
 have hi:=hp.i_lt
 have hcur:=Z3O hi
 rw [Zp] at h
 refine cW1 91 Tryz.func213 ?_
 refine W ?_
 refine Z0 Z8 rfl ?_
 rintro _ w0 ⟨b2,rfl,hb2,e2,hS⟩
 have n2:b2≠b:=by have:=hp.lt;omega
 have hb2w:w.heap.size≤b2:=hb2
 obtain ⟨hpb,hps,hpi,hpl,hpo⟩:=id hp
 replace hpb:=hpb.up hS
 replace hps:=hps.up hS
 replace hm:=hS.cell (by simp) hm
 refine W ?_
 refine ZDr 12 [] [11] [(0,0),(1,0),(2,0),(3,1),(4,0),(5,0),(6,0),(7,1),(8,0),(9,1),(10,2),(11,2)] (fun w1 hS1=>?_)
 replace hpb:=hpb.up hS1
 replace hps:=hps.up hS1
 replace e2:=e2.up hS1
 replace hm:=hS1.cell (by simp) hm
 replace hS:=hS.trans hS1
 clear hS1
 refine D ?_
 refine ZC rfl trivial Z8 (fun _ _ ⟨_,_,_,_,h⟩=>h) rfl ?_
 rintro _ w2 ⟨b3,rfl,hb3,e3,hS2⟩
 have n3:b3≠b:=by have:=hpb.lt;omega
 have n32:b3≠b2:=by have:=e2.lt;omega
 have n31:b3≠2:=by have:=block_lt_of_cell hm;simp at this;omega
 have hb3w:w.heap.size≤b3:=Xg hS.size hb3
 refine ZU rfl trivial (Z2 (us:=Z5.enc l[i]) rfl rfl rfl rfl (Z5.one _) e3 rfl) rfl ?_
 rintro _ w3 ⟨hT,e3⟩
 have hT0:=hS2.own hT (fun c hc=>.inr (by simp at hc;omega))
 clear hT hS2
 replace hpb:=hpb.up hT0
 replace hps:=hps.up hT0
 replace e2:=e2.up hT0
 replace hm:=hT0.cell (by simp) hm
 replace hS:=hS.trans hT0
 clear hT0 hb3
 refine D ?_
 rw [← hcur] at e3
 clear hp
 have hp:Pd w3 b tv l i o:=⟨hpb,hps,hpi,hpl,hpo⟩
 have fin:∀ (nd:Nd) (i' o':Nat) (w4 w5:World) (kv:Value),nd.kids=[]→kv=.slice none 0 0→Pd w4 b tv l i' o'→Stp [b] w w4→Stp [b2] w4 w5→PC b w tv l (.ok nd i' o') (fun x v w'=>NdV X w' v x) (.returned (.agg (ndC nd kv).toArray)) w5:=by
  intro nd i' o' w4 w5 kv hk hkv hp4 h1 h2
  subst hkv
  obtain ⟨g1,g2,g3,g4,g5⟩:=hp4
  have hSx:=h1.own h2 (fun c hc=>by simp at hc;subst hc;exact .inr hb2w)
  refine PC.ok ⟨_,rfl,?_⟩ ⟨g1.ext h2 (by simpa using n2.symm),hs0.ext hSx (fun c hc=>hc) (fun c hc=>.inl hc),g3,g4,g5⟩ hSx
  rw [hk]
  exact Z1G _ _
 by_cases c1:(cur l i).kind=2
 · rw [if_pos c1] at h
   simp only [Xc] at h
   subst h
   repeat'(first|refine W1 ?_|omega|refine VG ?_ ?_<;>intro hg|refine VC ?_ ?_<;>intro hc)
   all_goals try exact absurd c1 (by assumption)
   obtain ⟨hpb,hps,hpi,hpl,hpo⟩:=id hp
   have hi1:=hL.end_of_kind hp.i_lt (by rw [c1];decide)
   refine W ?_
   refine Z1 (Zg (u:=.int .i64 ((i+1:Nat):Int)) rfl (by show some _=some _;simp) rfl rfl hpb (by simp)) ?_
   rintro _ w4 ⟨hT,hpb9⟩
   replace hps:=hps.ext (X':=[b]) hT (fun c hc=>hc) (fun c hc=>.inl hc)
   replace e2:=e2.ext hT (by simpa using n2)
   replace e3:=e3.ext hT (by simpa using n3)
   replace hS:=(hS.mono (S':=[b]) (by simp)).trans hT
   replace hp:Pd w4 b tv l (i+1) o:=⟨hpb9,hps,hi1,hpl,hpo⟩
   clear hT hpb9 hpb hps
   refine W ?_
   apply Za (vs:=[(0,.int .i64 1),(1,.int .i64 (cur l i).num)]) rfl (Z6L _ _) rfl
   refine Z1 (Z2 (us:=ndC (.mk 1 (cur l i).num [] []) (.slice none 0 0)) rfl rfl rfl rfl (ZD (x:=(.mk 1 (cur l i).num [] [])) (Z1G [] w)) e2 rfl) ?_
   rintro _ w5 ⟨hT,e2'⟩
   refine W ?_
   refine ZW rfl rfl rfl e2' rfl ?_
   exact fin _ _ _ _ _ _ rfl rfl hp hS hT
 rw [if_neg c1] at h
 by_cases c2:(cur l i).kind=3
 · rw [if_pos c2] at h
   simp only [Xc] at h
   subst h
   repeat'(first|refine W1 ?_|omega|refine VG ?_ ?_<;>intro hg|refine VC ?_ ?_<;>intro hc)
   all_goals try exact absurd (by assumption) c1
   all_goals try exact absurd c2 (by assumption)
   obtain ⟨hpb,hps,hpi,hpl,hpo⟩:=id hp
   have hi1:=hL.end_of_kind hp.i_lt (by rw [c2];decide)
   refine W ?_
   refine Z1 (Zg (u:=.int .i64 ((i+1:Nat):Int)) rfl (by show some _=some _;simp) rfl rfl hpb (by simp)) ?_
   rintro _ w4 ⟨hT,hpb9⟩
   replace hps:=hps.ext (X':=[b]) hT (fun c hc=>hc) (fun c hc=>.inl hc)
   replace e2:=e2.ext hT (by simpa using n2)
   replace e3:=e3.ext hT (by simpa using n3)
   replace hS:=(hS.mono (S':=[b]) (by simp)).trans hT
   replace hp:Pd w4 b tv l (i+1) o:=⟨hpb9,hps,hi1,hpl,hpo⟩
   clear hT hpb9 hpb hps
   refine W ?_
   apply Za (vs:=[(0,.int .i64 3),(1,.int .i64 (cur l i).num)]) rfl (Z6L _ _) rfl
   refine Z1 (Z2 (us:=ndC (.mk 3 (cur l i).num [] []) (.slice none 0 0)) rfl rfl rfl rfl (ZD (x:=(.mk 3 (cur l i).num [] [])) (Z1G [] w)) e2 rfl) ?_
   rintro _ w5 ⟨hT,e2'⟩
   refine W ?_
   refine ZW rfl rfl rfl e2' rfl ?_
   exact fin _ _ _ _ _ _ rfl rfl hp hS hT
 rw [if_neg c2] at h
 repeat'(first|refine W1 ?_|omega|refine VG ?_ ?_<;>intro hg|refine VC ?_ ?_<;>intro hc)
 all_goals try exact absurd (by assumption) c1
 all_goals try exact absurd (by assumption) c2
 refine CL rfl (Zb rfl rfl) rfl (Z57 b tv l [116,114,117,101] i o _ hp (fun h=>hL.end_of hp.i_lt (by rw [h];decide))) ?_
 rintro _ w4 ⟨rfl,hp4,hT⟩
 replace e2:=e2.ext hT (by simpa using n2)
 replace e3:=e3.ext hT (by simpa using n3)
 replace hm:=ZX hm hb1 hT
 replace hS:=(hS.mono (S':=[b]) (by simp)).trans hT
 clear hT hp
 by_cases c3:(cur l i).text=[116,114,117,101]
 rw [if_pos c3] at h
 simp only [Xc] at h
 subst h
 rw [if_pos c3] at hp4
 rw [decide_eq_true c3]
 have hp:=hp4
 refine W ?_
 apply Za (vs:=[(0,.int .i64 2),(1,.int .i64 1)]) rfl (Z6L _ _) rfl
 refine Z1 (Z2 (us:=ndC (.mk 2 1 [] []) (.slice none 0 0)) rfl rfl rfl rfl (ZD (x:=(.mk 2 1 [] [])) (Z1G [] w)) e2 rfl) ?_
 rintro _ w5 ⟨hT,e2'⟩
 refine W ?_
 refine ZW rfl rfl rfl e2' rfl ?_
 exact fin _ _ _ _ _ _ rfl rfl hp hS hT
 rw [if_neg c3] at h hp4
 rw [decide_eq_false c3]
 refine W ?_
 refine CL rfl (Zb rfl rfl) rfl (Z57 b tv l [102,97,108,115,101] i o _ hp4 (fun h=>hL.end_of hp4.i_lt (by rw [h];decide))) ?_
 rintro _ w5 ⟨rfl,hp5,hT⟩
 replace e2:=e2.ext hT (by simpa using n2)
 replace e3:=e3.ext hT (by simpa using n3)
 replace hm:=ZX hm hb1 hT
 replace hS:=hS.trans hT
 clear hT hp4
 by_cases c4:(cur l i).text=[102,97,108,115,101]
 rw [if_pos c4] at h
 simp only [Xc] at h
 subst h
 rw [if_pos c4] at hp5
 rw [decide_eq_true c4]
 have hp:=hp5
 refine W ?_
 apply Za (vs:=[(0,.int .i64 2)]) rfl (Zds _) rfl
 refine Z1 (Z2 (us:=ndC (.mk 2 0 [] []) (.slice none 0 0)) rfl rfl rfl rfl (ZD (x:=(.mk 2 0 [] [])) (Z1G [] w)) e2 rfl) ?_
 rintro _ w6 ⟨hT,e2'⟩
 refine W ?_
 refine ZW rfl rfl rfl e2' rfl ?_
 exact fin _ _ _ _ _ _ rfl rfl hp hS hT
 rw [if_neg c4] at h hp5
 rw [decide_eq_false c4]
 have hp:=hp5
 clear hp5
 by_cases c5:(cur l i).text=[40]
 · rw [if_pos c5] at h
   repeat'(first|refine W1 ?_|omega|refine VG ?_ ?_<;>intro hg|refine VC ?_ ?_<;>intro hc)
   all_goals try exact absurd c5 (by assumption)
   cases hO:JJ l [40] i o with
   | err a c=>
     rw [hO] at h
     simp only [Xc] at h
     subst h
     refine Zt rfl (Zb rfl rfl) (PC.falls (Jq b tv l hL _ (by decide) i o _ hp) hO hS) rfl ?_
     intro wz hwz
     repeat'(first|refine Zc ?_|refine Z9 ?_)
     refine Zn ?_
     exact PC.err hwz
   | ok t i1 o1=>
     obtain ⟨hoo,hoi,hopt⟩:=Zu hO
     subst o1;subst i1
     rw [hO] at h
     simp only at h
     refine CL rfl (Zb rfl rfl) rfl (PC.goes (Jq b tv l hL _ (by decide) i o _ hp) hO) ?_
     rintro _ wA ⟨rfl,hp2,hT⟩
     replace e2:=e2.ext hT (by simpa using n2)
     replace hm:=ZX hm hb1 hT
     replace hS:=hS.trans hT
     clear hT hp e3
     have l2:=e2.lt
     have hXa:∀ c∈b2 :: X,c<wA.heap.size:=fun c hc=>by
      rcases Xd.1 hc with rfl|hc
      exact l2
      have:=hX c hc;have:=hS.size;omega
     refine W ?_
     cases hE0:Zp l f (.expr 1) (i+1) (o+1) with
     | none=>rw [hE0] at h;simp at h
     | some r1=>
     rw [hE0] at h
     have hsub:=IH l hL m (.expr 1) (i+1) (o+1) r1 hE0 (b2 :: X) b tv wA hb1 (by simp [hbX]) hXa hm hp2 (by omega) (by omega)
     cases r1 with
     | err a c=>
       simp only [Xc] at h
       subst h
       refine Zt rfl (Zb rfl rfl) (PC.falls hsub rfl hS) rfl ?_
       intro wz hwz
       repeat'(first|refine Zc ?_|refine Z9 ?_)
       refine Zn ?_
       exact PC.err hwz
     | ok x iA oA=>
       have hoA:=Jg l _ _ _ _ _ _ _ hE0
       simp only at h
       refine CL rfl (Zb rfl rfl) rfl (PC.goes hsub rfl) ?_
       rintro _ wB ⟨⟨kx,rfl,hx⟩,hp,hT⟩
       replace e2:=e2.ext hT (by simpa using n2)
       replace hm:=ZX hm hb1 hT
       replace hS:=hS.trans hT
       clear hT hp2 hsub
       refine Z0 Z8 rfl ?_
       rintro _ wC ⟨b4,rfl,hb4,e4,hT⟩
       have n42:b4≠b2:=by have:=e2.lt;omega
       have n4:b4≠b:=by have:=hp.lt;omega
       refine Z1 (Z2 (us:=ndC x kx) rfl rfl rfl rfl (ZD hx) e4 rfl) ?_
       rintro _ wD ⟨hT2,e4'⟩
       replace hT:=hT.own hT2 (fun c hc=>.inr (by simp at hc;omega))
       clear hT2 e4
       replace hp:=hp.up hT;replace e2:=e2.up hT;replace hx:=hx.up hT
       replace hS:=hS.trans (hT.mono (by simp))
       clear hT
       refine W ?_
       cases hC:JS l [41] iA oA with
       | err a c=>
         rw [hC] at h
         simp only [Xc] at h
         subst h
         refine Zt rfl (Zb rfl rfl) (PC.falls (Z0m b tv l hL _ (by decide) iA oA (by omega) _ hp) hC hS) rfl ?_
         intro wz hwz
         repeat'(first|refine Zc ?_|refine Z9 ?_)
         refine Zn ?_
         exact PC.err hwz
       | ok u i3 o3=>
         rw [hC] at h
         simp only [Xc] at h
         subst h
         refine CL rfl (Zb rfl rfl) rfl (PC.goes (Z0m b tv l hL _ (by decide) iA oA (by omega) _ hp) hC) ?_
         rintro _ wE ⟨rfl,hp7,hT⟩
         replace e2:=e2.ext hT (by simpa using n2)
         replace e4':=e4'.ext hT (by simpa using n4)
         replace hx:=hx.ext (X':=b2 :: X) hT (fun c hc=>by simp at hc;subst hc;simp [hbX]) (fun c hc=>.inl hc)
         replace hS:=hS.trans hT
         clear hT hp
         refine W ?_
         refine Z1 (Z2 (us:=ndC x kx) rfl rfl rfl rfl (ZD hx) e2 rfl) ?_
         rintro _ wz ⟨hT,e2'⟩
         refine W ?_
         refine ZW rfl rfl rfl e2' rfl ?_
         obtain ⟨g1,g2,g3,g4,g5⟩:=hp7
         have hSx:=hS.own hT (fun c hc=>by simp at hc;subst hc;exact .inr hb2w)
         refine PC.ok ⟨_,rfl,?_⟩ ⟨g1.ext hT (by simpa using n2.symm),hs0.ext hSx (fun c hc=>hc) (fun c hc=>.inl hc),g3,g4,g5⟩ hSx
         exact (hx.ext (X':=b2 :: X) hT (fun c hc=>by simp at hc;simp [hc]) (fun c hc=>.inl hc)).wk (fun c hc=>by simp [hc])
 rw [if_neg c5] at h
 by_cases c6:(cur l i).text=[105,102]
 · rw [if_pos c6] at h
   repeat'(first|refine W1 ?_|omega|refine VG ?_ ?_<;>intro hg|refine VC ?_ ?_<;>intro hc)
   all_goals try exact absurd (by assumption) c5
   all_goals try exact absurd c6 (by assumption)
   have l2:=e2.lt
   have hXa:∀ c∈b2 :: X,c<w5.heap.size:=fun c hc=>by
    rcases Xd.1 hc with rfl|hc
    exact l2
    have:=hX c hc;have:=hS.size;omega
   have hsub:=Zdr f IH l hL m i o r h (b2 :: X) b tv _ hb1 (by simp [hbX]) hXa hm hp
   cases r with
   | err a c=>
     refine Zt rfl (Zk rfl) (PC.falls hsub rfl hS) rfl ?_
     intro wz hwz
     repeat'(first|refine Zc ?_|refine Z9 ?_)
     refine Zn ?_
     exact PC.err hwz
   | ok x i3 o3=>
     refine CL rfl (Zk rfl) rfl (PC.goes hsub rfl) ?_
     rintro _ wE ⟨⟨kx,rfl,hx⟩,hp7,hT⟩
     replace e2:=e2.ext hT (by simpa using n2)
     replace hS:=hS.trans hT
     clear hT hp
     refine Z1 (Z2 (us:=ndC x kx) rfl rfl rfl rfl (ZD hx) e2 rfl) ?_
     rintro _ wz ⟨hT,e2'⟩
     refine W ?_
     refine ZW rfl rfl rfl e2' rfl ?_
     obtain ⟨g1,g2,g3,g4,g5⟩:=hp7
     have hSx:=hS.own hT (fun c hc=>by simp at hc;subst hc;exact .inr hb2w)
     refine PC.ok ⟨_,rfl,?_⟩ ⟨g1.ext hT (by simpa using n2.symm),hs0.ext hSx (fun c hc=>hc) (fun c hc=>.inl hc),g3,g4,g5⟩ hSx
     exact (hx.ext (X':=b2 :: X) hT (fun c hc=>by simp at hc;simp [hc]) (fun c hc=>.inl hc)).wk (fun c hc=>by simp [hc])
 rw [if_neg c6] at h
 repeat'(first|refine W1 ?_|omega|refine VG ?_ ?_<;>intro hg|refine VC ?_ ?_<;>intro hc)
 all_goals try exact absurd (by assumption) c5
 all_goals try exact absurd (by assumption) c6
 refine CL rfl (Zb rfl rfl) rfl (Z2T Z9q Z5T Za1 (cur l i).text m _ hm Za2 (hL.tl i) (fun h=>Zbz h (hL.sp i))) ?_
 rintro _ w6 ⟨rfl,hT⟩
 replace hp:=hp.up hT;replace e2:=e2.up hT;replace e3:=e3.up hT
 replace hm:=hT.cell (by simp) hm
 replace hS:=hS.trans (hT.mono (by simp))
 clear hT
 by_cases c7:(cur l i).text∈Z5T
 · rw [if_pos c7] at h
   rw [decide_eq_true c7]
   refine W ?_
   have l2:=e2.lt
   have hXa:∀ c∈b2 :: X,c<w6.heap.size:=fun c hc=>by
    rcases Xd.1 hc with rfl|hc
    exact l2
    have:=hX c hc;have:=hS.size;omega
   have hsub:=Zjz f IH l hL m i o r c7 h (b2 :: X) b tv _ hb1 (by simp [hbX]) hXa hm hp
   cases r with
   | err a c=>
     refine Zt rfl (Zk rfl) (PC.falls hsub rfl hS) rfl ?_
     intro wz hwz
     repeat'(first|refine Zc ?_|refine Z9 ?_)
     refine Zn ?_
     exact PC.err hwz
   | ok x i3 o3=>
     refine CL rfl (Zk rfl) rfl (PC.goes hsub rfl) ?_
     rintro _ wE ⟨⟨kx,rfl,hx⟩,hp7,hT⟩
     replace e2:=e2.ext hT (by simpa using n2)
     replace hS:=hS.trans hT
     clear hT hp
     refine Z1 (Z2 (us:=ndC x kx) rfl rfl rfl rfl (ZD hx) e2 rfl) ?_
     rintro _ wz ⟨hT,e2'⟩
     refine W ?_
     refine ZW rfl rfl rfl e2' rfl ?_
     obtain ⟨g1,g2,g3,g4,g5⟩:=hp7
     have hSx:=hS.own hT (fun c hc=>by simp at hc;subst hc;exact .inr hb2w)
     refine PC.ok ⟨_,rfl,?_⟩ ⟨g1.ext hT (by simpa using n2.symm),hs0.ext hSx (fun c hc=>hc) (fun c hc=>.inl hc),g3,g4,g5⟩ hSx
     exact (hx.ext (X':=b2 :: X) hT (fun c hc=>by simp at hc;simp [hc]) (fun c hc=>.inl hc)).wk (fun c hc=>by simp [hc])
 rw [if_neg c7] at h
 rw [decide_eq_false c7]
 refine W ?_
 refine CL rfl (Zb rfl rfl) rfl (Z2T Z6J Z55 Z5b (cur l i).text m _ hm Z8I (hL.tl i) (fun h=>Z9Y h (hL.sp i))) ?_
 rintro _ w7 ⟨rfl,hT⟩
 replace hp:=hp.up hT;replace e2:=e2.up hT;replace e3:=e3.up hT
 replace hm:=hT.cell (by simp) hm
 replace hS:=hS.trans (hT.mono (by simp))
 clear hT
 by_cases c8:(cur l i).text∈Z55
 rw [if_pos c8] at h
 simp only [Xc] at h
 subst h
 rw [decide_eq_true c8]
 obtain ⟨hpb,hps,hpi,hpl,hpo⟩:=id hp
 have hi1:=hL.end_of hp.i_lt (fun e=>Z5b (e ▸ c8))
 refine W ?_
 refine Z1 (Zg (u:=.int .i64 ((i+1:Nat):Int)) rfl (by show some _=some _;simp) rfl rfl hpb (by simp)) ?_
 rintro _ w8 ⟨hT,hpb9⟩
 replace hps:=hps.ext (X':=[b]) hT (fun c hc=>hc) (fun c hc=>.inl hc)
 replace e2:=e2.ext hT (by simpa using n2)
 replace e3:=e3.ext hT (by simpa using n3)
 replace hS:=hS.trans hT
 replace hp:Pd w8 b tv l (i+1) o:=⟨hpb9,hps,hi1,hpl,hpo⟩
 clear hT hpb9 hpb hps
 refine W ?_
 apply Za (vs:=[(0,.int .i64 4),(2,str (cur l i).text)]) rfl (Zdt _ _) rfl
 refine Z1 (Z2 (us:=ndC (.mk 4 0 (cur l i).text []) (.slice none 0 0)) rfl rfl rfl rfl (ZD (x:=(.mk 4 0 (cur l i).text [])) (Z1G [] w)) e2 rfl) ?_
 rintro _ w9 ⟨hT,e2'⟩
 refine W ?_
 refine ZW rfl rfl rfl e2' rfl ?_
 exact fin _ _ _ _ _ _ rfl rfl hp hS hT
 rw [if_neg c8] at h
 simp only [Xc] at h
 subst h
 rw [decide_eq_false c8]
 refine W ?_
 refine Zt rfl (Zb rfl rfl) (Z7G b tv l i o 20 _ w hp hS) rfl ?_
 intro wz hwz
 repeat'(first|refine Zc ?_|refine Z9 ?_)
 refine Zn ?_
 exact PC.fail hwz
theorem ZjB {l:List Tkn} {m:Int} {i o:Nat} {r:Out Nd} (IH:∀ (X:List Nat) (b:Nat) (tv:Value) (w:World),b≠2→b∈X→(∀ c∈X,c<w.heap.size)→w.cell? ⟨2,0,none⟩=some (.int .i64 m)→Pd w b tv l i o→
 Calls Tryz.prog 213 #[.pointer (some ⟨b,0,none⟩)] w (PC b w tv l r (fun x v w'=>NdV X w' v x))) (X:List Nat) (b:Nat) (tv:Value) (w:World) (hb1:b≠2) (hbX:b∈X) (hX:∀ c∈X,c<w.heap.size) (hm:w.cell? ⟨2,0,none⟩=some (.int .i64 m)) (hp:Pd w b tv l i o) :
 Calls Tryz.prog 120 #[.pointer (some ⟨b,0,none⟩),.int .i64 ((8:Nat):Int)] w (PC b w tv l r (fun x v w'=>NdV X w' v x)):=by
 have hs0:=hp.2.1
 refine cW2 98 Tryz.func120 ?_
 refine W ?_
 refine Z0 Z8 rfl ?_
 rintro _ w1 ⟨b4,rfl,hb4,e4,hS⟩
 have n4:b4≠b:=by have:=hp.lt;omega
 have hb4w:w.heap.size≤b4:=hb4
 replace hm:=hS.cell (by simp) hm
 replace hp:=hp.up hS
 have l4:=e4.lt
 have hX1:∀ c∈b4 :: X,c<w1.heap.size:=fun c hc=>by
  rcases Xd.1 hc with rfl|hc
  exact l4
  have:=hX c hc;have:=hS.size;omega
 repeat'(first|refine W1 ?_|omega|refine VG ?_ ?_<;>intro hg|refine VC ?_ ?_<;>intro hc)
 have hsub:=IH (b4 :: X) b tv _ hb1 (by simp [hbX]) hX1 hm hp
 cases r with
 | err a c=>
   refine Zt rfl (Zk rfl) (PC.falls hsub rfl (hS.mono (by simp))) rfl ?_
   intro wz hwz
   repeat'(first|refine Zc ?_|refine Z9 ?_)
   refine Zn ?_
   exact PC.err hwz
 | ok x i3 o3=>
   refine CL rfl (Zk rfl) rfl (PC.goes hsub rfl) ?_
   rintro _ wE ⟨⟨kx,rfl,hx⟩,hp7,hT⟩
   replace e4:=e4.ext hT (by simpa using n4)
   replace hS:=(hS.mono (S':=[b]) (by simp)).trans hT
   clear hT hp
   refine Z1 (Z2 (us:=ndC x kx) rfl rfl rfl rfl (ZD hx) e4 rfl) ?_
   rintro _ wz ⟨hT,e4'⟩
   refine W ?_
   refine ZW rfl rfl rfl e4' rfl ?_
   obtain ⟨g1,g2,g3,g4,g5⟩:=hp7
   have hSx:=hS.own hT (fun c hc=>by simp at hc;subst hc;exact .inr hb4w)
   refine PC.ok ⟨_,rfl,?_⟩ ⟨g1.ext hT (by simpa using n4.symm),hs0.ext hSx (fun c hc=>hc) (fun c hc=>.inl hc),g3,g4,g5⟩ hSx
   exact (hx.ext (X':=b4 :: X) hT (fun c hc=>by simp at hc;simp [hc]) (fun c hc=>.inl hc)).wk (fun c hc=>by simp [hc])
theorem Za3:∀ f,Z5Y f:=by
 intro f
 induction f using Nat.strongRecOn with
 | _ f ih=>
   intro l hL m c i o r h X b tv w hb1 hbX hX hm hp
   cases f with
   | zero=>simp [Zp] at h
   | succ f=>
     have IH:=ih f (Nat.lt_succ_self f)
     cases c with
     | loop k x=>trivial
     | prim=>exact ZjA f IH l hL m i o r h X b tv w hb1 hbX hX hm hp
     | expr k=>
       intro hk1 hk8
       rw [Zp] at h
       split at h
       rename_i hsp
       exact Zjx f IH l hL m k i o r hk8 hsp h X b tv w hb1 hbX hX hm hp
       rename_i hsp
       split at h
       rename_i h8
       subst h8
       exact ZjB (IH l hL m .prim i o r h) X b tv w hb1 hbX hX hm hp
       exact Zjy f (fun f' hf'=>ih f' (by omega)) l hL m k i o r hk1 (by omega) hsp h X b tv w hb1 hbX hX hm hp
end Go.Proofs.YtjdjdoefppebkaaGreatDoor
namespace Go.Eng
open Go Go.RowKit Go.Proofs
section
variable {P:Program} {n:Nat} {Q:Exit→Act→World→Prop} {e:Env} {w:World} {ops:Array Oper} {rest:List Oper} {ty:TypeId} {pos:String} {af:Array Edge}
end
end Go.Eng
namespace Go.Proofs.YtjdjdoefppebkaaGreatDoor
open Go Go.Eng Go.RowKit Go.Proofs
theorem Za4 (X:List Nat) (b:Nat) (tv:Value) (l:List Tkn) (hL:Z25 l) (m:Int) (i o:Nat) (w:World) (hb1:b≠2) (hbX:b∈X) (hX:∀ c∈X,c<w.heap.size) (hm:w.cell? ⟨2,0,none⟩=some (.int .i64 m)) (hp:Pd w b tv l i o) :
 Calls Tryz.prog 64 #[.pointer (some ⟨b,0,none⟩)] w (PC b w tv l (Z3N l i o) (fun x v w'=>NdV X w' v x)):=by
 have hs0:=hp.2.1
 have hE:=Z9Z l i o
 generalize Z3N l i o=r at *
 refine cW1 5 Tryz.func64 ?_
 refine W ?_
 refine Z0 Z8 rfl ?_
 rintro _ w1 ⟨b2,rfl,hb2,e2,hS⟩
 have n2:b2≠b:=by have:=hp.lt;omega
 have hb2w:w.heap.size≤b2:=hb2
 replace hm:=hS.cell (by simp) hm
 replace hp:=hp.up hS
 have l2:=e2.lt
 have hX1:∀ c∈b2 :: X,c<w1.heap.size:=fun c hc=>by
  rcases Xd.1 hc with rfl|hc
  exact l2
  have:=hX c hc;have:=hS.size;omega
 refine W ?_
 have hsub:=Za3 _ l hL m (.expr 1) i o r hE (b2 :: X) b tv _ hb1 (by simp [hbX]) hX1 hm hp (by omega) (by omega)
 cases r with
 | err a c=>
   refine Zt rfl (Zb rfl rfl) (PC.falls hsub rfl (hS.mono (by simp))) rfl ?_
   intro wz hwz
   repeat'(first|refine Zc ?_|refine Z9 ?_)
   refine Zn ?_
   exact PC.err hwz
 | ok x i3 o3=>
   refine CL rfl (Zb rfl rfl) rfl (PC.goes hsub rfl) ?_
   rintro _ wE ⟨⟨kx,rfl,hx⟩,hp7,hT⟩
   replace e2:=e2.ext hT (by simpa using n2)
   replace hS:=(hS.mono (S':=[b]) (by simp)).trans hT
   clear hT hp
   refine Z1 (Z2 (us:=ndC x kx) rfl rfl rfl rfl (ZD hx) e2 rfl) ?_
   rintro _ wz ⟨hT,e2'⟩
   refine W ?_
   refine ZW rfl rfl rfl e2' rfl ?_
   obtain ⟨g1,g2,g3,g4,g5⟩:=hp7
   have hSx:=hS.own hT (fun c hc=>by simp at hc;subst hc;exact .inr hb2w)
   refine PC.ok ⟨_,rfl,?_⟩ ⟨g1.ext hT (by simpa using n2.symm),hs0.ext hSx (fun c hc=>hc) (fun c hc=>.inl hc),g3,g4,g5⟩ hSx
   exact (hx.ext (X':=b2 :: X) hT (fun c hc=>by simp at hc;simp [hc]) (fun c hc=>.inl hc)).wk (fun c hc=>by simp [hc])
end Go.Proofs.YtjdjdoefppebkaaGreatDoor
namespace Go.Eng
open Go Go.RowKit Go.Proofs
def Z1m (ds:List Deferred) (a:Act):Act:={ a with defers:=a.defers++ds }
def Z6M (ds:List Deferred) (Q:Exit→Act→World→Prop):Exit→Act→World→Prop:=fun x a w=>Q x (Z1m ds a) w
theorem Z0V (ds:List Deferred) (a:Act) (d:Option Nat) (v:Value):Z1m ds (a.put d v)=(Z1m ds a).put d v:=by cases d<;>rfl
theorem Z3R (ds:List Deferred) (a:Act):(Z1m ds a).eval=a.eval:=by funext x;cases x<;>rfl
theorem Z27 {ds:List Deferred} {Q:Exit→Act→World→Prop} (h:LetsOut (Z6M ds Q)):LetsOut Q:=let ⟨a,w,h⟩:=h;⟨_,w,h⟩
theorem Z7P {P:Program} {ds:List Deferred} {Q:Exit→Act→World→Prop} {o:Oper} {a:Act} {w:World} {K K':Act→World→Prop} (hK:∀ a w,K' a w→K (Z1m ds a) w) (h:o.wp P a w K' (Z6M ds Q)):o.wp P (Z1m ds a) w K Q:=by
 unfold Oper.wp at *
 rw [Z3R]
 generalize (execOp a.eval o).run P w=r at *
 cases r with
 | ok x w'=>
   cases x<;>simp only [Oper.upon] at h ⊢
   case value v=>have:=hK _ _ h;rw [Z0V] at this;exact this
   case skip=>have:=hK _ _ h;rw [Z0V] at this;exact this
   case defer d=>have:=hK _ _ h;rw [Z0V] at this;exact this
   case enter f args=>
    refine Calls.mono h fun e w'' he=>?_
    cases e with
    | returned v=>have:=hK _ _ he;rw [Z0V] at this;exact this
    | panicked c=>exact he
    | outgrown=>exact Z27 he
   case row row args=>exact Rows.mono h fun v w'' he=>by have:=hK _ _ he;rw [Z0V] at this;exact this
 | halt x w'=>cases x<;>simp only [Oper.upon] at h ⊢;exact h
theorem Z7Q {P:Program} {ds:List Deferred} {o:Oper} {a:Act} {w:World} (h:o.asks P a w):o.asks P (Z1m ds a) w:=by
 unfold Oper.asks at *
 rw [Z3R]
 exact h
theorem Z2X {P:Program} {ds:List Deferred} {Q:Exit→Act→World→Prop} {ops:Array Oper}:∀ (l:List Oper) (a:Act) (w:World),wpList P ops (Z6M ds Q) l a w→wpList P ops Q l (Z1m ds a) w
 | [],a,w,h=>h
 | o :: rest, a, w, h => by
   unfold wpList at *
   split at h
   rename_i hw
   rw [if_pos (show Region.wanted o (yielded ops (Z1m ds a).tmps)=true from hw)]
   rcases h with h|⟨h1,h2⟩
   exact .inl (Z7P (fun a w h=>Z2X rest a w h) h)
   exact .inr ⟨Z7Q h1,Z27 h2⟩
   rename_i hw
   rw [if_neg (show ¬ Region.wanted o (yielded ops (Z1m ds a).tmps)=true from hw)]
   rw [← Z0V]
   exact Z2X rest _ w h
theorem ZbE {P:Program} {ds:List Deferred} {Q:Exit→Act→World→Prop} {ops:Array Oper} {i:Nat} {a:Act} {w:World} {K K':Act→World→Prop} (hK:∀ a w,K' a w→K (Z1m ds a) w) (h:wpOp P ops (Z6M ds Q) i K' a w):wpOp P ops Q i K (Z1m ds a) w:=by
 unfold wpOp at *
 cases ho:ops[i]? with
 | none=>simp only [ho] at h ⊢;exact hK _ _ h
 | some o=>
   simp only [ho] at h ⊢
   split at h
   rename_i hw
   rw [if_pos (show Region.wanted o (yielded ops (Z1m ds a).tmps)=true from hw)]
   rcases h with h|⟨h1,h2⟩
   exact .inl (Z7P hK h)
   exact .inr ⟨Z7Q h1,Z27 h2⟩
   rename_i hw
   rw [if_neg (show ¬ Region.wanted o (yielded ops (Z1m ds a).tmps)=true from hw)]
   rw [← Z0V]
   exact hK _ _ h
theorem Z61 {P:Program} {ds:List Deferred} {Q:Exit→Act→World→Prop} {ops:Array Oper} {md:Region.Mode}:∀ (fuel:Nat) (listed:Array Bool) (a:Act) (w:World),wpAny P md ops (Z6M ds Q) fuel listed a w→wpAny P md ops Q fuel listed (Z1m ds a) w
 | 0,_,_,_,h=>h
 | fuel+1,_,_,_,h=>⟨h.1,fun i hi=>ZbE (fun a w h=>Z61 fuel _ a w h) (h.2 i hi)⟩
structure WQD (ds:List Deferred) (n:Nat) (Q:Exit→Act→World→Prop) (x:Exit) (e:Env) (w:World):Prop where
 h:∀ a,Has n e a→Q x (Z1m ds a) w
structure WCD (ds:List Deferred) (P:Program) (n:Nat) (c:Code) (Q:Exit→Act→World→Prop) (e:Env) (w:World):Prop where
 h:∀ a,Has n e a→c.wp P Q (Z1m ds a) w
section rules
variable {P:Program} {n:Nat} {ds:List Deferred} {Q:Exit→Act→World→Prop} {e:Env} {w:World}
theorem Z3S {x:Exit} (h:WQD ds n Q x e w):WQ n (Z6M ds Q) x e w:=⟨fun a ha=>h.h a ha⟩
theorem Z3j {x y:Code} (h:WCD ds P n x (Exit.then (fun a w=>y.wp P Q a w) Q) e w):WCD ds P n (x.seq y) Q e w:=⟨fun a ha=>wp_seq (h.h a ha)⟩
theorem Z28 {y:Code} (h:WCD ds P n y Q e w):WQD ds n (Exit.then (fun a w=>y.wp P Q a w) Q) .normal e w:=⟨fun a ha=>h.h a ha⟩
theorem Z29 {N:Act→World→Prop} {ch:List PanicEntry} (h:WQD ds n Q (.panic ch) e w):WQD ds n (Exit.then N Q) (.panic ch) e w:=⟨fun a ha=>h.h a ha⟩
theorem ZbF (h:WQD ds n Q .normal e w):WCD ds P n .skip Q e w:=⟨fun a ha=>wp_skip (h.h a ha)⟩
theorem Zdu (h:WQD ds n Q .ret e w):WCD ds P n .ret Q e w:=⟨fun a ha=>wp_ret (h.h a ha)⟩
theorem HasD.ev {a:Act} (ha:Has n e a) {x:Operand} {v:Value} (hx:ev e x=some v):(Z1m ds a).eval x=v:=by rw [Z3R];exact ha.ev hx
theorem Z5C {c:Operand} {x y:Code} (hc:ev e c=some (.bool true)) (h:WCD ds P n x Q e w):WCD ds P n (.cond c x y) Q e w:=⟨fun a ha=>wp_cond_true (HasD.ev ha hc) (h.h a ha)⟩
theorem Z5c {c:Operand} {x y:Code} (hc:ev e c=some (.bool false)) (h:WCD ds P n y Q e w):WCD ds P n (.cond c x y) Q e w:=⟨fun a ha=>wp_cond_false (HasD.ev ha hc) (h.h a ha)⟩
theorem Z1H {id:Nat} {l:List Oper} (h:WL P n l.toArray (Z6M ds Q) l e w):WCD ds P n (.region id l.toArray false) Q e w:=⟨fun a ha=>wp_region_lit (Z2X _ _ _ (h.h a ha))⟩
theorem Za5 {id:Nat} {l:List Oper} (m:Nat) (S:List Nat) (Lt:List Nat) (ord:List (Nat×Nat)) (hlm:l.length=m) (hm:P.follows .mixedOrders=true) (hs:Region.noSelect l.toArray=true) (hl:Nat.beq (wt ord) l.length=true)
 (hB:Je l.toArray Lt ord (Array.replicate m false)=true)
 (h:∀ w',Stp [] w w'→WD P n l.toArray S Lt (Z6M ds Q) ord e w'):WCD ds P n (.region id l.toArray true) Q e w:=by
 subst hlm
 refine ⟨fun a ha=>wp_region_any hm (Z61 _ _ _ _ ?_)⟩
 have h1:=(h { w with drawn:=w.drawn+1 } (Stp.drew [] w)).h _ hs hB a ha
 have h2:=Z1w (Q:=Z6M ds Q) (fun a w hz=>hz) _ _ _ _ h1
 rw [XP hl] at h2
 simpa using h2
end rules
theorem Z4h:∀ {e:Env} {t:Nat} {v:Value},look e t=some v→(t,v)∈e
 | (k, u) :: r, t, v, h => by
   rw [Z0P] at h
   by_cases hk:k=t
   subst hk;simp at h;subst h;simp
   rw [if_neg hk] at h;exact XH _ (Z4h h)
theorem Has.of {n:Nat} {e:Env} {a:Act} (h1:a.defers=[]) (h2:a.tmps.size=n) (h3:∀ p∈e,a.tmps.getD p.1 undef=p.2):Has n e a:=⟨h1,h2,fun t v h=>h3 (t,v) (Z4h h)⟩
section
variable {P:Program} {n:Nat} {Q:Exit→Act→World→Prop} {e:Env} {w:World} {ops:Array Oper} {rest:List Oper} {ty:TypeId} {pos:String} {af:Array Edge} {ds:List Deferred}
theorem Z62 {fn:Func} {c₀:Frame} {cs:List Frame} {u':FrameMode} {R:Ending→FrameMode→World→Prop} {c:Code} {a:Act} (ha:Has n e a) (h:WC P n c (bodyPost P fn (fun x w=>R x u' w)) e w) :
 c.wpS P (bodyPostS P fn c₀ cs R) a ({ c₀ with mode:=u' } :: cs) w:=by
 refine wpS_of_wp (wp_mono (h.h a ha) fun ex a' w' hq=>?_)
 cases ex with
 | normal=>obtain ⟨hd,v,hr,hR⟩:=hq;exact ⟨hd,u',rfl,v,hr,hR⟩
 | ret=>obtain ⟨hd,v,hr,hR⟩:=hq;exact ⟨hd,u',rfl,v,hr,hR⟩
 | panic ch=>obtain ⟨hd,hR⟩:=hq;exact ⟨hd,u',rfl,hR⟩
 | exit i=>exact hq.elim
 | goto l=>exact hq.elim
 | outgrown=>exact ⟨u',hq⟩
theorem Z6N {f:FuncId} {fn:Func} {c:Code} {args:Array Value} {w:World} {R:Ending→World→Prop} {n:Nat} (hf:P.funcs[f]?=some fn) (hb:fn.body=some c)
 (hn:fn.ntmps=n) (hs:Nat.ble args.size n=true) (h:WC P n c (bodyPostD P fn R) (Z3B args.toList 0) w):Calls P f args w R:=by
 refine calls_of_wp_defers hf hb (h.h _ ?_)
 rw [hn]
 have hle:args.size≤n:=XD hs
 refine ⟨rfl,by simp;omega,fun t v hv=>?_⟩
 obtain ⟨_,h2⟩:=Z44 _ _ _ _ hv
 simp only [Nat.sub_zero] at h2
 have hlt:t<args.size:=by
  have:=(List.getElem?_eq_some_iff.1 h2).1
  simpa using this
 have:args[t]?=some v:=by simpa using h2
 have h3:(args++Array.replicate (n - args.size) undef)[t]?=some v:=by
  rw [Array.getElem?_append_left hlt];exact this
 simp [Array.getD_eq_getD_getElem?,h3]
theorem Z5D {f:FuncId} {fn:Func} {c:Code} {a0 a1:Value} {w:World} {R:Ending→World→Prop} {n:Nat} (hf:P.funcs[f]?=some fn) (hb:fn.body=some c)
 (hn:fn.ntmps=n) (hs:Nat.ble 2 n=true) (h:WC P n c (bodyPostD P fn R) [(0,a0),(1,a1)] w):Calls P f #[a0,a1] w R:=Z6N hf hb hn hs h
theorem ZbG {y:Code} {t:Operand} {fv:Fn} {cap:Array Value} (hc:ev e t=some (.func fv #[] cap)) {ts:Array TypeId}
 (h:WCD [{ target:=.fn fv cap,args:=#[] }] P n y Q e w) :
 WL P n ops (Exit.then (fun a w=>y.wp P Q a w) Q) [⟨none,.defer { callee:=.value t,args:=#[],argTypes:=ts },ty,pos,af,none⟩] e w:=by
 refine ⟨fun a ha=>?_⟩
 refine wpList_plain rfl (fun K hK=>?_)
 unfold Oper.wp
 have he:(execOp a.eval ⟨none,.defer { callee:=.value t,args:=#[],argTypes:=ts },ty,pos,af,none⟩).run P w=.ok (.defer { target:=.fn fv cap,args:=#[] }) w:=by
  simp [execOp,resolve,ha.ev hc,Deferred.ofValue]
 rw [he]
 simp only [Oper.upon]
 refine hK _ _ ?_
 have hd:({ a with defers:={ target:=.fn fv cap,args:=#[] } :: a.defers }:Act)=Z1m [{ target:=.fn fv cap,args:=#[] }] a:=by
  unfold Z1m
  rw [ha.defers]
  rfl
 show wpList P ops _ [] (Act.put { a with defers:=_ } none undef) w
 rw [hd]
 exact wpList_nil (h.h a ha)
theorem Z63 {d:Nat} {f:Nat} {fn:Func} {xs:Array Operand} {ts:Array TypeId} {vs:Array Value} {c:Operand} {ch:List PanicEntry} {F:World→Prop} [hf:Fun P f fn]
 (hc:ev e c=some (.func (.func f) #[] #[])) (hv:∀ a,Has n e a→xs.map a.eval=vs) (h:Calls P f vs w (fun e w'=>e=.panicked ch∧F w')) (hd:Nat.blt d n=true) (k:∀ w',F w'→WQ n Q (.panic ch) e w') :
 WL P n ops Q (⟨some d,.call { callee:=.value c,args:=xs,argTypes:=ts },ty,pos,af,none⟩ :: rest) e w:=
 Z9o (G:=fun _ _=>False) (F:=fun ch' w'=>ch'=ch∧F w') (Z54 hc hv (h.mono fun e w' ⟨h1,h2⟩=>by rw [h1];exact .pan ⟨rfl,h2⟩)) hd (fun ch' w' ⟨h1,h2⟩=>by subst h1;exact k w' h2) (fun _ _ h=>h.elim)
theorem Z64 {t b T:Nat} {D:TypeDesc} {v:Value} [hu:Und P t D] (hA:JA D=false) (hb:Blk w b T [v]):(loadVar t ⟨b,0,none⟩).run P w=.ok v w:=by
 have:=hb.cell (j:=0) rfl
 simp [loadVar,Und.isAgg,hA,this]
theorem Z2Y {fn fn':Func} {tmps:Array Value} {R:Ending→World→Prop} {f:FuncId} {cap:Array Value} {u:FrameMode} (hu:u≠.run) [hf:Fun P f fn'] {G:Value→FrameMode→World→Prop}
 (h:CallsD P f cap u w fun e u' w'=>∃ v,e=.returned v∧G v u' w') (hk:∀ v u' w',G v u' w'→settle u'=.returning∧∃ r,(results fn tmps).run P w'=.ok r w'∧R (.returned r) w') :
 Leaves P fn tmps R [{ target:=.fn (.func f) cap,args:=#[] }] u w:=by
 refine leaves_cons (f:=f) (args:=cap) hu ?_ (h.mono fun e u' w' ⟨v,h1,h2⟩=>?_)
 simp [invoke]
 exact hf.enters cap w
 subst h1
 obtain ⟨h3,r,h4,h5⟩:=hk v u' w' h2
 show Leaves P fn tmps R [] (settle u') w'
 rw [h3]
 exact ⟨r,h4,h5⟩
theorem Z2I {d:Option Nat} {g:Option (Nat×Bool)} {x:Operand} {t s:TypeId} {u v:Value} (hx:ev e x=some u) (hb:∀ w,(Instr.typeAssert u t s true).run P w=.ok v w):PR P n ⟨d,.typeAssert x t s true,ty,pos,af,g⟩ e w v:=
 ⟨fun a ha=>by simp [execOp,ha.ev hx,hb]⟩
theorem Z6O {d:Option Nat} {g:Option (Nat×Bool)} {f:Nat} {x y z r:Operand} {v u s q:Value} (hx:ev e x=some v) (hy:ev e y=some u) (hz:ev e z=some s) (hr:ev e r=some q):PR P n ⟨d,.makeFunc (.func f) #[] #[x,y,z,r],ty,pos,af,g⟩ e w (.func (.func f) #[] #[v,u,s,q]):=
 ⟨fun a ha=>by simp [execOp,Instr.makeFunc,ha.ev hx,ha.ev hy,ha.ev hz,ha.ev hr]⟩
end
def Za6 (c:UInt8):Bool:=decide (97≤c.toNat) && decide (c.toNat≤122)
def ZG (c:UInt8):Bool:=decide (48≤c.toNat) && decide (c.toNat≤57)
def ldB (c:UInt8):Bool:=Za6 c || ZG c
def Z0N (s:Str):Nat:=s.foldl (fun n c=>10 * n+(c.toNat - 48)) 0
def JY (y:Int):Bool:=decide (y % 4=0) && (decide (¬ y % 100=0) || decide (y % 400=0))
def Zs (y m:Int):Int:=
 if m<1∨12<m then 0 else if m=2 then (if JY y then 29 else 28) else if m=4∨m=6∨m=9∨m=11 then 30 else 31
def Jc (y m d:Int):Int:=
 let (y,m):=if m - 3<0 then (y - 1,m+9) else (y,m - 3)
 365 * y+y / 4 - y / 100+y / 400+(153 * m+2) / 5+d - 307
def Z0E (s:Str):Int×Int:=
 if s.length=10∧s.getD 4 0=45∧s.getD 7 0=45∧((s.take 4).all ZG∧((s.drop 5).take 2).all ZG∧(s.drop 8).all ZG) then
  let y:Int:=Z0N (s.take 4)
  let m:Int:=Z0N ((s.drop 5).take 2)
  let d:Int:=Z0N (s.drop 8)
  if y<1∨9999<y∨m<1∨12<m∨d<1∨Zs y m<d then (0,5) else (Jc y m d,0)
 else (0,7)
inductive Lx where
 | err (c:Int)
 | ok (t:Tkn)
def Z3k (s:Str):Lx:=let n:=(s.takeWhile ldB).length;if 12<n then .err 2 else .ok ⟨1,0,s.take n,0⟩
def Z2t (s:Str):Lx:=
 let t:=s.takeWhile ZG
 if 1<t.length∧t.getD 0 0=48 then .err 20 else if 2147483647<Z0N t then .err 5 else .ok ⟨2,0,t,Z0N t⟩
def ZO:Str:=[64,100,100,100,100,45,100,100,45,100,100]
def Z3l (c x:UInt8):Bool:=if c=100 then ZG x else decide (x=c)
def Z6P (s:Str):Lx:=
 if s.length<11 then .err 20 else if ((ZO.zip s).all fun p=>Z3l p.1 p.2) then
  (let d:=Z0E ((s.take 11).drop 1);if d.2=0 then .ok ⟨3,0,s.take 11,d.1⟩ else .err 5)
 else .err 20
def Z7R:Str:=[123,125,40,41,59,44,43,45,42,60,61,62]
def Jh (s:Str):Lx:=
 if s.take 2=[60,61]∨s.take 2=[33,61]∨s.take 2=[62,61] then .ok ⟨4,0,s.take 2,0⟩
 else if s.getD 0 0∈Z7R then .ok ⟨4,0,s.take 1,0⟩ else .err 20
def Z0a (s:Str):Lx:=
 let c:=s.getD 0 0
 if Za6 c then Z3k s else if ZG c then Z2t s else if c=64 then Z6P s else Jh s
def Z3T (c:UInt8):Bool:=c=9 || c=10 || c=13 || c=32
inductive Tks where
 | err (a c:Int)
 | ok (l:List Tkn)
def JG (nl:Str→Nat) (s:Str):Nat→Nat→List Tkn→Tks
 | 0,at_,l=>.ok (l++[⟨0,at_,[],0⟩])
 | f + 1, at_, l=>
   if at_<s.length then
    let rest:=s.drop at_
    let c:=rest.getD 0 0
    if Z3T c then JG nl s f (at_+1) l
    else if c=35 then JG nl s f (at_+nl rest) l
    else match Z0a rest with
     | .err e=>.err at_ e
     | .ok t=>JG nl s f (at_+t.text.length) (l++[{ t with pos:=at_ }])
   else .ok (l++[⟨0,at_,[],0⟩])
structure ZbH (t:Tkn):Prop where
 kind:t.kind≠0
 kinds:1≤t.kind∧t.kind≤4
 text:t.text≠[]
 sp:∀ c∈t.text,c≠32
 word:t.kind=1→t.text.length≤12∧(∀ c∈t.text,ldB c=true)∧Za6 (t.text.getD 0 0)=true
 num:t.kind=2→0≤t.num∧t.num≤2147483647
 day:t.kind=3→0≤t.num∧t.num≤3652058
theorem JP {p:UInt8→Bool}:∀ {l:Str} {c:UInt8},c∈l.takeWhile p→p c=true
 | [],c,h=>by simp at h
 | a :: r, c, h => by
   simp only [Yax] at h
   split at h
   rename_i ha
   rcases Xd.1 h with rfl|h
   exact ha
   exact JP h
   simp at h
theorem J8 {p:UInt8→Bool}:∀ (l:Str),l.take (l.takeWhile p).length=l.takeWhile p
 | []=>by simp
 | a :: r => by
   simp only [Yax]
   split
   simp [J8 r]
   simp
theorem ZjC {c:UInt8} (h:ldB c=true):c≠32:=by rintro rfl;revert h;decide
theorem ZbI {c:UInt8} (h:ZG c=true):c≠32:=by rintro rfl;revert h;decide
theorem Zhu {c x:UInt8} (h:Z3l c x=true) (hc:c≠32):x≠32:=by
 unfold Z3l at h
 split at h
 exact ZbI h
 simp at h;rw [h];exact hc
theorem Z9t {p:UInt8→UInt8→Bool}:∀ {a s:Str},a.length≤s.length→((a.zip s).all fun q=>p q.1 q.2)=true→∀ x∈s.take a.length,∃ c∈a,p c x=true
 | [],s,hl,h,x,hx=>by simp at hx
 | c :: a,[],hl,h,x,hx=>by simp at hl
 | c :: a, y :: s, hl, h, x, hx => by
   simp only [List.zip_cons_cons,Yai,Xf] at h
   simp only [Xe,Yaf,Xd] at hx
   rcases hx with rfl|hx
   exact ⟨c,by simp,h.1⟩
   obtain ⟨d,hd,h'⟩:=Z9t (by simpa using hl) h.2 x hx
   exact ⟨d,by simp [hd],h'⟩
theorem Z1I (y m:Int):Zs y m≤31:=by
 unfold Zs
 repeat' split
 all_goals omega
theorem dayM_range {y m d:Int} (hy:1≤y) (hy2:y≤9999) (hm:1≤m) (hm2:m≤12) (hd:1≤d) (hd2:d≤Zs y m):0≤Jc y m d∧Jc y m d≤3652058:=by
 have h31:=Z1I y m
 have hm':m=1∨m=2∨m=3∨m=4∨m=5∨m=6∨m=7∨m=8∨m=9∨m=10∨m=11∨m=12:=by omega
 unfold Jc
 rcases hm' with rfl|rfl|rfl|rfl|rfl|rfl|rfl|rfl|rfl|rfl|rfl|rfl<;>simp<;>omega
theorem Z7S (s:Str):0≤(Z0E s).1∧(Z0E s).1≤3652058:=by
 unfold Z0E
 split
 simp only
 split
 simp
 rename_i h
 simp only [not_or,Int.not_lt] at h
 exact dayM_range h.1 h.2.1 h.2.2.1 h.2.2.2.1 h.2.2.2.2.1 h.2.2.2.2.2
 simp
theorem Z2a {s:Str} {t:Tkn} (hs:s≠[]) (hsp:s.getD 0 0≠32) (h:Z0a s=.ok t):ZbH t∧t.text.length≤s.length∧t.text=s.take t.text.length:=by
 obtain ⟨a,r,rfl⟩:∃ a r,s=a :: r:=by cases s with|nil=>exact absurd rfl hs|cons a r=>exact ⟨a,r,rfl⟩
 simp only [XV] at hsp
 unfold Z0a at h
 simp only [XV] at h
 split at h
 rename_i hl
 unfold Z3k at h
 simp only at h
 split at h
 simp at h
 rename_i hn
 simp only [Lx.ok.injEq] at h
 subst h
 have hld:ldB a=true:=by simp [ldB,hl]
 have hne:(a :: r).takeWhile ldB=a :: r.takeWhile ldB:=by simp [hld]
 have ht:=J8 (p:=ldB) (a :: r)
 refine ⟨⟨by simp,by simp,?_,?_,fun _=>⟨?_,?_,?_⟩,by simp,by simp⟩,by simp;omega,by simp⟩
 simp only;rw [ht,hne];simp
 simp only;rw [ht];exact fun c hc=>ZjC (JP hc)
 simp only;rw [ht];omega
 simp only;rw [ht];exact fun c hc=>JP hc
 simp only;rw [ht,hne];simpa using hl
 split at h
 rename_i hl
 unfold Z2t at h
 simp only at h
 split at h
 simp at h
 split at h
 simp at h
 rename_i hn
 simp only [Lx.ok.injEq] at h
 subst h
 have hne:(a :: r).takeWhile ZG=a :: r.takeWhile ZG:=by simp [hl]
 have ht:=J8 (p:=ZG) (a :: r)
 have hlen:=congrArg List.length ht
 simp only [Xu] at hlen
 refine ⟨⟨by simp,by simp,?_,?_,by simp,fun _=>⟨?_,?_⟩,by simp⟩,?_,?_⟩
 simp only;rw [hne];simp
 exact fun c hc=>ZbI (JP hc)
 simp only;omega
 simp only;omega
 simp only;omega
 exact ht.symm
 split at h
 rename_i h64
 unfold Z6P at h
 split at h
 simp at h
 rename_i h11
 split at h
 rename_i hf
 simp only at h
 split at h
 simp only [Lx.ok.injEq] at h
 subst h
 have hd:=Z7S (((a :: r).take 11).drop 1)
 refine ⟨⟨by simp,by simp,by simp,?_,by simp,by simp,fun _=>hd⟩,by simp;omega,by simp⟩
 intro c hc
 obtain ⟨x,hx,h'⟩:=Z9t (a:=ZO) (s:=a :: r) (by simp only [ZO,Xe,Xi] at h11 ⊢;omega) hf c hc
 exact Zhu h' (by revert hx;simp only [ZO];intro hx h0;subst h0;simp at hx)
 simp at h
 simp at h
 unfold Jh at h
 split at h
 rename_i h2
 simp only [Lx.ok.injEq] at h
 subst h
 refine ⟨⟨by simp,by simp,by simp,?_,by simp,by simp,by simp⟩,by simp;omega,by simp⟩
 simp only
 intro c hc
 rcases h2 with h2|h2|h2<;>rw [h2] at hc<;>(rintro rfl;simp at hc)
 split at h
 simp only [Lx.ok.injEq] at h
 subst h
 refine ⟨⟨by simp,by simp,by simp,?_,by simp,by simp,by simp⟩,by simp,by simp⟩
 simp only [Yaf,List.take_zero,Xp]
 rintro c rfl
 exact hsp
 simp at h
theorem Z1J {nl:Str→Nat} {s:Str} (hsl:s.length≤4000):∀ (f at_:Nat) (l l':List Tkn),(∀ t∈l,ZbH t)→(∀ t∈l,t.text.length≤4000)→l.length≤at_→l.length≤s.length→JG nl s f at_ l=.ok l'→
 ∃ l1 p,l'=l1++[⟨0,p,[],0⟩]∧(∀ t∈l1,ZbH t)∧(∀ t∈l1,t.text.length≤4000)∧l1.length≤s.length
 | 0, at_, l, l', h1, h2, h3, h4, h => by
   simp only [JG,Tks.ok.injEq] at h
   exact ⟨l,_,h.symm,h1,h2,h4⟩
 | f + 1, at_, l, l', h1, h2, h3, h4, h => by
   simp only [JG] at h
   split at h
   rename_i hlt
   split at h
   exact Z1J hsl f _ _ _ h1 h2 (by omega) h4 h
   split at h
   exact Z1J hsl f _ _ _ h1 h2 (by omega) h4 h
   · rename_i hnsp _
     cases hr:Z0a (s.drop at_) with
     | err e=>rw [hr] at h;simp at h
     | ok t=>
       rw [hr] at h
       simp only at h
       obtain ⟨g1,g2,g3⟩:=Z2a (s:=s.drop at_) (by simp;omega) (by rintro h32;rw [h32] at hnsp;exact hnsp (by decide)) hr
       have hpos:1≤t.text.length:=by
        have:=g1.text
        cases ht:t.text with
        | nil=>exact absurd ht this
        | cons a r=>simp
       have hlen:t.text.length≤s.length - at_:=by simpa using g2
       refine Z1J hsl f _ _ _ ?_ ?_ ?_ ?_ h
       intro u hu
       rcases Xt.1 hu with hu|hu
       exact h1 u hu
       simp only [Xp] at hu
       subst hu
       exact ⟨g1.kind,g1.kinds,g1.text,g1.sp,g1.word,g1.num,g1.day⟩
       intro u hu
       rcases Xt.1 hu with hu|hu
       exact h2 u hu
       simp only [Xp] at hu
       subst hu
       simp only
       omega
       simp;omega
       simp;omega
   simp only [Tks.ok.injEq] at h
   exact ⟨l,_,h.symm,h1,h2,h4⟩
theorem Zdv {l1:List Tkn} {p:Int} (h1:∀ t∈l1,ZbH t) (h2:∀ t∈l1,t.text.length≤4000) (h3:l1.length≤4000):Z25 (l1++([⟨0,p,[],0⟩]:List Tkn)):=by
 have hc:∀ i,cur (l1++([⟨0,p,[],0⟩]:List Tkn)) i=⟨0,p,[],0⟩∨cur (l1++([⟨0,p,[],0⟩]:List Tkn)) i=default∨cur (l1++([⟨0,p,[],0⟩]:List Tkn)) i∈l1:=by
  intro i
  unfold cur
  rw [List.getD_eq_getElem?_getD,List.getElem?_append]
  split
  rename_i h
  right;right
  simp [h]
  · cases hk:i - l1.length with
    | zero=>left;simp
    | succ j=>right;left;simp
 refine ⟨by simp,?_,?_,by simp;omega,?_,?_⟩
 have:cur (l1++([⟨0,p,[],0⟩]:List Tkn)) ((l1++([⟨0,p,[],0⟩]:List Tkn)).length - 1)=⟨0,p,[],0⟩:=by
  unfold cur
  simp
 rw [this]
 exact ⟨rfl,rfl⟩
 intro i hi
 have hi2:i<l1.length:=by simpa using hi
 have:cur (l1++([⟨0,p,[],0⟩]:List Tkn)) i=l1[i]:=by
  unfold cur
  rw [List.getD_eq_getElem?_getD,List.getElem?_append_left hi2]
  simp [hi2]
 rw [this]
 have:=h1 _ (Xm hi2)
 exact ⟨this.kind,this.text⟩
 intro i c hcm
 rcases hc i with h|h|h
 rw [h] at hcm;simp at hcm
 rw [h] at hcm;simp [default] at hcm
 exact (h1 _ h).sp c hcm
 intro i
 rcases hc i with h|h|h
 rw [h];simp
 rw [h];simp [default]
 exact h2 _ h
def J5 (s:Str) (p:Nat→Bool):Nat→Nat→Nat
 | 0,_=>s.length
 | f+1,i=>if i<s.length then (if p (dec s i).1 then J5 s p f (i+(dec s i).2) else i) else s.length
theorem Z65 (s:Str) (p:Nat→Bool):∀ (f i:Nat),J5 s p f i≤s.length
 | 0,i=>Xk _
 | f + 1, i => by
   unfold J5
   split
   split
   exact Z65 s p f _
   omega
   exact Xk _
theorem Z66 (s:Str) (p:Nat→Bool):∀ (f i:Nat),i≤s.length→i≤J5 s p f i
 | 0,i,h=>h
 | f + 1, i, h => by
   unfold J5
   split
   split
   by_cases hw:i+(dec s i).2≤s.length
   exact Xg (Nat.le_add_right _ _) (Z66 s p f _ hw)
   · have:∀ f j,s.length<j→J5 s p f j=s.length:=fun f j hj=>by
      cases f with
      | zero=>rfl
      | succ f=>unfold J5;rw [if_neg (by omega)]
     rw [this _ _ (by omega)]
     omega
   exact Xk _
   exact h
theorem Z1K (p:Nat→Bool) (q:UInt8→Bool) (hq:∀ c:UInt8,c.toNat<128→p c.toNat=q c) (hp:∀ n,128≤n→p n=false) (hq2:∀ c:UInt8,128≤c.toNat→q c=false) (s:Str) :
 ∀ (f i:Nat),i≤s.length→s.length≤i+f→J5 s p f i=i+((s.drop i).takeWhile q).length
 | 0, i, h1, h2 => by
   have:i=s.length:=by omega
   subst this
   simp [J5]
 | f + 1, i, h1, h2 => by
   unfold J5
   by_cases hlt:i<s.length
   rw [if_pos hlt]
   have hd:s.drop i=s[i] :: s.drop (i+1):=XA hlt
   rw [hd,Yax]
   by_cases ha:(s[i]).toNat<128
   rw [Z2s hlt ha]
   simp only [hq _ ha]
   split
   rw [Z1K p q hq hp hq2 s f (i+1) (by omega) (by omega),Xe];omega
   simp
   have h3:=(Z7I hlt (by omega)).1
   rw [hp _ h3,hq2 _ (by omega)]
   simp
   rw [if_neg hlt]
   rw [XX (by omega)]
   simp;omega
def Z6Q (n:Nat):Bool:=decide (97≤n) && decide (n≤122)
def Z3U (n:Nat):Bool:=decide (48≤n) && decide (n≤57)
def Z5d (n:Nat):Bool:=decide (¬ n=10)
def nlM (s:Str):Nat:=J5 s Z5d s.length 0
def Z15 (s:Str):Tks:=if 4000<s.length then .err 4000 2 else JG nlM s (s.length+1) 0 []
theorem Za7 (s:Str):J5 s Z3U s.length 0=(s.takeWhile ZG).length:=by
 rw [Z1K Z3U ZG (fun c h=>rfl) (fun n h=>by unfold Z3U;simp;omega) (fun c h=>by unfold ZG;simp;omega) s s.length 0 (by omega) (by omega)]
 simp
theorem ZbJ (s:Str):J5 s (fun n=>Z6Q n || Z3U n) s.length 0=(s.takeWhile ldB).length:=by
 rw [Z1K (fun n=>Z6Q n || Z3U n) ldB (fun c h=>rfl) (fun n h=>by unfold Z6Q Z3U;simp;omega) (fun c h=>by unfold ldB Za6 ZG;simp;omega) s s.length 0 (by omega) (by omega)]
 simp
end Go.Eng
namespace Go.Proofs.YtjdjdoefppebkaaGreatDoor
open Go Go.Eng Go.RowKit Go.Proofs
theorem Z5e (c:Nat) (w:World):CC 207 #[.int .i32 (c:Int)] w fun r w'=>r=.bool (Z6Q c)∧w'=w:=by
 unfold Z6Q
 refine cW1 9 Tryz.func207 ?_
 repeat'(first|refine W1 ?_|omega|refine VG ?_ ?_<;>intro hg|refine VC ?_ ?_<;>intro hc)
 all_goals refine WR ?_
 all_goals refine .mk ⟨?_,rfl⟩
 all_goals congr 1
 all_goals (first|done|(rw [XU];simp;omega)|(simp [*]))
theorem Z2u (c:Nat) (w:World):CC 209 #[.int .i32 (c:Int)] w fun r w'=>r=.bool (Z3U c)∧w'=w:=by
 unfold Z3U
 refine cW1 9 Tryz.func209 ?_
 repeat'(first|refine W1 ?_|omega|refine VG ?_ ?_<;>intro hg|refine VC ?_ ?_<;>intro hc)
 all_goals refine WR ?_
 all_goals refine .mk ⟨?_,rfl⟩
 all_goals congr 1
 all_goals (first|done|(rw [XU];simp;omega)|(simp [*]))
theorem Zhv (c:Nat) (w:World):CC 206 #[.int .i32 (c:Int)] w fun r w'=>r=.bool (Z5d c)∧w'=w:=by
 unfold Z5d
 refine cW1 5 Tryz.func206 ?_
 repeat'(first|refine W1 ?_|omega|refine VG ?_ ?_<;>intro hg|refine VC ?_ ?_<;>intro hc)
 all_goals refine WR ?_
 all_goals refine .mk ⟨?_,rfl⟩
 all_goals congr 1
 all_goals (first|done|(rw [XU];simp;omega)|(simp [*]))
theorem Zhw (c:Nat) (w:World):CC 270 #[.int .i32 (c:Int)] w fun r w'=>r=.bool (Z6Q c || Z3U c)∧w'=w:=by
 refine cW1 9 Tryz.func270 ?_
 refine W ?_
 refine CL rfl (Zk rfl) rfl (Z5e c _) ?_
 rintro _ _ ⟨rfl,rfl⟩
 cases Z6Q c
 refine W ?_
 refine CL rfl (Zk rfl) rfl (Z2u c _) ?_
 rintro _ _ ⟨rfl,rfl⟩
 refine W ?_
 refine WR ?_
 exact .mk ⟨rfl,rfl⟩
 refine W ?_
 refine WR ?_
 exact .mk ⟨rfl,rfl⟩
theorem Z3V {g:Nat} {fn:Func} [hf:Fun Tryz.prog g fn] (p:Nat→Bool) (hg:∀ (c:Nat) (w:World),CC g #[.int .i32 (c:Int)] w fun r w'=>r=.bool (p c)∧w'=w) (s:Str) (w:World) (hl:s.length≤1000000) :
 CC 205 #[str s,.func (.func g) #[] #[]] w fun r w'=>r=.int .i64 (J5 s p s.length 0:Int)∧Stp [] w w':=by
 refine cW2 20 Tryz.func205 ?_
 refine W ?_
 refine Z0 (Z7J rfl) rfl ?_
 rintro _ w1 ⟨b,rfl,hb,hI,hS⟩
 refine W ?_
 refine Zh (σ:=Nat×Nat) (fun q=>[(0,str s),(1,.func (.func g) #[] #[]),(8,.pointer (some ⟨b,0,none⟩))]) (fun q w'=>Itr w' b s q.2∧Stp [] w w'∧J5 s p q.1 q.2=J5 s p s.length 0∧s.length≤q.2+q.1) (fun q=>q.1+1 - (if q.2<s.length then 0 else 1)) (s.length,0) ⟨rfl,rfl,rfl,trivial⟩ ⟨hI,hS,rfl,by omega⟩ ?_
 rintro ⟨f,i⟩ w2 ⟨hI,hS,he,hfl⟩
 dsimp only at hI hS he hfl ⊢
 generalize J5 s p s.length 0=R at he ⊢
 by_cases hlt:i<s.length
 obtain ⟨f,rfl⟩:∃ f',f=f'+1:=⟨f - 1,by omega⟩
 have hd:=Zdm hlt
 unfold J5 at he
 rw [if_pos hlt] at he
 refine W ?_
 refine Z0 (Z9r rfl hI hlt) rfl ?_
 rintro _ w3 ⟨rfl,hI3,hT⟩
 replace hS:=hS.own hT (fun c hc=>.inr (by simp at hc;omega))
 refine W ?_
 refine CL rfl (Zk rfl) rfl (hg _ _) ?_
 rintro _ _ ⟨rfl,rfl⟩
 cases hpc:p (dec s i).1
 rw [hpc] at he
 refine W ?_
 refine WR ?_
 simp only [XF,if_false] at he
 exact .mk ⟨by rw [← he];rfl,hS⟩
 · rw [hpc] at he
   refine W ?_
   refine Zd (f,i+(dec s i).2) ⟨rfl,rfl,rfl,trivial⟩ ⟨hI3,hS,he,by dsimp only;omega⟩ ?_
   dsimp only
   repeat' split
   all_goals omega
 · refine W ?_
   refine Z0 (Z58 rfl hI hlt) rfl ?_
   rintro _ _ ⟨rfl,rfl⟩
   refine W ?_
   refine WR ?_
   refine .mk ⟨?_,hS⟩
   rw [← he]
   cases f with
   | zero=>rfl
   | succ f=>unfold J5;rw [if_neg hlt]
end Go.Proofs.YtjdjdoefppebkaaGreatDoor
namespace Go.Eng
open Go Go.RowKit Go.Proofs
def Z3m (d:Nat):Nat:=(d - d / 1460+d / 36524 - d / 146096) / 365
def Z3W (y:Nat):Nat:=365 * y+y / 4 - y / 100
def ZbK (y:Nat):Bool:=Nat.beq (y % 4) 0 && (!(Nat.beq (y % 100) 0) || Nat.beq (y % 400) 0)
def Zhx (d:Nat):Bool:=Nat.ble 146097 d || (Nat.ble (Z3W (Z3m d)) d && (Nat.blt d (Z3W (Z3m d)+365) || (Nat.beq d (Z3W (Z3m d)+365) && ZbK (Z3m d+1))))
def ZbL:Nat→Nat→Bool
 | 0,lo=>Zhx lo
 | k+1,lo=>ZbL k lo && ZbL k (lo+2 ^ k)
theorem Z3X:∀ (k lo d:Nat),ZbL k lo=true→lo≤d→d<lo+2 ^ k→Zhx d=true
 | 0, lo, d, h, h1, h2 => by
   have:d=lo:=by simp at h2;omega
   subst this
   exact h
 | k + 1, lo, d, h, h1, h2 => by
   simp only [ZbL,Xf] at h
   rw [Nat.pow_succ] at h2
   rcases X2 d (lo+2 ^ k) with h3|h3
   exact Z3X k lo d h.1 h1 h3
   exact Z3X k (lo+2 ^ k) d h.2 h3 (by omega)
theorem ZbM:ZbL 18 0=true:=by kernel_rfl
theorem ZbN (y:Nat):ZbK y=JY (y:Int):=by
 unfold ZbK JY
 have h:∀ a b:Nat,Nat.beq (a % b) 0=decide ((a:Int) % (b:Int)=0):=fun a b=>by
  rw [XU]
  simp only [decide_eq_true_eq]
  rw [Nat.beq_eq]
  omega
 rw [show Nat.beq (y % 4) 0=decide ((y:Int) % 4=0) from h y 4,show Nat.beq (y % 100) 0=decide ((y:Int) % 100=0) from h y 100,show Nat.beq (y % 400) 0=decide ((y:Int) % 400=0) from h y 400]
 simp
structure Dat where
 y:Int
 m:Int
 d:Int
def ofM (day:Int):Dat:=
 let z:=day+306
 let era:=z / 146097
 let doe:=z % 146097
 let yoe:=(doe - doe / 1460+doe / 36524 - doe / 146096) / 365
 let doy:=doe - (365 * yoe+yoe / 4 - yoe / 100)
 let m:=(5 * doy+2) / 153
 if m≥10 then ⟨yoe+400 * era+1,m - 9,doy - (153 * m+2) / 5+1⟩ else ⟨yoe+400 * era,m+3,doy - (153 * m+2) / 5+1⟩
theorem ZbO:∀ q:Nat,q<366→(5 * q+2) / 153≤11∧(153 * ((5 * q+2) / 153)+2) / 5≤q∧
 q - (153 * ((5 * q+2) / 153)+2) / 5+1≤(if (5 * q+2) / 153=11 then (if q=365 then 29 else 28) else if (5 * q+2) / 153=1∨(5 * q+2) / 153=3∨(5 * q+2) / 153=6∨(5 * q+2) / 153=8 then 30 else 31):=by decide +kernel
theorem ZbP (doe:Int) (h0:0≤doe) (h1:doe<146097):∃ yoe doy:Nat,(doe - doe / 1460+doe / 36524 - doe / 146096) / 365=(yoe:Int)∧doe - (365 * (yoe:Int)+(yoe:Int) / 4 - (yoe:Int) / 100)=(doy:Int)∧yoe≤399∧doy≤365∧(doy=365→JY ((yoe:Int)+1)=true):=by
 obtain ⟨d,rfl⟩:∃ d:Nat,doe=(d:Int):=⟨doe.toNat,by omega⟩
 have hd:d<146097:=by omega
 have h:=Z3X 18 0 d ZbM (by omega) (by omega)
 unfold Zhx at h
 rw [show Nat.ble 146097 d=false by rw [Bool.eq_false_iff];simp;omega] at h
 simp only [YaD,Xf,YaJ,Nat.ble_eq,Nat.beq_eq] at h
 obtain ⟨h2,h3⟩:=h
 have hy:((d:Int) - (d:Int) / 1460+(d:Int) / 36524 - (d:Int) / 146096) / 365=((Z3m d:Nat):Int):=by unfold Z3m;omega
 have hyle:Z3m d≤399:=by unfold Z3m;omega
 have hst:(Z3W (Z3m d):Int)=365 * (Z3m d:Int)+(Z3m d:Int) / 4 - (Z3m d:Int) / 100:=by unfold Z3W;omega
 refine ⟨Z3m d,d - Z3W (Z3m d),hy,by omega,hyle,?_,fun h4=>?_⟩
 rcases h3 with h3|h3
 have:=XD h3;omega
 have:=h3.1;omega
 rcases h3 with h3|h3
 have:=XD h3;omega
 have:=h3.2;rw [ZbN] at this;exact this
theorem Za8 (y e:Int):JY (y+400 * e)=JY y:=by
 unfold JY
 have h4:(y+400 * e) % 4=y % 4:=by omega
 have h100:(y+400 * e) % 100=y % 100:=by omega
 have h400:(y+400 * e) % 400=y % 400:=by omega
 rw [h4,h100,h400]
theorem Z6R {n:Int} (h0:0≤n) (h1:n≤3652058):1≤(ofM n).y∧(ofM n).y≤9999∧1≤(ofM n).m∧(ofM n).m≤12∧1≤(ofM n).d∧(ofM n).d≤Zs (ofM n).y (ofM n).m∧Jc (ofM n).y (ofM n).m (ofM n).d=n:=by
 obtain ⟨yoe,doy,e1,e2,hy,hd,hl⟩:=ZbP ((n+306) % 146097) (by omega) (by omega)
 obtain ⟨m1,m2,m3⟩:=ZbO doy (by omega)
 have hera:(n+306) / 146097 * 146097+(n+306) % 146097=n+306:=by omega
 unfold ofM
 simp only
 rw [e1,e2]
 have em:(5 * (doy:Int)+2) / 153=(((5 * doy+2) / 153:Nat):Int):=by omega
 rw [em]
 have ek:(153 * (((5 * doy+2) / 153:Nat):Int)+2) / 5=(((153 * ((5 * doy+2) / 153)+2) / 5:Nat):Int):=by omega
 rw [ek]
 generalize (n+306) / 146097=era at *
 generalize (n+306) % 146097=doe at *
 have hk5:∀ m:Nat,m≤11→(153 * (m:Int)+2) / 5=(((153 * m+2) / 5:Nat):Int):=fun m _=>by omega
 generalize hm:(5 * doy+2) / 153=m at *
 have q4:((yoe:Int)+400 * era) / 4=(yoe:Int) / 4+100 * era:=by omega
 have q100:((yoe:Int)+400 * era) / 100=(yoe:Int) / 100+4 * era:=by omega
 have q400:((yoe:Int)+400 * era) / 400=era:=by omega
 by_cases h10:((m:Nat):Int)≥10
 rw [if_pos h10]
 simp only
 have hday:Jc ((yoe:Int)+400 * era+1) ((m:Int) - 9) ((doy:Int) - (((153 * m+2) / 5:Nat):Int)+1)=n:=by
  unfold Jc
  rw [if_pos (by omega)]
  simp only
  rw [show (yoe:Int)+400 * era+1 - 1=(yoe:Int)+400 * era by omega,show (m:Int) - 9+9=(m:Int) by omega,hk5 m m1,q4,q100,q400]
  omega
 refine ⟨?_,?_,by omega,by omega,by omega,?_,hday⟩
 omega
 omega
 have hm':m=10∨m=11:=by omega
 rcases hm' with rfl|rfl
 unfold Zs
 rw [if_neg (by omega),if_neg (by omega),if_neg (by omega)]
 rw [if_neg (by omega),if_neg (by omega)] at m3
 omega
 unfold Zs
 rw [if_neg (by omega),if_pos (by omega)]
 rw [if_pos rfl] at m3
 by_cases h365:doy=365
 rw [if_pos h365] at m3
 have hlp:JY ((yoe:Int)+400 * era+1)=true:=by
  rw [show (yoe:Int)+400 * era+1=((yoe:Int)+1)+400 * era by omega,Za8]
  exact hl h365
 rw [hlp]
 simp only [if_true]
 omega
 rw [if_neg h365] at m3
 split<;>omega
 rw [if_neg h10]
 simp only
 have hday:Jc ((yoe:Int)+400 * era) ((m:Int)+3) ((doy:Int) - (((153 * m+2) / 5:Nat):Int)+1)=n:=by
  unfold Jc
  rw [if_neg (by omega)]
  simp only
  rw [show (m:Int)+3 - 3=(m:Int) by omega,hk5 m m1,q4,q100,q400]
  omega
 refine ⟨?_,?_,by omega,by omega,by omega,?_,hday⟩
 omega
 omega
 unfold Zs
 rw [if_neg (by omega),if_neg (by omega)]
 rw [if_neg (by omega)] at m3
 split at m3
 rw [if_pos (by omega)];omega
 rw [if_neg (by omega)];omega
section
variable {P:Program} {n:Nat} {e:Env} {w:World} {d:Option Nat} {ty:TypeId} {pos:String} {af:Array Edge} {g:Option (Nat×Bool)}
theorem Zdw {src dst:TypeId} {k k':IntKind} {x:Operand} {a:Int} {D:TypeDesc} [hs:Und P src D] [hd:Und P dst (.int k)] (hx:ev e x=some (.int k' a)) :
 PR P n ⟨d,.convert src dst x,ty,pos,af,g⟩ e w (.int k (k.wrap a)):=
 ⟨fun c ha => by
   have hk:P.intKind dst=k:=by simp [Program.intKind,hd.h]
   have:=run_convert_int (P:=P) w src dst k' a (by rw [hs.h];rfl) (by rw [hk];exact hd.h)
   simp [execOp,ha.ev hx,this,hk]⟩
theorem Z2v {src dst:TypeId} {k k':IntKind} {x:Operand} {a b:Int} {D:TypeDesc} [hs:Und P src D] [hd:Und P dst (.int k)] (hx:ev e x=some (.int k' a)) (hb:k.wrap a=b) :
 PR P n ⟨d,.convert src dst x,ty,pos,af,g⟩ e w (.int k b):=hb ▸ Zdw hx
section
variable {x y:Operand} {t u:TypeId} {k:IntKind} {a b:Int}
end
end
end Go.Eng
namespace Go.Proofs.YtjdjdoefppebkaaGreatDoor
open Go Go.Eng Go.RowKit Go.Proofs
def Z3n:List Int:=[0,31,28,31,30,31,30,31,31,30,31,30,31]
def Z0b (w:World):Prop:=∀ i u,Z3n[i]?=some u→w.cell? ⟨1,i,none⟩=some (.int .i64 u)
theorem Z0b.ext {S:List Nat} {w w':World} (h:Z0b w) (hS:Stp S w w') (hb:1∉S):Z0b w':=fun i u hu=>hS.cell hb (h i u hu)
theorem Z0b.up {w w':World} (h:Z0b w) (hS:Stp [] w w'):Z0b w':=h.ext hS (by simp)
theorem ZbQ (y:Int) (w:World) (h0:0≤y) (h1:y≤100000):CC 310 #[.int .i64 y] w fun r w'=>r=.bool (JY y)∧w'=w:=by
 unfold JY
 refine cW1 16 Tryz.func310 ?_
 repeat'(first|refine W1 ?_|omega|refine VG ?_ ?_<;>intro hg|refine VC ?_ ?_<;>intro hc)
 all_goals refine WR ?_
 all_goals refine .mk ⟨?_,rfl⟩
 all_goals congr 1
 all_goals (first|done|(rw [XU];simp;omega)|(simp [*]))
theorem Z1L (y m:Int) (w:World) (hL:Z0b w) (h0:0≤y) (h1:y≤100000):CC 282 #[.int .i64 y,.int .i64 m] w fun r w'=>r=.int .i64 (Zs y m)∧w'=w:=by
 unfold Zs
 refine cW2 22 Tryz.func282 ?_
 by_cases hm:m<1∨12<m
 · rw [if_pos hm]
   repeat'(first|refine W1 ?_|omega|refine VG ?_ ?_<;>intro hg|refine VC ?_ ?_<;>intro hc)
   all_goals refine WR ?_
   all_goals exact .mk ⟨rfl,rfl⟩
 rw [if_neg hm]
 obtain ⟨k,rfl⟩:∃ k:Nat,m=(k:Int):=⟨m.toNat,by omega⟩
 have hk:k<13:=by omega
 have hcell:w.cell? ⟨1,0+k * 1,none⟩=some (.int .i64 (Z3n.getD k 0)):=hL _ _ (by
  have:k<Z3n.length:=hk
  simp [List.getD,this])
 by_cases h2:(k:Int)=2
 rw [if_pos h2]
 focus repeat'(first|refine W1 ?_|omega|refine VG ?_ ?_<;>intro hg|refine VC ?_ ?_<;>intro hc)
 refine CL rfl (Zk rfl) rfl (ZbQ y _ h0 h1) ?_
 rintro _ _ ⟨rfl,rfl⟩
 cases hl:JY y
 refine W ?_
 refine Z7 (Z1V rfl rfl hcell) rfl ?_
 refine W ?_
 refine WR ?_
 obtain rfl:k=2:=by omega
 exact .mk ⟨rfl,rfl⟩
 refine W ?_
 refine WR ?_
 exact .mk ⟨rfl,rfl⟩
 rw [if_neg h2]
 focus repeat'(first|refine W1 ?_|omega|refine VG ?_ ?_<;>intro hg|refine VC ?_ ?_<;>intro hc)
 refine Z7 (Z1V rfl rfl hcell) rfl ?_
 refine W ?_
 refine WR ?_
 refine .mk ⟨?_,rfl⟩
 congr 1
 have:k=1∨k=3∨k=4∨k=5∨k=6∨k=7∨k=8∨k=9∨k=10∨k=11∨k=12:=by omega
 rcases this with rfl|rfl|rfl|rfl|rfl|rfl|rfl|rfl|rfl|rfl|rfl<;>rfl
abbrev ZbR (y m d:Int):Value:=.agg #[.int .i64 y,.int .i64 m,.int .i64 d]
def Z0W (y m d:Int):Prop:=y<1∨9999<y∨m<1∨12<m∨d<1∨Zs y m<d
instance (y m d:Int):Decidable (Z0W y m d):=by unfold Z0W;infer_instance
theorem Z8J (y m d:Int) (w:World) (hL:Z0b w):CC 325 #[ZbR y m d] w fun r w'=>r=.int .i64 (if Z0W y m d then 5 else 0)∧Stp [] w w':=by
 refine cW1 36 Tryz.func325 ?_
 refine W ?_
 refine Z0 (Zl rfl) rfl ?_
 rintro _ w1 ⟨b,rfl,hb,hblk,hS⟩
 replace hblk:Blk w1 b 291 [.int .i64 y,.int .i64 m,.int .i64 d]:=hblk
 replace hL:=hL.up hS
 refine W ?_
 refine ZDr 33 [] [] [(0,0),(1,1),(2,0),(3,0),(4,0),(5,1),(6,0),(7,0),(8,0),(9,0),(10,1),(11,0),(12,0),(13,0),(14,0),(15,1),(16,0),(17,0),(18,0),(19,0),(20,1),(21,0),(22,0),(23,0),(24,0),(25,1),(26,0),(27,1),(28,0),(29,1),(30,2),(31,0),(32,0)] (fun w1 hS1=>?_)
 replace hblk:=hblk.up hS1
 replace hL:=hL.up hS1
 replace hS:=hS.trans hS1
 clear hS1
 by_cases hg:y<1∨9999<y∨m<1∨12<m∨d<1
 · have hbad:Z0W y m d:=by unfold Z0W;omega
   rw [if_pos hbad]
   repeat'(first|refine D1 ?_|omega|refine Zm rfl rfl rfl rfl (fun hg=>?_) (fun hg=>?_)|(refine Zi rfl rfl rfl rfl (fun hg=>?_) (fun hg=>?_)<;>refine D1 ?_)|fail)
   all_goals repeat'(first|refine W1 ?_|omega|refine VG ?_ ?_<;>intro hg|refine VC ?_ ?_<;>intro hc)
   all_goals refine WR ?_
   all_goals exact .mk ⟨rfl,hS⟩
 · repeat'(first|refine D1 ?_|omega|refine Zm rfl rfl rfl rfl (fun hg=>?_) (fun hg=>?_)|(refine Zi rfl rfl rfl rfl (fun hg=>?_) (fun hg=>?_)<;>refine D1 ?_)|fail)
   refine ZC rfl rfl (Ze rfl (Zb rfl rfl) (Z1L y m _ hL (by omega) (by omega))) (fun _ _ h=>by rw [h.2];exact Stp.refl _ _) rfl ?_
   rintro _ w3 ⟨rfl,rfl⟩
   repeat'(first|refine D1 ?_|omega|refine Zm rfl rfl rfl rfl (fun hg=>?_) (fun hg=>?_)|(refine Zi rfl rfl rfl rfl (fun hg=>?_) (fun hg=>?_)<;>refine D1 ?_)|fail)
   all_goals repeat'(first|refine W1 ?_|omega|refine VG ?_ ?_<;>intro hg|refine VC ?_ ?_<;>intro hc)
   refine WR ?_
   exact .mk ⟨by rw [if_pos (by unfold Z0W;omega)],hS⟩
   refine WR ?_
   exact .mk ⟨by rw [if_neg (by unfold Z0W;omega)],hS⟩
theorem Z2Z (y m d:Int) (w:World) (hy:0≤y) (hy2:y≤100000) (hm:1≤m) (hm2:m≤12) (hd:0≤d) (hd2:d≤100000) (h1:m - 3<0→1≤y):CC 283 #[ZbR y m d] w fun r w'=>r=.int .i64 (Jc y m d)∧Stp [] w w':=by
 refine cW1 36 Tryz.func283 ?_
 refine W ?_
 refine Z0 (Zl rfl) rfl ?_
 rintro _ w1 ⟨b,rfl,hb,hblk,hS⟩
 replace hblk:Blk w1 b 291 [.int .i64 y,.int .i64 m,.int .i64 d]:=hblk
 refine W ?_
 refine ZDr 7 [] [] [(0,0),(1,1),(2,0),(3,1),(4,0),(5,0),(6,0)] (fun w1 hS1=>?_)
 replace hblk:=hblk.up hS1
 replace hS:=hS.trans hS1
 clear hS1
 refine D ?_
 repeat'(first|refine W1 ?_|omega|refine VG ?_ ?_<;>intro hg|refine VC ?_ ?_<;>intro hc)
 all_goals refine WR ?_
 all_goals refine .mk ⟨?_,hS⟩
 all_goals unfold Jc
 rw [if_pos (by assumption)]
 congr 1
 dsimp only
 omega
 rw [if_neg (by assumption)]
theorem Z5f (y m d:Int) (w:World) (hL:Z0b w):CC 306 #[ZbR y m d] w fun r w'=>r=.tuple #[.int .i64 (if Z0W y m d then 0 else Jc y m d),.int .i64 (if Z0W y m d then 5 else 0)]∧Stp [] w w':=by
 refine cW1 12 Tryz.func306 ?_
 refine W ?_
 refine Z0 (Zl rfl) rfl ?_
 rintro _ w1 ⟨b,rfl,hb,hblk,hS⟩
 replace hblk:Blk w1 b 291 [.int .i64 y,.int .i64 m,.int .i64 d]:=hblk
 replace hL:=hL.up hS
 refine W ?_
 refine CL rfl (Zk rfl) rfl (Z8J y m d _ hL) ?_
 rintro _ w2 ⟨rfl,hT⟩
 replace hblk:=hblk.up hT
 replace hS:=hS.trans hT
 clear hT
 by_cases hbad:Z0W y m d
 rw [if_pos hbad,if_pos hbad]
 refine W ?_
 refine WR ?_
 exact .mk ⟨rfl,hS⟩
 rw [if_neg hbad,if_neg hbad]
 refine W ?_
 have h31:=Z1I y m
 unfold Z0W at hbad
 refine CL rfl (Zk rfl) rfl (Z2Z y m d _ (by omega) (by omega) (by omega) (by omega) (by omega) (by omega) (by omega)) ?_
 rintro _ w3 ⟨rfl,hT⟩
 refine W ?_
 refine WR ?_
 exact .mk ⟨rfl,hS.trans hT⟩
end Go.Proofs.YtjdjdoefppebkaaGreatDoor
namespace Go.Eng
open Go Go.RowKit Go.Proofs
def Z30 (s:Str):Int:=s.foldl (fun n c=>10 * n+(c.toNat:Int) - 48) 0
theorem Z5g (a:Str) (c:UInt8):Z30 (a++[c])=10 * Z30 a+(c.toNat:Int) - 48:=by simp [Z30,List.foldl_append]
theorem Z5h {s:Str} (h:s.all ZG=true):Z30 s=(Z0N s:Int):=by
 have key:∀ (s:Str) (z:Int) (n:Nat),z=(n:Int)→s.all ZG=true→s.foldl (fun n c=>10 * n+(c.toNat:Int) - 48) z=((s.foldl (fun n c=>10 * n+(c.toNat - 48)) n:Nat):Int):=by
  intro s
  induction s with
  | nil=>intro z n hz _;exact hz
  | cons c r ih=>
    intro z n hz h
    simp only [Yai,Xf] at h
    have hc:48≤c.toNat∧c.toNat≤57:=by simpa [ZG] using h.1
    exact ih _ _ (by dsimp only;omega) h.2
 exact key s 0 0 rfl h
def Za9:Nat→Int
 | 0=>0
 | k+1=>10 * Za9 k+300
theorem Z7T:∀ (k:Nat) (s:Str),s.length=k→-Za9 k≤Z30 s∧Z30 s≤Za9 k
 | 0, s, h => by
   have:s=[]:=Xx.1 h
   subst this
   simp [Z30,Za9]
 | k + 1, s, h => by
   have hne:s≠[]:=by rintro rfl;simp at h
   obtain ⟨a,c,rfl⟩:∃ a c,s=a++[c]:=⟨s.dropLast,s.getLast hne,(List.dropLast_concat_getLast hne).symm⟩
   have ih:=Z7T k a (by simpa using h)
   have hc:=c.toNat_lt
   rw [Z5g]
   simp only [Za9]
   omega
theorem Zdx {k:Nat} (h:k≤4):Za9 k≤400000:=by
 have:k=0∨k=1∨k=2∨k=3∨k=4:=by omega
 rcases this with rfl|rfl|rfl|rfl|rfl<;>decide
end Go.Eng
namespace Go.Proofs.YtjdjdoefppebkaaGreatDoor
open Go Go.Eng Go.RowKit Go.Proofs
theorem Z5i (s:Str) (f u bs be:Nat) (e0:Int) (w:World) (hfu:f≤u) (hu:u≤s.length) (h4:u≤f+4) (hne:bs≠be) (hs:Blk w bs 9 [str s]) (he:Blk w be 41 [.int .i64 e0]) :
 CC 305 #[.int .i64 (f:Int),.int .i64 (u:Int),.pointer (some ⟨bs,0,none⟩),.pointer (some ⟨be,0,none⟩)] w
  fun r w'=>r=.int .i64 (Z30 ((s.take u).drop f))∧Blk w' bs 9 [str s]∧Blk w' be 41 [.int .i64 (if ((s.take u).drop f).all ZG then e0 else 7)]∧Stp [be] w w':=by
 refine cW4 34 Tryz.func305 ?_
 refine W ?_
 refine Z3a rfl rfl rfl rfl rfl hfu hu rfl ?_
 have hlen:((s.take u).drop f).length=u - f:=by simp;omega
 generalize (s.take u).drop f=t at *
 refine Z0 (Zbx rfl (by omega)) rfl ?_
 rintro bv w1 ⟨hb,hS⟩
 have hlb:be<w.heap.size:=he.lt
 have hbv:=hb [be] (by simpa using hlb)
 clear hb
 replace hs:=hs.up hS
 replace he:=he.up hS
 replace hS:=hS.mono (S':=[be]) (by simp)
 refine W ?_
 refine Zh (σ:=Nat) (fun q=>[(2,.pointer (some ⟨bs,0,none⟩)),(3,.pointer (some ⟨be,0,none⟩)),(7,.int .i64 (Z30 (t.take q))),(14,bv),(15,.int .i64 (t.length:Int)),(16,.int .i64 (q:Int))])
  (fun q w'=>q≤t.length∧SlV [be] w' bv t∧Blk w' bs 9 [str s]∧Blk w' be 41 [.int .i64 (if (t.take q).all ZG then e0 else 7)]∧Stp [be] w w')
  (fun q=>t.length - q) 0 ⟨rfl,rfl,rfl,rfl,rfl,rfl,trivial⟩ ⟨Xo _,hbv,hs,he,hS⟩ ?_
 clear hbv hs he hS
 rintro q w2 ⟨hq,hbv,hs,he,hS⟩
 have hbn:=Z7T q (t.take q) (by simp;omega)
 have hb4:=Zdx (k:=q) (by omega)
 by_cases hlt:q<t.length
 have htk:t.take (q+1)=t.take q++[t[q]]:=(List.take_append_getElem hlt).symm
 have hc:=(t[q]).toNat_lt
 have hdg:ZG t[q]=true↔48≤(t[q]).toNat∧(t[q]).toNat≤57:=by simp [ZG]
 have fin:∀ w3,SlV [be] w3 bv t→Blk w3 bs 9 [str s]→Blk w3 be 41 [.int .i64 (if ZG t[q]=true then (if (t.take q).all ZG then e0 else 7) else 7)]→Stp [be] w w3→
  (q+1≤t.length∧SlV [be] w3 bv t∧Blk w3 bs 9 [str s]∧Blk w3 be 41 [.int .i64 (if (t.take (q+1)).all ZG then e0 else 7)]∧Stp [be] w w3):=by
  intro w3 h1 h2 h3 h4
  refine ⟨hlt,h1,h2,?_,h4⟩
  rw [htk]
  have:((t.take q++[t[q]]).all ZG)=((t.take q).all ZG && ZG t[q]):=by rw [List.all_append];simp only [Yai,List.all_nil,Bool.and_true]
  rw [this]
  by_cases hd:ZG t[q]=true
  rw [if_pos hd] at h3
  rw [hd,Bool.and_true]
  exact h3
  rw [if_neg hd] at h3
  rw [Bool.not_eq_true] at hd
  rw [hd,Bool.and_false]
  exact h3
 by_cases hd:ZG t[q]=true
 have hd':=hdg.1 hd
 focus repeat'(first|refine W1 ?_|omega|refine VG ?_ ?_<;>intro hg|refine VC ?_ ?_<;>intro hc)
 refine Z7 (Z2v (b:=((t[q]).toNat:Int)) rfl (Jd (by unfold I64;omega))) rfl ?_
 refine W ?_
 refine Zd (q+1) ⟨rfl,rfl,?_,rfl,rfl,rfl,trivial⟩ (fin _ hbv hs (by rw [if_pos hd];exact he) hS) (by omega)
 rw [htk,Z5g]
 rfl
 · have hd':(t[q]).toNat<48∨57<(t[q]).toNat:=by
    rcases X2 (t[q]).toNat 48 with h|h
    exact .inl h
    rcases X2 57 (t[q]).toNat with h'|h'
    exact .inr h'
    exact absurd (hdg.2 ⟨h,h'⟩) hd
   repeat'(first|refine W1 ?_|omega|refine VG ?_ ?_<;>intro hg|refine VC ?_ ?_<;>intro hc)
   all_goals
    refine Z1 (Z2 (us:=[.int .i64 7]) rfl rfl rfl rfl (by simp;rfl) he rfl) ?_
    rintro _ w3 ⟨hT,he3⟩
    refine W ?_
    refine Z7 (Z2v (b:=((t[q]).toNat:Int)) rfl (Jd (by unfold I64;omega))) rfl ?_
    refine W ?_
    refine Zd (q+1) ⟨rfl,rfl,?_,rfl,rfl,rfl,trivial⟩ (fin _ (hbv.ext hT (fun _ h=>h) (fun _ h=>.inl h)) (hs.ext hT (by simpa using hne)) (by rw [if_neg hd];exact he3) (hS.trans hT)) (by omega)
    rw [htk,Z5g]
    rfl
 have:q=t.length:=by omega
 subst this
 rw [Xw] at *
 focus repeat'(first|refine W1 ?_|omega|refine VG ?_ ?_<;>intro hg|refine VC ?_ ?_<;>intro hc)
 refine WR ?_
 exact .mk ⟨rfl,hs,he,hS⟩
theorem Z3o (y m d:Int) (w:World):(Instr.build 291 #[(0,.int .i64 y),(1,.int .i64 m),(2,.int .i64 d)]).run Tryz.prog w=.ok (ZbR y m d) w:=by kernel_rfl
theorem Z8K (s:Str) (w:World) (hL:Z0b w) (hl:s.length=10):CC 272 #[str s] w fun r w'=>r=.tuple #[.int .i64 (Z0E s).1,.int .i64 (Z0E s).2]∧Stp [] w w':=by
 have h5:1<w.heap.size:=by have:=block_lt_of_cell (hL 0 0 rfl);simpa using this
 refine cW1 35 Tryz.func272 ?_
 refine W ?_
 refine Z0 (Zl rfl) rfl ?_
 rintro _ w1 ⟨bs,rfl,hbs,es,hS⟩
 replace es:Blk w1 bs 9 [str s]:=es
 replace hL:=hL.up hS
 have b45:∀ i,i<10→(Z08 s i=45↔s.getD i 0=45):=fun i hi=>by
  unfold Z08
  constructor
  intro h
  have h45:(45:UInt8).toNat=45:=rfl
  have:(s.getD i 0).toNat=(45:UInt8).toNat:=by omega
  exact UInt8.toNat_inj.1 this
  intro h
  rw [h]
  rfl
 by_cases h45:Z08 s 4=45∧Z08 s 7=45
 obtain ⟨h4,h7⟩:=h45
 focus repeat'(first|refine W1 ?_|omega|refine VG ?_ ?_<;>intro hg|refine VC ?_ ?_<;>intro hc)
 refine Jo (i:=4) rfl rfl rfl (by omega) rfl ?_
 focus repeat'(first|refine W1 ?_|omega|refine VG ?_ ?_<;>intro hg|refine VC ?_ ?_<;>intro hc)
 refine Jo (i:=7) rfl rfl rfl (by omega) rfl ?_
 focus repeat'(first|refine W1 ?_|omega|refine VG ?_ ?_<;>intro hg|refine VC ?_ ?_<;>intro hc)
 refine Z0 Z8 rfl ?_
 rintro _ w2 ⟨be,rfl,hbe,ee,hT⟩
 have nbe:bs≠be:=by have:=es.lt;omega
 replace es:=es.up hT
 refine Z1 (Z2 (us:=[.int .i64 0]) rfl rfl rfl rfl (by simp;rfl) ee rfl) ?_
 rintro _ w3 ⟨hT2,ee'⟩
 have hbew:w.heap.size≤be:=Xg hS.size hbe
 replace es:=es.ext hT2 (by simpa using nbe)
 replace hT:=hT.own hT2 (fun c hc=>.inr (by simp at hc;omega))
 replace hL:=hL.up hT
 replace hS:=hS.trans hT
 clear hT hT2 ee hbe
 refine W ?_
 refine Z0 (ZK rfl (Zb rfl rfl) rfl (Z5i s 0 4 bs be 0 _ (by omega) (by omega) (by omega) nbe es ee')) rfl ?_
 rintro _ w4 ⟨rfl,es4,ee4,hT⟩
 replace hL:=hL.ext hT (by simp only [Xp];omega)
 replace hS:=hS.own hT (fun c hc=>.inr (by simp at hc;omega))
 clear hT
 refine W ?_
 refine Z0 (ZK rfl (Zb rfl rfl) rfl (Z5i s 5 7 bs be _ _ (by omega) (by omega) (by omega) nbe es4 ee4)) rfl ?_
 rintro _ w5 ⟨rfl,es5,ee5,hT⟩
 replace hL:=hL.ext hT (by simp only [Xp];omega)
 replace hS:=hS.own hT (fun c hc=>.inr (by simp at hc;omega))
 clear hT es4 ee4
 refine W ?_
 refine Z0 (ZK rfl (Zb rfl rfl) rfl (Z5i s 8 10 bs be _ _ (by omega) (by omega) (by omega) nbe es5 ee5)) rfl ?_
 rintro _ w6 ⟨rfl,es6,ee6,hT⟩
 replace hL:=hL.ext hT (by simp only [Xp];omega)
 replace hS:=hS.own hT (fun c hc=>.inr (by simp at hc;omega))
 clear hT es5 ee5
 have e0:(s.take 4).drop 0=s.take 4:=rfl
 have e1:(s.take 7).drop 5=(s.drop 5).take 2:=by rw [YaK]
 have e2:(s.take 10).drop 8=s.drop 8:=by rw [Xn (by omega)]
 rw [e0,e1,e2] at ee6
 rw [e0,e1,e2]
 refine Za (vs:=[(0,.int .i64 (Z30 (s.take 4))),(1,.int .i64 (Z30 ((s.drop 5).take 2))),(2,.int .i64 (Z30 (s.drop 8)))]) rfl (Z3o _ _ _) rfl ?_
 refine Z0 Z8 rfl ?_
 rintro _ w7 ⟨bd,rfl,hbd,ed,hT⟩
 have nbd:be≠bd:=by have:=ee6.lt;omega
 replace ee6:=ee6.up hT
 refine Z1 (Z2 (us:=[.int .i64 (Z30 (s.take 4)),.int .i64 (Z30 ((s.drop 5).take 2)),.int .i64 (Z30 (s.drop 8))]) rfl rfl rfl rfl (by intro c hc;simp at hc;rcases hc with rfl|rfl|rfl<;>rfl) ed rfl) ?_
 rintro _ w8 ⟨hT2,ed'⟩
 replace ee6:=ee6.ext hT2 (by simpa using nbd)
 replace hT:=hT.own hT2 (fun c hc=>.inr (by simp at hc;omega))
 replace hL:=hL.up hT
 replace hS:=hS.trans hT
 clear hT hT2 ed hbd es6
 by_cases hall:(s.take 4).all ZG=true∧((s.drop 5).take 2).all ZG=true∧(s.drop 8).all ZG=true
 obtain ⟨a1,a2,a3⟩:=hall
 have hP:Z0E s=(let y:Int:=Z0N (s.take 4);let m:Int:=Z0N ((s.drop 5).take 2);let d:Int:=Z0N (s.drop 8);if Z0W y m d then (0,5) else (Jc y m d,0)):=by
  unfold Z0E
  rw [if_pos ⟨hl,(b45 4 (by omega)).1 h4,(b45 7 (by omega)).1 h7,a1,a2,a3⟩]
  rfl
 rw [if_pos a1,if_pos a2,if_pos a3] at ee6
 rw [Z5h a1,Z5h a2,Z5h a3] at ed'
 refine W ?_
 refine CL rfl (Zk rfl) rfl (Z5f _ _ _ _ hL) ?_
 rintro _ w9 ⟨rfl,hT⟩
 replace hS:=hS.trans hT
 refine W ?_
 refine WR ?_
 refine .mk ⟨?_,hS⟩
 rw [hP]
 dsimp only
 split<;>rfl
 have hP:Z0E s=(0,7):=by
  unfold Z0E
  rw [if_neg (fun h=>hall h.2.2.2)]
 have hE:(if (s.drop 8).all ZG=true then (if ((s.drop 5).take 2).all ZG=true then (if (s.take 4).all ZG=true then (0:Int) else 7) else 7) else 7)=7:=by
  by_cases g3:(s.drop 8).all ZG=true
  rw [if_pos g3]
  by_cases g2:((s.drop 5).take 2).all ZG=true
  rw [if_pos g2]
  by_cases g1:(s.take 4).all ZG=true
  exact absurd ⟨g1,g2,g3⟩ hall
  rw [if_neg g1]
  rw [if_neg g2]
  rw [if_neg g3]
 rw [hE] at ee6
 refine W ?_
 refine ZDr 3 [] [] [(0,1),(1,0),(2,0)] (fun w1 hS1=>?_)
 replace ee6:=ee6.up hS1
 replace hS:=hS.trans hS1
 refine D ?_
 refine W ?_
 refine WR ?_
 rw [hP]
 exact .mk ⟨rfl,hS⟩
 have hP:Z0E s=(0,7):=by
  unfold Z0E
  rw [if_neg (fun h=>h45 ⟨(b45 4 (by omega)).2 h.2.1,(b45 7 (by omega)).2 h.2.2.1⟩)]
 by_cases h4:Z08 s 4=45
 have h7:¬ Z08 s 7=45:=fun h=>h45 ⟨h4,h⟩
 focus repeat'(first|refine W1 ?_|omega|refine VG ?_ ?_<;>intro hg|refine VC ?_ ?_<;>intro hc)
 refine Jo (i:=4) rfl rfl rfl (by omega) rfl ?_
 focus repeat'(first|refine W1 ?_|omega|refine VG ?_ ?_<;>intro hg|refine VC ?_ ?_<;>intro hc)
 refine Jo (i:=7) rfl rfl rfl (by omega) rfl ?_
 focus repeat'(first|refine W1 ?_|omega|refine VG ?_ ?_<;>intro hg|refine VC ?_ ?_<;>intro hc)
 refine WR ?_
 rw [hP]
 exact .mk ⟨rfl,hS⟩
 focus repeat'(first|refine W1 ?_|omega|refine VG ?_ ?_<;>intro hg|refine VC ?_ ?_<;>intro hc)
 refine Jo (i:=4) rfl rfl rfl (by omega) rfl ?_
 focus repeat'(first|refine W1 ?_|omega|refine VG ?_ ?_<;>intro hg|refine VC ?_ ?_<;>intro hc)
 refine WR ?_
 rw [hP]
 exact .mk ⟨rfl,hS⟩
end Go.Proofs.YtjdjdoefppebkaaGreatDoor
namespace Go.Eng
open Go Go.RowKit Go.Proofs
structure Fl where
 i:Nat
 d:Nat
 T:Nat
 z:Value
section rules
variable {P:Program} {n:Nat} {ops:Array Oper} {Lt:List Nat} {Q:Exit→Act→World→Prop} {F:List Fl} {rest join:List (Nat×Nat)} {e:Env} {J:World→List Nat→Prop}
variable {i d:Nat} {op:Op} {ty:TypeId} {pos:String} {af:Array Edge} {gd:Option (Nat×Bool)} {v:Value}
end rules
section
variable {P:Program} {n:Nat} {Q:Exit→Act→World→Prop} {e:Env} {w:World}
theorem Z5j {c:Code} (h:WC P n c (Exit.noGoto Q) e w):WC P n (.scope c) Q e w:=⟨fun a ha=>wp_scope_straight (h.h a ha)⟩
theorem ZbS {l:Nat} (h:WQ n Q .normal e w):WC P n (.label l) Q e w:=⟨fun a ha=>wp_label (h.h a ha)⟩
theorem J6 (h:WQ n Q .ret e w):WQ n (Exit.noGoto Q) .ret e w:=⟨fun a ha=>h.h a ha⟩
theorem J9 {i:Nat} (h:WQ n Q (.exit i) e w):WQ n (Exit.noGoto Q) (.exit i) e w:=⟨fun a ha=>h.h a ha⟩
end
def Ji:Str:=[9,10,13,32]
theorem Z5k (c:UInt8):Z3T c=decide (c∈Ji):=by
 unfold Z3T Ji
 rw [XU]
 simp [or_assoc]
theorem Z5l (l:Str) (c:UInt8):decide (0≤Lib.indexByte l c)=decide (c∈l):=by
 rw [decide_eq_decide]
 induction l with
 | nil=>simp [Lib.indexByte]
 | cons a r ih=>
   unfold Lib.indexByte
   by_cases h:a=c
   subst h;simp
   have hb:(a == c)=false:=by simpa using h
   rw [hb]
   simp only [XF,if_false,Xd]
   have hge:=Lib.indexByte_ge r c
   have h':¬ c=a:=fun e=>h e.symm
   split
   rename_i h1
   have:Lib.indexByte r c=-1:=by simpa using h1
   rw [← ih]
   simp [h']
   omega
   rename_i h1
   have h2:¬ Lib.indexByte r c=-1:=by simpa using h1
   have:0≤Lib.indexByte r c:=by omega
   simp [h',ih.1 this]
   omega
theorem ZjD (s:Str) (a b:UInt8):Lib.hasPrefix s [a,b]=decide (s.take 2=[a,b]):=by
 unfold Lib.hasPrefix
 match s with
 | []=>rfl
 | [x]=>simp [List.isPrefixOf]
 | x :: y :: r=>
   rw [XU]
   simp only [List.isPrefixOf,Bool.and_true,Xf,beq_iff_eq,decide_eq_true_eq,Yaf,List.take_zero,Yak,and_true]
   constructor
   rintro ⟨rfl,rfl⟩;exact ⟨rfl,rfl⟩
   rintro ⟨rfl,rfl⟩;exact ⟨rfl,rfl⟩
theorem Z7U {s:Str} (hne:s≠[]) (h:s.all ZG=true):Lib.atoiAll s=if Z0N s≤9223372036854775807 then .ok (Z0N s:Int) else .range:=by
 have key:∀ (s:Str) (acc N:Nat),acc<18446744073709551616→s.all ZG=true→s.foldl (fun n c=>10 * n+(c.toNat - 48)) acc=N→Lib.parseUint10 acc s=if N<18446744073709551616 then .ok N else .range:=by
  intro s
  induction s with
  | nil=>
    intro acc N ha _ hN
    have:acc=N:=hN
    subst this
    rw [if_pos ha]
    rfl
  | cons c r ih=>
    intro acc N ha h hN
    simp only [Yai,Xf] at h
    have hc:48≤c.toNat∧c.toNat≤57:=by simpa [ZG] using h.1
    have hmono:∀ (r:Str) (a:Nat),a≤r.foldl (fun n c=>10 * n+(c.toNat - 48)) a:=by
     intro r
     induction r with
     | nil=>intro a;exact Xk _
     | cons x q ihq=>intro a;have:=ihq (10 * a+(x.toNat - 48));simp only [XT];omega
    have h1:=hmono r (10 * acc+(c.toNat - 48))
    have hN':r.foldl (fun n c=>10 * n+(c.toNat - 48)) (10 * acc+(c.toNat - 48))=N:=hN
    rw [hN'] at h1
    simp only [Lib.parseUint10]
    rw [if_pos hc]
    split
    rw [if_neg (by omega)]
    split
    rw [if_neg (by omega)]
    rw [show acc * 10+(c.toNat - 48)=10 * acc+(c.toNat - 48) by omega]
    exact ih _ _ (by omega) h.2 hN'
 obtain ⟨c,r,rfl⟩:∃ c r,s=c :: r:=by cases s with|nil=>exact absurd rfl hne|cons c r=>exact ⟨c,r,rfl⟩
 have hk:=key (c :: r) 0 (Z0N (c :: r)) (by omega) h rfl
 have hcc:48≤c.toNat∧c.toNat≤57:=by
  simp only [Yai,Xf] at h
  simpa [ZG] using h.1
 unfold Lib.atoiAll
 simp only
 rw [if_neg (by omega)]
 unfold Lib.parseMag
 rw [if_neg (by simp),hk]
 by_cases h1:Z0N (c :: r)<18446744073709551616
 rw [if_pos h1]
 simp only
 by_cases h2:Z0N (c :: r)≤9223372036854775807
 rw [if_pos h2,if_neg (by omega),if_neg (by omega),if_neg (by omega)]
 rw [if_neg h2,if_pos (by omega)]
 rw [if_neg h1,if_neg (by omega)]
end Go.Eng
namespace Go.Proofs.YtjdjdoefppebkaaGreatDoor
open Go Go.Eng Go.RowKit Go.Proofs
theorem Z7V (c:UInt8):((c.toNat:Int)).toNat.toUInt8=c:=by
 rw [YaB]
 exact UInt8.ofNat_toNat
theorem Z4i (s:Str) (c:UInt8) (w:World):CC 268 #[str s,.int .u8 (c.toNat:Int)] w fun r w'=>r=.int .i64 (Lib.indexByte s c)∧w'=w:=by
 refine (Tryz.strings_IndexByte ⟨s.toArray⟩ (c.toNat:Int) w).mono ?_
 rintro e w' ⟨rfl,rfl⟩
 refine .mk ⟨?_,rfl⟩
 rw [Z7V]
theorem Z1e (s:Str) (a b:UInt8) (w:World):CC 267 #[str s,str [a,b]] w fun r w'=>r=.bool (decide (s.take 2=[a,b]))∧w'=w:=by
 refine (Tryz.strings_HasPrefix ⟨s.toArray⟩ ⟨([a,b]:Str).toArray⟩ w).mono ?_
 rintro e w' ⟨rfl,rfl⟩
 refine .mk ⟨?_,rfl⟩
 rw [← ZjD]
theorem Z7W {P:Program} {n:Nat} {Q:Exit→Act→World→Prop} {e:Env} {w:World} {ops:Array Oper} {rest:List Oper} {d₀:Nat} {ty:TypeId} {pos:String} {af:Array Edge} {src dst:TypeId} {x:Operand} {k:IntKind} {z:Int} {D:TypeDesc} [hs:Und P src D] [hd:Und P dst .string]
 (hx:ev e x=some (.int k z)) (hdn:Nat.blt d₀ n=true) (kk:WL P n ops Q rest ((d₀,str (Utf8.encode z).data.toList) :: e) w):WL P n ops Q (⟨some d₀,.convert src dst x,ty,pos,af,none⟩ :: rest) e w:=by
 refine Z7 (v:=str (Utf8.encode z).data.toList) ⟨fun a ha=>?_⟩ hdn kk
 have:=run_convert_int_string (P:=P) w src dst k z (by rw [hs.h];rfl) hd.h
 simp [execOp,ha.ev hx,this]
theorem ZlC (c:Nat) (h1:128≤c) (h2:c<256):(Utf8.encode (c:Int)).data.toList=[UInt8.ofNat (192+c / 64),UInt8.ofNat (128+c % 64)]:=by
 have hv:Utf8.valid (c:Int)=true:=by
  unfold Utf8.valid
  simp only [YaJ,Xf,decide_eq_true_eq]
  omega
 unfold Utf8.encode
 simp only [hv,if_true,YaB]
 rw [if_neg (by omega),if_pos (by omega)]
theorem Ze5:∀ c∈Ji,c.toNat<128:=by decide
set_option maxRecDepth 20000 in
theorem Z6S (c:Nat) (w:World) (h1:128≤c) (h2:c<256):CC 269 #[str Ji,.int .i32 (c:Int)] w fun r w'=>r=.int .i64 (-1)∧Stp [] w w':=by
 have he:=ZlC c h1 h2
 have hb:128≤(UInt8.ofNat (128+c % 64)).toNat:=by simp;omega
 generalize UInt8.ofNat (192+c / 64)=b0 at he
 generalize UInt8.ofNat (128+c % 64)=b1 at he hb
 have hvr:Lib.validRune (c:Int)=true:=decide_eq_true (by omega)
 refine cW2 187 Tryz.func269 ?_
 repeat'(first|refine W1 ?_|omega|refine VG ?_ ?_<;>intro hg|refine VC ?_ ?_<;>intro hc)
 refine Z0 (Ze rfl (Zk rfl) ((Tryz.utf8_ValidRune (c:Int) _).mono (fun e w' h=>(show Ret (fun r w'=>r=.bool true∧w'=_) e w' from by
  obtain ⟨rfl,rfl⟩:=h
  exact .mk ⟨by rw [hvr],rfl⟩)))) rfl ?_
 rintro _ wv ⟨rfl,hwv⟩
 subst wv
 refine W ?_
 refine Z5j ?_
 refine W ?_
 refine Z7W rfl rfl ?_
 rw [he]
 have hl2:([b0,b1]:Str).length=2:=rfl
 have hls:Ji.length=4:=rfl
 refine W ?_
 refine Zh (σ:=Unit) (fun _=>[(0,str Ji),(7,str [b0,b1]),(8,.int .i64 ((([b0,b1]:Str).length:Int) - 1)),(9,.int .i64 ((([b0,b1]:Str).length:Int) - 1))]) (fun _ w'=>Stp [] w w') (fun _=>0) () ⟨rfl,rfl,rfl,rfl,trivial⟩ (Stp.refl _ _) ?_
 rintro _ w1 hS
 repeat'(first|refine W1 ?_|omega|refine VG ?_ ?_<;>intro hg|refine VC ?_ ?_<;>intro hc)
 refine Z5j ?_
 repeat'(first|refine W1 ?_|omega|refine VG ?_ ?_<;>intro hg|refine VC ?_ ?_<;>intro hc)
 refine ZDr 7 [] [] [(0,0),(1,0),(2,0),(3,0),(4,0),(5,0),(6,0)] (fun w1 hS1=>?_)
 replace hS:=hS.trans hS1
 clear hS1
 refine D ?_
 have hx:¬ Z08 Ji (([b0,b1]:Str).length - Nat.succ 0)=Z08 [b0,b1] (([b0,b1]:Str).length - Nat.succ 0):=by
  show ¬ (10:Int)=(b1.toNat:Int)
  omega
 repeat'(first|refine W1 ?_|omega|refine VG ?_ ?_<;>intro hg|refine VC ?_ ?_<;>intro hc)
 rotate_left
 exact absurd hx (by assumption)
 have hx1:Z08 [b0,b1] (([b0,b1]:Str).length - Nat.succ 0)=(b1.toNat:Int):=rfl
 have hnm:b1∉(Ji.drop 2):=fun h=>by
  have:=Ze5 b1 (List.mem_of_mem_drop h)
  omega
 have hidx:Lib.indexByte (Ji.drop 2) b1<0:=by
  have:=Z5l (Ji.drop 2) b1
  rw [decide_eq_decide] at this
  have h0:¬ 0≤Lib.indexByte (Ji.drop 2) b1:=fun h=>hnm (this.1 h)
  omega
 refine ZDr 9 [] [] [(0,0),(1,0),(2,0),(3,0),(4,0),(5,0),(6,0),(7,2),(8,0)] (fun w1 hS1=>?_)
 replace hS:=hS.trans hS1
 clear hS1
 refine D ?_
 refine Z7h (l:=2) rfl trivial rfl rfl (by omega) (by omega) rfl ?_
 refine D ?_
 rw [hx1]
 refine ZC rfl trivial (Ze rfl (Zb rfl rfl) (Z4i (Ji.drop 2) b1 _)) (fun _ _ h=>by rw [h.2];exact Stp.refl _ _) rfl ?_
 rintro _ w5 ⟨rfl,hw5⟩
 subst w5
 refine D ?_
 repeat'(first|refine W1 ?_|omega|refine VG ?_ ?_<;>intro hg|refine VC ?_ ?_<;>intro hc)
 repeat (first|refine J6 ?_|refine W1 ?_)
 refine WR ?_
 exact .mk ⟨rfl,hS⟩
theorem Z6T (c:UInt8) (w:World):CC 204 #[str Ji,.int .i32 (c.toNat:Int)] w fun r w'=>r=.bool (Z3T c)∧Stp [] w w':=by
 by_cases h:c.toNat<128
 refine (Tryz.strings_ContainsRune_ascii ⟨Ji.toArray⟩ (c.toNat:Int) w (by omega) (by omega)).mono ?_
 rintro e w' ⟨rfl,rfl⟩
 refine .mk ⟨?_,Stp.refl _ _⟩
 rw [Z7V,Z5k]
 exact congrArg Value.bool (Z5l Ji c)
 have hc:=c.toNat_lt
 have hsp:Z3T c=false:=by
  rw [Z5k,decide_eq_false_iff_not]
  intro hm
  exact h (Ze5 c hm)
 refine cW2 9 Tryz.func204 ?_
 refine W ?_
 refine CL rfl (Zb rfl rfl) rfl (Z6S c.toNat _ (by omega) (by omega)) ?_
 rintro _ w1 ⟨rfl,hS⟩
 refine W ?_
 refine WR ?_
 exact .mk ⟨by rw [hsp];rfl,hS⟩
def lxV:Lx→Value
 | .err c=>.tuple #[.agg (Z5.enc (⟨0,0,[],0⟩:Tkn)).toArray,.int .i64 c]
 | .ok t=>.tuple #[.agg (Z5.enc t).toArray,.int .i64 0]
theorem tk0 (w:World):(Instr.build 167 #[]).run Tryz.prog w=.ok (.agg (Z5.enc (⟨0,0,[],0⟩:Tkn)).toArray) w:=by kernel_rfl
theorem tk2 (k:Int) (s:Str) (w:World):(Instr.build 167 #[(0,.int .i64 k),(2,str s)]).run Tryz.prog w=.ok (.agg (Z5.enc (⟨k,0,s,0⟩:Tkn)).toArray) w:=by kernel_rfl
theorem tk3 (k n:Int) (s:Str) (w:World):(Instr.build 167 #[(0,.int .i64 k),(2,str s),(3,.int .i64 n)]).run Tryz.prog w=.ok (.agg (Z5.enc (⟨k,0,s,n⟩:Tkn)).toArray) w:=by kernel_rfl
theorem tk1 (k n:Int) (w:World):(Instr.build 167 #[(0,.int .i64 k),(1,.int .i64 n)]).run Tryz.prog w=.ok (.agg (Z5.enc (⟨k,n,[],0⟩:Tkn)).toArray) w:=by kernel_rfl
theorem Zhy {s:Str} {a b:UInt8} (h:s.take 2=[a,b]):2≤s.length:=by
 have:=congrArg List.length h
 simp at this
 omega
theorem Z5m (s:Str) (w:World) (hne:s≠[]):CC 203 #[str s] w fun r w'=>r=lxV (Jh s)∧Stp [] w w':=by
 have hl:s.length≠0:=fun h=>hne (Xx.1 h)
 have hget:Z08 s 0=((s.getD 0 0).toNat:Int):=rfl
 refine cW1 22 Tryz.func203 ?_
 refine W ?_
 refine Z0 Z8 rfl ?_
 rintro _ w1 ⟨b2,rfl,hb2,e2,hS⟩
 refine W ?_
 refine CL rfl (Zb rfl rfl) rfl (Z1e s 60 61 _) ?_
 rintro _ wv ⟨rfl,hwv⟩
 subst wv
 by_cases a1:s.take 2=[60,61]
 have h2:=Zhy a1
 have hv:Jh s=.ok ⟨4,0,s.take 2,0⟩:=by unfold Jh;rw [if_pos (.inl a1)]
 rw [decide_eq_true a1]
 refine W ?_
 refine Jy (r:=2) rfl rfl rfl (by omega) rfl ?_
 refine Za (vs:=[(0,.int .i64 4),(2,str (s.take 2))]) rfl (tk2 _ _) rfl ?_
 refine Z1 (Z2 (us:=Z5.enc (⟨4,0,s.take 2,0⟩:Tkn)) rfl rfl rfl rfl (Z5.one _) e2 rfl) ?_
 rintro _ wz ⟨hT,e2'⟩
 refine W ?_
 refine ZP rfl rfl rfl e2' rfl rfl ?_
 exact .mk ⟨by rw [hv];rfl,hS.own hT (fun c hc=>.inr (by simp at hc;omega))⟩
 rw [decide_eq_false a1]
 refine W ?_
 refine CL rfl (Zb rfl rfl) rfl (Z1e s 33 61 _) ?_
 rintro _ wv ⟨rfl,hwv⟩
 subst wv
 by_cases a2:s.take 2=[33,61]
 have h2:=Zhy a2
 have hv:Jh s=.ok ⟨4,0,s.take 2,0⟩:=by unfold Jh;rw [if_pos (.inr (.inl a2))]
 rw [decide_eq_true a2]
 refine W ?_
 refine Jy (r:=2) rfl rfl rfl (by omega) rfl ?_
 refine Za (vs:=[(0,.int .i64 4),(2,str (s.take 2))]) rfl (tk2 _ _) rfl ?_
 refine Z1 (Z2 (us:=Z5.enc (⟨4,0,s.take 2,0⟩:Tkn)) rfl rfl rfl rfl (Z5.one _) e2 rfl) ?_
 rintro _ wz ⟨hT,e2'⟩
 refine W ?_
 refine ZP rfl rfl rfl e2' rfl rfl ?_
 exact .mk ⟨by rw [hv];rfl,hS.own hT (fun c hc=>.inr (by simp at hc;omega))⟩
 rw [decide_eq_false a2]
 refine W ?_
 refine CL rfl (Zb rfl rfl) rfl (Z1e s 62 61 _) ?_
 rintro _ wv ⟨rfl,hwv⟩
 subst wv
 by_cases a3:s.take 2=[62,61]
 have h2:=Zhy a3
 have hv:Jh s=.ok ⟨4,0,s.take 2,0⟩:=by unfold Jh;rw [if_pos (.inr (.inr a3))]
 rw [decide_eq_true a3]
 refine W ?_
 refine Jy (r:=2) rfl rfl rfl (by omega) rfl ?_
 refine Za (vs:=[(0,.int .i64 4),(2,str (s.take 2))]) rfl (tk2 _ _) rfl ?_
 refine Z1 (Z2 (us:=Z5.enc (⟨4,0,s.take 2,0⟩:Tkn)) rfl rfl rfl rfl (Z5.one _) e2 rfl) ?_
 rintro _ wz ⟨hT,e2'⟩
 refine W ?_
 refine ZP rfl rfl rfl e2' rfl rfl ?_
 exact .mk ⟨by rw [hv];rfl,hS.own hT (fun c hc=>.inr (by simp at hc;omega))⟩
 rw [decide_eq_false a3]
 have hno:¬ (s.take 2=[60,61]∨s.take 2=[33,61]∨s.take 2=[62,61]):=by
  rintro (h|h|h)
  exact a1 h
  exact a2 h
  exact a3 h
 repeat'(first|refine W1 ?_|omega|refine VG ?_ ?_<;>intro hg|refine VC ?_ ?_<;>intro hc)
 refine Jo (i:=0) rfl rfl rfl (by omega) rfl ?_
 repeat'(first|refine W1 ?_|omega|refine VG ?_ ?_<;>intro hg|refine VC ?_ ?_<;>intro hc)
 rw [hget]
 refine CL rfl (Zb rfl rfl) rfl (Z4i Z7R (s.getD 0 0) _) ?_
 rintro _ wv ⟨rfl,hwv⟩
 subst wv
 have him:=Z5l Z7R (s.getD 0 0)
 rw [decide_eq_decide] at him
 by_cases a4:s.getD 0 0∈Z7R
 have hv:Jh s=.ok ⟨4,0,s.take 1,0⟩:=by unfold Jh;rw [if_neg hno,if_pos a4]
 have h0:=him.2 a4
 focus repeat'(first|refine W1 ?_|omega|refine VG ?_ ?_<;>intro hg|refine VC ?_ ?_<;>intro hc)
 refine W ?_
 refine Jy (r:=1) rfl rfl rfl (by omega) rfl ?_
 refine Za (vs:=[(0,.int .i64 4),(2,str (s.take 1))]) rfl (tk2 _ _) rfl ?_
 refine Z1 (Z2 (us:=Z5.enc (⟨4,0,s.take 1,0⟩:Tkn)) rfl rfl rfl rfl (Z5.one _) e2 rfl) ?_
 rintro _ wz ⟨hT,e2'⟩
 refine W ?_
 refine ZP rfl rfl rfl e2' rfl rfl ?_
 exact .mk ⟨by rw [hv];rfl,hS.own hT (fun c hc=>.inr (by simp at hc;omega))⟩
 have hv:Jh s=.err 20:=by unfold Jh;rw [if_neg hno,if_neg a4]
 have h0:¬ 0≤Lib.indexByte Z7R (s.getD 0 0):=fun h=>a4 (him.1 h)
 focus repeat'(first|refine W1 ?_|omega|refine VG ?_ ?_<;>intro hg|refine VC ?_ ?_<;>intro hc)
 refine Za (vs:=[]) rfl tk0 rfl ?_
 refine Z1 (Z2 (us:=Z5.enc (⟨0,0,[],0⟩:Tkn)) rfl rfl rfl rfl (Z5.one _) e2 rfl) ?_
 rintro _ wz ⟨hT,e2'⟩
 refine W ?_
 refine ZP rfl rfl rfl e2' rfl rfl ?_
 exact .mk ⟨by rw [hv];rfl,hS.own hT (fun c hc=>.inr (by simp at hc;omega))⟩
theorem Z67 (s:Str) (w:World) (hl:s.length≤1000000):CC 208 #[str s] w fun r w'=>r=lxV (Z3k s)∧Stp [] w w':=by
 have hle:(s.takeWhile ldB).length≤s.length:=by
  have:=congrArg List.length (J8 (p:=ldB) s)
  simp at this
  omega
 refine cW1 14 Tryz.func208 ?_
 refine W ?_
 refine Z0 Z8 rfl ?_
 rintro _ w1 ⟨b2,rfl,hb2,e2,hS⟩
 refine W ?_
 refine CL rfl (Zb rfl rfl) rfl (Z3V (fun n=>Z6Q n || Z3U n) Zhw s _ hl) ?_
 rintro _ w2 ⟨rfl,hT⟩
 rw [ZbJ]
 replace e2:=e2.up hT
 replace hS:=hS.trans hT
 clear hT
 by_cases h12:12<(s.takeWhile ldB).length
 have hv:Z3k s=.err 2:=by unfold Z3k;simp only;rw [if_pos h12]
 focus repeat'(first|refine W1 ?_|omega|refine VG ?_ ?_<;>intro hg|refine VC ?_ ?_<;>intro hc)
 refine Za (vs:=[]) rfl tk0 rfl ?_
 refine Z1 (Z2 (us:=Z5.enc (⟨0,0,[],0⟩:Tkn)) rfl rfl rfl rfl (Z5.one _) e2 rfl) ?_
 rintro _ wz ⟨hT,e2'⟩
 refine W ?_
 refine ZP rfl rfl rfl e2' rfl rfl ?_
 exact .mk ⟨by rw [hv];rfl,hS.own hT (fun c hc=>.inr (by simp at hc;omega))⟩
 have hv:Z3k s=.ok ⟨1,0,s.take (s.takeWhile ldB).length,0⟩:=by unfold Z3k;simp only;rw [if_neg h12]
 generalize (s.takeWhile ldB).length=q at *
 focus repeat'(first|refine W1 ?_|omega|refine VG ?_ ?_<;>intro hg|refine VC ?_ ?_<;>intro hc)
 refine Jy (r:=q) rfl rfl rfl hle rfl ?_
 refine Za (vs:=[(0,.int .i64 1),(2,str (s.take q))]) rfl (tk2 _ _) rfl ?_
 refine Z1 (Z2 (us:=Z5.enc (⟨1,0,s.take q,0⟩:Tkn)) rfl rfl rfl rfl (Z5.one _) e2 rfl) ?_
 rintro _ wz ⟨hT,e2'⟩
 refine W ?_
 refine ZP rfl rfl rfl e2' rfl rfl ?_
 exact .mk ⟨by rw [hv];rfl,hS.own hT (fun c hc=>.inr (by simp at hc;omega))⟩
theorem ZjE {P:Program} {n:Nat} {Q:Exit→Act→World→Prop} {e:Env} {w:World} {ops:Array Oper} {rest:List Oper} {d₀:Nat} {ty:TypeId} {pos:String} {af:Array Edge} {t u p:Nat} {x y:Operand} {v:Value} {ds:TypeDesc} [hu:Und P t ds] (hds:∃ l,ds=.interface l) (hx:ev e x=some (.iface p v)) (hy:ev e y=some .nilIface) (hdn:Nat.blt d₀ n=true) (kk:WL P n ops Q rest ((d₀,.bool true) :: e) w) :
 WL P n ops Q (⟨some d₀,.binOp .neq t x y u,ty,pos,af,none⟩ :: rest) e w:=by
 refine Z7 (v:=.bool true) ⟨fun a ha=>?_⟩ hdn kk
 obtain ⟨l,rfl⟩:=hds
 simp only [execOp,ha.ev hx,ha.ev hy]
 have:=run_equal_held_nil (P:=P) (w:=w) t p v (by rw [hu.h,Program.methodsAt,hu.h])
 simp [go_sem,binOp,this]
theorem Ze6 {P:Program} {n:Nat} {Q:Exit→Act→World→Prop} {e:Env} {w:World} {ops:Array Oper} {rest:List Oper} {d₀:Nat} {ty:TypeId} {pos:String} {af:Array Edge} {t u:Nat} {x:Operand} {ds:TypeDesc} [hu:Und P t ds] (hds:∃ l,ds=.interface l) (hx:ev e x=some .nilIface) (hdn:Nat.blt d₀ n=true) (kk:WL P n ops Q rest ((d₀,.bool false) :: e) w) :
 WL P n ops Q (⟨some d₀,.binOp .neq t x (.const .nilIface) u,ty,pos,af,none⟩ :: rest) e w:=by
 refine Z7 (v:=.bool false) ⟨fun a ha=>?_⟩ hdn kk
 obtain ⟨l,rfl⟩:=hds
 have hy:a.eval (.const .nilIface)=.nilIface:=rfl
 simp only [execOp,ha.ev hx,hy]
 have:=run_equal_nil_nil (P:=P) (w:=w) t (by rw [hu.h,Program.methodsAt,hu.h])
 simp [go_sem,binOp,eqGuard,this]
theorem Zaa (w:World) (el:TypeId) (t:ByteArray):Stp [] w (Lib.bytesWorld w el t):=by
 refine ⟨rfl,rfl,rfl,?_,fun b hb _=>Lib.bytesWorld_at_old w el _ b hb⟩
 rw [Lib.bytesWorld_size]
 omega
theorem Zab (t:Str) (ev:Value) (w:World) (ht:t.all ZG=true) (hne:t≠[]) (hl:t.length≤1000000) (hv4:w.cell? ⟨5,0,none⟩=some ev) (hev:ev=.nilIface∨∃ te pe,ev=.iface te pe) :
 CC 271 #[str t] w fun r w'=>(if Z0N t≤9223372036854775807 then r=.tuple #[.int .i64 (Z0N t:Int),.nilIface] else ∃ z p v,r=.tuple #[.int .i64 z,.iface p v])∧Stp [] w w':=by
 have ha:=Z7U hne ht
 by_cases h:Z0N t≤9223372036854775807
 rw [if_pos h] at ha
 refine (Tryz.strconv_Atoi_ok ⟨t.toArray⟩ (by rw [Jw];omega) (Z0N t:Int) (by simpa using ha) w).mono ?_
 rintro e w' ⟨rfl,hw⟩
 refine .mk ⟨by rw [if_pos h],?_⟩
 rcases hw with rfl|⟨x,rfl⟩
 exact Stp.refl _ _
 exact Zaa _ _ _
 rw [if_neg h] at ha
 refine (Tryz.strconv_Atoi_range ⟨t.toArray⟩ (by rw [Jw];omega) (by simpa using ha) ev w hv4 hev).mono ?_
 rintro e w' ⟨N,rfl,_,_,hw⟩
 exact .mk ⟨by rw [if_neg h];exact ⟨_,_,_,rfl⟩,Stp.of_below hw⟩
theorem Z4j (s:Str) (ev:Value) (w:World) (hl:s.length≤1000000) (hd:ZG (s.getD 0 0)=true) (hne:s≠[]) (hv4:w.cell? ⟨5,0,none⟩=some ev) (hev:ev=.nilIface∨∃ te pe,ev=.iface te pe):CC 210 #[str s] w fun r w'=>r=lxV (Z2t s)∧Stp [] w w':=by
 have hle:(s.takeWhile ZG).length≤s.length:=by
  have:=congrArg List.length (J8 (p:=ZG) s)
  simp at this
  omega
 have hall:(s.takeWhile ZG).all ZG=true:=XC.2 fun c hc=>JP hc
 have htk:=J8 (p:=ZG) s
 have hpos:s.takeWhile ZG≠[]:=by
  cases s with
  | nil=>exact absurd rfl hne
  | cons a r=>simp only [XV] at hd;simp [hd]
 have hp0:(s.takeWhile ZG).length≠0:=fun h=>hpos (Xx.1 h)
 have hnl:Z2t s=if 1<(s.takeWhile ZG).length∧(s.takeWhile ZG).getD 0 0=48 then .err 20 else if 2147483647<Z0N (s.takeWhile ZG) then .err 5 else .ok ⟨2,0,s.takeWhile ZG,Z0N (s.takeWhile ZG)⟩:=rfl
 rw [hnl]
 have hfd:=Za7 s
 refine cW1 35 Tryz.func210 ?_
 refine W ?_
 refine Z0 Z8 rfl ?_
 rintro _ w1 ⟨b2,rfl,hb2,e2,hS⟩
 refine W ?_
 refine CL rfl (Zb rfl rfl) rfl (Z3V Z3U Z2u s _ hl) ?_
 rintro _ w2 ⟨rfl,hT⟩
 rw [hfd]
 replace e2:=e2.up hT
 replace hS:=hS.trans hT
 clear hT
 refine Jy (r:=(s.takeWhile ZG).length) rfl rfl rfl hle rfl ?_
 rw [htk]
 have hl2:(s.takeWhile ZG).length≤1000000:=Xg hle hl
 clear hnl htk hle hfd
 generalize s.takeWhile ZG=t at *
 have hget:Z08 t 0=((t.getD 0 0).toNat:Int):=rfl
 have h48:Z08 t 0=48↔t.getD 0 0=48:=by
  rw [hget]
  constructor
  intro h
  have h48:(48:UInt8).toNat=48:=rfl
  exact UInt8.toNat_inj.1 (by omega)
  intro h;rw [h];rfl
 by_cases hz:1<t.length∧t.getD 0 0=48
 rw [if_pos hz]
 have hz1:=hz.1
 have hz2:=h48.2 hz.2
 focus repeat'(first|refine W1 ?_|omega|refine VG ?_ ?_<;>intro hg|refine VC ?_ ?_<;>intro hc)
 refine Jo (i:=0) rfl rfl rfl (by omega) rfl ?_
 focus repeat'(first|refine W1 ?_|omega|refine VG ?_ ?_<;>intro hg|refine VC ?_ ?_<;>intro hc)
 refine Za (vs:=[]) rfl tk0 rfl ?_
 refine Z1 (Z2 (us:=Z5.enc (⟨0,0,[],0⟩:Tkn)) rfl rfl rfl rfl (Z5.one _) e2 rfl) ?_
 rintro _ wz ⟨hT,e2'⟩
 refine W ?_
 refine ZP rfl rfl rfl e2' rfl rfl ?_
 exact .mk ⟨rfl,hS.own hT (fun c hc=>.inr (by simp at hc;omega))⟩
 rw [if_neg hz]
 refine W ?_
 refine Zdk (σ:=Unit) (fun _=>[(0,str s),(2,.pointer (some ⟨b2,0,none⟩)),(4,str t),(18,.bool false)]) (fun _ w'=>w'=w2) ?_ ?_
 by_cases h1:1<t.length
 have h0:¬ Z08 t 0=48:=fun h=>hz ⟨h1,h48.1 h⟩
 focus repeat'(first|refine W1 ?_|omega|refine VG ?_ ?_<;>intro hg|refine VC ?_ ?_<;>intro hc)
 refine Jo (i:=0) rfl rfl rfl (by omega) rfl ?_
 focus repeat'(first|refine W1 ?_|omega|refine VG ?_ ?_<;>intro hg|refine VC ?_ ?_<;>intro hc)
 rw [decide_eq_false h0]
 exact ZJ () ⟨rfl,rfl,rfl,rfl,trivial⟩ rfl
 focus repeat'(first|refine W1 ?_|omega|refine VG ?_ ?_<;>intro hg|refine VC ?_ ?_<;>intro hc)
 exact ZJ () ⟨rfl,rfl,rfl,rfl,trivial⟩ rfl
 rintro _ wv hwv
 subst wv
 refine W ?_
 refine CL rfl (Zk rfl) rfl (Zab t ev _ hall hpos hl2 (hS.cell (by simp) hv4) hev) ?_
 rintro _ w3 ⟨hr,hT⟩
 replace e2:=e2.up hT
 replace hS:=hS.trans hT
 clear hT
 by_cases hmax:Z0N t≤9223372036854775807
 rw [if_pos hmax] at hr
 subst hr
 refine W ?_
 refine Ze6 ⟨_,rfl⟩ rfl rfl ?_
 by_cases hbig:2147483647<Z0N t
 rw [if_pos hbig]
 focus repeat'(first|refine W1 ?_|omega|refine VG ?_ ?_<;>intro hg|refine VC ?_ ?_<;>intro hc)
 refine Za (vs:=[]) rfl tk0 rfl ?_
 refine Z1 (Z2 (us:=Z5.enc (⟨0,0,[],0⟩:Tkn)) rfl rfl rfl rfl (Z5.one _) e2 rfl) ?_
 rintro _ wz ⟨hT,e2'⟩
 refine W ?_
 refine ZP rfl rfl rfl e2' rfl rfl ?_
 exact .mk ⟨rfl,hS.own hT (fun c hc=>.inr (by simp at hc;omega))⟩
 rw [if_neg hbig]
 focus repeat'(first|refine W1 ?_|omega|refine VG ?_ ?_<;>intro hg|refine VC ?_ ?_<;>intro hc)
 refine Za (vs:=[(0,.int .i64 2),(2,str t),(3,.int .i64 (Z0N t:Int))]) rfl (tk3 _ _ _) rfl ?_
 refine Z1 (Z2 (us:=Z5.enc (⟨2,0,t,Z0N t⟩:Tkn)) rfl rfl rfl rfl (Z5.one _) e2 rfl) ?_
 rintro _ wz ⟨hT,e2'⟩
 refine W ?_
 refine ZP rfl rfl rfl e2' rfl rfl ?_
 exact .mk ⟨rfl,hS.own hT (fun c hc=>.inr (by simp at hc;omega))⟩
 rw [if_neg hmax] at hr
 obtain ⟨z,p,v,rfl⟩:=hr
 rw [if_pos (by omega)]
 refine W ?_
 refine ZjE ⟨_,rfl⟩ rfl rfl rfl ?_
 focus repeat'(first|refine W1 ?_|omega|refine VG ?_ ?_<;>intro hg|refine VC ?_ ?_<;>intro hc)
 refine Za (vs:=[]) rfl tk0 rfl ?_
 refine Z1 (Z2 (us:=Z5.enc (⟨0,0,[],0⟩:Tkn)) rfl rfl rfl rfl (Z5.one _) e2 rfl) ?_
 rintro _ wz ⟨hT,e2'⟩
 refine W ?_
 refine ZP rfl rfl rfl e2' rfl rfl ?_
 exact .mk ⟨rfl,hS.own hT (fun c hc=>.inr (by simp at hc;omega))⟩
theorem Z4k {z:Int} (h0:0≤z) (h1:z<2147483648):IntKind.i32.wrap z=z:=by
 rw [IntKind.wrap_i32]
 omega
theorem Zdy:∀ i,i<ZO.length→(ZO.getD i 0).toNat<128:=by decide
theorem Zdz {s:Str} (h:11≤s.length) (hf:∀ j,j<11→Z3l (ZO.getD j 0) (s.getD j 0)=true):((ZO.zip s).all fun p=>Z3l p.1 p.2)=true:=by
 rw [XC]
 intro p hp
 obtain ⟨i,hi,rfl⟩:=Xj hp
 have h1:i<11:=by
  have:ZO.length=11:=rfl
  simp at hi
  omega
 have:=hf i h1
 rw [List.getElem_zip]
 have e1:ZO.getD i 0=ZO[i]'(by show i<11;omega):=by
  have:i<ZO.length:=h1
  simp [List.getD,this]
 have e2:s.getD i 0=s[i]'(by omega):=by
  have:i<s.length:=by omega
  simp [List.getD,this]
 rw [e1,e2] at this
 exact this
theorem Z68 {s:Str} {j:Nat} (h:11≤s.length) (hj:j<11) (hf:Z3l (ZO.getD j 0) (s.getD j 0)=false):((ZO.zip s).all fun p=>Z3l p.1 p.2)=false:=by
 cases hb:((ZO.zip s).all fun p=>Z3l p.1 p.2) with
 | false=>rfl
 | true=>
   rw [XC] at hb
   have hl:j<(ZO.zip s).length:=by
    have:ZO.length=11:=rfl
    simp
    omega
   have:=hb _ (Xm hl)
   rw [List.getElem_zip] at this
   have e1:ZO.getD j 0=ZO[j]'(by show j<11;omega):=by
    have:j<ZO.length:=hj
    simp [List.getD,this]
   have e2:s.getD j 0=s[j]'(by omega):=by
    have:j<s.length:=by omega
    simp [List.getD,this]
   rw [e1,e2] at hf
   rw [hf] at this
   cases this
set_option maxHeartbeats 1000000 in
theorem Z9u (s:Str) (w:World) (hLG:Z0b w) (hl:s.length≤1000000):CC 211 #[str s] w fun r w'=>r=lxV (Z6P s)∧Stp [] w w':=by
 have h5w:1<w.heap.size:=by have:=block_lt_of_cell (hLG 0 0 rfl);simpa using this
 refine cW1 52 Tryz.func211 ?_
 refine W ?_
 refine Z0 Z8 rfl ?_
 rintro _ w1 ⟨b2,rfl,hb2,e2,hS⟩
 by_cases h11:s.length<11
 have hv:Z6P s=.err 20:=by unfold Z6P;rw [if_pos h11]
 rw [hv]
 focus repeat'(first|refine W1 ?_|omega|refine VG ?_ ?_<;>intro hg|refine VC ?_ ?_<;>intro hc)
 refine Za (vs:=[]) rfl tk0 rfl ?_
 refine Z1 (Z2 (us:=Z5.enc (⟨0,0,[],0⟩:Tkn)) rfl rfl rfl rfl (Z5.one _) e2 rfl) ?_
 rintro _ wz ⟨hT,e2'⟩
 refine W ?_
 refine ZP rfl rfl rfl e2' rfl rfl ?_
 exact .mk ⟨rfl,hS.own hT (fun c hc=>.inr (by simp at hc;omega))⟩
 · have hv0:Z6P s=if ((ZO.zip s).all fun p=>Z3l p.1 p.2) then (let d:=Z0E ((s.take 11).drop 1);if d.2=0 then .ok ⟨3,0,s.take 11,d.1⟩ else .err 5) else .err 20:=by unfold Z6P;rw [if_neg h11]
   rw [hv0]
   replace hLG:=hLG.up hS
   repeat'(first|refine W1 ?_|omega|refine VG ?_ ?_<;>intro hg|refine VC ?_ ?_<;>intro hc)
   refine Z0 (Z7J (s:=ZO) rfl) rfl ?_
   rintro _ w2 ⟨bi,rfl,hbi,hI,hT⟩
   have hbiw:w.heap.size≤bi:=Xg hS.size hbi
   have ni2:b2≠bi:=by have:=e2.lt;omega
   have h5i:(1:Nat)≠bi:=by omega
   replace e2:=e2.up hT
   replace hLG:=hLG.up hT
   replace hS:=hS.trans hT
   clear hT
   refine W ?_
   refine Zh (σ:=Nat) (fun q=>[(0,str s),(2,.pointer (some ⟨b2,0,none⟩)),(13,.pointer (some ⟨bi,0,none⟩))])
    (fun q w'=>q≤11∧Itr w' bi ZO q∧(∀ j,j<q→Z3l (ZO.getD j 0) (s.getD j 0)=true)∧(∃ cs:List Value,cs.length=4∧Blk w' b2 167 cs)∧Z0b w'∧Stp [] w w')
    (fun q=>11 - q) 0 ⟨rfl,rfl,rfl,trivial⟩ ⟨Xo _,hI,fun j h=>absurd h (Xs _),⟨_,rfl,e2⟩,hLG,hS⟩ ?_
   clear hI e2 hLG hS
   rintro q w3 ⟨hq,hI,hfit,⟨cs2,hc2,e2⟩,hLG,hS⟩
   match cs2,hc2 with
   | [q0,q1,q2,q3],_=>
   have hfl:ZO.length=11:=rfl
   by_cases hlt:q<11
   have hqf:q<ZO.length:=by omega
   have hlo:=Zdy q hqf
   have hdec:dec ZO q=((ZO.getD q 0).toNat,1):=by
    have e1:ZO.getD q 0=ZO[q]'hqf:=by simp [List.getD,hqf]
    rw [e1] at hlo ⊢
    exact Z2s hqf hlo
   refine W ?_
   refine Z0 (Z9r rfl hI hqf) rfl ?_
   rintro _ w4 ⟨rfl,hI4,hT⟩
   rw [hdec] at hI4 ⊢
   dsimp only at hI4 ⊢
   replace e2:=e2.ext hT (by simpa using ni2)
   replace hLG:=hLG.ext hT (by simpa using h5i)
   replace hS:=hS.own hT (fun c hc=>.inr (by simp at hc;omega))
   clear hT hI
   have hbr:=Z4U s q
   focus repeat'(first|refine W1 ?_|omega|refine VG ?_ ?_<;>intro hg|refine VC ?_ ?_<;>intro hc)
   refine Z7 (Z2v (b:=Z08 s q) rfl (Z4k hbr.1 (by omega))) rfl ?_
   have hby:Z08 s q=((s.getD q 0).toNat:Int):=rfl
   by_cases hc100:ZO.getD q 0=100
   rw [hc100]
   have h100:(((100:UInt8).toNat:Nat):Int)=100:=rfl
   rw [h100]
   have hfq:Z3l (ZO.getD q 0) (s.getD q 0)=ZG (s.getD q 0):=by unfold Z3l;rw [if_pos hc100]
   focus repeat'(first|refine W1 ?_|omega|refine VG ?_ ?_<;>intro hg|refine VC ?_ ?_<;>intro hc)
   rw [hby]
   refine CL rfl (Zk rfl) rfl (Z2u (s.getD q 0).toNat _) ?_
   rintro _ wv ⟨rfl,hwv⟩
   subst wv
   have hdg:Z3U (s.getD q 0).toNat=ZG (s.getD q 0):=rfl
   rw [hdg]
   cases hd:ZG (s.getD q 0)
   have hz:=Z68 (s:=s) (by omega) hlt (by rw [hfq];exact hd)
   rw [if_neg (by rw [hz];decide)]
   focus repeat'(first|refine W1 ?_|omega|refine VG ?_ ?_<;>intro hg|refine VC ?_ ?_<;>intro hc)
   refine Za (vs:=[]) rfl tk0 rfl ?_
   refine Z1 (Z2 (us:=Z5.enc (⟨0,0,[],0⟩:Tkn)) rfl rfl rfl rfl (Z5.one _) e2 rfl) ?_
   rintro _ wz ⟨hT,e2'⟩
   refine W ?_
   refine ZP rfl rfl rfl e2' rfl rfl ?_
   exact .mk ⟨rfl,hS.own hT (fun c hc=>.inr (by simp at hc;omega))⟩
   focus repeat'(first|refine W1 ?_|omega|refine VG ?_ ?_<;>intro hg|refine VC ?_ ?_<;>intro hc)
   refine Zd (q+1) ⟨rfl,rfl,rfl,trivial⟩ ⟨hlt,hI4,fun j hj=>?_,⟨_,rfl,e2⟩,hLG,hS⟩ (by omega)
   rcases X2 j q with h|h
   exact hfit j h
   obtain rfl:j=q:=by omega
   rw [hfq];exact hd
   have hne:¬ ((ZO.getD q 0).toNat:Int)=100:=fun h=>hc100 (by
    have h100:(100:UInt8).toNat=100:=rfl
    exact UInt8.toNat_inj.1 (by omega))
   have hfq:Z3l (ZO.getD q 0) (s.getD q 0)=decide (s.getD q 0=ZO.getD q 0):=by unfold Z3l;rw [if_neg hc100]
   have heq:Z08 s q=((ZO.getD q 0).toNat:Int)↔s.getD q 0=ZO.getD q 0:=by
    rw [hby]
    constructor
    intro h;exact UInt8.toNat_inj.1 (by omega)
    intro h;rw [h]
   by_cases hx:Z08 s q=((ZO.getD q 0).toNat:Int)
   focus repeat'(first|refine W1 ?_|omega|refine VG ?_ ?_<;>intro hg|refine VC ?_ ?_<;>intro hc)
   refine Zd (q+1) ⟨rfl,rfl,rfl,trivial⟩ ⟨hlt,hI4,fun j hj=>?_,⟨_,rfl,e2⟩,hLG,hS⟩ (by omega)
   rcases X2 j q with h|h
   exact hfit j h
   obtain rfl:j=q:=by omega
   rw [hfq];exact decide_eq_true (heq.1 hx)
   have hz:=Z68 (s:=s) (by omega) hlt (by rw [hfq];exact decide_eq_false (fun h=>hx (heq.2 h)))
   rw [if_neg (by rw [hz];decide)]
   focus repeat'(first|refine W1 ?_|omega|refine VG ?_ ?_<;>intro hg|refine VC ?_ ?_<;>intro hc)
   refine Za (vs:=[]) rfl tk0 rfl ?_
   refine Z1 (Z2 (us:=Z5.enc (⟨0,0,[],0⟩:Tkn)) rfl rfl rfl rfl (Z5.one _) e2 rfl) ?_
   rintro _ wz ⟨hT,e2'⟩
   refine W ?_
   refine ZP rfl rfl rfl e2' rfl rfl ?_
   exact .mk ⟨rfl,hS.own hT (fun c hc=>.inr (by simp at hc;omega))⟩
   have hq11:q=11:=by omega
   subst hq11
   have hz:=Zdz (s:=s) (by omega) hfit
   rw [if_pos hz]
   refine W ?_
   refine Z0 (Z58 rfl hI (by omega)) rfl ?_
   rintro _ wv ⟨rfl,hwv⟩
   subst wv
   refine W ?_
   refine Z3a (l:=1) (r:=11) rfl rfl rfl rfl rfl (by omega) (by omega) rfl ?_
   refine CL rfl (Zk rfl) rfl (Z8K _ _ hLG (by simp;omega)) ?_
   rintro _ w5 ⟨rfl,hT⟩
   replace e2:=e2.up hT
   replace hS:=hS.trans hT
   clear hT
   dsimp only
   by_cases h0:(Z0E ((s.take 11).drop 1)).2=0
   rw [if_pos h0]
   focus repeat'(first|refine W1 ?_|omega|refine VG ?_ ?_<;>intro hg|refine VC ?_ ?_<;>intro hc)
   refine Jy (r:=11) rfl rfl rfl (by omega) rfl ?_
   refine W ?_
   refine Za (vs:=[(0,.int .i64 3),(2,str (s.take 11)),(3,.int .i64 (Z0E ((s.take 11).drop 1)).1)]) rfl (tk3 _ _ _) rfl ?_
   refine Z1 (Z2 (us:=Z5.enc (⟨3,0,s.take 11,(Z0E ((s.take 11).drop 1)).1⟩:Tkn)) rfl rfl rfl rfl (Z5.one _) e2 rfl) ?_
   rintro _ wz ⟨hT,e2'⟩
   refine W ?_
   refine ZP rfl rfl rfl e2' rfl rfl ?_
   exact .mk ⟨rfl,hS.own hT (fun c hc=>.inr (by simp at hc;omega))⟩
   rw [if_neg h0]
   focus repeat'(first|refine W1 ?_|omega|refine VG ?_ ?_<;>intro hg|refine VC ?_ ?_<;>intro hc)
   refine Za (vs:=[]) rfl tk0 rfl ?_
   refine Z1 (Z2 (us:=Z5.enc (⟨0,0,[],0⟩:Tkn)) rfl rfl rfl rfl (Z5.one _) e2 rfl) ?_
   rintro _ wz ⟨hT,e2'⟩
   refine W ?_
   refine ZP rfl rfl rfl e2' rfl rfl ?_
   exact .mk ⟨rfl,hS.own hT (fun c hc=>.inr (by simp at hc;omega))⟩
end Go.Proofs.YtjdjdoefppebkaaGreatDoor
namespace Go.Eng
open Go Go.RowKit Go.Proofs
theorem Z1n {s:Str} {e:Int} (h:Z0a s=.err e):e≠0:=by
 unfold Z0a at h
 simp only at h
 split at h
 unfold Z3k at h
 simp only at h
 split at h<;>simp at h
 omega
 split at h
 unfold Z2t at h
 simp only at h
 split at h
 simp at h;omega
 split at h<;>simp at h
 omega
 split at h
 unfold Z6P at h
 split at h
 simp at h;omega
 split at h
 simp only at h
 split at h<;>simp at h
 omega
 simp at h;omega
 unfold Jh at h
 split at h
 simp at h
 split at h<;>simp at h
 omega
theorem ZdA {s:Str} (h:s.getD 0 0=35):1≤nlM s:=by
 cases s with
 | nil=>simp at h
 | cons a r=>
   simp only [XV] at h
   subst h
   unfold nlM
   have h0:0<(35 :: r:Str).length:=by simp
   have hl:(35 :: r:Str).length=r.length+1:=by simp
   rw [hl]
   unfold J5
   rw [if_pos h0,Z2s h0 (by show (35:UInt8).toNat<128;decide)]
   simp only
   have hn:Z5d ((35 :: r:Str)[0]).toNat=true:=by show Z5d (35:UInt8).toNat=true;decide
   rw [if_pos hn]
   exact Z66 _ _ _ _ (by simp)
end Go.Eng
namespace Go.Proofs.YtjdjdoefppebkaaGreatDoor
open Go Go.Eng Go.RowKit Go.Proofs
theorem Z2b (t:Tkn) (w:World):(Instr.buildSlice 168 1 #[(0,.agg (Z5.enc t).toArray)]).run Tryz.prog w=.ok (.slice (some ⟨w.heap.size,0,none⟩) 1 1) (w.alloc (.cells (Z5.enc t).toArray 167)):=by kernel_rfl
def TkV (w w':World) (r:Value):Tks→Prop
 | .err a c=>r=.tuple #[.slice none 0 0,.int .i64 a,.int .i64 c]
 | .ok l=>∃ tv,r=.tuple #[tv,.int .i64 0,.int .i64 0]∧JZ 167 w w' tv l
set_option maxHeartbeats 4000000 in
theorem Z8L (s:Str) (ev:Value) (w:World) (hLG:Z0b w) (hv4:w.cell? ⟨5,0,none⟩=some ev) (hev:ev=.nilIface∨∃ te pe,ev=.iface te pe) (hl:s.length≤1000000) :
 CC 117 #[str s] w fun r w'=>TkV w w' r (Z15 s)∧Stp [] w w':=by
 unfold Z15
 refine cW1 72 Tryz.func117 ?_
 refine W ?_
 refine Z5j ?_
 by_cases h4:4000<s.length
 · rw [if_pos h4]
   repeat'(first|refine W1 ?_|omega|refine VG ?_ ?_<;>intro hg|refine VC ?_ ?_<;>intro hc)
   repeat (first|refine J6 ?_|refine W1 ?_)
   refine WR ?_
   exact .mk ⟨rfl,Stp.refl _ _⟩
 rw [if_neg h4]
 generalize hR:JG nlM s (s.length+1) 0 []=R
 repeat'(first|refine W1 ?_|omega|refine VG ?_ ?_<;>intro hg|refine VC ?_ ?_<;>intro hc)
 refine ZbS ?_
 repeat'(first|refine W1 ?_|omega|refine VG ?_ ?_<;>intro hg|refine VC ?_ ?_<;>intro hc)
 refine Zh (σ:=Nat×Nat×List Tkn×Value) (fun q=>[(0,str s),(5,q.2.2.2),(6,.int .i64 (q.2.1:Int))])
  (fun q w'=>JG nlM s q.1 q.2.1 q.2.2.1=R∧s.length<q.2.1+q.1∧q.2.1≤s.length∧q.2.2.1.length≤q.2.1∧JZ 167 w w' q.2.2.2 q.2.2.1)
  (fun q=>q.1) (s.length+1,0,[],.slice none 0 0) ⟨rfl,rfl,rfl,trivial⟩ ⟨hR,by dsimp only;omega,Xo _,Xk _,JZ.nil⟩ ?_
 clear hR
 rintro ⟨f,q,l,lv⟩ w1 ⟨hR,hf,hq,hll,hrow⟩
 dsimp only at hR hf hq hll hrow ⊢
 have hrow0:=hrow
 cases f with
 | zero=>omega
 | succ f=>
 simp only [JG] at hR
 by_cases hlt:q<s.length
 rotate_left
 · rw [if_neg hlt] at hR
   subst hR
   repeat'(first|refine W1 ?_|omega|refine VG ?_ ?_<;>intro hg|refine VC ?_ ?_<;>intro hc)
   refine Za (vs:=[(0,.int .i64 0),(1,.int .i64 (q:Int))]) rfl (tk1 _ _) rfl ?_
   refine Z0 (Z3 (vs:=[(0,.agg (Z5.enc (⟨0,(q:Int),[],0⟩:Tkn)).toArray)]) rfl (Z2b _)) rfl ?_
   intro bv w3 hN
   have hbv:SlV (ob lv) w3 bv [(⟨0,(q:Int),[],0⟩:Tkn)]:=hN.slv (fun b hb=>(hrow.ob_le b hb).2) rfl rfl (by simp [maxLen])
   replace hrow:=hrow.up (ZA.stp hN)
   clear hN
   refine Z0 (Z1D rfl (by decide) rfl rfl hrow hbv (by simp only [Xe,Xi];omega) (by simp only [Xe,Xi,maxLen];omega)) rfl ?_
   rintro lv' w4 ⟨hrow',hT,hown⟩
   repeat'(first|refine W1 ?_|omega|refine VG ?_ ?_<;>intro hg|refine VC ?_ ?_<;>intro hc)
   repeat (first|refine J6 ?_|refine W1 ?_)
   refine WR ?_
   exact .mk ⟨⟨lv',rfl,hrow'⟩,hrow'.2⟩
 rw [if_pos hlt] at hR
 have hne:s.drop q≠[]:=fun h=>by have:=congrArg List.length h;simp at this;omega
 have hdl:(s.drop q).length≠0:=fun h=>hne (Xx.1 h)
 have hdl2:(s.drop q).length≤1000000:=by simp;omega
 have hLG1:=hLG.up hrow.2
 have hv41:=hrow.2.cell (by simp) hv4
 repeat'(first|refine W1 ?_|omega|refine VG ?_ ?_<;>intro hg|refine VC ?_ ?_<;>intro hc)
 refine Z7g (l:=q) rfl rfl rfl (by omega) rfl ?_
 repeat'(first|refine W1 ?_|omega|refine VG ?_ ?_<;>intro hg|refine VC ?_ ?_<;>intro hc)
 have hby:Z08 (s.drop q) 0=(((s.drop q).getD 0 0).toNat:Int):=rfl
 have hbr:=Z4U (s.drop q) 0
 refine Jo (i:=0) rfl rfl rfl (by omega) rfl ?_
 refine Z7 (Z2v (b:=Z08 (s.drop q) 0) rfl (Z4k hbr.1 (by omega))) rfl ?_
 rw [hby]
 repeat'(first|refine W1 ?_|omega|refine VG ?_ ?_<;>intro hg|refine VC ?_ ?_<;>intro hc)
 refine CL rfl (Zb rfl rfl) rfl (Z6T ((s.drop q).getD 0 0) _) ?_
 rintro _ w2 ⟨rfl,hT⟩
 replace hrow:=hrow.up hT
 replace hLG1:=hLG1.up hT
 replace hv41:=hT.cell (by simp) hv41
 have hrow0:=hrow
 clear hT
 cases hsp:Z3T ((s.drop q).getD 0 0)
 rotate_left
 · rw [if_pos hsp] at hR
   repeat'(first|refine W1 ?_|omega|refine VG ?_ ?_<;>intro hg|refine VC ?_ ?_<;>intro hc)
   repeat (first|refine J9 ?_|refine W1 ?_)
   exact Zd (f,q+1,l,lv) ⟨rfl,rfl,rfl,trivial⟩ ⟨hR,by dsimp only;omega,by dsimp only;omega,by dsimp only;omega,hrow⟩ (by dsimp only;omega)
 rw [if_neg (by rw [hsp];decide)] at hR
 have hns:(s.drop q).getD 0 0≠32:=fun h=>by rw [h] at hsp;exact absurd hsp (by decide)
 by_cases h35:(s.drop q).getD 0 0=35
 · rw [if_pos h35] at hR
   have hnp:=ZdA h35
   have hnl:nlM (s.drop q)≤(s.drop q).length:=Z65 _ _ _ _
   have hnl2:(s.drop q).length=s.length - q:=by simp
   rw [h35]
   have h35':(((35:UInt8).toNat:Nat):Int)=35:=rfl
   rw [h35']
   repeat'(first|refine W1 ?_|omega|refine VG ?_ ?_<;>intro hg|refine VC ?_ ?_<;>intro hc)
   refine CL rfl (Zb rfl rfl) rfl (Z3V Z5d Zhv (s.drop q) _ hdl2) ?_
   rintro _ w3 ⟨rfl,hT⟩
   replace hrow:=hrow.up hT
   have hnlm:J5 (s.drop q) Z5d (s.drop q).length 0=nlM (s.drop q):=rfl
   rw [hnlm]
   repeat'(first|refine W1 ?_|omega|refine VG ?_ ?_<;>intro hg|refine VC ?_ ?_<;>intro hc)
   repeat (first|refine J9 ?_|refine W1 ?_)
   exact Zd (f,q+nlM (s.drop q),l,lv) ⟨rfl,rfl,rfl,trivial⟩ ⟨hR,by dsimp only;omega,by dsimp only;omega,by dsimp only;omega,hrow⟩ (by dsimp only;omega)
 rw [if_neg h35] at hR
 have hn35:¬ ((((s.drop q).getD 0 0).toNat:Nat):Int)=35:=fun h=>h35 (by
  have h35':(35:UInt8).toNat=35:=rfl
  exact UInt8.toNat_inj.1 (by omega))
 repeat'(first|refine W1 ?_|omega|refine VG ?_ ?_<;>intro hg|refine VC ?_ ?_<;>intro hc)
 refine CL rfl (Zk rfl) rfl (Z5e ((s.drop q).getD 0 0).toNat _) ?_
 rintro _ wv ⟨rfl,hwv⟩
 subst wv
 have hlb:Z6Q ((s.drop q).getD 0 0).toNat=Za6 ((s.drop q).getD 0 0):=rfl
 rw [hlb]
 cases hlt1:Za6 ((s.drop q).getD 0 0)
 rotate_left
 · have hrd:Z0a (s.drop q)=Z3k (s.drop q):=by unfold Z0a;simp only [hlt1,if_true]
   repeat'(first|refine W1 ?_|omega|refine VG ?_ ?_<;>intro hg|refine VC ?_ ?_<;>intro hc)
   cases hr:Z0a (s.drop q) with
   | err e=>
     rw [hr] at hR
     subst hR
     have he:=Z1n hr
     refine CL rfl (Zk rfl) rfl (Z67 (s.drop q) _ hdl2) ?_
     rintro _ w4 ⟨rfl,hT⟩
     rw [← hrd,hr]
     simp only [lxV]
     repeat'(first|refine W1 ?_|omega|refine VG ?_ ?_<;>intro hg|refine VC ?_ ?_<;>intro hc)
     refine Z0 Z8 rfl ?_
     rintro _ w5 ⟨b10,rfl,hb10,e10,hT2⟩
     refine Z1 (Z2 (us:=Z5.enc (⟨0,0,[],0⟩:Tkn)) rfl rfl rfl rfl (Z5.one _) e10 rfl) ?_
     rintro _ w6 ⟨hT3,e10'⟩
     have hSS:=(hrow.2.trans hT).trans (hT2.own hT3 (fun c hc=>.inr (by simp at hc;omega)))
     repeat'(first|refine W1 ?_|omega|refine VG ?_ ?_<;>intro hg|refine VC ?_ ?_<;>intro hc)
     repeat (first|refine J6 ?_|refine W1 ?_)
     refine WR ?_
     exact .mk ⟨rfl,hSS⟩
   | ok t=>
     rw [hr] at hR
     simp only at hR
     have hrok:=Z2a hne hns hr
     have htpos:t.text.length≠0:=fun h=>hrok.1.text (Xx.1 h)
     have htle:t.text.length≤s.length - q:=by have:=hrok.2.1;simpa using this
     refine CL rfl (Zk rfl) rfl (Z67 (s.drop q) _ hdl2) ?_
     rintro _ w4 ⟨rfl,hT⟩
     rw [← hrd,hr]
     simp only [lxV]
     replace hrow:=hrow.up hT
     clear hT
     repeat'(first|refine W1 ?_|omega|refine VG ?_ ?_<;>intro hg|refine VC ?_ ?_<;>intro hc)
     refine Z0 Z8 rfl ?_
     rintro _ w5 ⟨b10,rfl,hb10,e10,hT⟩
     refine Z1 (Z2 (us:=Z5.enc t) rfl rfl rfl rfl (Z5.one _) e10 rfl) ?_
     rintro _ w6 ⟨hT2,e10'⟩
     have hTT:=hT.own hT2 (fun c hc=>.inr (by simp at hc;omega))
     have hn10:b10∉ob lv:=fun h=>by have:=(hrow.ob_le b10 h).2;omega
     clear hT hT2 e10
     repeat'(first|refine W1 ?_|omega|refine VG ?_ ?_<;>intro hg|refine VC ?_ ?_<;>intro hc)
     refine Z1 (Zg (u:=.int .i64 (q:Int)) rfl rfl rfl rfl e10' (by simp [Z5.enc])) ?_
     rintro _ w7 ⟨hT,e11⟩
     replace e11:Blk w7 b10 167 (Z5.enc ({ t with pos:=(q:Int) }:Tkn)):=e11
     replace hrow:JZ 167 w w7 lv l:=hrow.up (hTT.own hT (fun c hc=>.inr (by simp at hc;omega)))
     clear hT e10'
     repeat'(first|refine W1 ?_|omega|refine VG ?_ ?_<;>intro hg|refine VC ?_ ?_<;>intro hc)
     refine Z0 (Z3 (vs:=[(0,.agg (Z5.enc ({ t with pos:=(q:Int) }:Tkn)).toArray)]) rfl (Z2b _)) rfl ?_
     intro bv w8 hN
     have hbv:SlV (ob lv) w8 bv [({ t with pos:=(q:Int) }:Tkn)]:=hN.slv (fun b hb=>(hrow.ob_le b hb).2) rfl rfl (by simp [maxLen])
     replace hrow:=hrow.up (ZA.stp hN)
     replace e11:=e11.up (ZA.stp hN)
     clear hN
     refine Z0 (Z1D rfl (by decide) rfl rfl hrow hbv (by simp only [Xe,Xi];omega) (by simp only [Xe,Xi,maxLen];omega)) rfl ?_
     rintro lv' w9 ⟨hrow',hT,hown⟩
     replace e11:=e11.ext hT hn10
     clear hT
     have htx:({ t with pos:=(q:Int) }:Tkn).text.length=t.text.length:=rfl
     repeat'(first|refine W1 ?_|omega|refine VG ?_ ?_<;>intro hg|refine VC ?_ ?_<;>intro hc)
     repeat (first|refine J9 ?_|refine W1 ?_)
     exact Zd (f,q+t.text.length,l++[{ t with pos:=(q:Int) }],lv') ⟨rfl,rfl,rfl,trivial⟩ ⟨hR,by dsimp only;omega,by dsimp only;omega,by simp;omega,hrow'⟩ (by dsimp only;omega)
 repeat'(first|refine W1 ?_|omega|refine VG ?_ ?_<;>intro hg|refine VC ?_ ?_<;>intro hc)
 refine CL rfl (Zk rfl) rfl (Z2u ((s.drop q).getD 0 0).toNat _) ?_
 rintro _ wv ⟨rfl,hwv⟩
 subst wv
 have hdb:Z3U ((s.drop q).getD 0 0).toNat=ZG ((s.drop q).getD 0 0):=rfl
 rw [hdb]
 cases hdg:ZG ((s.drop q).getD 0 0)
 rotate_left
 · have hrd:Z0a (s.drop q)=Z2t (s.drop q):=by unfold Z0a;simp only [hlt1,hdg,if_true,XF,if_false]
   repeat'(first|refine W1 ?_|omega|refine VG ?_ ?_<;>intro hg|refine VC ?_ ?_<;>intro hc)
   cases hr:Z0a (s.drop q) with
   | err e=>
     rw [hr] at hR
     subst hR
     have he:=Z1n hr
     refine CL rfl (Zk rfl) rfl (Z4j (s.drop q) ev _ hdl2 hdg hne hv41 hev) ?_
     rintro _ w4 ⟨rfl,hT⟩
     rw [← hrd,hr]
     simp only [lxV]
     repeat'(first|refine W1 ?_|omega|refine VG ?_ ?_<;>intro hg|refine VC ?_ ?_<;>intro hc)
     refine Z0 Z8 rfl ?_
     rintro _ w5 ⟨b10,rfl,hb10,e10,hT2⟩
     refine Z1 (Z2 (us:=Z5.enc (⟨0,0,[],0⟩:Tkn)) rfl rfl rfl rfl (Z5.one _) e10 rfl) ?_
     rintro _ w6 ⟨hT3,e10'⟩
     have hSS:=(hrow.2.trans hT).trans (hT2.own hT3 (fun c hc=>.inr (by simp at hc;omega)))
     repeat'(first|refine W1 ?_|omega|refine VG ?_ ?_<;>intro hg|refine VC ?_ ?_<;>intro hc)
     repeat (first|refine J6 ?_|refine W1 ?_)
     refine WR ?_
     exact .mk ⟨rfl,hSS⟩
   | ok t=>
     rw [hr] at hR
     simp only at hR
     have hrok:=Z2a hne hns hr
     have htpos:t.text.length≠0:=fun h=>hrok.1.text (Xx.1 h)
     have htle:t.text.length≤s.length - q:=by have:=hrok.2.1;simpa using this
     refine CL rfl (Zk rfl) rfl (Z4j (s.drop q) ev _ hdl2 hdg hne hv41 hev) ?_
     rintro _ w4 ⟨rfl,hT⟩
     rw [← hrd,hr]
     simp only [lxV]
     replace hrow:=hrow.up hT
     clear hT
     repeat'(first|refine W1 ?_|omega|refine VG ?_ ?_<;>intro hg|refine VC ?_ ?_<;>intro hc)
     refine Z0 Z8 rfl ?_
     rintro _ w5 ⟨b10,rfl,hb10,e10,hT⟩
     refine Z1 (Z2 (us:=Z5.enc t) rfl rfl rfl rfl (Z5.one _) e10 rfl) ?_
     rintro _ w6 ⟨hT2,e10'⟩
     have hTT:=hT.own hT2 (fun c hc=>.inr (by simp at hc;omega))
     have hn10:b10∉ob lv:=fun h=>by have:=(hrow.ob_le b10 h).2;omega
     clear hT hT2 e10
     repeat'(first|refine W1 ?_|omega|refine VG ?_ ?_<;>intro hg|refine VC ?_ ?_<;>intro hc)
     refine Z1 (Zg (u:=.int .i64 (q:Int)) rfl rfl rfl rfl e10' (by simp [Z5.enc])) ?_
     rintro _ w7 ⟨hT,e11⟩
     replace e11:Blk w7 b10 167 (Z5.enc ({ t with pos:=(q:Int) }:Tkn)):=e11
     replace hrow:JZ 167 w w7 lv l:=hrow.up (hTT.own hT (fun c hc=>.inr (by simp at hc;omega)))
     clear hT e10'
     repeat'(first|refine W1 ?_|omega|refine VG ?_ ?_<;>intro hg|refine VC ?_ ?_<;>intro hc)
     refine Z0 (Z3 (vs:=[(0,.agg (Z5.enc ({ t with pos:=(q:Int) }:Tkn)).toArray)]) rfl (Z2b _)) rfl ?_
     intro bv w8 hN
     have hbv:SlV (ob lv) w8 bv [({ t with pos:=(q:Int) }:Tkn)]:=hN.slv (fun b hb=>(hrow.ob_le b hb).2) rfl rfl (by simp [maxLen])
     replace hrow:=hrow.up (ZA.stp hN)
     replace e11:=e11.up (ZA.stp hN)
     clear hN
     refine Z0 (Z1D rfl (by decide) rfl rfl hrow hbv (by simp only [Xe,Xi];omega) (by simp only [Xe,Xi,maxLen];omega)) rfl ?_
     rintro lv' w9 ⟨hrow',hT,hown⟩
     replace e11:=e11.ext hT hn10
     clear hT
     have htx:({ t with pos:=(q:Int) }:Tkn).text.length=t.text.length:=rfl
     repeat'(first|refine W1 ?_|omega|refine VG ?_ ?_<;>intro hg|refine VC ?_ ?_<;>intro hc)
     repeat (first|refine J9 ?_|refine W1 ?_)
     exact Zd (f,q+t.text.length,l++[{ t with pos:=(q:Int) }],lv') ⟨rfl,rfl,rfl,trivial⟩ ⟨hR,by dsimp only;omega,by dsimp only;omega,by simp;omega,hrow'⟩ (by dsimp only;omega)
 by_cases h64:(s.drop q).getD 0 0=64
 · have hrd:Z0a (s.drop q)=Z6P (s.drop q):=by
    unfold Z0a
    simp only [hlt1,hdg,XF,if_false]
    rw [if_pos h64]
   rw [h64]
   have h64':(((64:UInt8).toNat:Nat):Int)=64:=rfl
   rw [h64']
   repeat'(first|refine W1 ?_|omega|refine VG ?_ ?_<;>intro hg|refine VC ?_ ?_<;>intro hc)
   cases hr:Z0a (s.drop q) with
   | err e=>
     rw [hr] at hR
     subst hR
     have he:=Z1n hr
     refine CL rfl (Zk rfl) rfl (Z9u (s.drop q) _ hLG1 hdl2) ?_
     rintro _ w4 ⟨rfl,hT⟩
     rw [← hrd,hr]
     simp only [lxV]
     repeat'(first|refine W1 ?_|omega|refine VG ?_ ?_<;>intro hg|refine VC ?_ ?_<;>intro hc)
     refine Z0 Z8 rfl ?_
     rintro _ w5 ⟨b10,rfl,hb10,e10,hT2⟩
     refine Z1 (Z2 (us:=Z5.enc (⟨0,0,[],0⟩:Tkn)) rfl rfl rfl rfl (Z5.one _) e10 rfl) ?_
     rintro _ w6 ⟨hT3,e10'⟩
     have hSS:=(hrow.2.trans hT).trans (hT2.own hT3 (fun c hc=>.inr (by simp at hc;omega)))
     repeat'(first|refine W1 ?_|omega|refine VG ?_ ?_<;>intro hg|refine VC ?_ ?_<;>intro hc)
     repeat (first|refine J6 ?_|refine W1 ?_)
     refine WR ?_
     exact .mk ⟨rfl,hSS⟩
   | ok t=>
     rw [hr] at hR
     simp only at hR
     have hrok:=Z2a hne hns hr
     have htpos:t.text.length≠0:=fun h=>hrok.1.text (Xx.1 h)
     have htle:t.text.length≤s.length - q:=by have:=hrok.2.1;simpa using this
     refine CL rfl (Zk rfl) rfl (Z9u (s.drop q) _ hLG1 hdl2) ?_
     rintro _ w4 ⟨rfl,hT⟩
     rw [← hrd,hr]
     simp only [lxV]
     replace hrow:=hrow.up hT
     clear hT
     repeat'(first|refine W1 ?_|omega|refine VG ?_ ?_<;>intro hg|refine VC ?_ ?_<;>intro hc)
     refine Z0 Z8 rfl ?_
     rintro _ w5 ⟨b10,rfl,hb10,e10,hT⟩
     refine Z1 (Z2 (us:=Z5.enc t) rfl rfl rfl rfl (Z5.one _) e10 rfl) ?_
     rintro _ w6 ⟨hT2,e10'⟩
     have hTT:=hT.own hT2 (fun c hc=>.inr (by simp at hc;omega))
     have hn10:b10∉ob lv:=fun h=>by have:=(hrow.ob_le b10 h).2;omega
     clear hT hT2 e10
     repeat'(first|refine W1 ?_|omega|refine VG ?_ ?_<;>intro hg|refine VC ?_ ?_<;>intro hc)
     refine Z1 (Zg (u:=.int .i64 (q:Int)) rfl rfl rfl rfl e10' (by simp [Z5.enc])) ?_
     rintro _ w7 ⟨hT,e11⟩
     replace e11:Blk w7 b10 167 (Z5.enc ({ t with pos:=(q:Int) }:Tkn)):=e11
     replace hrow:JZ 167 w w7 lv l:=hrow.up (hTT.own hT (fun c hc=>.inr (by simp at hc;omega)))
     clear hT e10'
     repeat'(first|refine W1 ?_|omega|refine VG ?_ ?_<;>intro hg|refine VC ?_ ?_<;>intro hc)
     refine Z0 (Z3 (vs:=[(0,.agg (Z5.enc ({ t with pos:=(q:Int) }:Tkn)).toArray)]) rfl (Z2b _)) rfl ?_
     intro bv w8 hN
     have hbv:SlV (ob lv) w8 bv [({ t with pos:=(q:Int) }:Tkn)]:=hN.slv (fun b hb=>(hrow.ob_le b hb).2) rfl rfl (by simp [maxLen])
     replace hrow:=hrow.up (ZA.stp hN)
     replace e11:=e11.up (ZA.stp hN)
     clear hN
     refine Z0 (Z1D rfl (by decide) rfl rfl hrow hbv (by simp only [Xe,Xi];omega) (by simp only [Xe,Xi,maxLen];omega)) rfl ?_
     rintro lv' w9 ⟨hrow',hT,hown⟩
     replace e11:=e11.ext hT hn10
     clear hT
     have htx:({ t with pos:=(q:Int) }:Tkn).text.length=t.text.length:=rfl
     repeat'(first|refine W1 ?_|omega|refine VG ?_ ?_<;>intro hg|refine VC ?_ ?_<;>intro hc)
     repeat (first|refine J9 ?_|refine W1 ?_)
     exact Zd (f,q+t.text.length,l++[{ t with pos:=(q:Int) }],lv') ⟨rfl,rfl,rfl,trivial⟩ ⟨hR,by dsimp only;omega,by dsimp only;omega,by simp;omega,hrow'⟩ (by dsimp only;omega)
 have hrd:Z0a (s.drop q)=Jh (s.drop q):=by
  unfold Z0a
  simp only [hlt1,hdg,XF,if_false]
  rw [if_neg h64]
 have hn64:¬ ((((s.drop q).getD 0 0).toNat:Nat):Int)=64:=fun h=>h64 (by
  have h64':(64:UInt8).toNat=64:=rfl
  exact UInt8.toNat_inj.1 (by omega))
 repeat'(first|refine W1 ?_|omega|refine VG ?_ ?_<;>intro hg|refine VC ?_ ?_<;>intro hc)
 cases hr:Z0a (s.drop q) with
 | err e=>
   rw [hr] at hR
   subst hR
   have he:=Z1n hr
   refine CL rfl (Zk rfl) rfl (Z5m (s.drop q) _ hne) ?_
   rintro _ w4 ⟨rfl,hT⟩
   rw [← hrd,hr]
   simp only [lxV]
   repeat'(first|refine W1 ?_|omega|refine VG ?_ ?_<;>intro hg|refine VC ?_ ?_<;>intro hc)
   refine Z0 Z8 rfl ?_
   rintro _ w5 ⟨b10,rfl,hb10,e10,hT2⟩
   refine Z1 (Z2 (us:=Z5.enc (⟨0,0,[],0⟩:Tkn)) rfl rfl rfl rfl (Z5.one _) e10 rfl) ?_
   rintro _ w6 ⟨hT3,e10'⟩
   have hSS:=(hrow.2.trans hT).trans (hT2.own hT3 (fun c hc=>.inr (by simp at hc;omega)))
   repeat'(first|refine W1 ?_|omega|refine VG ?_ ?_<;>intro hg|refine VC ?_ ?_<;>intro hc)
   repeat (first|refine J6 ?_|refine W1 ?_)
   refine WR ?_
   exact .mk ⟨rfl,hSS⟩
 | ok t=>
   rw [hr] at hR
   simp only at hR
   have hrok:=Z2a hne hns hr
   have htpos:t.text.length≠0:=fun h=>hrok.1.text (Xx.1 h)
   have htle:t.text.length≤s.length - q:=by have:=hrok.2.1;simpa using this
   refine CL rfl (Zk rfl) rfl (Z5m (s.drop q) _ hne) ?_
   rintro _ w4 ⟨rfl,hT⟩
   rw [← hrd,hr]
   simp only [lxV]
   replace hrow:=hrow.up hT
   clear hT
   repeat'(first|refine W1 ?_|omega|refine VG ?_ ?_<;>intro hg|refine VC ?_ ?_<;>intro hc)
   refine Z0 Z8 rfl ?_
   rintro _ w5 ⟨b10,rfl,hb10,e10,hT⟩
   refine Z1 (Z2 (us:=Z5.enc t) rfl rfl rfl rfl (Z5.one _) e10 rfl) ?_
   rintro _ w6 ⟨hT2,e10'⟩
   have hTT:=hT.own hT2 (fun c hc=>.inr (by simp at hc;omega))
   have hn10:b10∉ob lv:=fun h=>by have:=(hrow.ob_le b10 h).2;omega
   clear hT hT2 e10
   repeat'(first|refine W1 ?_|omega|refine VG ?_ ?_<;>intro hg|refine VC ?_ ?_<;>intro hc)
   refine Z1 (Zg (u:=.int .i64 (q:Int)) rfl rfl rfl rfl e10' (by simp [Z5.enc])) ?_
   rintro _ w7 ⟨hT,e11⟩
   replace e11:Blk w7 b10 167 (Z5.enc ({ t with pos:=(q:Int) }:Tkn)):=e11
   replace hrow:JZ 167 w w7 lv l:=hrow.up (hTT.own hT (fun c hc=>.inr (by simp at hc;omega)))
   clear hT e10'
   repeat'(first|refine W1 ?_|omega|refine VG ?_ ?_<;>intro hg|refine VC ?_ ?_<;>intro hc)
   refine Z0 (Z3 (vs:=[(0,.agg (Z5.enc ({ t with pos:=(q:Int) }:Tkn)).toArray)]) rfl (Z2b _)) rfl ?_
   intro bv w8 hN
   have hbv:SlV (ob lv) w8 bv [({ t with pos:=(q:Int) }:Tkn)]:=hN.slv (fun b hb=>(hrow.ob_le b hb).2) rfl rfl (by simp [maxLen])
   replace hrow:=hrow.up (ZA.stp hN)
   replace e11:=e11.up (ZA.stp hN)
   clear hN
   refine Z0 (Z1D rfl (by decide) rfl rfl hrow hbv (by simp only [Xe,Xi];omega) (by simp only [Xe,Xi,maxLen];omega)) rfl ?_
   rintro lv' w9 ⟨hrow',hT,hown⟩
   replace e11:=e11.ext hT hn10
   clear hT
   have htx:({ t with pos:=(q:Int) }:Tkn).text.length=t.text.length:=rfl
   repeat'(first|refine W1 ?_|omega|refine VG ?_ ?_<;>intro hg|refine VC ?_ ?_<;>intro hc)
   repeat (first|refine J9 ?_|refine W1 ?_)
   exact Zd (f,q+t.text.length,l++[{ t with pos:=(q:Int) }],lv') ⟨rfl,rfl,rfl,trivial⟩ ⟨hR,by dsimp only;omega,by dsimp only;omega,by simp;omega,hrow'⟩ (by dsimp only;omega)
end Go.Proofs.YtjdjdoefppebkaaGreatDoor
