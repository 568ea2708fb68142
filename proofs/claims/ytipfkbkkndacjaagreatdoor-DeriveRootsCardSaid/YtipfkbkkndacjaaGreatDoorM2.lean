/-
Contracts and plain laws, merged out of own texts.
-/
import Derived.Test.YtipfkbkkndacjaaGreatDoorM1
set_option linter.unusedVariables false
set_option linter.unusedSimpArgs false
set_option maxHeartbeats 4000000
set_option maxRecDepth 20000
namespace Go.Proofs.YtipfkbkkndacjaaGreatDoor
open Go Go.Eng Go.RowKit
def Z1R (s:Str) (a b:Int):Int:=
 if s∈Z0a then (if a=b∧a=1 then 1 else 0) else if s∈Z28 then (if a=b∧¬ a=2 then 2 else 0) else if s∈Z03 then (if a=b∧a=2 then 2 else 0) else 0
theorem Zdn (s:Str) (a b c:Int) (w):CC 284 #[str s,Zbs a b c] w fun r w'=>r=.I (Z1R s a b)∧Stp [] w w':=by
 refine cW2 46 Tryz.func284 ?_;refine W ?_;refine Z1 (Zq rfl) rfl ?_;rintro _ w1 ⟨q,rfl,hq,hblk,hS⟩;replace hblk:Blk w1 q _ [.I a,.I b,.I c]:=hblk;refine W ?_;by_cases hA:s∈Z0a
 · unfold Z1R
   rw [if_pos hA];simp only [Z0a,Xb,Xj,or_false] at hA;rcases hA with rfl|rfl|rfl
   all_goals (repeat'(first|refine W1 ?_|omega|refine VG ?_ ?_<;>intro hg|refine VC ?_ ?_<;>intro hc))
   all_goals (refine WR ?_)
   all_goals refine .mk ⟨?_,hS⟩
   all_goals first
    | rw [if_pos ⟨by assumption,by assumption⟩]
    | rw [if_neg (fun h=>by omega)]
 by_cases hC:s∈Z28
 · unfold Z1R
   rw [if_neg hA,if_pos hC];simp only [Z28,Xb,Xj,or_false] at hC;rcases hC with rfl|rfl|rfl|rfl|rfl|rfl
   all_goals (repeat'(first|refine W1 ?_|omega|refine VG ?_ ?_<;>intro hg|refine VC ?_ ?_<;>intro hc))
   all_goals (refine WR ?_)
   all_goals refine .mk ⟨?_,hS⟩
   all_goals first
    | rw [show (if a=b∧¬ a=2 then (2:Int) else 0)=2 from if_pos (by omega)]
    | rw [show (if a=b∧¬ a=2 then (2:Int) else 0)=0 from if_neg (by omega)]
 by_cases hL:s∈Z03
 · unfold Z1R
   rw [if_neg hA,if_neg hC,if_pos hL];simp only [Z03,Xb,Xj,or_false] at hL;rcases hL with rfl|rfl
   all_goals (repeat'(first|refine W1 ?_|omega|refine VG ?_ ?_<;>intro hg|refine VC ?_ ?_<;>intro hc))
   all_goals (refine WR ?_)
   all_goals refine .mk ⟨?_,hS⟩
   all_goals first
    | rw [if_pos ⟨by assumption,by assumption⟩]
    | rw [if_neg (fun h=>by omega)]
 unfold Z1R;rw [if_neg hA,if_neg hC,if_neg hL];simp only [Z0a,Z28,Z03,Xb,Xj,or_false,not_or] at hA hC hL;obtain ⟨a1,a2,a3⟩:=hA;obtain ⟨b1,b2,b3,b4,b5,b6⟩:=hC;obtain ⟨c1,c2⟩:=hL;repeat'(first|refine W1 ?_|refine Z9O rfl (fun hc=>absurd hc (by assumption)) (fun hc=>?_))
 refine RU ?_;exact ⟨rfl,hS⟩
theorem _root_.Go.Eng.SlV.any {α:Type} [Z7 α] {X:List Nat} {w} {v:Value} {xs:List α} (h:SlV X w v xs):SlV [] w v xs:=h.ext (Stp.refl [] w) (by simp) (by simp)
theorem _root_.Go.Eng.SlV.new {α:Type} [Z7 α] {X:List Nat} {w w':World} {v:Value} {xs:List α} (h:SlV X w v xs) (hS:Stp [] w w') (b:Nat) (hb:w.heap.size≤b):SlV [b] w' v xs:=
 h.ext hS (by simp) (fun c hc=>.inr (by simp at hc;omega))
theorem _root_.Go.Eng.SlV.on {α:Type} [Z7 α] {X S:List Nat} {w w':World} {v:Value} {xs:List α} (h:SlV X w v xs) (hS:Stp S w w') (hs:∀ b∈S,b∈X):SlV X w' v xs:=h.ext hS hs (fun _ h=>.inl h)
def Z3x (x:Sig):Int:=match ZfA x with|.int _ z=>z|_=>0
theorem Zbu (x:Sig):ZfA x=.I (Z3x x):=by
 have:∀ p∈Z3w,∃ z,p.2=Value.int .i64 z:=by
  intro p hp;simp only [Z3w,Zaf,J4,Xy,XQ,YaS,Ybz,Z1Q,XR,XL,XG,Xb,Xj,or_false,ent] at hp;rcases hp with rfl|rfl|rfl|rfl|rfl|rfl|rfl|rfl|rfl|rfl|rfl|rfl|rfl|rfl|rfl<;>exact ⟨_,rfl⟩
 unfold Z3x ZfA Z3t;cases h:Z3w.find? (fun p=>decide (p.1=x)) with
 | none=>rfl
 | some p=>
   obtain ⟨z,hz⟩:=this p (X3 h);simp only [hz]
def JF (k n:Int) (s:Str) (ts:List Int):Int:=
 if ts.length > 3 then 0 else if (0:Int)∈ts then 0 else if ts=[] then Z0Y k n s else if ¬ n=0 then 0
 else if k=9∧s=[]∧ts.getD 0 0=2∧ts.getD 1 0=ts.getD 2 0 then ts.getD 1 0
 else if k=6∧ts.getD 2 0=0 then Z1R s (ts.getD 0 0) (ts.getD 1 0) else Z3x ⟨k,s,ts.getD 0 0,ts.getD 1 0,ts.getD 2 0⟩
def Ze:Nd→Int
 | .mk k n s l=>JF k n s (l.map Ze)
theorem Z0I (x:Nd):Ze x=JF x.kind x.num x.word (x.kids.map Ze):=by
 cases x;rw [Ze];rfl
def Zdo (ts:List Int) (k:Nat):List Value:=[.I (if 0<k then ts.getD 0 0 else 0),.I (if 1<k then ts.getD 1 0 else 0),.I (if 2<k then ts.getD 2 0 else 0)]
theorem ZiU (ts:List Int) (k:Nat) (hk:k<3):(Zdo ts k).set (0+k * 1) (.I (ts.getD k 0))=Zdo ts (k+1):=by
 match k,hk with
 | 0,_=>rfl
 | 1,_=>rfl
 | 2,_=>rfl
theorem ZiV (ts:List Int) (k:Nat) (hk:k<3):(Zdo ts (k+1))[0+k * 1]?=some (.I (ts.getD k 0)):=by
 match k,hk with
 | 0,_=>rfl
 | 1,_=>rfl
 | 2,_=>rfl
theorem ZiW (ts:List Int) (h:ts.length≤3):Zdo ts ts.length=[.I (ts.getD 0 0),.I (ts.getD 1 0),.I (ts.getD 2 0)]:=by
 match ts,h with
 | [],_=>rfl
 | [a],_=>rfl
 | [a,b],_=>rfl
 | [a,b,c],_=>rfl
theorem Zto (x:Nd):∀ (X XF:List Nat) (v:Value) (w),NdV X w v x→SlV XF w Z2q Zf→
 CC 230 #[v] w fun r w'=>r=.I (Ze x)∧Stp [] w w':=by
 induction x using Nd.ind with
 | h k n s l ih=>
 intro X XF v w hx hF;generalize hxe:Nd.mk k n s l=x at *;have ih':∀ y∈x.kids,∀ (X XF:List Nat) (v:Value) (w:World),NdV X w v y→SlV XF w Z2q Zf→CC 230 #[v] w fun r w'=>r=.I (Ze y)∧Stp [] w w':=by
  subst hxe;exact ih
 clear ih hxe k n s l;have hx0:=hx;obtain ⟨kv,rfl,hs⟩:=hx;have hmax:=hs.max;rw [Z0I];have hlen:(x.kids.map Ze).length=x.kids.length:=by simp
 have hget:∀ k (h:k<x.kids.length),(x.kids.map Ze).getD k 0=Ze x.kids[k]:=fun k h=>by simp [List.getD,h]
 generalize hts:x.kids.map Ze=ts at *;refine cW1 80 Tryz.func230 ?_;refine W ?_;refine Z1 (Zq rfl) rfl ?_;rintro _ w1 ⟨b,rfl,hb,hblk,hS⟩;replace hblk:Blk w1 b _ (ndC x kv):=hblk;replace hs:=hs.up hS;replace hF:=hF.up hS;have hlt:=hblk.lt;refine W ?_;refine Z1 Z2 rfl ?_;rintro _ w2 ⟨q,rfl,hq,harr,hS2⟩;replace harr:Blk w2 q _ (Zdo ts 0):=harr;replace hblk:=hblk.up hS2;replace hs:=hs.new hS2 q hq;replace hF:=hF.new hS2 q hq;replace hS:=hS.trans hS2;have hwq:w.heap.size≤q:=Xg (Xg hb (Nat.le_of_lt hlt)) hq;have hbq:¬ b=q:=by omega
 (refine QP ?_ ?_<;>intro hc)
 refine WR ?_;refine .mk ⟨?_,hS⟩;unfold JF;rw [if_pos (by omega)];have hl3:x.kids.length≤3:=by omega
 refine Z0l (σ:=Unit) (fun _=>[(1,pQ b),(3,pQ q)]) (fun _ w'=>Stp [q] w2 w'∧Blk w' q 350 [.I (ts.getD 0 0),.I (ts.getD 1 0),.I (ts.getD 2 0)]∧¬ (0:Int)∈ts) ?_ ?_;have hs0:=hs;have hF0:=hF;refine LP (σ:=Nat) (fun k=>[(1,pQ b),(3,pQ q),(11,kv),(12,.I (x.kids.length:Int)),(13,.I k)]) (fun k w'=>k≤x.kids.length∧Stp [q] w2 w'∧Blk w' q 350 (Zdo ts k)∧¬ (0:Int)∈ts.take k) (fun k=>x.kids.length - k) 0 ⟨Xq _,Stp.refl _ _,harr,by simp⟩ ?_;clear hs hF harr;rintro k w3 ⟨hk,hS3,harr,hno⟩;have hs:=hs0.on hS3 (by simp);have hF:=hF0.on hS3 (by simp);by_cases hlt:k<x.kids.length;have hk3:k<3:=by omega
 have hg:=hget k hlt;have hset:=ZiU ts k hk3;have hgt:=ZiV ts k hk3;rw [hg] at hset hgt;obtain ⟨kv2,hs2,hc2⟩:=hs.nd hlt;refine QO ?_;apply Z4 (JG rfl rfl hs hlt hc2) rfl;refine Z1 Z2 rfl ?_;rintro _ w4 ⟨b4,rfl,hb4,hblk4,hS4⟩;have harl:=harr.lt;replace harr:=harr.up hS4;refine W ?_;refine SB (us:=ndC x.kids[k] kv2) (Zi hs2) hblk4 ?_;rintro _ w5 ⟨hS5,hblk5⟩;have h4q:¬ b4=q:=by omega
 replace harr:=harr.ext hS5 (by simp;omega);have hS45:=hS4.ow hS5;replace hs2:=hs2.up hS45;replace hF:=hF.up hS45;refine W ?_;refine CL (ih' x.kids[k] (Xd hlt) _ _ _ _ ⟨kv2,rfl,hs2⟩ hF) ?_;rintro _ w6 ⟨rfl,hS6⟩;replace harr:=harr.up hS6;refine W ?_;refine Z5 (Za (u:=.I (Ze x.kids[k])) rfl rfl rfl rfl harr (by simp [Zdo];omega)) ?_;rintro _ w7 ⟨hS7,harr⟩;rw [hset] at harr;have hS37:=((hS3.trans hS45.mn).trans hS6.mn).trans hS7;have hnx:ts.take (k+1)=ts.take k++[Ze x.kids[k]]:=by
  rw [Xi (by omega)];congr 2;subst hts;simp
 refine QO ?_;apply ZiD rfl rfl (harr.cell hgt) rfl
 (refine QP ?_ ?_<;>intro hc)
 refine WR ?_;have h0':Ze x.kids[k]=0:=hc;refine .mk ⟨?_,hS.ow hS37⟩;unfold JF;rw [if_neg (by omega),if_pos];have:Ze x.kids[k]∈ts:=by
  subst hts;exact Yai (Xd hlt)
 rwa [h0'] at this
 refine QL (k+1) ⟨hlt,hS37,harr,?_⟩ (by omega);rw [hnx,Xh];rintro (h|h);exact hno h;simp only [Xl] at h;exact hc h.symm;have hke:k=x.kids.length:=by omega
 subst hke;refine QO ?_;rw [← hlen,ZiW ts (by omega)] at harr;rw [← hlen,Xo] at hno;exact QT () ⟨hS3,harr,hno⟩;rintro _ w3 ⟨hS3,harr,hno⟩;replace hblk:=hblk.ext hS3 (by simpa using hbq);replace hF:=hF.on hS3 (by simp);replace hs:=hs.on hS3 (by simp);replace hS:=hS.ow hS3;unfold JF;rw [if_neg (by omega),if_neg hno];by_cases h0:x.kids.length=0;rw [if_pos (Xv.1 (by omega))];refine QO ?_;refine CL (ZiR [q] _ x _ ⟨kv,rfl,hs⟩ hF.any) ?_;rintro _ w4 ⟨rfl,hS4⟩;refine RT ?_;exact ⟨rfl,hS.trans hS4⟩;rw [if_neg (fun h=>h0 (by rw [← hlen,h];rfl))];clear hget hts;generalize ts.getD 0 0=a at *;generalize ts.getD 1 0=bb at *;generalize ts.getD 2 0=c at *;repeat'(first|refine W1 ?_|omega|refine VG ?_ ?_<;>intro hg|refine VC ?_ ?_<;>intro hc)
 refine RU ?_;exact ⟨by rw [if_pos (by assumption)],hS⟩;all_goals rw [if_neg (by assumption)]
 all_goals first
  | (have h9 : x.kind = 9 ∧ x.word = [] ∧ a = 2 ∧ bb = c := ⟨by assumption, by assumption, by assumption, by assumption⟩
     rw [if_pos h9];refine RU ?_;exact ⟨rfl,hS⟩)
  | rw [show (if x.kind = 9 ∧ x.word = [] ∧ a = 2 ∧ bb = c then bb else if x.kind = 6 ∧ c = 0 then Z1R x.word a bb else Z3x ⟨x.kind, x.word, a, bb, c⟩) = if x.kind = 6 ∧ c = 0 then Z1R x.word a bb else Z3x ⟨x.kind, x.word, a, bb, c⟩ from if_neg (fun h => by
     obtain ⟨h1,h2,h3,h4⟩:=h;first|omega|contradiction)]
 all_goals first
  | (have h6 : x.kind = 6 ∧ c = 0 := ⟨by assumption, by assumption⟩
     rw [if_pos h6];refine CL (Zdn x.word a bb c _) ?_;rintro _ w4 ⟨rfl,hS4⟩;refine RT ?_;exact ⟨rfl,hS.trans hS4⟩)
  | rw [show (if x.kind=6∧c=0 then Z1R x.word a bb else Z3x ⟨x.kind,x.word,a,bb,c⟩)=Z3x ⟨x.kind,x.word,a,bb,c⟩ from if_neg (fun h=>by omega)]
 all_goals
  refine ZDr 9 [] [] [(1,0),(2,1),(3,0),(4,1),(5,1),(6,0),(0,2),(7,2),(8,0)] (fun w1 hS1=>?_);replace hblk:=hblk.up hS1;replace harr:=harr.up hS1;replace hS:=hS.trans hS1;refine D ?_;apply Z2c;exact rfl;apply Z2x (vs:=[(0,.I _),(1,str _),(2,Zbs _ _ _)]);exact trivial;exact rfl;exact Z77 _ _ _ _ _;exact rfl;refine DC (Z7s _) (fun _ _ h=>h.choose_spec.choose_spec.2.2.2) ?_;rintro _ w5 ⟨m,ll,rfl,hm,hp,hS5⟩;have hmg:=Zbu ⟨x.kind,x.word,a,bb,c⟩;unfold ZfA at hmg;rw [← Zfz hp Zdm] at hmg;refine Zc rfl trivial (Zoj (Z1K (a:=(⟨x.kind,x.word,a,bb,c⟩:Sig)) rfl rfl hm)) (fun _ _ h=>h.2 ▸ Stp.refl _ _) rfl ?_;rintro _ _ ⟨rfl,rfl⟩;rw [hmg];refine D ?_;refine RT ?_;exact ⟨rfl,hS.trans hS5⟩
theorem ZwB:∀ p∈Z3w,∃ z,p.2=Value.int .i64 z:=by
 intro p hp;simp only [Z3w,Zaf,J4,Xy,XQ,YaS,Ybz,Z1Q,XR,XL,XG,Xb,Xj,or_false,ent] at hp;rcases hp with rfl|rfl|rfl|rfl|rfl|rfl|rfl|rfl|rfl|rfl|rfl|rfl|rfl|rfl|rfl<;>exact ⟨_,rfl⟩
theorem ZfB {x:Sig} (h:¬ ∃ p∈Z3w,p.1=x):Z3x x=0:=by
 unfold Z3x ZfA Z3t;have:Z3w.find? (fun p=>decide (p.1=x))=none:=by
  rw [Yao];intro p hp;simpa using fun e=>h ⟨p,hp,e⟩
 rw [this]
def Z15:List Str:=[[110,101,120,116],[112,114,101,118]]
def Z16:List Str:=[[108,97,116,101,114],[101,97,114,108,105,101,114]]
theorem Zdp:Z1C [110,101,120,116,32,112,114,101,118]=Z15:=by decide
theorem Zdq:Z1C [108,97,116,101,114,32,101,97,114,108,105,101,114]=Z16:=by decide
theorem Zbv:Z1C [100,97,121,115,32,119,101,101,107,115,32,109,111,110,116,104,115,32,99,111,117,114,116,100,97,121,115]=J4:=by decide
theorem Z2S {s:Str} {l:List Str}:0≤idx (isS s) l↔s∈l:=by
 unfold idx;cases h:l.findIdx? (isS s) with
 | none=>
   rw [Yaa] at h;constructor;intro h0;simp at h0;intro hm;have:=h s hm;simp at this
 | some i=>
   obtain ⟨hi,hp,_⟩:=X5.1 h;constructor;intro _;have:l[i]=s:=by simpa using hp
   rw [← this];exact Xd _;intro _;simp
def Z6C (s:Str) (l:List Int):Int:=
 if 0≤idx (isS s) Z15∧Z0i l [3]=true then 3 else if 0≤idx (isS s) Z16∧Z0i l [3,3]=true then 3 else if s=[98,101,116,119,101,101,110]∧Z0i l [3,3]=true then 1 else 0
def Z4A (k n:Int) (s:Str) (ts:List Int):Int:=
 if ts=[] then Z0Y k n s else if ¬ n=0 then 0
 else if k=5 then (if s=[45]∧Z0i ts [1]=true∨s=[110,111,116]∧Z0i ts [2]=true then ts.getD 0 0 else 0)
 else if k=6 then Zac s ts
 else if k=7∨k=8 then (if 0≤idx (isS s) J4∧Z0i ts [3,1]=true then 3 else 0)
 else if k=9 then (if s=[]∧ts.length=3∧Z0i ts [2,ts.getD 1 0,ts.getD 1 0]=true then ts.getD 1 0 else 0)
 else if k=10 then Z6C s ts else 0
theorem Zbw {l m:List Int}:Z0i l m=true↔l=m∧∀ x∈l,x≠0:=by simp [Z0i]
theorem ZeA {l m:List Int} (h:¬ (l=m∧∀ x∈l,x≠0)):Z0i l m=false:=by simp [Z0i];simpa using h
theorem ZfC (k n:Int) (s:Str) (ts:List Int) (h0:¬ ts=[]) (hb:(0:Int)∈ts∨ts.length > 3):Z4A k n s ts=0:=by
 have hno:∀ m:List Int,m.length≤3→Z0i ts m=false:=fun m hm=>ZeA (fun ⟨h1,h2⟩=>by
  rcases hb with hb|hb
  exact h2 0 hb rfl;rw [h1] at hb;omega)
 unfold Z4A Zac Z6C;simp only [hno _ (show [(1:Int)].length≤3 by decide),hno _ (show [(2:Int)].length≤3 by decide),hno _ (show [(3:Int)].length≤3 by decide),hno [1,1] (by decide),hno [3,3] (by decide),hno [2,2] (by decide),hno [3,1] (by decide),hno [2,ts.getD 1 0,ts.getD 1 0] (by simp),if_neg h0];simp
theorem ZmI (s:Str) (a b:Int) (ha:a≠0) (hb:b≠0) (hr:1≤a∧a≤3) (hr2:1≤b∧b≤3):Zac s [a,b]=Z1R s a b:=by
 unfold Zac Z1R;simp only [Z2S,Zbw];have e:∀ c d:Int,([a,b]=[c,d]∧∀ x∈[a,b],x≠0)↔(a=c∧b=d):=fun c d=>by simp [ha,hb]
 simp only [e];by_cases hA:s∈Z0a;have hC:¬ s∈Z28:=by
  simp only [Z0a,Xb,Xj,or_false] at hA;rcases hA with rfl|rfl|rfl<;>decide
 have hL:¬ s∈Z03:=by
  simp only [Z0a,Xb,Xj,or_false] at hA;rcases hA with rfl|rfl|rfl<;>decide
 simp only [hA,hC,hL,true_and,false_and,if_false,if_true];by_cases h1:a=1∧b=1;rw [if_pos h1,if_pos ⟨by omega,by omega⟩];rw [if_neg h1,if_neg (fun h=>by omega)];simp only [hA,false_and,if_false];by_cases hC:s∈Z28;have hL:¬ s∈Z03:=by
  simp only [Z28,Xb,Xj,or_false] at hC;rcases hC with rfl|rfl|rfl|rfl|rfl|rfl<;>decide
 simp only [hC,hL,true_and,false_and,if_false,if_true];by_cases h1:a=1∧b=1∨a=3∧b=3;rw [if_pos h1,if_pos ⟨by omega,by omega⟩];rw [if_neg h1,if_neg (fun h=>by omega)];simp only [hC,false_and,if_false];by_cases hL:s∈Z03;simp only [hL,true_and,if_true];by_cases h1:a=2∧b=2;rw [if_pos h1,if_pos ⟨by omega,by omega⟩];rw [if_neg h1,if_neg (fun h=>by omega)];simp only [hL,false_and,if_false]
def ZiX:List Sig:=Z3w.map (·.1)
def Zdr (k:Int) (s:Str) (a b c:Int):Int:=
 if c=0 then
  if b=0 then (if k=5∧s=[45]∧a=1 then 1 else if k=5∧s=[110,111,116]∧a=2 then 2 else if k=10∧s∈Z15∧a=3 then 3 else 0)
  else if a=3∧b=3∧k=10∧s∈Z16 then 3 else if a=3∧b=3∧k=10∧s=[98,101,116,119,101,101,110] then 1 else if a=3∧b=1∧(k=7∨k=8)∧s∈J4 then 3 else 0
 else 0
theorem ZiY:∀ x∈ZiX,Z3x x=Zdr x.kind x.s x.a x.b x.c:=by
 intro x hx;simp only [ZiX,Z3w,Zaf,J4,Xy,XQ,YaS,Ybz,Z1Q,XR,XL,XG,Xb,Xj,or_false,ent] at hx;rcases hx with rfl|rfl|rfl|rfl|rfl|rfl|rfl|rfl|rfl|rfl|rfl|rfl|rfl|rfl|rfl<;>decide
theorem Z78 (k:Int) (s:Str) (a b c:Int):Z3x ⟨k,s,a,b,c⟩=Zdr k s a b c:=by
 by_cases hx:(⟨k,s,a,b,c⟩:Sig)∈ZiX;exact ZiY _ hx;rw [ZfB (fun ⟨p,hp,e⟩=>hx (e ▸ Yai hp))];unfold Zdr;symm;split;rename_i hc;subst hc;split;rename_i hb;subst hb;split;rename_i h;obtain ⟨rfl,rfl,rfl⟩:=h;exact absurd (by decide) hx;split;rename_i h;obtain ⟨rfl,rfl,rfl⟩:=h;exact absurd (by decide) hx;split;rename_i h;obtain ⟨rfl,h,rfl⟩:=h;simp only [Z15,Xb,Xj,or_false] at h;rcases h with rfl|rfl<;>exact absurd (by decide) hx
 rfl;split;rename_i h;obtain ⟨rfl,rfl,rfl,h⟩:=h;simp only [Z16,Xb,Xj,or_false] at h;rcases h with rfl|rfl<;>exact absurd (by decide) hx
 split;rename_i h;obtain ⟨rfl,rfl,rfl,rfl⟩:=h;exact absurd (by decide) hx;split;rename_i h;obtain ⟨rfl,rfl,h1,h⟩:=h;simp only [J4,Xb,Xj,or_false] at h;rcases h1 with rfl|rfl<;>rcases h with rfl|rfl|rfl|rfl<;>exact absurd (by decide) hx
 rfl;rfl
theorem ZwC {a x:Int} (ha:a≠0):Z0i [a] [x]=decide (a=x):=by simp [Z0i,ha]
theorem ZwD {a b x y:Int} (ha:a≠0) (hb:b≠0):Z0i [a,b] [x,y]=decide (a=x∧b=y):=by simp [Z0i,ha,hb]
theorem ZwE {a b c x y z:Int} (ha:a≠0) (hb:b≠0) (hc:c≠0):Z0i [a,b,c] [x,y,z]=decide (a=x∧b=y∧c=z):=by simp [Z0i,ha,hb,hc]
theorem JO {l m:List Int} (h:¬ l.length=m.length):Z0i l m=false:=ZeA (fun h'=>h (by rw [h'.1]))
theorem ZiZ (k n:Int) (s:Str) (ts:List Int) (hr:∀ t∈ts,0≤t∧t≤3):Z4A k n s ts=JF k n s ts:=by
 by_cases h0:ts=[]
 subst h0;simp [Z4A,JF];by_cases hb:(0:Int)∈ts∨ts.length > 3;rw [ZfC k n s ts h0 hb];unfold JF;rcases hb with hb|hb
 simp [hb];simp [show ts.length > 3 from hb];have hz:¬ (0:Int)∈ts:=fun h=>hb (.inl h);have hl:¬ ts.length > 3:=fun h=>hb (.inr h);unfold Z4A JF;rw [if_neg h0,if_neg hl,if_neg hz,if_neg h0];by_cases hn:¬ n=0;rw [if_pos hn,if_pos hn];rw [if_neg hn,if_neg hn]
 match ts,h0,hl with
 | [a], _, _=>
   have ha:a≠0:=fun e=>hz (by simp [e])
   have hra:=hr a (by simp);simp only [XW,Yak,List.getD_nil,Z78,Z6C,Zac,Z2S,ZwC ha,JO (show ¬ [a].length=[(1:Int),1].length by simp),JO (show ¬ [a].length=[(3:Int),3].length by simp),JO (show ¬ [a].length=[(2:Int),2].length by simp),JO (show ¬ [a].length=[(3:Int),1].length by simp),decide_eq_true_eq];have hb0:Z1R s a 0=0:=by
    unfold Z1R;have h1:¬ (a=0∧a=1):=fun h=>ha h.1;have h2:¬ (a=0∧¬ a=2):=fun h=>ha h.1;have h3:¬ (a=0∧a=2):=fun h=>ha h.1;simp only [if_neg h1,if_neg h2,if_neg h3,ite_self]
   simp only [hb0,Zdr,Xe,Xf,XP,and_false,or_self,if_false]
   grind (splits:=40)
 | [a, b], _, _=>
   have ha:a≠0:=fun e=>hz (by simp [e])
   have hb:b≠0:=fun e=>hz (by simp [e])
   have hra:=hr a (by simp);have hrb:=hr b (by simp);simp only [XW,Yak,List.getD_nil,Z78,Z6C,ZmI s a b ha hb (by omega) (by omega),Z2S,ZwD ha hb,JO (show ¬ [a,b].length=[(1:Int)].length by simp),JO (show ¬ [a,b].length=[(2:Int)].length by simp),JO (show ¬ [a,b].length=[(3:Int)].length by simp),decide_eq_true_eq];simp only [Zdr,Xe,Xf,XP,and_false,or_self,if_false]
   grind (splits:=40)
 | [a, b, c], _, _=>
   have ha:a≠0:=fun e=>hz (by simp [e])
   have hb:b≠0:=fun e=>hz (by simp [e])
   have hc:c≠0:=fun e=>hz (by simp [e])
   have hra:=hr a (by simp);have hrb:=hr b (by simp);have hrc:=hr c (by simp);simp only [XW,Yak,Z78,Z6C,Zac,Z2S,ZwE ha hb hc,JO (show ¬ [a,b,c].length=[(1:Int)].length by simp),JO (show ¬ [a,b,c].length=[(2:Int)].length by simp),JO (show ¬ [a,b,c].length=[(3:Int)].length by simp),JO (show ¬ [a,b,c].length=[(1:Int),1].length by simp),JO (show ¬ [a,b,c].length=[(3:Int),3].length by simp),JO (show ¬ [a,b,c].length=[(2:Int),2].length by simp),JO (show ¬ [a,b,c].length=[(3:Int),1].length by simp),decide_eq_true_eq];simp only [Zdr,Xe,Xf,XP,and_false,or_self,if_false]
   grind (splits:=40)
 | _ :: _ :: _ :: _ :: _,_,hl=>exact absurd (by simp) hl
theorem Zbx (k n:Int) (s:Str):0≤Z0Y k n s∧Z0Y k n s≤3:=by
 have h:0≤(ZR s).2.1∧(ZR s).2.1≤3:=by
  unfold ZR;dsimp only;split;simp;split<;>simp
 unfold Z0Y
 grind
theorem Zby (k n:Int) (s:Str) (ts:List Int) (hr:∀ t∈ts,0≤t∧t≤3):0≤JF k n s ts∧JF k n s ts≤3:=by
 unfold JF;split;omega;split;omega;split;exact Zbx _ _ _;split;omega;have hg:∀ i,0≤ts.getD i 0∧ts.getD i 0≤3:=by
  intro i;by_cases hi:i<ts.length;have:=hr ts[i] (Xd hi);simpa [List.getD,hi] using this;simp [List.getD,YaP (Ybw hi)]
 split;exact hg 1;split;unfold Z1R;split;split<;>omega
 split;split<;>omega
 split;split<;>omega
 omega;rw [Z78];unfold Zdr
 grind
theorem Z3y (x:Nd):0≤Ze x∧Ze x≤3:=by
 induction x using Nd.ind with
 | h k n s l ih=>
 rw [Z0I];refine Zby _ _ _ _ (fun t ht=>?_);obtain ⟨y,hy,rfl⟩:=XC.1 ht;exact ih y hy
theorem ZeB (x:Nd):Ze x=Z4A x.kind x.num x.word (x.kids.map Ze):=by
 rw [Z0I,ZiZ];intro t ht;obtain ⟨y,hy,rfl⟩:=XC.1 ht;exact Z3y y
def ZE:Nd→Nat
 | .mk k n s l=>1+(l.map ZE).foldl max 0
theorem Z0J (x:Nd):ZE x=1+(x.kids.map ZE).foldl max 0:=by
 cases x;rw [ZE];rfl
theorem Z5a (l:List Nat):∀ (m b:Nat),l.foldl max m≤b↔m≤b∧∀ x∈l,x≤b:=by
 induction l with
 | nil=>intro m b;simp
 | cons y r ih=>
   intro m b;rw [X1,ih];simp only [Xb,forall_eq_or_imp];constructor;rintro ⟨h1,h2⟩;exact ⟨by omega,by omega,h2⟩;rintro ⟨h1,h2,h3⟩;exact ⟨by omega,h3⟩
theorem Zds (m:Nat):∀ x:Nd,Z14 m x=decide (ZE x≤m):=by
 induction m with
 | zero=>
   intro x;rw [Z0J];simp [Z14]
 | succ m ih=>
   intro x;rw [Z0J];have e:(1+(x.kids.map ZE).foldl max 0≤m+1)↔∀ y∈x.kids,ZE y≤m:=by
    rw [show (1+(x.kids.map ZE).foldl max 0≤m+1)↔(x.kids.map ZE).foldl max 0≤m by omega,Z5a];simp
   rw [Yac,decide_eq_true_iff,e];simp only [Z14,XY];exact ⟨fun h y hy=>by have:=h y hy;rw [ih] at this;simpa using this,fun h y hy=>by rw [ih];simpa using h y hy⟩
theorem Zbz {x y:Nd} (h:y∈x.kids):ZE y<ZE x:=by
 rw [Z0J x];have:=(Z5a (x.kids.map ZE) 0 ((x.kids.map ZE).foldl max 0)).1 (Xn _);have:=this.2 (ZE y) (Yai h);omega
theorem ZbA (x:Nd):∀ (X:List Nat) (v:Value) (w),ZE x≤1000000→NdV X w v x→
 CC 184 #[v] w fun r w'=>r=.I (ZE x:Int)∧Stp [] w w':=by
 induction x using Nd.ind with
 | h k n s l ih=>
 intro X v w hb hx;generalize hxe:Nd.mk k n s l=x at *;have ih':∀ y∈x.kids,∀ (X:List Nat) (v:Value) (w:World),ZE y≤1000000→NdV X w v y→CC 184 #[v] w fun r w'=>r=.I (ZE y:Int)∧Stp [] w w':=by
  subst hxe;exact ih
 clear ih hxe k n s l;obtain ⟨kv,rfl,hs⟩:=hx;have hmax:=hs.max;refine cW1 22 Tryz.func184 ?_;refine W ?_;refine Z1 (Zq rfl) rfl ?_;rintro _ w1 ⟨b,rfl,hbb,hblk,hS⟩;replace hblk:Blk w1 b _ (ndC x kv):=hblk;replace hs:=hs.up hS;refine W ?_;have hs0:=hs;have hblk0:=hblk;refine LP (σ:=Nat) (fun k=>[(1,pQ b),(3,.I ((((x.kids.take k).map ZE).foldl max 0:Nat):Int)),(4,.I k)]) (fun k w'=>k≤x.kids.length∧Stp [] w1 w') (fun k=>x.kids.length - k) 0 ⟨Xq _,Stp.refl _ _⟩ ?_;clear hs hblk;rintro k w2 ⟨hk,hS2⟩;have hs:=hs0.up hS2;have hblk:=hblk0.up hS2;by_cases hlt:k<x.kids.length;obtain ⟨kv2,hs2,hc2⟩:=hs.nd hlt;have hkid:=Zbz (Xd hlt);refine QO ?_;apply Z4 (JG rfl rfl hs hlt hc2) rfl;refine CM (ZX rfl) (ih' x.kids[k] (Xd hlt) X _ _ (by omega) ⟨kv2,rfl,hs2⟩) ?_;rintro _ w3 ⟨rfl,hS3⟩;refine W ?_;refine ZD (k+1) ⟨rfl,?_,rfl,trivial⟩ ⟨hlt,hS2.trans hS3⟩ (by omega);rw [Xi hlt,XI,YaF];show some _=some _;congr 2;simp only [Xy,XQ,X1,List.foldl_nil];omega;have hke:k=x.kids.length:=by omega
 subst hke;have hn:=Z0J x;rw [Xo];refine QO ?_;refine WR ?_;refine .mk ⟨?_,hS.trans hS2⟩;rw [hn];congr 1
theorem Zj0 (X XF:List Nat) (v:Value) (x:Nd) (w) (hx:NdV X w v x) (hF:SlV XF w Z2q Zf) :
 CC 169 #[v] w fun r w'=>r=.tuple #[.I (if ZE x≤12 then Ze x else 0),.I (if ZE x≤12 then (if Ze x=0 then 21 else 0) else 2)]∧Stp [] w w':=by
 obtain ⟨kv,rfl,hs⟩:=hx;refine cW1 13 Tryz.func169 ?_;refine W ?_;refine Z1 (Zq rfl) rfl ?_;rintro _ w1 ⟨b,rfl,hbb,hblk,hS⟩;replace hblk:Blk w1 b _ (ndC x kv):=hblk;replace hs:=hs.up hS;replace hF:=hF.up hS;refine W ?_;refine CM (Zh rfl rfl) (Zdf 12 X _ x 12 _ rfl (by omega) ⟨kv,rfl,hs⟩) ?_;rintro _ w2 ⟨rfl,hS2⟩;replace hs:=hs.up hS2;replace hF:=hF.up hS2;replace hblk:=hblk.up hS2;replace hS:=hS.trans hS2;rw [Zds];by_cases hn:ZE x≤12;rw [decide_eq_true hn,if_pos hn,if_pos hn];refine W ?_;refine CL (Zto x X XF _ _ ⟨kv,rfl,hs⟩ hF) ?_;rintro _ w3 ⟨rfl,hS3⟩;replace hS:=hS.trans hS3
 (refine QP ?_ ?_<;>intro hc)
 refine RU ?_;exact ⟨by rw [if_neg hc],hS⟩;refine WR ?_;have h0:Ze x=0:=by omega
 exact .mk ⟨by rw [if_pos h0,h0],hS⟩;rw [decide_eq_false hn,if_neg hn,if_neg hn];refine RT ?_;exact ⟨rfl,hS⟩
theorem Zdt (X:List Nat) (s:Str) (u:Value) (l:List Int) (w) (hl:SlV X w u l) :
 CC 246 #[str s,u] w fun r w'=>r=.I (Z6C s l)∧Stp [] w w':=by
 refine cW2 33 Tryz.func246 ?_;refine W ?_;refine Z1 (Z0 (vs:=[(0,.I 3),(1,.I 3)]) rfl (JX _ _)) rfl ?_;rintro a3 w3 hN;have ha:=hN.slv (X:=[]) (ys:=[(3:Int),3]) (by simp) rfl rfl (by simp [maxLen]);have hS:=Z6.stp hN;clear hN;replace hl:=hl.up hS;refine CL (Z1D _ _ _ _ _ _ _ hl ha) ?_;rintro _ w4 ⟨rfl,hS4⟩;replace hl:=hl.up hS4;replace hS:=hS.trans hS4;clear ha;unfold Z6C;generalize Z0i l [3,3]=p3;refine W ?_;refine CM (ZX rfl) (Z0X [] [110,101,120,116,32,112,114,101,118] _ (by simp) (by decide)) ?_;rintro _ w5 ⟨hr,hS5⟩;rw [Zdp] at hr;replace hl:=hl.up hS5;replace hS:=hS.trans hS5;refine W ?_;refine CL (Z08 [] _ _ s _ hr.slv0) ?_;rintro _ w6 ⟨rfl,hS6⟩;replace hl:=hl.up hS6;replace hS:=hS.trans hS6;generalize idx (isS s) Z15=i1;clear hr;have rest:∀ (w:World) (Q:Exit→Act→World→Prop),True:=fun _ _=>trivial;by_cases hi:0≤i1;all_goals (refine QO ?_)
 all_goals first
  | (refine Z1 (Z0 (vs := [(0, .I 3)]) rfl (Zt _)) rfl ?_
     rintro a1 w7 hN;have ha:=hN.slv (X:=[]) (ys:=[(3:Int)]) (by simp) rfl rfl (by simp [maxLen]);have hS7:=Z6.stp hN;clear hN;replace hl:=hl.up hS7;replace hS:=hS.trans hS7;refine W ?_;refine CL (Z1D _ _ _ _ _ _ _ hl ha) ?_;rintro _ w8 ⟨rfl,hS8⟩;replace hl:=hl.up hS8;replace hS:=hS.trans hS8;generalize Z0i l [3]=p1;cases p1)
  | generalize Z0i l [3]=p1
 all_goals (repeat'(first|refine W1 ?_|omega|refine VG ?_ ?_<;>intro hg|refine VC ?_ ?_<;>intro hc))
 all_goals first
  | (refine RU ?_
     exact ⟨by simp [hi],hS⟩)
  | (refine CM (ZX rfl) (Z0X [] [108, 97, 116, 101, 114, 32, 101, 97, 114, 108, 105, 101, 114] _ (by simp) (by decide)) ?_
     rintro _ w9 ⟨hr,hS9⟩;rw [Zdq] at hr;replace hl:=hl.up hS9;replace hS:=hS.trans hS9;refine W ?_;refine CL (Z08 [] _ _ s _ hr.slv0) ?_;rintro _ w10 ⟨rfl,hS10⟩;replace hS:=hS.trans hS10;generalize idx (isS s) Z16=i2;clear hr)
 all_goals by_cases hi2:0≤i2
 all_goals cases p3
 all_goals by_cases hs:s=[98,101,116,119,101,101,110]
 all_goals (repeat'(first|refine W1 ?_|omega|refine VG ?_ ?_<;>intro hg|refine VC ?_ ?_<;>intro hc))
 all_goals try contradiction
 all_goals (refine WR ?_)
 all_goals exact .mk ⟨by simp [hi,hi2,hs],hS⟩
def okN:Nd→Bool
 | .mk k n s l=>decide (l.length≤1000) && (l.map okN).all id
theorem ZeC (x:Nd):okN x=true↔x.kids.length≤1000∧∀ y∈x.kids,okN y=true:=by
 cases x;rw [okN];simp [Nd.kids]
abbrev ndL (k n:Int) (s:Str) (kv:Value):List Value:=[.I k,.I n,str s,kv]
theorem ZfD (x:Nd):∀ (X:List Nat) (v:Value) (w),okN x=true→NdV X w v x→
 CC 185 #[v] w fun r w'=>r=.I (Ze x)∧Stp [] w w':=by
 induction x using Nd.ind with
 | h k n s l ih=>
 intro X v w hok hx;obtain ⟨hk1,hk2⟩:=(ZeC _).1 hok;replace hk1:l.length≤1000:=hk1;replace hk2:∀ y∈l,okN y=true:=hk2;obtain ⟨kv,rfl,hs⟩:=hx;replace hs:SlV X w kv l:=hs;rw [ZeB];show Calls _ _ _ _ (Ret fun r w'=>r=.I (Z4A k n s (l.map Ze))∧Stp [] w w');refine cW1 104 Tryz.func185 ?_;refine W ?_;refine Z1 (Zq rfl) rfl ?_;rintro _ w1 ⟨b,rfl,hbb,hblk,hS⟩;replace hblk:Blk w1 b _ (ndL k n s kv):=hblk;replace hs:=hs.up hS
 (refine QP ?_ ?_<;>intro hc)
 refine CL (Zdi X _ (.mk k n s l) _ ⟨kv,rfl,hs⟩) ?_;rintro _ w2 ⟨rfl,hS2⟩;refine W ?_;refine WR ?_;have hl0:l=[]:=Xv.1 (by omega);subst hl0;exact .mk ⟨by simp [Z4A];rfl,hS.trans hS2⟩;have hne:¬ l.map Ze=[]:=by
  intro h;have:=congrArg List.length h;simp at this;subst this;simp at hc
 have hlen:(l.map Ze).length=l.length:=by simp
 have hget:∀ i (h:i<l.length) (h':i<(l.map Ze).length),(l.map Ze)[i]=Ze l[i]:=by intro i h h';simp
 generalize hts:l.map Ze=ts at *;refine Z0l (σ:=Value) (fun u=>[(1,pQ b),(3,u)]) (fun u w'=>SlV [] w' u ts∧Stp [] w1 w') ?_ ?_;have hs0:=hs;have hblk0:=hblk;have hXw:w1.heap.size≤w1.heap.size:=Xn _;refine LP (σ:=Nat×Value) (fun q=>[(1,pQ b),(3,q.2),(4,.I (q.1:Int))]) (fun q w'=>q.1≤l.length∧Row [] w' w1.heap.size 3 q.2 (ts.take q.1)∧Stp [] w1 w') (fun q=>l.length - q.1) (0,.N) ⟨Xq _,Row.nil,Stp.refl _ _⟩ ?_;clear hs hblk;rintro ⟨j,u⟩ w2 ⟨hj,hrow,hS2⟩;dsimp only at hj hrow ⊢;have hs:=hs0.up hS2;have hblk:=hblk0.up hS2;by_cases hlt:j<l.length;obtain ⟨kv2,hs2,hc2⟩:=hs.nd hlt;refine QO ?_;apply Z4 (JG rfl rfl hs hlt hc2) rfl;refine CL (ih l[j] (Xd hlt) X _ _ (hk2 _ (Xd hlt)) ⟨kv2,rfl,hs2⟩) ?_;rintro _ w3 ⟨rfl,hS3⟩;replace hrow:=hrow.up hS3;replace hS2:=hS2.trans hS3;refine W ?_;refine Z1 (Z0 (vs:=[(0,.I (Ze l[j]))]) rfl (Zt _)) rfl ?_;rintro bv w4 hN;have hbv:SlV (ob u++[]) w4 bv [Ze l[j]]:=hN.slv (fun b hb=>(hrow.ob_le b (by simpa using hb)).2) rfl rfl (by simp [maxLen]);have hS4:=Z6.stp hN;clear hN;replace hrow:=hrow.up hS4;replace hS2:=hS2.trans hS4;have hbase:=hS2.size;have hlt':(ts.take j).length≤1000:=by rw [Xt];omega
 refine Z1 (ZW (X:=[]) (base:=w1.heap.size) rfl (by decide) rfl rfl hrow hbv (by simp only [Xe,Xf];omega) (by simp only [Xe,Xf,maxLen];omega) hbase) rfl ?_;rintro u' w5 ⟨hrow',hS5,_⟩;refine W ?_;refine QL (j+1,u') ⟨by dsimp only;omega,?_,hS2.own hS5 (fun c hc=>.inr (hrow.ob_le c hc).1)⟩ (by dsimp only;omega);dsimp only;rw [Xi (by omega),hget j hlt];exact hrow';have hje:j=l.length:=by omega
 subst hje;rw [← hlen,Xo] at hrow;refine QO ?_;exact QT u ⟨hrow.slv0,hS2⟩;rintro u w2 ⟨hu,hS2⟩;replace hblk:=hblk.up hS2;replace hS:=hS.trans hS2;have hts1:1≤ts.length:=by
  cases ts with
  | nil=>exact absurd rfl hne
  | cons=>simp
 clear hget hts hs;have h0:∀ (h:0<ts.length),ts.getD 0 0=ts[0]:=fun h=>by simp [List.getD,h]
 have h1:∀ (h:1<ts.length),ts.getD 1 0=ts[1]:=fun h=>by simp [List.getD,h]
 unfold Z4A;rw [if_neg hne];refine W ?_;by_cases hn:¬ n=0;rw [if_pos hn];refine RT ?_;exact ⟨rfl,hS⟩;rw [if_neg hn];by_cases k5:k=5;subst k5;rw [if_pos rfl];have hl0:0<ts.length:=by omega
 by_cases hm:s=[45]∨s=[110,111,116]
 have fin:∀ (z:Int) (p:Bool),(s=[45]∧z=1∨s=[110,111,116]∧z=2)→Z0i ts [z]=p→(if s=[45]∧Z0i ts [1]=true∨s=[110,111,116]∧Z0i ts [2]=true then ts.getD 0 0 else 0)=if p then ts.getD 0 0 else 0:=by
  rintro z p (⟨rfl,rfl⟩|⟨rfl,rfl⟩) hp<;>simp [hp]
 rcases hm with rfl|rfl
 · refine QO ?_
   refine Z1 (Z0 (vs:=[(0,.I 1)]) rfl (Zt _)) rfl ?_;rintro a1 w7 hN;have ha:=hN.slv (X:=[]) (ys:=[(1:Int)]) (by simp) rfl rfl (by simp [maxLen]);have hS7:=Z6.stp hN;clear hN;replace hu:=hu.up hS7;replace hblk:=hblk.up hS7;replace hS:=hS.trans hS7;refine W ?_;refine CL (Z1D _ _ _ _ _ _ _ hu ha) ?_;rintro _ w8 ⟨rfl,hS8⟩;replace hu:=hu.up hS8;replace hblk:=hblk.up hS8;replace hS:=hS.trans hS8;rw [fin 1 _ (.inl ⟨rfl,rfl⟩) rfl];cases Z0i ts [1] with
   | true=>
     refine QO ?_;refine WR ?_;refine .mk ⟨?_,hS⟩;rw [if_pos rfl,h0 hts1]
   | false=>
     refine RT ?_;exact ⟨rfl,hS⟩
 · refine QO ?_
   refine Z1 (Z0 (vs:=[(0,.I 2)]) rfl (Zt _)) rfl ?_;rintro a1 w7 hN;have ha:=hN.slv (X:=[]) (ys:=[(2:Int)]) (by simp) rfl rfl (by simp [maxLen]);have hS7:=Z6.stp hN;clear hN;replace hu:=hu.up hS7;replace hblk:=hblk.up hS7;replace hS:=hS.trans hS7;refine W ?_;refine CL (Z1D _ _ _ _ _ _ _ hu ha) ?_;rintro _ w8 ⟨rfl,hS8⟩;replace hu:=hu.up hS8;replace hS:=hS.trans hS8;rw [fin 2 _ (.inr ⟨rfl,rfl⟩) rfl];cases Z0i ts [2] with
   | true=>
     refine QO ?_;refine WR ?_;refine .mk ⟨?_,hS⟩;rw [if_pos rfl,h0 hts1]
   | false=>
     refine RT ?_;exact ⟨rfl,hS⟩
 · have hm1:¬ s=[45]:=fun h=>hm (.inl h)
   have hm2:¬ s=[110,111,116]:=fun h=>hm (.inr h);rw [if_neg (by rintro (⟨h,_⟩|⟨h,_⟩)<;>contradiction)];repeat'(first|refine W1 ?_|omega|refine VG ?_ ?_<;>intro hg|refine VC ?_ ?_<;>intro hc)
   all_goals try contradiction
   refine RU ?_;exact ⟨rfl,hS⟩
 rw [if_neg k5];by_cases k6:k=6;subst k6;rw [if_pos rfl];refine QO ?_;refine CL (Zad [] s u ts _ hu) ?_;rintro _ w3 ⟨rfl,hS3⟩;refine RT ?_;exact ⟨rfl,hS.trans hS3⟩;rw [if_neg k6];by_cases k78:k=7∨k=8
 · rw [if_pos k78]
   have n9:¬ k=9:=by omega
   have n10:¬ k=10:=by omega
   (refine QP ?_ ?_<;>intro hc)
   all_goals
    refine ZDr 10 [] [] [(1,0),(2,1),(0,2),(3,2),(4,0),(5,0),(6,0),(7,2),(8,2),(9,0)] (fun w1 hS1=>?_);replace hu:=hu.up hS1;replace hblk:=hblk.up hS1;replace hS:=hS.trans hS1;refine D ?_;refine Zc rfl trivial (Zd rfl (ZX rfl) (Z0X [] [100,97,121,115,32,119,101,101,107,115,32,109,111,110,116,104,115,32,99,111,117,114,116,100,97,121,115] _ (by simp) (by decide))) (fun _ _ h=>h.2) rfl ?_;rintro _ w5 ⟨hr,hS5⟩;rw [Zbv] at hr;replace hu:=hu.up hS5;replace hS:=hS.trans hS5;refine DC (Z08 [] _ _ s _ hr.slv0) (fun _ _ h=>h.2) ?_;rintro _ w6 ⟨rfl,hS6⟩;replace hu:=hu.up hS6;replace hS:=hS.trans hS6;generalize idx (isS s) J4=i1;by_cases hi:0≤i1;refine QD ?_;refine Zc rfl rfl (Z0 (vs:=[(0,.I 3),(1,.I 1)]) rfl (JX _ _)) (fun _ _ h=>Z6.stp h) rfl ?_;rintro a1 w7 hN;have ha:=hN.slv (X:=[]) (ys:=[(3:Int),1]) (by simp) rfl rfl (by simp [maxLen]);have hS7:=Z6.stp hN;clear hN;replace hu:=hu.up hS7;replace hS:=hS.trans hS7;refine DC (Z1D _ _ _ _ _ _ _ hu ha) (fun _ _ h=>h.2) ?_;rintro _ w8 ⟨rfl,hS8⟩;replace hS:=hS.trans hS8;generalize Z0i ts [3,1]=p;cases p;refine D ?_;refine RT ?_;exact ⟨by simp,hS⟩;refine D ?_;refine RT ?_;exact ⟨by simp [hi],hS⟩;refine QD ?_;refine RT ?_;exact ⟨by simp [hi],hS⟩
 rw [if_neg k78];by_cases k9:k=9;subst k9;rw [if_pos rfl];refine QO ?_;refine ZDr 19 [] [] [(0,0),(1,1),(2,0),(3,0),(4,0),(5,0),(6,0),(7,0),(8,0),(9,0),(10,0),(11,0),(12,1),(13,0),(14,0),(15,1),(16,2),(17,2),(18,0)] (fun w1 hS1=>?_);replace hu:=hu.up hS1;replace hblk:=hblk.up hS1;replace hS:=hS.trans hS1;have hum:=hu.max;by_cases hs:s=[]
 subst hs;by_cases h3:ts.length=3;have hl1:1<ts.length:=by omega
 have h1':=h1 hl1;refine QD ?_;refine Zc rfl rfl (Z0 (vs:=[(0,.I 2),(1,.I _),(2,.I _)]) rfl (ZiS _ _ _)) (fun _ _ h=>Z6.stp h) rfl ?_;rintro a1 w7 hN;have ha:=hN.slv (X:=[]) (ys:=[(2:Int),ts[1],ts[1]]) (by simp) rfl rfl (by simp [maxLen]);have hS7:=Z6.stp hN;clear hN;replace hu:=hu.up hS7;replace hS:=hS.trans hS7;refine DC (Z1D _ _ _ _ _ _ _ hu ha) (fun _ _ h=>h.2) ?_;rintro _ w8 ⟨rfl,hS8⟩;replace hu:=hu.up hS8;replace hS:=hS.trans hS8;rw [h1'];cases hp:Z0i ts [2,ts[1],ts[1]];refine D ?_;refine RT ?_;exact ⟨by simp,hS⟩;refine D ?_;refine RT ?_;exact ⟨by simp [h3],hS⟩;refine QD ?_;refine RT ?_;exact ⟨by simp [h3],hS⟩
 · repeat'(first|refine D1 ?_|omega|refine Zy rfl rfl rfl rfl (fun hg=>?_) (fun hg=>?_)|(refine Zr rfl rfl rfl rfl (fun hg=>?_) (fun hg=>?_)<;>refine D1 ?_)|fail)
   all_goals try contradiction
   refine RT ?_;exact ⟨by simp [hs],hS⟩
 rw [if_neg k9];by_cases k10:k=10;subst k10;rw [if_pos rfl];refine QO ?_;refine CL (Zdt [] s u ts _ hu) ?_;rintro _ w3 ⟨rfl,hS3⟩;refine RT ?_;exact ⟨rfl,hS.trans hS3⟩;rw [if_neg k10];refine RT ?_;exact ⟨rfl,hS⟩
def ZM:Nd→Nat
 | .mk k n s l=>1+(l.map ZM).sum
theorem Z17 (x:Nd):ZM x=1+(x.kids.map ZM).sum:=by
 cases x;rw [ZM];rfl
theorem Z8D {l:List Nat} {a:Nat} (h:a∈l):a≤l.sum:=by
 induction l with
 | nil=>cases h
 | cons x r ih=>
   rw [List.sum_cons];rcases Xb.1 h with rfl|h
   omega;have:=ih h;omega
theorem Zj1 {x y:Nd} (h:y∈x.kids):ZM y<ZM x:=by
 rw [Z17 x];have:=Z8D (Yai (f:=ZM) h);omega
theorem Zj2 (x:Nd):1≤ZM x:=by rw [Z17];omega
theorem Zdu (l:List Nd):l.length≤(l.map ZM).sum:=by
 induction l with
 | nil=>simp
 | cons x r ih=>
   have:=Zj2 x;simp;omega
theorem Z3z (x:Nd):ZM x≤1000→okN x=true:=by
 induction x using Nd.ind with
 | h k n s l ih=>
 intro h;rw [ZeC];have h1:=Z17 (.mk k n s l);have h2:=Zdu l;refine ⟨?_,fun y hy=>ih y hy ?_⟩;show l.length≤1000;have:ZM (.mk k n s l)=1+(l.map ZM).sum:=h1;omega;have:=Zj1 (x:=.mk k n s l) (y:=y) hy;omega
theorem Z7t (X:List Nat) (v:Value) (x:Nd) (w) (hok:okN x=true) (hn:ZE x≤1000000) (hx:NdV X w v x) :
 CC 107 #[v] w fun r w'=>r=.tuple #[.I (if ZE x≤12 then Ze x else 0),.I (if ZE x≤12 then (if Ze x=0 then 21 else 0) else 2)]∧Stp [] w w':=by
 obtain ⟨kv,rfl,hs⟩:=hx;refine cW1 13 Tryz.func107 ?_;refine W ?_;refine Z1 (Zq rfl) rfl ?_;rintro _ w1 ⟨b,rfl,hbb,hblk,hS⟩;replace hblk:Blk w1 b _ (ndC x kv):=hblk;replace hs:=hs.up hS;refine W ?_;refine CL (ZbA x X _ _ hn ⟨kv,rfl,hs⟩) ?_;rintro _ w2 ⟨rfl,hS2⟩;replace hs:=hs.up hS2;replace hblk:=hblk.up hS2;replace hS:=hS.trans hS2;by_cases hn:ZE x≤12;rw [if_pos hn,if_pos hn];refine QO ?_;refine CL (ZfD x X _ _ hok ⟨kv,rfl,hs⟩) ?_;rintro _ w3 ⟨rfl,hS3⟩;replace hS:=hS.trans hS3
 (refine QP ?_ ?_<;>intro hc)
 refine RU ?_;exact ⟨by rw [if_pos hc,hc],hS⟩;refine RU ?_;exact ⟨by rw [if_neg hc],hS⟩;rw [if_neg hn,if_neg hn];refine RT ?_;exact ⟨rfl,hS⟩
theorem Z4R {x:Nd} (h:Ze x≠0):x.kids.length≤3∧∀ y∈x.kids,Ze y≠0:=by
 rw [Z0I] at h;unfold JF at h;refine ⟨?_,fun y hy e=>?_⟩;by_cases hl:(x.kids.map Ze).length > 3;rw [if_pos hl] at h;exact absurd rfl h;simpa using hl;by_cases hl:(x.kids.map Ze).length > 3;rw [if_pos hl] at h;exact absurd rfl h;rw [if_neg hl,if_pos (by rw [← e];exact Yai hy)] at h;exact absurd rfl h
def Z7u:List Str:=[[110,101,120,116],[112,114,101,118],[108,97,116,101,114],[101,97,114,108,105,101,114],[98,101,116,119,101,101,110]]
inductive Zol (k:Int) (s:Str) (m:Nat):Prop
 | neg (h:k=5) (hs:s=[45]∨s=[110,111,116]) (hm:m=1)
 | bin (h:k=6) (hs:s∈Z0a∨s∈Z28∨s∈Z03) (hm:m=2)
 | unit (h:k=7∨k=8) (hs:s∈J4) (hm:m=2)
 | cond (h:k=9) (hm:m=3)
 | call (h:k=10) (hs:s∈Z7u) (hm:1≤m∧m≤2)
theorem Z6D {x:Nd} (h:Ze x≠0) (hk:x.kids≠[]):x.num=0∧Zol x.kind x.word x.kids.length:=by
 have hl:=(Z4R h).1;rw [ZeB] at h;have hlen:(x.kids.map Ze).length=x.kids.length:=by simp
 have hne:¬ x.kids.map Ze=[]:=by simpa using hk
 generalize x.kids.map Ze=ts at *;rw [← hlen];unfold Z4A at h;rw [if_neg hne] at h;have hn:x.num=0:=Decidable.byContradiction (fun hn=>by rw [if_pos hn] at h;exact absurd rfl h);refine ⟨hn,?_⟩;rw [if_neg (by simpa using hn)] at h;have hlm:∀ m:List Int,Z0i ts m=true→ts.length=m.length:=fun m hm=>by rw [(Zbw.1 hm).1]
 by_cases k5:x.kind=5;rw [if_pos k5] at h;split at h;rename_i hh;rcases hh with ⟨h1,h2⟩|⟨h1,h2⟩
 exact .neg k5 (.inl h1) (hlm _ h2);exact .neg k5 (.inr h1) (hlm _ h2);exact absurd rfl h;rw [if_neg k5] at h;by_cases k6:x.kind=6;rw [if_pos k6] at h;unfold Zac at h;simp only [Z2S] at h;split at h;rename_i hh;exact .bin k6 (.inl hh.1) (hlm _ hh.2);split at h;rename_i hh;rcases hh.2 with h2|h2
 exact .bin k6 (.inr (.inl hh.1)) (hlm _ h2);exact .bin k6 (.inr (.inl hh.1)) (hlm _ h2);split at h;rename_i hh;exact .bin k6 (.inr (.inr hh.1)) (hlm _ hh.2);exact absurd rfl h;rw [if_neg k6] at h;by_cases k78:x.kind=7∨x.kind=8;rw [if_pos k78] at h;simp only [Z2S] at h;split at h;rename_i hh;exact .unit k78 hh.1 (hlm _ hh.2);exact absurd rfl h;rw [if_neg k78] at h;by_cases k9:x.kind=9;rw [if_pos k9] at h;split at h;rename_i hh;exact .cond k9 hh.2.1;exact absurd rfl h;rw [if_neg k9] at h;by_cases k10:x.kind=10;rw [if_pos k10] at h;unfold Z6C at h;simp only [Z2S] at h;split at h;rename_i hh;refine .call k10 ?_ (by have:=hlm _ hh.2;simp at this;omega);have:=hh.1;simp only [Z15,Z7u,Xb,Xj,or_false] at this ⊢;rcases this with h|h<;>simp [h]
 split at h;rename_i hh;refine .call k10 ?_ (by have:=hlm _ hh.2;simp at this;omega);have:=hh.1;simp only [Z16,Z7u,Xb,Xj,or_false] at this ⊢;rcases this with h|h<;>simp [h]
 split at h;rename_i hh;refine .call k10 ?_ (by have:=hlm _ hh.2;simp at this;omega);simp [Z7u,hh.1];exact absurd rfl h;rw [if_neg k10] at h;exact absurd rfl h
theorem Zdv {x:Nd} (h:Ze x≠0) (hk:x.kids=[]):1≤x.kind∧x.kind≤4:=by
 rw [Z0I,hk] at h;simp [JF] at h;unfold Z0Y at h
 grind
end Go.Proofs.YtipfkbkkndacjaaGreatDoor
namespace Go.Eng
open Go
structure Ins where
 op:Int
 n:Int
 deriving DecidableEq,Inhabited
instance:Z3 Ins where
 k:=2
 enc:=fun x=>[.I x.op,.I x.n]
 len:=fun _=>rfl
 one:=by intro x u hu;simp at hu;rcases hu with rfl|rfl<;>rfl
def agg {α:Type} [Z3 α] (x:α):Value:=aG x
theorem Row.keep {β:Type} [Z3 β] {X S:List Nat} {w w':World} {base T:Nat} {v:Value} {xs:List β} (h:Row X w base T v xs) (hS:Stp S w w') (hd:∀ b∈S,b∉ob v):Row X w' base T v xs:=by
 have h':Row S w base T v xs:=h;have:=h'.ext (X':=X) hS (fun b hb=>⟨hb,hd b hb⟩);obtain ⟨css,h1,h2,h3⟩:=h;refine ⟨css,h1,h2,?_⟩;have h4:Row S w base T v xs:=⟨css,h1,h2,h3⟩
 obtain ⟨ho,hr⟩:=h3;refine ⟨ho,?_⟩;rcases hr with hn|⟨q,cap,cur,rfl,hb,hg,rest⟩
 exact .inl hn;refine .inr ⟨q,cap,cur,rfl,hb,?_,rest⟩;rw [hS.block q (Xk.1 hg).1 (fun hq=>hd q hq (by simp [ob]))];exact hg
end Go.Eng
namespace Go.Proofs.YtipfkbkkndacjaaGreatDoor
open Go Go.Eng Go.RowKit
theorem Z7v (a b:Int) (w):(Instr.build 171 #[(0,.I a),(1,.I b)]).run Tryz.prog w=.ok (agg (Ins.mk a b)) w:=by kernel_rfl
theorem Z79 (a:Int) (w):(Instr.build 171 #[(0,.I a)]).run Tryz.prog w=.ok (agg (Ins.mk a 0)) w:=by kernel_rfl
theorem Z2T (d:Ins) (w):(Instr.buildSlice 60 1 #[(0,agg d)]).run Tryz.prog w=.ok (.slice (some ⟨w.heap.size,0,none⟩) 1 1) (w.alloc (.cells (Z3.enc d).toArray 171)):=by kernel_rfl
structure Cod (w:World) (bc base:Nat) (v:Value) (xs:List Ins):Prop where
 blk:Blk w bc 244 [v]
 row:Row [] w base 171 v xs
 apart:bc∉ob v
 low:bc<base
 top:base≤w.heap.size
def Z3k (w:World) (bc base:Nat) (v:Value) (ys:List Ins) (w':World):Prop:=
 ∃ v',Cod w' bc base v' ys∧Stp (bc :: ob v) w w'∧∀ b∈ob v',b∈ob v∨w.heap.size≤b
theorem Cod.up {w w':World} {bc base:Nat} {v:Value} {xs:List Ins} (h:Cod w bc base v xs) (hS:Stp [] w w'):Cod w' bc base v xs:=
 ⟨h.blk.up hS,h.row.up hS,h.apart,h.low,Xg h.top hS.size⟩
theorem Z3k.pre {w0 w w':World} {bc base:Nat} {v:Value} {ys:List Ins} (hS:Stp [] w0 w) (h:Z3k w bc base v ys w'):Z3k w0 bc base v ys w':=by
 obtain ⟨v',h1,h2,h3⟩:=h;exact ⟨v',h1,hS.mn.trans h2,fun b hb=>(h3 b hb).imp id (fun h=>Xg hS.size h)⟩
theorem Z3k.next {w w1 w2:World} {bc base:Nat} {v v1:Value} {zs:List Ins} (hS:Stp (bc :: ob v) w w1) (hb:∀ b∈ob v1,b∈ob v∨w.heap.size≤b) (h:Z3k w1 bc base v1 zs w2):Z3k w bc base v zs w2:=by
 obtain ⟨v',h1,h2,h3⟩:=h;refine ⟨v',h1,?_,fun b hb'=>?_⟩;exact hS.own h2 (fun b hb'=>by
  rcases Xb.1 hb' with rfl|h
  exact .inl (by simp);exact (hb b h).imp (fun h=>XE _ h) id)
 rcases h3 b hb' with h|h
 exact hb b h;exact .inr (Xg hS.size h)
theorem Zom {w w':World} {bc:Nat} {v v':Value} {α:Type} [Z7 α] {u:Value} {xs:List α} (h:SlV (bc :: ob v) w u xs) (hS:Stp (bc :: ob v) w w') (hb:∀ b∈ob v',b∈ob v∨w.heap.size≤b):SlV (bc :: ob v') w' u xs:=
 h.ext hS (fun _ h=>h) (fun b hb'=>by
  rcases Xb.1 hb' with rfl|h
  exact .inl (by simp);exact (hb b h).imp (fun h=>XE _ h) id)
theorem Z2U (bc base:Nat) (v:Value) (xs:List Ins) (op n:Int) (w) (hc:Cod w bc base v xs) (hl:xs.length≤1000000) :
 CC 171 #[pQ bc,.I op,.I n] w fun r w'=>r=.I (xs.length:Int)∧Z3k w bc base v (xs++[⟨op,n⟩]) w':=by
 obtain ⟨hblk,hrow,hap,hlow,htop⟩:=hc;refine cW3 25 Tryz.func171 ?_;refine W ?_;apply Z8 (vs:=[(0,.I op),(1,.I n)]) rfl (Z7v _ _) rfl;refine Z1 (Z0 (vs:=[(0,agg (Ins.mk op n))]) rfl (Z2T _)) rfl ?_;rintro bv w1 hN;have hbv:SlV (ob v++[]) w1 bv [Ins.mk op n]:=hN.slv (fun b hb=>(hrow.ob_le b (by simpa using hb)).2) rfl rfl (by simp [maxLen]);have hS1:=Z6.stp hN;clear hN;have hrow1:=hrow.up hS1;have hblk1:=hblk.up hS1;have h1:=hS1.size;refine Z1 (ZW (X:=[]) (base:=base) rfl (by decide) rfl rfl hrow1 hbv (by simp only [Xe,Xf];omega) (by simp only [Xe,Xf,maxLen];omega) (by omega)) rfl ?_;rintro v' w2 ⟨hrow2,hS2,hob⟩;have hblk2:=hblk1.ext hS2 hap;have hbl:=hblk1.lt;refine W ?_;refine Z5 (Za (u:=v') rfl rfl hrow2.slv0.cells hrow2.slv0.one hblk2 (by simp)) ?_;rintro _ w3 ⟨hS3,hblk3⟩;replace hblk3:Blk w3 bc 244 [v']:=hblk3;have hap':bc∉ob v':=fun hb=>by
  rcases hob bc hb with h|h
  exact hap h;omega
 have hrow3:=hrow2.keep hS3 (fun b hb=>by simp at hb;subst hb;exact hap');have hs3:=hrow3.slv0;have hll:(xs++[Ins.mk op n]).length≤1000001:=by simp only [Xc,Xe,Xf];omega
 refine W ?_;refine WR ?_;refine .mk ⟨?_,v',⟨hblk3,hrow3,hap',hlow,?_⟩,?_,?_⟩;simp only [Xc,Xe,Xf];congr 1;omega;exact Xg htop (Xg h1 (Xg hS2.size hS3.size));exact (hS1.mn.trans (hS2.mono (fun x hx=>by simp [hx]))).trans (hS3.mono (fun x hx=>by simp at hx;simp [hx]));intro b hb;rcases hob b hb with h|h
 exact .inl h;exact .inr (by omega)
structure Fr (w0 w:World) (bc base:Nat) (v0 v:Value) (xs:List Ins):Prop where
 cod:Cod w bc base v xs
 stp:Stp (bc :: ob v0) w0 w
 sub:∀ b∈ob v,b∈ob v0∨w0.heap.size≤b
theorem Fr.start {w} {bc base:Nat} {v:Value} {xs:List Ins} (h:Cod w bc base v xs):Fr w w bc base v v xs:=⟨h,Stp.refl _ _,fun b hb=>.inl hb⟩
theorem Fr.step {w0 w w':World} {bc base:Nat} {v0 v:Value} {xs ys:List Ins} (h:Fr w0 w bc base v0 v xs) (k:Z3k w bc base v ys w'):∃ v',Fr w0 w' bc base v0 v' ys:=by
 obtain ⟨v',h1,h2,h3⟩:=Z3k.next h.stp h.sub k;exact ⟨v',h1,h2,h3⟩
theorem Fr.up {w0 w w':World} {bc base:Nat} {v0 v:Value} {xs:List Ins} (h:Fr w0 w bc base v0 v xs) (hS:Stp [] w w'):Fr w0 w' bc base v0 v xs:=⟨h.cod.up hS,h.stp.trans hS.mn,h.sub⟩
theorem Fr.fin {w0 w:World} {bc base:Nat} {v0 v:Value} {xs:List Ins} (h:Fr w0 w bc base v0 v xs):Z3k w0 bc base v0 xs w:=⟨v,h.cod,h.stp,h.sub⟩
theorem Fr.sl {w0 w:World} {bc base:Nat} {v0 v:Value} {xs:List Ins} {α:Type} [Z7 α] {u:Value} {ys:List α} (h:Fr w0 w bc base v0 v xs) (hs:SlV (bc :: ob v0) w0 u ys):SlV (bc :: ob v) w u ys:=Zom hs h.stp h.sub
theorem Fr.bk {w0 w:World} {bc base b T:Nat} {v0 v:Value} {xs:List Ins} {cs:List Value} (h:Fr w0 w bc base v0 v xs) (hb:Blk w0 b T cs) (hn:b∉bc :: ob v0):Blk w b T cs:=hb.ext h.stp hn
abbrev Cf:=Nat→List Ins
def chC (c y n:Cf) (p0:Nat):List Ins:=
 c p0 ++ [⟨14, ((p0 + (c p0).length + 1 + (y (p0 + (c p0).length + 1)).length + 1 : Nat) : Int)⟩] ++ y (p0 + (c p0).length + 1) ++
   [⟨13,((p0+(c p0).length+1+(y (p0+(c p0).length+1)).length+1+(n (p0+(c p0).length+1+(y (p0+(c p0).length+1)).length+1)).length:Nat):Int)⟩]++n (p0+(c p0).length+1+(y (p0+(c p0).length+1)).length+1)
def Zdw (x:Nd) (f:Cf):Prop:=∀ (w:World) (bc base:Nat) (v nv:Value) (xs:List Ins),Cod w bc base v xs→NdV (bc :: ob v) w nv x→SlV (bc :: ob v) w Z2q Zf→xs.length+(f xs.length).length≤100000→
 CC 170 #[pQ bc,nv] w fun r w'=>Z3k w bc base v (xs++f xs.length) w'
def Zag (X:List Nat) (w:World) (r:Nat) (es:List (Str×List Int)):Prop:=
 ∃ l:List (Str×Value),JI str w r l∧l.length=es.length∧∀ i (h:i<l.length) (h':i<es.length),l[i].1=es[i].1∧SlV (r :: X) w l[i].2 es[i].2
theorem Zag.up {X:List Nat} {w w':World} {r:Nat} {es:List (Str×List Int)} (h:Zag X w r es) (hS:Stp [] w w'):Zag X w' r es:=by
 obtain ⟨l,h1,h2,h3⟩:=h;exact ⟨l,h1.up hS,h2,fun i h h'=>⟨(h3 i h h').1,(h3 i h h').2.up hS⟩⟩
theorem ZS {P:Program} {n:Nat} {e:Env} {w} {d:Option Nat} {ty:TypeId} {pos:String} {af:Array Edge} {g:Option (Nat×Bool)} {mt kt et r:Nat} {x y z:Operand} [hm:Und P mt (.map kt et)] [hk:Und P kt .string] {X:List Nat} {es:List (Str×List Int)} {a:Str} {v:Value} {xs:List Int} (hx:ev e x=some (.map (some r))) (hy:ev e y=some (str a)) (hz:ev e z=some v)
 (hr:Zag X w r es) (hv:SlV (r :: X) w v xs) (hn:∀ p∈es,¬ p.1=a):OE P n ⟨d,.insert mt x y z,ty,pos,af,g⟩ e w (fun _ w'=>Zag X w' r (es++[(a,xs)])∧Stp [r] w w'):=by
 obtain ⟨l,h1,h2,h3⟩:=hr;have hfr:∀ p∈l,¬ p.1=a:=by
  intro p hp;obtain ⟨i,hi,rfl⟩:=Xr hp;rw [(h3 i hi (by omega)).1];exact hn _ (Xd _)
 refine (Zv (K:=inferInstance) hx hy hz h1 hfr).mono ?_;rintro _ w' ⟨g1,g2⟩;refine ⟨⟨_,g1,by simp [h2],fun i h h'=>?_⟩,g2⟩;by_cases hi:i<l.length;have hi':i<es.length:=by omega
 rw [X6 hi,X6 hi'];exact ⟨(h3 i hi hi').1,(h3 i hi hi').2.on g2 (by simp)⟩;have hil:i=l.length:=by simp at h;omega
 subst hil;rw [X2 (Xn _),X2 (by omega)];simp only [Nat.sub_self,h2,Ya5];exact ⟨trivial,hv.on g2 (by simp)⟩
def Z7w:List (Str×List Int):=[([43],[5]),([42],[7]),([110,111,116],[12]),([60],[9]),([60,61],[10]),([61],[11]),([62],[10,12]),([62,61],[9,12]),([33,61],[11,12]),([100,97,121,115],[15]),([119,101,101,107,115],[16]),([109,111,110,116,104,115],[17]),([99,111,117,114,116,100,97,121,115],[18]),([110,101,120,116],[19]),([112,114,101,118],[20]),([108,97,116,101,114],[21]),([101,97,114,108,105,101,114],[22]),([98,101,116,119,101,101,110],[23])]
theorem Z8E (X:List Nat) (w:World) (hX:∀ b∈X,b<w.heap.size):CC 290 #[] w fun r w'=>∃ m,r=.map (some m)∧Zag X w' m Z7w∧Stp [] w w':=by
 refine cW0 21 Tryz.func290 ?_;refine W ?_;refine Z1 (Z0R str) rfl ?_;rintro _ w1 ⟨m,rfl,hm,hmap,hS⟩;have hmp:Zag X w1 m []:=⟨[],hmap,rfl,fun i h=>absurd h (Xu _)⟩
 have hml:=hmap.lt;clear hmap;have hXw:∀ b∈m :: X,b≤m:=fun b hb=>(Xb.1 hb).elim (fun h=>by omega) (fun h=>by have:=hX b h;omega)
 refine Z1 (Z0 (vs:=[(0,.I 5)]) rfl (Zt _)) rfl ?_;rintro bv w2 hN;have hbv:SlV (m :: X) w2 bv [(5:Int)]:=hN.slv (fun b hb=>by have:=hXw b hb;omega) rfl rfl (by simp [maxLen]);have hS2:=Z6.stp hN;clear hN;replace hmp:=hmp.up hS2;have hml2:=hS2.size;refine Z5 (ZS (a:=[43]) rfl rfl rfl hmp hbv (by decide)) ?_;clear hmp;rintro _ w3 ⟨hmp,hS3⟩;have hml3:=hS3.size;replace hml:=Xa (Xa hml hml2) hml3;replace hS:=(hS.trans hS2).ow hS3;clear hS2 hS3 hbv hml2 hml3;refine Z1 (Z0 (vs:=[(0,.I 7)]) rfl (Zt _)) rfl ?_;rintro bv w2 hN;have hbv:SlV (m :: X) w2 bv [(7:Int)]:=hN.slv (fun b hb=>by have:=hXw b hb;omega) rfl rfl (by simp [maxLen]);have hS2:=Z6.stp hN;clear hN;replace hmp:=hmp.up hS2;have hml2:=hS2.size;refine Z5 (ZS (a:=[42]) rfl rfl rfl hmp hbv (by decide)) ?_;clear hmp;rintro _ w3 ⟨hmp,hS3⟩;have hml3:=hS3.size;replace hml:=Xa (Xa hml hml2) hml3;replace hS:=(hS.trans hS2).ow hS3;clear hS2 hS3 hbv hml2 hml3;refine Z1 (Z0 (vs:=[(0,.I 12)]) rfl (Zt _)) rfl ?_;rintro bv w2 hN;have hbv:SlV (m :: X) w2 bv [(12:Int)]:=hN.slv (fun b hb=>by have:=hXw b hb;omega) rfl rfl (by simp [maxLen]);have hS2:=Z6.stp hN;clear hN;replace hmp:=hmp.up hS2;have hml2:=hS2.size;refine Z5 (ZS (a:=[110,111,116]) rfl rfl rfl hmp hbv (by decide)) ?_;clear hmp;rintro _ w3 ⟨hmp,hS3⟩;have hml3:=hS3.size;replace hml:=Xa (Xa hml hml2) hml3;replace hS:=(hS.trans hS2).ow hS3;clear hS2 hS3 hbv hml2 hml3;refine Z1 (Z0 (vs:=[(0,.I 9)]) rfl (Zt _)) rfl ?_;rintro bv w2 hN;have hbv:SlV (m :: X) w2 bv [(9:Int)]:=hN.slv (fun b hb=>by have:=hXw b hb;omega) rfl rfl (by simp [maxLen]);have hS2:=Z6.stp hN;clear hN;replace hmp:=hmp.up hS2;have hml2:=hS2.size;refine Z5 (ZS (a:=[60]) rfl rfl rfl hmp hbv (by decide)) ?_;clear hmp;rintro _ w3 ⟨hmp,hS3⟩;have hml3:=hS3.size;replace hml:=Xa (Xa hml hml2) hml3;replace hS:=(hS.trans hS2).ow hS3;clear hS2 hS3 hbv hml2 hml3;refine Z1 (Z0 (vs:=[(0,.I 10)]) rfl (Zt _)) rfl ?_;rintro bv w2 hN;have hbv:SlV (m :: X) w2 bv [(10:Int)]:=hN.slv (fun b hb=>by have:=hXw b hb;omega) rfl rfl (by simp [maxLen]);have hS2:=Z6.stp hN;clear hN;replace hmp:=hmp.up hS2;have hml2:=hS2.size;refine Z5 (ZS (a:=[60,61]) rfl rfl rfl hmp hbv (by decide)) ?_;clear hmp;rintro _ w3 ⟨hmp,hS3⟩;have hml3:=hS3.size;replace hml:=Xa (Xa hml hml2) hml3;replace hS:=(hS.trans hS2).ow hS3;clear hS2 hS3 hbv hml2 hml3;refine Z1 (Z0 (vs:=[(0,.I 11)]) rfl (Zt _)) rfl ?_;rintro bv w2 hN;have hbv:SlV (m :: X) w2 bv [(11:Int)]:=hN.slv (fun b hb=>by have:=hXw b hb;omega) rfl rfl (by simp [maxLen]);have hS2:=Z6.stp hN;clear hN;replace hmp:=hmp.up hS2;have hml2:=hS2.size;refine Z5 (ZS (a:=[61]) rfl rfl rfl hmp hbv (by decide)) ?_;clear hmp;rintro _ w3 ⟨hmp,hS3⟩;have hml3:=hS3.size;replace hml:=Xa (Xa hml hml2) hml3;replace hS:=(hS.trans hS2).ow hS3;clear hS2 hS3 hbv hml2 hml3;refine Z1 (Z0 (vs:=[(0,.I 10),(1,.I 12)]) rfl (JX _ _)) rfl ?_;rintro bv w2 hN;have hbv:SlV (m :: X) w2 bv [(10:Int),(12:Int)]:=hN.slv (fun b hb=>by have:=hXw b hb;omega) rfl rfl (by simp [maxLen]);have hS2:=Z6.stp hN;clear hN;replace hmp:=hmp.up hS2;have hml2:=hS2.size;refine Z5 (ZS (a:=[62]) rfl rfl rfl hmp hbv (by decide)) ?_;clear hmp;rintro _ w3 ⟨hmp,hS3⟩;have hml3:=hS3.size;replace hml:=Xa (Xa hml hml2) hml3;replace hS:=(hS.trans hS2).ow hS3;clear hS2 hS3 hbv hml2 hml3;refine Z1 (Z0 (vs:=[(0,.I 9),(1,.I 12)]) rfl (JX _ _)) rfl ?_;rintro bv w2 hN;have hbv:SlV (m :: X) w2 bv [(9:Int),(12:Int)]:=hN.slv (fun b hb=>by have:=hXw b hb;omega) rfl rfl (by simp [maxLen]);have hS2:=Z6.stp hN;clear hN;replace hmp:=hmp.up hS2;have hml2:=hS2.size;refine Z5 (ZS (a:=[62,61]) rfl rfl rfl hmp hbv (by decide)) ?_;clear hmp;rintro _ w3 ⟨hmp,hS3⟩;have hml3:=hS3.size;replace hml:=Xa (Xa hml hml2) hml3;replace hS:=(hS.trans hS2).ow hS3;clear hS2 hS3 hbv hml2 hml3;refine Z1 (Z0 (vs:=[(0,.I 11),(1,.I 12)]) rfl (JX _ _)) rfl ?_;rintro bv w2 hN;have hbv:SlV (m :: X) w2 bv [(11:Int),(12:Int)]:=hN.slv (fun b hb=>by have:=hXw b hb;omega) rfl rfl (by simp [maxLen]);have hS2:=Z6.stp hN;clear hN;replace hmp:=hmp.up hS2;have hml2:=hS2.size;refine Z5 (ZS (a:=[33,61]) rfl rfl rfl hmp hbv (by decide)) ?_;clear hmp;rintro _ w3 ⟨hmp,hS3⟩;have hml3:=hS3.size;replace hml:=Xa (Xa hml hml2) hml3;replace hS:=(hS.trans hS2).ow hS3;clear hS2 hS3 hbv hml2 hml3;refine Z1 (Z0 (vs:=[(0,.I 15)]) rfl (Zt _)) rfl ?_;rintro bv w2 hN;have hbv:SlV (m :: X) w2 bv [(15:Int)]:=hN.slv (fun b hb=>by have:=hXw b hb;omega) rfl rfl (by simp [maxLen]);have hS2:=Z6.stp hN;clear hN;replace hmp:=hmp.up hS2;have hml2:=hS2.size;refine Z5 (ZS (a:=[100,97,121,115]) rfl rfl rfl hmp hbv (by decide)) ?_;clear hmp;rintro _ w3 ⟨hmp,hS3⟩;have hml3:=hS3.size;replace hml:=Xa (Xa hml hml2) hml3;replace hS:=(hS.trans hS2).ow hS3;clear hS2 hS3 hbv hml2 hml3;refine Z1 (Z0 (vs:=[(0,.I 16)]) rfl (Zt _)) rfl ?_;rintro bv w2 hN;have hbv:SlV (m :: X) w2 bv [(16:Int)]:=hN.slv (fun b hb=>by have:=hXw b hb;omega) rfl rfl (by simp [maxLen]);have hS2:=Z6.stp hN;clear hN;replace hmp:=hmp.up hS2;have hml2:=hS2.size;refine Z5 (ZS (a:=[119,101,101,107,115]) rfl rfl rfl hmp hbv (by decide)) ?_;clear hmp;rintro _ w3 ⟨hmp,hS3⟩;have hml3:=hS3.size;replace hml:=Xa (Xa hml hml2) hml3;replace hS:=(hS.trans hS2).ow hS3;clear hS2 hS3 hbv hml2 hml3;refine Z1 (Z0 (vs:=[(0,.I 17)]) rfl (Zt _)) rfl ?_;rintro bv w2 hN;have hbv:SlV (m :: X) w2 bv [(17:Int)]:=hN.slv (fun b hb=>by have:=hXw b hb;omega) rfl rfl (by simp [maxLen]);have hS2:=Z6.stp hN;clear hN;replace hmp:=hmp.up hS2;have hml2:=hS2.size;refine Z5 (ZS (a:=[109,111,110,116,104,115]) rfl rfl rfl hmp hbv (by decide)) ?_;clear hmp;rintro _ w3 ⟨hmp,hS3⟩;have hml3:=hS3.size;replace hml:=Xa (Xa hml hml2) hml3;replace hS:=(hS.trans hS2).ow hS3;clear hS2 hS3 hbv hml2 hml3;refine Z1 (Z0 (vs:=[(0,.I 18)]) rfl (Zt _)) rfl ?_;rintro bv w2 hN;have hbv:SlV (m :: X) w2 bv [(18:Int)]:=hN.slv (fun b hb=>by have:=hXw b hb;omega) rfl rfl (by simp [maxLen]);have hS2:=Z6.stp hN;clear hN;replace hmp:=hmp.up hS2;have hml2:=hS2.size;refine Z5 (ZS (a:=[99,111,117,114,116,100,97,121,115]) rfl rfl rfl hmp hbv (by decide)) ?_;clear hmp;rintro _ w3 ⟨hmp,hS3⟩;have hml3:=hS3.size;replace hml:=Xa (Xa hml hml2) hml3;replace hS:=(hS.trans hS2).ow hS3;clear hS2 hS3 hbv hml2 hml3;refine Z1 (Z0 (vs:=[(0,.I 19)]) rfl (Zt _)) rfl ?_;rintro bv w2 hN;have hbv:SlV (m :: X) w2 bv [(19:Int)]:=hN.slv (fun b hb=>by have:=hXw b hb;omega) rfl rfl (by simp [maxLen]);have hS2:=Z6.stp hN;clear hN;replace hmp:=hmp.up hS2;have hml2:=hS2.size;refine Z5 (ZS (a:=[110,101,120,116]) rfl rfl rfl hmp hbv (by decide)) ?_;clear hmp;rintro _ w3 ⟨hmp,hS3⟩;have hml3:=hS3.size;replace hml:=Xa (Xa hml hml2) hml3;replace hS:=(hS.trans hS2).ow hS3;clear hS2 hS3 hbv hml2 hml3;refine Z1 (Z0 (vs:=[(0,.I 20)]) rfl (Zt _)) rfl ?_;rintro bv w2 hN;have hbv:SlV (m :: X) w2 bv [(20:Int)]:=hN.slv (fun b hb=>by have:=hXw b hb;omega) rfl rfl (by simp [maxLen]);have hS2:=Z6.stp hN;clear hN;replace hmp:=hmp.up hS2;have hml2:=hS2.size;refine Z5 (ZS (a:=[112,114,101,118]) rfl rfl rfl hmp hbv (by decide)) ?_;clear hmp;rintro _ w3 ⟨hmp,hS3⟩;have hml3:=hS3.size;replace hml:=Xa (Xa hml hml2) hml3;replace hS:=(hS.trans hS2).ow hS3;clear hS2 hS3 hbv hml2 hml3;refine Z1 (Z0 (vs:=[(0,.I 21)]) rfl (Zt _)) rfl ?_;rintro bv w2 hN;have hbv:SlV (m :: X) w2 bv [(21:Int)]:=hN.slv (fun b hb=>by have:=hXw b hb;omega) rfl rfl (by simp [maxLen]);have hS2:=Z6.stp hN;clear hN;replace hmp:=hmp.up hS2;have hml2:=hS2.size;refine Z5 (ZS (a:=[108,97,116,101,114]) rfl rfl rfl hmp hbv (by decide)) ?_;clear hmp;rintro _ w3 ⟨hmp,hS3⟩;have hml3:=hS3.size;replace hml:=Xa (Xa hml hml2) hml3;replace hS:=(hS.trans hS2).ow hS3;clear hS2 hS3 hbv hml2 hml3;refine Z1 (Z0 (vs:=[(0,.I 22)]) rfl (Zt _)) rfl ?_;rintro bv w2 hN;have hbv:SlV (m :: X) w2 bv [(22:Int)]:=hN.slv (fun b hb=>by have:=hXw b hb;omega) rfl rfl (by simp [maxLen]);have hS2:=Z6.stp hN;clear hN;replace hmp:=hmp.up hS2;have hml2:=hS2.size;refine Z5 (ZS (a:=[101,97,114,108,105,101,114]) rfl rfl rfl hmp hbv (by decide)) ?_;clear hmp;rintro _ w3 ⟨hmp,hS3⟩;have hml3:=hS3.size;replace hml:=Xa (Xa hml hml2) hml3;replace hS:=(hS.trans hS2).ow hS3;clear hS2 hS3 hbv hml2 hml3;refine Z1 (Z0 (vs:=[(0,.I 23)]) rfl (Zt _)) rfl ?_;rintro bv w2 hN;have hbv:SlV (m :: X) w2 bv [(23:Int)]:=hN.slv (fun b hb=>by have:=hXw b hb;omega) rfl rfl (by simp [maxLen]);have hS2:=Z6.stp hN;clear hN;replace hmp:=hmp.up hS2;have hml2:=hS2.size;refine Z5 (ZS (a:=[98,101,116,119,101,101,110]) rfl rfl rfl hmp hbv (by decide)) ?_;clear hmp;rintro _ w3 ⟨hmp,hS3⟩;have hml3:=hS3.size;replace hml:=Xa (Xa hml hml2) hml3;replace hS:=(hS.trans hS2).ow hS3;clear hS2 hS3 hbv hml2 hml3;refine RT ?_;exact ⟨m,rfl,hmp,hS⟩
def opF (s:Str):List Int:=match Z7w.find? (fun p=>decide (p.1=s)) with|some p=>p.2|none=>[]
theorem ZeD (s:Str):(opF s).length≤2:=by
 unfold opF;cases h:Z7w.find? (fun p=>decide (p.1=s)) with
 | none=>simp
 | some p=>
   have hp:=X3 h;have:∀ p∈Z7w,p.2.length≤2:=by decide
   exact this p hp
theorem Zag.get {X:List Nat} {w} {m:Nat} (h:Zag X w m Z7w) (s:Str):∃ l:List (Str×Value),JI str w m l∧SlV X w (Z3t l s (.N)) (opF s):=by
 obtain ⟨l,h1,h2,h3⟩:=h;refine ⟨l,h1,?_⟩;unfold Z3t opF;have hf:(l.find? (fun p=>decide (p.1=s))=none∧Z7w.find? (fun p=>decide (p.1=s))=none)∨∃ i,∃ (h:i<l.length) (h':i<Z7w.length),l.find? (fun p=>decide (p.1=s))=some l[i]∧Z7w.find? (fun p=>decide (p.1=s))=some Z7w[i]:=by
  cases hq:l.find? (fun p=>decide (p.1=s)) with
  | none=>
    left;refine ⟨rfl,?_⟩;rw [Yao];intro p hp;obtain ⟨i,hi,rfl⟩:=Xr hp;have:=Yao.1 hq l[i] (Xd (by omega))
    rwa [(h3 i (by omega) hi).1] at this
  | some p=>
    right;obtain ⟨hp,i,hi,rfl,hb⟩:=Yap.1 hq;refine ⟨i,hi,by omega,rfl,?_⟩;rw [Yap];refine ⟨by rw [← (h3 i hi (by omega)).1];exact hp,i,by omega,rfl,fun j hj=>?_⟩;rw [← (h3 j (by omega) (by omega)).1];exact hb j hj
 rcases hf with ⟨e1,e2⟩|⟨i,h,h',e1,e2⟩
 rw [e1,e2];exact ⟨none,0,rfl,Xn _,by simp [maxLen],fun _=>rfl,fun i h=>absurd h (Xu _)⟩;rw [e1,e2];exact (h3 i h h').2.ext (Stp.refl [] w) (by simp) (fun b hb=>.inl (XE _ hb))
def Jn:List Cf→Nat→List Ins
 | [],_=>[]
 | c :: r,p=>c p++Jn r (p+(c p).length)
theorem Z6E (a b:List Cf) (p:Nat):Jn (a++b) p=Jn a p++Jn b (p+(Jn a p).length):=by
 induction a generalizing p with
 | nil=>simp [Jn]
 | cons c r ih=>
   simp only [XR,Jn,ih,Xc,Xx];rw [Yav]
theorem Z91 (cs:List Cf) (p i:Nat) (h:i<cs.length):Jn (cs.take (i+1)) p=Jn (cs.take i) p++cs[i] (p+(Jn (cs.take i) p).length):=by
 rw [Xi h,Z6E];simp [Jn]
theorem Z7a (cs:List Cf) (p i:Nat):(Jn (cs.take i) p).length≤(Jn cs p).length:=by
 have:Jn cs p=Jn (cs.take i) p++Jn (cs.drop i) (p+(Jn (cs.take i) p).length):=by rw [← Z6E,XB]
 rw [this,Xc];omega
def Z29 (l:List Int):List Ins:=l.map (fun o=>⟨o,0⟩)
def Z0C (k:Int) (s:Str) (cs:List Cf) (p:Nat):List Ins:=Jn cs p++(if k=8∨k=5∧s=[45] then [⟨8,0⟩] else [])++Z29 (opF s)
theorem ZfE (x:Nd) (cs:List Cf) (hcl:cs.length=x.kids.length) (hcs:∀ i (h:i<x.kids.length) (h':i<cs.length),Zdw x.kids[i] cs[i]) (w) (bc base:Nat) (v nv:Value) (xs:List Ins) (hc:Cod w bc base v xs)
 (hx:NdV (bc :: ob v) w nv x) (hF:SlV (bc :: ob v) w Z2q Zf) (hl:xs.length+(Z0C x.kind x.word cs xs.length).length≤100000) :
 CC 234 #[pQ bc,nv] w fun r w'=>Z3k w bc base v (xs++Z0C x.kind x.word cs xs.length) w':=by
 have hl':=hl;unfold Z0C at hl';simp only [Xc] at hl';obtain ⟨kv,rfl,hs⟩:=hx;have hmax:=hs.max;refine cW2 47 Tryz.func234 ?_;refine W ?_;refine Z1 (Zq rfl) rfl ?_;rintro _ wA ⟨b,rfl,hb,hblk,hS⟩;replace hblk:Blk wA b _ (ndC x kv):=hblk;have hobv:∀ b∈bc :: ob v,b<w.heap.size:=fun b hb=>by
  rcases Xb.1 hb with rfl|h
  exact hc.blk.lt;exact (hc.row.ob_le b h).2
 have nb:b∉bc :: ob v:=fun h=>by have:=hobv _ h;omega
 replace hc:=hc.up hS;replace hs:=hs.up hS;replace hF:=hF.up hS;have main:∀ ys w',Z3k wA bc base v ys w'→Z3k w bc base v ys w':=fun ys w' h=>h.pre hS;refine W ?_;refine Z0l (σ:=Value) (fun u=>[(0,pQ bc),(3,pQ b)]) (fun u w'=>Fr wA w' bc base v u (xs++Jn cs xs.length)) ?_ ?_;refine LP (σ:=Nat×Value) (fun q=>[(0,pQ bc),(3,pQ b),(9,kv),(10,.I (x.kids.length:Int)),(11,.I (q.1:Int))]) (fun q w'=>q.1≤x.kids.length∧Fr wA w' bc base v q.2 (xs++Jn (cs.take q.1) xs.length)) (fun q=>x.kids.length - q.1) (0,v) ⟨Xq _,by simpa [Jn] using Fr.start hc⟩ ?_;rintro ⟨j,u⟩ w2 ⟨hj,fr⟩;dsimp only at hj fr ⊢;by_cases hlt:j<x.kids.length;have hs2:=fr.sl hs;obtain ⟨kv2,hk2,hc2⟩:=hs2.nd hlt;have hst:=Z91 cs xs.length j (by omega);have hle:=Z7a cs xs.length (j+1);have hle0:=Z7a cs xs.length j;rw [hst,Xc] at hle;refine QO ?_;apply Z4 (JG rfl rfl hs2 hlt hc2) rfl;refine Z1 Z2 rfl ?_;rintro _ w3 ⟨b3,rfl,hb3,hblk3,hS3⟩;refine SB (us:=ndC x.kids[j] kv2) (Zi hk2) hblk3 ?_;rintro _ w4 ⟨hS4,hblk4⟩;have hS34:=hS3.ow hS4;replace fr:=fr.up hS34;replace hk2:=hk2.up hS34;refine W ?_;have hlen:(xs++Jn (cs.take j) xs.length).length=xs.length+(Jn (cs.take j) xs.length).length:=Xc;refine CM (Zh rfl rfl) (hcs j hlt (by omega) _ bc base _ _ _ fr.cod ⟨kv2,rfl,hk2⟩ (fr.sl hF) (by rw [hlen];omega)) ?_;rintro _ w5 hq;obtain ⟨u5,fr⟩:=fr.step hq;rw [hlen,Xx,← hst] at fr;refine W ?_;exact QL (j+1,u5) ⟨by dsimp only;omega,fr⟩ (by dsimp only;omega);have hje:j=x.kids.length:=by omega
 subst hje;rw [← hcl,Xo] at fr;refine QO ?_;exact QT u fr;rintro u w2 fr;have hbk:=fr.bk hblk nb;unfold Z0C;generalize Jn cs xs.length=A at *;rw [← Xx,← Xx];refine Zhk (σ:=Value) (fun u=>[(0,pQ bc),(3,pQ b)]) (fun u w'=>Fr wA w' bc base v u (xs++A++if x.kind=8∨x.kind=5∧x.word=[45] then [⟨8,0⟩] else [])) ?_ ?_;by_cases hneg:x.kind=8∨x.kind=5∧x.word=[45]
 · have hln:(xs++A).length≤1000000:=by simp only [Xc];omega
   rw [if_pos hneg];repeat'(first|refine W1 ?_|omega|refine VG ?_ ?_<;>intro hg|refine VC ?_ ?_<;>intro hc)
   all_goals first
    | (refine CL (Z2U bc base _ _ 8 0 _ fr.cod hln) ?_
       rintro _ w3 ⟨rfl,hq⟩;obtain ⟨u3,fr⟩:=fr.step hq;refine W ?_;exact QT u3 fr)
    | (exfalso;rcases hneg with h|⟨h1,h2⟩<;>first|omega|contradiction)
 · rw [if_neg hneg,XG]
   have hn8:¬ x.kind=8:=fun h=>hneg (.inl h);repeat'(first|refine W1 ?_|omega|refine VG ?_ ?_<;>intro hg|refine VC ?_ ?_<;>intro hc)
   all_goals first
    | exact QT u fr
    | (exfalso;exact hneg (.inr ⟨by assumption,by assumption⟩))
 rintro u3 w3 fr;have hbk:=fr.bk hblk nb;have hol:=ZeD x.word;generalize hB:xs++A++(if x.kind=8∨x.kind=5∧x.word=[45] then [(⟨8,0⟩:Ins)] else [])=B at *;have hBl:B.length≤200000:=by
  rw [← hB];simp only [Xc];have:(if x.kind=8∨x.kind=5∧x.word=[45] then [(⟨8,0⟩:Ins)] else []).length≤1:=by split<;>simp
  omega
 refine W ?_;refine ZDr 6 [] [] [(1,0),(2,1),(5,0),(0,2),(3,2),(4,0)] (fun w1 hS1=>?_);replace fr:=fr.up hS1;replace hbk:=hbk.up hS1;have hou:∀ b∈bc :: ob u3,b<w1.heap.size:=fun b hb=>(Xb.1 hb).elim (fun h=>h ▸ fr.cod.blk.lt) (fun h=>(fr.cod.row.ob_le b h).2);refine D ?_;refine DC (Z8E (bc :: ob u3) _ hou) (fun _ _ h=>h.choose_spec.2.2) ?_;rintro _ w5 ⟨m,rfl,hm,hS5⟩;replace fr:=fr.up hS5;obtain ⟨l,hml,hsl⟩:=hm.get x.word;refine Zc rfl trivial (Zoj (Z1K (K:=inferInstance) (a:=x.word) rfl rfl hml)) (fun _ _ h=>h.2 ▸ Stp.refl _ _) rfl ?_;rintro _ _ ⟨rfl,rfl⟩;generalize Z3t l x.word (.N)=ov at *;generalize opF x.word=O at *;refine D ?_;refine W ?_;refine LP (σ:=Nat×Value) (fun q=>[(0,pQ bc),(37,ov),(38,.I (O.length:Int)),(39,.I (q.1:Int))]) (fun q w'=>q.1≤O.length∧SlV (bc :: ob q.2) w' ov O∧Fr wA w' bc base v q.2 (B++Z29 (O.take q.1))) (fun q=>O.length - q.1) (0,u3) ⟨Xq _,hsl,by simpa [Z29] using fr⟩ ?_;clear fr hsl hou;rintro ⟨j,u⟩ w6 ⟨hj,hsl,fr⟩;dsimp only at hj fr ⊢;by_cases hlt:j<O.length;have hln:(B++Z29 (O.take j)).length≤1000000:=by simp only [Xc,Z29,Xs,Xt];omega
 refine QO ?_;refine CL (Z2U bc base _ _ O[j] 0 _ fr.cod hln) ?_;rintro _ w7 ⟨rfl,hq⟩;obtain ⟨u7,hc7,hS7,hb7⟩:=id hq;have hsl7:SlV (bc :: ob u7) w7 ov O:=Zom hsl hS7 hb7;have fr7:Fr wA w7 bc base v u7 (B++Z29 (O.take j)++[⟨O[j],0⟩]):=by
  refine ⟨hc7,?_,fun b hb=>?_⟩;exact fr.stp.own hS7 (fun b hb=>by
   rcases Xb.1 hb with rfl|h
   exact .inl (by simp);exact (fr.sub b h).imp (fun h=>XE _ h) id)
  rcases hb7 b hb with h|h
  exact fr.sub b h;exact .inr (Xg fr.stp.size h)
 refine W ?_;refine QL (j+1,u7) ⟨by dsimp only;omega,hsl7,?_⟩ (by dsimp only;omega);dsimp only;rw [Xi hlt];unfold Z29 at fr7 ⊢;rw [XI,← Xx];exact fr7;have hje:j=O.length:=by omega
 subst hje;rw [Xo] at fr;refine QO ?_;refine WR ?_;exact .mk (main _ _ fr.fin)
def Z0Z (k n:Int) (s:Str):Ins:=if k=1 then ⟨1,n⟩ else if k=2 then ⟨2,n⟩ else if k=3 then ⟨3,n⟩ else ⟨4,(ZR s).1⟩
def Z4S:Cf:=fun _=>[]
def Z1b (k n:Int) (s:Str) (cs:List Cf) (p:Nat):List Ins:=
 if cs.length=0 then [Z0Z k n s]
 else if k=9 then chC (cs.getD 0 Z4S) (cs.getD 1 Z4S) (cs.getD 2 Z4S) p
 else if k=6∧s=[97,110,100] then chC (cs.getD 0 Z4S) (cs.getD 1 Z4S) (fun _=>[⟨2,0⟩]) p
 else if k=6∧s=[111,114] then chC (cs.getD 0 Z4S) (fun _=>[⟨2,1⟩]) (cs.getD 1 Z4S) p
 else if k=6∧s=[45] then Z0C k s cs p++[⟨6,0⟩]
 else Z0C k s cs p
def Zb:Nd→Nat→List Ins
 | .mk k n s l=>Z1b k n s (l.map Zb)
theorem Z5b (x:Nd):Zb x=Z1b x.kind x.num x.word (x.kids.map Zb):=by
 cases x;rw [Zb];rfl
theorem Zj3 (w):(Instr.build 97 #[(0,.I 2)]).run Tryz.prog w=.ok (.agg #[.I 2,.I 0,str [],.N]) w:=by kernel_rfl
theorem Zj4 (w):(Instr.build 97 #[(0,.I 2),(1,.I 1)]).run Tryz.prog w=.ok (.agg #[.I 2,.I 1,str [],.N]) w:=by kernel_rfl
theorem Zm {α:Type} [Z7 α] (X:List Nat) (w:World):SlV (α:=α) X w (.N) []:=⟨none,0,rfl,Xn _,by simp [maxLen],fun _=>rfl,fun i h=>absurd h (Xu _)⟩
theorem Z2d {α:Type} [Z7 α] {X:List Nat} {w w':World} {v u:Value} {l:List α} {i k j:Nat} (hs:SlV X w v l) (hi:i<l.length) (hS:Stp X w w') (h:w.cell? (Zp v i k j)=some u):w'.cell? (Zp v i k j)=some u:=by
 obtain ⟨p,c,rfl,_,_,_,hc⟩:=hs;obtain ⟨b,o,cs,rfl,_,hx,_⟩:=hc i hi;exact hS.cell hx h
theorem SlV.nil {α:Type} [Z7 α] {X:List Nat} {w} {v:Value} {l:List α} (h:SlV X w v l):SlV [] w v l:=h.ext (Stp.refl [] w) (by simp) (by simp)
theorem Z7x {x:Nd} (h:x.kids=[]) (p:Nat):Zb x p=[Z0Z x.kind x.num x.word]:=by
 rw [Z5b,h];simp [Z1b]
theorem Zdx {x:Nd} (h:x.kids≠[]):(x.kids.map Zb).length≠0:=by simpa using h
theorem Z7y {x:Nd} {i:Nat} (h:i<x.kids.length):(x.kids.map Zb).getD i Z4S=Zb x.kids[i]:=by simp [List.getD,h]
inductive Smp:Nd→Prop
 | mk {x:Nd} (h6:x.kind≠6) (h9:x.kind≠9) (hk:∀ y∈x.kids,Smp y):Smp x
theorem Smp.k6 {x:Nd} (h:Smp x):x.kind≠6:=by cases h;assumption
theorem Smp.k9 {x:Nd} (h:Smp x):x.kind≠9:=by cases h;assumption
theorem Smp.kids {x:Nd} (h:Smp x):∀ y∈x.kids,Smp y:=by cases h;assumption
theorem ZmJ (x:Nd):Ze x≠0→Smp x→Zdw x (Zb x):=by
 induction x using Nd.ind with
 | h k n s l ih=>
 intro hty hsm;have hkt:=(Z4R hty).2;have hcs:∀ i (h:i<(Nd.mk k n s l).kids.length) (h':i<((Nd.mk k n s l).kids.map Zb).length),Zdw (Nd.mk k n s l).kids[i] ((Nd.mk k n s l).kids.map Zb)[i]:=by
  intro i h h';rw [List.getElem_map];exact ih _ (Xd h) (hkt _ (Xd h)) (hsm.kids _ (Xd h))
 have hcl:((Nd.mk k n s l).kids.map Zb).length=(Nd.mk k n s l).kids.length:=by simp
 have hsh:=Z6D hty;have hlf:=Zdv hty;have hcN:=Z5b (.mk k n s l);have hcL:=Z7x (x:=.mk k n s l);have hkl:(Nd.mk k n s l).kids≠[]→5≤(Nd.mk k n s l).kind:=by
  intro h;rcases (hsh h).2 with ⟨h,_,_⟩|⟨h,_,_⟩|⟨h,_,_⟩|⟨h,_⟩|⟨h,_,_⟩<;>omega
 have hk6:(Nd.mk k n s l).kind=6→(Nd.mk k n s l).kids.length=2:=by
  intro h6;by_cases h0:(Nd.mk k n s l).kids=[]
  have:=hlf h0;omega;rcases (hsh h0).2 with ⟨h,_,_⟩|⟨h,_,hm⟩|⟨h,_,_⟩|⟨h,_⟩|⟨h,_,_⟩<;>omega
 have hk9:(Nd.mk k n s l).kind=9→(Nd.mk k n s l).kids.length=3:=by
  intro h6;by_cases h0:(Nd.mk k n s l).kids=[]
  have:=hlf h0;omega;rcases (hsh h0).2 with ⟨h,_,_⟩|⟨h,_,hm⟩|⟨h,_,_⟩|⟨h,hm⟩|⟨h,_,_⟩<;>omega
 have hgD:=fun i=>Z7y (x:=.mk k n s l) (i:=i);generalize (Nd.mk k n s l)=x at *;clear ih;intro w bc base v nv xs hcd hx hF hl;obtain ⟨kv,rfl,hs⟩:=hx;refine cW2 63 Tryz.func170 ?_;refine W ?_;refine Z1 (Zq rfl) rfl ?_;rintro _ wA ⟨b,rfl,hb,hblk,hS⟩;replace hblk:Blk wA b _ (ndC x kv):=hblk;have main:∀ ys w',Z3k wA bc base v ys w'→Z3k w bc base v ys w':=fun ys w' h=>h.pre hS;have hobv:∀ b∈bc :: ob v,b<w.heap.size:=fun b hb=>by
  rcases Xb.1 hb with rfl|h
  exact hcd.blk.lt;exact (hcd.row.ob_le b h).2
 have nb:b∉bc :: ob v:=fun h=>by have:=hobv _ h;omega
 replace hcd:=hcd.up hS;replace hs:=hs.up hS;replace hF:=hF.up hS;have leaf:∀ op n,[(⟨op,n⟩:Ins)]=Zb x xs.length→∀ w',Z3k wA bc base v (xs++[⟨op,n⟩]) w'→Z3k w bc base v (xs++Zb x xs.length) w':=fun op n h w' h'=>h ▸ main _ _ h';repeat'(first|refine W1 ?_|omega|refine VG ?_ ?_<;>intro hg|refine VC ?_ ?_<;>intro hc)
 have h0:x.kids=[]:=Decidable.byContradiction (fun h=>by have:=hkl h;omega);refine CM (Js rfl rfl rfl) (Z2U bc base _ _ 1 x.num _ hcd (by omega)) ?_;rintro _ w2 ⟨rfl,hq⟩;refine W ?_;refine WR ?_;exact .mk (leaf _ _ (by rw [hcL h0,Z0Z,if_pos (by assumption)]) _ hq);have h0:x.kids=[]:=Decidable.byContradiction (fun h=>by have:=hkl h;omega);refine CM (Js rfl rfl rfl) (Z2U bc base _ _ 2 x.num _ hcd (by omega)) ?_;rintro _ w2 ⟨rfl,hq⟩;refine W ?_;refine WR ?_;exact .mk (leaf _ _ (by rw [hcL h0,Z0Z,if_neg (by assumption),if_pos (by assumption)]) _ hq);have h0:x.kids=[]:=Decidable.byContradiction (fun h=>by have:=hkl h;omega);refine CM (Js rfl rfl rfl) (Z2U bc base _ _ 3 x.num _ hcd (by omega)) ?_;rintro _ w2 ⟨rfl,hq⟩;refine W ?_;refine WR ?_;exact .mk (leaf _ _ (by rw [hcL h0,Z0Z,if_neg (by assumption),if_neg (by assumption),if_pos (by assumption)]) _ hq);have h0:x.kids=[]:=Decidable.byContradiction (fun h=>by have:=hkl h;omega);refine CL (Z90 x.word _ (SlV.nil hF)) ?_;rintro _ w2 ⟨rfl,hS2⟩;refine W ?_;refine CM (Js rfl rfl rfl) (Z2U bc base _ _ 4 (ZR x.word).1 _ (hcd.up hS2) (by omega)) ?_;rintro _ w3 ⟨rfl,hq⟩;refine W ?_;refine WR ?_;exact .mk (leaf _ _ (by rw [hcL h0,Z0Z,if_neg (by assumption),if_neg (by assumption),if_neg (by assumption)]) _ (hq.pre hS2));exact absurd (by assumption) hsm.k6;exact absurd (by assumption) hsm.k9;have h0:x.kids≠[]:=fun h=>by have:=hlf h;omega
 have e0:Z1b x.kind x.num x.word (x.kids.map Zb) xs.length=Z0C x.kind x.word (x.kids.map Zb) xs.length:=by
  rw [Z1b,if_neg (Zdx h0),if_neg (by assumption),if_neg (fun h=>absurd h.1 (by assumption)),if_neg (fun h=>absurd h.1 (by assumption)),if_neg (fun h=>absurd h.1 (by assumption))]
 rw [hcN,e0] at hl ⊢;refine CL (ZfE x _ hcl hcs _ bc base _ _ _ hcd ⟨kv,rfl,hs⟩ hF hl) ?_;rintro _ w2 hq;refine W ?_;refine WR ?_;exact .mk (main _ _ hq)
theorem Zj5 (l:List Nd) (h:∀ y∈l,∀ p,(Zb y p).length≤8 * ZM y) (p:Nat):(Jn (l.map Zb) p).length≤8 * (l.map ZM).sum:=by
 induction l generalizing p with
 | nil=>simp [Jn]
 | cons x r ih=>
   simp only [Xy,Jn,Xc,List.sum_cons];have h1:=h x (by simp) p;have h2:=ih (fun y hy=>h y (by simp [hy])) (p+(Zb x p).length);omega
theorem ZbB (l:List Int):(Z29 l).length=l.length:=by simp [Z29]
theorem Zj6 {l:List Nd} (h:∀ y∈l,∀ p,(Zb y p).length≤8 * ZM y) (i p:Nat):((l.map Zb).getD i Z4S p).length≤8 * (l.map ZM).getD i 0:=by
 by_cases hi:i<l.length;simp [List.getD,hi];exact h _ (Xd hi) p;simp [List.getD,hi,Z4S]
theorem Zj7 (l:List Nat):l.getD 0 0+l.getD 1 0+l.getD 2 0≤l.sum:=by
 rcases l with _|⟨a,_|⟨b,_|⟨c,r⟩⟩⟩<;>simp<;>omega
theorem Zah (c y n:Cf) (A B C:Nat) (hc:∀ p,(c p).length≤A) (hy:∀ p,(y p).length≤B) (hn:∀ p,(n p).length≤C) (p:Nat):(chC c y n p).length≤A+B+C+2:=by
 unfold chC;simp only [Xc,Xe,Xf];have h1:=hc p;have h2:=hy (p+(c p).length+1);have h3:=hn (p+(c p).length+1+(y (p+(c p).length+1)).length+1);omega
theorem Z92 (x:Nd):∀ p,(Zb x p).length≤8 * ZM x:=by
 induction x using Nd.ind with
 | h k n s l ih=>
 intro p;rw [Z5b,Z17];show (Z1b k n s (l.map Zb) p).length≤8 * (1+(l.map ZM).sum);have hs:=Zj7 (l.map ZM);have g:=Zj6 ih;have hp:(Z0C k s (l.map Zb) p).length≤8 * (l.map ZM).sum+3:=by
  unfold Z0C;simp only [Xc,ZbB];have h1:=Zj5 l ih p;have h2:=ZeD s;have h3:(if k=8∨k=5∧s=[45] then [(⟨8,0⟩:Ins)] else []).length≤1:=by split<;>simp
  omega
 unfold Z1b;split;simp;omega;split;refine Xg (Zah _ _ _ _ _ _ (g 0) (g 1) (g 2) p) (by omega);split;refine Xg (Zah _ _ _ _ _ 1 (g 0) (g 1) (fun _=>by simp) p) (by omega);split;refine Xg (Zah _ _ _ _ 1 _ (g 0) (fun _=>by simp) (g 1) p) (by omega);split;simp only [Xc,Xe,Xf];omega;omega
def J0 (x:Nd):List Ins:=Zb x 0++[⟨24,0⟩]
def Z0D (x:Nd):Int:=if ZE x≤12 then (if Ze x=0 then 21 else if (J0 x).length > 200 then 2 else 0) else 2
def Zon (w:World) (x:Nd) (r:Value) (w':World):Prop:=∃ cv,r=.tuple #[cv,.I (Z0D x)]∧(∀ X:List Nat,(∀ b∈X,b<w.heap.size)→SlV X w' cv (if Z0D x=0 then J0 x else []))∧Stp [] w w'
theorem Z3A (v:Value) (x:Nd) (w) (hsm:Smp x) (hsz:ZM x≤1000) (hx:NdV [] w v x) (hF:SlV [] w Z2q Zf) :
 Calls Tryz.prog 93 #[v] w (Ret (Zon w x)):=by
 have hN:=hx;obtain ⟨kv,rfl,hs⟩:=hx;refine cW1 24 Tryz.func93 ?_;refine W ?_;refine Z1 (Zq rfl) rfl ?_;rintro _ w1 ⟨b,rfl,hb,hblk,hS⟩;replace hblk:Blk w1 b _ (ndC x kv):=hblk;replace hs:=hs.up hS;replace hN:=hN.up hS;replace hF:=hF.up hS;refine W ?_;refine CL (Zj0 [] [] _ x _ hN hF) ?_;rintro _ w2 ⟨rfl,hS2⟩;replace hs:=hs.up hS2;replace hN:=hN.up hS2;replace hF:=hF.up hS2;replace hblk:=hblk.up hS2;replace hS:=hS.trans hS2;by_cases hn:ZE x≤12
 case neg=>
  rw [if_neg hn,if_neg hn];have he:Z0D x=2:=by rw [Z0D,if_neg hn]
  refine QO ?_;refine WR ?_;refine .mk ⟨_,by rw [he];rfl,fun X hX=>?_,hS⟩;rw [he,if_neg (by decide)];exact Zm _ _
 by_cases ht:Ze x=0;rw [if_pos hn,if_pos hn,if_pos ht];have he:Z0D x=21:=by rw [Z0D,if_pos hn,if_pos ht]
 refine QO ?_;refine WR ?_;refine .mk ⟨_,by rw [he];rfl,fun X hX=>?_,hS⟩;rw [he,if_neg (by decide)];exact Zm _ _;rw [if_pos hn,if_pos hn,if_neg ht];refine QO ?_;refine Z1 Z2 rfl ?_;rintro _ w3 ⟨bc,rfl,hbc,hblkc,hS3⟩;replace hblk:=hblk.up hS3;replace hblkc:Blk w3 bc 244 [.N]:=hblkc;refine W ?_;have hcod:Cod w3 bc w3.heap.size (.N) []:=⟨hblkc,Row.nil,by simp [ob],hblkc.lt,Xn _⟩
 have fr:=Fr.start hcod;have hlen:=Z92 x 0;refine CL (ZmJ x ht hsm _ bc _ _ _ [] hcod ⟨kv,rfl,?_⟩ ?_ ?_) ?_;refine hs.ext hS3 (by simp) (fun c hc=>.inr ?_);simp [ob] at hc;omega;refine hF.ext hS3 (by simp) (fun c hc=>.inr ?_);simp [ob] at hc;omega;simp only [Xf];omega;rintro _ w4 hq;obtain ⟨v4,fr⟩:=fr.step hq;rw [XL,Xf] at fr;refine W ?_;refine CM (Js rfl rfl rfl) (Z2U bc _ _ _ 24 0 _ fr.cod (by omega)) ?_;rintro _ w5 ⟨rfl,hq⟩;obtain ⟨v5,fr⟩:=fr.step hq;have hfin:Stp [] w w5:=hS.trans (hS3.own fr.stp (fun c hc=>.inr (by simp [ob] at hc;omega)));have hrow:=fr.cod.row;have hblk5:=fr.cod.blk;have hslv:=hrow.slv0;have hel:((Zb x 0++[(⟨24,0⟩:Ins)]).length:Int)=(J0 x).length:=rfl;by_cases hg:(J0 x).length > 200;have he:Z0D x=2:=by rw [Z0D,if_pos hn,if_neg ht,if_pos hg]
 refine QO ?_;refine WR ?_;refine .mk ⟨_,by rw [he],fun X hX=>?_,hfin⟩;rw [he,if_neg (by decide)];exact Zm _ _;have he:Z0D x=0:=by rw [Z0D,if_pos hn,if_neg ht,if_neg hg]
 refine QO ?_;refine WR ?_;refine .mk ⟨_,by rw [he],fun X hX=>?_,hfin⟩;rw [he,if_pos rfl];exact Row.slv (X:=X) hrow (fun b hb=>by have:=hX b hb;have:=hS.size;have:=hS3.size;omega)
theorem Ztp (op:BinOp) (x y:Operand) (a b:Ins) (w):(eqGuard op 171 x y (agg a) (agg b)).run Tryz.prog w=.ok () w:=by
 cases op<;>kernel_rfl
end Go.Proofs.YtipfkbkkndacjaaGreatDoor
namespace Go.Eng
open Go Go.RowKit Go.Proofs
def ZI {β:Type} [Z3 β] (T:Nat) (w w':World) (v:Value) (xs:List β):Prop:=Row [] w' w.heap.size T v xs∧Stp [] w w'
section
variable {β:Type} [Z3 β] {T:Nat} {w w' w'':World} {v:Value} {xs ys:List β}
theorem Row.lower {α:Type} [Z7 α] {X:List Nat} {a b:Nat} {xs:List α} (h:Row X w b T v xs) (hab:a≤b):Row X w a T v xs:=by
 obtain ⟨css,h1,h2,h3,h4⟩:=h;refine ⟨css,h1,h2,h3,h4.imp id ?_⟩;rintro ⟨g,cap,cur,e1,e2,rest⟩;exact ⟨g,cap,cur,e1,Xg hab e2,rest⟩
theorem ZI.nil:ZI (β:=β) T w w (.N) []:=⟨Row.nil,Stp.refl _ _⟩
theorem ZI.up (h:ZI T w w' v xs) (hS:Stp [] w' w''):ZI T w w'' v xs:=⟨h.1.up hS,h.2.trans hS⟩
theorem ZI.pre (hS:Stp [] w w') (h:ZI T w' w'' v xs):ZI T w w'' v xs:=⟨h.1.lower hS.size,hS.trans h.2⟩
theorem ZI.one {cs:List Value} {len:Nat} (h:Z6 w T len cs v w') (hl:len=xs.length) (hc:cs=xs.flatMap Z3.enc) (hm:xs.length≤maxLen):ZI T w w' v xs:=⟨h.row (Xn _) hl hc hm,h.choose_spec.2.2.2⟩
theorem ZI.slv (h:ZI T w w' v xs) {X:List Nat} (hX:∀ b∈X,b<w.heap.size):SlV X w' v xs:=Row.slv (X:=X) h.1 hX
theorem ZI.ob_le (h:ZI T w w' v xs):∀ b∈ob v,w.heap.size≤b∧b<w'.heap.size:=h.1.ob_le
theorem ZI.step {S:List Nat} (h:ZI T w w' v xs) (hS:Stp S w' w'') (ho:∀ b∈S,b∈ob v):Stp [] w w'':=h.2.own hS (fun b hb=>.inr (h.ob_le b (ho b hb)).1)
section
variable {P:Program} {n:Nat} {e:Env} {d:Option Nat} {ty:TypeId} {pos:String} {af:Array Edge} {g:Option (Nat×Bool)}
theorem JB {x y:Operand} {t bytes:Nat} {u:Value} {z:Value} [ht:Und P t (.slice T)] [hk:Siz P T (Z7.k β)] [hb:Byt P T bytes] [hz:Zer P T z] (hzs:z.cells.size=Z7.k β) (hpos:0<Z7.k β)
 (hx:ev e x=some v) (hy:ev e y=some u) (h:ZI T w w' v xs) (hys:SlV (ob v) w' u ys) (hbytes:(xs.length+ys.length) * bytes≤140737488355328) (hlen:xs.length+ys.length≤maxLen) :
 OE P n ⟨d,.call { callee:=.builtin .append,args:=#[x,y],argTypes:=#[t,t] },ty,pos,af,g⟩ e w' (fun v' w''=>ZI T w w'' v' (xs++ys)∧Stp (ob v) w' w''∧∀ b∈ob v',b∈ob v∨w'.heap.size≤b):=by
 refine (ZW (X:=[]) (base:=w.heap.size) hzs hpos hx hy h.1 (by rw [XG];exact hys) hbytes hlen h.2.size).mono ?_;rintro v' w2 ⟨h1,h2,h3⟩;exact ⟨⟨h1,h.step h2 (fun _ hb=>hb)⟩,h2,h3⟩
theorem Zai {i j k:Nat} {t:TypeId} {x y:Operand} {u:Value} {y':β} [hsz:Siz P t 1] (hx:ev e x=some (.pointer (some (Zp v i k j)))) (hy:ev e y=some u) (hk:k=Z3.k β)
 (hu:u.cells.toList=[u]) (h1:u.oneCell'=true) (h:ZI T w w' v xs) (hi:i<xs.length) (hj:j<Z3.k β) (hr':Z3.enc y'=(Z3.enc xs[i]).set j u) :
 OE P n ⟨d,.store t x y,ty,pos,af,g⟩ e w' (fun _ w''=>ZI T w w'' v (xs.set i y')∧Stp (ob v) w' w''):=by
 refine (Z49 (β:=β) hx hy hk hu h1 h.1 hi hj hr').mono ?_;rintro _ w2 ⟨h2,h3⟩;exact ⟨⟨h2,h.step h3 (fun _ hb=>hb)⟩,h3⟩
end
end
structure Sl (α:Type) where
 l:List α
instance {α:Type} [Z7 α]:Z7 (Sl α) where
 k:=1
 rep:=fun X w x cs=>∃ v,cs=[v]∧SlV X w v x.l
 len:=by rintro X w x cs ⟨v,rfl,_⟩;rfl
 one:=by
  rintro X w x cs ⟨v,rfl,p,c,rfl,_⟩ u hu;simp at hu;subst hu;rfl
 ext:=by
  rintro X S X' w w' x cs ⟨v,rfl,h⟩ hS h1 h2;exact ⟨v,rfl,h.ext hS h1 h2⟩
theorem Z6.slvS {α:Type} [Z7 α] {w w':World} {X:List Nat} {T len:Nat} {vs:List Value} {v:Value} {xss:List (Sl α)} (h:Z6 w T len vs v w') (hX:∀ b∈X,b<w.heap.size) (hl:len=xss.length) (hvl:vs.length=xss.length)
 (hr:∀ i (hi:i<xss.length) (hi':i<vs.length),SlV X w vs[i] xss[i].l) (hm:xss.length≤maxLen):SlV X w' v xss:=by
 obtain ⟨b,rfl,hb,hblk,hS⟩:=h;subst hl;refine ⟨some ⟨b,0,none⟩,xss.length,rfl,Xn _,hm,fun h=>by simp at h,fun i hi=>⟨b,0,[vs[i]'(by omega)],rfl,hblk.lt,fun hx=>by have:=hX b hx;omega,⟨_,rfl,(hr i hi (by omega)).up hS⟩,fun j u hu=>?_⟩⟩;refine hblk.cell ?_;have:j=0:=by
  have:=(Xw.1 hu).1;simp at this;exact this
 subst this;simp at hu;subst hu;simp [Z7.k]
theorem SlV.sub {α:Type} [Z7 α] {w} {X:List Nat} {v:Value} {xss:List (Sl α)} {i:Nat} (h:SlV X w v xss) (hi:i<xss.length):∃ u,w.cell? (Zp v i 1 0)=some u∧SlV X w u xss[i].l:=by
 obtain ⟨cs,⟨u,rfl,hu⟩,hc⟩:=h.cell hi;exact ⟨u,hc 0 u rfl,hu⟩
end Go.Eng
namespace Go.Proofs.YtipfkbkkndacjaaGreatDoor
open Go Go.Eng Go.RowKit
theorem Z93 (v:Value) (x:Nd) (w) (hx:NdV [] w v x):CC 186 #[v] w fun r w'=>r=agg (Z0Z x.kind x.num x.word)∧Stp [] w w':=by
 obtain ⟨kv,rfl,hs⟩:=hx;refine cW1 32 Tryz.func186 ?_;refine W ?_;refine Z1 (Zq rfl) rfl ?_;rintro _ w1 ⟨b,rfl,hb,hblk,hS⟩;replace hblk:Blk w1 b _ (ndC x kv):=hblk;have hsz:=hS.size;refine Z1 Z2 rfl ?_;rintro _ w2 ⟨b2,rfl,hb2,hblk2,hS2⟩;replace hblk:=hblk.up hS2;replace hS:=hS.trans hS2;repeat'(first|refine W1 ?_|omega|refine VG ?_ ?_<;>intro hg|refine VC ?_ ?_<;>intro hc)
 apply Z8 (vs:=[(0,.I 1),(1,.I _)]) rfl (Z7v _ _) rfl;refine SA (us:=Z3.enc (Ins.mk 1 x.num)) hblk2 ?_;rintro _ w3 ⟨hS3,hblk3⟩;refine W ?_;refine Zk rfl rfl rfl hblk3 rfl ?_;refine .mk ⟨by rw [Z0Z,if_pos (by assumption)];rfl,hS.ow hS3⟩;apply Z8 (vs:=[(0,.I 2),(1,.I _)]) rfl (Z7v _ _) rfl;refine SA (us:=Z3.enc (Ins.mk 2 x.num)) hblk2 ?_;rintro _ w3 ⟨hS3,hblk3⟩;refine W ?_;refine Zk rfl rfl rfl hblk3 rfl ?_;refine .mk ⟨by rw [Z0Z,if_neg (by assumption),if_pos (by assumption)];rfl,hS.ow hS3⟩;apply Z8 (vs:=[(0,.I 3),(1,.I _)]) rfl (Z7v _ _) rfl;refine SA (us:=Z3.enc (Ins.mk 3 x.num)) hblk2 ?_;rintro _ w3 ⟨hS3,hblk3⟩;refine W ?_;refine Zk rfl rfl rfl hblk3 rfl ?_;refine .mk ⟨by rw [Z0Z,if_neg (by assumption),if_neg (by assumption),if_pos (by assumption)];rfl,hS.ow hS3⟩;refine CL (Z6B x.word _) ?_;rintro _ w3 ⟨rfl,hS3⟩;replace hblk2:=hblk2.up hS3;replace hS:=hS.trans hS3;refine W ?_;apply Z8 (vs:=[(0,.I 4),(1,.I _)]) rfl (Z7v _ _) rfl;refine SA (us:=Z3.enc (Ins.mk 4 (ZR x.word).1)) hblk2 ?_;rintro _ w4 ⟨hS4,hblk4⟩;refine W ?_;refine Zk rfl rfl rfl hblk4 rfl ?_;refine .mk ⟨by rw [Z0Z,if_neg (by assumption),if_neg (by assumption),if_neg (by assumption)];rfl,hS.ow hS4⟩
def Z3B (k:Int) (s:Str):List Int:=(if k=8∨k=5∧s=[45] then [8] else [])++opF s++(if k=6∧s=[45] then [6] else [])
def Zaj:List Str:=[[43],[45],[42],[60],[60,61],[61],[62],[62,61],[33,61]]
def Zak:List (Sl Int):=[⟨[5]⟩,⟨[6]⟩,⟨[7]⟩,⟨[9]⟩,⟨[10]⟩,⟨[11]⟩,⟨[10,12]⟩,⟨[9,12]⟩,⟨[11,12]⟩]
theorem Zj8 (a b c d:Int) (w):(Instr.buildSlice 23 4 #[(0,.I a),(1,.I b),(2,.I c),(3,.I d)]).run Tryz.prog w=.ok (.slice (some ⟨w.heap.size,0,none⟩) 4 4) (w.alloc (.cells #[.I a,.I b,.I c,.I d] 3)):=by kernel_rfl
theorem Zj9 (a b c d e:Int) (w):(Instr.buildSlice 23 5 #[(0,.I a),(1,.I b),(2,.I c),(3,.I d),(4,.I e)]).run Tryz.prog w=.ok (.slice (some ⟨w.heap.size,0,none⟩) 5 5) (w.alloc (.cells #[.I a,.I b,.I c,.I d,.I e] 3)):=by kernel_rfl
theorem Zja (a b c d e:Str) (w):(Instr.buildSlice 128 5 #[(0,str a),(1,str b),(2,str c),(3,str d),(4,str e)]).run Tryz.prog w=.ok (.slice (some ⟨w.heap.size,0,none⟩) 5 5) (w.alloc (.cells #[str a,str b,str c,str d,str e] 9)):=by kernel_rfl
theorem Zjb (a b c d e f g h i:Str) (w):(Instr.buildSlice 128 9 #[(0,str a),(1,str b),(2,str c),(3,str d),(4,str e),(5,str f),(6,str g),(7,str h),(8,str i)]).run Tryz.prog w=.ok (.slice (some ⟨w.heap.size,0,none⟩) 9 9) (w.alloc (.cells #[str a,str b,str c,str d,str e,str f,str g,str h,str i] 9)):=by kernel_rfl
theorem Zjc (p0 p1 p2 p3 p4 p5 p6 p7 p8:Option Addr) (l0 l1 l2 l3 l4 l5 l6 l7 l8 c0 c1 c2 c3 c4 c5 c6 c7 c8:Nat) (w):(Instr.buildSlice 312 9 #[(0,.slice p0 l0 c0),(1,.slice p1 l1 c1),(2,.slice p2 l2 c2),(3,.slice p3 l3 c3),(4,.slice p4 l4 c4),(5,.slice p5 l5 c5),(6,.slice p6 l6 c6),(7,.slice p7 l7 c7),(8,.slice p8 l8 c8)]).run Tryz.prog w=.ok (.slice (some ⟨w.heap.size,0,none⟩) 9 9) (w.alloc (.cells #[.slice p0 l0 c0,.slice p1 l1 c1,.slice p2 l2 c2,.slice p3 l3 c3,.slice p4 l4 c4,.slice p5 l5 c5,.slice p6 l6 c6,.slice p7 l7 c7,.slice p8 l8 c8] 23)):=by kernel_rfl
theorem o6 {s:Str} (h:s∈Z0a∨s∈Z28∨s∈Z03) (ha:¬ s=[97,110,100]) (ho:¬ s=[111,114]):∃ i,∃ h:i<Zak.length,idx (isS s) Zaj=(i:Int)∧Zak[i].l=Z3B 6 s:=by
 simp only [Z0a,Z28,Z03,Xb,Xj,or_false] at h;rcases h with (h|h|h)|(h|h|h|h|h|h)|(h|h)<;>subst h
 exact ⟨0,by decide,by decide,by decide⟩;exact ⟨1,by decide,by decide,by decide⟩;exact ⟨2,by decide,by decide,by decide⟩;exact ⟨3,by decide,by decide,by decide⟩;exact ⟨4,by decide,by decide,by decide⟩;exact ⟨5,by decide,by decide,by decide⟩;exact ⟨8,by decide,by decide,by decide⟩;exact ⟨6,by decide,by decide,by decide⟩;exact ⟨7,by decide,by decide,by decide⟩;exact absurd rfl ha;exact absurd rfl ho
theorem oU {s:Str} (h:s∈J4):∃ i,∃ h:i < [(15:Int),16,17,18].length,idx (isS s) J4=(i:Int)∧Z3B 7 s=[[(15:Int),16,17,18][i]]∧Z3B 8 s=[8,[(15:Int),16,17,18][i]]:=by
 simp only [J4,Xb,Xj,or_false] at h;rcases h with h|h|h|h<;>subst h
 exact ⟨0,by decide,by decide,by decide,by decide⟩;exact ⟨1,by decide,by decide,by decide,by decide⟩;exact ⟨2,by decide,by decide,by decide,by decide⟩;exact ⟨3,by decide,by decide,by decide,by decide⟩
theorem oC {s:Str} (h:s∈Z7u):∃ i,∃ h:i < [(19:Int),20,21,22,23].length,idx (isS s) Z7u=(i:Int)∧Z3B 10 s=[[(19:Int),20,21,22,23][i]]:=by
 simp only [Z7u,Xb,Xj,or_false] at h;rcases h with h|h|h|h|h<;>subst h
 exact ⟨0,by decide,by decide,by decide⟩;exact ⟨1,by decide,by decide,by decide⟩;exact ⟨2,by decide,by decide,by decide⟩;exact ⟨3,by decide,by decide,by decide⟩;exact ⟨4,by decide,by decide,by decide⟩
theorem Zdy (X:List Nat) (v:Value) (x:Nd) (w:World) (hX0:∀ b∈X,b<w.heap.size) (hsh:Zol x.kind x.word x.kids.length) (h9:¬ x.kind=9) (ha:¬ (x.kind=6∧x.word=[97,110,100])) (ho:¬ (x.kind=6∧x.word=[111,114])) (hx:NdV [] w v x) :
 CC 188 #[v] w fun r w'=>SlV X w' r (Z3B x.kind x.word)∧Stp [] w w':=by
 obtain ⟨kv,rfl,hs⟩:=hx;refine cW1 63 Tryz.func188 ?_;refine W ?_;refine Z1 (Zq rfl) rfl ?_;rintro _ w0 ⟨b,rfl,hb,hblk,hS⟩;replace hblk:Blk w0 b _ (ndC x kv):=hblk;have hX:∀ b∈X,b<w0.heap.size:=fun b hb=>Xa (hX0 b hb) hS.size;refine W ?_;refine Z1 (Z0 (vs:=[(0,.I 5)]) rfl (Zt _)) rfl ?_;rintro a0 u0 hN;have s_a0:SlV X u0 a0 [(5:Int)]:=hN.slv hX rfl rfl (by simp [maxLen]);have hT:=Z6.stp hN;clear hN;replace hblk:=hblk.up hT;replace hS:=hS.trans hT;replace hX:=fun b hb=>Xa (hX b hb) hT.size;clear hT;refine Z1 (Z0 (vs:=[(0,.I 6)]) rfl (Zt _)) rfl ?_;rintro a1 u1 hN;have s_a1:SlV X u1 a1 [(6:Int)]:=hN.slv hX rfl rfl (by simp [maxLen]);have hT:=Z6.stp hN;clear hN;replace hblk:=hblk.up hT;replace hS:=hS.trans hT;replace hX:=fun b hb=>Xa (hX b hb) hT.size;replace s_a0:=s_a0.up hT;clear hT;refine Z1 (Z0 (vs:=[(0,.I 7)]) rfl (Zt _)) rfl ?_;rintro a2 u2 hN;have s_a2:SlV X u2 a2 [(7:Int)]:=hN.slv hX rfl rfl (by simp [maxLen]);have hT:=Z6.stp hN;clear hN;replace hblk:=hblk.up hT;replace hS:=hS.trans hT;replace hX:=fun b hb=>Xa (hX b hb) hT.size;replace s_a0:=s_a0.up hT;replace s_a1:=s_a1.up hT;clear hT;refine Z1 (Z0 (vs:=[(0,.I 9)]) rfl (Zt _)) rfl ?_;rintro a3 u3 hN;have s_a3:SlV X u3 a3 [(9:Int)]:=hN.slv hX rfl rfl (by simp [maxLen]);have hT:=Z6.stp hN;clear hN;replace hblk:=hblk.up hT;replace hS:=hS.trans hT;replace hX:=fun b hb=>Xa (hX b hb) hT.size;replace s_a0:=s_a0.up hT;replace s_a1:=s_a1.up hT;replace s_a2:=s_a2.up hT;clear hT;refine Z1 (Z0 (vs:=[(0,.I 10)]) rfl (Zt _)) rfl ?_;rintro a4 u4 hN;have s_a4:SlV X u4 a4 [(10:Int)]:=hN.slv hX rfl rfl (by simp [maxLen]);have hT:=Z6.stp hN;clear hN;replace hblk:=hblk.up hT;replace hS:=hS.trans hT;replace hX:=fun b hb=>Xa (hX b hb) hT.size;replace s_a0:=s_a0.up hT;replace s_a1:=s_a1.up hT;replace s_a2:=s_a2.up hT;replace s_a3:=s_a3.up hT;clear hT;refine Z1 (Z0 (vs:=[(0,.I 11)]) rfl (Zt _)) rfl ?_;rintro a5 u5 hN;have s_a5:SlV X u5 a5 [(11:Int)]:=hN.slv hX rfl rfl (by simp [maxLen]);have hT:=Z6.stp hN;clear hN;replace hblk:=hblk.up hT;replace hS:=hS.trans hT;replace hX:=fun b hb=>Xa (hX b hb) hT.size;replace s_a0:=s_a0.up hT;replace s_a1:=s_a1.up hT;replace s_a2:=s_a2.up hT;replace s_a3:=s_a3.up hT;replace s_a4:=s_a4.up hT;clear hT;refine Z1 (Z0 (vs:=[(0,.I 10),(1,.I 12)]) rfl (JX _ _)) rfl ?_;rintro a6 u6 hN;have s_a6:SlV X u6 a6 [(10:Int),(12:Int)]:=hN.slv hX rfl rfl (by simp [maxLen]);have hT:=Z6.stp hN;clear hN;replace hblk:=hblk.up hT;replace hS:=hS.trans hT;replace hX:=fun b hb=>Xa (hX b hb) hT.size;replace s_a0:=s_a0.up hT;replace s_a1:=s_a1.up hT;replace s_a2:=s_a2.up hT;replace s_a3:=s_a3.up hT;replace s_a4:=s_a4.up hT;replace s_a5:=s_a5.up hT;clear hT;refine Z1 (Z0 (vs:=[(0,.I 9),(1,.I 12)]) rfl (JX _ _)) rfl ?_;rintro a7 u7 hN;have s_a7:SlV X u7 a7 [(9:Int),(12:Int)]:=hN.slv hX rfl rfl (by simp [maxLen]);have hT:=Z6.stp hN;clear hN;replace hblk:=hblk.up hT;replace hS:=hS.trans hT;replace hX:=fun b hb=>Xa (hX b hb) hT.size;replace s_a0:=s_a0.up hT;replace s_a1:=s_a1.up hT;replace s_a2:=s_a2.up hT;replace s_a3:=s_a3.up hT;replace s_a4:=s_a4.up hT;replace s_a5:=s_a5.up hT;replace s_a6:=s_a6.up hT;clear hT;refine Z1 (Z0 (vs:=[(0,.I 11),(1,.I 12)]) rfl (JX _ _)) rfl ?_;rintro a8 u8 hN;have s_a8:SlV X u8 a8 [(11:Int),(12:Int)]:=hN.slv hX rfl rfl (by simp [maxLen]);have hT:=Z6.stp hN;clear hN;replace hblk:=hblk.up hT;replace hS:=hS.trans hT;replace hX:=fun b hb=>Xa (hX b hb) hT.size;replace s_a0:=s_a0.up hT;replace s_a1:=s_a1.up hT;replace s_a2:=s_a2.up hT;replace s_a3:=s_a3.up hT;replace s_a4:=s_a4.up hT;replace s_a5:=s_a5.up hT;replace s_a6:=s_a6.up hT;replace s_a7:=s_a7.up hT;clear hT;obtain ⟨p0,c0,rfl,_⟩:=id s_a0;obtain ⟨p1,c1,rfl,_⟩:=id s_a1;obtain ⟨p2,c2,rfl,_⟩:=id s_a2;obtain ⟨p3,c3,rfl,_⟩:=id s_a3;obtain ⟨p4,c4,rfl,_⟩:=id s_a4;obtain ⟨p5,c5,rfl,_⟩:=id s_a5;obtain ⟨p6,c6,rfl,_⟩:=id s_a6;obtain ⟨p7,c7,rfl,_⟩:=id s_a7;obtain ⟨p8,c8,rfl,_⟩:=id s_a8;refine Z1 (Z0 (vs:=[(0,.slice p0 _ c0),(1,.slice p1 _ c1),(2,.slice p2 _ c2),(3,.slice p3 _ c3),(4,.slice p4 _ c4),(5,.slice p5 _ c5),(6,.slice p6 _ c6),(7,.slice p7 _ c7),(8,.slice p8 _ c8)]) rfl (Zjc _ _ _ _ _ _ _ _ _ _ _ _ _ _ _ _ _ _ _ _ _ _ _ _ _ _ _)) rfl ?_;rintro tw u9 hN;have s_tw:SlV X u9 tw Zak:=hN.slvS (xss:=Zak) hX rfl rfl (fun i hi hi'=>match i,hi with|0,_=>s_a0|1,_=>s_a1|2,_=>s_a2|3,_=>s_a3|4,_=>s_a4|5,_=>s_a5|6,_=>s_a6|7,_=>s_a7|8,_=>s_a8) (by decide);have hT:=Z6.stp hN;clear hN;replace hblk:=hblk.up hT;replace hS:=hS.trans hT;replace hX:=fun b hb=>Xa (hX b hb) hT.size;replace s_a0:=s_a0.up hT;replace s_a1:=s_a1.up hT;replace s_a2:=s_a2.up hT;replace s_a3:=s_a3.up hT;replace s_a4:=s_a4.up hT;replace s_a5:=s_a5.up hT;replace s_a6:=s_a6.up hT;replace s_a7:=s_a7.up hT;replace s_a8:=s_a8.up hT;clear hT;clear s_a0 s_a1 s_a2 s_a3 s_a4 s_a5 s_a6 s_a7 s_a8;refine W ?_;refine Z1 (Z0 (vs:=[(0,.I 19),(1,.I 20),(2,.I 21),(3,.I 22),(4,.I 23)]) rfl (Zj9 _ _ _ _ _)) rfl ?_;rintro cl u10 hN;have s_cl:SlV X u10 cl [(19:Int),20,21,22,23]:=hN.slv hX rfl rfl (by simp [maxLen]);have hT:=Z6.stp hN;clear hN;replace hblk:=hblk.up hT;replace hS:=hS.trans hT;replace hX:=fun b hb=>Xa (hX b hb) hT.size;replace s_tw:=s_tw.up hT;clear hT;refine W ?_;refine Z1 (Z0 (vs:=[(0,.I 15),(1,.I 16),(2,.I 17),(3,.I 18)]) rfl (Zj8 _ _ _ _)) rfl ?_;rintro un u11 hN;have s_un:SlV X u11 un [(15:Int),16,17,18]:=hN.slv hX rfl rfl (by simp [maxLen]);have hT:=Z6.stp hN;clear hN;replace hblk:=hblk.up hT;replace hS:=hS.trans hT;replace hX:=fun b hb=>Xa (hX b hb) hT.size;replace s_tw:=s_tw.up hT;replace s_cl:=s_cl.up hT;clear hT;refine W ?_;refine Z1 (Z0 (vs:=[(0,str [100,97,121,115]),(1,str [119,101,101,107,115]),(2,str [109,111,110,116,104,115]),(3,str [99,111,117,114,116,100,97,121,115])]) rfl (Zbt _ _ _ _)) rfl ?_;rintro us u12 hN;have s_us:SlV X u12 us J4:=hN.slv hX rfl rfl (by simp [J4,maxLen]);have hT:=Z6.stp hN;clear hN;replace hblk:=hblk.up hT;replace hS:=hS.trans hT;replace hX:=fun b hb=>Xa (hX b hb) hT.size;replace s_tw:=s_tw.up hT;replace s_cl:=s_cl.up hT;replace s_un:=s_un.up hT;clear hT;refine W ?_;refine CL (Z3v X _ J4 x.word _ s_us) ?_;rintro _ w2 ⟨rfl,hT⟩;replace hblk:=hblk.up hT;replace s_tw:=s_tw.up hT;replace s_cl:=s_cl.up hT;replace s_un:=s_un.up hT;replace hS:=hS.trans hT;replace hX:=fun b hb=>Xa (hX b hb) hT.size;clear hT s_us;have hO7:x.kind=7∨x.kind=8→x.word∈J4:=fun hk=>by
  rcases hsh with ⟨h,_,_⟩|⟨h,_,_⟩|⟨h,hu,_⟩|⟨h,_⟩|⟨h,_,_⟩<;>first|exact hu|omega
 have hO6:x.kind=6→x.word∈Z0a∨x.word∈Z28∨x.word∈Z03:=fun hk=>by
  rcases hsh with ⟨h,_,_⟩|⟨h,hu,_⟩|⟨h,_,_⟩|⟨h,_⟩|⟨h,_,_⟩<;>first|exact hu|omega
 have hO5:x.kind=5→x.word=[45]∨x.word=[110,111,116]:=fun hk=>by
  rcases hsh with ⟨h,hu,_⟩|⟨h,_,_⟩|⟨h,_,_⟩|⟨h,_⟩|⟨h,_,_⟩<;>first|exact hu|omega
 have hO10:¬ x.kind=5→¬ x.kind=6→¬ x.kind=7→¬ x.kind=8→x.kind=10∧x.word∈Z7u:=fun _ _ _ _=>by
  rcases hsh with ⟨h,_,_⟩|⟨h,_,_⟩|⟨h,_,_⟩|⟨h,_⟩|⟨h,hu,_⟩<;>first|exact ⟨h,hu⟩|omega
 refine W ?_;by_cases k5:x.kind=5;have hw5:=hO5 k5
 (refine QP ?_ ?_<;>intro hc)
 refine Z1 (Z0 (vs:=[(0,.I 8)]) rfl (Zt _)) rfl ?_;rintro r w3 hN;have hr:SlV X w3 r [(8:Int)]:=hN.slv hX rfl rfl (by simp [maxLen]);have hT:=Z6.stp hN;refine W ?_;refine WR ?_;have hw:x.word=[45]:=by assumption
 exact .mk ⟨by rw [k5,hw];exact hr,hS.trans hT⟩;refine Z1 (Z0 (vs:=[(0,.I 12)]) rfl (Zt _)) rfl ?_;rintro r w3 hN;have hr:SlV X w3 r [(12:Int)]:=hN.slv hX rfl rfl (by simp [maxLen]);have hT:=Z6.stp hN;refine W ?_;refine WR ?_;have hw:x.word=[110,111,116]:=hw5.resolve_left (by assumption);exact .mk ⟨by rw [k5,hw];exact hr,hS.trans hT⟩;by_cases k6:x.kind=6;have hw6:=hO6 k6;obtain ⟨i,hi,hid,hco⟩:=o6 hw6 (fun h=>ha ⟨k6,h⟩) (fun h=>ho ⟨k6,h⟩);refine QO ?_;refine Z1 (Z0 (vs:=[(0,str [43]),(1,str [45]),(2,str [42]),(3,str [60]),(4,str [60,61]),(5,str [61]),(6,str [62]),(7,str [62,61]),(8,str [33,61])]) rfl (Zjb _ _ _ _ _ _ _ _ _)) rfl ?_;rintro nv w3 hN;have s_n:SlV X w3 nv Zaj:=hN.slv hX rfl rfl (by simp [Zaj,maxLen]);have hT:=Z6.stp hN;replace hblk:=hblk.up hT;replace s_tw:=s_tw.up hT;replace hS:=hS.trans hT;clear hT hN;refine W ?_;refine CL (Z3v X _ Zaj x.word _ s_n) ?_;rintro _ w4 ⟨rfl,hT⟩;replace hblk:=hblk.up hT;replace s_tw:=s_tw.up hT;replace hS:=hS.trans hT;rw [hid];obtain ⟨u,hcell,hsu⟩:=s_tw.sub hi;refine W ?_;apply Z4 (Jw rfl rfl hcell) rfl;refine RT ?_;exact ⟨by rw [k6,← hco];exact hsu,hS⟩;by_cases k7:x.kind=7;obtain ⟨i,hi,hid,hco,_⟩:=oU (hO7 (.inl k7));rw [hid];refine QO ?_;refine Z1 (Z0 (vs:=[(0,.I _)]) rfl (Zt _)) rfl ?_;rintro r w3 hN;have hr:SlV X w3 r [[(15:Int),16,17,18][i]]:=hN.slv hX rfl rfl (by simp [maxLen]);have hT:=Z6.stp hN;refine RT ?_;exact ⟨by rw [k7,hco];exact hr,hS.trans hT⟩;by_cases k8:x.kind=8;obtain ⟨i,hi,hid,_,hco⟩:=oU (hO7 (.inr k8));rw [hid];refine QO ?_;refine Z1 (Z0 (vs:=[(0,.I 8),(1,.I _)]) rfl (JX _ _)) rfl ?_;rintro r w3 hN;have hr:SlV X w3 r [8,[(15:Int),16,17,18][i]]:=hN.slv hX rfl rfl (by simp [maxLen]);have hT:=Z6.stp hN;refine RT ?_;exact ⟨by rw [k8,hco];exact hr,hS.trans hT⟩;obtain ⟨k10,hw10⟩:=hO10 k5 k6 k7 k8;obtain ⟨i,hi,hid,hco⟩:=oC hw10;refine QO ?_;refine Z1 (Z0 (vs:=[(0,str [110,101,120,116]),(1,str [112,114,101,118]),(2,str [108,97,116,101,114]),(3,str [101,97,114,108,105,101,114]),(4,str [98,101,116,119,101,101,110])]) rfl (Zja _ _ _ _ _)) rfl ?_;rintro nv w3 hN;have s_n:SlV X w3 nv Z7u:=hN.slv hX rfl rfl (by simp [Z7u,maxLen]);have hT:=Z6.stp hN;replace hblk:=hblk.up hT;replace s_cl:=s_cl.up hT;replace hS:=hS.trans hT;replace hX:=fun b hb=>Xa (hX b hb) hT.size;clear hT hN;refine W ?_;refine CL (Z3v X _ Z7u x.word _ s_n) ?_;rintro _ w4 ⟨rfl,hT⟩;replace hblk:=hblk.up hT;replace s_cl:=s_cl.up hT;replace hS:=hS.trans hT;replace hX:=fun b hb=>Xa (hX b hb) hT.size;rw [hid];refine W ?_;refine Z1 (Z0 (vs:=[(0,.I _)]) rfl (Zt _)) rfl ?_;rintro r w5 hN;have hr:SlV X w5 r [[(19:Int),20,21,22,23][i]]:=hN.slv hX rfl rfl (by simp [maxLen]);have hT:=Z6.stp hN;refine RT ?_;exact ⟨by rw [k10,hco];exact hr,hS.trans hT⟩
abbrev RwI (w w':World) (v:Value) (xs:List Ins):Prop:=ZI 171 w w' v xs
def Z5W (x:Nd) (f:Cf):Prop:=∀ (w:World) (nv:Value) (p:Nat) (z:Int),z=(p:Int)→NdV [] w nv x→p+(f p).length≤100000→
 CC 108 #[nv,.I z] w fun r w'=>RwI w w' r (f p)
theorem Z3C {x y n:Nd} {f g h:Cf} (hx:Z5W x f) (hy:Z5W y g) (hn:Z5W n h) (w) (xv yv nv:Value) (p0:Nat) (z0:Int) (hz:z0=(p0:Int))
 (gx:NdV [] w xv x) (gy:NdV [] w yv y) (gn:NdV [] w nv n) (hl:p0+(chC f g h p0).length≤100000) :
 CC 187 #[xv,yv,nv,.I z0] w fun r w'=>RwI w w' r (chC f g h p0):=by
 have hl':=hl;unfold chC at hl';simp only [Xc,Xe,Xf] at hl';obtain ⟨xk,rfl,sx⟩:=gx;obtain ⟨yk,rfl,sy⟩:=gy;obtain ⟨nk,rfl,sn⟩:=gn;subst hz;refine cW4 60 Tryz.func187 ?_;refine W ?_;refine Z1 (Zq rfl) rfl ?_;rintro _ w1 ⟨b1,rfl,hb1,k1,hS1⟩;replace k1:Blk w1 b1 _ (ndC x xk):=k1;refine Z1 (Zq rfl) rfl ?_;rintro _ w2 ⟨b2,rfl,hb2,k2,hS2⟩;replace k2:Blk w2 b2 _ (ndC y yk):=k2;refine Z1 (Zq rfl) rfl ?_;rintro _ w3 ⟨b3,rfl,hb3,k3,hS3⟩;replace k3:Blk w3 b3 _ (ndC n nk):=k3;have hS:=(hS1.trans hS2).trans hS3;replace k1:=(k1.up hS2).up hS3;replace k2:=k2.up hS3;replace sx:=sx.up hS;replace sy:=sy.up hS;replace sn:=sn.up hS;clear hS1 hS2 hS3;have hch:=chC.eq_1 f g h p0;generalize hA:f p0=A at *;generalize hp:p0+A.length+1=p at *;generalize hB:g p=B at *;generalize hqq:p+B.length+1=q at *;generalize hD:h q=D at *;rw [hch];have e1:(A++[(⟨14,0⟩:Ins)]).length=A.length+1:=by simp
 have e2:(A++[(⟨14,0⟩:Ins)]++B).length=A.length+1+B.length:=by simp;omega
 have e3:(A++[(⟨14,0⟩:Ins)]++B++[(⟨13,0⟩:Ins)]).length=A.length+1+B.length+1:=by simp;omega
 have e4:∀ z,(A++[(⟨14,z⟩:Ins)]++B++[(⟨13,0⟩:Ins)]).length=A.length+1+B.length+1:=by simp;omega
 have e5:∀ z,(A++[(⟨14,z⟩:Ins)]++B++[(⟨13,0⟩:Ins)]++D).length=A.length+1+B.length+1+D.length:=by simp;omega
 refine W ?_;refine CM (Zh rfl rfl) (hx _ _ p0 _ rfl ⟨xk,rfl,sx⟩ (by rw [hA];omega)) ?_;rintro v w4 hr;rw [hA] at hr;have hsl:=hr.slv (X:=[]) (by simp);refine W ?_;apply Z8 (vs:=[(0,.I 14)]) rfl (Z79 _) rfl;refine Z1 (Z0 (vs:=[(0,agg (Ins.mk 14 0))]) rfl (Z2T _)) rfl ?_;rintro u wb hN;have hu:SlV (ob v) wb u [Ins.mk 14 0]:=hN.slv (fun b hb=>(hr.ob_le b hb).2) rfl rfl (by simp [maxLen]);have hT:=Z6.stp hN;clear hN;replace hr:=hr.up hT;clear hT hsl;refine Z1 (JB rfl (by decide) rfl rfl hr hu (by simp only [Xe,Xf];omega) (by simp only [Xe,Xf,maxLen];omega)) rfl ?_;clear hu hr;rintro v wc ⟨hr,-,-⟩;have hsl:=hr.slv (X:=[]) (by simp);have kk:=k2.up hr.2;refine W ?_;refine CM (Zh rfl rfl) (hy _ _ p _ (by omega) ⟨yk,rfl,sy.up hr.2⟩ (by rw [hB];omega)) ?_;rintro u wd hu;rw [hB] at hu;have hus:=hu.slv (X:=ob v) (fun b hb=>(hr.ob_le b hb).2);replace hr:=hr.up hu.2;clear hu hsl kk;refine Z1 (JB rfl (by decide) rfl rfl hr hus (by rw [e1];omega) (by rw [e1];simp only [maxLen];omega)) rfl ?_;clear hus hr;rintro v we ⟨hr,-,-⟩;have hsl:=hr.slv (X:=[]) (by simp);refine W ?_;apply Z8 (vs:=[(0,.I 13)]) rfl (Z79 _) rfl;refine Z1 (Z0 (vs:=[(0,agg (Ins.mk 13 0))]) rfl (Z2T _)) rfl ?_;rintro u wb hN;have hu:SlV (ob v) wb u [Ins.mk 13 0]:=hN.slv (fun b hb=>(hr.ob_le b hb).2) rfl rfl (by simp [maxLen]);have hT:=Z6.stp hN;clear hN;replace hr:=hr.up hT;clear hT hsl;refine Z1 (JB rfl (by decide) rfl rfl hr hu (by simp only [e2,Xe,Xf];omega) (by simp only [e2,Xe,Xf,maxLen];omega)) rfl ?_;clear hu hr;rintro v wc ⟨hr,-,-⟩;have hsl:=hr.slv (X:=[]) (by simp);have hi1:A.length<(A++[(⟨14,0⟩:Ins)]++B++[(⟨13,0⟩:Ins)]).length:=by rw [e3];omega
 refine W ?_;have hop1:(A++[(⟨14,0⟩:Ins)]++B++[(⟨13,0⟩:Ins)])[A.length]=⟨14,0⟩:=by simp
 have hq1:(p0:Int)+((A++[(⟨14,0⟩:Ins)]++B++[(⟨13,0⟩:Ins)]).length:Int)=(q:Int):=by rw [e3];omega
 refine Z5 (Zai (i:=A.length) (j:=1) (u:=.I ((p0:Int)+((A++[(⟨14,0⟩:Ins)]++B++[(⟨13,0⟩:Ins)]).length:Int))) (y':=⟨14,(q:Int)⟩) rfl rfl rfl rfl rfl hr hi1 (by decide) (by rw [hop1,← hq1];rfl)) ?_;have hset1:(A++[(⟨14,0⟩:Ins)]++B++[(⟨13,0⟩:Ins)]).set A.length ⟨14,(q:Int)⟩=A++[(⟨14,(q:Int)⟩:Ins)]++B++[(⟨13,0⟩:Ins)]:=by simp
 rw [hset1];clear hr hsl;rintro _ wf ⟨hr,-⟩;have hsl:=hr.slv (X:=[]) (by simp);have e4':=e4 (q:Int);have kk:=k3.up hr.2;refine W ?_;refine CM (Zh rfl rfl) (hn _ _ q _ (by omega) ⟨nk,rfl,sn.up hr.2⟩ (by rw [hD];omega)) ?_;rintro u wd hu;rw [hD] at hu;have hus:=hu.slv (X:=ob v) (fun b hb=>(hr.ob_le b hb).2);replace hr:=hr.up hu.2;clear hu hsl kk;refine Z1 (JB rfl (by decide) rfl rfl hr hus (by rw [e4];omega) (by rw [e4];simp only [maxLen];omega)) rfl ?_;clear hus hr;rintro v we ⟨hr,-,-⟩;have hsl:=hr.slv (X:=[]) (by simp);have e5':=e5 (q:Int);have hi2:A.length+1+B.length<(A++[(⟨14,(q:Int)⟩:Ins)]++B++[(⟨13,0⟩:Ins)]++D).length:=by rw [e5];omega
 refine W ?_;have e2':(A++[(⟨14,(q:Int)⟩:Ins)]++B).length=A.length+1+B.length:=by simp;omega
 have hsp:A++[(⟨14,(q:Int)⟩:Ins)]++B++[(⟨13,0⟩:Ins)]++D=(A++[(⟨14,(q:Int)⟩:Ins)]++B)++(⟨13,0⟩:Ins) :: D:=by simp
 rw [e2];have hop2:(A++[(⟨14,(q:Int)⟩:Ins)]++B++[(⟨13,0⟩:Ins)]++D)[A.length+1+B.length]=⟨13,0⟩:=by
  rw [X6 (by rw [e4];omega),X2 (by omega)];simp
 have hq2:(p0:Int)+((A++[(⟨14,(q:Int)⟩:Ins)]++B++[(⟨13,0⟩:Ins)]++D).length:Int)=((q+D.length:Nat):Int):=by rw [e5];omega
 refine Z5 (Zai (i:=A.length+1+B.length) (j:=1) (u:=.I ((p0:Int)+((A++[(⟨14,(q:Int)⟩:Ins)]++B++[(⟨13,0⟩:Ins)]++D).length:Int))) (y':=⟨13,((q+D.length:Nat):Int)⟩) rfl rfl rfl rfl rfl hr hi2 (by decide) (by rw [hop2,← hq2];rfl)) ?_;have hset2:(A++[(⟨14,(q:Int)⟩:Ins)]++B++[(⟨13,0⟩:Ins)]++D).set (A.length+1+B.length) ⟨13,((q+D.length:Nat):Int)⟩=A++[(⟨14,(q:Int)⟩:Ins)]++B++[(⟨13,((q+D.length:Nat):Int)⟩:Ins)]++D:=by
  rw [hsp,List.set_append_right _ _ (by omega),e2'];simp
 rw [hset2];clear hr hsl;rintro _ wg ⟨hr,-⟩;refine W ?_;refine WR ?_;exact .mk (hr.pre hS)
theorem ZbC (z:Int):Z5W (.mk 2 z [] []) (fun _=>[⟨2,z⟩]):=by
 intro w nv p z0 hz hx hl;have hN:=hx;obtain ⟨kv,rfl,hs⟩:=hx;refine cW2 107 Tryz.func108 ?_;refine W ?_;refine Z1 (Zq rfl) rfl ?_;rintro _ w1 ⟨b,rfl,hb,hblk,hS⟩;replace hblk:Blk w1 b _ (ndC (.mk 2 z [] []) kv):=hblk;replace hs:=hs.up hS;replace hN:=hN.up hS;have hk0:(Nd.mk 2 z [] []).kids.length=0:=rfl;refine QO ?_;refine CL (Z93 _ (.mk 2 z [] []) _ hN) ?_;rintro _ w2 ⟨rfl,hS2⟩;refine Z1 (Z0 (vs:=[(0,agg (Ins.mk 2 z))]) rfl (Z2T _)) rfl ?_;rintro u w3 hN3;have hr:RwI w2 w3 u [Ins.mk 2 z]:=ZI.one hN3 rfl rfl (by simp [maxLen]);refine W ?_;refine WR ?_;exact .mk (hr.pre (hS.trans hS2))
theorem Zal {x:Nd} (cs:List Cf) (p:Nat) (hne:¬ cs.length=0) (h9:¬ x.kind=9) (ha:¬ (x.kind=6∧x.word=[97,110,100])) (ho:¬ (x.kind=6∧x.word=[111,114])):Z1b x.kind x.num x.word cs p=Jn cs p++Z29 (Z3B x.kind x.word):=by
 unfold Z1b Z3B Z0C;rw [if_neg hne,if_neg h9,if_neg ha,if_neg ho];by_cases hm:x.kind=6∧x.word=[45]
 rw [if_pos hm,if_pos hm,hm.1,hm.2];simp [Z29];rw [if_neg hm,if_neg hm];by_cases h8:x.kind=8∨x.kind=5∧x.word=[45]
 rw [if_pos h8,if_pos h8];simp [Z29];rw [if_neg h8,if_neg h8];simp [Z29]
theorem ZmK (x:Nd):Ze x≠0→Z5W x (Zb x):=by
 induction x using Nd.ind with
 | h k n s l ih=>
 intro hty;have hkt:=(Z4R hty).2;have hcs:∀ i (h:i<(Nd.mk k n s l).kids.length),Z5W (Nd.mk k n s l).kids[i] (Zb (Nd.mk k n s l).kids[i]):=by
  intro i h;exact ih _ (Xd h) (hkt _ (Xd h))
 have hsh:=Z6D hty;have hcN:=Z5b (.mk k n s l);have hcL:=Z7x (x:=.mk k n s l);have hgD:=fun i=>Z7y (x:=.mk k n s l) (i:=i);generalize (Nd.mk k n s l)=x at *;clear ih;intro w nv p z0 hz hx hl;subst hz;have hN:=hx;obtain ⟨kv,rfl,hs⟩:=hx;have hmax:=hs.max;refine cW2 107 Tryz.func108 ?_;refine W ?_;refine Z1 (Zq rfl) rfl ?_;rintro _ wA ⟨b,rfl,hb,hblk,hS⟩;replace hblk:Blk wA b _ (ndC x kv):=hblk;replace hs:=hs.up hS;replace hN:=hN.up hS;by_cases h0:x.kids=[]
 have hk0:x.kids.length=0:=by rw [h0];rfl
 rw [hcL h0];refine QO ?_;refine CL (Z93 _ x _ hN) ?_;rintro _ w2 ⟨rfl,hS2⟩;refine Z1 (Z0 (vs:=[(0,agg (Z0Z x.kind x.num x.word))]) rfl (Z2T _)) rfl ?_;rintro u w3 hN3;have hr:RwI w2 w3 u [Z0Z x.kind x.num x.word]:=ZI.one hN3 rfl rfl (by simp [maxLen]);refine W ?_;refine WR ?_;exact .mk (hr.pre (hS.trans hS2));have hkl:¬ x.kids.length=0:=fun h=>h0 (YaL h);have hcl:¬ (x.kids.map Zb).length=0:=by simpa using h0
 replace hsh:=(hsh h0).2;have hk6:x.kind=6→x.kids.length=2:=fun h6=>by
  rcases hsh with ⟨h,_,_⟩|⟨h,_,hm⟩|⟨h,_,_⟩|⟨h,_⟩|⟨h,_,_⟩<;>omega
 have hk9:x.kind=9→x.kids.length=3:=fun h6=>by
  rcases hsh with ⟨h,_,_⟩|⟨h,_,hm⟩|⟨h,_,_⟩|⟨h,hm⟩|⟨h,_,_⟩<;>omega
 by_cases h9:x.kind=9;have h3:=hk9 h9;have h0:0<x.kids.length:=by omega
 have h1:1<x.kids.length:=by omega
 have h2:2<x.kids.length:=by omega
 have e9:Zb x=chC (Zb x.kids[0]) (Zb x.kids[1]) (Zb x.kids[2]):=by
  funext p;rw [hcN,Z1b,if_neg hcl,if_pos h9,hgD 0 h0,hgD 1 h1,hgD 2 h2]
 rw [e9] at hl ⊢;refine QO ?_;refine ZDr 15 [] [] [(0,0),(1,1),(2,0),(3,1),(4,0),(5,1),(6,0),(7,1),(8,0),(9,1),(10,0),(11,1),(12,0),(13,2),(14,0)] (fun w1 hS1=>?_);replace hs:=hs.up hS1;replace hblk:=hblk.up hS1;replace hS:=hS.trans hS1;obtain ⟨u0,s0,d0⟩:=hs.nd h0;obtain ⟨u1,s1,d1⟩:=hs.nd h1;obtain ⟨u2,s2,d2⟩:=hs.nd h2;refine D ?_;refine J3 rfl trivial (fun w' hS'=>JG rfl rfl (hs.on hS' (fun _ h=>h)) h0 (fun j u hj=>Z2d hs h0 hS' (d0 j u hj))) rfl ?_;refine D ?_;refine J3 rfl trivial (fun w' hS'=>JG rfl rfl (hs.on hS' (fun _ h=>h)) h1 (fun j u hj=>Z2d hs h1 hS' (d1 j u hj))) rfl ?_;refine D ?_;refine J3 rfl trivial (fun w' hS'=>JG rfl rfl (hs.on hS' (fun _ h=>h)) h2 (fun j u hj=>Z2d hs h2 hS' (d2 j u hj))) rfl ?_;refine D ?_;refine DC (Z3C (hcs 0 h0) (hcs 1 h1) (hcs 2 h2) _ _ _ _ p _ rfl ⟨u0,rfl,s0⟩ ⟨u1,rfl,s1⟩ ⟨u2,rfl,s2⟩ hl) (fun _ _ h=>h.2) ?_;rintro _ w5 hq;refine D ?_;refine W ?_;refine WR ?_;exact .mk (hq.pre hS);by_cases ha:x.kind=6∧x.word=[97,110,100]
 · obtain ⟨h6,hw⟩:=ha
   have h2:=hk6 h6;have h0:0<x.kids.length:=by omega
   have h1:1<x.kids.length:=by omega
   have e9:Zb x=chC (Zb x.kids[0]) (Zb x.kids[1]) (fun _=>[⟨2,0⟩]):=by
    funext p;rw [hcN,Z1b,if_neg hcl,if_neg h9,if_pos ⟨h6,hw⟩,hgD 0 h0,hgD 1 h1]
   rw [e9] at hl ⊢;repeat'(first|refine W1 ?_|omega|refine VG ?_ ?_<;>intro hg|refine VC ?_ ?_<;>intro hc)
   all_goals first
    | (exfalso;contradiction)
    | skip
   refine ZDr 12 [] [] [(0,0),(1,1),(2,0),(3,1),(4,0),(5,1),(6,0),(7,1),(8,0),(9,0),(10,2),(11,0)] (fun w1 hS1=>?_);replace hs:=hs.up hS1;replace hblk:=hblk.up hS1;replace hS:=hS.trans hS1;obtain ⟨u0,s0,d0⟩:=hs.nd h0;obtain ⟨u1,s1,d1⟩:=hs.nd h1;refine D ?_;refine J3 rfl trivial (fun w' hS'=>JG rfl rfl (hs.on hS' (fun _ h=>h)) h0 (fun j u hj=>Z2d hs h0 hS' (d0 j u hj))) rfl ?_;refine D ?_;refine J3 rfl trivial (fun w' hS'=>JG rfl rfl (hs.on hS' (fun _ h=>h)) h1 (fun j u hj=>Z2d hs h1 hS' (d1 j u hj))) rfl ?_;refine D ?_;apply Z2c;exact rfl;apply Z2x (vs:=[(0,.I 2)]);exact trivial;exact rfl;exact Zj3;exact rfl;refine D ?_;refine DC (Z3C (hcs 0 h0) (hcs 1 h1) (ZbC 0) _ _ _ _ p _ rfl ⟨u0,rfl,s0⟩ ⟨u1,rfl,s1⟩ ⟨_,rfl,Zm _ _⟩ hl) (fun _ _ h=>h.2) ?_;rintro _ w5 hq;refine D ?_;refine W ?_;refine WR ?_;exact .mk (hq.pre hS)
 by_cases ho:x.kind=6∧x.word=[111,114]
 · obtain ⟨h6,hw⟩:=ho
   have h2:=hk6 h6;have hnw:¬ x.word=[97,110,100]:=fun h=>ha ⟨h6,h⟩;have h0:0<x.kids.length:=by omega
   have h1:1<x.kids.length:=by omega
   have e9:Zb x=chC (Zb x.kids[0]) (fun _=>[⟨2,1⟩]) (Zb x.kids[1]):=by
    funext p;rw [hcN,Z1b,if_neg hcl,if_neg h9,if_neg ha,if_pos ⟨h6,hw⟩,hgD 0 h0,hgD 1 h1]
   rw [e9] at hl ⊢;repeat'(first|refine W1 ?_|omega|refine VG ?_ ?_<;>intro hg|refine VC ?_ ?_<;>intro hc)
   all_goals first
    | (exfalso;contradiction)
    | skip
   refine ZDr 12 [] [] [(0,0),(1,1),(2,0),(3,1),(4,0),(5,0),(6,1),(7,0),(8,1),(9,0),(10,2),(11,0)] (fun w1 hS1=>?_);replace hs:=hs.up hS1;replace hblk:=hblk.up hS1;replace hS:=hS.trans hS1;obtain ⟨u0,s0,d0⟩:=hs.nd h0;obtain ⟨u1,s1,d1⟩:=hs.nd h1;refine D ?_;refine J3 rfl trivial (fun w' hS'=>JG rfl rfl (hs.on hS' (fun _ h=>h)) h0 (fun j u hj=>Z2d hs h0 hS' (d0 j u hj))) rfl ?_;refine D ?_;apply Z2c;exact rfl;apply Z2x (vs:=[(0,.I 2),(1,.I 1)]);exact trivial;exact rfl;exact Zj4;exact rfl;refine D ?_;refine J3 rfl trivial (fun w' hS'=>JG rfl rfl (hs.on hS' (fun _ h=>h)) h1 (fun j u hj=>Z2d hs h1 hS' (d1 j u hj))) rfl ?_;refine D ?_;refine DC (Z3C (hcs 0 h0) (ZbC 1) (hcs 1 h1) _ _ _ _ p _ rfl ⟨u0,rfl,s0⟩ ⟨_,rfl,Zm _ _⟩ ⟨u1,rfl,s1⟩ hl) (fun _ _ h=>h.2) ?_;rintro _ w5 hq;refine D ?_;refine W ?_;refine WR ?_;exact .mk (hq.pre hS)
 have hcp:=Zal (x:=x) _ p hcl h9 ha ho;rw [hcN,hcp] at hl ⊢;have hcm:(x.kids.map Zb).length=x.kids.length:=by simp
 generalize hO:Z3B x.kind x.word=O at *;rw [Xc,ZbB] at hl;have main:∀ r w',RwI wA w' r (Jn (x.kids.map Zb) p++Z29 O)→RwI w w' r (Jn (x.kids.map Zb) p++Z29 O):=fun r w' h=>h.pre hS;repeat'(first|refine W1 ?_|omega|refine VG ?_ ?_<;>intro hg|refine VC ?_ ?_<;>intro hc)
 all_goals first
  | (exfalso;first|exact ha ⟨by assumption,by assumption⟩|exact ho ⟨by assumption,by assumption⟩)
  | skip
 all_goals
  refine LP (σ:=Nat×Value) (fun q=>[(1,.I (p:Int)),(2,pQ b),(5,q.2),(6,.I (q.1:Int))]) (fun q w'=>q.1≤x.kids.length∧RwI wA w' q.2 (Jn ((x.kids.map Zb).take q.1) p)) (fun q=>x.kids.length - q.1) (0,.N) ⟨Xq _,by simpa [Jn] using ZI.nil⟩ ?_;rintro ⟨j,v⟩ w2 ⟨hj,hr⟩;dsimp only at hj hr ⊢;have hsl:=hr.slv (X:=[]) (by simp);have hs2:=hs.up hr.2;have hb2:=hblk.up hr.2;by_cases hlt:j<x.kids.length;obtain ⟨kv2,hk2,hc2⟩:=hs2.nd hlt;have hst:=Z91 (x.kids.map Zb) p j (by omega);have hle:=Z7a (x.kids.map Zb) p (j+1);have hle0:=Z7a (x.kids.map Zb) p j;rw [hst,Xc] at hle;rw [List.getElem_map] at hle hst;refine QO ?_;apply Z4 (JG rfl rfl hs2 hlt hc2) rfl;refine W ?_;generalize hA:Jn ((x.kids.map Zb).take j) p=A at *;refine CM (Zh rfl rfl) (hcs j hlt _ _ (p+A.length) _ (by omega) ⟨kv2,rfl,hk2⟩ (by omega)) ?_;rintro u w3 hu;have hus:=hu.slv (X:=ob v) (fun b hb=>(hr.ob_le b hb).2);replace hr:=hr.up hu.2;clear hu;refine Z1 (JB rfl (by decide) rfl rfl hr hus (by omega) (by simp only [maxLen];omega)) rfl ?_;rintro v' w4 ⟨hr',-,-⟩;refine W ?_;refine QL (j+1,v') ⟨by dsimp only;omega,?_⟩ (by dsimp only;omega);dsimp only;rw [hst];exact hr';have hje:j=(x.kids.map Zb).length:=by omega
  subst hje;rw [Xo] at hr hsl;generalize Jn (x.kids.map Zb) p=A at *;refine QO ?_;refine CL (Zdy (ob v) _ x _ (fun b hb=>(hr.ob_le b hb).2) hsh h9 ha ho ⟨kv,rfl,hs2⟩) ?_;rintro ov w3 ⟨hso,hT⟩;rw [hO] at hso;replace hr:=hr.up hT;clear hsl hs2 hb2;have hOm:=hso.max;refine W ?_;refine LP (σ:=Nat×Value) (fun q=>[(5,q.2),(7,ov),(8,.I (q.1:Int))]) (fun q w'=>q.1≤O.length∧RwI wA w' q.2 (A++Z29 (O.take q.1))∧SlV (ob q.2) w' ov O) (fun q=>O.length - q.1) (0,v) ⟨Xq _,by simpa [Z29] using hr,hso⟩ ?_;clear hr hso hT;rintro ⟨i,v5⟩ w5 ⟨hi,hr,hso⟩;dsimp only at hi hr hso ⊢;by_cases hlt:i<O.length;have hln:(A++Z29 (O.take i)).length=A.length+i:=by simp [Z29];omega
  refine QO ?_;apply Z8 (vs:=[(0,.I _)]) rfl (Z79 _) rfl;refine Z1 (Z0 (vs:=[(0,agg (Ins.mk O[i] 0))]) rfl (Z2T _)) rfl ?_;rintro u w6 hN6;have hu:SlV (ob v5) w6 u [Ins.mk O[i] 0]:=hN6.slv (fun b hb=>(hr.ob_le b hb).2) rfl rfl (by simp [maxLen]);have hT:=Z6.stp hN6;clear hN6;replace hr:=hr.up hT;replace hso:=hso.up hT;refine Z1 (JB rfl (by decide) rfl rfl hr hu (by rw [hln];simp only [Xe,Xf];omega) (by rw [hln];simp only [Xe,Xf,maxLen];omega)) rfl ?_;rintro v7 w7 ⟨hr',hS7,hob⟩;refine W ?_;refine QL (i+1,v7) ⟨by dsimp only;omega,?_,hso.ext hS7 (fun _ h=>h) hob⟩ (by dsimp only;omega);dsimp only;rw [Xi hlt];unfold Z29 at hr' ⊢;rw [XI,← Xx];exact hr';have hie:i=O.length:=by omega
  subst hie;rw [Xo] at hr;refine QO ?_;refine WR ?_;exact .mk (main _ _ hr)
theorem Z3g (v:Value) (x:Nd) (w) (hsz:ZM x≤1000) (hnest:ZE x≤1000000) (hx:NdV [] w v x) :
 Calls Tryz.prog 69 #[v] w (Ret (Zon w x)):=by
 have hN:=hx;obtain ⟨kv,rfl,hs⟩:=hx;refine cW1 24 Tryz.func69 ?_;refine W ?_;refine Z1 (Zq rfl) rfl ?_;rintro _ w1 ⟨b,rfl,hb,hblk,hS⟩;replace hblk:Blk w1 b _ (ndC x kv):=hblk;replace hs:=hs.up hS;replace hN:=hN.up hS;refine W ?_;refine CL (Z7t [] _ x _ (Z3z x hsz) hnest hN) ?_;rintro _ w2 ⟨rfl,hS2⟩;replace hs:=hs.up hS2;replace hN:=hN.up hS2;replace hblk:=hblk.up hS2;replace hS:=hS.trans hS2;by_cases hn:ZE x≤12
 case neg=>
  rw [if_neg hn,if_neg hn];have he:Z0D x=2:=by rw [Z0D,if_neg hn]
  refine QO ?_;refine WR ?_;refine .mk ⟨_,by rw [he];rfl,fun X hX=>?_,hS⟩;rw [he,if_neg (by decide)];exact Zm _ _
 by_cases ht:Ze x=0;rw [if_pos hn,if_pos hn,if_pos ht];have he:Z0D x=21:=by rw [Z0D,if_pos hn,if_pos ht]
 refine QO ?_;refine WR ?_;refine .mk ⟨_,by rw [he];rfl,fun X hX=>?_,hS⟩;rw [he,if_neg (by decide)];exact Zm _ _;rw [if_pos hn,if_pos hn,if_neg ht];have hlen:=Z92 x 0;refine QO ?_;refine CM (Zh rfl rfl) (ZmK x ht _ _ 0 0 rfl hN (by omega)) ?_;rintro v3 w3 hr;apply Z8 (vs:=[(0,.I 24)]) rfl (Z79 _) rfl;refine Z1 (Z0 (vs:=[(0,agg (Ins.mk 24 0))]) rfl (Z2T _)) rfl ?_;rintro u w4 hN4;have hu:SlV (ob v3) w4 u [Ins.mk 24 0]:=hN4.slv (fun b hb=>(hr.ob_le b hb).2) rfl rfl (by simp [maxLen]);have hT:=Z6.stp hN4;clear hN4;replace hr:=hr.up hT;refine Z1 (JB rfl (by decide) rfl rfl hr hu (by simp only [Xe,Xf];omega) (by simp only [Xe,Xf,maxLen];omega)) rfl ?_;clear hu hr hT;rintro v5 w5 ⟨hr,-,-⟩;replace hr:=hr.pre hS;replace hr:RwI w w5 v5 (J0 x):=hr;have hslv:=hr.slv (X:=[]) (by simp);by_cases hg:(J0 x).length > 200;have he:Z0D x=2:=by rw [Z0D,if_pos hn,if_neg ht,if_pos hg]
 refine QO ?_;refine WR ?_;refine .mk ⟨_,by rw [he],fun X hX=>?_,hr.2⟩;rw [he,if_neg (by decide)];exact Zm _ _;have he:Z0D x=0:=by rw [Z0D,if_pos hn,if_neg ht,if_neg hg]
 refine QO ?_;refine WR ?_;refine .mk ⟨_,by rw [he],fun X hX=>?_,hr.2⟩;rw [he,if_pos rfl];exact hr.slv hX
end Go.Proofs.YtipfkbkkndacjaaGreatDoor
namespace Go.Eng
open Go Go.RowKit Go.Proofs
theorem Z6.slvG {α:Type} [Z7 α] {w w':World} {X:List Nat} {T len:Nat} {cs:List Value} {v:Value} {ys:List α} {css:List (List Value)} (h:Z6 w T len cs v w') (hX:∀ b∈X,b<w.heap.size) (hl:len=ys.length) (hcl:css.length=ys.length)
 (hc:cs=css.flatten) (hr:∀ i (hi:i<ys.length) (hi':i<css.length),Z7.rep X w ys[i] css[i]) (hm:ys.length≤maxLen):SlV X w' v ys:=by
 obtain ⟨b,rfl,hb,hblk,hS⟩:=h;subst hl;subst hc;have hk:∀ c∈css,c.length=Z7.k α:=by
  intro c hc;obtain ⟨i,hi,rfl⟩:=Xr hc;exact Z7.len (hr i (by omega) hi)
 refine ⟨some ⟨b,0,none⟩,ys.length,rfl,Xn _,hm,fun h=>by simp at h,fun i hi=>⟨b,0,css[i]'(by omega),rfl,hblk.lt,fun hx=>by have:=hX b hx;omega,Z7.ext (hr i hi (by omega)) hS (by simp) (fun b hb=>.inl hb),fun j u hu=>?_⟩⟩;refine hblk.cell ?_;have:=Z0q css hk i (by omega) j u hu;rw [XJ];exact this
theorem SlV.wk {α:Type} [Z7 α] {X X':List Nat} {w} {v:Value} {l:List α} (h:SlV X w v l) (hs:∀ b∈X',b∈X):SlV X' w v l:=h.ext (Stp.refl [] w) (by simp) (fun b hb=>.inl (hs b hb))
end Go.Eng
namespace Go.Proofs.YtipfkbkkndacjaaGreatDoor
open Go Go.Eng Go.RowKit
theorem Z0u (x:Nd):ZE x≤ZM x:=by
 induction x using Nd.ind with
 | h k n s l ih=>
 rw [Z0J,Z17];show 1+(l.map ZE).foldl max 0≤1+(l.map ZM).sum;have:∀ (l:List Nd) (a:Nat),(∀ x∈l,ZE x≤ZM x)→(l.map ZE).foldl max a≤a+(l.map ZM).sum:=by
  intro l
  induction l with
  | nil=>intro a _;simp
  | cons y r ihr=>
    intro a h;simp only [Xy,X1,List.sum_cons];have h1:=ihr (max a (ZE y)) (fun x hx=>h x (by simp [hx]));have h2:=h y (by simp);omega
 have:=this l 0 ih;omega
theorem Z2z (k n:Int) (s:Str) (p:Option Addr) (l c:Nat) (w):(Instr.buildSlice 95 1 #[(0,.agg #[.I k,.I n,str s,.slice p l c])]).run Tryz.prog w=.ok (.slice (some ⟨w.heap.size,0,none⟩) 1 1) (w.alloc (.cells #[.I k,.I n,str s,.slice p l c] 97)):=by kernel_rfl
theorem JC (z:Int) (m:Int) (w) (hm:0<m) (hz:I64 z):CC 11 #[.I z,.I m] w fun r w'=>r=.I ((if z<0 then -(z+1) else z) % m)∧Stp [] w w':=by
 unfold I64 at hz;refine cW2 13 Tryz.func11 ?_;by_cases h:z<0;refine RT ?_;exact ⟨by rw [if_pos h],Stp.refl _ _⟩;refine RT ?_;exact ⟨by rw [if_neg h],Stp.refl _ _⟩
theorem Jm (z m:Int) (hm:0<m):0≤z % m∧z % m<m:=⟨Ya0 _ (by omega),YaN _ hm⟩
theorem J1 (X:List Nat) (v:Value) (l:List Int) (i m:Int) (w) (hm:0<m) (hi:I64 i) (hs:SlV X w v l) (hl:∀ a∈l,I64 a):CC 35 #[v,.I i,.I m] w fun r w'=>∃ q:Nat,r=.I (q:Int)∧(q:Int)<m∧Stp [] w w':=by
 unfold I64 at hi;have hmax:=hs.max;refine cW3 21 Tryz.func35 ?_;refine W ?_;by_cases hgo:0≤i∧i<l.length;obtain ⟨h0,h1⟩:=hgo;obtain ⟨k,rfl⟩:∃ k:Nat,i=(k:Int):=⟨i.toNat,by omega⟩
 have hk:k<l.length:=by omega
 refine QO ?_;refine CL (JC _ m _ hm (hl _ (Xd hk))) ?_;rintro _ w2 ⟨rfl,hS⟩;refine W ?_;refine WR ?_;have:=Jm (if l[k]<0 then -(l[k]+1) else l[k]) m hm;exact .mk ⟨_,by rw [YaW this.1],by rw [YaW this.1];exact this.2,hS⟩
 · repeat'(first|refine W1 ?_|omega|refine VG ?_ ?_<;>intro hg|refine VC ?_ ?_<;>intro hc)
   all_goals first
    | (refine RU ?_
       exact ⟨0,rfl,by simpa using hm,Stp.refl _ _⟩)
theorem ZfF (k:Int) (s:Str) (p:Option Addr) (l c:Nat) (w):(Instr.build 97 #[(0,.I k),(2,str s),(3,.slice p l c)]).run Tryz.prog w=.ok (.agg #[.I k,.I 0,str s,.slice p l c]) w:=by kernel_rfl
def szD:Nat→Nat
 | 0=>0
 | d+1=>1+3 * szD d
theorem Zdz {d:Nat} (h:1≤d):szD d=1+3 * szD (d - 1):=by
 cases d with
 | zero=>omega
 | succ d=>rfl
theorem Z94 {X:List Nat} {w} {y0:Nd} {k0:Value} (s0:SlV X w k0 y0.kids):∀ i (hi:i < [y0].length) (hi':i < [ndC y0 k0].length),Z7.rep X w [y0][i] [ndC y0 k0][i]
 | 0,_,_=>(show Z4u X w y0 (ndC y0 k0) by rw [y0.eta];exact Z2y s0)
theorem Z1m {X:List Nat} {w} {y0 y1:Nd} {k0 k1:Value} (s0:SlV X w k0 y0.kids) (s1:SlV X w k1 y1.kids):∀ i (hi:i < [y0,y1].length) (hi':i < [ndC y0 k0,ndC y1 k1].length),Z7.rep X w [y0,y1][i] [ndC y0 k0,ndC y1 k1][i]
 | 0,_,_=>(show Z4u X w y0 (ndC y0 k0) by rw [y0.eta];exact Z2y s0)
 | 1,_,_=>(show Z4u X w y1 (ndC y1 k1) by rw [y1.eta];exact Z2y s1)
theorem Zoo {X:List Nat} {w} {y0 y1 y2:Nd} {k0 k1 k2:Value} (s0:SlV X w k0 y0.kids) (s1:SlV X w k1 y1.kids) (s2:SlV X w k2 y2.kids):∀ i (hi:i < [y0,y1,y2].length) (hi':i < [ndC y0 k0,ndC y1 k1,ndC y2 k2].length),Z7.rep X w [y0,y1,y2][i] [ndC y0 k0,ndC y1 k1,ndC y2 k2][i]
 | 0,_,_=>(show Z4u X w y0 (ndC y0 k0) by rw [y0.eta];exact Z2y s0)
 | 1,_,_=>(show Z4u X w y1 (ndC y1 k1) by rw [y1.eta];exact Z2y s1)
 | 2,_,_=>(show Z4u X w y2 (ndC y2 k2) by rw [y2.eta];exact Z2y s2)
theorem Z3D (k n:Int) (w):(Instr.build 97 #[(0,.I k),(1,.I n)]).run Tryz.prog w=.ok (.agg #[.I k,.I n,str [],.N]) w:=by kernel_rfl
theorem Jo (k n:Int) (s:Str) (p:Option Addr) (l c:Nat) (k' n':Int) (s':Str) (p':Option Addr) (l' c':Nat) (w):(Instr.buildSlice 95 2 #[(0,.agg #[.I k,.I n,str s,.slice p l c]),(1,.agg #[.I k',.I n',str s',.slice p' l' c'])]).run Tryz.prog w=.ok (.slice (some ⟨w.heap.size,0,none⟩) 2 2) (w.alloc (.cells #[.I k,.I n,str s,.slice p l c,.I k',.I n',str s',.slice p' l' c'] 97)):=by kernel_rfl
theorem ZbD (k n:Int) (s:Str) (p:Option Addr) (l c:Nat) (k' n':Int) (s':Str) (p':Option Addr) (l' c':Nat) (k'' n'':Int) (s'':Str) (p'':Option Addr) (l'' c'':Nat) (w):(Instr.buildSlice 95 3 #[(0,.agg #[.I k,.I n,str s,.slice p l c]),(1,.agg #[.I k',.I n',str s',.slice p' l' c']),(2,.agg #[.I k'',.I n'',str s'',.slice p'' l'' c''])]).run Tryz.prog w=.ok (.slice (some ⟨w.heap.size,0,none⟩) 3 3) (w.alloc (.cells #[.I k,.I n,str s,.slice p l c,.I k',.I n',str s',.slice p' l' c',.I k'',.I n'',str s'',.slice p'' l'' c''] 97)):=by kernel_rfl
theorem ZwF (k n:Int) (s:Str) (y0:Nd):ZM (.mk k n s [y0])=1+ZM y0:=by rw [Z17];simp [Nd.kids]
theorem ZwG (k n:Int) (s:Str) (y0 y1:Nd):ZM (.mk k n s [y0,y1])=1+ZM y0+ZM y1:=by rw [Z17];simp [Nd.kids];omega
theorem ZwH (k n:Int) (s:Str) (y0 y1 y2:Nd):ZM (.mk k n s [y0,y1,y2])=1+ZM y0+ZM y1+ZM y2:=by rw [Z17];simp [Nd.kids];omega
theorem ZwI (k n:Int) (s:Str):ZM (.mk k n s [])=1:=by rw [Z17];simp [Nd.kids]
def ZdA:List Str:=[[101,120,116,114,97],[98,121],[116,111],[99,111,117,114,116],[97,109,111,117,110,116]]
def Z7z:List Str:=[[100,97,121],[115,101,114,118,101,100]]
inductive Gn:Int→Nat→Nd→Prop
 | num (d:Nat) (n:Int) (h:0≤n∧n<25):Gn 1 d (.mk 1 n [] [])
 | fldN (d:Nat) (s:Str) (h:s∈ZdA):Gn 1 d (.mk 4 0 s [])
 | fldD (d:Nat) (s:Str) (h:s∈Z7z):Gn 3 d (.mk 4 0 s [])
 | day (d:Nat) (n:Int) (h:739616≤n∧n<739676):Gn 3 d (.mk 3 n [] [])
 | bool (d:Nat) (n:Int) (h:n=0∨n=1):Gn 2 d (.mk 2 n [] [])
 | neg (d:Nat) (a:Nd):Gn 1 d a→Gn 1 (d+1) (.mk 5 0 [45] [a])
 | not (d:Nat) (a:Nd):Gn 2 d a→Gn 2 (d+1) (.mk 5 0 [110,111,116] [a])
 | btw (d:Nat) (a b:Nd):Gn 3 d a→Gn 3 d b→Gn 1 (d+1) (.mk 10 0 [98,101,116,119,101,101,110] [a,b])
 | cond (d:Nat) (t:Int) (c a b:Nd) (h:t=1∨t=3):Gn 2 d c→Gn t d a→Gn t d b→Gn t (d+1) (.mk 9 0 [] [c,a,b])
 | arith (d:Nat) (s:Str) (a b:Nd) (h:s∈Z0a):Gn 1 d a→Gn 1 d b→Gn 1 (d+1) (.mk 6 0 s [a,b])
 | adj (d:Nat) (s:Str) (a:Nd) (h:s∈Z15):Gn 3 d a→Gn 3 (d+1) (.mk 10 0 s [a])
 | two (d:Nat) (s:Str) (a b:Nd) (h:s∈Z16):Gn 3 d a→Gn 3 d b→Gn 3 (d+1) (.mk 10 0 s [a,b])
 | move (d:Nat) (k:Int) (s:Str) (a b:Nd) (hk:k=7∨k=8) (h:s∈J4):Gn 3 d a→Gn 1 d b→Gn 3 (d+1) (.mk k 0 s [a,b])
 | logic (d:Nat) (s:Str) (a b:Nd) (h:s∈Z03):Gn 2 d a→Gn 2 d b→Gn 2 (d+1) (.mk 6 0 s [a,b])
 | cmp (d:Nat) (t:Int) (s:Str) (a b:Nd) (ht:t=1∨t=3) (h:s∈Z28):Gn t d a→Gn t d b→Gn 2 (d+1) (.mk 6 0 s [a,b])
theorem Z1h (d:Nat):1≤szD (d+1):=by show 1≤1+3 * szD d;omega
theorem Gn.size {t:Int} {d:Nat} {x:Nd} (h:Gn t d x):ZM x≤szD (d+1):=by
 induction h with
 | num d|fldN d|fldD d|day d|bool d=>rw [ZwI];exact Z1h d
 | neg d|not d|adj d=>rw [ZwF,Zdz (by omega)];simp only [Ybo];omega
 | btw d|arith d|two d|move d|logic d|cmp d=>rw [ZwG,Zdz (by omega)];simp only [Ybo];omega
 | cond d=>rw [ZwH,Zdz (by omega)];simp only [Ybo];omega
end Go.Proofs.YtipfkbkkndacjaaGreatDoor
namespace Go.Eng
open Go Go.RowKit Go.Proofs
structure WT (P:Program) (n:Nat) (ops:Array Oper) (S:List Nat) (Lt:List Nat) (Q:Exit→Act→World→Prop) (listed:Array Bool) (fuel:Nat) (e:Env) (w:World):Prop where
 h:∀ a,Has n e a→Z0P P .any ops S (fun j=>Lt.contains j) (fun a w=>Q .normal a w) fuel listed a w
structure WT1 (P:Program) (n:Nat) (ops:Array Oper) (S:List Nat) (Lt:List Nat) (Q:Exit→Act→World→Prop) (i:Nat) (listed:Array Bool) (fuel:Nat) (e:Env) (w:World):Prop where
 h:∀ a,Has n e a→wpOp P ops (fun _ _ _=>False) i (fun a' w'=>(Stp S w w'∨Lt.contains i=true)∧Z0P P .any ops S (fun j=>Lt.contains j) (fun a w=>Q .normal a w) fuel (listed.setIfInBounds i true) a' w') a w
section rules
variable {P:Program} {n:Nat} {Q:Exit→Act→World→Prop} {e:Env} {w:World} {ops:Array Oper} {S:List Nat} {Lt:List Nat} {listed:Array Bool} {fuel:Nat}
theorem Z4a {id:Nat} {l:List Oper} (m:Nat) (S:List Nat) (Lt:List Nat) (hlm:l.length=m) (hm:P.follows .mixedOrders=true)
 (h:∀ w',Stp [] w w'→WT P n l.toArray S Lt Q (Array.replicate m false) m e w'):WC P n (.region id l.toArray true) Q e w:=by
 subst hlm;refine ⟨fun a ha=>wp_region_any hm ?_⟩;have h1:=(h { w with drawn:=w.drawn+1 } (Stp.drew [] w)).h a ha;have h2:=Z0Q (Q:=Q) (fun a w hz=>hz) _ _ _ _ h1;simpa using h2
theorem Z4v (ord:List (Nat×Nat)) (hs:Region.noSelect ops=true) (hB:J9 ops Lt ord listed=true) (hl:Nat.beq (wt ord) fuel=true) (h:WD P n ops S Lt Q ord e w):WT P n ops S Lt Q listed fuel e w:=by
 have:=XK hl;subst this;exact ⟨fun a ha=>h.h _ hs hB a ha⟩
theorem Z1u (i q:Nat) (hr:(Region.ready .any ops listed == [i,q])=true) (h1:WT1 P n ops S Lt Q i listed fuel e w) (h2:WT1 P n ops S Lt Q q listed fuel e w):WT P n ops S Lt Q listed (fuel+1) e w:=by
 have hr:=beq_iff_eq.1 hr;refine ⟨fun a ha=>⟨fun h0=>absurd (hr ▸ h0) (by simp),fun j hj=>?_⟩⟩;rw [hr] at hj;have hj':j=i∨j=q:=by simpa using hj
 rcases hj' with rfl|rfl
 exact h1.h a ha;exact h2.h a ha
variable {i d:Nat} {op:Op} {ty:TypeId} {pos:String} {af:Array Edge} {gd:Option (Nat×Bool)} {v:Value}
theorem Ztq {o:Oper} {dst:Option Nat} {G:Value→World→Prop} (hi:ops[i]?=some o) (hdst:o.dst=dst) (hg:Zz ops e o.guard) (hp:OE P n o e w (fun v w'=>(Stp S w w'∨Lt.contains i=true)∧G v w'))
 (k:∀ v w' a',G v w'→∀ a,Has n e a→a'=a.put dst v→∃ e',Has n e' a'∧WT P n ops S Lt Q (listed.setIfInBounds i true) fuel e' w'):WT1 P n ops S Lt Q i listed fuel e w:=by
 refine ⟨fun a ha=>?_⟩;unfold wpOp;simp only [hi];rw [if_pos (Jt ha hg)];refine .inl (Oper.wp_mono ?_ (hp.h a ha _));rintro a' w' ⟨v,rfl,hs',hG⟩;obtain ⟨e',he',hk⟩:=k v w' (a.put o.dst v) hG a ha (by rw [hdst]);exact ⟨hs',hk.h _ he'⟩
theorem Jb {G:Value→World→Prop} (hi:ops[i]?=some ⟨some d,op,ty,pos,af,gd⟩) (hg:Zz ops e gd) (hp:OE P n ⟨some d,op,ty,pos,af,gd⟩ e w G) (hG:∀ v w',G v w'→Stp S w w') (hdn:Nat.blt d n=true)
 (k:∀ v w',G v w'→WT P n ops S Lt Q (listed.setIfInBounds i true) fuel ((d,v) :: e) w'):WT1 P n ops S Lt Q i listed fuel e w:=
 Ztq (G:=G) hi rfl hg (hp.mono fun v w' h=>⟨.inl (hG v w' h),h⟩) (fun v w' a' h a ha e=>⟨_,by rw [e];exact ha.put hdn,k v w' h⟩)
theorem Zjd (i:Nat) {o:Oper} (hi:ops[i]?=some o) (hd:o.dst=some d) (hY:∀ a,Has n e a→YE P ops (fun _ _=>True) o v a w) (hdn:Nat.blt d n=true) (hs:Region.noSelect ops=true)
 (hB:((Region.ready .any ops listed).contains i && Region.free .any ops listed i)=true)
 (k:WT P n ops S Lt Q (listed.setIfInBounds i true) fuel ((d,v) :: e) w):WT P n ops S Lt Q listed (fuel+1) e w:=by
 refine ⟨fun a ha=>?_⟩;simp only [Xm] at hB;have hk:=k.h _ (ha.put (v:=v) hdn);rw [← hd] at hk;exact Z55 (R:=fun _ _=>True) (fun _=>trivial) (fun _ _ _ _ _=>trivial) hi (fun _ _ _ _ _ _ _ _=>trivial) (Region.noSelect_spec hs) _ _ _ _ (Region.free_spec hi hB.2) (fun _=>trivial) (by simpa using hB.1) (hY a ha) hk
theorem Zje (i:Nat) {o:Oper} (hi:ops[i]?=some o) (hd:o.dst=some d) (hY:∀ a,Has n e a→YE P ops (Stp S) o v a w) (hdn:Nat.blt d n=true) (hs:Region.noSelect ops=true)
 (hB:((Region.ready .any ops listed).contains i && Region.free .any ops listed i && Zet ops Lt i)=true)
 (k:WT P n ops S Lt Q (listed.setIfInBounds i true) fuel ((d,v) :: e) w):WT P n ops S Lt Q listed (fuel+1) e w:=by
 refine ⟨fun a ha=>?_⟩;simp only [Xm] at hB;obtain ⟨⟨h1,h2⟩,hb⟩:=hB;have hk:=k.h _ (ha.put (v:=v) hdn);rw [← hd] at hk;refine Z55 (R:=Stp S) (fun w=>Stp.refl _ w) (fun _ _ _ h k=>h.trans k) hi (fun j oj hj hn hji w w' hs=>?_) (Region.noSelect_spec hs) _ _ _ _ (Region.free_spec hi h2) (fun _=>trivial) (by simpa using h1) (hY a ha) hk;rcases hs with hs|hs
 exact hs;rw [Z4O hb hj hn hji] at hs;cases hs
theorem JU (i:Nat) (hi:ops[i]?=some ⟨some d,op,ty,pos,af,gd⟩) (hg:Zz ops e gd) (hp:∀ w',PR P n ⟨some d,op,ty,pos,af,gd⟩ e w' v) (hdn:Nat.blt d n=true) (hs:Region.noSelect ops=true)
 (hB:((Region.ready .any ops listed).contains i && Region.free .any ops listed i)=true)
 (k:WT P n ops S Lt Q (listed.setIfInBounds i true) fuel ((d,v) :: e) w):WT P n ops S Lt Q listed (fuel+1) e w:=
 Zjd i hi rfl (fun a ha=>.inl ⟨Jt ha hg,fun w' _=>(hp w').h a ha⟩) hdn hs hB k
theorem Zam (i:Nat) (hi:ops[i]?=some ⟨some d,op,ty,pos,af,gd⟩) (hg:Zz ops e gd) (hp:∀ w',Stp S w w'→PR P n ⟨some d,op,ty,pos,af,gd⟩ e w' v) (hdn:Nat.blt d n=true) (hs:Region.noSelect ops=true)
 (hB:((Region.ready .any ops listed).contains i && Region.free .any ops listed i && Zet ops Lt i)=true)
 (k:WT P n ops S Lt Q (listed.setIfInBounds i true) fuel ((d,v) :: e) w):WT P n ops S Lt Q listed (fuel+1) e w:=
 Zje i hi rfl (fun a ha=>.inl ⟨Jt ha hg,fun w' hw=>(hp w' hw).h a ha⟩) hdn hs hB k
end rules
end Go.Eng
namespace Go.Proofs.YtipfkbkkndacjaaGreatDoor
open Go Go.Eng Go.RowKit
theorem bS1 (a:Str) (w):(Instr.buildSlice 128 1 #[(0,str a)]).run Tryz.prog w=.ok (.slice (some ⟨w.heap.size,0,none⟩) 1 1) (w.alloc (.cells #[str a] 9)):=by kernel_rfl
theorem bS2 (a b:Str) (w):(Instr.buildSlice 128 2 #[(0,str a),(1,str b)]).run Tryz.prog w=.ok (.slice (some ⟨w.heap.size,0,none⟩) 2 2) (w.alloc (.cells #[str a,str b] 9)):=by kernel_rfl
theorem bS3 (a b c:Str) (w):(Instr.buildSlice 128 3 #[(0,str a),(1,str b),(2,str c)]).run Tryz.prog w=.ok (.slice (some ⟨w.heap.size,0,none⟩) 3 3) (w.alloc (.cells #[str a,str b,str c] 9)):=by kernel_rfl
theorem bS5 (a b c d e:Str) (w):(Instr.buildSlice 128 5 #[(0,str a),(1,str b),(2,str c),(3,str d),(4,str e)]).run Tryz.prog w=.ok (.slice (some ⟨w.heap.size,0,none⟩) 5 5) (w.alloc (.cells #[str a,str b,str c,str d,str e] 9)):=by kernel_rfl
theorem bS6 (a b c d e f:Str) (w):(Instr.buildSlice 128 6 #[(0,str a),(1,str b),(2,str c),(3,str d),(4,str e),(5,str f)]).run Tryz.prog w=.ok (.slice (some ⟨w.heap.size,0,none⟩) 6 6) (w.alloc (.cells #[str a,str b,str c,str d,str e,str f] 9)):=by kernel_rfl
abbrev Mk3 (w:World) (bm:Nat) (lv:Value) (i:Nat):Prop:=Blk w bm 146 [lv,.I (i:Int)]
theorem Zw (bm:Nat) (lv:Value) (l:List Int) (i:Nat) (n:Int) (w) (hn:0<n) (hi:i≤1000000) (hb:Mk3 w bm lv i) (hs:SlV [bm] w lv l) (hl:∀ a∈l,I64 a) :
 CC 66 #[pQ bm,.I n] w fun r w'=>∃ q:Nat,r=.I (q:Int)∧(q:Int)<n∧Mk3 w' bm lv (i+1)∧Stp [bm] w w':=by
 refine cW2 23 Tryz.func66 ?_;refine W ?_;refine S1 (u:=.I ((i:Int)+1)) hb ?_;rintro _ w1 ⟨hS1',hb1⟩;replace hb1:Mk3 w1 bm lv (i+1):=hb1;replace hs:=hs.ext hS1' (fun _ h=>h) (fun _ h=>.inl h);replace hs:SlV [] w1 lv l:=hs.wk (by simp);refine W ?_;refine ZDr 12 [] [] [(0,0),(1,0),(2,0),(3,1),(4,0),(5,0),(6,0),(7,1),(8,0),(9,0),(10,2),(11,0)] (fun w1 hS1=>?_);replace hb1:=hb1.up hS1;replace hs:=hs.up hS1;refine D ?_;refine Zc rfl trivial (Zd rfl (Js rfl rfl rfl) (J1 [] _ l _ n _ hn (by unfold I64;omega) hs hl)) (fun _ _ h=>h.choose_spec.2.2) rfl ?_;rintro _ w3 ⟨q,rfl,hq,hS3⟩;replace hb1:=hb1.up hS3;refine D ?_;refine RT ?_;exact ⟨q,rfl,hq,hb1,(hS1'.trans hS1.mn).trans hS3.mn⟩
theorem Z5X (bm:Nat) (lv:Value) (l:List Int) (i:Nat) (d:Nat) (z:Int) (w) (hz:z=(d:Int)) (hb:Mk3 w bm lv i) (hs:SlV [bm] w lv l) :
 CC 178 #[pQ bm,.I z] w fun r w'=>∃ b:Bool,r=.B b∧(d=0→b=true)∧Stp [] w w':=by
 subst hz;refine cW2 19 Tryz.func178 ?_;refine W ?_;by_cases h0:d=0;refine ZDr 15 [] [] [(0,0),(1,0),(2,0),(3,0),(4,0),(5,0),(6,1),(7,0),(8,0),(9,0),(10,1),(11,0),(12,0),(13,0),(14,0)] (fun w1 hS1=>?_);refine D ?_;have e0:((d:Int)≤0):=by omega
 simp only [e0,decide_true];refine D ?_;refine RT ?_;exact ⟨true,rfl,fun _=>rfl,hS1⟩;refine ZDr 15 [] [] [(0,0),(1,0),(2,0),(3,0),(4,0),(5,0),(6,1),(7,0),(8,0),(9,0),(10,1),(11,0),(12,0),(13,0),(14,0)] (fun w1 hS1=>?_);replace hb:=hb.up hS1;replace hs:=hs.up hS1;refine D ?_;have e0:¬ ((d:Int)≤0):=by omega
 simp only [e0,decide_false];refine D ?_;refine RT ?_;exact ⟨_,rfl,fun h=>absurd h h0,hS1⟩
theorem Zs (X:List Nat) (k:Int) (s:Str) (kv:Value) (kids:List Nd) (w:World) (hX:∀ b∈X,b<w.heap.size) (hs:SlV X w kv kids):CC 179 #[.I k,str s,kv] w fun r w'=>NdV X w' r (.mk k 0 s kids)∧Stp [] w w':=by
 obtain ⟨p,c,rfl,-⟩:=id hs;refine cW3 11 Tryz.func179 ?_;refine W ?_;refine Z1 Z2 rfl ?_;rintro _ w1 ⟨b,rfl,hb,hblk,hS⟩;refine W ?_;apply Z8 (vs:=[(0,.I k),(2,str s),(3,.slice p kids.length c)]) rfl (ZfF _ _ _ _ _) rfl;refine SB (us:=ndC (.mk k 0 s kids) (.slice p kids.length c)) (Zi hs) hblk ?_;rintro _ w2 ⟨hS2,hblk2⟩;have hT:=hS.ow hS2;refine W ?_;refine Zk rfl rfl rfl hblk2 rfl ?_;exact .mk ⟨⟨_,rfl,hs.up hT⟩,hT⟩
def ZwJ (k:Int):List Str:=if k=1 then [[111,114]] else if k=2 then [[97,110,100]] else if k=4 then Z28 else if k=5 then [[43],[45]] else [[42]]
theorem Z6Z (X:List Nat) (k:Int) (w:World) (hX:∀ b∈X,b<w.heap.size):CC 241 #[.I k] w fun r w'=>SlV X w' r (ZwJ k)∧Stp [] w w':=by
 refine cW1 17 Tryz.func241 ?_;have key:∀ (n:Nat) (vs:List Value) (v:Value) (w':World) (ys:List Str),Z6 w n ys.length vs v w'→vs=ys.flatMap Z3.enc→ys.length≤maxLen→SlV X w' v ys:=fun n vs v w' ys h e hm=>Z6.slv h hX rfl e hm;by_cases h1:k=1;subst h1;refine QO ?_;refine Z1 (Z0 (vs:=[(0,str [111,114])]) rfl (bS1 _)) rfl ?_;rintro v w1 hN;have hv:SlV X w1 v ([[111,114]]:List Str):=hN.slv hX rfl rfl (by decide);have hT:=Z6.stp hN;refine RT ?_;exact ⟨hv,hT⟩;by_cases h2:k=2;subst h2;refine QO ?_;refine Z1 (Z0 (vs:=[(0,str [97,110,100])]) rfl (bS1 _)) rfl ?_;rintro v w1 hN;have hv:SlV X w1 v ([[97,110,100]]:List Str):=hN.slv hX rfl rfl (by decide);have hT:=Z6.stp hN;refine RT ?_;exact ⟨hv,hT⟩;by_cases h4:k=4;subst h4;refine QO ?_;refine Z1 (Z0 (vs:=[(0,str [60]),(1,str [60,61]),(2,str [61]),(3,str [33,61]),(4,str [62]),(5,str [62,61])]) rfl (bS6 _ _ _ _ _ _)) rfl ?_;rintro v w1 hN;have hv:SlV X w1 v Z28:=hN.slv hX rfl rfl (by decide);have hT:=Z6.stp hN;refine RT ?_;exact ⟨hv,hT⟩;by_cases h5:k=5;subst h5;refine QO ?_;refine Z1 (Z0 (vs:=[(0,str [43]),(1,str [45])]) rfl (bS2 _ _)) rfl ?_;rintro v w1 hN;have hv:SlV X w1 v ([[43],[45]]:List Str):=hN.slv hX rfl rfl (by decide);have hT:=Z6.stp hN;refine RT ?_;exact ⟨hv,hT⟩;refine QO ?_;refine Z1 (Z0 (vs:=[(0,str [42])]) rfl (bS1 _)) rfl ?_;rintro v w1 hN;have hv:SlV X w1 v ([[42]]:List Str):=hN.slv hX rfl rfl (by decide);have hT:=Z6.stp hN;refine RT ?_;exact ⟨by unfold ZwJ;rw [if_neg h1,if_neg h2,if_neg h4,if_neg h5];exact hv,hT⟩
theorem Z5c (q:Nat) (w) (hq:q<6):CC 180 #[.I (q:Int)] w fun r w'=>(∃ s∈Z28,r=str s)∧Stp [] w w':=by
 refine cW1 7 Tryz.func180 ?_;refine W ?_;refine CM (ZX rfl) (Z6Z [] 4 _ (by simp)) ?_;rintro v w1 ⟨hv,hS⟩;replace hv:SlV [] w1 v Z28:=hv;have hqn:q<Z28.length:=by show q<6;exact hq
 refine RT ?_;exact ⟨⟨_,Xd hqn,rfl⟩,hS⟩
structure G3 (X:List Nat) (w0 w:World) (bm b4:Nat) (lv:Value) (l:List Int) (i:Nat):Prop where
 mkr:Mk3 w bm lv i
 sl:SlV [bm] w lv l
 stp:Stp [bm] w0 w
 blk:∃ cs:List Value,cs.length=4∧Blk w b4 97 cs
 ne:b4≠bm
 hX:∀ b∈X,b<w.heap.size
theorem G3.nxt {X:List Nat} {w0 w w':World} {bm b4:Nat} {lv:Value} {l:List Int} {i i':Nat} (h:G3 X w0 w bm b4 lv l i) (hm:Mk3 w' bm lv i') (hS:Stp [bm] w w'):G3 X w0 w' bm b4 lv l i':=
 ⟨hm,h.sl.ext hS (fun _ h=>h) (fun _ h=>.inl h),h.stp.trans hS,h.blk.imp (fun cs hc=>⟨hc.1,hc.2.ext hS (by simpa using h.ne)⟩),h.ne,fun b hb=>Xa (h.hX b hb) hS.size⟩
theorem G3.up {X:List Nat} {w0 w w':World} {bm b4:Nat} {lv:Value} {l:List Int} {i:Nat} (h:G3 X w0 w bm b4 lv l i) (hS:Stp [] w w'):G3 X w0 w' bm b4 lv l i:=
 h.nxt (h.mkr.up hS) hS.mn
theorem G3.fin {X:List Nat} {w0 w1 w w':World} {bm b4:Nat} {lv:Value} {l:List Int} {i:Nat} {y:Nd} {ky:Value} (h:G3 (b4 :: bm :: X) w1 w bm b4 lv l i) (hw:Stp [] w0 w1) (hb:w0.heap.size≤b4) (hy:SlV (b4 :: bm :: X) w ky y.kids) (hS:Stp [b4] w w') :
 NdV X w' (.agg (ndC y ky).toArray) y∧Mk3 w' bm lv i∧Stp [bm] w0 w':=
 ⟨⟨ky,rfl,(hy.ext (X':=b4 :: bm :: X) hS (by simp) (fun _ h=>.inl h)).wk (fun c hc=>by simp [hc])⟩,h.mkr.ext hS (by simpa using h.ne.symm),(hw.mn.trans h.stp).ow hS⟩
def Z2r (f:Nat) (t:Int) (d:Nat):Prop:=∀ (X:List Nat) (w:World) (bm:Nat) (lv:Value) (l:List Int) (i:Nat) (z:Int),z=(d:Int)→Mk3 w bm lv i→SlV [bm] w lv l→(∀ a∈l,I64 a)→i+3 * szD (d+1)≤100000→(∀ b∈X,b<w.heap.size)→
 CC f #[pQ bm,.I z] w fun r w'=>∃ y i',NdV X w' r y∧Gn t d y∧Mk3 w' bm lv i'∧i'≤i+3 * szD (d+1)∧Stp [bm] w w'
theorem JL {w w1 w2:World} {b:Nat} (h:Stp [] w w1) (hb:w.heap.size≤b) (h2:Stp [b] w1 w2):Stp [] w w2:=h.ow h2
set_option maxHeartbeats 1000000
theorem Z5d (d:Nat) (hd6:d≤6) (ih:∀ e,d=e+1→Z2r 181 1 e∧Z2r 104 2 e∧Z2r 105 3 e):Z2r 181 1 d:=by
 intro X w bm lv l i z hz hmk hsl hl hi hX;subst hz;have hsz:szD (d+1)=1+3 * szD d:=rfl;refine cW2 88 Tryz.func181 ?_;refine W ?_;refine Z1 Z2 rfl ?_;rintro _ w1 ⟨b4,rfl,hb4,hblk4,hS0⟩;have gm:G3 (b4 :: bm :: X) w1 w1 bm b4 lv l i:=⟨hmk.up hS0,hsl.up hS0,Stp.refl _ _,⟨_,rfl,hblk4⟩,fun h=>by have:=hmk.lt;omega,fun c hc=>by
  simp only [Xb] at hc;have h1:=hblk4.lt;have h2:=hmk.lt;have h3:=hS0.size;rcases hc with rfl|rfl|hc
  exact h1;omega;have:=hX c hc;omega⟩
 clear hblk4 hX hsl hmk;refine W ?_;refine CM (Zh rfl rfl) (Zw bm lv l _ 9 _ (by decide) (by omega) gm.mkr gm.sl hl) ?_;rintro _ wq ⟨q,rfl,hq,hm,hS⟩;replace gm:=gm.nxt hm hS;clear hm hS;refine W ?_;refine CL (Z5X bm lv l _ d _ _ rfl gm.mkr gm.sl) ?_;rintro _ wq ⟨dn,rfl,hdn,hT⟩;replace gm:=gm.up hT;clear hT;refine W ?_;refine JA (σ:=Nat) (fun k=>[(0,pQ bm),(1,.I (d:Int)),(4,pQ b4),(5,.I (k:Int))]) (fun k w'=>w'=wq∧k<9∧(d=0→k<4)) ?_ ?_
 · cases dn with
   | true=>
     refine QO ?_;exact QT (q % 4) ⟨rfl,by omega,fun _=>by omega⟩
   | false=>
     refine QO ?_;exact QT q ⟨rfl,by omega,fun h=>absurd (hdn h) (by decide)⟩
 rintro k w3 ⟨rfl,hkn,hk1⟩;clear hq hdn;by_cases k0:k≤2
 · repeat'(first|refine W1 ?_|omega|refine VG ?_ ?_<;>intro hg|refine VC ?_ ?_<;>intro hc)
   all_goals
    refine CM (Zh rfl rfl) (Zw bm lv l _ 25 _ (by decide) (by omega) gm.mkr gm.sl hl) ?_;rintro _ wq ⟨q',rfl,hq',hm,hS⟩;replace gm:=gm.nxt hm hS;clear hm hS;refine W ?_;apply Z8 (vs:=[(0,.I 1),(1,.I _)]) rfl (Z3D _ _) rfl;have hy:SlV (α:=Nd) (b4 :: bm :: X) _ (.N) []:=Zm _ wq;obtain ⟨cs,hcl,hcb⟩:=gm.blk;refine Z5 (Z9 (us:=ndC (.mk 1 (q':Int) [] []) _) rfl rfl rfl rfl (Zi (x:=(.mk 1 (q':Int) [] [])) hy) hcb hcl.symm) ?_;rintro _ wz ⟨hz,hbz⟩;refine W ?_;refine Zk rfl rfl rfl hbz rfl ?_;have hf:=gm.fin (y:=(.mk 1 (q':Int) [] [])) hS0 hb4 hy hz;exact .mk ⟨_,_,hf.1,.num _ _ (by omega),hf.2.1,by omega,hf.2.2⟩
 by_cases k3:k=3;refine QO ?_;refine Z1 (Z0 (vs:=[(0,str [101,120,116,114,97]),(1,str [98,121]),(2,str [116,111]),(3,str [99,111,117,114,116]),(4,str [97,109,111,117,110,116])]) rfl (bS5 _ _ _ _ _)) rfl ?_;rintro wv wq hN;have hws:SlV [bm] wq wv ZdA:=hN.slv (fun c hc=>gm.hX c (by simp at hc;subst hc;simp)) rfl rfl (by decide);have hT:=Z6.stp hN;clear hN;replace gm:=gm.up hT;clear hT;refine W ?_;refine CM (Zh rfl rfl) (Zw bm lv l _ 5 _ (by decide) (by omega) gm.mkr gm.sl hl) ?_;rintro _ wq ⟨q',rfl,hq',hm,hS⟩;replace gm:=gm.nxt hm hS;replace hws:=hws.ext hS (by simp) (fun _ h=>.inl h);clear hm hS;have hqn:q'<ZdA.length:=by show q'<5;omega
 refine W ?_;refine CL (Zs (b4 :: bm :: X) 4 ZdA[q'] (.N) [] _ gm.hX (Zm _ _)) ?_;rintro _ wq ⟨⟨ky,rfl,hy⟩,hT⟩;replace gm:=gm.up hT;clear hT;obtain ⟨cs,hcl,hcb⟩:=gm.blk;refine Z5 (Z9 (us:=ndC (.mk 4 0 ZdA[q'] []) _) rfl rfl rfl rfl (Zi (x:=(.mk 4 0 ZdA[q'] [])) hy) hcb hcl.symm) ?_;rintro _ wz ⟨hz,hbz⟩;refine W ?_;refine Zk rfl rfl rfl hbz rfl ?_;have hf:=gm.fin (y:=(.mk 4 0 ZdA[q'] [])) hS0 hb4 hy hz;exact .mk ⟨_,_,hf.1,.fldN _ _ (Xd hqn),hf.2.1,by omega,hf.2.2⟩;by_cases k4:k=4;obtain ⟨e,rfl⟩:∃ e,d=e+1:=⟨d - 1,by omega⟩
 replace ih:=ih e rfl;have hsp:=Z1h e;refine QO ?_;refine W ?_;refine CM (Zh rfl rfl) ((ih.1) (b4 :: bm :: X) _ bm lv l _ _ (by omega) gm.mkr gm.sl hl (by omega) gm.hX) ?_;rintro _ wq ⟨y0,i0,⟨k0,rfl,s0⟩,g0,hm,hi0,hS⟩;obtain ⟨p0,c0,rfl,-⟩:=id s0;replace gm:=gm.nxt hm hS;clear hm hS;refine W ?_;refine Z1 (Z0 (vs:=[(0,.agg #[.I y0.kind,.I y0.num,str y0.word,.slice p0 y0.kids.length c0])]) rfl (Z2z _ _ _ _ _ _)) rfl ?_;rintro bv wq hN;have hbv:SlV (b4 :: bm :: X) wq bv [y0]:=hN.slvG (css:=[ndC y0 _]) gm.hX rfl rfl rfl (Z94 s0) (by simp [maxLen]);have hT:=Z6.stp hN;clear hN;replace gm:=gm.up hT;clear hT;refine W ?_;refine CL (Zs (b4 :: bm :: X) 5 [45] bv [y0] _ gm.hX hbv) ?_;rintro _ wq ⟨⟨ky,rfl,hy⟩,hT⟩;replace gm:=gm.up hT;clear hT hbv;refine W ?_;obtain ⟨cs,hcl,hcb⟩:=gm.blk;refine Z5 (Z9 (us:=ndC (.mk 5 0 [45] [y0]) _) rfl rfl rfl rfl (Zi (x:=(.mk 5 0 [45] [y0])) hy) hcb hcl.symm) ?_;rintro _ wz ⟨hz,hbz⟩;refine W ?_;refine Zk rfl rfl rfl hbz rfl ?_;have hf:=gm.fin (y:=(.mk 5 0 [45] [y0])) hS0 hb4 hy hz;exact .mk ⟨_,_,hf.1,.neg _ _ g0,hf.2.1,by omega,hf.2.2⟩;by_cases k5:k=5;obtain ⟨e,rfl⟩:∃ e,d=e+1:=⟨d - 1,by omega⟩
 replace ih:=ih e rfl;have hsp:=Z1h e;refine QO ?_;refine W ?_;refine CM (Zh rfl rfl) ((ih.2.2) (b4 :: bm :: X) _ bm lv l _ _ (by omega) gm.mkr gm.sl hl (by omega) gm.hX) ?_;rintro _ wq ⟨y0,i0,⟨k0,rfl,s0⟩,g0,hm,hi0,hS⟩;obtain ⟨p0,c0,rfl,-⟩:=id s0;replace gm:=gm.nxt hm hS;clear hm hS;refine Z1 Z2 rfl ?_;rintro _ wq ⟨b0',rfl,hb0',e0,hT⟩;refine SB (us:=ndC y0 _) (Zi s0) e0 ?_;rintro _ wq ⟨hT2,e0⟩;replace hT:=JL hT hb0' hT2;clear hT2;have n0:b0'≠bm:=fun h=>by have:=gm.mkr.lt;omega
 have n0':b0'≠b4:=fun h=>by obtain ⟨_,_,hc⟩:=gm.blk;have:=hc.lt;omega
 replace gm:=gm.up hT;replace s0:=s0.up hT;clear hT hb0';refine W ?_;refine ZDr 8 ([b4,bm]) [] [(0,1),(1,0),(2,0),(3,0),(4,2),(5,2),(6,2),(7,2)] (fun w1 hS1=>?_);have hT:=hS1;replace gm:=gm.up hT;replace s0:=s0.up hT;replace e0:=e0.up hT;clear hT hS1;refine J3 rfl trivial (fun w' hS'=>J2 rfl rfl (e0.ext hS' (by simp;exact ⟨n0',n0⟩)) rfl) rfl ?_;refine D ?_;refine Zc rfl trivial (Zd rfl (Zh rfl rfl) ((ih.2.2) (b4 :: bm :: X) _ bm lv l _ _ (by omega) gm.mkr gm.sl hl (by omega) gm.hX)) (fun _ _ h=>by obtain ⟨_,_,_,_,_,_,h⟩:=h;exact h.mn) rfl ?_;rintro _ wq ⟨y1,i1,⟨k1,rfl,s1⟩,g1,hm,hi1,hS⟩;obtain ⟨p1,c1,rfl,-⟩:=id s1;replace gm:=gm.nxt hm hS;replace s0:=s0.ext hS (by simp) (fun _ h=>.inl h);replace e0:=e0.ext hS (by simp;exact n0);clear hm hS;refine D ?_;refine Zc rfl trivial (Z0 (vs:=[(0,.agg #[.I y0.kind,.I y0.num,str y0.word,.slice p0 y0.kids.length c0]),(1,.agg #[.I y1.kind,.I y1.num,str y1.word,.slice p1 y1.kids.length c1])]) rfl (Jo _ _ _ _ _ _ _ _ _ _ _ _)) (fun _ _ h=>(Z6.stp h).mn) rfl ?_;rintro bv wq hN;have hbv:SlV (b4 :: bm :: X) wq bv [y0,y1]:=hN.slvG (css:=[ndC y0 _,ndC y1 _]) gm.hX rfl rfl rfl (Z1m s0 s1) (by simp [maxLen]);have hT:=Z6.stp hN;clear hN;replace gm:=gm.up hT;clear hT;refine D ?_;refine DC (Zs (b4 :: bm :: X) 10 [98,101,116,119,101,101,110] bv [y0,y1] _ gm.hX hbv) (fun _ _ h=>h.2.mn) ?_;rintro _ wq ⟨⟨ky,rfl,hy⟩,hT⟩;replace gm:=gm.up hT;clear hT hbv;refine D ?_;obtain ⟨cs,hcl,hcb⟩:=gm.blk;refine ZH rfl trivial (Z9 (us:=ndC (.mk 10 0 [98,101,116,119,101,101,110] [y0,y1]) _) rfl rfl rfl rfl (Zi (x:=(.mk 10 0 [98,101,116,119,101,101,110] [y0,y1])) hy) hcb hcl.symm) (fun _ _ h=>h.1.mn) ?_;rintro _ wz ⟨hz,hbz⟩;refine D ?_;refine W ?_;refine Zk rfl rfl rfl hbz rfl ?_;have hf:=gm.fin (y:=(.mk 10 0 [98,101,116,119,101,101,110] [y0,y1])) hS0 hb4 hy hz;exact .mk ⟨_,_,hf.1,.btw _ _ _ g0 g1,hf.2.1,by omega,hf.2.2⟩;by_cases k6:k=6;obtain ⟨e,rfl⟩:∃ e,d=e+1:=⟨d - 1,by omega⟩
 replace ih:=ih e rfl;have hsp:=Z1h e;refine QO ?_;refine W ?_;refine CM (Zh rfl rfl) ((ih.2.1) (b4 :: bm :: X) _ bm lv l _ _ (by omega) gm.mkr gm.sl hl (by omega) gm.hX) ?_;rintro _ wq ⟨y0,i0,⟨k0,rfl,s0⟩,g0,hm,hi0,hS⟩;obtain ⟨p0,c0,rfl,-⟩:=id s0;replace gm:=gm.nxt hm hS;clear hm hS;refine Z1 Z2 rfl ?_;rintro _ wq ⟨b0',rfl,hb0',e0,hT⟩;refine SB (us:=ndC y0 _) (Zi s0) e0 ?_;rintro _ wq ⟨hT2,e0⟩;replace hT:=JL hT hb0' hT2;clear hT2;have n0:b0'≠bm:=fun h=>by have:=gm.mkr.lt;omega
 have n0':b0'≠b4:=fun h=>by obtain ⟨_,_,hc⟩:=gm.blk;have:=hc.lt;omega
 replace gm:=gm.up hT;replace s0:=s0.up hT;clear hT hb0';refine W ?_;refine CM (Zh rfl rfl) ((ih.1) (b4 :: bm :: X) _ bm lv l _ _ (by omega) gm.mkr gm.sl hl (by omega) gm.hX) ?_;rintro _ wq ⟨y1,i1,⟨k1,rfl,s1⟩,g1,hm,hi1,hS⟩;obtain ⟨p1,c1,rfl,-⟩:=id s1;replace gm:=gm.nxt hm hS;replace s0:=s0.ext hS (by simp) (fun _ h=>.inl h);replace e0:=e0.ext hS (by simp;exact n0);clear hm hS;refine Z1 Z2 rfl ?_;rintro _ wq ⟨b1',rfl,hb1',e1,hT⟩;refine SB (us:=ndC y1 _) (Zi s1) e1 ?_;rintro _ wq ⟨hT2,e1⟩;replace hT:=JL hT hb1' hT2;clear hT2;have n1:b1'≠bm:=fun h=>by have:=gm.mkr.lt;omega
 have n1':b1'≠b4:=fun h=>by obtain ⟨_,_,hc⟩:=gm.blk;have:=hc.lt;omega
 replace gm:=gm.up hT;replace s0:=s0.up hT;replace e0:=e0.up hT;replace s1:=s1.up hT;clear hT hb1';refine W ?_;refine ZDr 9 ([b4,bm]) [] [(0,1),(1,1),(2,0),(3,0),(4,0),(5,2),(6,2),(7,2),(8,2)] (fun w1 hS1=>?_);have hT:=hS1;replace gm:=gm.up hT;replace s0:=s0.up hT;replace e0:=e0.up hT;replace s1:=s1.up hT;replace e1:=e1.up hT;clear hT hS1;refine J3 rfl trivial (fun w' hS'=>J2 rfl rfl (e0.ext hS' (by simp;exact ⟨n0',n0⟩)) rfl) rfl ?_;refine J3 rfl trivial (fun w' hS'=>J2 rfl rfl (e1.ext hS' (by simp;exact ⟨n1',n1⟩)) rfl) rfl ?_;refine D ?_;refine Zc rfl trivial (Zd rfl (Zh rfl rfl) ((ih.1) (b4 :: bm :: X) _ bm lv l _ _ (by omega) gm.mkr gm.sl hl (by omega) gm.hX)) (fun _ _ h=>by obtain ⟨_,_,_,_,_,_,h⟩:=h;exact h.mn) rfl ?_;rintro _ wq ⟨y2,i2,⟨k2,rfl,s2⟩,g2,hm,hi2,hS⟩;obtain ⟨p2,c2,rfl,-⟩:=id s2;replace gm:=gm.nxt hm hS;replace s0:=s0.ext hS (by simp) (fun _ h=>.inl h);replace e0:=e0.ext hS (by simp;exact n0);replace s1:=s1.ext hS (by simp) (fun _ h=>.inl h);replace e1:=e1.ext hS (by simp;exact n1);clear hm hS;refine D ?_;refine Zc rfl trivial (Z0 (vs:=[(0,.agg #[.I y0.kind,.I y0.num,str y0.word,.slice p0 y0.kids.length c0]),(1,.agg #[.I y1.kind,.I y1.num,str y1.word,.slice p1 y1.kids.length c1]),(2,.agg #[.I y2.kind,.I y2.num,str y2.word,.slice p2 y2.kids.length c2])]) rfl (ZbD _ _ _ _ _ _ _ _ _ _ _ _ _ _ _ _ _ _)) (fun _ _ h=>(Z6.stp h).mn) rfl ?_;rintro bv wq hN;have hbv:SlV (b4 :: bm :: X) wq bv [y0,y1,y2]:=hN.slvG (css:=[ndC y0 _,ndC y1 _,ndC y2 _]) gm.hX rfl rfl rfl (Zoo s0 s1 s2) (by simp [maxLen]);have hT:=Z6.stp hN;clear hN;replace gm:=gm.up hT;clear hT;refine D ?_;refine DC (Zs (b4 :: bm :: X) 9 [] bv [y0,y1,y2] _ gm.hX hbv) (fun _ _ h=>h.2.mn) ?_;rintro _ wq ⟨⟨ky,rfl,hy⟩,hT⟩;replace gm:=gm.up hT;clear hT hbv;refine D ?_;obtain ⟨cs,hcl,hcb⟩:=gm.blk;refine ZH rfl trivial (Z9 (us:=ndC (.mk 9 0 [] [y0,y1,y2]) _) rfl rfl rfl rfl (Zi (x:=(.mk 9 0 [] [y0,y1,y2])) hy) hcb hcl.symm) (fun _ _ h=>h.1.mn) ?_;rintro _ wz ⟨hz,hbz⟩;refine D ?_;refine W ?_;refine Zk rfl rfl rfl hbz rfl ?_;have hf:=gm.fin (y:=(.mk 9 0 [] [y0,y1,y2])) hS0 hb4 hy hz;exact .mk ⟨_,_,hf.1,.cond _ _ _ _ _ (by decide) g0 g1 g2,hf.2.1,by omega,hf.2.2⟩;obtain ⟨e,rfl⟩:∃ e,d=e+1:=⟨d - 1,by omega⟩
 replace ih:=ih e rfl;have hsp:=Z1h e;refine QO ?_;refine W ?_;refine CM (Zh rfl rfl) ((ih.1) (b4 :: bm :: X) _ bm lv l _ _ (by omega) gm.mkr gm.sl hl (by omega) gm.hX) ?_;rintro _ wq ⟨y0,i0,⟨k0,rfl,s0⟩,g0,hm,hi0,hS⟩;obtain ⟨p0,c0,rfl,-⟩:=id s0;replace gm:=gm.nxt hm hS;clear hm hS;refine Z1 Z2 rfl ?_;rintro _ wq ⟨b0',rfl,hb0',e0,hT⟩;refine SB (us:=ndC y0 _) (Zi s0) e0 ?_;rintro _ wq ⟨hT2,e0⟩;replace hT:=JL hT hb0' hT2;clear hT2;have n0:b0'≠bm:=fun h=>by have:=gm.mkr.lt;omega
 have n0':b0'≠b4:=fun h=>by obtain ⟨_,_,hc⟩:=gm.blk;have:=hc.lt;omega
 replace gm:=gm.up hT;replace s0:=s0.up hT;clear hT hb0';refine W ?_;refine Z4a 13 [b4,bm] [] rfl mixed (fun w1 hS1=>?_);have hT:=hS1;replace gm:=gm.up hT;replace s0:=s0.up hT;replace e0:=e0.up hT;clear hT hS1;refine JU 1 rfl trivial (fun w'=>ZY rfl) rfl (by kernel_rfl) (by kernel_rfl) ?_;refine Zam 5 rfl trivial (fun w' hS'=>J2 rfl rfl (e0.ext hS' (by simp;exact ⟨n0',n0⟩)) rfl) rfl (by kernel_rfl) (by kernel_rfl) ?_;refine JU 6 rfl trivial (fun w'=>ZY rfl) rfl (by kernel_rfl) (by kernel_rfl) ?_;refine JU 7 rfl trivial (fun w'=>ZY rfl) rfl (by kernel_rfl) (by kernel_rfl) ?_;refine JU 8 rfl trivial (fun w'=>Z4M rfl rfl (by unfold I64;omega)) rfl (by kernel_rfl) (by kernel_rfl) ?_;refine Z1u 0 2 (by kernel_rfl) ?_ ?_;refine Jb rfl trivial (Z0 (vs:=[(0,str [43]),(1,str [45]),(2,str [42])]) rfl (bS3 _ _ _)) (fun _ _ h=>(Z6.stp h).mn) rfl ?_;rintro wv wq hN;have hws:SlV [b4,bm] wq wv Z0a:=hN.slv (fun c hc=>gm.hX c (by simp at hc;rcases hc with rfl|rfl<;>simp)) rfl rfl (by decide);have hT:=Z6.stp hN;clear hN;replace gm:=gm.up hT;replace s0:=s0.up hT;replace e0:=e0.up hT;clear hT;refine Z4v [(2,2),(3,0),(4,1),(9,2),(10,2),(11,2),(12,2)] (by kernel_rfl) (by kernel_rfl) (by kernel_rfl) ?_;refine Zc rfl trivial (Zd rfl (Zh rfl rfl) (Zw bm lv l _ 3 _ (by decide) (by omega) gm.mkr gm.sl hl)) (fun _ _ h=>h.choose_spec.2.2.2.mn) rfl ?_;rintro _ wq ⟨q,rfl,hq,hm,hS⟩;replace gm:=gm.nxt hm hS;replace s0:=s0.ext hS (by simp) (fun _ h=>.inl h);replace e0:=e0.ext hS (by simp;exact n0);replace hws:=hws.ext hS (by simp) (fun _ h=>.inl h);clear hm hS;have hqn:q<Z0a.length:=by show q<3;omega
 refine D ?_;refine Zc rfl trivial (Zd rfl (Zh rfl rfl) ((ih.1) (b4 :: bm :: X) _ bm lv l _ _ (by omega) gm.mkr gm.sl hl (by omega) gm.hX)) (fun _ _ h=>by obtain ⟨_,_,_,_,_,_,h⟩:=h;exact h.mn) rfl ?_;rintro _ wq ⟨y1,i1,⟨k1,rfl,s1⟩,g1,hm,hi1,hS⟩;obtain ⟨p1,c1,rfl,-⟩:=id s1;replace gm:=gm.nxt hm hS;replace s0:=s0.ext hS (by simp) (fun _ h=>.inl h);replace e0:=e0.ext hS (by simp;exact n0);replace hws:=hws.ext hS (by simp) (fun _ h=>.inl h);clear hm hS;refine D ?_;refine Zc rfl trivial (Z0 (vs:=[(0,.agg #[.I y0.kind,.I y0.num,str y0.word,.slice p0 y0.kids.length c0]),(1,.agg #[.I y1.kind,.I y1.num,str y1.word,.slice p1 y1.kids.length c1])]) rfl (Jo _ _ _ _ _ _ _ _ _ _ _ _)) (fun _ _ h=>(Z6.stp h).mn) rfl ?_;rintro bv wq hN;have hbv:SlV (b4 :: bm :: X) wq bv [y0,y1]:=hN.slvG (css:=[ndC y0 _,ndC y1 _]) gm.hX rfl rfl rfl (Z1m s0 s1) (by simp [maxLen]);have hT:=Z6.stp hN;clear hN;replace gm:=gm.up hT;replace hws:=hws.up hT;clear hT;refine D ?_;refine DC (Zs (b4 :: bm :: X) 6 Z0a[q] bv [y0,y1] _ gm.hX hbv) (fun _ _ h=>h.2.mn) ?_;rintro _ wq ⟨⟨ky,rfl,hy⟩,hT⟩;replace gm:=gm.up hT;clear hT hbv;refine D ?_;obtain ⟨cs,hcl,hcb⟩:=gm.blk;refine ZH rfl trivial (Z9 (us:=ndC (.mk 6 0 Z0a[q] [y0,y1]) _) rfl rfl rfl rfl (Zi (x:=(.mk 6 0 Z0a[q] [y0,y1])) hy) hcb hcl.symm) (fun _ _ h=>h.1.mn) ?_;rintro _ wz ⟨hz,hbz⟩;refine D ?_;refine W ?_;refine Zk rfl rfl rfl hbz rfl ?_;have hf:=gm.fin (y:=(.mk 6 0 Z0a[q] [y0,y1])) hS0 hb4 hy hz;exact .mk ⟨_,_,hf.1,.arith _ _ _ _ (Xd hqn) g0 g1,hf.2.1,by omega,hf.2.2⟩;refine Jb rfl trivial (Zd rfl (Zh rfl rfl) (Zw bm lv l _ 3 _ (by decide) (by omega) gm.mkr gm.sl hl)) (fun _ _ h=>h.choose_spec.2.2.2.mn) rfl ?_;rintro _ wq ⟨q,rfl,hq,hm,hS⟩;replace gm:=gm.nxt hm hS;replace s0:=s0.ext hS (by simp) (fun _ h=>.inl h);replace e0:=e0.ext hS (by simp;exact n0);clear hm hS;have hqn:q<Z0a.length:=by show q<3;omega
 refine Z1u 0 9 (by kernel_rfl) ?_ ?_;refine Jb rfl trivial (Z0 (vs:=[(0,str [43]),(1,str [45]),(2,str [42])]) rfl (bS3 _ _ _)) (fun _ _ h=>(Z6.stp h).mn) rfl ?_;rintro wv wq hN;have hws:SlV [b4,bm] wq wv Z0a:=hN.slv (fun c hc=>gm.hX c (by simp at hc;rcases hc with rfl|rfl<;>simp)) rfl rfl (by decide);have hT:=Z6.stp hN;clear hN;replace gm:=gm.up hT;replace s0:=s0.up hT;replace e0:=e0.up hT;clear hT;refine Z4v [(3,0),(4,1),(9,2),(10,2),(11,2),(12,2)] (by kernel_rfl) (by kernel_rfl) (by kernel_rfl) ?_;refine D ?_;refine Zc rfl trivial (Zd rfl (Zh rfl rfl) ((ih.1) (b4 :: bm :: X) _ bm lv l _ _ (by omega) gm.mkr gm.sl hl (by omega) gm.hX)) (fun _ _ h=>by obtain ⟨_,_,_,_,_,_,h⟩:=h;exact h.mn) rfl ?_;rintro _ wq ⟨y1,i1,⟨k1,rfl,s1⟩,g1,hm,hi1,hS⟩;obtain ⟨p1,c1,rfl,-⟩:=id s1;replace gm:=gm.nxt hm hS;replace s0:=s0.ext hS (by simp) (fun _ h=>.inl h);replace e0:=e0.ext hS (by simp;exact n0);replace hws:=hws.ext hS (by simp) (fun _ h=>.inl h);clear hm hS;refine D ?_;refine Zc rfl trivial (Z0 (vs:=[(0,.agg #[.I y0.kind,.I y0.num,str y0.word,.slice p0 y0.kids.length c0]),(1,.agg #[.I y1.kind,.I y1.num,str y1.word,.slice p1 y1.kids.length c1])]) rfl (Jo _ _ _ _ _ _ _ _ _ _ _ _)) (fun _ _ h=>(Z6.stp h).mn) rfl ?_;rintro bv wq hN;have hbv:SlV (b4 :: bm :: X) wq bv [y0,y1]:=hN.slvG (css:=[ndC y0 _,ndC y1 _]) gm.hX rfl rfl rfl (Z1m s0 s1) (by simp [maxLen]);have hT:=Z6.stp hN;clear hN;replace gm:=gm.up hT;replace hws:=hws.up hT;clear hT;refine D ?_;refine DC (Zs (b4 :: bm :: X) 6 Z0a[q] bv [y0,y1] _ gm.hX hbv) (fun _ _ h=>h.2.mn) ?_;rintro _ wq ⟨⟨ky,rfl,hy⟩,hT⟩;replace gm:=gm.up hT;clear hT hbv;refine D ?_;obtain ⟨cs,hcl,hcb⟩:=gm.blk;refine ZH rfl trivial (Z9 (us:=ndC (.mk 6 0 Z0a[q] [y0,y1]) _) rfl rfl rfl rfl (Zi (x:=(.mk 6 0 Z0a[q] [y0,y1])) hy) hcb hcl.symm) (fun _ _ h=>h.1.mn) ?_;rintro _ wz ⟨hz,hbz⟩;refine D ?_;refine W ?_;refine Zk rfl rfl rfl hbz rfl ?_;have hf:=gm.fin (y:=(.mk 6 0 Z0a[q] [y0,y1])) hS0 hb4 hy hz;exact .mk ⟨_,_,hf.1,.arith _ _ _ _ (Xd hqn) g0 g1,hf.2.1,by omega,hf.2.2⟩;refine Jb rfl trivial (Zd rfl (Zh rfl rfl) ((ih.1) (b4 :: bm :: X) _ bm lv l _ _ (by omega) gm.mkr gm.sl hl (by omega) gm.hX)) (fun _ _ h=>by obtain ⟨_,_,_,_,_,_,h⟩:=h;exact h.mn) rfl ?_;rintro _ wq ⟨y1,i1,⟨k1,rfl,s1⟩,g1,hm,hi1,hS⟩;obtain ⟨p1,c1,rfl,-⟩:=id s1;replace gm:=gm.nxt hm hS;replace s0:=s0.ext hS (by simp) (fun _ h=>.inl h);replace e0:=e0.ext hS (by simp;exact n0);clear hm hS;refine Z1u 0 10 (by kernel_rfl) ?_ ?_;refine Jb rfl trivial (Z0 (vs:=[(0,str [43]),(1,str [45]),(2,str [42])]) rfl (bS3 _ _ _)) (fun _ _ h=>(Z6.stp h).mn) rfl ?_;rintro wv wq hN;have hws:SlV [b4,bm] wq wv Z0a:=hN.slv (fun c hc=>gm.hX c (by simp at hc;rcases hc with rfl|rfl<;>simp)) rfl rfl (by decide);have hT:=Z6.stp hN;clear hN;replace gm:=gm.up hT;replace s0:=s0.up hT;replace e0:=e0.up hT;replace s1:=s1.up hT;clear hT;refine Z4v [(3,0),(4,1),(10,2),(11,2),(12,2)] (by kernel_rfl) (by kernel_rfl) (by kernel_rfl) ?_;refine D ?_;refine D ?_;refine Zc rfl trivial (Z0 (vs:=[(0,.agg #[.I y0.kind,.I y0.num,str y0.word,.slice p0 y0.kids.length c0]),(1,.agg #[.I y1.kind,.I y1.num,str y1.word,.slice p1 y1.kids.length c1])]) rfl (Jo _ _ _ _ _ _ _ _ _ _ _ _)) (fun _ _ h=>(Z6.stp h).mn) rfl ?_;rintro bv wq hN;have hbv:SlV (b4 :: bm :: X) wq bv [y0,y1]:=hN.slvG (css:=[ndC y0 _,ndC y1 _]) gm.hX rfl rfl rfl (Z1m s0 s1) (by simp [maxLen]);have hT:=Z6.stp hN;clear hN;replace gm:=gm.up hT;replace hws:=hws.up hT;clear hT;refine D ?_;refine DC (Zs (b4 :: bm :: X) 6 Z0a[q] bv [y0,y1] _ gm.hX hbv) (fun _ _ h=>h.2.mn) ?_;rintro _ wq ⟨⟨ky,rfl,hy⟩,hT⟩;replace gm:=gm.up hT;clear hT hbv;refine D ?_;obtain ⟨cs,hcl,hcb⟩:=gm.blk;refine ZH rfl trivial (Z9 (us:=ndC (.mk 6 0 Z0a[q] [y0,y1]) _) rfl rfl rfl rfl (Zi (x:=(.mk 6 0 Z0a[q] [y0,y1])) hy) hcb hcl.symm) (fun _ _ h=>h.1.mn) ?_;rintro _ wz ⟨hz,hbz⟩;refine D ?_;refine W ?_;refine Zk rfl rfl rfl hbz rfl ?_;have hf:=gm.fin (y:=(.mk 6 0 Z0a[q] [y0,y1])) hS0 hb4 hy hz;exact .mk ⟨_,_,hf.1,.arith _ _ _ _ (Xd hqn) g0 g1,hf.2.1,by omega,hf.2.2⟩;refine Jb rfl trivial (Z0 (vs:=[(0,.agg #[.I y0.kind,.I y0.num,str y0.word,.slice p0 y0.kids.length c0]),(1,.agg #[.I y1.kind,.I y1.num,str y1.word,.slice p1 y1.kids.length c1])]) rfl (Jo _ _ _ _ _ _ _ _ _ _ _ _)) (fun _ _ h=>(Z6.stp h).mn) rfl ?_;rintro bv wq hN;have hbv:SlV (b4 :: bm :: X) wq bv [y0,y1]:=hN.slvG (css:=[ndC y0 _,ndC y1 _]) gm.hX rfl rfl rfl (Z1m s0 s1) (by simp [maxLen]);have hT:=Z6.stp hN;clear hN;replace gm:=gm.up hT;clear hT;refine Z4v [(0,2),(3,0),(4,1),(11,2),(12,2)] (by kernel_rfl) (by kernel_rfl) (by kernel_rfl) ?_;refine Zc rfl trivial (Z0 (vs:=[(0,str [43]),(1,str [45]),(2,str [42])]) rfl (bS3 _ _ _)) (fun _ _ h=>(Z6.stp h).mn) rfl ?_;rintro wv wq hN;have hws:SlV [b4,bm] wq wv Z0a:=hN.slv (fun c hc=>gm.hX c (by simp at hc;rcases hc with rfl|rfl<;>simp)) rfl rfl (by decide);have hT:=Z6.stp hN;clear hN;replace gm:=gm.up hT;replace hbv:=hbv.up hT;clear hT;refine D ?_;refine D ?_;refine D ?_;refine DC (Zs (b4 :: bm :: X) 6 Z0a[q] bv [y0,y1] _ gm.hX hbv) (fun _ _ h=>h.2.mn) ?_;rintro _ wq ⟨⟨ky,rfl,hy⟩,hT⟩;replace gm:=gm.up hT;clear hT hbv;refine D ?_;obtain ⟨cs,hcl,hcb⟩:=gm.blk;refine ZH rfl trivial (Z9 (us:=ndC (.mk 6 0 Z0a[q] [y0,y1]) _) rfl rfl rfl rfl (Zi (x:=(.mk 6 0 Z0a[q] [y0,y1])) hy) hcb hcl.symm) (fun _ _ h=>h.1.mn) ?_;rintro _ wz ⟨hz,hbz⟩;refine D ?_;refine W ?_;refine Zk rfl rfl rfl hbz rfl ?_;have hf:=gm.fin (y:=(.mk 6 0 Z0a[q] [y0,y1])) hS0 hb4 hy hz;exact .mk ⟨_,_,hf.1,.arith _ _ _ _ (Xd hqn) g0 g1,hf.2.1,by omega,hf.2.2⟩
set_option maxHeartbeats 1000000
theorem Z7A (d:Nat) (hd6:d≤6) (ih:∀ e,d=e+1→Z2r 181 1 e∧Z2r 104 2 e∧Z2r 105 3 e):Z2r 104 2 d:=by
 intro X w bm lv l i z hz hmk hsl hl hi hX;subst hz;have hsz:szD (d+1)=1+3 * szD d:=rfl;refine cW2 80 Tryz.func104 ?_;refine W ?_;refine Z1 Z2 rfl ?_;rintro _ w1 ⟨b4,rfl,hb4,hblk4,hS0⟩;have gm:G3 (b4 :: bm :: X) w1 w1 bm b4 lv l i:=⟨hmk.up hS0,hsl.up hS0,Stp.refl _ _,⟨_,rfl,hblk4⟩,fun h=>by have:=hmk.lt;omega,fun c hc=>by
  simp only [Xb] at hc;have h1:=hblk4.lt;have h2:=hmk.lt;have h3:=hS0.size;rcases hc with rfl|rfl|hc
  exact h1;omega;have:=hX c hc;omega⟩
 clear hblk4 hX hsl hmk;refine W ?_;refine CM (Zh rfl rfl) (Zw bm lv l _ 6 _ (by decide) (by omega) gm.mkr gm.sl hl) ?_;rintro _ wq ⟨q,rfl,hq,hm,hS⟩;replace gm:=gm.nxt hm hS;clear hm hS;refine W ?_;refine CL (Z5X bm lv l _ d _ _ rfl gm.mkr gm.sl) ?_;rintro _ wq ⟨dn,rfl,hdn,hT⟩;replace gm:=gm.up hT;clear hT;cases dn with
 | true=>
   refine QO ?_;apply Z8 (vs:=[(0,.I 2),(1,.I (1 - (q:Int) / 5))]) rfl (Z3D _ _) rfl;have hy:SlV (α:=Nd) (b4 :: bm :: X) _ (.N) []:=Zm _ wq;obtain ⟨cs,hcl,hcb⟩:=gm.blk;refine Z5 (Z9 (us:=ndC (.mk 2 (1 - (q:Int) / 5) [] []) _) rfl rfl rfl rfl (Zi (x:=(.mk 2 (1 - (q:Int) / 5) [] [])) hy) hcb hcl.symm) ?_;rintro _ wz ⟨hz,hbz⟩;refine W ?_;refine Zk rfl rfl rfl hbz rfl ?_;have hf:=gm.fin (y:=(.mk 2 (1 - (q:Int) / 5) [] [])) hS0 hb4 hy hz;exact .mk ⟨_,_,hf.1,.bool _ _ (by omega),hf.2.1,by omega,hf.2.2⟩
 | false=>
   have hd1:d≠0:=fun h=>absurd (hdn h) (by decide)
   obtain ⟨e,rfl⟩:∃ e,d=e+1:=⟨d - 1,by omega⟩
   replace ih:=ih e rfl;have hsp:=Z1h e;clear hd1 hdn;by_cases k0:q=0;refine QO ?_;refine CM (Zh rfl rfl) (Zw bm lv l _ 2 _ (by decide) (by omega) gm.mkr gm.sl hl) ?_;rintro _ wq ⟨q',rfl,hq',hm,hS⟩;replace gm:=gm.nxt hm hS;clear hm hS;refine W ?_;apply Z8 (vs:=[(0,.I 2),(1,.I _)]) rfl (Z3D _ _) rfl;have hy:SlV (α:=Nd) (b4 :: bm :: X) _ (.N) []:=Zm _ wq;obtain ⟨cs,hcl,hcb⟩:=gm.blk;refine Z5 (Z9 (us:=ndC (.mk 2 (q':Int) [] []) _) rfl rfl rfl rfl (Zi (x:=(.mk 2 (q':Int) [] [])) hy) hcb hcl.symm) ?_;rintro _ wz ⟨hz,hbz⟩;refine W ?_;refine Zk rfl rfl rfl hbz rfl ?_;have hf:=gm.fin (y:=(.mk 2 (q':Int) [] [])) hS0 hb4 hy hz;exact .mk ⟨_,_,hf.1,.bool _ _ (by omega),hf.2.1,by omega,hf.2.2⟩;by_cases k1:q=1;refine QO ?_;refine W ?_;refine CM (Zh rfl rfl) ((ih.2.1) (b4 :: bm :: X) _ bm lv l _ _ (by omega) gm.mkr gm.sl hl (by omega) gm.hX) ?_;rintro _ wq ⟨y0,i0,⟨k0,rfl,s0⟩,g0,hm,hi0,hS⟩;obtain ⟨p0,c0,rfl,-⟩:=id s0;replace gm:=gm.nxt hm hS;clear hm hS;refine W ?_;refine Z1 (Z0 (vs:=[(0,.agg #[.I y0.kind,.I y0.num,str y0.word,.slice p0 y0.kids.length c0])]) rfl (Z2z _ _ _ _ _ _)) rfl ?_;rintro bv wq hN;have hbv:SlV (b4 :: bm :: X) wq bv [y0]:=hN.slvG (css:=[ndC y0 _]) gm.hX rfl rfl rfl (Z94 s0) (by simp [maxLen]);have hT:=Z6.stp hN;clear hN;replace gm:=gm.up hT;clear hT;refine W ?_;refine CL (Zs (b4 :: bm :: X) 5 [110,111,116] bv [y0] _ gm.hX hbv) ?_;rintro _ wq ⟨⟨ky,rfl,hy⟩,hT⟩;replace gm:=gm.up hT;clear hT hbv;refine W ?_;obtain ⟨cs,hcl,hcb⟩:=gm.blk;refine Z5 (Z9 (us:=ndC (.mk 5 0 [110,111,116] [y0]) _) rfl rfl rfl rfl (Zi (x:=(.mk 5 0 [110,111,116] [y0])) hy) hcb hcl.symm) ?_;rintro _ wz ⟨hz,hbz⟩;refine W ?_;refine Zk rfl rfl rfl hbz rfl ?_;have hf:=gm.fin (y:=(.mk 5 0 [110,111,116] [y0])) hS0 hb4 hy hz;exact .mk ⟨_,_,hf.1,.not _ _ g0,hf.2.1,by omega,hf.2.2⟩;by_cases k2:q=2;refine QO ?_;refine W ?_;refine CM (Zh rfl rfl) ((ih.2.1) (b4 :: bm :: X) _ bm lv l _ _ (by omega) gm.mkr gm.sl hl (by omega) gm.hX) ?_;rintro _ wq ⟨y0,i0,⟨k0,rfl,s0⟩,g0,hm,hi0,hS⟩;obtain ⟨p0,c0,rfl,-⟩:=id s0;replace gm:=gm.nxt hm hS;clear hm hS;refine Z1 Z2 rfl ?_;rintro _ wq ⟨b0',rfl,hb0',e0,hT⟩;refine SB (us:=ndC y0 _) (Zi s0) e0 ?_;rintro _ wq ⟨hT2,e0⟩;replace hT:=JL hT hb0' hT2;clear hT2;have n0:b0'≠bm:=fun h=>by have:=gm.mkr.lt;omega
   have n0':b0'≠b4:=fun h=>by obtain ⟨_,_,hc⟩:=gm.blk;have:=hc.lt;omega
   replace gm:=gm.up hT;replace s0:=s0.up hT;clear hT hb0';refine W ?_;refine Z4a 13 [b4,bm] [] rfl mixed (fun w1 hS1=>?_);have hT:=hS1;replace gm:=gm.up hT;replace s0:=s0.up hT;replace e0:=e0.up hT;clear hT hS1;refine JU 1 rfl trivial (fun w'=>ZY rfl) rfl (by kernel_rfl) (by kernel_rfl) ?_;refine Zam 5 rfl trivial (fun w' hS'=>J2 rfl rfl (e0.ext hS' (by simp;exact ⟨n0',n0⟩)) rfl) rfl (by kernel_rfl) (by kernel_rfl) ?_;refine JU 6 rfl trivial (fun w'=>ZY rfl) rfl (by kernel_rfl) (by kernel_rfl) ?_;refine JU 7 rfl trivial (fun w'=>ZY rfl) rfl (by kernel_rfl) (by kernel_rfl) ?_;refine JU 8 rfl trivial (fun w'=>Z4M rfl rfl (by unfold I64;omega)) rfl (by kernel_rfl) (by kernel_rfl) ?_;refine Z1u 0 2 (by kernel_rfl) ?_ ?_;refine Jb rfl trivial (Z0 (vs:=[(0,str [97,110,100]),(1,str [111,114])]) rfl (bS2 _ _)) (fun _ _ h=>(Z6.stp h).mn) rfl ?_;rintro wv wq hN;have hws:SlV [b4,bm] wq wv Z03:=hN.slv (fun c hc=>gm.hX c (by simp at hc;rcases hc with rfl|rfl<;>simp)) rfl rfl (by decide);have hT:=Z6.stp hN;clear hN;replace gm:=gm.up hT;replace s0:=s0.up hT;replace e0:=e0.up hT;clear hT;refine Z4v [(2,2),(3,0),(4,1),(9,2),(10,2),(11,2),(12,2)] (by kernel_rfl) (by kernel_rfl) (by kernel_rfl) ?_;refine Zc rfl trivial (Zd rfl (Zh rfl rfl) (Zw bm lv l _ 2 _ (by decide) (by omega) gm.mkr gm.sl hl)) (fun _ _ h=>h.choose_spec.2.2.2.mn) rfl ?_;rintro _ wq ⟨q,rfl,hq,hm,hS⟩;replace gm:=gm.nxt hm hS;replace s0:=s0.ext hS (by simp) (fun _ h=>.inl h);replace e0:=e0.ext hS (by simp;exact n0);replace hws:=hws.ext hS (by simp) (fun _ h=>.inl h);clear hm hS;have hqn:q<Z03.length:=by show q<2;omega
   refine D ?_;refine Zc rfl trivial (Zd rfl (Zh rfl rfl) ((ih.2.1) (b4 :: bm :: X) _ bm lv l _ _ (by omega) gm.mkr gm.sl hl (by omega) gm.hX)) (fun _ _ h=>by obtain ⟨_,_,_,_,_,_,h⟩:=h;exact h.mn) rfl ?_;rintro _ wq ⟨y1,i1,⟨k1,rfl,s1⟩,g1,hm,hi1,hS⟩;obtain ⟨p1,c1,rfl,-⟩:=id s1;replace gm:=gm.nxt hm hS;replace s0:=s0.ext hS (by simp) (fun _ h=>.inl h);replace e0:=e0.ext hS (by simp;exact n0);replace hws:=hws.ext hS (by simp) (fun _ h=>.inl h);clear hm hS;refine D ?_;refine Zc rfl trivial (Z0 (vs:=[(0,.agg #[.I y0.kind,.I y0.num,str y0.word,.slice p0 y0.kids.length c0]),(1,.agg #[.I y1.kind,.I y1.num,str y1.word,.slice p1 y1.kids.length c1])]) rfl (Jo _ _ _ _ _ _ _ _ _ _ _ _)) (fun _ _ h=>(Z6.stp h).mn) rfl ?_;rintro bv wq hN;have hbv:SlV (b4 :: bm :: X) wq bv [y0,y1]:=hN.slvG (css:=[ndC y0 _,ndC y1 _]) gm.hX rfl rfl rfl (Z1m s0 s1) (by simp [maxLen]);have hT:=Z6.stp hN;clear hN;replace gm:=gm.up hT;replace hws:=hws.up hT;clear hT;refine D ?_;refine DC (Zs (b4 :: bm :: X) 6 Z03[q] bv [y0,y1] _ gm.hX hbv) (fun _ _ h=>h.2.mn) ?_;rintro _ wq ⟨⟨ky,rfl,hy⟩,hT⟩;replace gm:=gm.up hT;clear hT hbv;refine D ?_;obtain ⟨cs,hcl,hcb⟩:=gm.blk;refine ZH rfl trivial (Z9 (us:=ndC (.mk 6 0 Z03[q] [y0,y1]) _) rfl rfl rfl rfl (Zi (x:=(.mk 6 0 Z03[q] [y0,y1])) hy) hcb hcl.symm) (fun _ _ h=>h.1.mn) ?_;rintro _ wz ⟨hz,hbz⟩;refine D ?_;refine W ?_;refine Zk rfl rfl rfl hbz rfl ?_;have hf:=gm.fin (y:=(.mk 6 0 Z03[q] [y0,y1])) hS0 hb4 hy hz;exact .mk ⟨_,_,hf.1,.logic _ _ _ _ (Xd hqn) g0 g1,hf.2.1,by omega,hf.2.2⟩;refine Jb rfl trivial (Zd rfl (Zh rfl rfl) (Zw bm lv l _ 2 _ (by decide) (by omega) gm.mkr gm.sl hl)) (fun _ _ h=>h.choose_spec.2.2.2.mn) rfl ?_;rintro _ wq ⟨q,rfl,hq,hm,hS⟩;replace gm:=gm.nxt hm hS;replace s0:=s0.ext hS (by simp) (fun _ h=>.inl h);replace e0:=e0.ext hS (by simp;exact n0);clear hm hS;have hqn:q<Z03.length:=by show q<2;omega
   refine Z1u 0 9 (by kernel_rfl) ?_ ?_;refine Jb rfl trivial (Z0 (vs:=[(0,str [97,110,100]),(1,str [111,114])]) rfl (bS2 _ _)) (fun _ _ h=>(Z6.stp h).mn) rfl ?_;rintro wv wq hN;have hws:SlV [b4,bm] wq wv Z03:=hN.slv (fun c hc=>gm.hX c (by simp at hc;rcases hc with rfl|rfl<;>simp)) rfl rfl (by decide);have hT:=Z6.stp hN;clear hN;replace gm:=gm.up hT;replace s0:=s0.up hT;replace e0:=e0.up hT;clear hT;refine Z4v [(3,0),(4,1),(9,2),(10,2),(11,2),(12,2)] (by kernel_rfl) (by kernel_rfl) (by kernel_rfl) ?_;refine D ?_;refine Zc rfl trivial (Zd rfl (Zh rfl rfl) ((ih.2.1) (b4 :: bm :: X) _ bm lv l _ _ (by omega) gm.mkr gm.sl hl (by omega) gm.hX)) (fun _ _ h=>by obtain ⟨_,_,_,_,_,_,h⟩:=h;exact h.mn) rfl ?_;rintro _ wq ⟨y1,i1,⟨k1,rfl,s1⟩,g1,hm,hi1,hS⟩;obtain ⟨p1,c1,rfl,-⟩:=id s1;replace gm:=gm.nxt hm hS;replace s0:=s0.ext hS (by simp) (fun _ h=>.inl h);replace e0:=e0.ext hS (by simp;exact n0);replace hws:=hws.ext hS (by simp) (fun _ h=>.inl h);clear hm hS;refine D ?_;refine Zc rfl trivial (Z0 (vs:=[(0,.agg #[.I y0.kind,.I y0.num,str y0.word,.slice p0 y0.kids.length c0]),(1,.agg #[.I y1.kind,.I y1.num,str y1.word,.slice p1 y1.kids.length c1])]) rfl (Jo _ _ _ _ _ _ _ _ _ _ _ _)) (fun _ _ h=>(Z6.stp h).mn) rfl ?_;rintro bv wq hN;have hbv:SlV (b4 :: bm :: X) wq bv [y0,y1]:=hN.slvG (css:=[ndC y0 _,ndC y1 _]) gm.hX rfl rfl rfl (Z1m s0 s1) (by simp [maxLen]);have hT:=Z6.stp hN;clear hN;replace gm:=gm.up hT;replace hws:=hws.up hT;clear hT;refine D ?_;refine DC (Zs (b4 :: bm :: X) 6 Z03[q] bv [y0,y1] _ gm.hX hbv) (fun _ _ h=>h.2.mn) ?_;rintro _ wq ⟨⟨ky,rfl,hy⟩,hT⟩;replace gm:=gm.up hT;clear hT hbv;refine D ?_;obtain ⟨cs,hcl,hcb⟩:=gm.blk;refine ZH rfl trivial (Z9 (us:=ndC (.mk 6 0 Z03[q] [y0,y1]) _) rfl rfl rfl rfl (Zi (x:=(.mk 6 0 Z03[q] [y0,y1])) hy) hcb hcl.symm) (fun _ _ h=>h.1.mn) ?_;rintro _ wz ⟨hz,hbz⟩;refine D ?_;refine W ?_;refine Zk rfl rfl rfl hbz rfl ?_;have hf:=gm.fin (y:=(.mk 6 0 Z03[q] [y0,y1])) hS0 hb4 hy hz;exact .mk ⟨_,_,hf.1,.logic _ _ _ _ (Xd hqn) g0 g1,hf.2.1,by omega,hf.2.2⟩;refine Jb rfl trivial (Zd rfl (Zh rfl rfl) ((ih.2.1) (b4 :: bm :: X) _ bm lv l _ _ (by omega) gm.mkr gm.sl hl (by omega) gm.hX)) (fun _ _ h=>by obtain ⟨_,_,_,_,_,_,h⟩:=h;exact h.mn) rfl ?_;rintro _ wq ⟨y1,i1,⟨k1,rfl,s1⟩,g1,hm,hi1,hS⟩;obtain ⟨p1,c1,rfl,-⟩:=id s1;replace gm:=gm.nxt hm hS;replace s0:=s0.ext hS (by simp) (fun _ h=>.inl h);replace e0:=e0.ext hS (by simp;exact n0);clear hm hS;refine Z1u 0 10 (by kernel_rfl) ?_ ?_;refine Jb rfl trivial (Z0 (vs:=[(0,str [97,110,100]),(1,str [111,114])]) rfl (bS2 _ _)) (fun _ _ h=>(Z6.stp h).mn) rfl ?_;rintro wv wq hN;have hws:SlV [b4,bm] wq wv Z03:=hN.slv (fun c hc=>gm.hX c (by simp at hc;rcases hc with rfl|rfl<;>simp)) rfl rfl (by decide);have hT:=Z6.stp hN;clear hN;replace gm:=gm.up hT;replace s0:=s0.up hT;replace e0:=e0.up hT;replace s1:=s1.up hT;clear hT;refine Z4v [(3,0),(4,1),(10,2),(11,2),(12,2)] (by kernel_rfl) (by kernel_rfl) (by kernel_rfl) ?_;refine D ?_;refine D ?_;refine Zc rfl trivial (Z0 (vs:=[(0,.agg #[.I y0.kind,.I y0.num,str y0.word,.slice p0 y0.kids.length c0]),(1,.agg #[.I y1.kind,.I y1.num,str y1.word,.slice p1 y1.kids.length c1])]) rfl (Jo _ _ _ _ _ _ _ _ _ _ _ _)) (fun _ _ h=>(Z6.stp h).mn) rfl ?_;rintro bv wq hN;have hbv:SlV (b4 :: bm :: X) wq bv [y0,y1]:=hN.slvG (css:=[ndC y0 _,ndC y1 _]) gm.hX rfl rfl rfl (Z1m s0 s1) (by simp [maxLen]);have hT:=Z6.stp hN;clear hN;replace gm:=gm.up hT;replace hws:=hws.up hT;clear hT;refine D ?_;refine DC (Zs (b4 :: bm :: X) 6 Z03[q] bv [y0,y1] _ gm.hX hbv) (fun _ _ h=>h.2.mn) ?_;rintro _ wq ⟨⟨ky,rfl,hy⟩,hT⟩;replace gm:=gm.up hT;clear hT hbv;refine D ?_;obtain ⟨cs,hcl,hcb⟩:=gm.blk;refine ZH rfl trivial (Z9 (us:=ndC (.mk 6 0 Z03[q] [y0,y1]) _) rfl rfl rfl rfl (Zi (x:=(.mk 6 0 Z03[q] [y0,y1])) hy) hcb hcl.symm) (fun _ _ h=>h.1.mn) ?_;rintro _ wz ⟨hz,hbz⟩;refine D ?_;refine W ?_;refine Zk rfl rfl rfl hbz rfl ?_;have hf:=gm.fin (y:=(.mk 6 0 Z03[q] [y0,y1])) hS0 hb4 hy hz;exact .mk ⟨_,_,hf.1,.logic _ _ _ _ (Xd hqn) g0 g1,hf.2.1,by omega,hf.2.2⟩;refine Jb rfl trivial (Z0 (vs:=[(0,.agg #[.I y0.kind,.I y0.num,str y0.word,.slice p0 y0.kids.length c0]),(1,.agg #[.I y1.kind,.I y1.num,str y1.word,.slice p1 y1.kids.length c1])]) rfl (Jo _ _ _ _ _ _ _ _ _ _ _ _)) (fun _ _ h=>(Z6.stp h).mn) rfl ?_;rintro bv wq hN;have hbv:SlV (b4 :: bm :: X) wq bv [y0,y1]:=hN.slvG (css:=[ndC y0 _,ndC y1 _]) gm.hX rfl rfl rfl (Z1m s0 s1) (by simp [maxLen]);have hT:=Z6.stp hN;clear hN;replace gm:=gm.up hT;clear hT;refine Z4v [(0,2),(3,0),(4,1),(11,2),(12,2)] (by kernel_rfl) (by kernel_rfl) (by kernel_rfl) ?_;refine Zc rfl trivial (Z0 (vs:=[(0,str [97,110,100]),(1,str [111,114])]) rfl (bS2 _ _)) (fun _ _ h=>(Z6.stp h).mn) rfl ?_;rintro wv wq hN;have hws:SlV [b4,bm] wq wv Z03:=hN.slv (fun c hc=>gm.hX c (by simp at hc;rcases hc with rfl|rfl<;>simp)) rfl rfl (by decide);have hT:=Z6.stp hN;clear hN;replace gm:=gm.up hT;replace hbv:=hbv.up hT;clear hT;refine D ?_;refine D ?_;refine D ?_;refine DC (Zs (b4 :: bm :: X) 6 Z03[q] bv [y0,y1] _ gm.hX hbv) (fun _ _ h=>h.2.mn) ?_;rintro _ wq ⟨⟨ky,rfl,hy⟩,hT⟩;replace gm:=gm.up hT;clear hT hbv;refine D ?_;obtain ⟨cs,hcl,hcb⟩:=gm.blk;refine ZH rfl trivial (Z9 (us:=ndC (.mk 6 0 Z03[q] [y0,y1]) _) rfl rfl rfl rfl (Zi (x:=(.mk 6 0 Z03[q] [y0,y1])) hy) hcb hcl.symm) (fun _ _ h=>h.1.mn) ?_;rintro _ wz ⟨hz,hbz⟩;refine D ?_;refine W ?_;refine Zk rfl rfl rfl hbz rfl ?_;have hf:=gm.fin (y:=(.mk 6 0 Z03[q] [y0,y1])) hS0 hb4 hy hz;exact .mk ⟨_,_,hf.1,.logic _ _ _ _ (Xd hqn) g0 g1,hf.2.1,by omega,hf.2.2⟩;by_cases k3:q=3;refine QO ?_;refine W ?_;refine CM (Zh rfl rfl) ((ih.2.2) (b4 :: bm :: X) _ bm lv l _ _ (by omega) gm.mkr gm.sl hl (by omega) gm.hX) ?_;rintro _ wq ⟨y0,i0,⟨k0,rfl,s0⟩,g0,hm,hi0,hS⟩;obtain ⟨p0,c0,rfl,-⟩:=id s0;replace gm:=gm.nxt hm hS;clear hm hS;refine Z1 Z2 rfl ?_;rintro _ wq ⟨b0',rfl,hb0',e0,hT⟩;refine SB (us:=ndC y0 _) (Zi s0) e0 ?_;rintro _ wq ⟨hT2,e0⟩;replace hT:=JL hT hb0' hT2;clear hT2;have n0:b0'≠bm:=fun h=>by have:=gm.mkr.lt;omega
   have n0':b0'≠b4:=fun h=>by obtain ⟨_,_,hc⟩:=gm.blk;have:=hc.lt;omega
   replace gm:=gm.up hT;replace s0:=s0.up hT;clear hT hb0';refine W ?_;refine ZDr 11 ([b4,bm]) [] [(0,0),(3,1),(4,0),(5,0),(6,0),(1,2),(2,2),(7,2),(8,2),(9,2),(10,2)] (fun w1 hS1=>?_);have hT:=hS1;replace gm:=gm.up hT;replace s0:=s0.up hT;replace e0:=e0.up hT;clear hT hS1;refine D ?_;refine Zc rfl trivial (Zd rfl (Zh rfl rfl) (Zw bm lv l _ 6 _ (by decide) (by omega) gm.mkr gm.sl hl)) (fun _ _ h=>h.choose_spec.2.2.2.mn) rfl ?_;rintro _ wq ⟨q',rfl,hq',hm,hS⟩;replace gm:=gm.nxt hm hS;replace s0:=s0.ext hS (by simp) (fun _ h=>.inl h);replace e0:=e0.ext hS (by simp;exact n0);clear hm hS;refine D ?_;refine Zc rfl trivial (Zd rfl (ZX rfl) (Z5c q' _ (by omega))) (fun _ _ h=>h.2.mn) rfl ?_;rintro _ wq ⟨⟨op,hop,rfl⟩,hT⟩;replace gm:=gm.up hT;replace s0:=s0.up hT;replace e0:=e0.up hT;clear hT;refine D ?_;refine Zc rfl trivial (Zd rfl (Zh rfl rfl) ((ih.2.2) (b4 :: bm :: X) _ bm lv l _ _ (by omega) gm.mkr gm.sl hl (by omega) gm.hX)) (fun _ _ h=>by obtain ⟨_,_,_,_,_,_,h⟩:=h;exact h.mn) rfl ?_;rintro _ wq ⟨y1,i1,⟨k1,rfl,s1⟩,g1,hm,hi1,hS⟩;obtain ⟨p1,c1,rfl,-⟩:=id s1;replace gm:=gm.nxt hm hS;replace s0:=s0.ext hS (by simp) (fun _ h=>.inl h);replace e0:=e0.ext hS (by simp;exact n0);clear hm hS;refine D ?_;refine Zc rfl trivial (Z0 (vs:=[(0,.agg #[.I y0.kind,.I y0.num,str y0.word,.slice p0 y0.kids.length c0]),(1,.agg #[.I y1.kind,.I y1.num,str y1.word,.slice p1 y1.kids.length c1])]) rfl (Jo _ _ _ _ _ _ _ _ _ _ _ _)) (fun _ _ h=>(Z6.stp h).mn) rfl ?_;rintro bv wq hN;have hbv:SlV (b4 :: bm :: X) wq bv [y0,y1]:=hN.slvG (css:=[ndC y0 _,ndC y1 _]) gm.hX rfl rfl rfl (Z1m s0 s1) (by simp [maxLen]);have hT:=Z6.stp hN;clear hN;replace gm:=gm.up hT;clear hT;refine D ?_;refine DC (Zs (b4 :: bm :: X) 6 op bv [y0,y1] _ gm.hX hbv) (fun _ _ h=>h.2.mn) ?_;rintro _ wq ⟨⟨ky,rfl,hy⟩,hT⟩;replace gm:=gm.up hT;clear hT hbv;refine D ?_;obtain ⟨cs,hcl,hcb⟩:=gm.blk;refine ZH rfl trivial (Z9 (us:=ndC (.mk 6 0 op [y0,y1]) _) rfl rfl rfl rfl (Zi (x:=(.mk 6 0 op [y0,y1])) hy) hcb hcl.symm) (fun _ _ h=>h.1.mn) ?_;rintro _ wz ⟨hz,hbz⟩;refine D ?_;refine W ?_;refine Zk rfl rfl rfl hbz rfl ?_;have hf:=gm.fin (y:=(.mk 6 0 op [y0,y1])) hS0 hb4 hy hz;exact .mk ⟨_,_,hf.1,.cmp _ 3 _ _ _ (by decide) hop g0 g1,hf.2.1,by omega,hf.2.2⟩;refine QO ?_;refine W ?_;refine CM (Zh rfl rfl) ((ih.1) (b4 :: bm :: X) _ bm lv l _ _ (by omega) gm.mkr gm.sl hl (by omega) gm.hX) ?_;rintro _ wq ⟨y0,i0,⟨k0,rfl,s0⟩,g0,hm,hi0,hS⟩;obtain ⟨p0,c0,rfl,-⟩:=id s0;replace gm:=gm.nxt hm hS;clear hm hS;refine Z1 Z2 rfl ?_;rintro _ wq ⟨b0',rfl,hb0',e0,hT⟩;refine SB (us:=ndC y0 _) (Zi s0) e0 ?_;rintro _ wq ⟨hT2,e0⟩;replace hT:=JL hT hb0' hT2;clear hT2;have n0:b0'≠bm:=fun h=>by have:=gm.mkr.lt;omega
   have n0':b0'≠b4:=fun h=>by obtain ⟨_,_,hc⟩:=gm.blk;have:=hc.lt;omega
   replace gm:=gm.up hT;replace s0:=s0.up hT;clear hT hb0';refine W ?_;refine ZDr 11 ([b4,bm]) [] [(0,0),(3,1),(4,0),(5,0),(6,0),(1,2),(2,2),(7,2),(8,2),(9,2),(10,2)] (fun w1 hS1=>?_);have hT:=hS1;replace gm:=gm.up hT;replace s0:=s0.up hT;replace e0:=e0.up hT;clear hT hS1;refine D ?_;refine Zc rfl trivial (Zd rfl (Zh rfl rfl) (Zw bm lv l _ 6 _ (by decide) (by omega) gm.mkr gm.sl hl)) (fun _ _ h=>h.choose_spec.2.2.2.mn) rfl ?_;rintro _ wq ⟨q',rfl,hq',hm,hS⟩;replace gm:=gm.nxt hm hS;replace s0:=s0.ext hS (by simp) (fun _ h=>.inl h);replace e0:=e0.ext hS (by simp;exact n0);clear hm hS;refine D ?_;refine Zc rfl trivial (Zd rfl (ZX rfl) (Z5c q' _ (by omega))) (fun _ _ h=>h.2.mn) rfl ?_;rintro _ wq ⟨⟨op,hop,rfl⟩,hT⟩;replace gm:=gm.up hT;replace s0:=s0.up hT;replace e0:=e0.up hT;clear hT;refine D ?_;refine Zc rfl trivial (Zd rfl (Zh rfl rfl) ((ih.1) (b4 :: bm :: X) _ bm lv l _ _ (by omega) gm.mkr gm.sl hl (by omega) gm.hX)) (fun _ _ h=>by obtain ⟨_,_,_,_,_,_,h⟩:=h;exact h.mn) rfl ?_;rintro _ wq ⟨y1,i1,⟨k1,rfl,s1⟩,g1,hm,hi1,hS⟩;obtain ⟨p1,c1,rfl,-⟩:=id s1;replace gm:=gm.nxt hm hS;replace s0:=s0.ext hS (by simp) (fun _ h=>.inl h);replace e0:=e0.ext hS (by simp;exact n0);clear hm hS;refine D ?_;refine Zc rfl trivial (Z0 (vs:=[(0,.agg #[.I y0.kind,.I y0.num,str y0.word,.slice p0 y0.kids.length c0]),(1,.agg #[.I y1.kind,.I y1.num,str y1.word,.slice p1 y1.kids.length c1])]) rfl (Jo _ _ _ _ _ _ _ _ _ _ _ _)) (fun _ _ h=>(Z6.stp h).mn) rfl ?_;rintro bv wq hN;have hbv:SlV (b4 :: bm :: X) wq bv [y0,y1]:=hN.slvG (css:=[ndC y0 _,ndC y1 _]) gm.hX rfl rfl rfl (Z1m s0 s1) (by simp [maxLen]);have hT:=Z6.stp hN;clear hN;replace gm:=gm.up hT;clear hT;refine D ?_;refine DC (Zs (b4 :: bm :: X) 6 op bv [y0,y1] _ gm.hX hbv) (fun _ _ h=>h.2.mn) ?_;rintro _ wq ⟨⟨ky,rfl,hy⟩,hT⟩;replace gm:=gm.up hT;clear hT hbv;refine D ?_;obtain ⟨cs,hcl,hcb⟩:=gm.blk;refine ZH rfl trivial (Z9 (us:=ndC (.mk 6 0 op [y0,y1]) _) rfl rfl rfl rfl (Zi (x:=(.mk 6 0 op [y0,y1])) hy) hcb hcl.symm) (fun _ _ h=>h.1.mn) ?_;rintro _ wz ⟨hz,hbz⟩;refine D ?_;refine W ?_;refine Zk rfl rfl rfl hbz rfl ?_;have hf:=gm.fin (y:=(.mk 6 0 op [y0,y1])) hS0 hb4 hy hz;exact .mk ⟨_,_,hf.1,.cmp _ 1 _ _ _ (by decide) hop g0 g1,hf.2.1,by omega,hf.2.2⟩
set_option maxHeartbeats 1000000
def Z4T:List Str:=[[100,97,121,115],[100,97,121,115],[99,111,117,114,116,100,97,121,115],[119,101,101,107,115],[109,111,110,116,104,115]]
theorem ZdB:∀ s∈Z4T,s∈J4:=by decide
theorem Z7B (d:Nat) (hd6:d≤6) (ih:∀ e,d=e+1→Z2r 181 1 e∧Z2r 104 2 e∧Z2r 105 3 e):Z2r 105 3 d:=by
 intro X w bm lv l i z hz hmk hsl hl hi hX;subst hz;have hsz:szD (d+1)=1+3 * szD d:=rfl;refine cW2 107 Tryz.func105 ?_;refine W ?_;refine Z1 Z2 rfl ?_;rintro _ w1 ⟨b4,rfl,hb4,hblk4,hS0⟩;have gm:G3 (b4 :: bm :: X) w1 w1 bm b4 lv l i:=⟨hmk.up hS0,hsl.up hS0,Stp.refl _ _,⟨_,rfl,hblk4⟩,fun h=>by have:=hmk.lt;omega,fun c hc=>by
  simp only [Xb] at hc;have h1:=hblk4.lt;have h2:=hmk.lt;have h3:=hS0.size;rcases hc with rfl|rfl|hc
  exact h1;omega;have:=hX c hc;omega⟩
 clear hblk4 hX hsl hmk;refine W ?_;refine CM (Zh rfl rfl) (Zw bm lv l _ 10 _ (by decide) (by omega) gm.mkr gm.sl hl) ?_;rintro _ wq ⟨q,rfl,hq,hm,hS⟩;replace gm:=gm.nxt hm hS;clear hm hS;refine W ?_;refine CL (Z5X bm lv l _ d _ _ rfl gm.mkr gm.sl) ?_;rintro _ wq ⟨dn,rfl,hdn,hT⟩;replace gm:=gm.up hT;clear hT;refine W ?_;refine JA (σ:=Nat) (fun k=>[(0,pQ bm),(1,.I (d:Int)),(4,pQ b4),(5,.I (k:Int))]) (fun k w'=>w'=wq∧k<10∧(d=0→k<4)) ?_ ?_
 · cases dn with
   | true=>
     refine QO ?_;exact QT (q % 4) ⟨rfl,by omega,fun _=>by omega⟩
   | false=>
     refine QO ?_;exact QT q ⟨rfl,by omega,fun h=>absurd (hdn h) (by decide)⟩
 rintro k w3 ⟨rfl,hkn,hk1⟩;clear hq hdn;by_cases k0:k≤1
 · (refine QP ?_ ?_<;>intro hc)
   all_goals
    refine CL (Zs (b4 :: bm :: X) 4 [100,97,121] (.N) [] _ gm.hX (Zm _ _)) ?_;rintro _ wq ⟨⟨ky,rfl,hy⟩,hT⟩;replace gm:=gm.up hT;clear hT;obtain ⟨cs,hcl,hcb⟩:=gm.blk;refine Z5 (Z9 (us:=ndC (.mk 4 0 [100,97,121] []) _) rfl rfl rfl rfl (Zi (x:=(.mk 4 0 [100,97,121] [])) hy) hcb hcl.symm) ?_;rintro _ wz ⟨hz,hbz⟩;refine W ?_;refine Zk rfl rfl rfl hbz rfl ?_;have hf:=gm.fin (y:=(.mk 4 0 [100,97,121] [])) hS0 hb4 hy hz;exact .mk ⟨_,_,hf.1,.fldD _ _ (by decide),hf.2.1,by omega,hf.2.2⟩
 by_cases k2:k=2;refine QO ?_;refine Z1 (Z0 (vs:=[(0,str [100,97,121]),(1,str [115,101,114,118,101,100])]) rfl (bS2 _ _)) rfl ?_;rintro wv wq hN;have hws:SlV [bm] wq wv Z7z:=hN.slv (fun c hc=>gm.hX c (by simp at hc;subst hc;simp)) rfl rfl (by decide);have hT:=Z6.stp hN;clear hN;replace gm:=gm.up hT;clear hT;refine W ?_;refine CM (Zh rfl rfl) (Zw bm lv l _ 2 _ (by decide) (by omega) gm.mkr gm.sl hl) ?_;rintro _ wq ⟨q',rfl,hq',hm,hS⟩;replace gm:=gm.nxt hm hS;replace hws:=hws.ext hS (by simp) (fun _ h=>.inl h);clear hm hS;have hqn:q'<Z7z.length:=by show q'<2;omega
 refine W ?_;refine CL (Zs (b4 :: bm :: X) 4 Z7z[q'] (.N) [] _ gm.hX (Zm _ _)) ?_;rintro _ wq ⟨⟨ky,rfl,hy⟩,hT⟩;replace gm:=gm.up hT;clear hT;obtain ⟨cs,hcl,hcb⟩:=gm.blk;refine Z5 (Z9 (us:=ndC (.mk 4 0 Z7z[q'] []) _) rfl rfl rfl rfl (Zi (x:=(.mk 4 0 Z7z[q'] [])) hy) hcb hcl.symm) ?_;rintro _ wz ⟨hz,hbz⟩;refine W ?_;refine Zk rfl rfl rfl hbz rfl ?_;have hf:=gm.fin (y:=(.mk 4 0 Z7z[q'] [])) hS0 hb4 hy hz;exact .mk ⟨_,_,hf.1,.fldD _ _ (Xd hqn),hf.2.1,by omega,hf.2.2⟩;by_cases k3:k=3;refine QO ?_;refine CM (Zh rfl rfl) (Zw bm lv l _ 60 _ (by decide) (by omega) gm.mkr gm.sl hl) ?_;rintro _ wq ⟨q',rfl,hq',hm,hS⟩;replace gm:=gm.nxt hm hS;clear hm hS;refine W ?_;apply Z8 (vs:=[(0,.I 3),(1,.I _)]) rfl (Z3D _ _) rfl;have hy:SlV (α:=Nd) (b4 :: bm :: X) _ (.N) []:=Zm _ wq;obtain ⟨cs,hcl,hcb⟩:=gm.blk;refine Z5 (Z9 (us:=ndC (.mk 3 (739616+(q':Int)) [] []) _) rfl rfl rfl rfl (Zi (x:=(.mk 3 (739616+(q':Int)) [] [])) hy) hcb hcl.symm) ?_;rintro _ wz ⟨hz,hbz⟩;refine W ?_;refine Zk rfl rfl rfl hbz rfl ?_;have hf:=gm.fin (y:=(.mk 3 (739616+(q':Int)) [] [])) hS0 hb4 hy hz;exact .mk ⟨_,_,hf.1,.day _ _ (by omega),hf.2.1,by omega,hf.2.2⟩;by_cases k4:k=4;obtain ⟨e,rfl⟩:∃ e,d=e+1:=⟨d - 1,by omega⟩
 replace ih:=ih e rfl;have hsp:=Z1h e;refine QO ?_;refine Z4a 12 [b4,bm] [] rfl mixed (fun w1 hS1=>?_);have hT:=hS1;replace gm:=gm.up hT;clear hT hS1;refine JU 1 rfl trivial (fun w'=>ZY rfl) rfl (by kernel_rfl) (by kernel_rfl) ?_;refine JU 5 rfl trivial (fun w'=>ZY rfl) rfl (by kernel_rfl) (by kernel_rfl) ?_;refine JU 6 rfl trivial (fun w'=>ZY rfl) rfl (by kernel_rfl) (by kernel_rfl) ?_;refine JU 7 rfl trivial (fun w'=>Z4M rfl rfl (by unfold I64;omega)) rfl (by kernel_rfl) (by kernel_rfl) ?_;refine Z1u 0 2 (by kernel_rfl) ?_ ?_;refine Jb rfl trivial (Z0 (vs:=[(0,str [110,101,120,116]),(1,str [112,114,101,118])]) rfl (bS2 _ _)) (fun _ _ h=>(Z6.stp h).mn) rfl ?_;rintro wv wq hN;have hws:SlV [b4,bm] wq wv Z15:=hN.slv (fun c hc=>gm.hX c (by simp at hc;rcases hc with rfl|rfl<;>simp)) rfl rfl (by decide);have hT:=Z6.stp hN;clear hN;replace gm:=gm.up hT;clear hT;refine Z4v [(2,2),(3,0),(4,1),(8,2),(9,2),(10,2),(11,2)] (by kernel_rfl) (by kernel_rfl) (by kernel_rfl) ?_;refine Zc rfl trivial (Zd rfl (Zh rfl rfl) (Zw bm lv l _ 2 _ (by decide) (by omega) gm.mkr gm.sl hl)) (fun _ _ h=>h.choose_spec.2.2.2.mn) rfl ?_;rintro _ wq ⟨q,rfl,hq,hm,hS⟩;replace gm:=gm.nxt hm hS;replace hws:=hws.ext hS (by simp) (fun _ h=>.inl h);clear hm hS;have hqn:q<Z15.length:=by show q<2;omega
 refine D ?_;refine Zc rfl trivial (Zd rfl (Zh rfl rfl) ((ih.2.2) (b4 :: bm :: X) _ bm lv l _ _ (by omega) gm.mkr gm.sl hl (by omega) gm.hX)) (fun _ _ h=>by obtain ⟨_,_,_,_,_,_,h⟩:=h;exact h.mn) rfl ?_;rintro _ wq ⟨y0,i0,⟨k0,rfl,s0⟩,g0,hm,hi0,hS⟩;obtain ⟨p0,c0,rfl,-⟩:=id s0;replace gm:=gm.nxt hm hS;replace hws:=hws.ext hS (by simp) (fun _ h=>.inl h);clear hm hS;refine D ?_;refine Zc rfl trivial (Z0 (vs:=[(0,.agg #[.I y0.kind,.I y0.num,str y0.word,.slice p0 y0.kids.length c0])]) rfl (Z2z _ _ _ _ _ _)) (fun _ _ h=>(Z6.stp h).mn) rfl ?_;rintro bv wq hN;have hbv:SlV (b4 :: bm :: X) wq bv [y0]:=hN.slvG (css:=[ndC y0 _]) gm.hX rfl rfl rfl (Z94 s0) (by simp [maxLen]);have hT:=Z6.stp hN;clear hN;replace gm:=gm.up hT;replace hws:=hws.up hT;clear hT;refine D ?_;refine DC (Zs (b4 :: bm :: X) 10 Z15[q] bv [y0] _ gm.hX hbv) (fun _ _ h=>h.2.mn) ?_;rintro _ wq ⟨⟨ky,rfl,hy⟩,hT⟩;replace gm:=gm.up hT;clear hT hbv;refine D ?_;obtain ⟨cs,hcl,hcb⟩:=gm.blk;refine ZH rfl trivial (Z9 (us:=ndC (.mk 10 0 Z15[q] [y0]) _) rfl rfl rfl rfl (Zi (x:=(.mk 10 0 Z15[q] [y0])) hy) hcb hcl.symm) (fun _ _ h=>h.1.mn) ?_;rintro _ wz ⟨hz,hbz⟩;refine D ?_;refine W ?_;refine Zk rfl rfl rfl hbz rfl ?_;have hf:=gm.fin (y:=(.mk 10 0 Z15[q] [y0])) hS0 hb4 hy hz;exact .mk ⟨_,_,hf.1,.adj _ _ _ (Xd hqn) g0,hf.2.1,by omega,hf.2.2⟩;refine Jb rfl trivial (Zd rfl (Zh rfl rfl) (Zw bm lv l _ 2 _ (by decide) (by omega) gm.mkr gm.sl hl)) (fun _ _ h=>h.choose_spec.2.2.2.mn) rfl ?_;rintro _ wq ⟨q,rfl,hq,hm,hS⟩;replace gm:=gm.nxt hm hS;clear hm hS;have hqn:q<Z15.length:=by show q<2;omega
 refine Z1u 0 8 (by kernel_rfl) ?_ ?_;refine Jb rfl trivial (Z0 (vs:=[(0,str [110,101,120,116]),(1,str [112,114,101,118])]) rfl (bS2 _ _)) (fun _ _ h=>(Z6.stp h).mn) rfl ?_;rintro wv wq hN;have hws:SlV [b4,bm] wq wv Z15:=hN.slv (fun c hc=>gm.hX c (by simp at hc;rcases hc with rfl|rfl<;>simp)) rfl rfl (by decide);have hT:=Z6.stp hN;clear hN;replace gm:=gm.up hT;clear hT;refine Z4v [(3,0),(4,1),(8,2),(9,2),(10,2),(11,2)] (by kernel_rfl) (by kernel_rfl) (by kernel_rfl) ?_;refine D ?_;refine Zc rfl trivial (Zd rfl (Zh rfl rfl) ((ih.2.2) (b4 :: bm :: X) _ bm lv l _ _ (by omega) gm.mkr gm.sl hl (by omega) gm.hX)) (fun _ _ h=>by obtain ⟨_,_,_,_,_,_,h⟩:=h;exact h.mn) rfl ?_;rintro _ wq ⟨y0,i0,⟨k0,rfl,s0⟩,g0,hm,hi0,hS⟩;obtain ⟨p0,c0,rfl,-⟩:=id s0;replace gm:=gm.nxt hm hS;replace hws:=hws.ext hS (by simp) (fun _ h=>.inl h);clear hm hS;refine D ?_;refine Zc rfl trivial (Z0 (vs:=[(0,.agg #[.I y0.kind,.I y0.num,str y0.word,.slice p0 y0.kids.length c0])]) rfl (Z2z _ _ _ _ _ _)) (fun _ _ h=>(Z6.stp h).mn) rfl ?_;rintro bv wq hN;have hbv:SlV (b4 :: bm :: X) wq bv [y0]:=hN.slvG (css:=[ndC y0 _]) gm.hX rfl rfl rfl (Z94 s0) (by simp [maxLen]);have hT:=Z6.stp hN;clear hN;replace gm:=gm.up hT;replace hws:=hws.up hT;clear hT;refine D ?_;refine DC (Zs (b4 :: bm :: X) 10 Z15[q] bv [y0] _ gm.hX hbv) (fun _ _ h=>h.2.mn) ?_;rintro _ wq ⟨⟨ky,rfl,hy⟩,hT⟩;replace gm:=gm.up hT;clear hT hbv;refine D ?_;obtain ⟨cs,hcl,hcb⟩:=gm.blk;refine ZH rfl trivial (Z9 (us:=ndC (.mk 10 0 Z15[q] [y0]) _) rfl rfl rfl rfl (Zi (x:=(.mk 10 0 Z15[q] [y0])) hy) hcb hcl.symm) (fun _ _ h=>h.1.mn) ?_;rintro _ wz ⟨hz,hbz⟩;refine D ?_;refine W ?_;refine Zk rfl rfl rfl hbz rfl ?_;have hf:=gm.fin (y:=(.mk 10 0 Z15[q] [y0])) hS0 hb4 hy hz;exact .mk ⟨_,_,hf.1,.adj _ _ _ (Xd hqn) g0,hf.2.1,by omega,hf.2.2⟩;refine Jb rfl trivial (Zd rfl (Zh rfl rfl) ((ih.2.2) (b4 :: bm :: X) _ bm lv l _ _ (by omega) gm.mkr gm.sl hl (by omega) gm.hX)) (fun _ _ h=>by obtain ⟨_,_,_,_,_,_,h⟩:=h;exact h.mn) rfl ?_;rintro _ wq ⟨y0,i0,⟨k0,rfl,s0⟩,g0,hm,hi0,hS⟩;obtain ⟨p0,c0,rfl,-⟩:=id s0;replace gm:=gm.nxt hm hS;clear hm hS;refine Z1u 0 9 (by kernel_rfl) ?_ ?_;refine Jb rfl trivial (Z0 (vs:=[(0,str [110,101,120,116]),(1,str [112,114,101,118])]) rfl (bS2 _ _)) (fun _ _ h=>(Z6.stp h).mn) rfl ?_;rintro wv wq hN;have hws:SlV [b4,bm] wq wv Z15:=hN.slv (fun c hc=>gm.hX c (by simp at hc;rcases hc with rfl|rfl<;>simp)) rfl rfl (by decide);have hT:=Z6.stp hN;clear hN;replace gm:=gm.up hT;replace s0:=s0.up hT;clear hT;refine Z4v [(3,0),(4,1),(9,2),(10,2),(11,2)] (by kernel_rfl) (by kernel_rfl) (by kernel_rfl) ?_;refine D ?_;refine D ?_;refine Zc rfl trivial (Z0 (vs:=[(0,.agg #[.I y0.kind,.I y0.num,str y0.word,.slice p0 y0.kids.length c0])]) rfl (Z2z _ _ _ _ _ _)) (fun _ _ h=>(Z6.stp h).mn) rfl ?_;rintro bv wq hN;have hbv:SlV (b4 :: bm :: X) wq bv [y0]:=hN.slvG (css:=[ndC y0 _]) gm.hX rfl rfl rfl (Z94 s0) (by simp [maxLen]);have hT:=Z6.stp hN;clear hN;replace gm:=gm.up hT;replace hws:=hws.up hT;clear hT;refine D ?_;refine DC (Zs (b4 :: bm :: X) 10 Z15[q] bv [y0] _ gm.hX hbv) (fun _ _ h=>h.2.mn) ?_;rintro _ wq ⟨⟨ky,rfl,hy⟩,hT⟩;replace gm:=gm.up hT;clear hT hbv;refine D ?_;obtain ⟨cs,hcl,hcb⟩:=gm.blk;refine ZH rfl trivial (Z9 (us:=ndC (.mk 10 0 Z15[q] [y0]) _) rfl rfl rfl rfl (Zi (x:=(.mk 10 0 Z15[q] [y0])) hy) hcb hcl.symm) (fun _ _ h=>h.1.mn) ?_;rintro _ wz ⟨hz,hbz⟩;refine D ?_;refine W ?_;refine Zk rfl rfl rfl hbz rfl ?_;have hf:=gm.fin (y:=(.mk 10 0 Z15[q] [y0])) hS0 hb4 hy hz;exact .mk ⟨_,_,hf.1,.adj _ _ _ (Xd hqn) g0,hf.2.1,by omega,hf.2.2⟩;refine Jb rfl trivial (Z0 (vs:=[(0,.agg #[.I y0.kind,.I y0.num,str y0.word,.slice p0 y0.kids.length c0])]) rfl (Z2z _ _ _ _ _ _)) (fun _ _ h=>(Z6.stp h).mn) rfl ?_;rintro bv wq hN;have hbv:SlV (b4 :: bm :: X) wq bv [y0]:=hN.slvG (css:=[ndC y0 _]) gm.hX rfl rfl rfl (Z94 s0) (by simp [maxLen]);have hT:=Z6.stp hN;clear hN;replace gm:=gm.up hT;clear hT;refine Z4v [(0,2),(3,0),(4,1),(10,2),(11,2)] (by kernel_rfl) (by kernel_rfl) (by kernel_rfl) ?_;refine Zc rfl trivial (Z0 (vs:=[(0,str [110,101,120,116]),(1,str [112,114,101,118])]) rfl (bS2 _ _)) (fun _ _ h=>(Z6.stp h).mn) rfl ?_;rintro wv wq hN;have hws:SlV [b4,bm] wq wv Z15:=hN.slv (fun c hc=>gm.hX c (by simp at hc;rcases hc with rfl|rfl<;>simp)) rfl rfl (by decide);have hT:=Z6.stp hN;clear hN;replace gm:=gm.up hT;replace hbv:=hbv.up hT;clear hT;refine D ?_;refine D ?_;refine D ?_;refine DC (Zs (b4 :: bm :: X) 10 Z15[q] bv [y0] _ gm.hX hbv) (fun _ _ h=>h.2.mn) ?_;rintro _ wq ⟨⟨ky,rfl,hy⟩,hT⟩;replace gm:=gm.up hT;clear hT hbv;refine D ?_;obtain ⟨cs,hcl,hcb⟩:=gm.blk;refine ZH rfl trivial (Z9 (us:=ndC (.mk 10 0 Z15[q] [y0]) _) rfl rfl rfl rfl (Zi (x:=(.mk 10 0 Z15[q] [y0])) hy) hcb hcl.symm) (fun _ _ h=>h.1.mn) ?_;rintro _ wz ⟨hz,hbz⟩;refine D ?_;refine W ?_;refine Zk rfl rfl rfl hbz rfl ?_;have hf:=gm.fin (y:=(.mk 10 0 Z15[q] [y0])) hS0 hb4 hy hz;exact .mk ⟨_,_,hf.1,.adj _ _ _ (Xd hqn) g0,hf.2.1,by omega,hf.2.2⟩;by_cases k5:k=5;obtain ⟨e,rfl⟩:∃ e,d=e+1:=⟨d - 1,by omega⟩
 replace ih:=ih e rfl;have hsp:=Z1h e;refine QO ?_;refine W ?_;refine CM (Zh rfl rfl) ((ih.2.2) (b4 :: bm :: X) _ bm lv l _ _ (by omega) gm.mkr gm.sl hl (by omega) gm.hX) ?_;rintro _ wq ⟨y0,i0,⟨k0,rfl,s0⟩,g0,hm,hi0,hS⟩;obtain ⟨p0,c0,rfl,-⟩:=id s0;replace gm:=gm.nxt hm hS;clear hm hS;refine Z1 Z2 rfl ?_;rintro _ wq ⟨b0',rfl,hb0',e0,hT⟩;refine SB (us:=ndC y0 _) (Zi s0) e0 ?_;rintro _ wq ⟨hT2,e0⟩;replace hT:=JL hT hb0' hT2;clear hT2;have n0:b0'≠bm:=fun h=>by have:=gm.mkr.lt;omega
 have n0':b0'≠b4:=fun h=>by obtain ⟨_,_,hc⟩:=gm.blk;have:=hc.lt;omega
 replace gm:=gm.up hT;replace s0:=s0.up hT;clear hT hb0';refine W ?_;refine Z4a 13 [b4,bm] [] rfl mixed (fun w1 hS1=>?_);have hT:=hS1;replace gm:=gm.up hT;replace s0:=s0.up hT;replace e0:=e0.up hT;clear hT hS1;refine JU 1 rfl trivial (fun w'=>ZY rfl) rfl (by kernel_rfl) (by kernel_rfl) ?_;refine Zam 5 rfl trivial (fun w' hS'=>J2 rfl rfl (e0.ext hS' (by simp;exact ⟨n0',n0⟩)) rfl) rfl (by kernel_rfl) (by kernel_rfl) ?_;refine JU 6 rfl trivial (fun w'=>ZY rfl) rfl (by kernel_rfl) (by kernel_rfl) ?_;refine JU 7 rfl trivial (fun w'=>ZY rfl) rfl (by kernel_rfl) (by kernel_rfl) ?_;refine JU 8 rfl trivial (fun w'=>Z4M rfl rfl (by unfold I64;omega)) rfl (by kernel_rfl) (by kernel_rfl) ?_;refine Z1u 0 2 (by kernel_rfl) ?_ ?_;refine Jb rfl trivial (Z0 (vs:=[(0,str [108,97,116,101,114]),(1,str [101,97,114,108,105,101,114])]) rfl (bS2 _ _)) (fun _ _ h=>(Z6.stp h).mn) rfl ?_;rintro wv wq hN;have hws:SlV [b4,bm] wq wv Z16:=hN.slv (fun c hc=>gm.hX c (by simp at hc;rcases hc with rfl|rfl<;>simp)) rfl rfl (by decide);have hT:=Z6.stp hN;clear hN;replace gm:=gm.up hT;replace s0:=s0.up hT;replace e0:=e0.up hT;clear hT;refine Z4v [(2,2),(3,0),(4,1),(9,2),(10,2),(11,2),(12,2)] (by kernel_rfl) (by kernel_rfl) (by kernel_rfl) ?_;refine Zc rfl trivial (Zd rfl (Zh rfl rfl) (Zw bm lv l _ 2 _ (by decide) (by omega) gm.mkr gm.sl hl)) (fun _ _ h=>h.choose_spec.2.2.2.mn) rfl ?_;rintro _ wq ⟨q,rfl,hq,hm,hS⟩;replace gm:=gm.nxt hm hS;replace s0:=s0.ext hS (by simp) (fun _ h=>.inl h);replace e0:=e0.ext hS (by simp;exact n0);replace hws:=hws.ext hS (by simp) (fun _ h=>.inl h);clear hm hS;have hqn:q<Z16.length:=by show q<2;omega
 refine D ?_;refine Zc rfl trivial (Zd rfl (Zh rfl rfl) ((ih.2.2) (b4 :: bm :: X) _ bm lv l _ _ (by omega) gm.mkr gm.sl hl (by omega) gm.hX)) (fun _ _ h=>by obtain ⟨_,_,_,_,_,_,h⟩:=h;exact h.mn) rfl ?_;rintro _ wq ⟨y1,i1,⟨k1,rfl,s1⟩,g1,hm,hi1,hS⟩;obtain ⟨p1,c1,rfl,-⟩:=id s1;replace gm:=gm.nxt hm hS;replace s0:=s0.ext hS (by simp) (fun _ h=>.inl h);replace e0:=e0.ext hS (by simp;exact n0);replace hws:=hws.ext hS (by simp) (fun _ h=>.inl h);clear hm hS;refine D ?_;refine Zc rfl trivial (Z0 (vs:=[(0,.agg #[.I y0.kind,.I y0.num,str y0.word,.slice p0 y0.kids.length c0]),(1,.agg #[.I y1.kind,.I y1.num,str y1.word,.slice p1 y1.kids.length c1])]) rfl (Jo _ _ _ _ _ _ _ _ _ _ _ _)) (fun _ _ h=>(Z6.stp h).mn) rfl ?_;rintro bv wq hN;have hbv:SlV (b4 :: bm :: X) wq bv [y0,y1]:=hN.slvG (css:=[ndC y0 _,ndC y1 _]) gm.hX rfl rfl rfl (Z1m s0 s1) (by simp [maxLen]);have hT:=Z6.stp hN;clear hN;replace gm:=gm.up hT;replace hws:=hws.up hT;clear hT;refine D ?_;refine DC (Zs (b4 :: bm :: X) 10 Z16[q] bv [y0,y1] _ gm.hX hbv) (fun _ _ h=>h.2.mn) ?_;rintro _ wq ⟨⟨ky,rfl,hy⟩,hT⟩;replace gm:=gm.up hT;clear hT hbv;refine D ?_;obtain ⟨cs,hcl,hcb⟩:=gm.blk;refine ZH rfl trivial (Z9 (us:=ndC (.mk 10 0 Z16[q] [y0,y1]) _) rfl rfl rfl rfl (Zi (x:=(.mk 10 0 Z16[q] [y0,y1])) hy) hcb hcl.symm) (fun _ _ h=>h.1.mn) ?_;rintro _ wz ⟨hz,hbz⟩;refine D ?_;refine W ?_;refine Zk rfl rfl rfl hbz rfl ?_;have hf:=gm.fin (y:=(.mk 10 0 Z16[q] [y0,y1])) hS0 hb4 hy hz;exact .mk ⟨_,_,hf.1,.two _ _ _ _ (Xd hqn) g0 g1,hf.2.1,by omega,hf.2.2⟩;refine Jb rfl trivial (Zd rfl (Zh rfl rfl) (Zw bm lv l _ 2 _ (by decide) (by omega) gm.mkr gm.sl hl)) (fun _ _ h=>h.choose_spec.2.2.2.mn) rfl ?_;rintro _ wq ⟨q,rfl,hq,hm,hS⟩;replace gm:=gm.nxt hm hS;replace s0:=s0.ext hS (by simp) (fun _ h=>.inl h);replace e0:=e0.ext hS (by simp;exact n0);clear hm hS;have hqn:q<Z16.length:=by show q<2;omega
 refine Z1u 0 9 (by kernel_rfl) ?_ ?_;refine Jb rfl trivial (Z0 (vs:=[(0,str [108,97,116,101,114]),(1,str [101,97,114,108,105,101,114])]) rfl (bS2 _ _)) (fun _ _ h=>(Z6.stp h).mn) rfl ?_;rintro wv wq hN;have hws:SlV [b4,bm] wq wv Z16:=hN.slv (fun c hc=>gm.hX c (by simp at hc;rcases hc with rfl|rfl<;>simp)) rfl rfl (by decide);have hT:=Z6.stp hN;clear hN;replace gm:=gm.up hT;replace s0:=s0.up hT;replace e0:=e0.up hT;clear hT;refine Z4v [(3,0),(4,1),(9,2),(10,2),(11,2),(12,2)] (by kernel_rfl) (by kernel_rfl) (by kernel_rfl) ?_;refine D ?_;refine Zc rfl trivial (Zd rfl (Zh rfl rfl) ((ih.2.2) (b4 :: bm :: X) _ bm lv l _ _ (by omega) gm.mkr gm.sl hl (by omega) gm.hX)) (fun _ _ h=>by obtain ⟨_,_,_,_,_,_,h⟩:=h;exact h.mn) rfl ?_;rintro _ wq ⟨y1,i1,⟨k1,rfl,s1⟩,g1,hm,hi1,hS⟩;obtain ⟨p1,c1,rfl,-⟩:=id s1;replace gm:=gm.nxt hm hS;replace s0:=s0.ext hS (by simp) (fun _ h=>.inl h);replace e0:=e0.ext hS (by simp;exact n0);replace hws:=hws.ext hS (by simp) (fun _ h=>.inl h);clear hm hS;refine D ?_;refine Zc rfl trivial (Z0 (vs:=[(0,.agg #[.I y0.kind,.I y0.num,str y0.word,.slice p0 y0.kids.length c0]),(1,.agg #[.I y1.kind,.I y1.num,str y1.word,.slice p1 y1.kids.length c1])]) rfl (Jo _ _ _ _ _ _ _ _ _ _ _ _)) (fun _ _ h=>(Z6.stp h).mn) rfl ?_;rintro bv wq hN;have hbv:SlV (b4 :: bm :: X) wq bv [y0,y1]:=hN.slvG (css:=[ndC y0 _,ndC y1 _]) gm.hX rfl rfl rfl (Z1m s0 s1) (by simp [maxLen]);have hT:=Z6.stp hN;clear hN;replace gm:=gm.up hT;replace hws:=hws.up hT;clear hT;refine D ?_;refine DC (Zs (b4 :: bm :: X) 10 Z16[q] bv [y0,y1] _ gm.hX hbv) (fun _ _ h=>h.2.mn) ?_;rintro _ wq ⟨⟨ky,rfl,hy⟩,hT⟩;replace gm:=gm.up hT;clear hT hbv;refine D ?_;obtain ⟨cs,hcl,hcb⟩:=gm.blk;refine ZH rfl trivial (Z9 (us:=ndC (.mk 10 0 Z16[q] [y0,y1]) _) rfl rfl rfl rfl (Zi (x:=(.mk 10 0 Z16[q] [y0,y1])) hy) hcb hcl.symm) (fun _ _ h=>h.1.mn) ?_;rintro _ wz ⟨hz,hbz⟩;refine D ?_;refine W ?_;refine Zk rfl rfl rfl hbz rfl ?_;have hf:=gm.fin (y:=(.mk 10 0 Z16[q] [y0,y1])) hS0 hb4 hy hz;exact .mk ⟨_,_,hf.1,.two _ _ _ _ (Xd hqn) g0 g1,hf.2.1,by omega,hf.2.2⟩;refine Jb rfl trivial (Zd rfl (Zh rfl rfl) ((ih.2.2) (b4 :: bm :: X) _ bm lv l _ _ (by omega) gm.mkr gm.sl hl (by omega) gm.hX)) (fun _ _ h=>by obtain ⟨_,_,_,_,_,_,h⟩:=h;exact h.mn) rfl ?_;rintro _ wq ⟨y1,i1,⟨k1,rfl,s1⟩,g1,hm,hi1,hS⟩;obtain ⟨p1,c1,rfl,-⟩:=id s1;replace gm:=gm.nxt hm hS;replace s0:=s0.ext hS (by simp) (fun _ h=>.inl h);replace e0:=e0.ext hS (by simp;exact n0);clear hm hS;refine Z1u 0 10 (by kernel_rfl) ?_ ?_;refine Jb rfl trivial (Z0 (vs:=[(0,str [108,97,116,101,114]),(1,str [101,97,114,108,105,101,114])]) rfl (bS2 _ _)) (fun _ _ h=>(Z6.stp h).mn) rfl ?_;rintro wv wq hN;have hws:SlV [b4,bm] wq wv Z16:=hN.slv (fun c hc=>gm.hX c (by simp at hc;rcases hc with rfl|rfl<;>simp)) rfl rfl (by decide);have hT:=Z6.stp hN;clear hN;replace gm:=gm.up hT;replace s0:=s0.up hT;replace e0:=e0.up hT;replace s1:=s1.up hT;clear hT;refine Z4v [(3,0),(4,1),(10,2),(11,2),(12,2)] (by kernel_rfl) (by kernel_rfl) (by kernel_rfl) ?_;refine D ?_;refine D ?_;refine Zc rfl trivial (Z0 (vs:=[(0,.agg #[.I y0.kind,.I y0.num,str y0.word,.slice p0 y0.kids.length c0]),(1,.agg #[.I y1.kind,.I y1.num,str y1.word,.slice p1 y1.kids.length c1])]) rfl (Jo _ _ _ _ _ _ _ _ _ _ _ _)) (fun _ _ h=>(Z6.stp h).mn) rfl ?_;rintro bv wq hN;have hbv:SlV (b4 :: bm :: X) wq bv [y0,y1]:=hN.slvG (css:=[ndC y0 _,ndC y1 _]) gm.hX rfl rfl rfl (Z1m s0 s1) (by simp [maxLen]);have hT:=Z6.stp hN;clear hN;replace gm:=gm.up hT;replace hws:=hws.up hT;clear hT;refine D ?_;refine DC (Zs (b4 :: bm :: X) 10 Z16[q] bv [y0,y1] _ gm.hX hbv) (fun _ _ h=>h.2.mn) ?_;rintro _ wq ⟨⟨ky,rfl,hy⟩,hT⟩;replace gm:=gm.up hT;clear hT hbv;refine D ?_;obtain ⟨cs,hcl,hcb⟩:=gm.blk;refine ZH rfl trivial (Z9 (us:=ndC (.mk 10 0 Z16[q] [y0,y1]) _) rfl rfl rfl rfl (Zi (x:=(.mk 10 0 Z16[q] [y0,y1])) hy) hcb hcl.symm) (fun _ _ h=>h.1.mn) ?_;rintro _ wz ⟨hz,hbz⟩;refine D ?_;refine W ?_;refine Zk rfl rfl rfl hbz rfl ?_;have hf:=gm.fin (y:=(.mk 10 0 Z16[q] [y0,y1])) hS0 hb4 hy hz;exact .mk ⟨_,_,hf.1,.two _ _ _ _ (Xd hqn) g0 g1,hf.2.1,by omega,hf.2.2⟩;refine Jb rfl trivial (Z0 (vs:=[(0,.agg #[.I y0.kind,.I y0.num,str y0.word,.slice p0 y0.kids.length c0]),(1,.agg #[.I y1.kind,.I y1.num,str y1.word,.slice p1 y1.kids.length c1])]) rfl (Jo _ _ _ _ _ _ _ _ _ _ _ _)) (fun _ _ h=>(Z6.stp h).mn) rfl ?_;rintro bv wq hN;have hbv:SlV (b4 :: bm :: X) wq bv [y0,y1]:=hN.slvG (css:=[ndC y0 _,ndC y1 _]) gm.hX rfl rfl rfl (Z1m s0 s1) (by simp [maxLen]);have hT:=Z6.stp hN;clear hN;replace gm:=gm.up hT;clear hT;refine Z4v [(0,2),(3,0),(4,1),(11,2),(12,2)] (by kernel_rfl) (by kernel_rfl) (by kernel_rfl) ?_;refine Zc rfl trivial (Z0 (vs:=[(0,str [108,97,116,101,114]),(1,str [101,97,114,108,105,101,114])]) rfl (bS2 _ _)) (fun _ _ h=>(Z6.stp h).mn) rfl ?_;rintro wv wq hN;have hws:SlV [b4,bm] wq wv Z16:=hN.slv (fun c hc=>gm.hX c (by simp at hc;rcases hc with rfl|rfl<;>simp)) rfl rfl (by decide);have hT:=Z6.stp hN;clear hN;replace gm:=gm.up hT;replace hbv:=hbv.up hT;clear hT;refine D ?_;refine D ?_;refine D ?_;refine DC (Zs (b4 :: bm :: X) 10 Z16[q] bv [y0,y1] _ gm.hX hbv) (fun _ _ h=>h.2.mn) ?_;rintro _ wq ⟨⟨ky,rfl,hy⟩,hT⟩;replace gm:=gm.up hT;clear hT hbv;refine D ?_;obtain ⟨cs,hcl,hcb⟩:=gm.blk;refine ZH rfl trivial (Z9 (us:=ndC (.mk 10 0 Z16[q] [y0,y1]) _) rfl rfl rfl rfl (Zi (x:=(.mk 10 0 Z16[q] [y0,y1])) hy) hcb hcl.symm) (fun _ _ h=>h.1.mn) ?_;rintro _ wz ⟨hz,hbz⟩;refine D ?_;refine W ?_;refine Zk rfl rfl rfl hbz rfl ?_;have hf:=gm.fin (y:=(.mk 10 0 Z16[q] [y0,y1])) hS0 hb4 hy hz;exact .mk ⟨_,_,hf.1,.two _ _ _ _ (Xd hqn) g0 g1,hf.2.1,by omega,hf.2.2⟩;by_cases k6:k=6;obtain ⟨e,rfl⟩:∃ e,d=e+1:=⟨d - 1,by omega⟩
 replace ih:=ih e rfl;have hsp:=Z1h e;refine QO ?_;refine W ?_;refine CM (Zh rfl rfl) ((ih.2.1) (b4 :: bm :: X) _ bm lv l _ _ (by omega) gm.mkr gm.sl hl (by omega) gm.hX) ?_;rintro _ wq ⟨y0,i0,⟨k0,rfl,s0⟩,g0,hm,hi0,hS⟩;obtain ⟨p0,c0,rfl,-⟩:=id s0;replace gm:=gm.nxt hm hS;clear hm hS;refine Z1 Z2 rfl ?_;rintro _ wq ⟨b0',rfl,hb0',e0,hT⟩;refine SB (us:=ndC y0 _) (Zi s0) e0 ?_;rintro _ wq ⟨hT2,e0⟩;replace hT:=JL hT hb0' hT2;clear hT2;have n0:b0'≠bm:=fun h=>by have:=gm.mkr.lt;omega
 have n0':b0'≠b4:=fun h=>by obtain ⟨_,_,hc⟩:=gm.blk;have:=hc.lt;omega
 replace gm:=gm.up hT;replace s0:=s0.up hT;clear hT hb0';refine W ?_;refine CM (Zh rfl rfl) ((ih.2.2) (b4 :: bm :: X) _ bm lv l _ _ (by omega) gm.mkr gm.sl hl (by omega) gm.hX) ?_;rintro _ wq ⟨y1,i1,⟨k1,rfl,s1⟩,g1,hm,hi1,hS⟩;obtain ⟨p1,c1,rfl,-⟩:=id s1;replace gm:=gm.nxt hm hS;replace s0:=s0.ext hS (by simp) (fun _ h=>.inl h);replace e0:=e0.ext hS (by simp;exact n0);clear hm hS;refine Z1 Z2 rfl ?_;rintro _ wq ⟨b1',rfl,hb1',e1,hT⟩;refine SB (us:=ndC y1 _) (Zi s1) e1 ?_;rintro _ wq ⟨hT2,e1⟩;replace hT:=JL hT hb1' hT2;clear hT2;have n1:b1'≠bm:=fun h=>by have:=gm.mkr.lt;omega
 have n1':b1'≠b4:=fun h=>by obtain ⟨_,_,hc⟩:=gm.blk;have:=hc.lt;omega
 replace gm:=gm.up hT;replace s0:=s0.up hT;replace e0:=e0.up hT;replace s1:=s1.up hT;clear hT hb1';refine W ?_;refine ZDr 9 ([b4,bm]) [] [(0,1),(1,1),(2,0),(3,0),(4,0),(5,2),(6,2),(7,2),(8,2)] (fun w1 hS1=>?_);have hT:=hS1;replace gm:=gm.up hT;replace s0:=s0.up hT;replace e0:=e0.up hT;replace s1:=s1.up hT;replace e1:=e1.up hT;clear hT hS1;refine J3 rfl trivial (fun w' hS'=>J2 rfl rfl (e0.ext hS' (by simp;exact ⟨n0',n0⟩)) rfl) rfl ?_;refine J3 rfl trivial (fun w' hS'=>J2 rfl rfl (e1.ext hS' (by simp;exact ⟨n1',n1⟩)) rfl) rfl ?_;refine D ?_;refine Zc rfl trivial (Zd rfl (Zh rfl rfl) ((ih.2.2) (b4 :: bm :: X) _ bm lv l _ _ (by omega) gm.mkr gm.sl hl (by omega) gm.hX)) (fun _ _ h=>by obtain ⟨_,_,_,_,_,_,h⟩:=h;exact h.mn) rfl ?_;rintro _ wq ⟨y2,i2,⟨k2,rfl,s2⟩,g2,hm,hi2,hS⟩;obtain ⟨p2,c2,rfl,-⟩:=id s2;replace gm:=gm.nxt hm hS;replace s0:=s0.ext hS (by simp) (fun _ h=>.inl h);replace e0:=e0.ext hS (by simp;exact n0);replace s1:=s1.ext hS (by simp) (fun _ h=>.inl h);replace e1:=e1.ext hS (by simp;exact n1);clear hm hS;refine D ?_;refine Zc rfl trivial (Z0 (vs:=[(0,.agg #[.I y0.kind,.I y0.num,str y0.word,.slice p0 y0.kids.length c0]),(1,.agg #[.I y1.kind,.I y1.num,str y1.word,.slice p1 y1.kids.length c1]),(2,.agg #[.I y2.kind,.I y2.num,str y2.word,.slice p2 y2.kids.length c2])]) rfl (ZbD _ _ _ _ _ _ _ _ _ _ _ _ _ _ _ _ _ _)) (fun _ _ h=>(Z6.stp h).mn) rfl ?_;rintro bv wq hN;have hbv:SlV (b4 :: bm :: X) wq bv [y0,y1,y2]:=hN.slvG (css:=[ndC y0 _,ndC y1 _,ndC y2 _]) gm.hX rfl rfl rfl (Zoo s0 s1 s2) (by simp [maxLen]);have hT:=Z6.stp hN;clear hN;replace gm:=gm.up hT;clear hT;refine D ?_;refine DC (Zs (b4 :: bm :: X) 9 [] bv [y0,y1,y2] _ gm.hX hbv) (fun _ _ h=>h.2.mn) ?_;rintro _ wq ⟨⟨ky,rfl,hy⟩,hT⟩;replace gm:=gm.up hT;clear hT hbv;refine D ?_;obtain ⟨cs,hcl,hcb⟩:=gm.blk;refine ZH rfl trivial (Z9 (us:=ndC (.mk 9 0 [] [y0,y1,y2]) _) rfl rfl rfl rfl (Zi (x:=(.mk 9 0 [] [y0,y1,y2])) hy) hcb hcl.symm) (fun _ _ h=>h.1.mn) ?_;rintro _ wz ⟨hz,hbz⟩;refine D ?_;refine W ?_;refine Zk rfl rfl rfl hbz rfl ?_;have hf:=gm.fin (y:=(.mk 9 0 [] [y0,y1,y2])) hS0 hb4 hy hz;exact .mk ⟨_,_,hf.1,.cond _ _ _ _ _ (by decide) g0 g1 g2,hf.2.1,by omega,hf.2.2⟩;obtain ⟨e,rfl⟩:∃ e,d=e+1:=⟨d - 1,by omega⟩
 replace ih:=ih e rfl;have hsp:=Z1h e;refine QO ?_;refine W ?_;refine CM (Zh rfl rfl) ((ih.2.2) (b4 :: bm :: X) _ bm lv l _ _ (by omega) gm.mkr gm.sl hl (by omega) gm.hX) ?_;rintro _ wq ⟨y0,i0,⟨k0,rfl,s0⟩,g0,hm,hi0,hS⟩;obtain ⟨p0,c0,rfl,-⟩:=id s0;replace gm:=gm.nxt hm hS;clear hm hS;refine Z1 Z2 rfl ?_;rintro _ wq ⟨b0',rfl,hb0',e0,hT⟩;refine SB (us:=ndC y0 _) (Zi s0) e0 ?_;rintro _ wq ⟨hT2,e0⟩;replace hT:=JL hT hb0' hT2;clear hT2;have n0:b0'≠bm:=fun h=>by have:=gm.mkr.lt;omega
 have n0':b0'≠b4:=fun h=>by obtain ⟨_,_,hc⟩:=gm.blk;have:=hc.lt;omega
 replace gm:=gm.up hT;replace s0:=s0.up hT;clear hT hb0';refine W ?_;refine Z1 (Z0 (vs:=[(0,str [100,97,121,115]),(1,str [100,97,121,115]),(2,str [99,111,117,114,116,100,97,121,115]),(3,str [119,101,101,107,115]),(4,str [109,111,110,116,104,115])]) rfl (bS5 _ _ _ _ _)) rfl ?_;rintro wv wq hN;have hws:SlV [b4,bm] wq wv Z4T:=hN.slv (fun c hc=>gm.hX c (by simp at hc;rcases hc with rfl|rfl<;>simp)) rfl rfl (by decide);have hT:=Z6.stp hN;clear hN;replace gm:=gm.up hT;replace s0:=s0.up hT;replace e0:=e0.up hT;clear hT;refine W ?_;refine CM (Zh rfl rfl) (Zw bm lv l _ 5 _ (by decide) (by omega) gm.mkr gm.sl hl) ?_;rintro _ wq ⟨q',rfl,hq',hm,hS⟩;replace gm:=gm.nxt hm hS;replace s0:=s0.ext hS (by simp) (fun _ h=>.inl h);replace e0:=e0.ext hS (by simp;exact n0);replace hws:=hws.ext hS (by simp) (fun _ h=>.inl h);clear hm hS;have hqn:q'<Z4T.length:=by show q'<5;omega
 have hu:=ZdB _ (Xd hqn);refine W ?_;clear hws;refine ZDr 13 ([b4,bm]) [] [(0,0),(4,0),(5,1),(6,0),(7,0),(8,0),(1,2),(2,0),(3,0),(9,2),(10,2),(11,2),(12,2)] (fun w1 hS1=>?_);have hT:=hS1;replace gm:=gm.up hT;replace s0:=s0.up hT;replace e0:=e0.up hT;clear hT hS1;refine D ?_;refine Zc rfl trivial (Zd rfl (Zh rfl rfl) (Zw bm lv l _ 4 _ (by decide) (by omega) gm.mkr gm.sl hl)) (fun _ _ h=>h.choose_spec.2.2.2.mn) rfl ?_;rintro _ wq ⟨q4,rfl,hq4,hm,hS⟩;replace gm:=gm.nxt hm hS;replace s0:=s0.ext hS (by simp) (fun _ h=>.inl h);replace e0:=e0.ext hS (by simp;exact n0);clear hm hS;refine D ?_;refine Zc rfl trivial (Zd rfl (Zh rfl rfl) ((ih.1) (b4 :: bm :: X) _ bm lv l _ _ (by omega) gm.mkr gm.sl hl (by omega) gm.hX)) (fun _ _ h=>by obtain ⟨_,_,_,_,_,_,h⟩:=h;exact h.mn) rfl ?_;rintro _ wq ⟨y1,i1,⟨k1,rfl,s1⟩,g1,hm,hi1,hS⟩;obtain ⟨p1,c1,rfl,-⟩:=id s1;replace gm:=gm.nxt hm hS;replace s0:=s0.ext hS (by simp) (fun _ h=>.inl h);replace e0:=e0.ext hS (by simp;exact n0);clear hm hS;refine D ?_;refine Zc rfl trivial (Z0 (vs:=[(0,.agg #[.I y0.kind,.I y0.num,str y0.word,.slice p0 y0.kids.length c0]),(1,.agg #[.I y1.kind,.I y1.num,str y1.word,.slice p1 y1.kids.length c1])]) rfl (Jo _ _ _ _ _ _ _ _ _ _ _ _)) (fun _ _ h=>(Z6.stp h).mn) rfl ?_;rintro bv wq hN;have hbv:SlV (b4 :: bm :: X) wq bv [y0,y1]:=hN.slvG (css:=[ndC y0 _,ndC y1 _]) gm.hX rfl rfl rfl (Z1m s0 s1) (by simp [maxLen]);have hT:=Z6.stp hN;clear hN;replace gm:=gm.up hT;clear hT;refine D ?_;refine DC (Zs (b4 :: bm :: X) (7+(q4:Int) / 3) Z4T[q'] bv [y0,y1] _ gm.hX hbv) (fun _ _ h=>h.2.mn) ?_;rintro _ wq ⟨⟨ky,rfl,hy⟩,hT⟩;replace gm:=gm.up hT;clear hT hbv;refine D ?_;obtain ⟨cs,hcl,hcb⟩:=gm.blk;refine ZH rfl trivial (Z9 (us:=ndC (.mk (7+(q4:Int) / 3) 0 Z4T[q'] [y0,y1]) _) rfl rfl rfl rfl (Zi (x:=(.mk (7+(q4:Int) / 3) 0 Z4T[q'] [y0,y1])) hy) hcb hcl.symm) (fun _ _ h=>h.1.mn) ?_;rintro _ wz ⟨hz,hbz⟩;refine D ?_;refine W ?_;refine Zk rfl rfl rfl hbz rfl ?_;have hf:=gm.fin (y:=(.mk (7+(q4:Int) / 3) 0 Z4T[q'] [y0,y1])) hS0 hb4 hy hz;exact .mk ⟨_,_,hf.1,.move _ _ _ _ _ (by omega) hu g0 g1,hf.2.1,by omega,hf.2.2⟩
end Go.Proofs.YtipfkbkkndacjaaGreatDoor
namespace Go.Eng
open Go Go.RowKit Go.Proofs
def PQ (n:Nat) (Q:Exit→Act→World→Prop):Exit→Act→World→Prop
 | .panic ch,a,w=>Has n [] a∧∀ a',Has n [] a'→Q (.panic ch) a' w
 | _,_,_=>False
theorem Has.put_back {n:Nat} {a:Act} {d:Option Nat} {v:Value} (h:Has n [] (a.put d v)):Has n [] a:=by
 cases d with
 | none=>exact h
 | some d=>exact ⟨h.defers,by simpa [Act.put] using h.size,fun t v hv=>by simp [look] at hv⟩
theorem ZdC {n:Nat} {Q:Exit→Act→World→Prop} (a:Act) (w):¬ PQ n Q .outgrown a w:=fun h=>h
theorem Zjf {n:Nat} {Q:Exit→Act→World→Prop} (ch:List PanicEntry) (a:Act) (d:Option Nat) (v:Value) (w) (h:PQ n Q (.panic ch) (a.put d v) w):PQ n Q (.panic ch) a w:=⟨h.1.put_back,h.2⟩
theorem Ztr {n:Nat} {Q:Exit→Act→World→Prop} (ex:Exit) (a:Act) (w) (h:PQ n Q ex a w):Q ex a w:=by
 cases ex<;>first|exact h.2 a h.1|exact h.elim
theorem Zts {P:Program} {o:Oper} {a:Act} {w} {K:Act→World→Prop} {X Q:Exit→Act→World→Prop} (hX0:∀ a w,¬ X .outgrown a w) (hX:∀ ex a w,X ex a w→Q ex a w) (h:o.wp P a w K X):o.wp P a w K Q:=by
 unfold Oper.wp at *;generalize (execOp a.eval o).run P w=r at *;cases r with
 | ok n w'=>
   cases n<;>simp only [Oper.upon] at h ⊢
   case enter f args=>
    refine Calls.mono h (fun e w'' he=>?_);cases e with
    | returned v=>exact he
    | panicked c=>exact hX _ _ _ he
    | outgrown=>obtain ⟨_,_,hf⟩:=he;exact (hX0 _ _ hf).elim
   all_goals exact h
 | halt x w'=>cases x<;>simp only [Oper.upon] at h ⊢;exact hX _ _ _ h
theorem Zjg {P:Program} {ops:Array Oper} {i:Nat} {K:Act→World→Prop} {X Q:Exit→Act→World→Prop} (hX0:∀ a w,¬ X .outgrown a w) (hX:∀ ex a w,X ex a w→Q ex a w) {a:Act} {w} (h:wpOp P ops X i K a w):wpOp P ops Q i K a w:=by
 unfold wpOp at *;cases ho:ops[i]? with
 | none=>simp only [ho] at h ⊢;exact h
 | some o=>
   simp only [ho] at h ⊢;split;rename_i hw;simp only [hw,if_true] at h;rcases h with h|⟨_,_,_,hf⟩
   exact .inl (Zts hX0 hX h);exact (hX0 _ _ hf).elim;rename_i hw;simp only [hw] at h;exact h
def Z1i (P:Program) (X:Exit→Act→World→Prop) (md:Region.Mode) (ops:Array Oper) (S:List Nat) (Lt:Nat→Bool) (Z:Act→World→Prop):Nat→Array Bool→Act→World→Prop
 | 0,listed,a,w=>Region.ready md ops listed=[]∧Z a w
 | fuel + 1, listed, a, w=>
   (Region.ready md ops listed=[]→Z a w)∧
   ∀ i∈Region.ready md ops listed,wpOp P ops X i (fun a' w'=>(Stp S w w'∨Lt i=true)∧Z1i P X md ops S Lt Z fuel (listed.setIfInBounds i true) a' w') a w
theorem Z6F {P:Program} {ops:Array Oper} {md:Region.Mode} {S:List Nat} {Lt:Nat→Bool} {X Q:Exit→Act→World→Prop} (hX0:∀ a w,¬ X .outgrown a w) (hX:∀ ex a w,X ex a w→Q ex a w) {Z:Act→World→Prop} (hZ:∀ a w,Z a w→Q .normal a w):∀ (fuel:Nat) (listed:Array Bool) (a:Act) (w),
 Z1i P X md ops S Lt Z fuel listed a w→wpAny P md ops Q fuel listed a w
 | 0,_,_,_,h=>⟨h.1,hZ _ _ h.2⟩
 | fuel+1,_,_,_,h=>⟨fun h0=>hZ _ _ (h.1 h0),fun i hi=>wpOp_mono (fun a' w' hk=>Z6F hX0 hX hZ fuel _ a' w' hk.2) (Zjg hX0 hX (h.2 i hi))⟩
section any
variable {P:Program} {ops:Array Oper} {md:Region.Mode} {S:List Nat} {Lt:Nat→Bool}
theorem ZbE {X:Exit→Act→World→Prop} (hX0:∀ a w,¬ X .outgrown a w) (hXp:∀ ch a d v w,X (.panic ch) (Act.put a d v) w→X (.panic ch) a w) {Z:Act→World→Prop} {R:World→World→Prop} (hR0:∀ w,R w w) (hRt:∀ a b c,R a b→R b c→R a c) {i:Nat} {oi:Oper} {v:Value} (hi:ops[i]?=some oi)
 (hRs:∀ j oj,ops[j]?=some oj→(∀ e∈oj.after,Region.binds md e=true→e.on≠i)→j≠i→∀ w w',(Stp S w w'∨Lt j=true)→R w w')
 (hsel:∀ (j:Nat) (o:Oper) cs b,ops[j]?=some o→o.op≠.select cs b) :
 ∀ (fuel : Nat) (listed : Array Bool) (a : Act) (w),
   (∀ j oj,ops[j]?=some oj→j≠i→listed.getD j true=false→(∀ e∈oj.after,Region.binds md e=true→e.on≠i)→oi.apart ops oj=true)→
   (Stp S w w∨Lt i=true→True)→i∈Region.ready md ops listed→YE P ops R oi v a w→
   Z1i P X md ops S Lt Z fuel (listed.setIfInBounds i true) (a.put oi.dst v) w→Z1i P X md ops S Lt Z (fuel+1) listed a w:=by
 have now:∀ (fuel:Nat) (listed:Array Bool) (a:Act) (w:World),YE P ops R oi v a w→Z1i P X md ops S Lt Z fuel (listed.setIfInBounds i true) (a.put oi.dst v) w→
  wpOp P ops X i (fun a' w'=>(Stp S w w'∨Lt i=true)∧Z1i P X md ops S Lt Z fuel (listed.setIfInBounds i true) a' w') a w:=by
  intro fuel listed a w hy H;unfold wpOp;simp only [hi];rcases hy with ⟨hw,hv⟩|⟨hw,rfl⟩
  simp only [hw,if_true,Oper.wp,hv w (hR0 w),Oper.upon];exact .inl ⟨.inl (Stp.refl _ _),H⟩;simp only [hw,XP,if_false];exact ⟨.inl (Stp.refl _ _),H⟩
 intro fuel
 induction fuel with
 | zero=>
   intro listed a w _ _ hr hy H;refine ⟨fun h=>(by rw [h] at hr;cases hr),fun j hj=>?_⟩;by_cases hji:j=i;subst hji;exact now _ _ _ _ hy H;have:=ready_mono hj hji;rw [H.1] at this;cases this
 | succ fuel ih=>
   intro listed a w hfree hx hr hy H;refine ⟨fun h=>(by rw [h] at hr;cases hr),fun j hj=>?_⟩;by_cases hji:j=i;subst hji;exact now _ _ _ _ hy H;have h1:=H.2 j (ready_mono hj hji);obtain ⟨hjun,oj,hoj,hall⟩:=mem_ready.1 hj;have hnot:∀ e∈oj.after,Region.binds md e=true→e.on≠i:=fun e he hb heq=>by
    have h1:=hall e he hb;have h0:=(mem_ready.1 hr).1;rw [heq] at h1;rcases Yas i listed.size with h'|h'
    simp [h'] at h0 h1;rw [h0] at h1;cases h1;simp [Yat h'] at h1
   have hap:=hfree j oj hoj hji hjun hnot;obtain ⟨p1,p2,p3⟩:=Oper.apart_spec hap;have keep:∀ (a:Act),YE P ops R oi v a w→∀ u,YE P ops R oi v (a.put oj.dst u) w:=fun a hy u=>
    hy.same (execOp_put oi (fun cs b=>hsel i oi cs b hi) a oj.dst u p3) (wanted_put oi a oj.dst u p3)
   have keepD:∀ (a:Act) d,YE P ops R oi v a w→YE P ops R oi v { a with defers:=d :: a.defers } w:=fun a d hy=>hy.same rfl rfl;have later:∀ (a:Act) w',(Stp S w w'∨Lt j=true)→YE P ops R oi v a w→YE P ops R oi v a w':=fun a w' hs hy=>by
    rcases hy with ⟨hw,hv⟩|hw
    exact .inl ⟨hw,fun w'' h''=>hv w'' (hRt _ _ _ (hRs j oj hoj hnot hji w w' hs) h'')⟩;exact .inr hw
   have hfree':∀ k ok,ops[k]?=some ok→k≠i→(listed.setIfInBounds j true).getD k true=false→
    (∀ e∈ok.after,Region.binds md e=true→e.on≠i)→oi.apart ops ok=true:=fun k ok hk hki hun hno=>by
    refine hfree k ok hk hki ?_ hno;by_cases hjk:j=k;subst hjk;exact hjun;rw [getD_set_ne true hjk] at hun;exact hun
   have fin:∀ a' w',YE P ops R oi v a' w→(Stp S w w'∨Lt j=true)∧Z1i P X md ops S Lt Z fuel ((listed.setIfInBounds i true).setIfInBounds j true) (a'.put oi.dst v) w'→
    (Stp S w w'∨Lt j=true)∧Z1i P X md ops S Lt Z (fuel+1) (listed.setIfInBounds j true) a' w':=by
    rintro a' w' hy' ⟨hs,hk⟩;refine ⟨hs,ih _ a' w' hfree' (fun _=>trivial) (ready_mono hr (Ne.symm hji)) (later a' w' hs hy') ?_⟩;rw [YaY _ _ hji];exact hk
   have hsj:∀ cs b,oj.op≠.select cs b:=fun cs b=>hsel j oj cs b hoj;unfold wpOp at *;simp only [hoj] at *;rw [wanted_put oj a oi.dst v p1] at h1;split
   · rename_i hw
     simp only [hw,if_true] at h1;rcases h1 with h1|⟨_,_,_,hf⟩
     case inr=>exact (hX0 _ _ hf).elim
     refine .inl ?_;unfold Oper.wp at *;rw [execOp_put oj hsj a oi.dst v p1] at h1;generalize (execOp a.eval oj).run P w=r at *;cases r with
     | ok n w'=>
       cases n<;>simp only [Oper.upon] at h1 ⊢
       case value u=>exact fin _ _ (keep a hy u) (by rw [← Act.put_comm a v u p2];exact h1)
       case skip=>exact fin _ _ (keep a hy _) (by rw [← Act.put_comm a v undef p2];exact h1)
       case defer d=>
        refine fin _ _ (keep _ (keepD a d hy) _) ?_;rw [← Act.put_comm _ v undef p2,← Act.put_defers];exact h1
       case enter f args=>
        refine Calls.mono h1 fun e w'' he=>?_;cases e with
        | returned u=>exact fin _ _ (keep a hy u) (by rw [← Act.put_comm a v u p2];exact he)
        | panicked c=>exact hXp _ _ _ _ _ he
        | outgrown=>obtain ⟨_,_,hf⟩:=he;exact (hX0 _ _ hf).elim
       case row row args=>exact Rows.mono h1 fun u w'' he=>fin _ _ (keep a hy u) (by rw [← Act.put_comm a v u p2];exact he)
     | halt x w'=>
       cases x<;>simp only [Oper.upon] at h1 ⊢;exact hXp _ _ _ _ _ h1
   rename_i hw;simp only [hw] at h1;exact fin _ _ (keep a hy _) (by rw [← Act.put_comm a v undef p2];exact h1)
end any
structure WDq (P:Program) (n:Nat) (ops:Array Oper) (S:List Nat) (Lt:List Nat) (Q:Exit→Act→World→Prop) (ord:List (Nat×Nat)) (e:Env) (w:World):Prop where
 h:∀ listed:Array Bool,Region.noSelect ops=true→J9 ops Lt ord listed=true→∀ a,Has n e a→Z1i P (PQ n Q) .any ops S (fun j=>Lt.contains j) (fun a w=>Q .normal a w) (wt ord) listed a w
section rules
variable {P:Program} {n:Nat} {Q:Exit→Act→World→Prop} {e:Env} {w:World} {ops:Array Oper} {S:List Nat} {Lt:List Nat} {rest:List (Nat×Nat)}
theorem Z95 {id:Nat} {l:List Oper} (m:Nat) (S:List Nat) (Lt:List Nat) (ord:List (Nat×Nat)) (hlm:l.length=m) (hm:P.follows .mixedOrders=true) (hs:Region.noSelect l.toArray=true) (hl:Nat.beq (wt ord) l.length=true)
 (hB:J9 l.toArray Lt ord (Array.replicate m false)=true)
 (h:∀ w',Stp [] w w'→WDq P n l.toArray S Lt Q ord e w'):WC P n (.region id l.toArray true) Q e w:=by
 subst hlm;refine ⟨fun a ha=>wp_region_any hm ?_⟩;have h1:=(h { w with drawn:=w.drawn+1 } (Stp.drew [] w)).h _ hs hB a ha;have h2:=Z6F (X:=PQ n Q) (Q:=Q) ZdC Ztr (fun a w hz=>hz) _ _ _ _ h1;rw [XK hl] at h2;simpa using h2
theorem ZfG {i d:Nat} {o:Oper} {v:Value} (hi:ops[i]?=some o) (hd:o.dst=some d) (hY:∀ a,Has n e a→YE P ops (fun _ _=>True) o v a w) (hdn:Nat.blt d n=true)
 (k:WDq P n ops S Lt Q rest ((d,v) :: e) w):WDq P n ops S Lt Q ((i,0) :: rest) e w:=by
 refine ⟨fun listed hs hB a ha=>?_⟩;simp only [J9,ZV,Xm] at hB;obtain ⟨⟨h1,h2⟩,h3⟩:=hB;have hk:=k.h _ hs h3 _ (ha.put (v:=v) hdn);rw [← hd] at hk;rw [JW (by decide)];exact ZbE ZdC Zjf (R:=fun _ _=>True) (fun _=>trivial) (fun _ _ _ _ _=>trivial) hi (fun _ _ _ _ _ _ _ _=>trivial) (Region.noSelect_spec hs) _ _ _ _ (Region.free_spec hi h2) (fun _=>trivial) (by simpa using h1) (hY a ha) hk
theorem ZfH {i d:Nat} {o:Oper} {v:Value} (hi:ops[i]?=some o) (hd:o.dst=some d) (hY:∀ a,Has n e a→YE P ops (Stp S) o v a w) (hdn:Nat.blt d n=true)
 (k:WDq P n ops S Lt Q rest ((d,v) :: e) w):WDq P n ops S Lt Q ((i,1) :: rest) e w:=by
 refine ⟨fun listed hs hB a ha=>?_⟩;simp only [J9,ZV,Xm] at hB;obtain ⟨⟨⟨h1,h2⟩,hb⟩,h3⟩:=hB;have hk:=k.h _ hs h3 _ (ha.put (v:=v) hdn);rw [← hd] at hk;rw [JW (by decide)];refine ZbE ZdC Zjf (R:=Stp S) (fun w=>Stp.refl _ w) (fun _ _ _ h k=>h.trans k) hi (fun j oj hj hn hji w w' hs=>?_) (Region.noSelect_spec hs) _ _ _ _ (Region.free_spec hi h2) (fun _=>trivial) (by simpa using h1) (hY a ha) hk;rcases hs with hs|hs
 exact hs;rw [Z4O hb hj hn hji] at hs;cases hs
variable {i d:Nat} {op:Op} {ty:TypeId} {pos:String} {af:Array Edge} {gd:Option (Nat×Bool)} {v:Value}
theorem JH (hi:ops[i]?=some ⟨some d,op,ty,pos,af,gd⟩) (hg:Zz ops e gd) (hp:∀ w',PR P n ⟨some d,op,ty,pos,af,gd⟩ e w' v) (hdn:Nat.blt d n=true)
 (k:WDq P n ops S Lt Q rest ((d,v) :: e) w):WDq P n ops S Lt Q ((i,0) :: rest) e w:=
 ZfG hi rfl (fun a ha=>.inl ⟨Jt ha hg,fun w' _=>(hp w').h a ha⟩) hdn k
theorem Z5e (hi:ops[i]?=some ⟨some d,op,ty,pos,af,gd⟩) (hg:Zz ops e gd) (hp:∀ w',Stp S w w'→PR P n ⟨some d,op,ty,pos,af,gd⟩ e w' v) (hdn:Nat.blt d n=true)
 (k:WDq P n ops S Lt Q rest ((d,v) :: e) w):WDq P n ops S Lt Q ((i,1) :: rest) e w:=
 ZfH hi rfl (fun a ha=>.inl ⟨Jt ha hg,fun w' hw=>(hp w' hw).h a ha⟩) hdn k
structure ZxN (P:Program) (n:Nat) (ops:Array Oper) (S:List Nat) (Lt:List Nat) (Q:Exit→Act→World→Prop) (i:Nat) (ord:List (Nat×Nat)) (e:Env) (w:World):Prop where
 h : ∀ listed : Array Bool, Region.noSelect ops = true → J9 ops Lt ord (listed.setIfInBounds i true) = true → ∀ a, Has n e a→
   wpOp P ops (PQ n Q) i (fun a' w'=>(Stp S w w'∨Lt.contains i=true)∧Z1i P (PQ n Q) .any ops S (fun j=>Lt.contains j) (fun a w=>Q .normal a w) (wt ord) (listed.setIfInBounds i true) a' w') a w
theorem ZeE (h:ZxN P n ops S Lt Q i rest e w):WDq P n ops S Lt Q ((i,2) :: rest) e w:=by
 refine ⟨fun listed hs hB a ha=>?_⟩;simp only [J9,ZV] at hB;rw [if_neg (by simp)] at hB;simp only [Xm,beq_iff_eq] at hB;obtain ⟨h1,h3⟩:=hB;rw [JW (by decide)];refine ⟨fun h0=>absurd (h1 ▸ h0) (by simp),fun j hj=>?_⟩;rw [h1] at hj;obtain rfl:j=i:=by simpa using hj
 exact h.h _ hs h3 a ha
end rules
structure OEP (P:Program) (n:Nat) (o:Oper) (e:Env) (w:World) (G:Value→World→Prop) (F:List PanicEntry→World→Prop):Prop where
 h:∀ a,Has n e a→∀ Q:Exit→Act→World→Prop,(∀ ch w',F ch w'→Q (.panic ch) a w')→o.wp P a w (fun a' w'=>∃ v,a'=a.put o.dst v∧G v w') Q
inductive ZmL (G:Value→World→Prop) (F:List PanicEntry→World→Prop):Ending→World→Prop
 | ret {v:Value} {w:World}:G v w→ZmL G F (.returned v) w
 | pan {ch:List PanicEntry} {w:World}:F ch w→ZmL G F (.panicked ch) w
section
variable {P:Program} {n:Nat} {Q:Exit→Act→World→Prop} {e:Env} {w:World} {ops:Array Oper} {S:List Nat} {Lt:List Nat} {rest:List (Nat×Nat)}
theorem Zjh {i d:Nat} {op:Op} {ty:TypeId} {pos:String} {af:Array Edge} {gd:Option (Nat×Bool)} {G:Value→World→Prop} {F:List PanicEntry→World→Prop} (hi:ops[i]?=some ⟨some d,op,ty,pos,af,gd⟩) (hg:Zz ops e gd)
 (hp:OEP P n ⟨some d,op,ty,pos,af,gd⟩ e w G F) (hG:∀ v w',G v w'→Stp S w w') (hdn:Nat.blt d n=true) (hF:∀ ch w',F ch w'→WQ n Q (.panic ch) [] w')
 (k:∀ v w',G v w'→WDq P n ops S Lt Q rest ((d,v) :: e) w'):WDq P n ops S Lt Q ((i,2) :: rest) e w:=by
 refine ZeE ⟨fun listed hs h3 a ha=>?_⟩;unfold wpOp;simp only [hi];rw [if_pos (Jt (o:=⟨some d,op,ty,pos,af,gd⟩) ha hg)];have h0:Has n [] a:=⟨ha.defers,ha.size,fun t v hv=>by simp [look] at hv⟩
 refine .inl (Oper.wp_mono ?_ (hp.h a ha (PQ n Q) (fun ch w' h=>⟨h0,fun a' ha'=>(hF ch w' h).h a' ha'⟩)));rintro a' w' ⟨v,rfl,hG'⟩;exact ⟨.inl (hG v w' hG'),(k v w' hG').h _ hs h3 _ (ha.put hdn)⟩
end
section
variable {P:Program} {n:Nat} {Q:Exit→Act→World→Prop} {e:Env} {w:World} {ops:Array Oper} {rest:List Oper} {d:Option Nat} {ty:TypeId} {pos:String} {af:Array Edge} {g:Option (Nat×Bool)}
theorem Z7C {f:Nat} {fn:Func} {xs:Array Operand} {ts:Array TypeId} {vs:Array Value} {G:Value→World→Prop} {F:List PanicEntry→World→Prop} {c:Operand} [hf:Fun P f fn] (hc:ev e c=some (.func (.func f) #[] #[]))
 (hv:∀ a,Has n e a→xs.map a.eval=vs) (h:Calls P f vs w (ZmL G F)) :
 OEP P n ⟨d,.call { callee:=.value c,args:=xs,argTypes:=ts },ty,pos,af,g⟩ e w G F:=
 ⟨fun a ha Q hQ => by
   have he:(execOp a.eval ⟨d,.call { callee:=.value c,args:=xs,argTypes:=ts },ty,pos,af,g⟩).run P w=.ok (.enter f vs) w:=by
    simp only [execOp,resolve,ha.ev hc,Deferred.ofValue,hv a ha];simp [invoke];exact hf.enters vs w
   unfold Oper.wp;rw [he];simp only [Oper.upon];refine h.mono ?_;intro r w' hr;cases hr with
   | ret hg=>exact ⟨_,rfl,hg⟩
   | pan hp=>exact hQ _ _ hp⟩
theorem ZfI {f:Nat} {fn:Func} {xs:Array Operand} {ts:Array TypeId} {vs bd cap us:Array Value} {G:Value→World→Prop} {F:List PanicEntry→World→Prop} {c:Operand} [hf:Fun P f fn] (hc:ev e c=some (.func (.func f) bd cap))
 (hv:∀ a,Has n e a→xs.map a.eval=vs) (hu:bd++vs++cap=us) (h:Calls P f us w (ZmL G F)) :
 OEP P n ⟨d,.call { callee:=.value c,args:=xs,argTypes:=ts },ty,pos,af,g⟩ e w G F:=
 ⟨fun a ha Q hQ => by
   have he:(execOp a.eval ⟨d,.call { callee:=.value c,args:=xs,argTypes:=ts },ty,pos,af,g⟩).run P w=.ok (.enter f us) w:=by
    simp only [execOp,resolve,ha.ev hc,Deferred.ofValue,hv a ha];simp [invoke];rw [← Array.append_assoc,hu];exact hf.enters us w
   unfold Oper.wp;rw [he];simp only [Oper.upon];refine h.mono ?_;intro r w' hr;cases hr with
   | ret hg=>exact ⟨_,rfl,hg⟩
   | pan hp=>exact hQ _ _ hp⟩
theorem Zan {d:Nat} {op:Op} {G:Value→World→Prop} {F:List PanicEntry→World→Prop} (hp:OEP P n ⟨some d,op,ty,pos,af,none⟩ e w G F) (hd:Nat.blt d n=true) (hF:∀ ch w',F ch w'→WQ n Q (.panic ch) e w')
 (k:∀ v w',G v w'→WL P n ops Q rest ((d,v) :: e) w'):WL P n ops Q (⟨some d,op,ty,pos,af,none⟩ :: rest) e w:=by
 refine ⟨fun a ha=>?_⟩;refine wpList_plain rfl (fun K hK=>?_);refine Oper.wp_mono ?_ (hp.h a ha Q (fun ch w' h=>(hF ch w' h).h a ha));rintro a' w' ⟨v,rfl,hg⟩;exact hK _ _ ((k v w' hg).h _ (ha.put hd))
theorem Zj {N:Act→World→Prop} {ch:List PanicEntry} (h:WQ n Q (.panic ch) e w):WQ n (Exit.then N Q) (.panic ch) e w:=⟨fun a ha=>h.h a ha⟩
theorem Zg {i:Nat} {ch:List PanicEntry} (h:WQ n Q (.panic ch) e w):WQ n (Exit.inBlock i Q) (.panic ch) e w:=⟨fun a ha=>h.h a ha⟩
theorem Z96 {x:Exit} (h:WQ n Q x [] w):WQ n Q x e w:=⟨fun a ha=>h.h a ⟨ha.defers,ha.size,fun t v hv=>by simp [look] at hv⟩⟩
theorem ZJ {fn:Func} {R:Ending→World→Prop} {ch:List PanicEntry} (h:R (.panicked ch) w):WQ n (bodyPost P fn R) (.panic ch) e w:=⟨fun a ha=>⟨ha.defers,h⟩⟩
end
theorem Z5Y {P:Program} {n:Nat} {e:Env} {w} {d:Option Nat} {ty:TypeId} {pos:String} {af:Array Edge} {g:Option (Nat×Bool)} {t:TypeId} {x:Operand} {v:Value} {fs:Array Field} [hu:Und P t (.struct fs)] (hx:ev e x=some v):PR P n ⟨d,.makeInterface t x,ty,pos,af,g⟩ e w (.iface t v):=
 ⟨fun a ha=>by simp [execOp,ha.ev hx,Instr.makeInterface,run_underlying hu.h]⟩
theorem ZfJ {P:Program} {n:Nat} {e:Env} {w} {d:Option Nat} {ty:TypeId} {pos:String} {af:Array Edge} {g:Option (Nat×Bool)} {x:Operand} {t:TypeId} {v:Value} (hx:ev e x=some (.iface t v)):∀ a,Has n e a→(execOp a.eval ⟨d,.panic x,ty,pos,af,g⟩).run P w=.halt (.panic (.iface t v)) w:=
 fun a ha=>by simp [execOp,ha.ev hx,Instr.panic]
theorem ZfK {P:Program} {n:Nat} {Q:Exit→Act→World→Prop} {e:Env} {w} {ops:Array Oper} {S:List Nat} {Lt:List Nat} {rest:List (Nat×Nat)} {i:Nat} {o:Oper} {v:Value} (hi:ops[i]?=some o) (hg:Zz ops e o.guard)
 (hp:∀ a,Has n e a→(execOp a.eval o).run P w=.halt (.panic v) w) (h:WQ n Q (.panic [{ v,recovered:=false }]) [] w):WDq P n ops S Lt Q ((i,2) :: rest) e w:=by
 refine ZeE ⟨fun listed hs h3 a ha=>?_⟩;unfold wpOp;simp only [hi];rw [if_pos (Jt ha hg)];refine .inl ?_;unfold Oper.wp;rw [hp a ha];have h0:Has n [] a:=⟨ha.defers,ha.size,fun t v hv=>by simp [look] at hv⟩
 exact ⟨h0,fun a' ha'=>h.h a' ha'⟩
structure Tkn where
 kind:Int
 pos:Int
 text:Str
 num:Int
 deriving DecidableEq
instance:Inhabited Tkn:=⟨⟨0,0,[],0⟩⟩
instance:Z3 Tkn where
 k:=4
 enc:=fun t=>[.I t.kind,.I t.pos,str t.text,.I t.num]
 len:=fun _=>rfl
 one:=by intro x u hu;simp at hu;rcases hu with rfl|rfl|rfl|rfl<;>rfl
def cur (l:List Tkn) (i:Nat):Tkn:=l.getD i default
inductive Out (α:Type) where
 | err (a c:Int)
 | ok (x:α) (i o:Nat)
def Out.bind {α β:Type}:Out α→(α→Nat→Nat→Out β)→Out β
 | .err a c,_=>.err a c
 | .ok x i o,k=>k x i o
def Z1c {α:Type} (l:List Tkn) (i:Nat) (c:Int):Out α:=.err (cur l i).pos c
def Z0K (l:List Tkn) (s:Str) (i o:Nat):Out Unit:=if (cur l i).text=s then .ok () (i+1) o else Z1c l i 20
def Z2V (l:List Tkn) (k:Int) (i o:Nat):Out Tkn:=if (cur l i).kind=k then .ok (cur l i) (i+1) o else Z1c l i 20
def Z5Z (l:List Tkn) (s:Str) (i o:Nat):Out Unit:=if (cur l i).text=s then (if o=12 then Z1c l i 2 else .ok () (i+1) (o+1)) else Z1c l i 20
def Z5f (l:List Tkn) (s:Str) (i o:Nat):Out Unit:=(Z0K l s i o).bind fun _ i o=>.ok () i (o - 1)
def Z2W:List Str:=[[100,97,121],[115,101,114,118,101,100],[101,120,116,114,97],[98,121],[116,111],[99,111,117,114,116],[97,109,111,117,110,116]]
def Z4B:List Str:=[[100,97,121,115],[119,101,101,107,115],[109,111,110,116,104,115],[99,111,117,114,116,100,97,121,115]]
def Z4C:List Str:=[[110,101,120,116],[112,114,101,118],[108,97,116,101,114],[101,97,114,108,105,101,114],[98,101,116,119,101,101,110]]
def ZeF:List Str:=[[114,117,108,101],[102,114,111,109],[111,110],[105,102],[100,117,101],[117,110,108,101,115,115],[101,108,115,101],[116,114,117,101],[102,97,108,115,101],[110,111,116],[97,110,100],[111,114],[116,104,101,110],[101,110,100]]
def Z2e (l:List Tkn) (i o:Nat):Out Str:=if (cur l i).text∈ZeF++Z4B++Z2W++Z4C then Z1c l i 20 else (Z2V l 1 i o).bind fun t i o=>.ok t.text i o
def Z60 (s:Str):Nat:=
 if s=[111,114] then 1 else if s=[97,110,100] then 2 else if s=[60]∨s=[60,61]∨s=[61]∨s=[33,61]∨s=[62]∨s=[62,61] then 4
 else if s=[43]∨s=[45] then 5 else if s=[42] then 6 else 0
def ZwK (s:Str):Nat:=if s=[110,101,120,116]∨s=[112,114,101,118] then 1 else 2
def Z3h (m:Nat→Nat→Option (Out Nd)) (sep:Nat→Nat→Nat→Out Unit):Nat→Nat→List Nd→Nat→Nat→Option (Out (List Nd))
 | 0,_,ks,i,o=>some (.ok ks i o)
 | n + 1, k, ks, i, o=>
   match sep k i o with
   | .err a c=>some (.err a c)
   | .ok _ i o=>
     match m i o with
     | none=>none
     | some (.err a c)=>some (.err a c)
     | some (.ok x i o)=>Z3h m sep n (k+1) (ks++[x]) i o
def ZdD (l:List Tkn) (k i o:Nat):Out Unit:=if 0<k then Z0K l [44] i o else .ok () i o
def Zop (l:List Tkn) (k i o:Nat):Out Unit:=Z0K l (if k=0 then [116,104,101,110] else [101,108,115,101]) i o
inductive Call where
 | expr (level:Nat)
 | loop (level:Nat) (x:Nd)
 | prim
def J8 (l:List Tkn):Nat→Call→Nat→Nat→Option (Out Nd)
 | 0,_,_,_=>none
 | f + 1, .expr k, i, o=>
   if (k=3∧(cur l i).text=[110,111,116])∨(k=7∧(cur l i).text=[45]) then
    match Z5Z l (cur l i).text i o with
    | .err a c=>some (.err a c)
    | .ok _ i' o'=>
      match J8 l f (.expr k) i' o' with
      | none=>none
      | some (.err a c)=>some (.err a c)
      | some (.ok x i'' o'')=>some (.ok (.mk 5 0 (cur l i).text [x]) i'' (o'' - 1))
   else if k=8 then J8 l f .prim i o
   else
    match J8 l f (.expr (k+1)) i o with
    | none=>none
    | some (.err a c)=>some (.err a c)
    | some (.ok x i' o')=>J8 l f (.loop k x) i' o'
 | f + 1, .loop k x, i, o=>
   if Z60 (cur l i).text=k then
    match J8 l f (.expr (k+1)) (i+1) o with
    | none=>none
    | some (.err a c)=>some (.err a c)
    | some (.ok y i' o')=>
      if k=5∧(cur l i').text∈Z4B then J8 l f (.loop k (.mk (if (cur l i).text=[45] then 8 else 7) 0 (cur l i').text [x,y])) (i'+1) o'
      else if k=4 then some (.ok (.mk 6 0 (cur l i).text [x,y]) i' o')
      else J8 l f (.loop k (.mk 6 0 (cur l i).text [x,y])) i' o'
   else some (.ok x i o)
 | f + 1, .prim, i, o=>
   let t:=cur l i
   if t.kind=2 then some (.ok (.mk 1 t.num [] []) (i+1) o)
   else if t.kind=3 then some (.ok (.mk 3 t.num [] []) (i+1) o)
   else if t.text=[116,114,117,101] then some (.ok (.mk 2 1 [] []) (i+1) o)
   else if t.text=[102,97,108,115,101] then some (.ok (.mk 2 0 [] []) (i+1) o)
   else if t.text=[40] then
    match Z5Z l [40] i o with
    | .err a c=>some (.err a c)
    | .ok _ i' o'=>
      match J8 l f (.expr 1) i' o' with
      | none=>none
      | some (.err a c)=>some (.err a c)
      | some (.ok x i'' o'')=>
        match Z5f l [41] i'' o'' with
        | .err a c=>some (.err a c)
        | .ok _ i3 o3=>some (.ok x i3 o3)
   else if t.text=[105,102] then
    match Z5Z l [105,102] i o with
    | .err a c=>some (.err a c)
    | .ok _ i' o'=>
      match J8 l f (.expr 1) i' o' with
      | none=>none
      | some (.err a c)=>some (.err a c)
      | some (.ok x i'' o'')=>
        match Z3h (J8 l f (.expr 1)) (Zop l) 2 0 [x] i'' o'' with
        | none=>none
        | some (.err a c)=>some (.err a c)
        | some (.ok ks i3 o3)=>
          match Z5f l [101,110,100] i3 o3 with
          | .err a c=>some (.err a c)
          | .ok _ i4 o4=>some (.ok (.mk 9 0 [] ks) i4 o4)
   else if t.text∈Z4C then
    match Z2V l 1 i o with
    | .err a c=>some (.err a c)
    | .ok _ i1 o1=>
      match Z5Z l [40] i1 o1 with
      | .err a c=>some (.err a c)
      | .ok _ i' o'=>
        match Z3h (J8 l f (.expr 1)) (ZdD l) (ZwK t.text) 0 [] i' o' with
        | none=>none
        | some (.err a c)=>some (.err a c)
        | some (.ok ks i3 o3)=>
          match Z5f l [41] i3 o3 with
          | .err a c=>some (.err a c)
          | .ok _ i4 o4=>some (.ok (.mk 10 0 t.text ks) i4 o4)
   else if t.text∈Z2W then some (.ok (.mk 4 0 t.text []) (i+1) o)
   else some (Z1c l i 20)
structure RuleM where
 name:Str
 frm:Int
 on:Str
 cond:Nd
 due:Nd
 unl:Str
 els:Str
def Z1y {α:Type} (l:List Tkn) (w:Str) (z:α) (rd:Nat→Nat→Out α) (i o:Nat):Out α:=
 if (cur l i).text=w then (rd (i+1) o).bind fun x i o=>(Z0K l [59] i o).bind fun _ i o=>.ok x i o else .ok z i o
def ZbF (l:List Tkn) (i:Nat):Nat:=20 * (l.length - i)+20
def Z1S (l:List Tkn) (i o:Nat):Out Nd:=(J8 l (ZbF l i) (.expr 1) i o).getD (.err 0 0)
def JQ:Nd:=.mk 0 0 [] []
def Z97 (l:List Tkn) (i o:Nat):Out RuleM:=
 (Z0K l [114,117,108,101] i o).bind fun _ i o=>(Z2e l i o).bind fun nm i o=>(Z0K l [102,114,111,109] i o).bind fun _ i o=>(Z2V l 3 i o).bind fun t i o=>(Z0K l [123] i o).bind fun _ i o=>
 if (cur l i).text=[111,110] then
  (Z1y l [111,110] [] (Z2e l) i o).bind fun on i o=>(Z1y l [105,102] JQ (Z1S l) i o).bind fun cd i o=>
  if (cur l i).text=[100,117,101] then
   (Z1y l [100,117,101] JQ (Z1S l) i o).bind fun due i o=>(Z1y l [117,110,108,101,115,115] [] (Z2e l) i o).bind fun un i o=>(Z1y l [101,108,115,101] [] (Z2e l) i o).bind fun el i o=>(Z0K l [125] i o).bind fun _ i o=>
   .ok ⟨nm,t.num,on,if cd.kind=0 then .mk 2 1 [] [] else cd,due,un,el⟩ i o
  else Z1c l i 20
 else Z1c l i 20
def Z2s (l:List Tkn):Nat→List RuleM→Nat→Nat→Out (List RuleM)
 | 0,rs,i,o=>.ok rs i o
 | f+1,rs,i,o=>if (cur l i).kind=0 then .ok rs i o else (Z97 l i o).bind fun r i o=>Z2s l f (rs++[r]) i o
def Z8F:List Str:=[[110,111,116],[45],[116,114,117,101],[102,97,108,115,101],[40],[105,102]]++Z4C
structure Z3E (l:List Tkn):Prop where
 pos:0<l.length
 last:(cur l (l.length - 1)).kind=0∧(cur l (l.length - 1)).text=[]
 body:∀ i,i+1<l.length→(cur l i).kind≠0∧(cur l i).text≠[]
 len:l.length≤4001
 sp:∀ i,∀ c∈(cur l i).text,c≠32
 tl:∀ i,(cur l i).text.length≤4000
 plain:∀ i,(cur l i).text∉Z8F
theorem Z3E.end_of {l:List Tkn} (h:Z3E l) {i:Nat} (hi:i<l.length) (ht:(cur l i).text≠[]):i+1<l.length:=by
 by_cases hl:i+1<l.length;exact hl;exfalso;obtain rfl:i=l.length - 1:=by omega
 exact ht h.last.2
theorem Z3E.end_of_kind {l:List Tkn} (h:Z3E l) {i:Nat} (hi:i<l.length) (ht:(cur l i).kind≠0):i+1<l.length:=by
 by_cases hl:i+1<l.length;exact hl;exfalso;obtain rfl:i=l.length - 1:=by omega
 exact ht h.last.1
end Go.Eng
