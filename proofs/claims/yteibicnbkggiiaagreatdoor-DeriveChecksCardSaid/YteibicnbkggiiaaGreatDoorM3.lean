/-
Contracts and plain laws, merged out of own texts.
-/
import Derived.Test.YteibicnbkggiiaaGreatDoorM2
import Derived.Test.YteibicnbkggiiaaGreatDoorRows
import Derived.Test.YteibicnbkggiiaaGreatDoorTie
import Derived.Test.YteibicnbkggiiaaGreatDoorCards
set_option linter.unusedVariables false
set_option linter.unusedSimpArgs false
set_option maxHeartbeats 4000000
set_option maxRecDepth 20000
namespace Go.Proofs.YteibicnbkggiiaaGreatDoor
open Go Go.Eng Go.RowKit
abbrev ZdI (c:Int):Prop:=(97<=c/\c<=122)\/(48<=c/\c<=57)
def Z25 (s:Str):Bool:=decide (0<s.length/\s.length<=12/\97<=ZU s 0/\ZU s 0<=122/\∀ i,i<s.length->ZdI (ZU s i))
def Zh (s:Str):Bool:=Z25 s && decide (s∉Z6E/\s∉Zb)
theorem Z6F (a b:Str) (m:Int) (w:World) (ha:a.length<4294967281) (hm:w.cell? ⟨2,0,none⟩=some (.I m)) :
 CC 213 #[str a,str b] w λr w'=>r=.B (Lib.contains a b)/\Stp [] w w':=by
 refine (Tryz.strings_Contains ⟨a.toArray⟩ ⟨b.toArray⟩ m w (by rw [Jb];exact ha) hm).mono ?_;rintro e w' ⟨rfl,rfl⟩;exact .mk ⟨rfl,Stp.refl _ _⟩
theorem Z7D {l:List Str} {s:Str}:0<=idx (isS s) l↔s∈l:=by
 unfold idx;cases h:l.findIdx? (isS s) with
 | none=>
   rw [X9] at h;simp only;constructor;intro h1;omega;intro h1;have:=h s h1;simp [isS] at this
 | some i=>
   obtain ⟨hi,hp,_⟩:=X3.1 h;simp only;constructor;intro _;have:l[i]=s:=by simpa [isS] using hp
   rw [<- this];exact Xb hi;intro _;omega
theorem Z5B (X:List Nat) (v:Value) (l:List Str) (a:Str) (w) (hs:SlV X w v l) :
 CC 214 #[v,str a] w λr w'=>r=.B (decide (a∈l))/\Stp [] w w':=by
 refine cW2 9 Tryz.func214 ?_;refine W ?_;refine CL (Z5T X v l a _ hs) ?_;rintro _ w1 ⟨rfl,hS⟩;refine RT ?_;exact ⟨by congr 1;exact decide_eq_decide.2 Z7D,hS⟩
theorem Z1o (s:Str) (m:Int) (w) (hF:SlV [] w Z1R Zb) (hm:w.cell? ⟨2,0,none⟩=some (.I m)) :
 CC 156 #[str s] w λr w'=>r=.B (Zh s)/\Stp [] w w':=by
 refine cW1 55 Tryz.func156 ?_;refine W ?_;by_cases h0:s.length≠0/\s.length<=12/\97<=ZU s 0/\ZU s 0<=122
 case neg=>
  have hn:Zh s=false:=by
   unfold Zh Z25;rw [decide_eq_false (λh=>h0 ⟨by omega,h.2.1,h.2.2.1,h.2.2.2.1⟩)];rfl
  by_cases hl:s.length≠0;focus repeat'(first|refine W1 ?_|omega|refine VG ?_ ?_<;>intro hg|refine VC ?_ ?_<;>intro hc)
  refine RU ?_;exact ⟨by rw [hn],Stp.refl _ _⟩;refine RU ?_;exact ⟨by rw [hn],Stp.refl _ _⟩;refine JB (i:=0) rfl rfl rfl (by omega) rfl ?_
  (refine QP ?_ ?_<;>intro hg)
  refine RU ?_;exact ⟨by rw [hn],Stp.refl _ _⟩;refine JB (i:=0) rfl rfl rfl (by omega) rfl ?_;refine RT ?_;exact ⟨by rw [hn],Stp.refl _ _⟩;obtain rfl:s=[]:=X7.1 (by omega);refine RT ?_;exact ⟨by rw [hn],Stp.refl _ _⟩
 obtain ⟨h1,h2,h3,h4⟩:=h0;have aZ:¬ s=[]:=λh=>by rw [h] at h1;exact h1 rfl
 (refine QP ?_ ?_<;>intro hg)
 exact absurd (by assumption) aZ;refine JB (i:=0) rfl rfl rfl (by omega) rfl ?_;refine QO ?_;refine JB (i:=0) rfl rfl rfl (by omega) rfl ?_;refine QO ?_;refine Z1 (ZdF rfl (by omega)) rfl ?_;rintro bv w1 ⟨hb,hS⟩;replace hb:=hb [] (by simp);have dz:=hb.max;refine QO ?_;refine LP (σ:=Nat) (λi=>[(0,str s),(23,bv),(24,.I (s.length:Int)),(25,.I (i:Int))]) (λi w'=>i<=s.length/\Stp [] w1 w'/\∀ j,j<i->ZdI (ZU s j)) (λi=>s.length - i) 0 ⟨Xo _,Stp.refl _ _,λj hj=>absurd hj (Xs _)⟩ ?_;rintro i w2 ⟨hi,ak,ar⟩
 try dsimp only at hi ar ⊢
 replace hb:=hb.up ak;replace hS:=hS.trans ak;by_cases hlt:i<s.length;have kz:ZU s i=(s[i].toNat:Int):=Go.Eng.byte_at hlt;by_cases cV:(97<=(s[i].toNat:Int)/\(s[i].toNat:Int)<=122)\/(48<=(s[i].toNat:Int)/\(s[i].toNat:Int)<=57)
 . have eI:∀ j,j<i+1->ZdI (ZU s j):=λj hj=>by
    by_cases e:j=i;subst e;rw [kz];exact cV;exact ar j (by omega)
   repeat'(first|refine W1 ?_|omega|refine VG ?_ ?_<;>intro hg|refine VC ?_ ?_<;>intro hc)
   all_goals exact QL (i+1) ⟨hlt,ak,eI⟩ (Xp hlt (Xr i))
 . have hn:Zh s=false:=by
    unfold Zh Z25;rw [decide_eq_false (λh=>cV (by have:=h.2.2.2.2 i hlt;rw [kz] at this;exact this))];rfl
   repeat'(first|refine W1 ?_|omega|refine VG ?_ ?_<;>intro hg|refine VC ?_ ?_<;>intro hc)
   all_goals
    refine RU ?_;exact ⟨by rw [hn],hS⟩
 obtain rfl:i=s.length:=by omega
 have aF:Z25 s=true:=decide_eq_true ⟨by omega,h2,h3,h4,ar⟩;have cF:∀ c∈s,c≠32:=λc hc h=>by
  obtain ⟨j,hj,rfl⟩:=Xv hc;have h5:=ar j hj;rw [Go.Eng.byte_at hj,h] at h5;exact absurd h5 (by decide)
 have lx:Z4h.length<4294967281:=by
  have:Z4h.length<=200:=by decide +kernel
  omega
 have cq:Lib.contains Z4h ([32]++s++[32])=decide (s∈Z6E):=Zgn aZ cF;refine QO ?_;refine Z4p rfl rfl (by simp;omega) rfl ?_;repeat'(first|refine W1 ?_|omega|refine VG ?_ ?_<;>intro hg|refine VC ?_ ?_<;>intro hc)
 refine Z4p rfl rfl (by simp;omega) rfl ?_;repeat'(first|refine W1 ?_|omega|refine VG ?_ ?_<;>intro hg|refine VC ?_ ?_<;>intro hc)
 refine CM (Zj rfl rfl) (Z6F Z4h ([32]++s++[32]) m _ lx (hS.cell (by simp) hm)) ?_;rintro _ w3 ⟨rfl,aq⟩;rw [cq];replace hS:=hS.trans aq;by_cases hr:s∈Z6E;have hn:Zh s=false:=by
  unfold Zh;rw [decide_eq_false (λh=>h.1 hr),Ybr]
 rw [decide_eq_true hr];refine RT ?_;exact ⟨by rw [hn],hS⟩;rw [decide_eq_false hr];refine QO ?_;refine ZaT rfl rfl ?_;refine W ?_;refine CL (Z5B [] _ Zb s _ (hF.up hS)) ?_;rintro _ w4 ⟨rfl,aA⟩;refine QO ?_;refine WR ?_;refine .mk ⟨?_,hS.trans aA⟩;unfold Zh;rw [aF];by_cases hf:s∈Zb<;>simp [hr,hf]
open Go Go.Eng Go.RowKit Go.Proofs
theorem Zap (n:Int) (w) (h0:0<=n) (h1:n<=3652058):CC 320 #[.I n] w λr w'=>r=.tuple #[ZdH (ofM n).y (ofM n).m (ofM n).d,.I 0]/\Stp [] w w':=by
 refine cW1 73 Tryz.func320 ?_;refine W ?_;refine Z1 Z9 rfl ?_;rintro _ w1 ⟨b2,rfl,dx,e2',hS⟩;have iB:=hS.size;repeat'(first|refine W1 ?_|omega|refine VG ?_ ?_<;>intro hg|refine VC ?_ ?_<;>intro hc)
 unfold ofM;simp only;have po:=YaW (n+306) (b:=146097) (by decide);have j9:=YaJ (n+306) (b:=146097) (by decide);have he:(n+306) / 146097<=25/\0<=(n+306) / 146097:=by omega
 generalize (n+306) % 146097=doe at *;generalize (n+306) / 146097=era at *;obtain ⟨yoe,doy,e1,e2,hy,hd,-⟩:=ZdA doe po j9;simp only [e1,e2];have pp:0<=(5 * (doy:Int)+2) / 153/\(5 * (doy:Int)+2) / 153<=11:=by omega
 repeat'(first|refine W1 ?_|omega|refine VG ?_ ?_<;>intro hg|refine VC ?_ ?_<;>intro hc)
 refine Za (vs:=[(0,.I _),(1,.I _),(2,.I _)]) rfl (Z4t _ _ _) rfl ?_;refine Z1 Z9 rfl ?_;rintro _ w2 ⟨b10,rfl,pu,e10,hT⟩;have n2:b10≠b2:=by have:=e2'.lt;omega
 replace e2':=e2'.up hT;replace hS:=hS.trans hT;refine SB (us:=[.I _,.I _,.I _]) (by simp;exact ⟨rfl,rfl,rfl⟩) e10 ?_;rintro _ w3 ⟨hT,e10'⟩;replace e2':=e2'.ext hT (by simpa using n2.symm);replace hS:=hS.own hT (λc hc=>.inr (by simp at hc;have:=hS.size;omega));clear e10 hT;repeat'(first|refine W1 ?_|omega|refine VG ?_ ?_<;>intro hg|refine VC ?_ ?_<;>intro hc)
 rename_i hc;refine Zi (Zs (u:=.I ((yoe:Int)+400 * era+1)) rfl rfl rfl rfl e10' (by simp)) ?_;rintro _ w4 ⟨hT,e10⟩;replace e10:Blk w4 b10 237 [.I ((yoe:Int)+400 * era+1),.I ((5 * (doy:Int)+2) / 153+3),.I ((doy:Int) - (153 * ((5 * (doy:Int)+2) / 153)+2) / 5+1)]:=e10;replace e2':=e2'.ext hT (by simpa using n2.symm);replace hS:=hS.ow hT;clear e10' hT;refine W ?_;refine Zi (Zs (u:=.I ((5 * (doy:Int)+2) / 153 - 9)) rfl rfl rfl rfl e10 (by simp)) ?_;rintro _ w5 ⟨hT,e10'⟩;replace e10':Blk w5 b10 237 [.I ((yoe:Int)+400 * era+1),.I ((5 * (doy:Int)+2) / 153 - 9),.I ((doy:Int) - (153 * ((5 * (doy:Int)+2) / 153)+2) / 5+1)]:=e10';replace e2':=e2'.ext hT (by simpa using n2.symm);replace hS:=hS.ow hT;clear e10 hT;refine W ?_;refine Zi (J1 (us:=[.I _,.I _,.I _]) rfl rfl rfl rfl (by simp;exact ⟨rfl,rfl,rfl⟩) e2' rfl) ?_;rintro _ w6 ⟨hT,e2⟩;replace hS:=hS.ow hT;refine W ?_;refine Z1f rfl rfl rfl e2 rfl rfl ?_;refine .mk ⟨?_,hS⟩;rw [if_pos (by omega)];rename_i hc;refine Zi (J1 (us:=[.I _,.I _,.I _]) rfl rfl rfl rfl (by simp;exact ⟨rfl,rfl,rfl⟩) e2' rfl) ?_;rintro _ w6 ⟨hT,e2⟩;replace hS:=hS.ow hT;refine W ?_;refine Z1f rfl rfl rfl e2 rfl rfl ?_;refine .mk ⟨?_,hS⟩;rw [if_neg (by omega)]
theorem Z5C (n:Int) (w) (h0:0<=n) (h1:n<=9223372036854775807):CC 140 #[.I n] w λr w'=>r=str (Lib.itoa n)/\Stp [] w w':=by
 obtain ⟨u,rfl⟩:∃ u:Nat,n=(u:Int):=⟨n.toNat,by omega⟩
 have dA:Lib.itoa (u:Int)=Lib.decDigits u:=by unfold Lib.itoa;rw [if_neg (by omega)];rfl
 rw [dA];have ai:(Lib.decDigits u).length<=19:=Z2J 18 u (by omega);refine cW1 32 Tryz.func140 ?_;by_cases hz:(u:Int)=0;obtain rfl:u=0:=by omega
 focus repeat'(first|refine W1 ?_|omega|refine VG ?_ ?_<;>intro hg|refine VC ?_ ?_<;>intro hc)
 refine RU ?_;exact ⟨by rw [Lib.decDigits];rfl,Stp.refl _ _⟩;focus repeat'(first|refine W1 ?_|omega|refine VG ?_ ?_<;>intro hg|refine VC ?_ ?_<;>intro hc)
 refine ZC (σ:=Nat×Str) (λq=>[(0,.I (u:Int)),(3,str [48,49,50,51,52,53,54,55,56,57]),(4,str q.2),(5,.I (q.1:Int))]) (λq w'=>w'=w/\q.1<=u/\(if q.1=0 then [] else Lib.decDigits q.1)++q.2=Lib.decDigits u) (λq=>q.1) (u,[]) ⟨rfl,rfl,rfl,rfl,trivial⟩ ⟨rfl,Xq _,by simp only;rw [if_neg (by omega)];simp⟩ ?_;rintro ⟨k,s⟩ w1 ⟨rfl,hk,he⟩;dsimp only at hk he ⊢;have au:s.length<=19:=by
  have:=congrArg List.length he;simp only [Xf] at this;omega
 by_cases fA:(k:Int)=0;obtain rfl:k=0:=by omega
 focus repeat'(first|refine W1 ?_|omega|refine VG ?_ ?_<;>intro hg|refine VC ?_ ?_<;>intro hc)
 refine RU ?_;exact ⟨by simpa using congrArg str he,Stp.refl _ _⟩;have aB:=ZdC k (by omega);rw [if_neg (by omega),aB,XM] at he;focus repeat'(first|refine W1 ?_|omega|refine VG ?_ ?_<;>intro hg|refine VC ?_ ?_<;>intro hc)
 refine Zf (Z1w (l:=k % 10) (r:=k % 10+1) rfl rfl rfl (by omega) (by omega) (by omega) (by show k % 10+1<=10;omega)) rfl ?_;rw [Zb6 (k % 10) (by omega)];refine W ?_;refine Z4p rfl rfl (by simp;omega) rfl ?_;refine W ?_;refine Jj (k / 10,[UInt8.ofNat (48+k % 10)]++s) ⟨rfl,rfl,rfl,by simp only [Int.natCast_ediv];rfl,trivial⟩ ⟨rfl,by dsimp only;omega,by dsimp only;exact he⟩ (by dsimp only;omega)
end Go.Proofs.YteibicnbkggiiaaGreatDoor
namespace Go.Eng
open Go Go.RowKit Go.Proofs
end Go.Eng
namespace Go.Proofs.YteibicnbkggiiaaGreatDoor
open Go Go.Eng Go.RowKit Go.Proofs
theorem Z4u {α:Type} [Z3 α] (X:List Nat) (w:World):SlV (α:=α) X w (.N) []:=⟨none,0,rfl,Xq _,by simp [maxLen],λ_=>rfl,λi hi=>absurd hi (Xs _)⟩
theorem Z4X:Z0t [114,117,108,101,32,102,114,111,109,32,111,110,32,105,102,32,100,117,101,32,117,110,108,101,115,115,32,101,108,115,101,32,111,114,32,97,110,100,32,110,111,116,32,116,114,117,101,32,102,97,108,115,101,32,116,104,101,110,32,101,110,100,32,100,97,121,115,32,119,101,101,107,115,32,109,111,110,116,104,115,32,99,111,117,114,116,100,97,121,115,32,110,101,120,116,32,112,114,101,118,32,108,97,116,101,114,32,101,97,114,108,105,101,114,32,98,101,116,119,101,101,110,32,100,97,121,32,115,101,114,118,101,100,32,101,120,116,114,97,32,98,121,32,116,111,32,99,111,117,114,116,32,97,109,111,117,110,116]=Z6E++Zb:=by decide +kernel
theorem Z6G (X:List Nat) (w:World) (hX:∀ b∈X,b<w.heap.size):CC 146 #[] w λr w'=>Row X w' w.heap.size 9 r (Z6E++Zb)/\Stp [] w w':=by
 refine cW0 2 Tryz.func146 ?_;refine W ?_;refine CM (ZN rfl) (JP X [114,117,108,101,32,102,114,111,109,32,111,110,32,105,102,32,100,117,101,32,117,110,108,101,115,115,32,101,108,115,101,32,111,114,32,97,110,100,32,110,111,116,32,116,114,117,101,32,102,97,108,115,101,32,116,104,101,110,32,101,110,100,32,100,97,121,115,32,119,101,101,107,115,32,109,111,110,116,104,115,32,99,111,117,114,116,100,97,121,115,32,110,101,120,116,32,112,114,101,118,32,108,97,116,101,114,32,101,97,114,108,105,101,114,32,98,101,116,119,101,101,110,32,100,97,121,32,115,101,114,118,101,100,32,101,120,116,114,97,32,98,121,32,116,111,32,99,111,117,114,116,32,97,109,111,117,110,116] _ hX (by decide +kernel)) ?_;rintro v w1 ⟨hr,hS⟩;rw [Z4X] at hr;refine RT ?_;exact ⟨hr,hS⟩
theorem ZZ (s:Str) (w):CC 99 #[str s] w λr w'=>r=.B (Zh s)/\Stp [] w w':=by
 refine cW1 60 Tryz.func99 ?_;refine W ?_;by_cases h0:s.length≠0/\s.length<=12/\97<=ZU s 0/\ZU s 0<=122
 case neg=>
  have hn:Zh s=false:=by
   unfold Zh Z25;rw [decide_eq_false (λh=>h0 ⟨by omega,h.2.1,h.2.2.1,h.2.2.2.1⟩)];rfl
  by_cases hl:s.length≠0
  (refine QP ?_ ?_<;>intro hg)
  refine RU ?_;exact ⟨by rw [hn],Stp.refl _ _⟩;refine JB (i:=0) rfl rfl rfl (by omega) rfl ?_
  (refine QP ?_ ?_<;>intro hg)
  refine RU ?_;exact ⟨by rw [hn],Stp.refl _ _⟩;refine JB (i:=0) rfl rfl rfl (by omega) rfl ?_;refine RT ?_;exact ⟨by rw [hn],Stp.refl _ _⟩;refine RT ?_;exact ⟨by rw [hn],Stp.refl _ _⟩
 obtain ⟨h1,h2,h3,h4⟩:=h0;refine QO ?_;refine JB (i:=0) rfl rfl rfl (by omega) rfl ?_;refine QO ?_;refine JB (i:=0) rfl rfl rfl (by omega) rfl ?_;refine QO ?_;refine LP (σ:=Nat) (λi=>[(0,str s),(3,.I (i:Int))]) (λi w'=>i<=s.length/\w'=w/\∀ j,j<i->ZdI (ZU s j)) (λi=>s.length - i) 0 ⟨Xo _,rfl,λj hj=>absurd hj (Xs _)⟩ ?_;rintro i w2 ⟨hi,rfl,ar⟩
 try dsimp only at hi ar ⊢
 by_cases hlt:¬ s.length<=i;by_cases cV:(97<=ZU s i/\ZU s i<=122)\/(48<=ZU s i/\ZU s i<=57)
 . have eI:∀ j,j<i+1->ZdI (ZU s j):=λj hj=>by
    by_cases e:j=i;subst e;exact cV;exact ar j (by omega)
   repeat'(first|refine W1 ?_|omega|refine VG ?_ ?_<;>intro hg|refine VC ?_ ?_<;>intro hc)
   all_goals exact QL (i+1) ⟨by omega,rfl,eI⟩ (by omega)
 . have hn:Zh s=false:=by
    unfold Zh Z25;rw [decide_eq_false (λh=>cV (h.2.2.2.2 i (by omega)))];rfl
   repeat'(first|refine W1 ?_|omega|refine VG ?_ ?_<;>intro hg|refine VC ?_ ?_<;>intro hc)
   all_goals
    refine RU ?_;exact ⟨by rw [hn],Stp.refl _ _⟩
 obtain rfl:i=s.length:=by omega
 have aF:Z25 s=true:=decide_eq_true ⟨by omega,h2,h3,h4,ar⟩;refine QO ?_;refine CM Z8A (Z6G [] _ (by simp)) ?_;rintro rv w3 ⟨hr,hS⟩;refine W ?_;refine CL (Jr [] rv _ s _ hr.slv0) ?_;rintro _ w4 ⟨rfl,aA⟩;refine W ?_;refine WR ?_;refine .mk ⟨?_,hS.trans aA⟩;unfold Zh;rw [aF,Yah];congr 1;refine decide_eq_decide.2 ?_;rw [<- Int.not_le,Z7D,Xd,not_or]
def Z10 (x:Nd) (want:Int):Int:=if Zx x<=12 then (if Ze x=0 then 21 else if Ze x=want then 0 else 21) else 2
theorem Z7E (v:Value) (x:Nd) (want:Int) (w) (hx:NdV [] w v x) (hF:SlV [] w Z1R Zb):CC 157 #[v,.I want] w λr w'=>r=.I (Z10 x want)/\Stp [] w w':=by
 obtain ⟨kv,rfl,hs⟩:=hx;refine cW2 20 Tryz.func157 ?_;refine W ?_;refine Z1 (Zp rfl) rfl ?_;rintro _ w1 ⟨b,rfl,hb,ab,hS⟩;replace ab:Blk w1 b _ (ndC x kv):=ab;refine W ?_;refine CL (Zki [] [] _ x _ ⟨kv,rfl,hs.up hS⟩ (hF.up hS)) ?_;rintro _ w2 ⟨rfl,ak⟩;replace hS:=hS.trans ak;unfold Z10;by_cases hn:Zx x<=12;rw [if_pos hn,if_pos hn,if_pos hn];by_cases ht:Ze x=0;rw [if_pos ht,if_pos ht];refine RT ?_;exact ⟨rfl,hS⟩;rw [if_neg ht,if_neg ht];by_cases hw:Ze x=want;rw [if_pos hw];refine RT ?_;exact ⟨rfl,hS⟩;rw [if_neg hw];refine RT ?_;exact ⟨rfl,hS⟩;rw [if_neg hn,if_neg hn,if_neg hn];refine RT ?_;exact ⟨rfl,hS⟩
structure Rul where
 name:Str
 frm:Int
 on:Str
 cnd:Nd
 due:Nd
 unl:Str
 els:Str
abbrev rlC (r:Rul) (ki kd:Value):List Value:=[str r.name,.I r.frm,str r.on,.I r.cnd.kind,.I r.cnd.num,str r.cnd.word,ki,.I r.due.kind,.I r.due.num,str r.due.word,kd,str r.unl,str r.els]
def Zgo (X:List Nat) (w:World) (v:Value) (r:Rul):Prop:=∃ ki kd,v=.agg (rlC r ki kd).toArray/\SlV X w ki r.cnd.kids/\SlV X w kd r.due.kids
def ZS (r:Rul):Bool:=Zh r.name && Zh r.on && (decide (r.unl=[]) || Zh r.unl) && (decide (r.els=[]) || Zh r.els)
def Z0p (r:Rul):Int:=if ZS r=false then 7 else if r.frm<0\/r.frm > 3652058 then 5 else if Z10 r.cnd 2≠0 then Z10 r.cnd 2 else Z10 r.due 3
theorem Z7F (v:Value) (r:Rul) (m:Int) (w) (hv:Zgo [] w v r) (hF:SlV [] w Z1R Zb) (hm:w.cell? ⟨2,0,none⟩=some (.I m)) :
 CC 103 #[v] w λr' w'=>r'=.I (Z0p r)/\Stp [] w w':=by
 obtain ⟨ki,kd,rfl,hi,hd⟩:=hv;refine cW1 55 Tryz.func103 ?_;refine W ?_;refine Z1 (Zp rfl) rfl ?_;rintro _ w1 ⟨b,rfl,hb,ab,hS⟩;replace ab:Blk w1 b _ (rlC r ki kd):=ab;refine W ?_;refine CM (ZN rfl) (Z1o r.name m _ (hF.up hS) (hS.cell (by simp) hm)) ?_;rintro _ w2 ⟨rfl,hT⟩;replace ab:=ab.up hT;replace hS:=hS.trans hT;clear hT;refine Z2u (σ:=Bool) (λq=>[(1,pQ b),(2,.I 0),(4,.B q)]) (λq w'=>Blk w' b 84 (rlC r ki kd)/\Stp [] w w'/\q=!ZS r) ?_ ?_
 . cases hA:Zh r.name with
   | false=>
     refine W ?_;exact QT true ⟨ab,hS,by simp [ZS, *]⟩
   | true=>
     refine W ?_;refine CM (ZN rfl) (Z1o r.on m _ (hF.up hS) (hS.cell (by simp) hm)) ?_;rintro _ w2 ⟨rfl,hT⟩;replace ab:=ab.up hT;replace hS:=hS.trans hT;clear hT;cases hB:Zh r.on with
     | false=>
       refine W ?_;exact QT true ⟨ab,hS,by simp [ZS, *]⟩
     | true=>
       repeat'(first|refine W1 ?_|omega|refine VG ?_ ?_<;>intro hg|refine VC ?_ ?_<;>intro hc)
       . refine CM (ZN rfl) (Z1o r.unl m _ (hF.up hS) (hS.cell (by simp) hm)) ?_
         rintro _ w2 ⟨rfl,hT⟩;replace ab:=ab.up hT;replace hS:=hS.trans hT;clear hT;cases hC:Zh r.unl with
         | false=>
           refine W ?_;exact QT true ⟨ab,hS,by simp [ZS, *]⟩
         | true=>
           (refine QP ?_ ?_<;>intro hg)
           . refine CM (ZN rfl) (Z1o r.els m _ (hF.up hS) (hS.cell (by simp) hm)) ?_
             rintro _ w2 ⟨rfl,hT⟩;replace ab:=ab.up hT;replace hS:=hS.trans hT;clear hT;cases hD:Zh r.els with
             | false=>
               refine W ?_;exact QT true ⟨ab,hS,by simp [ZS, *]⟩
             | true=>
               refine W ?_;exact QT false ⟨ab,hS,by simp [ZS, *]⟩
           exact QT false ⟨ab,hS,by simp [ZS, *]⟩
       . refine CM (ZN rfl) (Z1o r.els m _ (hF.up hS) (hS.cell (by simp) hm)) ?_
         rintro _ w2 ⟨rfl,hT⟩;replace ab:=ab.up hT;replace hS:=hS.trans hT;clear hT;cases hD:Zh r.els with
         | false=>
           refine W ?_;exact QT true ⟨ab,hS,by simp [ZS, *]⟩
         | true=>
           refine W ?_;exact QT false ⟨ab,hS,by simp [ZS, *]⟩
       exact QT false ⟨ab,hS,by simp [ZS, *]⟩
 rintro q w3 ⟨ab,hS,hq⟩
 try dsimp only at hq ⊢
 unfold Z0p;cases dP:ZS r with
 | false=>
   rw [dP] at hq;subst hq;refine RT ?_;exact ⟨rfl,hS⟩
 | true=>
   rw [dP] at hq;subst hq;refine W ?_;by_cases hr:r.frm<0\/r.frm > 3652058
   . repeat'(first|refine W1 ?_|omega|refine VG ?_ ?_<;>intro hg|refine VC ?_ ?_<;>intro hc)
     all_goals
      refine RU ?_;exact ⟨by rw [if_neg (by decide),if_pos hr],hS⟩
   refine QO ?_;apply Zf (Zr (us:=ndC r.cnd ki) rfl rfl ab rfl rfl) rfl;refine W ?_;refine CL (Z7E _ r.cnd 2 _ ⟨ki,rfl,hi.up hS⟩ (hF.up hS)) ?_;rintro _ w4 ⟨rfl,hT⟩;replace ab:=ab.up hT;replace hS:=hS.trans hT;clear hT;by_cases h2:Z10 r.cnd 2=0;refine QO ?_;apply Zf (Zr (us:=ndC r.due kd) rfl rfl ab rfl rfl) rfl;refine W ?_;refine CL (Z7E _ r.due 3 _ ⟨kd,rfl,hd.up hS⟩ (hF.up hS)) ?_;rintro _ w5 ⟨rfl,hT⟩;refine RT ?_;exact ⟨by rw [if_neg (by decide),if_neg hr,if_neg (by simpa using h2)],hS.trans hT⟩;refine RT ?_;exact ⟨by rw [if_neg (by decide),if_neg hr,if_pos h2],hS⟩
end Go.Proofs.YteibicnbkggiiaaGreatDoor
namespace Go.Eng
open Go Go.RowKit Go.Proofs
end Go.Eng
namespace Go.Proofs.YteibicnbkggiiaaGreatDoor
open Go Go.Eng Go.RowKit Go.Proofs
def _root_.Go.Eng.RuleM.rul (r:RuleM):Rul:=⟨r.name,r.frm,r.on,r.cond,r.due,r.unl,r.els⟩
instance:Z3 Rul where
 k:=13
 rep:=λX w r cs=>∃ ki kd,cs=rlC r ki kd/\SlV X w ki r.cnd.kids/\SlV X w kd r.due.kids
 len:=by rintro X w r cs ⟨ki,kd,rfl,_⟩;rfl
 one:=by
  rintro X w r cs ⟨ki,kd,rfl,h1,h2⟩ c hc;have e1:=h1.one;have e2:=h2.one;simp only [rlC,Xg,Xm,or_false] at hc;rcases hc with rfl|rfl|rfl|rfl|rfl|rfl|rfl|rfl|rfl|rfl|rfl|rfl|rfl<;>first|rfl|exact e1|exact e2
 ext:=by
  rintro X S X' w w' r cs ⟨ki,kd,rfl,h1,h2⟩ hS g1 g2;exact ⟨ki,kd,rfl,h1.ext hS g1 g2,h2.ext hS g1 g2⟩
end Go.Proofs.YteibicnbkggiiaaGreatDoor
namespace Go.Eng
open Go Go.RowKit Go.Proofs
end Go.Eng
namespace Go.Proofs.YteibicnbkggiiaaGreatDoor
open Go Go.Eng Go.RowKit Go.Proofs
theorem Zkm {X:List Nat} {w} {v:Value} {l:List Rul} {i:Nat} (h:SlV X w v l) (hi:i<l.length):∃ ki kd,SlV X w ki l[i].cnd.kids/\SlV X w kd l[i].due.kids/\∀ j u,(rlC l[i] ki kd)[j]?=some u->w.cell? (Zz v i 13 j)=some u:=by
 obtain ⟨cs,hr,hc⟩:=h.cell hi;obtain ⟨ki,kd,rfl,h1,h2⟩:=hr;exact ⟨ki,kd,h1,h2,hc⟩
theorem Z9b {P:Program} {n:Nat} {e:Env} {w} {d:Option Nat} {ty:TypeId} {pos:String} {af:Array Edge} {g:Option (Nat×Bool)} {X:List Nat} {v:Value} {l:List Rul} {i:Nat} {ki kd:Value} {x:Operand} {t:TypeId} {D:TypeDesc} [hu:Und P t D] (hA:Z03 D=true) [br:Siz P t 13] (hx:ev e x=some (.pointer (some (Zz v i 13 0)))) (hs:SlV X w v l) (hi:i<l.length)
 (hc:∀ j u,(rlC l[i] ki kd)[j]?=some u->w.cell? (Zz v i 13 j)=some u) :
 PR P n ⟨d,.load t x,ty,pos,af,g⟩ e w (.agg (rlC l[i] ki kd).toArray):=by
 obtain ⟨p,l',c,rfl⟩:=hs.isSome hi;refine Z1e (cs:=rlC l[i] ki kd) hA hx rfl (λj u hu=>?_);have:=hc j u hu;simpa [Zz] using this
abbrev Z38:Nd:=.mk 2 1 [] []
theorem Z9c (X:List Nat) (w):CC 96 #[] w λr w'=>NdV X w' r Z38/\Stp [] w w':=by
 refine cW0 2 Tryz.func96 ?_;refine W ?_;refine Z1 Z9 rfl ?_;rintro _ w1 ⟨b,rfl,hb,ab,hS⟩;refine W ?_;apply Za (vs:=[(0,.I 2),(1,.I 1)]) rfl (Z23 _ _) rfl;have hy:SlV (α:=Nd) X w1 (.N) []:=Zg _ _;refine SB (us:=ndC Z38 (.N)) (J6 (x:=Z38) hy) ab ?_;rintro _ w2 ⟨ak,aY⟩;have hT:=hS.ow ak;refine W ?_;refine ZP rfl rfl rfl aY rfl ?_;exact .mk ⟨⟨_,rfl,Zg _ _⟩,hT⟩
theorem Z9d (v:Value) (r:Rul) (w) (hv:Zgo [] w v r) (h1:ZH r.cnd<=1000) (h2:ZH r.due<=1000) :
 CC 63 #[v] w λr' w'=>r'=.I (Z0p r)/\Stp [] w w':=by
 obtain ⟨ki,kd,rfl,hi,hd⟩:=hv;have px:=Z0v r.cnd;have jo:=Z0v r.due;refine cW1 69 Tryz.func63 ?_;refine W ?_;refine Z1 (Zp rfl) rfl ?_;rintro _ w1 ⟨b,rfl,hb,ab,hS⟩;replace ab:Blk w1 b _ (rlC r ki kd):=ab;refine W ?_;refine CL (ZZ r.name _) ?_;rintro _ w2 ⟨rfl,hT⟩;replace ab:=ab.up hT;replace hS:=hS.trans hT;clear hT;refine Z2u (σ:=Bool) (λq=>[(1,pQ b),(2,.I 0),(38,.B q)]) (λq w'=>Blk w' b 84 (rlC r ki kd)/\Stp [] w w'/\q=!ZS r) ?_ ?_
 . cases hA:Zh r.name with
   | false=>
     refine W ?_;exact QT true ⟨ab,hS,by simp [ZS, *]⟩
   | true=>
     refine W ?_;refine CL (ZZ r.on _) ?_;rintro _ w2 ⟨rfl,hT⟩;replace ab:=ab.up hT;replace hS:=hS.trans hT;clear hT;cases hB:Zh r.on with
     | false=>
       refine W ?_;exact QT true ⟨ab,hS,by simp [ZS, *]⟩
     | true=>
       repeat'(first|refine W1 ?_|omega|refine VG ?_ ?_<;>intro hg|refine VC ?_ ?_<;>intro hc)
       . refine CL (ZZ r.unl _) ?_
         rintro _ w2 ⟨rfl,hT⟩;replace ab:=ab.up hT;replace hS:=hS.trans hT;clear hT;cases hC:Zh r.unl with
         | false=>
           refine W ?_;exact QT true ⟨ab,hS,by simp [ZS, *]⟩
         | true=>
           (refine QP ?_ ?_<;>intro hg)
           . refine CL (ZZ r.els _) ?_
             rintro _ w2 ⟨rfl,hT⟩;replace ab:=ab.up hT;replace hS:=hS.trans hT;clear hT;cases hD:Zh r.els with
             | false=>
               refine W ?_;exact QT true ⟨ab,hS,by simp [ZS, *]⟩
             | true=>
               refine W ?_;exact QT false ⟨ab,hS,by simp [ZS, *]⟩
           exact QT false ⟨ab,hS,by simp [ZS, *]⟩
       . refine CL (ZZ r.els _) ?_
         rintro _ w2 ⟨rfl,hT⟩;replace ab:=ab.up hT;replace hS:=hS.trans hT;clear hT;cases hD:Zh r.els with
         | false=>
           refine W ?_;exact QT true ⟨ab,hS,by simp [ZS, *]⟩
         | true=>
           refine W ?_;exact QT false ⟨ab,hS,by simp [ZS, *]⟩
       exact QT false ⟨ab,hS,by simp [ZS, *]⟩
 rintro q w3 ⟨ab,hS,hq⟩
 try dsimp only at hq ⊢
 unfold Z0p;cases dP:ZS r with
 | false=>
   rw [dP] at hq;subst hq;refine RT ?_;exact ⟨rfl,hS⟩
 | true=>
   rw [dP] at hq;subst hq;rw [if_neg (by decide)];refine W ?_;by_cases hr:r.frm<0\/r.frm > 3652058
   . rw [if_pos hr]
     repeat'(first|refine W1 ?_|omega|refine VG ?_ ?_<;>intro hg|refine VC ?_ ?_<;>intro hc)
     all_goals
      refine RU ?_;exact ⟨rfl,hS⟩
   rw [if_neg hr];refine QO ?_;apply Zf (Zr (us:=ndC r.cnd ki) rfl rfl ab rfl rfl) rfl;refine W ?_;refine CM (ZN rfl) (Z4M [] _ r.cnd _ (Z20 _ h1) (by omega) ⟨ki,rfl,hi.up hS⟩) ?_;rintro _ w4 ⟨rfl,hT⟩;replace ab:=ab.up hT;replace hS:=hS.trans hT;clear hT;unfold Z10;by_cases n1:Zx r.cnd<=12
   case neg=>
    simp only [if_neg n1];refine RT ?_;exact ⟨rfl,hS⟩
   simp only [if_pos n1];by_cases t1:Ze r.cnd=0;simp only [if_pos t1];refine RT ?_;exact ⟨rfl,hS⟩;simp only [if_neg t1];by_cases u1:Ze r.cnd=2
   case neg=>
    simp only [if_neg u1];refine RT ?_;exact ⟨rfl,hS⟩
   simp only [if_pos u1];refine QO ?_;apply Zf (Zr (us:=ndC r.due kd) rfl rfl ab rfl rfl) rfl;refine W ?_;refine CM (ZN rfl) (Z4M [] _ r.due _ (Z20 _ h2) (by omega) ⟨kd,rfl,hd.up hS⟩) ?_;rintro _ w5 ⟨rfl,hT⟩;replace hS:=hS.trans hT;clear hT;by_cases n2:Zx r.due<=12
   case neg=>
    simp only [if_neg n2];refine RT ?_;exact ⟨rfl,hS⟩
   simp only [if_pos n2];by_cases t2:Ze r.due=0;simp only [if_pos t2];refine RT ?_;exact ⟨rfl,hS⟩;simp only [if_neg t2];by_cases u2:Ze r.due=3
   case neg=>
    simp only [if_neg u2];refine RT ?_;exact ⟨rfl,hS⟩
   simp only [if_pos u2];refine RT ?_;exact ⟨rfl,hS⟩
abbrev Zkn:Nd:=.mk 0 0 [] []
abbrev Z19:Value:=.N
theorem Z6H (r:Rul) {X Y:List Nat} {w w':World} {ki kd:Value} (h1:SlV X w ki r.cnd.kids) (h2:SlV Y w' kd r.due.kids):∀ c∈rlC r ki kd,c.oneCell'=true:=by
 intro c hc;have e1:=h1.one;have e2:=h2.one;simp only [rlC,Xg,Xm,or_false] at hc;rcases hc with rfl|rfl|rfl|rfl|rfl|rfl|rfl|rfl|rfl|rfl|rfl|rfl|rfl<;>first|rfl|exact e1|exact e2
theorem Zhy:∀ d,d<=6->Z0R 144 1 d/\Z0R 97 2 d/\Z0R 98 3 d:=by
 intro d
 induction d with
 | zero=>
   intro h;have ih':∀ e,0=e+1->Z0R 144 1 e/\Z0R 97 2 e/\Z0R 98 3 e:=λe he=>by omega
   exact ⟨Z36 _ h ih',Z4Q _ h ih',Z4S _ h ih'⟩
 | succ d ih=>
   intro h;have ih':∀ e,d+1=e+1->Z0R 144 1 e/\Z0R 97 2 e/\Z0R 98 3 e:=λe he=>by
    obtain rfl:d=e:=by omega
    exact ih (by omega)
   exact ⟨Z36 _ h ih',Z4Q _ h ih',Z4S _ h ih'⟩
def Z9e:List Str:=[[114,48],[114,49],[114,50],[114,51]]
def Z06:List Str:=[[99,108,97,105,109],[97,110,115,119,101,114],[109,111,116,105,111,110],[111,114,100,101,114],[97,112,112,101,97,108],[108,97,112,115,101]]
theorem Zbc (q:Nat) (w) (hq:q<4):CC 95 #[.I (q:Int)] w λr w'=>(∃ s∈Z9e,r=str s)/\Stp [] w w':=by
 refine cW1 7 Tryz.func95 ?_;refine W ?_;refine CM (Zj rfl rfl) (ZY (q:Int) 4 _ (by decide) (by unfold I64;omega)) ?_;rintro _ w1 ⟨rfl,hS⟩;rw [if_neg (by omega),Ybc (by omega) (by omega)];refine CM (ZN rfl) (Z5C (q:Int) _ (by omega) (by omega)) ?_;rintro _ w2 ⟨rfl,hT⟩;have:q=0\/q=1\/q=2\/q=3:=by omega
 have hm:([114]++Lib.itoa (q:Int):Str)∈Z9e/\(Lib.itoa (q:Int)).length<=10:=by
  rcases this with rfl|rfl|rfl|rfl<;>(unfold Lib.itoa;rw [if_neg (by omega),Lib.decDigits,dif_pos (by decide)];decide)
 refine Z4p rfl rfl (by simp;omega) rfl ?_;refine RT ?_;exact ⟨⟨_,hm.1,rfl⟩,hS.trans hT⟩
theorem Z3H (q:Nat) (w) (hq:q<6):CC 60 #[.I (q:Int)] w λr w'=>(∃ s∈Z06,r=str s)/\Stp [] w w':=by
 refine cW1 10 Tryz.func60 ?_;refine W ?_;refine Z1 (Z0 (vs:=[(0,str [99,108,97,105,109]),(1,str [97,110,115,119,101,114]),(2,str [109,111,116,105,111,110]),(3,str [111,114,100,101,114]),(4,str [97,112,112,101,97,108]),(5,str [108,97,112,115,101])]) rfl (bS6 _ _ _ _ _ _)) rfl ?_;rintro v w1 hN;have hv:SlV [] w1 v Z06:=hN.slv (by simp) rfl rfl (by decide);have hS:=Z5.stp hN;clear hN;refine W ?_;refine CM (Zj rfl rfl) (ZY (q:Int) 6 _ (by decide) (by unfold I64;omega)) ?_;rintro _ w2 ⟨rfl,hT⟩;rw [if_neg (by omega),Ybc (by omega) (by omega)];replace hv:=hv.up hT;have bH:q<Z06.length:=by show q<6;exact hq
 refine RT ?_;exact ⟨⟨_,Xb bH,rfl⟩,hS.trans hT⟩
structure Z4Y (r:RuleM):Prop where
 name:r.name∈Z9e
 frm:739606<=r.frm/\r.frm<739636
 on:r.on∈Z06
 cond:Gn 2 3 r.cond
 due:Gn 3 3 r.due
 unl:r.unl=[]\/r.unl∈Z06
 els:r.els=[]\/r.els∈Z06
theorem ZdJ (a o:Str) (f k n:Int) (s:Str) (p:Option Addr) (l c:Nat) (w):(Instr.build 84 #[(0,str a),(1,.I f),(2,str o),(3,.agg #[.I k,.I n,str s,.slice p l c])]).run Tryz.prog w=.ok (.agg #[str a,.I f,str o,.I k,.I n,str s,.slice p l c,.I 0,.I 0,str [],.N,str [],str []]) w:=by kernel_rfl
theorem Zbd (X:List Nat) (bm:Nat) (lv:Value) (l:List Int) (i:Nat) (w) (ap:Mk3 w bm lv i) (au:SlV [bm] w lv l) (hl:∀ a∈l,I64 a) (hi:i<=50000) (hX:∀ b∈X,b<w.heap.size) :
 CC 62 #[pQ bm] w λr w'=>∃ (rl:RuleM) (i':Nat),Zgo X w' r rl.rul/\Z4Y rl/\Mk3 w' bm lv i'/\i'<=i+300/\Stp [bm] w w':=by
 have z4:szD 4=40:=by decide
 have z4':szD (3+1)=40:=z4;have d6:=au;have ly:=ap.lt;refine cW1 40 Tryz.func62 ?_;refine W ?_;refine Z1 Z9 rfl ?_;rintro _ w1 ⟨b2,rfl,dx,e2,hS⟩;have n2:b2≠bm:=by have:=ap.lt;omega
 replace ap:=ap.up hS;replace au:=au.up hS;replace hS:Stp [bm] w w1:=hS.mn;have l2:=e2.lt;refine W ?_;refine CM (Zj rfl rfl) (Jw bm lv l _ 4 _ (by decide) (by omega) ap au hl) ?_;rintro _ wq ⟨q1,rfl,hq1,ap,hT⟩;replace au:=au.ext hT (λ_ h=>h) (λ_ h=>.inl h);replace e2:=e2.ext hT (by simp;exact n2);replace hS:=hS.trans hT;clear hT;refine CM (ZN rfl) (Zbc q1 _ (by omega)) ?_;rintro _ wq ⟨⟨nm,dP,rfl⟩,hT⟩;replace ap:=ap.up hT;replace au:=au.up hT;replace e2:=e2.up hT;replace hS:=hS.trans hT.mn;clear hT;refine W ?_;refine CM (Zj rfl rfl) (Jw bm lv l _ 30 _ (by decide) (by omega) ap au hl) ?_;rintro _ wq ⟨q2,rfl,hq2,ap,hT⟩;replace au:=au.ext hT (λ_ h=>h) (λ_ h=>.inl h);replace e2:=e2.ext hT (by simp;exact n2);replace hS:=hS.trans hT;clear hT;refine W ?_;refine CM (Zj rfl rfl) (Jw bm lv l _ 6 _ (by decide) (by omega) ap au hl) ?_;rintro _ wq ⟨q3,rfl,nq,ap,hT⟩;replace au:=au.ext hT (λ_ h=>h) (λ_ h=>.inl h);replace e2:=e2.ext hT (by simp;exact n2);replace hS:=hS.trans hT;clear hT;refine CM (ZN rfl) (Z3H q3 _ (by omega)) ?_;rintro _ wq ⟨⟨on,py,rfl⟩,hT⟩;replace ap:=ap.up hT;replace au:=au.up hT;replace e2:=e2.up hT;replace hS:=hS.trans hT.mn;clear hT;refine W ?_;refine CL (Z9c (b2 :: bm :: X) _) ?_;rintro _ wq ⟨⟨kt,rfl,ht⟩,hT⟩;obtain ⟨pt,ct,rfl,-⟩:=id ht;replace ht:SlV (b2 :: bm :: X) wq (.slice pt Z38.kids.length ct) Z38.kids:=ht;replace ap:=ap.up hT;replace au:=au.up hT;replace e2:=e2.up hT;replace hS:=hS.trans hT.mn;clear hT;refine W ?_;refine Za (vs:=[(0,str nm),(1,.I _),(2,str on),(3,.agg #[.I 2,.I 1,str [],.slice pt 0 ct])]) rfl (ZdJ _ _ _ _ _ _ _ _ _) rfl ?_;refine Z1 Z9 rfl ?_;rintro _ wq ⟨b3,rfl,dY,e0,hT⟩;have oI:∀ c,c<w.heap.size->c<b3:=λc hc=>by have:=hS.size;omega
 have n3:b3≠bm:=by have:=ap.lt;omega
 have n23:b2≠b3:=by have:=e2.lt;omega
 have pz:w.heap.size<=b3:=Xl hS.size dY;refine SB (us:=rlC ⟨nm,739616+(q2:Int) - 10,on,Z38,Zkn,[],[]⟩ (.slice pt 0 ct) Z19) (Z6H _ (X:=b2 :: bm :: X) ht (Zg [] wq)) e0 ?_;rintro _ wq ⟨aQ,e3⟩;replace hT:=Ja hT dY aQ;clear aQ e0;replace ht:SlV (b3 :: b2 :: bm :: X) wq (.slice pt Z38.kids.length ct) Z38.kids:=ht.ext hT (by simp) (λc hc=>by
  rcases Xg.1 hc with rfl|h
  exact .inr dY;exact .inl h)
 replace ap:=ap.up hT;replace au:=au.up hT;replace e2:=e2.up hT;replace hS:=hS.trans hT.mn;clear hT dY;have i8:739606<=739616+(q2:Int) - 10/\739616+(q2:Int) - 10<739636:=by omega
 generalize 739616+(q2:Int) - 10=fr at *;clear hq1 nq;refine W ?_;refine CM (Zj rfl rfl) (Jw bm lv l _ 3 _ (by decide) (by omega) ap au hl) ?_;rintro _ wq ⟨q4,rfl,kw,ap,hT⟩;replace au:=au.ext hT (λ_ h=>h) (λ_ h=>.inl h);replace e2:=e2.ext hT (by simp;exact n2);replace e3:=e3.ext hT (by simp;exact n3);replace hS:=hS.trans hT;replace ht:=ht.ext hT (by simp) (λ_ h=>.inl h);clear hT;have nr:∀ (w':World),Stp [bm] w w'->(∃ cs,Blk w' b3 84 cs)->(∃ cs,Blk w' b2 84 cs)->∀ b∈b3 :: b2 :: bm :: X,b<w'.heap.size:=λw' h1 h2 h3 b hb=>by
  obtain ⟨_,h2⟩:=h2;obtain ⟨_,h3⟩:=h3;have:=h1.size;simp only [Xg] at hb;rcases hb with rfl|rfl|rfl|h
  exact h2.lt;exact h3.lt;omega;have:=hX b h;omega
 refine W ?_
 refine JI (σ:=Nd×Value×Nat) (λ_=>[(0,pQ bm),(2,pQ b2),(3,pQ b3)])
  (λq w'=>Gn 2 3 q.1/\SlV (b3 :: b2 :: bm :: X) w' q.2.1 q.1.kids/\Mk3 w' bm lv q.2.2/\q.2.2<=i+124/\SlV [bm] w' lv l/\(∃ cs:List Value,cs.length=13/\Blk w' b2 84 cs)/\Blk w' b3 84 (rlC ⟨nm,fr,on,q.1,Zkn,[],[]⟩ q.2.1 Z19)/\Stp [bm] w w') ?_ ?_
 (refine QP ?_ ?_<;>intro hc)
 refine CM (Zj rfl rfl) ((Zhy 3 (by decide)).2.1 (b3 :: b2 :: bm :: X) _ bm lv l _ _ rfl ap au hl (by rw [z4];omega) (nr _ hS ⟨_,e3⟩ ⟨_,e2⟩)) ?_;rintro _ wq ⟨y,i1,⟨ky,rfl,hy⟩,gy,ap,bX,hT⟩;replace au:=au.ext hT (λ_ h=>h) (λ_ h=>.inl h);replace e2:=e2.ext hT (by simp;exact n2);replace e3:=e3.ext hT (by simp;exact n3);replace hS:=hS.trans hT;clear hT;refine W ?_;refine Zi (Z0B (us:=ndC y ky) rfl rfl rfl rfl (J6 hy) e3 (by simp)) ?_;rintro _ wq ⟨hT,e3⟩;replace e3:Blk wq b3 84 (rlC ⟨nm,fr,on,y,Zkn,[],[]⟩ ky Z19):=e3;replace hy:=hy.ext hT (by simp) (λ_ h=>.inl h);replace ap:=ap.ext hT (by simp;exact n3.symm);replace e2:=e2.ext hT (by simp;exact n23);replace hS:=hS.ow hT;replace au:=d6.ext hS (λ_ h=>h) (λ_ h=>.inl h);clear hT;refine W ?_;exact QT (y,ky,_) ⟨gy,hy,ap,by simp only;omega,au,⟨_,rfl,e2⟩,e3,hS⟩;exact QT (Z38,_,_) ⟨.bool _ _ (by decide),ht,ap,by simp only;omega,au,⟨_,rfl,e2⟩,e3,hS⟩;clear ap au e2 e3 hS ht;rintro ⟨y,ky,i1⟩ wq ⟨gy,hy,ap,bX,au,⟨cs2,bz,e2⟩,e3,hS⟩;dsimp only at gy hy ap bX e3;have z4':szD (3+1)=40:=z4;refine W ?_;refine CM (Zj rfl rfl) ((Zhy 3 (by decide)).2.2 (b3 :: b2 :: bm :: X) _ bm lv l _ _ rfl ap au hl (by rw [z4];omega) (nr _ hS ⟨_,e3⟩ ⟨_,e2⟩)) ?_;rintro _ wq ⟨x,i2,⟨kx,rfl,hx⟩,gx,ap,bN,hT⟩;replace hy:=hy.ext hT (by simp) (λ_ h=>.inl h);replace e2:=e2.ext hT (by simp;exact n2);replace e3:=e3.ext hT (by simp;exact n3);replace hS:=hS.trans hT;clear hT;refine W ?_;refine Zi (Z0B (us:=ndC x kx) rfl rfl rfl rfl (J6 hx) e3 (by simp)) ?_;rintro _ wq ⟨hT,e3⟩;replace e3:Blk wq b3 84 (rlC ⟨nm,fr,on,y,x,[],[]⟩ ky kx):=e3;replace hx:=hx.ext hT (by simp) (λ_ h=>.inl h);replace hy:=hy.ext hT (by simp) (λ_ h=>.inl h);replace ap:=ap.ext hT (by simp;exact n3.symm);replace e2:=e2.ext hT (by simp;exact n23);replace hS:=hS.ow hT;replace au:=d6.ext hS (λ_ h=>h) (λ_ h=>.inl h);clear hT;refine W ?_;refine CM (Zj rfl rfl) (Jw bm lv l _ 2 _ (by decide) (by omega) ap au hl) ?_;rintro _ wq ⟨q5,rfl,pA,ap,hT⟩;replace hy:=hy.ext hT (by simp) (λ_ h=>.inl h);replace hx:=hx.ext hT (by simp) (λ_ h=>.inl h);replace e2:=e2.ext hT (by simp;exact n2);replace e3:=e3.ext hT (by simp;exact n3);replace hS:=hS.trans hT;replace au:=d6.ext hS (λ_ h=>h) (λ_ h=>.inl h);clear hT;refine W ?_
 refine JI (σ:=Str×Nat) (λ_=>[(0,pQ bm),(2,pQ b2),(3,pQ b3)])
  (λq w'=>(q.1=[]\/q.1∈Z06)/\SlV (b3 :: b2 :: bm :: X) w' ky y.kids/\SlV (b3 :: b2 :: bm :: X) w' kx x.kids/\Mk3 w' bm lv q.2/\q.2<=i+250/\Blk w' b2 84 cs2/\Blk w' b3 84 (rlC ⟨nm,fr,on,y,x,q.1,[]⟩ ky kx)/\Stp [bm] w w') ?_ ?_
 (refine QP ?_ ?_<;>intro hc)
 refine CM (Zj rfl rfl) (Jw bm lv l _ 6 _ (by decide) (by omega) ap au hl) ?_;rintro _ wq ⟨q6,rfl,pB,ap,hT⟩;replace hy:=hy.ext hT (by simp) (λ_ h=>.inl h);replace hx:=hx.ext hT (by simp) (λ_ h=>.inl h);replace e2:=e2.ext hT (by simp;exact n2);replace e3:=e3.ext hT (by simp;exact n3);replace hS:=hS.trans hT;clear hT;refine W ?_;refine CM (ZN rfl) (Z3H q6 _ (by omega)) ?_;rintro _ wq ⟨⟨kn,eh,rfl⟩,hT⟩;replace hy:=hy.up hT;replace hx:=hx.up hT;replace ap:=ap.up hT;replace e2:=e2.up hT;replace e3:=e3.up hT;replace hS:=hS.trans hT.mn;clear hT;refine W ?_;refine S1 (u:=str kn) e3 ?_;rintro _ wq ⟨hT,e3⟩;replace e3:Blk wq b3 84 (rlC ⟨nm,fr,on,y,x,kn,[]⟩ ky kx):=e3;replace hx:=hx.ext hT (by simp) (λ_ h=>.inl h);replace hy:=hy.ext hT (by simp) (λ_ h=>.inl h);replace ap:=ap.ext hT (by simp;exact n3.symm);replace e2:=e2.ext hT (by simp;exact n23);replace hS:=hS.ow hT;refine W ?_;exact QT (kn,_) ⟨.inr eh,hy,hx,ap,by simp only;omega,e2,e3,hS⟩;exact QT ([],_) ⟨.inl rfl,hy,hx,ap,by simp only;omega,e2,e3,hS⟩;clear ap au e2 e3 hS hy hx;rintro ⟨u,i5⟩ wq ⟨hu,hy,hx,ap,pC,e2,e3,hS⟩;dsimp only at hu ap pC e3;have au:=d6.ext hS (λ_ h=>h) (λ_ h=>.inl h);refine W ?_;refine CM (Zj rfl rfl) (Jw bm lv l _ 2 _ (by decide) (by omega) ap au hl) ?_;rintro _ wq ⟨q5,rfl,pA,ap,hT⟩;replace hy:=hy.ext hT (by simp) (λ_ h=>.inl h);replace hx:=hx.ext hT (by simp) (λ_ h=>.inl h);replace e2:=e2.ext hT (by simp;exact n2);replace e3:=e3.ext hT (by simp;exact n3);replace hS:=hS.trans hT;replace au:=d6.ext hS (λ_ h=>h) (λ_ h=>.inl h);clear hT;refine W ?_
 refine JI (σ:=Str×Nat) (λ_=>[(0,pQ bm),(2,pQ b2),(3,pQ b3)])
  (λq w'=>(q.1=[]\/q.1∈Z06)/\SlV (b3 :: b2 :: bm :: X) w' ky y.kids/\SlV (b3 :: b2 :: bm :: X) w' kx x.kids/\Mk3 w' bm lv q.2/\q.2<=i+252/\Blk w' b2 84 cs2/\Blk w' b3 84 (rlC ⟨nm,fr,on,y,x,u,q.1⟩ ky kx)/\Stp [bm] w w') ?_ ?_
 (refine QP ?_ ?_<;>intro hc)
 refine CM (Zj rfl rfl) (Jw bm lv l _ 6 _ (by decide) (by omega) ap au hl) ?_;rintro _ wq ⟨q6,rfl,pB,ap,hT⟩;replace hy:=hy.ext hT (by simp) (λ_ h=>.inl h);replace hx:=hx.ext hT (by simp) (λ_ h=>.inl h);replace e2:=e2.ext hT (by simp;exact n2);replace e3:=e3.ext hT (by simp;exact n3);replace hS:=hS.trans hT;clear hT;refine W ?_;refine CM (ZN rfl) (Z3H q6 _ (by omega)) ?_;rintro _ wq ⟨⟨kn,eh,rfl⟩,hT⟩;replace hy:=hy.up hT;replace hx:=hx.up hT;replace ap:=ap.up hT;replace e2:=e2.up hT;replace e3:=e3.up hT;replace hS:=hS.trans hT.mn;clear hT;refine W ?_;refine S1 (u:=str kn) e3 ?_;rintro _ wq ⟨hT,e3⟩;replace e3:Blk wq b3 84 (rlC ⟨nm,fr,on,y,x,u,kn⟩ ky kx):=e3;replace hx:=hx.ext hT (by simp) (λ_ h=>.inl h);replace hy:=hy.ext hT (by simp) (λ_ h=>.inl h);replace ap:=ap.ext hT (by simp;exact n3.symm);replace e2:=e2.ext hT (by simp;exact n23);replace hS:=hS.ow hT;refine W ?_;exact QT (kn,_) ⟨.inr eh,hy,hx,ap,by simp only;omega,e2,e3,hS⟩;exact QT ([],_) ⟨.inl rfl,hy,hx,ap,by simp only;omega,e2,e3,hS⟩;clear ap au e2 e3 hS hy hx;rintro ⟨v,i6⟩ wq ⟨hv,hy,hx,ap,pD,e2,e3,hS⟩;dsimp only at hv ap pD e3;have au:=d6.ext hS (λ_ h=>h) (λ_ h=>.inl h);refine W ?_
 try (apply Zf (Zr (us:=rlC ⟨nm,fr,on,y,x,u,v⟩ ky kx) rfl rfl e3 rfl rfl) rfl)
 try refine W ?_
 refine Zi (J1 (us:=rlC ⟨nm,fr,on,y,x,u,v⟩ ky kx) rfl rfl rfl rfl (Z6H ⟨nm,fr,on,y,x,u,v⟩ hy hx) e2 (by rw [bz];rfl)) ?_;rintro _ wz ⟨hT,e2⟩;refine W ?_;refine ZP rfl rfl rfl e2 rfl ?_;refine .mk ⟨⟨nm,fr,on,y,x,u,v⟩,i6,⟨ky,kx,rfl,(hy.ext hT (by simp) (λ_ h=>.inl h)).wk (λb h=>by simp [h]),(hx.ext hT (by simp) (λ_ h=>.inl h)).wk (λb h=>by simp [h])⟩,⟨dP,i8,py,gy,gx,hu,hv⟩,ap.ext hT (by simp;exact n2.symm),by omega,hS.ow hT⟩
structure Cr where
 name:Str
 frm:Int
 on:Str
 cnd:List Ins
 due:List Ins
 unl:Str
 els:Str
abbrev crC (q:Cr) (kc kd:Value):List Value:=[str q.name,.I q.frm,str q.on,kc,kd,str q.unl,str q.els]
def CrV (X:List Nat) (w:World) (v:Value) (q:Cr):Prop:=∃ kc kd,v=.agg (crC q kc kd).toArray/\SlV X w kc q.cnd/\SlV X w kd q.due
theorem Z1C {q:Cr} {X Y:List Nat} {w w':World} {kc kd:Value} (h1:SlV X w kc q.cnd) (h2:SlV Y w' kd q.due):∀ c∈crC q kc kd,c.oneCell'=true:=by
 intro c hc;have e1:=h1.one;have e2:=h2.one;simp only [crC,Xg,Xm,or_false] at hc;rcases hc with rfl|rfl|rfl|rfl|rfl|rfl|rfl<;>first|rfl|exact e1|exact e2
def Z1p (r:Rul):Int:=if Z0p r≠0 then Z0p r else if Z1l r.cnd≠0 then Z1l r.cnd else Z1l r.due
abbrev crZ:Cr:=⟨[],0,[],[],[],[],[]⟩
def crF (r:Rul):Cr:=if Z1p r=0 then ⟨r.name,r.frm,r.on,Jd r.cnd,Jd r.due,r.unl,r.els⟩ else crZ
def Znw (w:World) (r:Rul) (v:Value) (w':World):Prop:=∃ cv,v=.tuple #[cv,.I (Z1p r)]/\(∀ X:List Nat,(∀ b∈X,b<w.heap.size)->CrV X w' cv (crF r))/\Stp [] w w'
theorem Z4Z (w):(Instr.build 27 #[]).run Tryz.prog w=.ok (.agg (crC crZ Z19 Z19).toArray) w:=by kernel_rfl
theorem Zgp (q:Cr) (p1 p2:Option Addr) (l1 c1 l2 c2:Nat) (w):(Instr.build 27 #[(0,str q.name),(1,.I q.frm),(2,str q.on),(3,.slice p1 l1 c1),(4,.slice p2 l2 c2),(5,str q.unl),(6,str q.els)]).run Tryz.prog w=.ok (.agg (crC q (.slice p1 l1 c1) (.slice p2 l2 c2)).toArray) w:=by kernel_rfl
theorem Zbe (v:Value) (r:Rul) (w) (hv:Zgo [] w v r) (h1:ZH r.cnd<=1000) (h2:ZH r.due<=1000) :
 Calls Tryz.prog 23 #[v] w (Ret (Znw w r)):=by
 obtain ⟨ki,kd,rfl,hi,hd⟩:=hv;have px:=Z0v r.cnd;have jo:=Z0v r.due;refine cW1 48 Tryz.func23 ?_;refine W ?_;refine Z1 (Zp rfl) rfl ?_;rintro _ w1 ⟨b,rfl,hb,ab,hS⟩;replace ab:Blk w1 b _ (rlC r ki kd):=ab;refine W ?_;refine Z1 Z9 rfl ?_;rintro _ w2 ⟨b2,rfl,dx,e2,hT⟩;have pE:w.heap.size<=b2:=Xl hS.size dx;replace ab:=ab.up hT;replace hS:=hS.trans hT;clear hT hb dx;refine W ?_
 try (refine Zf (ZK rfl rfl ab rfl) rfl ?_)
 refine W ?_;refine CL (Z9d _ r _ ⟨ki,kd,rfl,hi.up hS,hd.up hS⟩ h1 h2) ?_;rintro _ w3 ⟨rfl,hT⟩;replace ab:=ab.up hT;replace e2:=e2.up hT;replace hS:=hS.trans hT;clear hT;by_cases jp:Z0p r=0
 case neg=>
  have hE:Z1p r=Z0p r:=by unfold Z1p;rw [if_pos jp]
  have hC:crF r=crZ:=by unfold crF;rw [hE,if_neg jp]
  refine QO ?_;apply Za (vs:=[]) rfl Z4Z rfl;refine W ?_;refine SB (us:=crC crZ Z19 Z19) (Z1C (q:=crZ) (Zg [] w) (Zg [] w)) e2 ?_;rintro _ w9 ⟨hT,e2⟩;refine W ?_;refine Z1f rfl rfl rfl e2 rfl rfl ?_;exact .mk ⟨_,by rw [hE]<;>rfl,λX hX=>⟨Z19,Z19,by rw [hC],by rw [hC];exact Zg X _,by rw [hC];exact Zg X _⟩,hS.ow hT⟩
 refine QO ?_;apply Zf (Zr (us:=ndC r.cnd ki) rfl rfl ab rfl rfl) rfl;refine W ?_;refine CM (ZN rfl) (Z1L _ r.cnd _ h1 (by omega) ⟨ki,rfl,hi.up hS⟩) ?_;rintro _ w4 ⟨va,rfl,ha,hT⟩;replace ha:=λX (hX:∀ b∈X,b<w.heap.size)=>ha (b2 :: X) (λb hb=>by
  rcases Xg.1 hb with rfl|h
  exact e2.lt;exact Xc (hX b h) hS.size)
 replace ab:=ab.up hT;replace e2:=e2.up hT;replace hS:=hS.trans hT;clear hT;refine W ?_;by_cases aU:Z1l r.cnd=0
 case neg=>
  have hE:Z1p r=Z1l r.cnd:=by unfold Z1p;rw [if_neg (by simp [jp]),if_pos aU]
  have hC:crF r=crZ:=by unfold crF;rw [hE,if_neg aU]
  refine QO ?_;apply Za (vs:=[]) rfl Z4Z rfl;refine W ?_;refine SB (us:=crC crZ Z19 Z19) (Z1C (q:=crZ) (Zg [] w) (Zg [] w)) e2 ?_;rintro _ w9 ⟨hT,e2⟩;refine W ?_;refine Z1f rfl rfl rfl e2 rfl rfl ?_;exact .mk ⟨_,by rw [hE]<;>rfl,λX hX=>⟨Z19,Z19,by rw [hC],by rw [hC];exact Zg X _,by rw [hC];exact Zg X _⟩,hS.ow hT⟩
 rw [if_pos aU] at ha;refine QO ?_;apply Zf (Zr (us:=ndC r.due kd) rfl rfl ab rfl rfl) rfl;refine W ?_;refine CM (ZN rfl) (Z1L _ r.due _ h2 (by omega) ⟨kd,rfl,hd.up hS⟩) ?_;rintro _ w5 ⟨vb,rfl,hb,hT⟩;replace hb:=λX (hX:∀ b∈X,b<w.heap.size)=>hb (b2 :: X) (λb hb=>by
  rcases Xg.1 hb with rfl|h
  exact e2.lt;exact Xc (hX b h) hS.size)
 replace ha:=λX hX=>(ha X hX).up hT;replace ab:=ab.up hT;replace e2:=e2.up hT;replace hS:=hS.trans hT;clear hT;refine W ?_;have hE:Z1p r=Z1l r.due:=by unfold Z1p;rw [if_neg (by simp [jp]),if_neg (by simp [aU])]
 by_cases bz:Z1l r.due=0
 case neg=>
  have hC:crF r=crZ:=by unfold crF;rw [hE,if_neg bz]
  refine QO ?_;apply Za (vs:=[]) rfl Z4Z rfl;refine W ?_;refine SB (us:=crC crZ Z19 Z19) (Z1C (q:=crZ) (Zg [] w) (Zg [] w)) e2 ?_;rintro _ w9 ⟨hT,e2⟩;refine W ?_;refine Z1f rfl rfl rfl e2 rfl rfl ?_;exact .mk ⟨_,by rw [hE]<;>rfl,λX hX=>⟨Z19,Z19,by rw [hC],by rw [hC];exact Zg X _,by rw [hC];exact Zg X _⟩,hS.ow hT⟩
 rw [if_pos bz] at hb;have hC:crF r=⟨r.name,r.frm,r.on,Jd r.cnd,Jd r.due,r.unl,r.els⟩:=by unfold crF;rw [hE,if_pos bz]
 obtain ⟨p1,c1,rfl,-⟩:=id (ha [] (by simp));obtain ⟨p2,c2,rfl,-⟩:=id (hb [] (by simp));refine QO ?_;apply Za (vs:=[(0,str r.name),(1,.I r.frm),(2,str r.on),(3,.slice p1 (Jd r.cnd).length c1),(4,.slice p2 (Jd r.due).length c2),(5,str r.unl),(6,str r.els)]) rfl (Zgp ⟨r.name,r.frm,r.on,Jd r.cnd,Jd r.due,r.unl,r.els⟩ _ _ _ _ _ _) rfl;refine SB (us:=crC ⟨r.name,r.frm,r.on,Jd r.cnd,Jd r.due,r.unl,r.els⟩ (.slice p1 (Jd r.cnd).length c1) (.slice p2 (Jd r.due).length c2)) (Z1C (q:=⟨r.name,r.frm,r.on,Jd r.cnd,Jd r.due,r.unl,r.els⟩) (ha [] (by simp)) (hb [] (by simp))) e2 ?_;rintro _ w9 ⟨hT,e2⟩;refine W ?_;refine Z1f rfl rfl rfl e2 rfl rfl ?_;exact .mk ⟨_,by rw [hE,bz],λX hX=>by
  rw [hC];exact ⟨_,_,rfl,((ha X hX).ext hT (by simp) (λ_ h=>.inl h)).wk (λb h=>by simp [h]),((hb X hX).ext hT (by simp) (λ_ h=>.inl h)).wk (λb h=>by simp [h])⟩,hS.ow hT⟩
theorem Z2W (va vb:Value) (xs ys:List Int) (w) (ha:SlV [] w va xs) (hb:SlV [] w vb ys) :
 CC 153 #[va,vb] w λr w'=>r=.B (decide (xs=ys))/\Stp [] w w':=by
 have rC:=ha.max;have pp:=hb.max;refine cW2 26 Tryz.func153 ?_;refine W ?_;by_cases hl:xs.length=ys.length
 case neg=>
  refine RT ?_;exact ⟨by congr 1;rw [eq_comm,decide_eq_false_iff_not];exact λh=>hl (by rw [h]),Stp.refl _ _⟩
 refine QO ?_;refine LP (σ:=Nat) (λj=>[(0,va),(1,vb),(4,.B false),(12,.I (xs.length:Int)),(13,.I (j:Int))]) (λj w'=>j<=xs.length/\Stp [] w w'/\∀ i (h:i<xs.length),i<j->xs[i]=ys[i]'(by omega)) (λj=>xs.length - j) 0 ⟨Xo _,Stp.refl _ _,λi _ h=>absurd h (Xs _)⟩ ?_;rintro j w2 ⟨hj,hS,aD⟩
 try dsimp only at hj aD ⊢
 replace ha:=ha.up hS;replace hb:=hb.up hS;by_cases hlt:j<xs.length;have dF:j<ys.length:=by omega
 refine QO ?_;refine ZDr 9 [] [] [(0,0),(1,0),(2,0),(3,1),(4,0),(5,0),(6,0),(7,1),(8,0)] (λw1 ae=>?_);replace ha:=ha.up ae;replace hb:=hb.up ae;replace hS:=hS.trans ae;refine D ?_
 (refine QP ?_ ?_<;>intro hc)
 refine RU ?_;exact ⟨by congr 1;rw [eq_comm,decide_eq_false_iff_not];exact λh=>hc (by simp [h]),hS⟩;have he:xs[j]=ys[j]:=Decidable.byContradiction hc;have hk:∀ i (h:i<xs.length),i<j+1->xs[i]=ys[i]'(by omega):=λi h hi=>by
  by_cases dw:i=j;subst dw;exact he;exact aD i h (by omega)
 exact QL (j+1) ⟨hlt,hS,hk⟩ (Xp hlt (Xr j));have fy:j=xs.length:=by omega
 subst fy;refine RT ?_;exact ⟨by congr 1;rw [eq_comm,decide_eq_true_eq];exact YaR hl (λi h h'=>aD i h h),hS⟩
abbrev RwZ (w w':World) (v:Value) (xs:List Int):Prop:=J7 3 w w' v xs
theorem Zbf (k:Nat) (w) (hk:k<=1000000):CC 212 #[.N,.I (k:Int)] w λr w'=>RwZ w w' r []:=by
 refine cW2 27 Tryz.func212 ?_;refine W ?_;have h0:SlV (α:=Int) [] w (.N) []:=Zg _ _;have eA:([]:List Int).length=0:=rfl;repeat'(first|refine W1 ?_|omega|refine VG ?_ ?_<;>intro hg|refine VC ?_ ?_<;>intro hc)
 apply Zf (Z97 rfl) rfl;by_cases fA:k=0;subst fA;refine QO ?_;refine WR ?_;exact .mk J7.nil;refine QO ?_;apply Zf (Z97 rfl) rfl;apply Zf (Z98 rfl rfl) rfl;refine W ?_;refine Z1 (Zgc (k:=k) rfl rfl rfl (by omega) (by simp [maxLen];omega) (by omega)) rfl ?_;rintro _ w1 ⟨c,rfl,bM,hS⟩;replace h0:=h0.up hS;have hr:RwZ w w1 (.slice (some ⟨w.heap.size,0,none⟩) 0 c) []:=⟨⟨[],rfl,λi h=>absurd h (Xs _),bM⟩,hS⟩
 refine W ?_;apply Zf (Zb7 rfl rfl) rfl;refine W ?_;refine WR ?_;exact .mk hr
theorem Z7G (v:Value) (xss:List (Sl Int)) (w) (hs:SlV [] w v xss) (hl:xss.length<=1000) (ai:(xss.flatMap Sl.l).length<=100000):CC 154 #[v] w λr w'=>RwZ w w' r (xss.flatMap Sl.l):=by
 have dm:∀ j,((xss.take j).flatMap Sl.l).length<=(xss.flatMap Sl.l).length:=λj=>by
  rw [<- XY j xss,Ya8,Xf];simp only [XY];have:(xss.take j).flatMap Sl.l=((xss.take j++xss.drop j).take j).flatMap Sl.l:=by rw [XY]
  omega
 have hstep:∀ j (h:j<xss.length),(xss.take (j+1)).flatMap Sl.l=(xss.take j).flatMap Sl.l++xss[j].l:=λj h=>by
  rw [Xw h,Ya8];simp
 refine cW1 36 Tryz.func154 ?_;refine W ?_;refine Z0b (σ:=Unit) (λ_=>[(0,v),(3,.I ((xss.flatMap Sl.l).length:Int))]) (λ_ w'=>w'=w) ?_ ?_;refine LP (σ:=Nat) (λj=>[(0,v),(9,v),(10,.I (xss.length:Int)),(3,.I (((xss.take j).flatMap Sl.l).length:Int)),(11,.I (j:Int))]) (λj w'=>j<=xss.length/\w'=w) (λj=>xss.length - j) 0 ⟨Xo _,rfl⟩ ?_;rintro j w2 ⟨hj,rfl⟩;by_cases hlt:j<xss.length;obtain ⟨u,an,ee⟩:=hs.sub hlt;have oS:=ee.max;have h1:=dm j;have h2:=dm (j+1);have h3:=hstep j hlt;have h4:((xss.take (j+1)).flatMap Sl.l).length=((xss.take j).flatMap Sl.l).length+xss[j].l.length:=by rw [h3,Xf]
 refine QO ?_;apply Zf (Jo rfl rfl an) rfl;refine QO ?_;refine Jj (j+1) ⟨rfl,rfl,rfl,by rw [h4,Ybn];rfl,rfl,trivial⟩ ⟨hlt,rfl⟩ (by omega);have fy:j=xss.length:=by omega
 subst fy;rw [XG];refine QO ?_;exact QT () rfl;rintro _ w2 rfl;refine W ?_;refine Z1 (Z4 rfl (Zj rfl rfl) (Zbf _ _ (by omega))) rfl ?_;rintro g w3 hr;refine W ?_;have dQ:=hs.up hr.2;refine W ?_;refine LP (σ:=Nat×Value) (λq=>[(6,q.2),(25,v),(26,.I (xss.length:Int)),(27,.I (q.1:Int))]) (λq w'=>q.1<=xss.length/\RwZ w2 w' q.2 ((xss.take q.1).flatMap Sl.l)) (λq=>xss.length - q.1) (0,g) ⟨Xo _,by simpa using hr⟩ ?_;clear hr dQ;rintro ⟨j,g⟩ w4 ⟨hj,hr⟩;dsimp only at hj hr ⊢;by_cases hlt:j<xss.length;have cP:SlV (ob g) w4 v xss:=hs.ext hr.2 (by simp) (λb hb=>.inr (hr.ob_le b hb).1);obtain ⟨u,an,ee⟩:=cP.sub hlt;have h1:=dm j;have h2:=dm (j+1);have h3:=hstep j hlt;have h4:((xss.take (j+1)).flatMap Sl.l).length=((xss.take j).flatMap Sl.l).length+xss[j].l.length:=by rw [h3,Xf]
 refine QO ?_;apply Zf (Jo rfl rfl an) rfl;refine QO ?_;refine Z1 (Jy rfl (by decide) rfl rfl hr ee (by omega) (by simp only [maxLen];omega)) rfl ?_;rintro g' w5 ⟨bW,-,-⟩;refine W ?_;exact QL (j+1,g') ⟨hlt,by dsimp only;rw [h3];exact bW⟩ (by dsimp only;omega);have fy:j=xss.length:=by omega
 subst fy;rw [XG] at hr;refine QO ?_;refine WR ?_;exact .mk hr
end Go.Proofs.YteibicnbkggiiaaGreatDoor
namespace Go.Eng
open Go
theorem Je {P:Program} {n:Nat} {fn:Func} {R:Ending->World->Prop} {e:Env} {w} {t u s q:Nat} {v x y z:Value} (hr:fn.results=#[.tmp t,.tmp u,.tmp s,.tmp q]) (ht:look e t=some v) (hu:look e u=some x) (hs:look e s=some y) (hq:look e q=some z) (h:R (.returned (.tuple #[v,x,y,z])) w):WQ n (bodyPost P fn R) .ret e w:=
 ⟨λa ha=>⟨ha.defers,.tuple #[v,x,y,z],by simp [results,hr];simpa [XD] using And.intro (ha.vals t v ht) (And.intro (ha.vals u x hu) (And.intro (ha.vals s y hs) (ha.vals q z hq))),h⟩⟩
end Go.Eng
namespace Go.Proofs.YteibicnbkggiiaaGreatDoor
open Go Go.Eng Go.RowKit
def Zt (x:Ins):List Int×List Int×List Int×Bool:=
 if x.op=1 then ([],[],[1],decide (-2147483647<=x.n/\x.n<=2147483647))
 else if x.op=2 then ([],[],[2],decide (x.n=0\/x.n=1))
 else if x.op=3 then ([],[],[3],decide (0<=x.n/\x.n<=3652058))
 else if x.op=4 then ([],[],[if x.n=0\/x.n=1 then 3 else 1],decide (0<=x.n/\x.n<7))
 else if x.op=13 then ([],[],[],true)
 else if x.op=14 then ([2],[],[],true)
 else if x.op=5\/x.op=6\/x.op=7 then ([1,1],[],[1],decide (x.n=0))
 else if x.op=8 then ([1],[],[1],decide (x.n=0))
 else if x.op=9\/x.op=10\/x.op=11 then ([1,1],[3,3],[2],decide (x.n=0))
 else if x.op=12 then ([2],[],[2],decide (x.n=0))
 else if x.op=15\/x.op=16\/x.op=17\/x.op=18 then ([3,1],[],[3],decide (x.n=0))
 else if x.op=19\/x.op=20 then ([3],[],[3],decide (x.n=0))
 else if x.op=21\/x.op=22 then ([3,3],[],[3],decide (x.n=0))
 else if x.op=23 then ([3,3],[],[1],decide (x.n=0))
 else if x.op=24 then ([],[],[],decide (x.n=0))
 else ([],[],[],false)
def Znx (X:List Nat) (w:World) (x:Ins) (r:Value) (w':World):Prop:=∃ a b c,r=.tuple #[a,b,c,.B (Zt x).2.2.2]/\SlV X w' a (Zt x).1/\SlV X w' b (Zt x).2.1/\SlV X w' c (Zt x).2.2.1/\Stp [] w w'
theorem Jf {X:List Nat} {w w':World} {x:Ins} {a b c:Value} {p ok:Bool} {ta al gi:List Int} (aD:Zt x=(ta,al,gi,ok)) (hp:p=ok) (ha:SlV X w' a ta) (hb:SlV X w' b al) (hc:SlV X w' c gi) (hS:Stp [] w w'):Ret (Znx X w x) (.returned (.tuple #[a,b,c,.B p])) w':=by
 refine .mk ⟨a,b,c,?_,?_,?_,?_,hS⟩<;>rw [aD];rw [hp];exact ha;exact hb;exact hc
theorem Z9f (X:List Nat) (x:Ins) (w:World) (je:∀ b∈X,b<w.heap.size) :
 Calls Tryz.prog 152 #[agg x] w (Ret (Znx X w x)):=by
 refine cW1 117 Tryz.func152 ?_;refine W ?_;refine Z1 (Zp rfl) rfl ?_;rintro _ w0 ⟨b,rfl,hb,ab,hS⟩;replace ab:Blk w0 b _ [.I x.op,.I x.n]:=ab;have hX:∀ b∈X,b<w0.heap.size:=λb hb=>Xc (je b hb) hS.size;refine W ?_;by_cases h1:x.op=1
 . have aD:Zt x=([],[],[1],decide (-2147483647<=x.n/\x.n<=2147483647)):=by simp [Zt,h1]
   repeat'(first|refine W1 ?_|omega|refine VG ?_ ?_<;>intro hg|refine VC ?_ ?_<;>intro hc)
   refine ZDr 13 [] [] [(1,0),(2,1),(3,0),(4,0),(5,0),(6,1),(7,0),(8,0),(9,0),(10,0),(0,2),(11,0),(12,0)] (λw1 ae=>?_);replace ab:=ab.up ae;replace hS:=hS.trans ae;replace hX:=λb hb=>Xc (hX b hb) ae.size;repeat'(first|refine D1 ?_|omega|refine Z6 rfl rfl rfl rfl (λhg=>?_) (λhg=>?_)|(refine Z2 rfl rfl rfl rfl (λhg=>?_) (λhg=>?_)<;>refine D1 ?_)|fail)
   all_goals
    refine Z7 rfl trivial (Z0 (vs:=[(0,.I 1)]) rfl (Zk _)) (λ_ _ h=>Z5.stp h) rfl ?_;rintro g wq hN;have s_g:SlV X wq g [(1:Int)]:=hN.slv hX rfl rfl (by simp [maxLen]);have hT:=Z5.stp hN;clear hN;replace ab:=ab.up hT;replace hS:=hS.trans hT;clear hT;refine D ?_;refine W ?_;refine Je rfl rfl rfl rfl rfl ?_;refine Jf aD ?_ (Zg _ _) (Zg _ _) (s_g) hS;first|rfl|(simp only [decide_eq_decide];omega)|(symm;simp only [decide_eq_false_iff_not];omega)|(simp only [decide_eq_false_iff_not];omega)
 by_cases h2:x.op=2
 . have aD:Zt x=([],[],[2],decide (x.n=0\/x.n=1)):=by simp [Zt,h2]
   repeat'(first|refine W1 ?_|omega|refine VG ?_ ?_<;>intro hg|refine VC ?_ ?_<;>intro hc)
   refine ZDr 13 [] [] [(1,0),(2,1),(3,0),(4,0),(5,0),(6,1),(7,0),(8,0),(9,0),(10,0),(0,2),(11,0),(12,0)] (λw1 ae=>?_);replace ab:=ab.up ae;replace hS:=hS.trans ae;replace hX:=λb hb=>Xc (hX b hb) ae.size;repeat'(first|refine D1 ?_|omega|refine Z6 rfl rfl rfl rfl (λhg=>?_) (λhg=>?_)|(refine Z2 rfl rfl rfl rfl (λhg=>?_) (λhg=>?_)<;>refine D1 ?_)|fail)
   all_goals
    refine Z7 rfl trivial (Z0 (vs:=[(0,.I 2)]) rfl (Zk _)) (λ_ _ h=>Z5.stp h) rfl ?_;rintro g wq hN;have s_g:SlV X wq g [(2:Int)]:=hN.slv hX rfl rfl (by simp [maxLen]);have hT:=Z5.stp hN;clear hN;replace ab:=ab.up hT;replace hS:=hS.trans hT;clear hT;refine D ?_;refine W ?_;refine Je rfl rfl rfl rfl rfl ?_;refine Jf aD ?_ (Zg _ _) (Zg _ _) (s_g) hS;first|rfl|(simp only [decide_eq_decide];omega)|(symm;simp only [decide_eq_true_eq];omega)|(simp only [decide_eq_true_eq];omega)
 by_cases h3:x.op=3
 . have aD:Zt x=([],[],[3],decide (0<=x.n/\x.n<=3652058)):=by simp [Zt,h3]
   repeat'(first|refine W1 ?_|omega|refine VG ?_ ?_<;>intro hg|refine VC ?_ ?_<;>intro hc)
   refine ZDr 13 [] [] [(1,0),(2,1),(3,0),(4,0),(5,0),(6,1),(7,0),(8,0),(9,0),(10,0),(0,2),(11,0),(12,0)] (λw1 ae=>?_);replace ab:=ab.up ae;replace hS:=hS.trans ae;replace hX:=λb hb=>Xc (hX b hb) ae.size;repeat'(first|refine D1 ?_|omega|refine Z6 rfl rfl rfl rfl (λhg=>?_) (λhg=>?_)|(refine Z2 rfl rfl rfl rfl (λhg=>?_) (λhg=>?_)<;>refine D1 ?_)|fail)
   all_goals
    refine Z7 rfl trivial (Z0 (vs:=[(0,.I 3)]) rfl (Zk _)) (λ_ _ h=>Z5.stp h) rfl ?_;rintro g wq hN;have s_g:SlV X wq g [(3:Int)]:=hN.slv hX rfl rfl (by simp [maxLen]);have hT:=Z5.stp hN;clear hN;replace ab:=ab.up hT;replace hS:=hS.trans hT;clear hT;refine D ?_;refine W ?_;refine Je rfl rfl rfl rfl rfl ?_;refine Jf aD ?_ (Zg _ _) (Zg _ _) (s_g) hS;first|rfl|(simp only [decide_eq_decide];omega)|(symm;simp only [decide_eq_false_iff_not];omega)|(simp only [decide_eq_false_iff_not];omega)
 by_cases h4:x.op=4;by_cases gh:x.n=0\/x.n=1
 . have aD:Zt x=([],[],[3],decide (0<=x.n/\x.n<7)):=by simp [Zt,h4,gh]
   repeat'(first|refine W1 ?_|omega|refine VG ?_ ?_<;>intro hg|refine VC ?_ ?_<;>intro hc)
   all_goals
    refine ZDr 14 [] [] [(0,0),(2,0),(3,1),(4,0),(5,0),(6,0),(7,1),(8,0),(9,0),(10,0),(11,0),(1,2),(12,0),(13,0)] (λw1 ae=>?_);replace ab:=ab.up ae;replace hS:=hS.trans ae;replace hX:=λb hb=>Xc (hX b hb) ae.size;repeat'(first|refine D1 ?_|omega|refine Z6 rfl rfl rfl rfl (λhg=>?_) (λhg=>?_)|(refine Z2 rfl rfl rfl rfl (λhg=>?_) (λhg=>?_)<;>refine D1 ?_)|fail)
    all_goals
     refine Z7 rfl trivial (Z0 (vs:=[(0,.I 3)]) rfl (Zk _)) (λ_ _ h=>Z5.stp h) rfl ?_;rintro g wq hN;have s_g:SlV X wq g [(3:Int)]:=hN.slv hX rfl rfl (by simp [maxLen]);have hT:=Z5.stp hN;clear hN;replace ab:=ab.up hT;replace hS:=hS.trans hT;clear hT;refine D ?_;refine W ?_;refine Je rfl rfl rfl rfl rfl ?_;refine Jf aD ?_ (Zg _ _) (Zg _ _) (s_g) hS;first|rfl|(simp only [decide_eq_decide];omega)|(symm;simp only [decide_eq_true_eq,decide_eq_false_iff_not];omega)|(simp only [decide_eq_true_eq,decide_eq_false_iff_not];omega)
 . have aD:Zt x=([],[],[1],decide (0<=x.n/\x.n<7)):=by simp [Zt,h4,gh]
   repeat'(first|refine W1 ?_|omega|refine VG ?_ ?_<;>intro hg|refine VC ?_ ?_<;>intro hc)
   all_goals
    refine ZDr 14 [] [] [(0,0),(2,0),(3,1),(4,0),(5,0),(6,0),(7,1),(8,0),(9,0),(10,0),(11,0),(1,2),(12,0),(13,0)] (λw1 ae=>?_);replace ab:=ab.up ae;replace hS:=hS.trans ae;replace hX:=λb hb=>Xc (hX b hb) ae.size;repeat'(first|refine D1 ?_|omega|refine Z6 rfl rfl rfl rfl (λhg=>?_) (λhg=>?_)|(refine Z2 rfl rfl rfl rfl (λhg=>?_) (λhg=>?_)<;>refine D1 ?_)|fail)
    all_goals
     refine Z7 rfl trivial (Z0 (vs:=[(0,.I 1)]) rfl (Zk _)) (λ_ _ h=>Z5.stp h) rfl ?_;rintro g wq hN;have s_g:SlV X wq g [(1:Int)]:=hN.slv hX rfl rfl (by simp [maxLen]);have hT:=Z5.stp hN;clear hN;replace ab:=ab.up hT;replace hS:=hS.trans hT;clear hT;refine D ?_;refine W ?_;refine Je rfl rfl rfl rfl rfl ?_;refine Jf aD ?_ (Zg _ _) (Zg _ _) (s_g) hS;first|rfl|(simp only [decide_eq_decide];omega)|(symm;simp only [decide_eq_false_iff_not];omega)|(simp only [decide_eq_false_iff_not];omega)
 by_cases cg:x.op=13;have aD:Zt x=([],[],[],true):=by simp [Zt,cg]
 focus repeat'(first|refine W1 ?_|omega|refine VG ?_ ?_<;>intro hg|refine VC ?_ ?_<;>intro hc)
 refine Je rfl rfl rfl rfl rfl ?_;refine Jf aD ?_ (Zg _ _) (Zg _ _) (Zg _ _) hS;first|rfl|(simp only [decide_eq_decide];omega)|(symm;simp only [decide_eq_true_eq,decide_eq_false_iff_not];omega)|(simp only [decide_eq_true_eq,decide_eq_false_iff_not];omega)
 by_cases cQ:x.op=14;have aD:Zt x=([2],[],[],true):=by simp [Zt,cQ]
 focus repeat'(first|refine W1 ?_|omega|refine VG ?_ ?_<;>intro hg|refine VC ?_ ?_<;>intro hc)
 refine Z1 (Z0 (vs:=[(0,.I 2)]) rfl (Zk _)) rfl ?_;rintro t wq hN;have s_t:SlV X wq t [(2:Int)]:=hN.slv hX rfl rfl (by simp [maxLen]);have hT:=Z5.stp hN;clear hN;replace ab:=ab.up hT;replace hS:=hS.trans hT;replace hX:=λb hb=>Xc (hX b hb) hT.size;clear hT;refine W ?_;refine Je rfl rfl rfl rfl rfl ?_;refine Jf aD ?_ (s_t) (Zg _ _) (Zg _ _) hS;first|rfl|(simp only [decide_eq_decide];omega)|(symm;simp only [decide_eq_true_eq,decide_eq_false_iff_not];omega)|(simp only [decide_eq_true_eq,decide_eq_false_iff_not];omega)
 by_cases h5:x.op=5\/x.op=6\/x.op=7
 . have aD:Zt x=([1,1],[],[1],decide (x.n=0)):=by rcases h5 with h|h|h<;>simp [Zt,h]
   repeat'(first|refine W1 ?_|omega|refine VG ?_ ?_<;>intro hg|refine VC ?_ ?_<;>intro hc)
   all_goals
    refine Z1 (Z0 (vs:=[(0,.I 1),(1,.I 1)]) rfl (J3 _ _)) rfl ?_;rintro t wq hN;have s_t:SlV X wq t [(1:Int),(1:Int)]:=hN.slv hX rfl rfl (by simp [maxLen]);have hT:=Z5.stp hN;clear hN;replace ab:=ab.up hT;replace hS:=hS.trans hT;replace hX:=λb hb=>Xc (hX b hb) hT.size;clear hT;refine Z1 (Z0 (vs:=[(0,.I 1)]) rfl (Zk _)) rfl ?_;rintro g wq hN;have s_g:SlV X wq g [(1:Int)]:=hN.slv hX rfl rfl (by simp [maxLen]);have hT:=Z5.stp hN;clear hN;replace ab:=ab.up hT;replace hS:=hS.trans hT;replace hX:=λb hb=>Xc (hX b hb) hT.size;replace s_t:=s_t.up hT;clear hT;refine W ?_;refine ZDr 10 [] [] [(0,0),(1,0),(2,0),(3,0),(4,1),(5,0),(6,0),(7,0),(8,0),(9,0)] (λw1 ae=>?_);replace ab:=ab.up ae;replace hS:=hS.trans ae;replace s_t:=s_t.up ae;replace s_g:=s_g.up ae;refine D ?_;refine W ?_;refine Je rfl rfl rfl rfl rfl ?_;refine Jf aD ?_ (s_t) (Zg _ _) (s_g) hS;first|rfl|(simp only [decide_eq_decide];omega)|(symm;simp only [decide_eq_true_eq,decide_eq_false_iff_not];omega)|(simp only [decide_eq_true_eq,decide_eq_false_iff_not];omega)
 by_cases h8:x.op=8
 . have aD:Zt x=([1],[],[1],decide (x.n=0)):=by simp [Zt,h8]
   repeat'(first|refine W1 ?_|omega|refine VG ?_ ?_<;>intro hg|refine VC ?_ ?_<;>intro hc)
   all_goals
    refine Z1 (Z0 (vs:=[(0,.I 1)]) rfl (Zk _)) rfl ?_;rintro t wq hN;have s_t:SlV X wq t [(1:Int)]:=hN.slv hX rfl rfl (by simp [maxLen]);have hT:=Z5.stp hN;clear hN;replace ab:=ab.up hT;replace hS:=hS.trans hT;replace hX:=λb hb=>Xc (hX b hb) hT.size;clear hT;refine Z1 (Z0 (vs:=[(0,.I 1)]) rfl (Zk _)) rfl ?_;rintro g wq hN;have s_g:SlV X wq g [(1:Int)]:=hN.slv hX rfl rfl (by simp [maxLen]);have hT:=Z5.stp hN;clear hN;replace ab:=ab.up hT;replace hS:=hS.trans hT;replace hX:=λb hb=>Xc (hX b hb) hT.size;replace s_t:=s_t.up hT;clear hT;refine W ?_;refine ZDr 10 [] [] [(0,0),(1,0),(2,0),(3,0),(4,1),(5,0),(6,0),(7,0),(8,0),(9,0)] (λw1 ae=>?_);replace ab:=ab.up ae;replace hS:=hS.trans ae;replace s_t:=s_t.up ae;replace s_g:=s_g.up ae;refine D ?_;refine W ?_;refine Je rfl rfl rfl rfl rfl ?_;refine Jf aD ?_ (s_t) (Zg _ _) (s_g) hS;first|rfl|(simp only [decide_eq_decide];omega)|(symm;simp only [decide_eq_true_eq,decide_eq_false_iff_not];omega)|(simp only [decide_eq_true_eq,decide_eq_false_iff_not];omega)
 by_cases h9:x.op=9\/x.op=10\/x.op=11
 . have aD:Zt x=([1,1],[3,3],[2],decide (x.n=0)):=by rcases h9 with h|h|h<;>simp [Zt,h]
   repeat'(first|refine W1 ?_|omega|refine VG ?_ ?_<;>intro hg|refine VC ?_ ?_<;>intro hc)
   all_goals
    refine Z1 (Z0 (vs:=[(0,.I 1),(1,.I 1)]) rfl (J3 _ _)) rfl ?_;rintro t wq hN;have s_t:SlV X wq t [(1:Int),(1:Int)]:=hN.slv hX rfl rfl (by simp [maxLen]);have hT:=Z5.stp hN;clear hN;replace ab:=ab.up hT;replace hS:=hS.trans hT;replace hX:=λb hb=>Xc (hX b hb) hT.size;clear hT;refine Z1 (Z0 (vs:=[(0,.I 3),(1,.I 3)]) rfl (J3 _ _)) rfl ?_;rintro a wq hN;have s_a:SlV X wq a [(3:Int),(3:Int)]:=hN.slv hX rfl rfl (by simp [maxLen]);have hT:=Z5.stp hN;clear hN;replace ab:=ab.up hT;replace hS:=hS.trans hT;replace hX:=λb hb=>Xc (hX b hb) hT.size;replace s_t:=s_t.up hT;clear hT;refine Z1 (Z0 (vs:=[(0,.I 2)]) rfl (Zk _)) rfl ?_;rintro g wq hN;have s_g:SlV X wq g [(2:Int)]:=hN.slv hX rfl rfl (by simp [maxLen]);have hT:=Z5.stp hN;clear hN;replace ab:=ab.up hT;replace hS:=hS.trans hT;replace hX:=λb hb=>Xc (hX b hb) hT.size;replace s_t:=s_t.up hT;replace s_a:=s_a.up hT;clear hT;refine W ?_;refine ZDr 10 [] [] [(0,0),(1,0),(2,0),(3,0),(4,1),(5,0),(6,0),(7,0),(8,0),(9,0)] (λw1 ae=>?_);replace ab:=ab.up ae;replace hS:=hS.trans ae;replace s_t:=s_t.up ae;replace s_a:=s_a.up ae;replace s_g:=s_g.up ae;refine D ?_;refine W ?_;refine Je rfl rfl rfl rfl rfl ?_;refine Jf aD ?_ (s_t) (s_a) (s_g) hS;first|rfl|(simp only [decide_eq_decide];omega)|(symm;simp only [decide_eq_true_eq,decide_eq_false_iff_not];omega)|(simp only [decide_eq_true_eq,decide_eq_false_iff_not];omega)
 by_cases ei:x.op=12
 . have aD:Zt x=([2],[],[2],decide (x.n=0)):=by simp [Zt,ei]
   repeat'(first|refine W1 ?_|omega|refine VG ?_ ?_<;>intro hg|refine VC ?_ ?_<;>intro hc)
   all_goals
    refine Z1 (Z0 (vs:=[(0,.I 2)]) rfl (Zk _)) rfl ?_;rintro t wq hN;have s_t:SlV X wq t [(2:Int)]:=hN.slv hX rfl rfl (by simp [maxLen]);have hT:=Z5.stp hN;clear hN;replace ab:=ab.up hT;replace hS:=hS.trans hT;replace hX:=λb hb=>Xc (hX b hb) hT.size;clear hT;refine Z1 (Z0 (vs:=[(0,.I 2)]) rfl (Zk _)) rfl ?_;rintro g wq hN;have s_g:SlV X wq g [(2:Int)]:=hN.slv hX rfl rfl (by simp [maxLen]);have hT:=Z5.stp hN;clear hN;replace ab:=ab.up hT;replace hS:=hS.trans hT;replace hX:=λb hb=>Xc (hX b hb) hT.size;replace s_t:=s_t.up hT;clear hT;refine W ?_;refine ZDr 10 [] [] [(0,0),(1,0),(2,0),(3,0),(4,1),(5,0),(6,0),(7,0),(8,0),(9,0)] (λw1 ae=>?_);replace ab:=ab.up ae;replace hS:=hS.trans ae;replace s_t:=s_t.up ae;replace s_g:=s_g.up ae;refine D ?_;refine W ?_;refine Je rfl rfl rfl rfl rfl ?_;refine Jf aD ?_ (s_t) (Zg _ _) (s_g) hS;first|rfl|(simp only [decide_eq_decide];omega)|(symm;simp only [decide_eq_true_eq,decide_eq_false_iff_not];omega)|(simp only [decide_eq_true_eq,decide_eq_false_iff_not];omega)
 by_cases jq:x.op=15\/x.op=16\/x.op=17\/x.op=18
 . have aD:Zt x=([3,1],[],[3],decide (x.n=0)):=by rcases jq with h|h|h|h<;>simp [Zt,h]
   repeat'(first|refine W1 ?_|omega|refine VG ?_ ?_<;>intro hg|refine VC ?_ ?_<;>intro hc)
   all_goals
    refine Z1 (Z0 (vs:=[(0,.I 3),(1,.I 1)]) rfl (J3 _ _)) rfl ?_;rintro t wq hN;have s_t:SlV X wq t [(3:Int),(1:Int)]:=hN.slv hX rfl rfl (by simp [maxLen]);have hT:=Z5.stp hN;clear hN;replace ab:=ab.up hT;replace hS:=hS.trans hT;replace hX:=λb hb=>Xc (hX b hb) hT.size;clear hT;refine Z1 (Z0 (vs:=[(0,.I 3)]) rfl (Zk _)) rfl ?_;rintro g wq hN;have s_g:SlV X wq g [(3:Int)]:=hN.slv hX rfl rfl (by simp [maxLen]);have hT:=Z5.stp hN;clear hN;replace ab:=ab.up hT;replace hS:=hS.trans hT;replace hX:=λb hb=>Xc (hX b hb) hT.size;replace s_t:=s_t.up hT;clear hT;refine W ?_;refine ZDr 10 [] [] [(0,0),(1,0),(2,0),(3,0),(4,1),(5,0),(6,0),(7,0),(8,0),(9,0)] (λw1 ae=>?_);replace ab:=ab.up ae;replace hS:=hS.trans ae;replace s_t:=s_t.up ae;replace s_g:=s_g.up ae;refine D ?_;refine W ?_;refine Je rfl rfl rfl rfl rfl ?_;refine Jf aD ?_ (s_t) (Zg _ _) (s_g) hS;first|rfl|(simp only [decide_eq_decide];omega)|(symm;simp only [decide_eq_true_eq,decide_eq_false_iff_not];omega)|(simp only [decide_eq_true_eq,decide_eq_false_iff_not];omega)
 by_cases jr:x.op=19\/x.op=20
 . have aD:Zt x=([3],[],[3],decide (x.n=0)):=by rcases jr with h|h<;>simp [Zt,h]
   repeat'(first|refine W1 ?_|omega|refine VG ?_ ?_<;>intro hg|refine VC ?_ ?_<;>intro hc)
   all_goals
    refine Z1 (Z0 (vs:=[(0,.I 3)]) rfl (Zk _)) rfl ?_;rintro t wq hN;have s_t:SlV X wq t [(3:Int)]:=hN.slv hX rfl rfl (by simp [maxLen]);have hT:=Z5.stp hN;clear hN;replace ab:=ab.up hT;replace hS:=hS.trans hT;replace hX:=λb hb=>Xc (hX b hb) hT.size;clear hT;refine Z1 (Z0 (vs:=[(0,.I 3)]) rfl (Zk _)) rfl ?_;rintro g wq hN;have s_g:SlV X wq g [(3:Int)]:=hN.slv hX rfl rfl (by simp [maxLen]);have hT:=Z5.stp hN;clear hN;replace ab:=ab.up hT;replace hS:=hS.trans hT;replace hX:=λb hb=>Xc (hX b hb) hT.size;replace s_t:=s_t.up hT;clear hT;refine W ?_;refine ZDr 10 [] [] [(0,0),(1,0),(2,0),(3,0),(4,1),(5,0),(6,0),(7,0),(8,0),(9,0)] (λw1 ae=>?_);replace ab:=ab.up ae;replace hS:=hS.trans ae;replace s_t:=s_t.up ae;replace s_g:=s_g.up ae;refine D ?_;refine W ?_;refine Je rfl rfl rfl rfl rfl ?_;refine Jf aD ?_ (s_t) (Zg _ _) (s_g) hS;first|rfl|(simp only [decide_eq_decide];omega)|(symm;simp only [decide_eq_true_eq,decide_eq_false_iff_not];omega)|(simp only [decide_eq_true_eq,decide_eq_false_iff_not];omega)
 by_cases js:x.op=21\/x.op=22
 . have aD:Zt x=([3,3],[],[3],decide (x.n=0)):=by rcases js with h|h<;>simp [Zt,h]
   repeat'(first|refine W1 ?_|omega|refine VG ?_ ?_<;>intro hg|refine VC ?_ ?_<;>intro hc)
   all_goals
    refine Z1 (Z0 (vs:=[(0,.I 3),(1,.I 3)]) rfl (J3 _ _)) rfl ?_;rintro t wq hN;have s_t:SlV X wq t [(3:Int),(3:Int)]:=hN.slv hX rfl rfl (by simp [maxLen]);have hT:=Z5.stp hN;clear hN;replace ab:=ab.up hT;replace hS:=hS.trans hT;replace hX:=λb hb=>Xc (hX b hb) hT.size;clear hT;refine Z1 (Z0 (vs:=[(0,.I 3)]) rfl (Zk _)) rfl ?_;rintro g wq hN;have s_g:SlV X wq g [(3:Int)]:=hN.slv hX rfl rfl (by simp [maxLen]);have hT:=Z5.stp hN;clear hN;replace ab:=ab.up hT;replace hS:=hS.trans hT;replace hX:=λb hb=>Xc (hX b hb) hT.size;replace s_t:=s_t.up hT;clear hT;refine W ?_;refine ZDr 10 [] [] [(0,0),(1,0),(2,0),(3,0),(4,1),(5,0),(6,0),(7,0),(8,0),(9,0)] (λw1 ae=>?_);replace ab:=ab.up ae;replace hS:=hS.trans ae;replace s_t:=s_t.up ae;replace s_g:=s_g.up ae;refine D ?_;refine W ?_;refine Je rfl rfl rfl rfl rfl ?_;refine Jf aD ?_ (s_t) (Zg _ _) (s_g) hS;first|rfl|(simp only [decide_eq_decide];omega)|(symm;simp only [decide_eq_true_eq,decide_eq_false_iff_not];omega)|(simp only [decide_eq_true_eq,decide_eq_false_iff_not];omega)
 by_cases jt:x.op=23
 . have aD:Zt x=([3,3],[],[1],decide (x.n=0)):=by simp [Zt,jt]
   repeat'(first|refine W1 ?_|omega|refine VG ?_ ?_<;>intro hg|refine VC ?_ ?_<;>intro hc)
   all_goals
    refine Z1 (Z0 (vs:=[(0,.I 3),(1,.I 3)]) rfl (J3 _ _)) rfl ?_;rintro t wq hN;have s_t:SlV X wq t [(3:Int),(3:Int)]:=hN.slv hX rfl rfl (by simp [maxLen]);have hT:=Z5.stp hN;clear hN;replace ab:=ab.up hT;replace hS:=hS.trans hT;replace hX:=λb hb=>Xc (hX b hb) hT.size;clear hT;refine Z1 (Z0 (vs:=[(0,.I 1)]) rfl (Zk _)) rfl ?_;rintro g wq hN;have s_g:SlV X wq g [(1:Int)]:=hN.slv hX rfl rfl (by simp [maxLen]);have hT:=Z5.stp hN;clear hN;replace ab:=ab.up hT;replace hS:=hS.trans hT;replace hX:=λb hb=>Xc (hX b hb) hT.size;replace s_t:=s_t.up hT;clear hT;refine W ?_;refine ZDr 10 [] [] [(0,0),(1,0),(2,0),(3,0),(4,1),(5,0),(6,0),(7,0),(8,0),(9,0)] (λw1 ae=>?_);replace ab:=ab.up ae;replace hS:=hS.trans ae;replace s_t:=s_t.up ae;replace s_g:=s_g.up ae;refine D ?_;refine W ?_;refine Je rfl rfl rfl rfl rfl ?_;refine Jf aD ?_ (s_t) (Zg _ _) (s_g) hS;first|rfl|(simp only [decide_eq_decide];omega)|(symm;simp only [decide_eq_true_eq,decide_eq_false_iff_not];omega)|(simp only [decide_eq_true_eq,decide_eq_false_iff_not];omega)
 by_cases cG:x.op=24;have aD:Zt x=([],[],[],decide (x.n=0)):=by simp [Zt,cG]
 focus repeat'(first|refine W1 ?_|omega|refine VG ?_ ?_<;>intro hg|refine VC ?_ ?_<;>intro hc)
 refine ZDr 10 [] [] [(0,0),(1,0),(2,0),(3,0),(4,1),(5,0),(6,0),(7,0),(8,0),(9,0)] (λw1 ae=>?_);replace ab:=ab.up ae;replace hS:=hS.trans ae;refine D ?_;refine W ?_;refine Je rfl rfl rfl rfl rfl ?_;refine Jf aD ?_ (Zg _ _) (Zg _ _) (Zg _ _) hS;first|rfl|(simp only [decide_eq_decide];omega)|(symm;simp only [decide_eq_true_eq,decide_eq_false_iff_not];omega)|(simp only [decide_eq_true_eq,decide_eq_false_iff_not];omega)
 have aD:Zt x=([],[],[],false):=by simp [Zt,h1,h2,h3,h4,cg,cQ,h5,h8,h9,ei,jq,jr,js,jt,cG]
 repeat'(first|refine W1 ?_|omega|refine VG ?_ ?_<;>intro hg|refine VC ?_ ?_<;>intro hc)
 refine Je rfl rfl rfl rfl rfl ?_;refine Jf aD ?_ (Zg _ _) (Zg _ _) (Zg _ _) hS;first|rfl|(simp only [decide_eq_decide];omega)|(symm;simp only [decide_eq_true_eq,decide_eq_false_iff_not];omega)|(simp only [decide_eq_true_eq,decide_eq_false_iff_not];omega)
end Go.Proofs.YteibicnbkggiiaaGreatDoor
namespace Go.Eng
open Go
structure RwT where
 lo:Int
 hi:Int
 t:Str
 g:Str
instance:Z8 RwT where
 k:=4
 enc:=λx=>[.I x.lo,.I x.hi,str x.t,str x.g]
 len:=λ_=>rfl
 one:=by intro x u hu;simp at hu;rcases hu with rfl|rfl|rfl|rfl<;>rfl
end Go.Eng
namespace Go.Proofs.YteibicnbkggiiaaGreatDoor
open Go Go.Eng Go.RowKit
theorem Jm (a b:Int) (s t:Str) (w):(Instr.build 297 #[(0,.I a),(1,.I b),(2,str s),(3,str t)]).run Tryz.prog w=.ok (agg (RwT.mk a b s t)) w:=by kernel_rfl
theorem Jg (x:RwT) (w):(Instr.buildSlice 294 1 #[(0,agg x)]).run Tryz.prog w=.ok (.slice (some ⟨w.heap.size,0,none⟩) 1 1) (w.alloc (.cells (Z8.enc x).toArray 297)):=by kernel_rfl
theorem Zbg (x y:RwT) (w):(Instr.buildSlice 294 2 #[(0,agg x),(1,agg y)]).run Tryz.prog w=.ok (.slice (some ⟨w.heap.size,0,none⟩) 2 2) (w.alloc (.cells (Z8.enc x++Z8.enc y).toArray 297)):=by kernel_rfl
theorem ZdK (a b c d e f g:Str) (w):(Instr.buildSlice 168 7 #[(0,str a),(1,str b),(2,str c),(3,str d),(4,str e),(5,str f),(6,str g)]).run Tryz.prog w=.ok (.slice (some ⟨w.heap.size,0,none⟩) 7 7) (w.alloc (.cells #[str a,str b,str c,str d,str e,str f,str g] 9)):=by kernel_rfl
def Z26:List Str:=[[100],[100],[110],[110],[110],[110],[110]]
def Zl (x:Ins) (a z:Nat):List RwT:=
 if x.op=1 then [⟨-2147483647,2147483647,[],[110]⟩]
 else if x.op=2 then [⟨0,1,[],[98]⟩]
 else if x.op=3 then [⟨0,3652058,[],[100]⟩]
 else if x.op=4 then (if 0<=x.n/\x.n<7 then [⟨0,6,[],Z26.getD x.n.toNat []⟩] else [])
 else if x.op=5\/x.op=6\/x.op=7 then [⟨0,0,[110,110],[110]⟩]
 else if x.op=8 then [⟨0,0,[110],[110]⟩]
 else if x.op=9\/x.op=10\/x.op=11 then [⟨0,0,[110,110],[98]⟩,⟨0,0,[100,100],[98]⟩]
 else if x.op=12 then [⟨0,0,[98],[98]⟩]
 else if x.op=13 then [⟨(a:Int)+1,(z:Int) - 1,[],[]⟩]
 else if x.op=14 then [⟨(a:Int)+1,(z:Int) - 1,[98],[]⟩]
 else if x.op=15\/x.op=16\/x.op=17\/x.op=18 then [⟨0,0,[100,110],[100]⟩]
 else if x.op=19\/x.op=20 then [⟨0,0,[100],[100]⟩]
 else if x.op=21\/x.op=22 then [⟨0,0,[100,100],[100]⟩]
 else if x.op=23 then [⟨0,0,[100,100],[110]⟩]
 else if x.op=24 then [⟨0,0,[],[]⟩]
 else []
theorem ZdL (X:List Nat) (x:Ins) (a z:Nat) (w:World) (ha:a<=100000) (hz:z<=100000) (je:∀ b∈X,b<w.heap.size) :
 CC 219 #[agg x,.I (a:Int),.I (z:Int)] w λr w'=>SlV X w' r (Zl x a z)/\Stp [] w w':=by
 refine cW3 102 Tryz.func219 ?_;refine W ?_;refine Z1 (Zp rfl) rfl ?_;rintro _ w0 ⟨b,rfl,hb,ab,hS⟩;replace ab:Blk w0 b _ [.I x.op,.I x.n]:=ab;have hX:∀ b∈X,b<w0.heap.size:=λb hb=>Xc (je b hb) hS.size;refine W ?_;refine Z1 (Z0 (vs:=[(0,str [100]),(1,str [100]),(2,str [110]),(3,str [110]),(4,str [110]),(5,str [110]),(6,str [110])]) rfl (ZdK _ _ _ _ _ _ _)) rfl ?_;rintro fv w1 hN;have s_f:SlV X w1 fv Z26:=hN.slv hX rfl rfl (by simp [Z26,maxLen]);have hT:=Z5.stp hN;clear hN;replace ab:=ab.up hT;replace hS:=hS.trans hT;replace hX:=λb hb=>Xc (hX b hb) hT.size;clear hT;refine W ?_;by_cases h1:x.op=1
 . have aD:Zl x a z=[⟨-2147483647,2147483647,[],[110]⟩]:=by simp [Zl,h1]
   refine QO ?_
   all_goals
    refine W ?_;apply Za (vs:=[(0,.I _),(1,.I _),(2,str []),(3,str [110])]) rfl (Jm _ _ _ _) rfl;refine Z1 (Z0 (vs:=[(0,agg (⟨-2147483647,2147483647,[],[110]⟩:RwT))]) rfl (Jg _)) rfl ?_;rintro g wq hN;have s_g:SlV X wq g [(⟨-2147483647,2147483647,[],[110]⟩:RwT)]:=hN.slv hX rfl (by simp) (by simp [maxLen]);have hT:=Z5.stp hN;clear hN;refine W ?_;refine WR ?_;refine .mk ⟨?_,hS.trans hT⟩;rw [aD];exact s_g
 by_cases h2:x.op=2
 . have aD:Zl x a z=[⟨0,1,[],[98]⟩]:=by simp [Zl,h2]
   refine QO ?_
   all_goals
    refine W ?_;apply Za (vs:=[(0,.I _),(1,.I _),(2,str []),(3,str [98])]) rfl (Jm _ _ _ _) rfl;refine Z1 (Z0 (vs:=[(0,agg (⟨0,1,[],[98]⟩:RwT))]) rfl (Jg _)) rfl ?_;rintro g wq hN;have s_g:SlV X wq g [(⟨0,1,[],[98]⟩:RwT)]:=hN.slv hX rfl (by simp) (by simp [maxLen]);have hT:=Z5.stp hN;clear hN;refine W ?_;refine WR ?_;refine .mk ⟨?_,hS.trans hT⟩;rw [aD];exact s_g
 by_cases h3:x.op=3
 . have aD:Zl x a z=[⟨0,3652058,[],[100]⟩]:=by simp [Zl,h3]
   refine QO ?_
   all_goals
    refine W ?_;apply Za (vs:=[(0,.I _),(1,.I _),(2,str []),(3,str [100])]) rfl (Jm _ _ _ _) rfl;refine Z1 (Z0 (vs:=[(0,agg (⟨0,3652058,[],[100]⟩:RwT))]) rfl (Jg _)) rfl ?_;rintro g wq hN;have s_g:SlV X wq g [(⟨0,3652058,[],[100]⟩:RwT)]:=hN.slv hX rfl (by simp) (by simp [maxLen]);have hT:=Z5.stp hN;clear hN;refine W ?_;refine WR ?_;refine .mk ⟨?_,hS.trans hT⟩;rw [aD];exact s_g
 by_cases h4:x.op=4;by_cases hn:0<=x.n/\x.n<7
 . have hlt:x.n.toNat<Z26.length:=by show x.n.toNat<7;omega
   have rD:x.n=(x.n.toNat:Int):=by omega
   have aD:Zl x a z=[⟨0,6,[],Z26[x.n.toNat]⟩]:=by
    unfold Zl;rw [if_neg h1,if_neg h2,if_neg h3,if_pos h4,if_pos hn];simp [List.getD,hlt]
   refine QO ?_
   all_goals
    refine W ?_;apply Za (vs:=[(0,.I 0),(1,.I 6),(2,str []),(3,str _)]) rfl (Jm _ _ _ _) rfl;refine Z1 (Z0 (vs:=[(0,agg (⟨0,6,[],Z26[x.n.toNat]⟩:RwT))]) rfl (Jg _)) rfl ?_;rintro g wq hN;have s_g:SlV X wq g [(⟨0,6,[],Z26[x.n.toNat]⟩:RwT)]:=hN.slv hX rfl (by simp) (by simp [maxLen]);have hT:=Z5.stp hN;clear hN;refine W ?_;refine WR ?_;refine .mk ⟨?_,hS.trans hT⟩;rw [aD];exact s_g
 . have aD:Zl x a z=[]:=by
    unfold Zl;rw [if_neg h1,if_neg h2,if_neg h3,if_pos h4,if_neg hn]
   repeat'(first|refine W1 ?_|omega|refine VG ?_ ?_<;>intro hg|refine VC ?_ ?_<;>intro hc)
   all_goals
    refine WR ?_;refine .mk ⟨?_,hS⟩;rw [aD];exact Zg _ _
 by_cases h5:x.op=5\/x.op=6\/x.op=7
 . have aD:Zl x a z=[⟨0,0,[110,110],[110]⟩]:=by rcases h5 with h|h|h<;>simp [Zl,h]
   repeat'(first|refine W1 ?_|omega|refine VG ?_ ?_<;>intro hg|refine VC ?_ ?_<;>intro hc)
   all_goals
    refine W ?_;apply Za (vs:=[(0,.I _),(1,.I _),(2,str [110,110]),(3,str [110])]) rfl (Jm _ _ _ _) rfl;refine Z1 (Z0 (vs:=[(0,agg (⟨0,0,[110,110],[110]⟩:RwT))]) rfl (Jg _)) rfl ?_;rintro g wq hN;have s_g:SlV X wq g [(⟨0,0,[110,110],[110]⟩:RwT)]:=hN.slv hX rfl (by simp) (by simp [maxLen]);have hT:=Z5.stp hN;clear hN;refine W ?_;refine WR ?_;refine .mk ⟨?_,hS.trans hT⟩;rw [aD];exact s_g
 by_cases h8:x.op=8
 . have aD:Zl x a z=[⟨0,0,[110],[110]⟩]:=by simp [Zl,h8]
   refine QO ?_
   all_goals
    refine W ?_;apply Za (vs:=[(0,.I _),(1,.I _),(2,str [110]),(3,str [110])]) rfl (Jm _ _ _ _) rfl;refine Z1 (Z0 (vs:=[(0,agg (⟨0,0,[110],[110]⟩:RwT))]) rfl (Jg _)) rfl ?_;rintro g wq hN;have s_g:SlV X wq g [(⟨0,0,[110],[110]⟩:RwT)]:=hN.slv hX rfl (by simp) (by simp [maxLen]);have hT:=Z5.stp hN;clear hN;refine W ?_;refine WR ?_;refine .mk ⟨?_,hS.trans hT⟩;rw [aD];exact s_g
 by_cases h9:x.op=9\/x.op=10\/x.op=11
 . have aD:Zl x a z=[⟨0,0,[110,110],[98]⟩,⟨0,0,[100,100],[98]⟩]:=by rcases h9 with h|h|h<;>simp [Zl,h]
   repeat'(first|refine W1 ?_|omega|refine VG ?_ ?_<;>intro hg|refine VC ?_ ?_<;>intro hc)
   all_goals
    refine W ?_;apply Za (vs:=[(0,.I _),(1,.I _),(2,str [110,110]),(3,str [98])]) rfl (Jm _ _ _ _) rfl;refine W ?_;apply Za (vs:=[(0,.I _),(1,.I _),(2,str [100,100]),(3,str [98])]) rfl (Jm _ _ _ _) rfl;refine Z1 (Z0 (vs:=[(0,agg (⟨0,0,[110,110],[98]⟩:RwT)),(1,agg (⟨0,0,[100,100],[98]⟩:RwT))]) rfl (Zbg _ _)) rfl ?_;rintro g wq hN;have s_g:SlV X wq g [(⟨0,0,[110,110],[98]⟩:RwT),(⟨0,0,[100,100],[98]⟩:RwT)]:=hN.slv hX rfl (by simp) (by simp [maxLen]);have hT:=Z5.stp hN;clear hN;refine W ?_;refine WR ?_;refine .mk ⟨?_,hS.trans hT⟩;rw [aD];exact s_g
 by_cases ei:x.op=12
 . have aD:Zl x a z=[⟨0,0,[98],[98]⟩]:=by simp [Zl,ei]
   refine QO ?_
   all_goals
    refine W ?_;apply Za (vs:=[(0,.I _),(1,.I _),(2,str [98]),(3,str [98])]) rfl (Jm _ _ _ _) rfl;refine Z1 (Z0 (vs:=[(0,agg (⟨0,0,[98],[98]⟩:RwT))]) rfl (Jg _)) rfl ?_;rintro g wq hN;have s_g:SlV X wq g [(⟨0,0,[98],[98]⟩:RwT)]:=hN.slv hX rfl (by simp) (by simp [maxLen]);have hT:=Z5.stp hN;clear hN;refine W ?_;refine WR ?_;refine .mk ⟨?_,hS.trans hT⟩;rw [aD];exact s_g
 by_cases cg:x.op=13
 . have aD:Zl x a z=[⟨(a:Int)+1,(z:Int) - 1,[],[]⟩]:=by simp [Zl,cg]
   refine QO ?_
   all_goals
    refine W ?_;apply Za (vs:=[(0,.I _),(1,.I _),(2,str []),(3,str [])]) rfl (Jm _ _ _ _) rfl;refine Z1 (Z0 (vs:=[(0,agg (⟨(a:Int)+1,(z:Int) - 1,[],[]⟩:RwT))]) rfl (Jg _)) rfl ?_;rintro g wq hN;have s_g:SlV X wq g [(⟨(a:Int)+1,(z:Int) - 1,[],[]⟩:RwT)]:=hN.slv hX rfl (by simp) (by simp [maxLen]);have hT:=Z5.stp hN;clear hN;refine W ?_;refine WR ?_;refine .mk ⟨?_,hS.trans hT⟩;rw [aD];exact s_g
 by_cases cQ:x.op=14
 . have aD:Zl x a z=[⟨(a:Int)+1,(z:Int) - 1,[98],[]⟩]:=by simp [Zl,cQ]
   refine QO ?_
   all_goals
    refine W ?_;apply Za (vs:=[(0,.I _),(1,.I _),(2,str [98]),(3,str [])]) rfl (Jm _ _ _ _) rfl;refine Z1 (Z0 (vs:=[(0,agg (⟨(a:Int)+1,(z:Int) - 1,[98],[]⟩:RwT))]) rfl (Jg _)) rfl ?_;rintro g wq hN;have s_g:SlV X wq g [(⟨(a:Int)+1,(z:Int) - 1,[98],[]⟩:RwT)]:=hN.slv hX rfl (by simp) (by simp [maxLen]);have hT:=Z5.stp hN;clear hN;refine W ?_;refine WR ?_;refine .mk ⟨?_,hS.trans hT⟩;rw [aD];exact s_g
 by_cases jq:x.op=15\/x.op=16\/x.op=17\/x.op=18
 . have aD:Zl x a z=[⟨0,0,[100,110],[100]⟩]:=by rcases jq with h|h|h|h<;>simp [Zl,h]
   repeat'(first|refine W1 ?_|omega|refine VG ?_ ?_<;>intro hg|refine VC ?_ ?_<;>intro hc)
   all_goals
    refine W ?_;apply Za (vs:=[(0,.I _),(1,.I _),(2,str [100,110]),(3,str [100])]) rfl (Jm _ _ _ _) rfl;refine Z1 (Z0 (vs:=[(0,agg (⟨0,0,[100,110],[100]⟩:RwT))]) rfl (Jg _)) rfl ?_;rintro g wq hN;have s_g:SlV X wq g [(⟨0,0,[100,110],[100]⟩:RwT)]:=hN.slv hX rfl (by simp) (by simp [maxLen]);have hT:=Z5.stp hN;clear hN;refine W ?_;refine WR ?_;refine .mk ⟨?_,hS.trans hT⟩;rw [aD];exact s_g
 by_cases jr:x.op=19\/x.op=20
 . have aD:Zl x a z=[⟨0,0,[100],[100]⟩]:=by rcases jr with h|h<;>simp [Zl,h]
   (refine QP ?_ ?_<;>intro hc)
   all_goals
    refine W ?_;apply Za (vs:=[(0,.I _),(1,.I _),(2,str [100]),(3,str [100])]) rfl (Jm _ _ _ _) rfl;refine Z1 (Z0 (vs:=[(0,agg (⟨0,0,[100],[100]⟩:RwT))]) rfl (Jg _)) rfl ?_;rintro g wq hN;have s_g:SlV X wq g [(⟨0,0,[100],[100]⟩:RwT)]:=hN.slv hX rfl (by simp) (by simp [maxLen]);have hT:=Z5.stp hN;clear hN;refine W ?_;refine WR ?_;refine .mk ⟨?_,hS.trans hT⟩;rw [aD];exact s_g
 by_cases js:x.op=21\/x.op=22
 . have aD:Zl x a z=[⟨0,0,[100,100],[100]⟩]:=by rcases js with h|h<;>simp [Zl,h]
   (refine QP ?_ ?_<;>intro hc)
   all_goals
    refine W ?_;apply Za (vs:=[(0,.I _),(1,.I _),(2,str [100,100]),(3,str [100])]) rfl (Jm _ _ _ _) rfl;refine Z1 (Z0 (vs:=[(0,agg (⟨0,0,[100,100],[100]⟩:RwT))]) rfl (Jg _)) rfl ?_;rintro g wq hN;have s_g:SlV X wq g [(⟨0,0,[100,100],[100]⟩:RwT)]:=hN.slv hX rfl (by simp) (by simp [maxLen]);have hT:=Z5.stp hN;clear hN;refine W ?_;refine WR ?_;refine .mk ⟨?_,hS.trans hT⟩;rw [aD];exact s_g
 by_cases jt:x.op=23
 . have aD:Zl x a z=[⟨0,0,[100,100],[110]⟩]:=by simp [Zl,jt]
   refine QO ?_
   all_goals
    refine W ?_;apply Za (vs:=[(0,.I _),(1,.I _),(2,str [100,100]),(3,str [110])]) rfl (Jm _ _ _ _) rfl;refine Z1 (Z0 (vs:=[(0,agg (⟨0,0,[100,100],[110]⟩:RwT))]) rfl (Jg _)) rfl ?_;rintro g wq hN;have s_g:SlV X wq g [(⟨0,0,[100,100],[110]⟩:RwT)]:=hN.slv hX rfl (by simp) (by simp [maxLen]);have hT:=Z5.stp hN;clear hN;refine W ?_;refine WR ?_;refine .mk ⟨?_,hS.trans hT⟩;rw [aD];exact s_g
 by_cases cG:x.op=24
 . have aD:Zl x a z=[⟨0,0,[],[]⟩]:=by simp [Zl,cG]
   refine QO ?_
   all_goals
    refine W ?_;apply Za (vs:=[(0,.I _),(1,.I _),(2,str []),(3,str [])]) rfl (Jm _ _ _ _) rfl;refine Z1 (Z0 (vs:=[(0,agg (⟨0,0,[],[]⟩:RwT))]) rfl (Jg _)) rfl ?_;rintro g wq hN;have s_g:SlV X wq g [(⟨0,0,[],[]⟩:RwT)]:=hN.slv hX rfl (by simp) (by simp [maxLen]);have hT:=Z5.stp hN;clear hN;refine W ?_;refine WR ?_;refine .mk ⟨?_,hS.trans hT⟩;rw [aD];exact s_g
 have aD:Zl x a z=[]:=by simp [Zl,h1,h2,h3,h4,h5,h8,h9,ei,cg,cQ,jq,jr,js,jt,cG]
 refine QO ?_;refine WR ?_;refine .mk ⟨?_,hS⟩;rw [aD];exact Zg _ _
abbrev Shp:=List Int
def Zq (x:Ins) (s:Shp):Option Shp:=
 let e:=Zt x
 let k:=s.length - e.1.length
 if e.2.2.2=true/\e.1.length<=s.length/\(s.drop k=e.1\/e.2.1≠[]/\s.drop k=e.2.1)/\(s.take k++e.2.2.1).length<=16 then some (s.take k++e.2.2.1) else none
def ZO (st:List (Option Shp)) (t:Int) (sh:Shp):Option (List (Option Shp)):=
 if 0<=t/\t<st.length then
  match st.getD t.toNat none with
  | some s=>if s=sh then some st else none
  | none=>some (st.set t.toNat (some sh))
 else none
def J0 (st:List (Option Shp)) (i:Nat) (x:Ins):Option (List (Option Shp)):=
 match st.getD i none with
 | none=>none
 | some s=>
   match Zq x s with
   | none=>none
   | some nx=>
     if x.op=24 then (if i+1=st.length/\s.length=1 then some st else none)
     else if x.op=13 then (if x.n > i then ZO st x.n nx else none)
     else if x.op=14 then (if x.n > i then (ZO st x.n nx).bind (λst'=>ZO st' ((i:Int)+1) nx) else none)
     else ZO st ((i:Int)+1) nx
def Z1a (code:List Ins):Nat->List (Option Shp)->Option (List (Option Shp))
 | 0,st=>some st
 | k+1,st=>(Z1a code k st).bind (λst'=>J0 st' k (code.getD k ⟨0,0⟩))
def Z01 (code:List Ins):Int×Int:=
 if code.length=0\/code.length > 200 then (0,22) else
  match Z1a code code.length ((some []) :: List.replicate (code.length - 1) none) with
  | none=>(0,22)
  | some st=>(((st.getD (code.length - 1) none).getD []).headD 0,0)
theorem Js {st st':List (Option Shp)} {t:Int} {sh:Shp} (h:ZO st t sh=some st'):st'.length=st.length:=by
 unfold ZO at h;split at h;split at h;split at h;cases h;rfl;cases h;cases h;simp;cases h
end Go.Proofs.YteibicnbkggiiaaGreatDoor
namespace Go.Eng
open Go Go.RowKit Go.Proofs
theorem Row.slvX {α:Type} [Z3 α] {X:List Nat} {w} {base T:Nat} {v:Value} {xs:List α} (h:Row X w base T v xs) (hX:∀ b∈X,b∉ob v):SlV X w v xs:=by
 obtain ⟨css,hl,hr,ho⟩:=h;have hk:∀ c∈css,c.length=Z3.k α:=by
  intro c hc;obtain ⟨i,hi,rfl⟩:=Xv hc;exact Z3.len (hr i (by omega) hi)
 rcases ho.2 with ⟨rfl,hn⟩|⟨q,cap,cur,rfl,hb,hg,ca,bL,bu,ht⟩
 exact ⟨none,0,by rw [hn],by omega,by simp [maxLen],λ_=>rfl,λi hi=>by omega⟩;refine ⟨some ⟨q,0,none⟩,cap,rfl,ca,bL,λh=>by simp at h,λi hi=>?_⟩;refine ⟨q,0,css[i]'(by omega),rfl,(Xx.1 hg).1,λhx=>hX q hx (by simp [ob]),?_,λj u hu=>?_⟩;exact Z3.ext (hr i hi (by omega)) (Stp.refl [] w) (by simp) (λb hb=>.inl (by simp [hb]));have h1:=Z04 css hk i (by omega) j u hu;rw [<- ht,Yap] at h1;split at h1;have h2:cur[i * Z3.k α+j]?=some u:=by simpa using h1
 rw [XL,cell_of_row w q _ cur T (0,0) hg];exact h2;cases h1
end Go.Eng
namespace Go.Proofs.YteibicnbkggiiaaGreatDoor
open Go Go.Eng Go.RowKit
abbrev JL (st:List (Option Shp)):List (Sl Int):=st.map (λo=>⟨o.getD []⟩)
abbrev Ji (st:List (Option Shp)):List Bool:=st.map Option.isSome
structure Vf (w:World) (bv base:Nat) (cv hv sv:Value) (code:List Ins) (st:List (Option Shp)):Prop where
 blk:Blk w bv 178 [cv,hv,sv]
 cod:SlV (bv :: (ob hv++ob sv)) w cv code
 shp:Row (bv :: ob sv) w base 22 hv (JL st)
 seen:Row [] w base 4 sv (Ji st)
 nh:bv∉ob hv
 ns:bv∉ob sv
 hi:base<=w.heap.size
 apart:∀ b∈ob hv,b∉ob sv
 len:st.length=code.length
theorem Vf.up {w w':World} {bv base:Nat} {cv hv sv:Value} {code:List Ins} {st:List (Option Shp)} (h:Vf w bv base cv hv sv code st) (hS:Stp [] w w'):Vf w' bv base cv hv sv code st:=
 ⟨h.blk.up hS,h.cod.up hS,h.shp.up hS,h.seen.up hS,h.nh,h.ns,Xl h.hi hS.size,h.apart,h.len⟩
theorem Z2v (bv base:Nat) (cv hv sv uv:Value) (code:List Ins) (st:List (Option Shp)) (t:Int) (s:Shp) (w) (h:Vf w bv base cv hv sv code st) (ht:0<=t) (hs:SlV (bv :: (ob hv++ob sv)) w uv s) :
 CC 155 #[pQ bv,.I t,uv] w λr w'=>Stp (bv :: (ob hv++ob sv)) w w'/\r=.B (ZO st t s).isSome/\∀ st',ZO st t s=some st'->Vf w' bv base cv hv sv code st':=by
 have ab:=h.blk;have ju:=h.cod;have aW:=ju.max;have ai:=h.len;have jv:=h.nh;have fR:=h.ns;have fC:=h.shp.slvX (λb hb=>by
  rcases Xg.1 hb with rfl|hb
  exact jv;exact λcJ=>h.apart b cJ hb)
 have eB:=h.seen.slv0;have fY:(JL st).length=st.length:=by simp [JL]
 have eW:(Ji st).length=st.length:=by simp [Ji]
 refine cW3 45 Tryz.func155 ?_;refine W ?_;by_cases hlt:t<code.length
 case neg=>
  have hr:ZO st t s=none:=by rw [ZO,if_neg (by omega)]
  refine RT ?_;exact ⟨Stp.refl _ _,by rw [hr];rfl,λst' h=>by rw [hr] at h;cases h⟩
 obtain ⟨k,rfl⟩:∃ k:Nat,t=(k:Int):=⟨t.toNat,by omega⟩
 have hk:k<st.length:=by omega
 have bj:k<(JL st).length:=by omega
 have dG:k<(Ji st).length:=by omega
 have fD:(Ji st)[k]=(st[k]).isSome:=by simp [Ji]
 have fp:st.getD ((k:Int)).toNat none=st[k]:=by simp [List.getD,hk]
 cases aB:st[k] with
 | some s0=>
   have dO:(Ji st)[k]=true:=by rw [fD,aB];rfl
   have jw:ZO st (k:Int) s=if s0=s then some st else none:=by
    rw [ZO,if_pos (by omega),fp,aB]
   (refine QP ?_ ?_<;>intro hc)
   obtain ⟨u,an,ee⟩:=fC.sub bj;have jl:(JL st)[k].l=s0:=by simp [JL,aB]
   apply Zf (Jo rfl rfl an) rfl;refine W ?_;refine CM (Zj rfl rfl) (Z2W _ _ _ _ _ (ee.wk (by simp)) (hs.wk (by simp))) ?_;rintro _ w2 ⟨rfl,hS⟩;refine W ?_;refine WR ?_;rw [jl];refine .mk ⟨hS.mn,?_,λst' h'=>?_⟩;rw [jw];by_cases he:s0=s<;>simp [he];rw [jw] at h';split at h';cases h';exact h.up hS;cases h';rw [dO] at hc;exact absurd hc (by simp)
 | none=>
   have dO:(Ji st)[k]=false:=by rw [fD,aB];rfl
   have jw:ZO st (k:Int) s=some (st.set k (some s)):=by
    rw [ZO,if_pos (by omega),fp,aB];simp
   (refine QP ?_ ?_<;>intro hc)
   rw [dO] at hc;exact absurd hc (by simp);refine WC_drawn 15 (ob hv++ob sv) [] [(0,0),(1,0),(2,0),(3,1),(4,0),(5,0),(6,0),(7,0),(8,1),(9,0),(10,0),(11,0),(12,2),(13,0),(14,2)] rfl mixed (by kernel_rfl) (by kernel_rfl) (by kernel_rfl) (λw1 ae=>?_);have nb:bv∉ob hv++ob sv:=λhb=>(Xd.1 hb).elim jv fR;replace ab:=ab.up ae;have lz:=eB.up ae;have nt:=fC.up ae;have rs:=h.seen.up ae;have rh:=h.shp.up ae;refine D ?_
   try (refine WD_read rfl trivial (λw' aE=>ZM rfl rfl (ab.ext aE nb) rfl) rfl ?_)
   refine D ?_
   try (refine WD_read rfl trivial (λw' aE=>ZM rfl rfl (ab.ext aE nb) rfl) rfl ?_)
   refine D ?_;refine Z33 rfl trivial (Z0Y (α:=Bool) (y':=true) (u:=.B true) rfl rfl rfl rfl rs dG) (λ_ _ h=>h.2.mono (by simp_all)) ?_;rintro _ w3 ⟨rs3,aq⟩;replace rh:=rh.ext (X':=bv :: ob sv) aq (λb hb=>⟨XW _ hb,λcJ=>h.apart b cJ hb⟩) (λ_ h=>.inl h);have nu:=rh.slvX (λb hb=>by
    rcases Xg.1 hb with rfl|hb
    exact jv;exact λcJ=>h.apart b cJ hb)
   have ci:Stp (bv :: (ob hv++ob sv)) w w3:=ae.mn.trans (aq.mono (λb hb=>by simp [hb]));have dQ:=hs.ext ci (λ_ h=>h) (λ_ h=>.inl h);refine D ?_;refine Z33 rfl trivial (Z0Y (α:=Sl Int) (y':=⟨s⟩) (u:=uv) rfl rfl rfl ⟨uv,dQ.cells,dQ.wk (λb hb=>by simp at hb;rcases hb with h|h|h<;>simp [h])⟩ rh bj) (λ_ _ h=>h.2.mono (by simp_all)) ?_;rintro _ w4 ⟨rh4,aA⟩;refine D ?_;refine W ?_;refine WR ?_;have gY:Stp (bv :: (ob hv++ob sv)) w w4:=ci.trans (aA.mono (λb hb=>by simp [hb]));refine .mk ⟨gY,by rw [jw];rfl,λst' h'=>?_⟩;rw [jw] at h';cases h';have rs4:=rs3.keep aA (λb hb=>h.apart b hb);refine ⟨(ab.ext aq fR).ext aA jv,h.cod.ext gY (λ_ h=>h) (λ_ h=>.inl h),?_,?_,jv,fR,Xl h.hi gY.size,h.apart,by simpa using h.len⟩;have e:JL (st.set k (some s))=(JL st).set k ⟨s⟩:=by simp [JL,List.map_set]
   rw [e];exact rh4;have e:Ji (st.set k (some s))=(Ji st).set k true:=by simp [Ji,List.map_set]
   rw [e];exact rs4
def tyB (k:Int):UInt8:=if k=1 then 110 else if k=2 then 98 else 100
def Zo (s:Shp):Str:=s.map tyB
def Z1b:Option Shp->Str
 | none=>[63]
 | some s=>Zo s
def okS (s:Shp):Prop:=∀ k∈s,k=1\/k=2\/k=3
theorem Zgq {a b:Int} (ha:a=1\/a=2\/a=3) (hb:b=1\/b=2\/b=3) (h:tyB a=tyB b):a=b:=by
 rcases ha with rfl|rfl|rfl<;>rcases hb with rfl|rfl|rfl<;>first|rfl|(exfalso;revert h;decide)
theorem Z50:∀ {a b:Shp},okS a->okS b->Zo a=Zo b->a=b
 | [],[],_,_,_=>rfl
 | [],_ :: _,_,_,h=>by simp [Zo] at h
 | _ :: _,[],_,_,h=>by simp [Zo] at h
 | x :: a, y :: b, ha, hb, h => by
   simp only [Zo,Xz,Ya5] at h;rw [Zgq (ha x (by simp)) (hb y (by simp)) h.1,Z50 (a:=a) (b:=b) (λk hk=>ha k (by simp [hk])) (λk hk=>hb k (by simp [hk])) h.2]
theorem Zko (k:Int):tyB k≠63:=by
 unfold tyB;split;decide;split<;>decide
theorem Z6I (s:Shp):Zo s≠[63]:=by
 intro h;rcases s with _|⟨a,_|⟨b,r⟩⟩
 simp [Zo] at h;simp [Zo] at h;exact Zko a h;simp [Zo] at h
theorem Z51 (s:Shp):(Zo s).length=s.length:=by simp [Zo]
def Z7H (n:Int) (sh:Str) (r:RwT):Option Str:=
 if r.lo<=n/\n<=r.hi/\r.t.length<=sh.length/\sh.drop (sh.length - r.t.length)=r.t/\sh.length - r.t.length+r.g.length<=16 then some (sh.take (sh.length - r.t.length)++r.g) else none
def Zu (n:Int) (sh:Str):List RwT->Option Str
 | []=>none
 | r :: l => match Z7H n sh r with
   | some s=>some s
   | none=>Zu n sh l
def Z0J (x:Ins) (a z:Nat) (sh:Str):Option Str:=Zu x.n sh (Zl x a z)
def Zbh (strs:List Str) (t:Int) (nx:Str):Option (List Str):=if strs.getD t.toNat []≠[63]/\strs.getD t.toNat []≠nx then none else some (strs.set t.toNat nx)
def Z2L (x:Ins) (i z:Nat):List Int:=(if x.op=13\/x.op=14 then [x.n] else [])++(if x.op≠13/\i+1<z then [(i:Int)+1] else [])
def Z39 (nx:Str):List Int->List Str->Option (List Str)
 | [],st=>some st
 | t :: l,st=>(Zbh st t nx).bind (Z39 nx l)
def Z1M (strs:List Str) (i:Nat) (x:Ins):Option (List Str):=
 match Z0J x i strs.length (strs.getD i []) with
 | none=>none
 | some nx=>if strs.getD i []=[63]\/¬ (x.op=24↔i+1=strs.length) then none else Z39 nx (Z2L x i strs.length) strs
def Z3I (code:List Ins):Nat->List Str->Option (List Str)
 | 0,st=>some st
 | k+1,st=>(Z3I code k st).bind (λst'=>Z1M st' k (code.getD k ⟨0,0⟩))
def Z9g (m:Nat):Option (List Str)->Int×Int
 | none=>(0,22)
 | some st=>if st.getD m []=[110] then (1,0) else if st.getD m []=[98] then (2,0) else if st.getD m []=[100] then (3,0) else (0,22)
def Zbi (code:List Ins):Int×Int:=
 if code.length=0\/code.length > 200 then (0,22) else Z9g (code.length - 1) (Z3I code code.length ([] :: List.replicate (code.length - 1) [63]))
theorem ZdM {s:Shp} (h:okS s) (k:Nat):okS (s.take k):=λa ha=>h a (Yay ha)
theorem ZdN {s:Shp} (h:okS s) (k:Nat):okS (s.drop k):=λa ha=>h a (Yae ha)
theorem Zgr {s t:Shp} (h:okS s) (h':okS t):okS (s++t):=λa ha=>(Xd.1 ha).elim (h a) (h' a)
theorem Z3a {n lo hi:Int} {s t g:Shp} (hs:okS s) (ht:okS t) :
 Z7H n (Zo s) ⟨lo,hi,Zo t,Zo g⟩=if (lo<=n/\n<=hi)/\t.length<=s.length/\s.drop (s.length - t.length)=t/\(s.take (s.length - t.length)++g).length<=16 then some (Zo (s.take (s.length - t.length)++g)) else none:=by
 unfold Z7H;have e1:(Zo s).drop (s.length - t.length)=Zo (s.drop (s.length - t.length)):=by simp [Zo,Ybf]
 have e2:(Zo s).take (s.length - t.length)++Zo g=Zo (s.take (s.length - t.length)++g):=by simp [Zo,Ybg]
 have e3:(Zo (s.drop (s.length - t.length))=Zo t)↔(s.drop (s.length - t.length)=t):=⟨Z50 (ZdN hs _) ht,λh=>by rw [h]⟩
 have e4:(s.take (s.length - t.length)++g).length=s.length - t.length+g.length:=by simp
 dsimp only;rw [Z51,Z51,Z51,e1,e2,e4];by_cases c1:lo<=n<;>by_cases c2:n<=hi<;>by_cases c3:t.length<=s.length<;>by_cases c4:s.drop (s.length - t.length)=t<;>by_cases c5:s.length - t.length+g.length<=16<;>simp [c1,c2,c3,c4,c5,e3]
theorem Zv {x:Ins} {s t g:Shp} {lo hi:Int} {ok:Bool} (hs:okS s) (ht:okS t) (he:Zt x=(t,[],g,ok)) (aF:ok=true↔(lo<=x.n/\x.n<=hi)) :
 Zu x.n (Zo s) [⟨lo,hi,Zo t,Zo g⟩]=(Zq x s).map Zo:=by
 simp only [Zu,Z3a hs ht,Zq,he];by_cases c1:ok=true;have c1':=aF.1 c1;by_cases c2:t.length<=s.length/\s.drop (s.length - t.length)=t/\(s.take (s.length - t.length)++g).length<=16;rw [if_pos ⟨c1',c2⟩,if_pos ⟨c1,c2.1,.inl c2.2.1,c2.2.2⟩];rfl;rw [if_neg (λh=>c2 h.2),if_neg (λh=>c2 ⟨h.2.1,h.2.2.1.elim id (λh=>absurd rfl h.1),h.2.2.2⟩)];rfl;rw [if_neg (λh=>c1 (aF.2 h.1)),if_neg (λh=>c1 h.1)];rfl
theorem Z3J {x:Ins} {s t u g:Shp} (hs:okS s) (ht:okS t) (hu:okS u) (pF:t.length=u.length) (jl:u≠[]) (he:Zt x=(t,u,g,decide (x.n=0))) :
 Zu x.n (Zo s) [⟨0,0,Zo t,Zo g⟩,⟨0,0,Zo u,Zo g⟩]=(Zq x s).map Zo:=by
 simp only [Zu,Z3a hs ht,Z3a hs hu,Zq,he,<- pF];have hr:(0<=x.n/\x.n<=0)↔x.n=0:=by omega
 by_cases c1:x.n=0<;>by_cases c2:t.length<=s.length<;>by_cases c3:s.drop (s.length - t.length)=t<;>by_cases c4:s.drop (s.length - t.length)=u<;>by_cases c5:(s.take (s.length - t.length)++g).length<=16<;>simp only [hr,c1,c2,c3,c4,c5,jl,ne_eq,not_false_eq_true,true_and,and_true,or_true,true_or,and_self,false_and,and_false,or_false,decide_true,decide_false,if_true,if_false,Option.map_some,Ybo,Yaq,YaH];all_goals (first|done|rfl|(split<;>simp_all)|simp_all)
theorem Z52 {x:Ins} {s t:Shp} {lo hi:Int} (hs:okS s) (ht:okS t) (he:Zt x=(t,[],[],true)) :
 Zu x.n (Zo s) [⟨lo,hi,Zo t,Zo []⟩]=if ¬ (lo<=x.n/\x.n<=hi) then none else (Zq x s).map Zo:=by
 simp only [Zu,Z3a hs ht,Zq,he];by_cases c1:lo<=x.n/\x.n<=hi;rw [if_neg (Classical.not_not.2 c1)];by_cases c2:t.length<=s.length/\s.drop (s.length - t.length)=t/\(s.take (s.length - t.length)++[]).length<=16;rw [if_pos ⟨c1,c2⟩,if_pos ⟨trivial,c2.1,.inl c2.2.1,c2.2.2⟩];rfl;rw [if_neg (λh=>c2 h.2),if_neg (λh=>c2 ⟨h.2.1,h.2.2.1.elim id (λh=>absurd rfl h.1),h.2.2.2⟩)];rfl;rw [if_pos c1,if_neg (λh=>c1 h.1)]
theorem ZoE {n:Int} {s:Shp} {a z:Nat} (hs:okS s):Zu n (Zo s) (Zl ⟨1,n⟩ a z)=(Zq ⟨1,n⟩ s).map Zo:=
 Zv (x:=⟨1,n⟩) (t:=[]) (g:=[1]) (lo:=-2147483647) (hi:=2147483647) hs (by intro k hk;simp at hk) rfl (by simp)
theorem ZoF {n:Int} {s:Shp} {a z:Nat} (hs:okS s):Zu n (Zo s) (Zl ⟨2,n⟩ a z)=(Zq ⟨2,n⟩ s).map Zo:=
 Zv (x:=⟨2,n⟩) (t:=[]) (g:=[2]) (lo:=0) (hi:=1) hs (by intro k hk;simp at hk) rfl (by simp;omega)
theorem ZoG {n:Int} {s:Shp} {a z:Nat} (hs:okS s):Zu n (Zo s) (Zl ⟨3,n⟩ a z)=(Zq ⟨3,n⟩ s).map Zo:=
 Zv (x:=⟨3,n⟩) (t:=[]) (g:=[3]) (lo:=0) (hi:=3652058) hs (by intro k hk;simp at hk) rfl (by simp)
theorem ZoH {n:Int} {s:Shp} {a z:Nat} (hs:okS s):Zu n (Zo s) (Zl ⟨4,n⟩ a z)=(Zq ⟨4,n⟩ s).map Zo:=by
 by_cases hr:0<=n/\n<7;have hn:n=0\/n=1\/n=2\/n=3\/n=4\/n=5\/n=6:=by omega
 rcases hn with rfl|rfl|rfl|rfl|rfl|rfl|rfl
 exact Zv (x:=⟨4,0⟩) (t:=[]) (g:=[3]) (lo:=0) (hi:=6) hs (by intro k hk;simp at hk) rfl (by simp);exact Zv (x:=⟨4,1⟩) (t:=[]) (g:=[3]) (lo:=0) (hi:=6) hs (by intro k hk;simp at hk) rfl (by simp);exact Zv (x:=⟨4,2⟩) (t:=[]) (g:=[1]) (lo:=0) (hi:=6) hs (by intro k hk;simp at hk) rfl (by simp);exact Zv (x:=⟨4,3⟩) (t:=[]) (g:=[1]) (lo:=0) (hi:=6) hs (by intro k hk;simp at hk) rfl (by simp);exact Zv (x:=⟨4,4⟩) (t:=[]) (g:=[1]) (lo:=0) (hi:=6) hs (by intro k hk;simp at hk) rfl (by simp);exact Zv (x:=⟨4,5⟩) (t:=[]) (g:=[1]) (lo:=0) (hi:=6) hs (by intro k hk;simp at hk) rfl (by simp);exact Zv (x:=⟨4,6⟩) (t:=[]) (g:=[1]) (lo:=0) (hi:=6) hs (by intro k hk;simp at hk) rfl (by simp);have e1:Zl ⟨4,n⟩ a z=[]:=if_neg hr;have e2:Zq ⟨4,n⟩ s=none:=if_neg (λh=>hr (of_decide_eq_true h.1));rw [e1,e2];rfl
theorem ZoI {n:Int} {s:Shp} {a z:Nat} (hs:okS s):Zu n (Zo s) (Zl ⟨5,n⟩ a z)=(Zq ⟨5,n⟩ s).map Zo:=
 Zv (x:=⟨5,n⟩) (t:=[1,1]) (g:=[1]) (lo:=0) (hi:=0) hs (by intro k hk;simp at hk;omega) rfl (by simp;omega)
theorem ZoJ {n:Int} {s:Shp} {a z:Nat} (hs:okS s):Zu n (Zo s) (Zl ⟨6,n⟩ a z)=(Zq ⟨6,n⟩ s).map Zo:=
 Zv (x:=⟨6,n⟩) (t:=[1,1]) (g:=[1]) (lo:=0) (hi:=0) hs (by intro k hk;simp at hk;omega) rfl (by simp;omega)
theorem ZoK {n:Int} {s:Shp} {a z:Nat} (hs:okS s):Zu n (Zo s) (Zl ⟨7,n⟩ a z)=(Zq ⟨7,n⟩ s).map Zo:=
 Zv (x:=⟨7,n⟩) (t:=[1,1]) (g:=[1]) (lo:=0) (hi:=0) hs (by intro k hk;simp at hk;omega) rfl (by simp;omega)
theorem ZoL {n:Int} {s:Shp} {a z:Nat} (hs:okS s):Zu n (Zo s) (Zl ⟨8,n⟩ a z)=(Zq ⟨8,n⟩ s).map Zo:=
 Zv (x:=⟨8,n⟩) (t:=[1]) (g:=[1]) (lo:=0) (hi:=0) hs (by intro k hk;simp at hk;omega) rfl (by simp;omega)
theorem ZoM {n:Int} {s:Shp} {a z:Nat} (hs:okS s):Zu n (Zo s) (Zl ⟨9,n⟩ a z)=(Zq ⟨9,n⟩ s).map Zo:=
 Z3J (x:=⟨9,n⟩) (t:=[1,1]) (u:=[3,3]) (g:=[2]) hs (by intro k hk;simp at hk;omega) (by intro k hk;simp at hk;omega) rfl (by simp) rfl
theorem Zny {n:Int} {s:Shp} {a z:Nat} (hs:okS s):Zu n (Zo s) (Zl ⟨10,n⟩ a z)=(Zq ⟨10,n⟩ s).map Zo:=
 Z3J (x:=⟨10,n⟩) (t:=[1,1]) (u:=[3,3]) (g:=[2]) hs (by intro k hk;simp at hk;omega) (by intro k hk;simp at hk;omega) rfl (by simp) rfl
theorem Znz {n:Int} {s:Shp} {a z:Nat} (hs:okS s):Zu n (Zo s) (Zl ⟨11,n⟩ a z)=(Zq ⟨11,n⟩ s).map Zo:=
 Z3J (x:=⟨11,n⟩) (t:=[1,1]) (u:=[3,3]) (g:=[2]) hs (by intro k hk;simp at hk;omega) (by intro k hk;simp at hk;omega) rfl (by simp) rfl
theorem ZnA {n:Int} {s:Shp} {a z:Nat} (hs:okS s):Zu n (Zo s) (Zl ⟨12,n⟩ a z)=(Zq ⟨12,n⟩ s).map Zo:=
 Zv (x:=⟨12,n⟩) (t:=[2]) (g:=[2]) (lo:=0) (hi:=0) hs (by intro k hk;simp at hk;omega) rfl (by simp;omega)
theorem ZnB {n:Int} {s:Shp} {a z:Nat} (hs:okS s):Zu n (Zo s) (Zl ⟨13,n⟩ a z)=if ¬ ((a:Int)+1<=n/\n<=(z:Int) - 1) then none else (Zq ⟨13,n⟩ s).map Zo:=
 Z52 (x:=⟨13,n⟩) (t:=[]) (lo:=(a:Int)+1) (hi:=(z:Int) - 1) hs (by intro k hk;simp at hk) rfl
theorem ZnC {n:Int} {s:Shp} {a z:Nat} (hs:okS s):Zu n (Zo s) (Zl ⟨14,n⟩ a z)=if ¬ ((a:Int)+1<=n/\n<=(z:Int) - 1) then none else (Zq ⟨14,n⟩ s).map Zo:=
 Z52 (x:=⟨14,n⟩) (t:=[2]) (lo:=(a:Int)+1) (hi:=(z:Int) - 1) hs (by intro k hk;simp at hk;omega) rfl
theorem ZnD {n:Int} {s:Shp} {a z:Nat} (hs:okS s):Zu n (Zo s) (Zl ⟨15,n⟩ a z)=(Zq ⟨15,n⟩ s).map Zo:=
 Zv (x:=⟨15,n⟩) (t:=[3,1]) (g:=[3]) (lo:=0) (hi:=0) hs (by intro k hk;simp at hk;omega) rfl (by simp;omega)
theorem ZnE {n:Int} {s:Shp} {a z:Nat} (hs:okS s):Zu n (Zo s) (Zl ⟨16,n⟩ a z)=(Zq ⟨16,n⟩ s).map Zo:=
 Zv (x:=⟨16,n⟩) (t:=[3,1]) (g:=[3]) (lo:=0) (hi:=0) hs (by intro k hk;simp at hk;omega) rfl (by simp;omega)
theorem ZnF {n:Int} {s:Shp} {a z:Nat} (hs:okS s):Zu n (Zo s) (Zl ⟨17,n⟩ a z)=(Zq ⟨17,n⟩ s).map Zo:=
 Zv (x:=⟨17,n⟩) (t:=[3,1]) (g:=[3]) (lo:=0) (hi:=0) hs (by intro k hk;simp at hk;omega) rfl (by simp;omega)
theorem ZnG {n:Int} {s:Shp} {a z:Nat} (hs:okS s):Zu n (Zo s) (Zl ⟨18,n⟩ a z)=(Zq ⟨18,n⟩ s).map Zo:=
 Zv (x:=⟨18,n⟩) (t:=[3,1]) (g:=[3]) (lo:=0) (hi:=0) hs (by intro k hk;simp at hk;omega) rfl (by simp;omega)
theorem ZnH {n:Int} {s:Shp} {a z:Nat} (hs:okS s):Zu n (Zo s) (Zl ⟨19,n⟩ a z)=(Zq ⟨19,n⟩ s).map Zo:=
 Zv (x:=⟨19,n⟩) (t:=[3]) (g:=[3]) (lo:=0) (hi:=0) hs (by intro k hk;simp at hk;omega) rfl (by simp;omega)
theorem ZnI {n:Int} {s:Shp} {a z:Nat} (hs:okS s):Zu n (Zo s) (Zl ⟨20,n⟩ a z)=(Zq ⟨20,n⟩ s).map Zo:=
 Zv (x:=⟨20,n⟩) (t:=[3]) (g:=[3]) (lo:=0) (hi:=0) hs (by intro k hk;simp at hk;omega) rfl (by simp;omega)
theorem ZnJ {n:Int} {s:Shp} {a z:Nat} (hs:okS s):Zu n (Zo s) (Zl ⟨21,n⟩ a z)=(Zq ⟨21,n⟩ s).map Zo:=
 Zv (x:=⟨21,n⟩) (t:=[3,3]) (g:=[3]) (lo:=0) (hi:=0) hs (by intro k hk;simp at hk;omega) rfl (by simp;omega)
theorem ZnK {n:Int} {s:Shp} {a z:Nat} (hs:okS s):Zu n (Zo s) (Zl ⟨22,n⟩ a z)=(Zq ⟨22,n⟩ s).map Zo:=
 Zv (x:=⟨22,n⟩) (t:=[3,3]) (g:=[3]) (lo:=0) (hi:=0) hs (by intro k hk;simp at hk;omega) rfl (by simp;omega)
theorem ZnL {n:Int} {s:Shp} {a z:Nat} (hs:okS s):Zu n (Zo s) (Zl ⟨23,n⟩ a z)=(Zq ⟨23,n⟩ s).map Zo:=
 Zv (x:=⟨23,n⟩) (t:=[3,3]) (g:=[1]) (lo:=0) (hi:=0) hs (by intro k hk;simp at hk;omega) rfl (by simp;omega)
theorem ZnM {n:Int} {s:Shp} {a z:Nat} (hs:okS s):Zu n (Zo s) (Zl ⟨24,n⟩ a z)=(Zq ⟨24,n⟩ s).map Zo:=
 Zv (x:=⟨24,n⟩) (t:=[]) (g:=[]) (lo:=0) (hi:=0) hs (by intro k hk;simp at hk) rfl (by simp;omega)
theorem Zaq {op n:Int} {a z:Nat} (h:¬ (1<=op/\op<=24)):Zl ⟨op,n⟩ a z=[]:=by
 have h1:∀ k:Int,1<=k->k<=24->¬ op=k:=λk h1 h2 e=>h (by omega)
 simp only [Zl];rw [if_neg (h1 1 (by decide) (by decide))];rw [if_neg (h1 2 (by decide) (by decide))];rw [if_neg (h1 3 (by decide) (by decide))];rw [if_neg (h1 4 (by decide) (by decide))];rw [if_neg (not_or.2 ⟨h1 5 (by decide) (by decide),(not_or.2 ⟨h1 6 (by decide) (by decide),(h1 7 (by decide) (by decide))⟩)⟩)];rw [if_neg (h1 8 (by decide) (by decide))];rw [if_neg (not_or.2 ⟨h1 9 (by decide) (by decide),(not_or.2 ⟨h1 10 (by decide) (by decide),(h1 11 (by decide) (by decide))⟩)⟩)];rw [if_neg (h1 12 (by decide) (by decide))];rw [if_neg (h1 13 (by decide) (by decide))];rw [if_neg (h1 14 (by decide) (by decide))];rw [if_neg (not_or.2 ⟨h1 15 (by decide) (by decide),(not_or.2 ⟨h1 16 (by decide) (by decide),(not_or.2 ⟨h1 17 (by decide) (by decide),(h1 18 (by decide) (by decide))⟩)⟩)⟩)];rw [if_neg (not_or.2 ⟨h1 19 (by decide) (by decide),(h1 20 (by decide) (by decide))⟩)];rw [if_neg (not_or.2 ⟨h1 21 (by decide) (by decide),(h1 22 (by decide) (by decide))⟩)];rw [if_neg (h1 23 (by decide) (by decide))];rw [if_neg (h1 24 (by decide) (by decide))]
theorem Z9h {op n:Int} (h:¬ (1<=op/\op<=24)):Zt ⟨op,n⟩=([],[],[],false):=by
 have h1:∀ k:Int,1<=k->k<=24->¬ op=k:=λk h1 h2 e=>h (by omega)
 simp only [Zt];rw [if_neg (h1 1 (by decide) (by decide))];rw [if_neg (h1 2 (by decide) (by decide))];rw [if_neg (h1 3 (by decide) (by decide))];rw [if_neg (h1 4 (by decide) (by decide))];rw [if_neg (h1 13 (by decide) (by decide))];rw [if_neg (h1 14 (by decide) (by decide))];rw [if_neg (not_or.2 ⟨h1 5 (by decide) (by decide),(not_or.2 ⟨h1 6 (by decide) (by decide),(h1 7 (by decide) (by decide))⟩)⟩)];rw [if_neg (h1 8 (by decide) (by decide))];rw [if_neg (not_or.2 ⟨h1 9 (by decide) (by decide),(not_or.2 ⟨h1 10 (by decide) (by decide),(h1 11 (by decide) (by decide))⟩)⟩)];rw [if_neg (h1 12 (by decide) (by decide))];rw [if_neg (not_or.2 ⟨h1 15 (by decide) (by decide),(not_or.2 ⟨h1 16 (by decide) (by decide),(not_or.2 ⟨h1 17 (by decide) (by decide),(h1 18 (by decide) (by decide))⟩)⟩)⟩)];rw [if_neg (not_or.2 ⟨h1 19 (by decide) (by decide),(h1 20 (by decide) (by decide))⟩)];rw [if_neg (not_or.2 ⟨h1 21 (by decide) (by decide),(h1 22 (by decide) (by decide))⟩)];rw [if_neg (h1 23 (by decide) (by decide))];rw [if_neg (h1 24 (by decide) (by decide))]
theorem Z53 {x:Ins} {s:Shp} {a z:Nat} (hs:okS s) :
 Z0J x a z (Zo s)=if (x.op=13\/x.op=14)/\¬ ((a:Int)+1<=x.n/\x.n<=(z:Int) - 1) then none else (Zq x s).map Zo:=by
 obtain ⟨op,n⟩:=x;unfold Z0J;by_cases hr:1<=op/\op<=24;have hn:op=1\/op=2\/op=3\/op=4\/op=5\/op=6\/op=7\/op=8\/op=9\/op=10\/op=11\/op=12\/op=13\/op=14\/op=15\/op=16\/op=17\/op=18\/op=19\/op=20\/op=21\/op=22\/op=23\/op=24:=by omega
 rcases hn with rfl|rfl|rfl|rfl|rfl|rfl|rfl|rfl|rfl|rfl|rfl|rfl|rfl|rfl|rfl|rfl|rfl|rfl|rfl|rfl|rfl|rfl|rfl|rfl
 rw [if_neg (by simp)];exact ZoE hs;rw [if_neg (by simp)];exact ZoF hs;rw [if_neg (by simp)];exact ZoG hs;rw [if_neg (by simp)];exact ZoH hs;rw [if_neg (by simp)];exact ZoI hs;rw [if_neg (by simp)];exact ZoJ hs;rw [if_neg (by simp)];exact ZoK hs;rw [if_neg (by simp)];exact ZoL hs;rw [if_neg (by simp)];exact ZoM hs;rw [if_neg (by simp)];exact Zny hs;rw [if_neg (by simp)];exact Znz hs;rw [if_neg (by simp)];exact ZnA hs;simp only [true_or,true_and];exact ZnB hs;simp only [or_true,true_and];exact ZnC hs;rw [if_neg (by simp)];exact ZnD hs;rw [if_neg (by simp)];exact ZnE hs;rw [if_neg (by simp)];exact ZnF hs;rw [if_neg (by simp)];exact ZnG hs;rw [if_neg (by simp)];exact ZnH hs;rw [if_neg (by simp)];exact ZnI hs;rw [if_neg (by simp)];exact ZnJ hs;rw [if_neg (by simp)];exact ZnK hs;rw [if_neg (by simp)];exact ZnL hs;rw [if_neg (by simp)];exact ZnM hs;rw [if_neg (λh=>by have:=h.1;dsimp only at this;omega)];have e2:Zq ⟨op,n⟩ s=none:=by
  unfold Zq;rw [Z9h hr];exact if_neg (λh=>by cases h.1)
 dsimp only;rw [Zaq hr,e2];rfl
def Z4i (st:List (Option Shp)):Prop:=∀ s,some s∈st->okS s
theorem Z2w (st:List (Option Shp)) {i:Nat} (h:i<st.length):(st.map Z1b).getD i []=Z1b (st.getD i none):=by simp [List.getD,h]
theorem Z2x {st:List (Option Shp)} {t:Int} {nx:Shp} (aB:Z4i st) (hn:okS nx) (h0:0<=t) (h1:t<st.length) :
 Zbh (st.map Z1b) t (Zo nx)=(ZO st t nx).map (List.map Z1b):=by
 obtain ⟨k,rfl⟩:∃ k:Nat,t=(k:Int):=⟨t.toNat,by omega⟩
 have hk:k<st.length:=by omega
 unfold Zbh ZO;rw [if_pos (show 0<=(k:Int)/\(k:Int)<(st.length:Int) from ⟨h0,h1⟩),Yaz,Z2w st hk];have hg:st.getD k none=st[k]:=by simp [List.getD,hk]
 rw [hg];cases hs:st[k] with
 | none=>
   rw [if_neg (by simp [Z1b])];simp [List.map_set,Z1b]
 | some s0=>
   have bU:okS s0:=aB s0 (by rw [<- hs];exact Xb hk);by_cases he:s0=nx;subst he;rw [if_neg (by simp [Z1b])];simp only [if_true,Option.map_some,Xi];refine YaR (by simp) (λj h1 h2=>?_);rw [List.getElem_set];split;rename_i hj;subst hj;simp [hs,Z1b];rfl;rw [if_pos ⟨by simp only [Z1b];exact Z6I s0,λh=>he (Z50 bU hn h)⟩];simp [he]
theorem Zbj (x:Ins):okS (Zt x).2.2.1:=by
 obtain ⟨op,n⟩:=x;by_cases hr:1<=op/\op<=24;have hn:op=1\/op=2\/op=3\/op=4\/op=5\/op=6\/op=7\/op=8\/op=9\/op=10\/op=11\/op=12\/op=13\/op=14\/op=15\/op=16\/op=17\/op=18\/op=19\/op=20\/op=21\/op=22\/op=23\/op=24:=by omega
 rcases hn with rfl|rfl|rfl|rfl|rfl|rfl|rfl|rfl|rfl|rfl|rfl|rfl|rfl|rfl|rfl|rfl|rfl|rfl|rfl|rfl|rfl|rfl|rfl|rfl
 intro k hk;simp [Zt] at hk;omega;intro k hk;simp [Zt] at hk;omega;intro k hk;simp [Zt] at hk;omega;show okS [if n=0\/n=1 then 3 else 1];intro k hk;simp at hk;subst hk;split<;>simp;intro k hk;simp [Zt] at hk;omega;intro k hk;simp [Zt] at hk;omega;intro k hk;simp [Zt] at hk;omega;intro k hk;simp [Zt] at hk;omega;intro k hk;simp [Zt] at hk;omega;intro k hk;simp [Zt] at hk;omega;intro k hk;simp [Zt] at hk;omega;intro k hk;simp [Zt] at hk;omega;intro k hk;simp [Zt] at hk;intro k hk;simp [Zt] at hk;intro k hk;simp [Zt] at hk;omega;intro k hk;simp [Zt] at hk;omega;intro k hk;simp [Zt] at hk;omega;intro k hk;simp [Zt] at hk;omega;intro k hk;simp [Zt] at hk;omega;intro k hk;simp [Zt] at hk;omega;intro k hk;simp [Zt] at hk;omega;intro k hk;simp [Zt] at hk;omega;intro k hk;simp [Zt] at hk;omega;intro k hk;simp [Zt] at hk;rw [Z9h hr];intro k hk;simp at hk
theorem Zar {x:Ins} {s nx:Shp} (hs:okS s) (h:Zq x s=some nx):okS nx:=by
 unfold Zq at h;dsimp only at h;split at h;cases h;exact Zgr (ZdM hs _) (Zbj x);cases h
theorem Z27 {st st':List (Option Shp)} {t:Int} {nx:Shp} (aB:Z4i st) (hn:okS nx) (h:ZO st t nx=some st'):Z4i st':=by
 unfold ZO at h;split at h;split at h;split at h;cases h;exact aB;cases h;cases h;intro s hs;rcases YaT hs with h|h
 exact aB s h;cases h;exact hn;cases h
theorem Zgs {st st':List (Option Shp)} {i:Nat} {x:Ins} (aB:Z4i st) (h:J0 st i x=some st'):Z4i st'/\st'.length=st.length:=by
 unfold J0 at h;split at h;cases h;rename_i s hs;have bU:okS s:=by
  refine aB s ?_;have hi:i<st.length:=Nat.lt_of_not_le λcV=>by simp [List.getD,YaK.2 cV] at hs
  have:st.getD i none=st[i]:=by simp [List.getD,hi]
  rw [<- hs,this];exact Xb hi
 split at h;cases h;rename_i nx hn;have bY:=Zar bU hn;split at h;split at h;cases h;exact ⟨aB,rfl⟩;cases h;split at h;split at h;exact ⟨Z27 aB bY h,Js h⟩;cases h;split at h;split at h;obtain ⟨s1,h1,h2⟩:=Yaf.1 h;exact ⟨Z27 (Z27 aB bY h1) bY h2,by rw [Js h2,Js h1]⟩;cases h;exact ⟨Z27 aB bY h,Js h⟩
theorem Zas {st:List (Option Shp)} (aB:Z4i st) {i:Nat} {s:Shp} (hi:i<st.length) (h:st.getD i none=some s):okS s:=by
 refine aB s ?_;have:st.getD i none=st[i]:=by simp [List.getD,hi]
 rw [<- h,this];exact Xb hi
theorem Jz {st:List (Option Shp)} {t:Int} {nx:Shp} (h:¬ t<st.length):ZO st t nx=none:=if_neg (λh'=>h h'.2)
theorem Zgt {st:List (Option Shp)} {i:Nat} {x:Ins} (aB:Z4i st) (hi:i+1<st.length):Z1M (st.map Z1b) i x=(J0 st i x).map (List.map Z1b):=by
 unfold Z1M J0;rw [Z2w st (by omega),X1];cases hs:st.getD i none with
 | none=>
   dsimp only [Z1b];cases Z0J x i st.length [63] with
   | none=>rfl
   | some nx=>simp
 | some s=>
   have bU:=Zas aB (by omega) hs;rw [show Z1b (some s)=Zo s from rfl,Z53 bU];dsimp only;cases hn:Zq x s with
   | none=>rw [Ybo,ite_self];rfl
   | some nx=>
     have bY:=Zar bU hn;have aZ:=Z6I s;dsimp only [Option.map_some];by_cases cG:x.op=24;rw [if_neg (by omega),if_pos cG,if_neg (by omega)];dsimp only;rw [if_pos (Or.inr (λh=>by have:=h.1 cG;omega))];rfl;have eJ:¬ (Zo s=[63]\/¬ (x.op=24↔i+1=st.length)):=by
      rintro (h|h);exact aZ h;exact h ⟨λh=>absurd h cG,λh=>by omega⟩
     by_cases cg:x.op=13;rw [if_neg cG,if_pos cg];by_cases hb:(i:Int)+1<=x.n/\x.n<=(st.length:Int) - 1;rw [if_neg (λh=>h.2 hb)];dsimp only;rw [if_neg eJ,if_pos (by omega),Z2L,if_pos (.inl cg),if_neg (by omega)];simp only [XE,Z39];rw [Z2x aB bY (by omega) (by omega)];cases ZO st x.n nx<;>rfl;rw [if_pos ⟨.inl cg,hb⟩];dsimp only;by_cases h:x.n > i;rw [if_pos h,Jz (by omega)];rfl;rw [if_neg h];rfl;by_cases cQ:x.op=14;rw [if_neg cG,if_neg cg,if_pos cQ];by_cases hb:(i:Int)+1<=x.n/\x.n<=(st.length:Int) - 1
     . rw [if_neg (λh=>h.2 hb)]
       dsimp only;rw [if_neg eJ,if_pos (by omega),Z2L,if_pos (.inr cQ),if_pos ⟨cg,hi⟩];simp only [XU,XH,Z39];rw [Z2x aB bY (by omega) (by omega)];cases hr:ZO st x.n nx with
       | none=>rfl
       | some st1=>
         dsimp only [Option.map_some,Option.bind_some];have hl:=Js hr;rw [Z2x (Z27 aB bY hr) bY (by omega) (by omega)];cases ZO st1 ((i:Int)+1) nx<;>rfl
     rw [if_pos ⟨.inr cQ,hb⟩];dsimp only;by_cases h:x.n > i;rw [if_pos h,Jz (by omega)];rfl;rw [if_neg h];rfl;rw [if_neg (λh=>h.1.elim cg cQ),if_neg cG,if_neg cg,if_neg cQ];dsimp only;rw [if_neg eJ,Z2L,if_neg (λh=>h.elim cg cQ),if_pos ⟨cg,hi⟩];simp only [XH,Z39];rw [Z2x aB bY (by omega) (by omega)];cases ZO st ((i:Int)+1) nx<;>rfl
def Zbk (m:Nat):Option (List (Option Shp))->Int×Int
 | none=>(0,22)
 | some st=>(((st.getD m none).getD []).headD 0,0)
theorem Zgu {st:List (Option Shp)} {i:Nat} {x:Ins} (aB:Z4i st) (hi:i+1=st.length):Z9g i (Z1M (st.map Z1b) i x)=Zbk i (J0 st i x):=by
 unfold Z1M J0;rw [Z2w st (by omega),X1];cases hs:st.getD i none with
 | none=>
   dsimp only [Z1b];cases Z0J x i st.length [63] with
   | none=>rfl
   | some nx=>simp [Z9g,Zbk]
 | some s=>
   have bU:=Zas aB (by omega) hs;rw [show Z1b (some s)=Zo s from rfl,Z53 bU];dsimp only;cases hn:Zq x s with
   | none=>rw [Ybo,ite_self];rfl
   | some nx=>
     dsimp only [Option.map_some];by_cases cG:x.op=24;rw [if_neg (by omega),if_pos cG];dsimp only;rw [if_neg (by rintro (h|h);exact Z6I s h;exact h ⟨λ_=>hi,λ_=>cG⟩),Z2L,if_neg (by omega),if_neg (by omega)];simp only [XH,Z39,Z9g,Z2w st (show i<st.length by omega),hs,Z1b];rcases s with _|⟨k,_|⟨k',r⟩⟩
     simp [Zo,Zbk];rcases bU k (by simp) with rfl|rfl|rfl<;>simp [Zo,tyB,Zbk,hi]<;>rw [<- XJ,hs]<;>rfl
     simp [Zo,Zbk];refine Eq.trans (b:=((0:Int),(22:Int))) ?_ ?_
     . generalize (if (x.op=13\/x.op=14)/\¬ ((i:Int)+1<=x.n/\x.n<=(st.length:Int) - 1) then none else some (Zo nx))=o
       cases o with
       | none=>rfl
       | some nx=>dsimp only;rw [if_pos (Or.inr (λh=>cG (h.2 hi)))];rfl
     rw [if_neg cG];by_cases cg:x.op=13;rw [if_pos cg];by_cases h:x.n > i;rw [if_pos h,Jz (by omega)];rfl;rw [if_neg h];rfl;by_cases cQ:x.op=14;rw [if_neg cg,if_pos cQ];by_cases h:x.n > i;rw [if_pos h,Jz (by omega)];rfl;rw [if_neg h];rfl;rw [if_neg cg,if_neg cQ,Jz (by omega)];rfl
theorem Z9i {code:List Ins} {st0:List (Option Shp)} (h0:Z4i st0):∀ k st,Z1a code k st0=some st->Z4i st/\st.length=st0.length
 | 0,st,h=>by cases h;exact ⟨h0,rfl⟩
 | k + 1, st, h => by
   obtain ⟨s1,h1,h2⟩:=Yaf.1 h;obtain ⟨a,b⟩:=Z9i h0 k s1 h1;obtain ⟨c,d⟩:=Zgs a h2;exact ⟨c,by omega⟩
theorem ZdO {code:List Ins} {st0:List (Option Shp)} (h0:Z4i st0):∀ k,k+1<=st0.length->Z3I code k (st0.map Z1b)=(Z1a code k st0).map (List.map Z1b)
 | 0,_=>rfl
 | k + 1, hk => by
   rw [Z3I,Z1a,ZdO h0 k (by omega)];cases h:Z1a code k st0 with
   | none=>rfl
   | some st=>
     obtain ⟨a,b⟩:=Z9i h0 k st h;exact Zgt a (by omega)
theorem Zkp (code:List Ins):Zbi code=Z01 code:=by
 unfold Zbi Z01;by_cases hl:code.length=0\/code.length > 200;rw [if_pos hl,if_pos hl];rw [if_neg hl,if_neg hl];obtain ⟨m,hm⟩:∃ m,code.length=m+1:=⟨code.length - 1,by omega⟩
 rw [hm,YaN];have h0:Z4i ((some []) :: List.replicate m none):=by
  intro s hs;simp at hs;subst hs;intro k hk;cases hk
 have e0:([]:Str) :: List.replicate m [63]=((some []) :: List.replicate m none).map Z1b:=by simp [Z1b,Zo]
 have key:Z9g m (Z3I code (m+1) ([] :: List.replicate m [63]))=Zbk m (Z1a code (m+1) ((some []) :: List.replicate m none)):=by
  rw [e0,Z3I,Z1a,ZdO h0 m (by simp)];cases h:Z1a code m ((some []) :: List.replicate m none) with
  | none=>rfl
  | some st=>
    obtain ⟨a,b⟩:=Z9i h0 m st h;exact Zgu a (by simp at b;omega)
 exact key
theorem ZdP (p q:Option Addr) (l m c d:Nat) (w):(Instr.buildSlice 176 2 #[(0,.slice p l c),(1,.slice q m d)]).run Tryz.prog w=.ok (.slice (some ⟨w.heap.size,0,none⟩) 2 2) (w.alloc (.cells #[.slice p l c,.slice q m d] 22)):=by kernel_rfl
theorem Vf.shps {w} {bv base:Nat} {cv hv sv:Value} {code:List Ins} {st:List (Option Shp)} (h:Vf w bv base cv hv sv code st):SlV (bv :: ob sv) w hv (JL st):=
 h.shp.slvX (λb hb=>by
  rcases Xg.1 hb with rfl|hb
  exact h.nh;exact λcJ=>h.apart b cJ hb)
theorem Vf.bounds {w} {bv base:Nat} {cv hv sv:Value} {code:List Ins} {st:List (Option Shp)} (h:Vf w bv base cv hv sv code st):∀ b∈bv :: (ob hv++ob sv),b<w.heap.size:=λb hb=>by
 have:=h.blk.lt;simp only [Xg,Xd] at hb;rcases hb with rfl|hb|hb
 omega;exact (h.shp.ob_le b hb).2;exact (h.seen.ob_le b hb).2
theorem Zgv (x:Ins):(Zt x).1.length<=2/\(Zt x).2.1.length<=2/\(Zt x).2.2.1.length<=1:=by
 obtain ⟨op,n⟩:=x;by_cases hr:1<=op/\op<=24;have hn:op=1\/op=2\/op=3\/op=4\/op=5\/op=6\/op=7\/op=8\/op=9\/op=10\/op=11\/op=12\/op=13\/op=14\/op=15\/op=16\/op=17\/op=18\/op=19\/op=20\/op=21\/op=22\/op=23\/op=24:=by omega
 rcases hn with rfl|rfl|rfl|rfl|rfl|rfl|rfl|rfl|rfl|rfl|rfl|rfl|rfl|rfl|rfl|rfl|rfl|rfl|rfl|rfl|rfl|rfl|rfl|rfl<;>simp [Zt]
 rw [Z9h hr];simp
theorem ZdQ (bv base:Nat) (cv hv sv:Value) (code:List Ins) (st:List (Option Shp)) (i:Nat) (w) (h:Vf w bv base cv hv sv code st) (hi:i<code.length) (hn:code.length<=1000) (dH:∀ s,some s∈st->s.length<=16) :
 CC 102 #[pQ bv,.I (i:Int)] w λr w'=>Stp (bv :: (ob hv++ob sv)) w w'/\r=.B (J0 st i code[i]).isSome/\∀ st',J0 st i code[i]=some st'->Vf w' bv base cv hv sv code st':=by
 have ai:=h.len;have bj:i<(JL st).length:=by simp [JL];omega
 have dG:i<(Ji st).length:=by simp [Ji];omega
 have jx:i<st.length:=by omega
 refine cW2 140 Tryz.func102 ?_;refine W ?_;refine Zb8 17 ([w.heap.size]) [] [(0,0),(1,0),(2,0),(3,1),(4,0),(5,0),(6,1),(7,0),(8,0),(9,0),(10,1),(11,0),(12,0),(13,1),(14,2),(15,2),(16,0)] rfl mixed (by kernel_rfl) (by kernel_rfl) (by kernel_rfl) (λw1 ae db=>?_);replace h:=h.up ae;have ej:=h.bounds;have hX:∀ b∈bv :: (ob hv++ob sv),b∉[w.heap.size]:=λb hb cJ=>by
  have:=ej b hb;simp at cJ;omega
 obtain ⟨cbl,pG,cF⟩:Blk w1 bv 178 [cv,hv,sv]/\SlV [w.heap.size] w1 cv code/\SlV [w.heap.size] w1 hv (JL st):=⟨h.blk,h.cod.ext (Stp.refl [] _) (by simp) (λb hb=>.inr (by simp at hb;omega)),h.shps.ext (Stp.refl [] _) (by simp) (λb hb=>.inr (by simp at hb;omega))⟩
 have nb:bv∉[w.heap.size]:=hX bv (by simp);obtain ⟨u,an,ee⟩:=cF.sub bj;refine D ?_;refine WD_read rfl trivial (λw' aE=>Jo rfl rfl (Z0X cF bj aE an)) rfl ?_;refine D ?_;refine Z7 rfl trivial Zb9 (λ_ _ h=>h.2.2.mn) rfl ?_;rintro _ w2 ⟨rfl,ab,ak⟩;rw [db] at ab ⊢;refine Z33 rfl trivial (J1 (us:=Z8.enc code[i]) rfl rfl rfl rfl (Z8.one _) ab rfl) (λ_ _ h=>h.1) ?_;rintro _ w3 ⟨aq,aL⟩;have ci:Stp [] w1 w3:=ak.ow aq;replace h:=h.up ci;replace hS:=ae.trans ci;replace pG:=h.cod;replace cbl:=h.blk;replace cF:=h.shps;have iF:=h.seen.slv0;replace ej:=h.bounds;have jy:SlV [w.heap.size] w3 u (JL st)[i].l:=ee.ext (ak.mn.trans aq) (by simp) (λ_ h=>.inl h);clear ab ae ci ak aq ee an;refine D ?_;refine W ?_;refine CM (ZN rfl) (Z9f (w.heap.size :: bv :: (ob hv++ob sv)) code[i] _ (λb hb=>by rcases Xg.1 hb with rfl|hb;exact aL.lt;exact ej b hb)) ?_;rintro _ w4 ⟨va,vb,vc,rfl,sa,sb,sc,aA⟩;have cP:=jy.up aA;replace aL:=aL.up aA;replace h:=h.up aA;replace iF:=iF.up aA;replace hS:=hS.trans aA;replace cbl:=cbl.up aA;clear aA jy;have hM:J0 st i code[i]=J0 st i code[i]:=rfl
 conv at hM=>rhs;unfold J0 Zq
 have fp:st.getD i none=st[i]:=by simp [List.getD,jx]
 have cE:(JL st)[i].l=(st[i]).getD []:=by simp [JL]
 have fD:(Ji st)[i]=(st[i]).isSome:=by simp [Ji]
 rw [fp] at hM;have lA:(JL st)[i].l.length<=16:=by
  rw [cE];cases aB:st[i] with
  | none=>simp
  | some s=>exact dH s (by rw [<- aB];exact Xb jx)
 obtain ⟨el1,el2,el3⟩:=Zgv code[i];generalize Zt code[i]=E at *;obtain ⟨ta,al,gi,ok⟩:=E;dsimp only at sa sb sc el1 el2 el3 hM;generalize pH:(JL st)[i].l=s at *;refine W ?_
 refine Z2u (σ:=Bool) (λq=>[(0,pQ bv),(1,.I (i:Int)),(4,.B false),(5,.pointer (some ⟨w.heap.size,0,none⟩)),(6,u),(9,vc),(11,.I ((s.length:Int) - (ta.length:Int))),(75,.B q)])
  (λq w'=>Stp [] w4 w'/\q=! (decide (st[i].isSome=true/\ok=true/\ta.length<=s.length/\(s.drop (s.length - ta.length)=ta\/al≠[]/\s.drop (s.length - ta.length)=al)))) ?_ ?_
 . cases ok with
   | false=>
     refine QO ?_;exact QT true ⟨Stp.refl _ _,by simp⟩
   | true=>
     cases aB:st[i].isSome with
     | false=>
       rw [aB] at fD;repeat'(first|refine W1 ?_|omega|refine VG ?_ ?_<;>intro hg|refine VC ?_ ?_<;>intro hc)
       exact QT true ⟨Stp.refl _ _,by simp⟩;exact QT true ⟨Stp.refl _ _,by simp⟩;exact absurd (show (!(Ji st)[i])=false by assumption) (by rw [fD];decide)
     | true=>
       rw [aB] at fD;by_cases hk:ta.length<=s.length
       case neg=>
        (refine QP ?_ ?_<;>intro hg)
        exact absurd (show (!(Ji st)[i])=true by assumption) (by rw [fD];decide);exact QT true ⟨Stp.refl _ _,by simp [hk]⟩
       have bC:(s.length:Int) - (ta.length:Int)=((s.length - ta.length:Nat):Int):=by omega
       have sd:SlV [w.heap.size] w4 (slc u (s.length - ta.length) s.length 1) (s.drop (s.length - ta.length)):=by
        have:=cP.slc (l:=s.length - ta.length) (r:=s.length) (by omega) (by omega);rw [XG] at this;exact this
       (refine QP ?_ ?_<;>intro hg)
       exact absurd (show (!(Ji st)[i])=true by assumption) (by rw [fD];decide);refine Z2R rfl cP rfl bC (by omega) rfl ?_;refine W ?_;refine CM (Zj rfl rfl) (Z2W _ _ _ _ _ (sd.wk (by simp)) (sa.wk (by simp))) ?_;rintro _ w5 ⟨rfl,ay⟩;replace sb:=sb.up ay;replace cP:=cP.up ay;replace sd:=sd.up ay;repeat'(first|refine W1 ?_|omega|refine VG ?_ ?_<;>intro hg|refine VC ?_ ?_<;>intro hc)
       have h1:¬ s.drop (s.length - ta.length)=ta:=by assumption
       have h2:(al.length:Int)=0:=by assumption
       have h3:al=[]:=X7.1 (by omega);exact QT true ⟨ay,by simp [h1,h3]⟩;have h1:¬ s.drop (s.length - ta.length)=ta:=by assumption
       have h2:¬ (al.length:Int)=0:=by assumption
       have h3:al≠[]:=λh=>h2 (by simp [h])
       refine Z2R rfl cP rfl bC (by omega) rfl ?_;refine W ?_;refine CM (Zj rfl rfl) (Z2W _ _ _ _ _ (sd.wk (by simp)) (sb.wk (by simp))) ?_;rintro _ w6 ⟨rfl,cx⟩;refine W ?_;refine QT _ ⟨ay.trans cx,?_⟩;by_cases h4:s.drop (s.length - ta.length)=al<;>simp [h1,h3,h4,hk];have h1:s.drop (s.length - ta.length)=ta:=Classical.not_not.1 (by assumption);exact QT false ⟨ay,by simp [h1,hk]⟩
 rintro q w5 ⟨ay,hq⟩
 try dsimp only at hq ⊢
 replace cP:=cP.up ay;replace sc:=sc.up ay;replace aL:=aL.up ay;replace h:=h.up ay;replace cbl:=cbl.up ay;replace hS:=hS.trans ay;clear ay;by_cases hC:st[i].isSome=true/\ok=true/\ta.length<=s.length/\(s.drop (s.length - ta.length)=ta\/al≠[]/\s.drop (s.length - ta.length)=al)
 case neg=>
  obtain rfl:q=true:=by rw [hq,decide_eq_false hC];rfl
  have dt:J0 st i code[i]=none:=by
   rw [hM];cases aB:st[i] with
   | none=>rfl
   | some s0=>
     obtain rfl:s=s0:=by rw [cE,aB];rfl
     dsimp only;rw [if_neg (λh=>hC ⟨by rw [aB];rfl,h.1,h.2.1,h.2.2.1⟩)]
  refine RT ?_;exact ⟨hS.mn,by rw [dt];rfl,λst' h=>by rw [dt] at h;cases h⟩
 obtain rfl:q=false:=by rw [hq,decide_eq_true hC];rfl
 obtain ⟨jz,aF,hk,pI⟩:=hC;have aB:st[i]=some s:=by
  cases aB:st[i] with
  | none=>rw [aB] at jz;cases jz
  | some s0=>rw [cE,aB];rfl
 rw [aB] at hM;dsimp only at hM;have bC:(s.length:Int) - (ta.length:Int)=((s.length - ta.length:Nat):Int):=by omega
 have sk:SlV [w.heap.size] w5 (slc u 0 (s.length - ta.length) 1) (s.take (s.length - ta.length)):=by
  have:=cP.slc (l:=0) (r:=s.length - ta.length) (by omega) (by omega);rw [Ybp] at this;exact this
 obtain ⟨p2,c2,pJ⟩:=sk.len;obtain ⟨p3,c3,rfl⟩:=sc.len;refine W ?_;refine Z8H rfl cP rfl bC (by omega) rfl ?_;rw [pJ] at sk ⊢;refine W ?_;refine Z1 (Z0 (vs:=[(0,.slice p2 (s.take (s.length - ta.length)).length c2),(1,.slice p3 gi.length c3)]) rfl (ZdP _ _ _ _ _ _)) rfl ?_;rintro bl w6 hN;have sbl:SlV [] w6 bl [(⟨s.take (s.length - ta.length)⟩:Sl Int),⟨gi⟩]:=hN.slvS (X:=[]) (by simp) rfl rfl (λi hi bh=>match i,hi with|0,_=>sk.wk (by simp)|1,_=>sc.wk (by simp)) (by simp [maxLen]);have hT:=Z5.stp hN;clear hN;replace cP:=cP.up hT;replace aL:=aL.up hT;replace h:=h.up hT;replace cbl:=cbl.up hT;replace hS:=hS.trans hT;clear hT;refine CM (ZN rfl) (Z7G _ _ _ sbl (by simp) (by simp;omega)) ?_;rintro rv w7 ac;have lB:[(⟨s.take (s.length - ta.length)⟩:Sl Int),⟨gi⟩].flatMap Sl.l=s.take (s.length - ta.length)++gi:=by simp
 rw [lB] at ac;have aM:=ac.2;have sr:=ac.slv h.bounds;replace cP:=cP.up aM;replace aL:=aL.up aM;replace h:=h.up aM;replace cbl:=cbl.up aM;replace hS:=hS.trans aM;clear aM ac;by_cases jA:(s.take (s.length - ta.length)++gi).length<=16
 case neg=>
  have dt:J0 st i code[i]=none:=by
   rw [hM,if_neg (λh=>jA h.2.2.2)]
  refine RT ?_;exact ⟨hS.mn,by rw [dt];rfl,λst' h=>by rw [dt] at h;cases h⟩
 rw [if_pos ⟨aF,hk,pI,jA⟩] at hM;dsimp only at hM;generalize s.take (s.length - ta.length)++gi=nx at *;have pK:=h.cod;by_cases cG:code[i].op=24;rw [if_pos cG] at hM
 (refine QP ?_ ?_<;>intro hg)
 refine WR ?_;by_cases fY:s.length=1;have hn:J0 st i code[i]=some st:=by rw [hM,if_pos ⟨by omega,fY⟩]
 exact .mk ⟨hS.mn,by rw [hn];congr 1;exact decide_eq_true (by omega),λst' h'=>by rw [hn] at h';cases h';exact h⟩;have hn:J0 st i code[i]=none:=by rw [hM,if_neg (λh=>fY h.2)]
 exact .mk ⟨hS.mn,by rw [hn];congr 1;exact decide_eq_false (by omega),λst' h'=>by rw [hn] at h';cases h'⟩;refine WR ?_;have hn:J0 st i code[i]=none:=by rw [hM,if_neg (λh=>by omega)]
 exact .mk ⟨hS.mn,by rw [hn];rfl,λst' h=>by rw [hn] at h;cases h⟩;rw [if_neg cG] at hM;by_cases cg:code[i].op=13;rw [if_pos cg] at hM;by_cases fx:code[i].n > (i:Int);rw [if_pos fx] at hM;refine QO ?_;refine CM (ZQ rfl rfl rfl) (Z2v bv base cv hv sv _ code st code[i].n nx _ h (by omega) sr) ?_;rintro _ w8 ⟨bI,rfl,hV⟩;refine W ?_;refine WR ?_;rw [<- hM] at hV;exact .mk ⟨hS.mn.trans bI,by rw [hM],hV⟩;rw [if_neg fx] at hM;refine RT ?_;exact ⟨hS.mn,by rw [hM];rfl,λst' h=>by rw [hM] at h;cases h⟩;rw [if_neg cg] at hM;by_cases cQ:code[i].op=14;rw [if_pos cQ] at hM;by_cases fx:code[i].n > (i:Int)
 . rw [if_pos fx] at hM
   refine QO ?_;refine CM (ZQ rfl rfl rfl) (Z2v bv base cv hv sv _ code st code[i].n nx _ h (by omega) sr) ?_;rintro _ w8 ⟨bI,rfl,hV⟩;have sr8:=sr.ext (X':=bv :: (ob hv++ob sv)) bI (λ_ h=>h) (λ_ h=>.inl h);cases hr:ZO st code[i].n nx with
   | none=>
     rw [hr] at hM;refine RT ?_;exact ⟨hS.mn.trans bI,by rw [hM];rfl,λst' h=>by rw [hM] at h;cases h⟩
   | some st1=>
     rw [hr] at hM;have h8:=hV st1 hr;refine W ?_;refine CM (ZQ rfl rfl rfl) (Z2v bv base cv hv sv _ code st1 ((i:Int)+1) nx _ h8 (by omega) sr8) ?_;rintro _ w9 ⟨dN,rfl,pL⟩;refine RT ?_;exact ⟨(hS.mn.trans bI).trans dN,by rw [hM];rfl,λst' h=>pL st' (by rw [hM] at h;exact h)⟩
 rw [if_neg fx] at hM;refine RT ?_;exact ⟨hS.mn,by rw [hM];rfl,λst' h=>by rw [hM] at h;cases h⟩;rw [if_neg cQ] at hM;refine QO ?_;refine CM (ZQ rfl rfl rfl) (Z2v bv base cv hv sv _ code st ((i:Int)+1) nx _ h (by omega) sr) ?_;rintro _ w8 ⟨bI,rfl,hV⟩;refine W ?_;refine WR ?_;rw [<- hM] at hV;exact .mk ⟨hS.mn.trans bI,by rw [hM],hV⟩
theorem Zat (p q r:Option Addr) (l m k c d f:Nat) (w):(Instr.build 178 #[(0,.slice p l c),(1,.slice q m d),(2,.slice r k f)]).run Tryz.prog w=.ok (.agg #[.slice p l c,.slice q m d,.slice r k f]) w:=by kernel_rfl
theorem Zkq {st st':List (Option Shp)} {i:Nat} {x:Ins} (h0:∀ s,some s∈st->s.length<=16) (h:J0 st i x=some st'):∀ s,some s∈st'->s.length<=16:=by
 have hr:∀ {st st':List (Option Shp)} {t:Int} {nx:Shp},(∀ s,some s∈st->s.length<=16)->nx.length<=16->ZO st t nx=some st'->∀ s,some s∈st'->s.length<=16:=by
  intro st st' t nx aB hn h;unfold ZO at h;split at h;split at h;split at h;cases h;exact aB;cases h;cases h;intro s hs;rcases YaT hs with h|h
  exact aB s h;cases h;exact hn;cases h
 have hn:∀ {s nx:Shp},Zq x s=some nx->nx.length<=16:=by
  intro s nx h;unfold Zq at h;dsimp only at h;split at h;rename_i hc;cases h;exact hc.2.2.2;cases h
 unfold J0 at h;split at h;cases h;split at h;cases h;rename_i nx kh;have bY:=hn kh;split at h;split at h;cases h;exact h0;cases h;split at h;split at h;exact hr h0 bY h;cases h;split at h;split at h;obtain ⟨s1,h1,h2⟩:=Yaf.1 h;exact hr (hr h0 bY h1) bY h2;cases h;exact hr h0 bY h
theorem Z5Z {code:List Ins} {st0:List (Option Shp)} {k:Nat} (h:Z1a code k st0=none):∀ m,k<=m->Z1a code m st0=none
 | 0, hm => by
   obtain rfl:k=0:=by omega
   exact h
 | m + 1, hm => by
   by_cases hk:k=m+1;subst hk;exact h;rw [Z1a,Z5Z h m (by omega)];rfl
theorem Z54 {code:List Ins} {st0:List (Option Shp)}:∀ {k:Nat} {st:List (Option Shp)},Z1a code k st0=some st->st.length=st0.length
 | 0,st,h=>by cases h;rfl
 | k + 1, st, h => by
   obtain ⟨s1,h1,h2⟩:=Yaf.1 h;have e1:=Z54 h1;have e2:st.length=s1.length:=by
    unfold J0 at h2;split at h2;cases h2;split at h2;cases h2;split at h2;split at h2;cases h2;rfl;cases h2;split at h2;split at h2;exact Js h2;cases h2;split at h2;split at h2;obtain ⟨s2,h3,h4⟩:=Yaf.1 h2;rw [Js h4,Js h3];cases h2;exact Js h2
   omega
theorem Zbl {st st':List (Option Shp)} {i:Nat} {x:Ins} (hi:i+1=st.length) (h:J0 st i x=some st'):st'=st/\∃ k,st.getD i none=some [k]:=by
 unfold J0 at h;cases hs:st.getD i none with
 | none=>rw [hs] at h;cases h
 | some s=>
   rw [hs] at h;dsimp only at h;split at h;cases h;rename_i nx hn;split at h;split at h;rename_i hc;cases h;obtain ⟨k,hk⟩:=List.length_eq_one_iff.1 hc.2;exact ⟨rfl,k,by rw [hk]⟩;cases h;split at h;split at h;rw [Jz (by omega)] at h;cases h;cases h;split at h;split at h;rw [Jz (by omega)] at h;cases h;cases h;rw [Jz (by omega)] at h;cases h
theorem Z55 (v:Value) (code:List Ins) (w) (hs:SlV [] w v code) :
 CC 66 #[v] w λr w'=>r=.tuple #[.I (Z01 code).1,.I (Z01 code).2]/\Stp [] w w':=by
 have aW:=hs.max;obtain ⟨p,c,rfl,-⟩:=id hs;refine cW1 49 Tryz.func66 ?_;refine W ?_;by_cases h0:code.length=0\/code.length > 200
 . have hM:Z01 code=(0,22):=if_pos h0
   repeat'(first|refine W1 ?_|omega|refine VG ?_ ?_<;>intro hg|refine VC ?_ ?_<;>intro hc)
   all_goals
    refine RU ?_;exact ⟨by rw [hM],Stp.refl _ _⟩
 refine QO ?_;have gj:0<code.length:=by omega
 have jB:code.length<=200:=by omega
 refine JI (σ:=Nat×Value×Value) (λq=>[(0,.slice p code.length c),(4,.pointer (some ⟨q.1,0,none⟩))]) (λq w'=>Vf w' q.1 w.heap.size (.slice p code.length c) q.2.1 q.2.2 code (List.replicate code.length none)/\w.heap.size<=q.1/\Stp [] w w') ?_ ?_;refine ZDr 10 [] [] [(0,0),(1,0),(2,0),(4,0),(5,0),(3,9),(6,2),(7,0),(8,2),(9,0)] (λw1 ae=>?_);have db:=ae.size;refine D ?_;apply Z4E;rfl;refine JJ rfl trivial (Z0e (α:=Sl Int) (k:=code.length) (a0:=⟨[]⟩) rfl rfl (λX w=>⟨_,rfl,Zg _ _⟩) rfl rfl (by simp [maxLen];omega) (by omega)) (λ_ _ h=>h.2) rfl ?_;rintro hv w2 ⟨rh,ak⟩;refine D ?_;refine Z7 rfl trivial (Z0e (α:=Bool) (k:=code.length) (a0:=false) rfl rfl (λX w=>rfl) rfl rfl (by simp [maxLen];omega) (by omega)) (λ_ _ h=>h.2) rfl ?_;rintro sv w3 ⟨rs,aq⟩;refine D ?_;obtain ⟨ph,ch,lC⟩:∃ p c,hv=.slice p code.length c:=by
  have:=((rh []).slv0).len;simpa using this
 obtain ⟨ps,cs,eY⟩:∃ p c,sv=.slice p code.length c:=by
  have:=((rs []).slv0).len;simpa using this
 have hap:∀ b∈ob hv,b∉ob sv:=λb h1 h2=>by
  have:=(rh []).ob_le b h1;have:=(rs []).ob_le b h2;omega
 subst lC eY;refine Z4I rfl trivial (vs:=[(0,.slice p code.length c),(1,.slice ph code.length ch),(2,.slice ps code.length cs)]) rfl (Zat _ _ _ _ _ _ _ _ _) rfl ?_;refine Z7 rfl trivial (Zp rfl) (λ_ _ h=>h.choose_spec.2.2.2) rfl ?_;rintro _ w4 ⟨bv,rfl,gk,ab,aA⟩;have hS:=(ae.trans ak).trans (aq.trans aA);have lD:=ak.size;have pM:=aq.size;refine D ?_;refine QT (bv,.slice ph code.length ch,.slice ps code.length cs) ⟨?_,by omega,hS⟩;have b1:∀ b∈ob (.slice ph code.length ch),w.heap.size<=b/\b<w3.heap.size:=λb h=>by have:=(rh []).ob_le b h;omega
 have b2:∀ b∈ob (.slice ps code.length cs),w.heap.size<=b/\b<w3.heap.size:=λb h=>by have:=(rs []).ob_le b h;omega
 have e1:JL (List.replicate code.length none)=List.replicate code.length ⟨[]⟩:=by simp [JL]
 have e2:Ji (List.replicate code.length none)=List.replicate code.length false:=by simp [Ji]
 refine ⟨ab,hs.ext hS (by simp) (λb hb=>.inr ?_),by rw [e1];exact ((rh _).lower ae.size).up (aq.trans aA),by rw [e2];exact ((rs _).lower (Xl ae.size ak.size)).up aA,λh=>by have:=b1 bv h;omega,λh=>by have:=b2 bv h;omega,hS.size,hap,by simp⟩;simp only [Xg,Xd] at hb;rcases hb with rfl|h|h
 omega;exact (b1 b h).1;exact (b2 b h).1;refine JJ rfl trivial (Z0e (α:=Bool) (k:=code.length) (a0:=false) rfl rfl (λX w=>rfl) rfl rfl (by simp [maxLen];omega) (by omega)) (λ_ _ h=>h.2) rfl ?_;rintro sv w2 ⟨rs,ak⟩;refine Z7 rfl trivial (Z0e (α:=Sl Int) (k:=code.length) (a0:=⟨[]⟩) rfl rfl (λX w=>⟨_,rfl,Zg _ _⟩) rfl rfl (by simp [maxLen];omega) (by omega)) (λ_ _ h=>h.2) rfl ?_;rintro hv w3 ⟨rh,aq⟩;refine D ?_;obtain ⟨ph,ch,lC⟩:∃ p c,hv=.slice p code.length c:=by
  have:=((rh []).slv0).len;simpa using this
 obtain ⟨ps,cs,eY⟩:∃ p c,sv=.slice p code.length c:=by
  have:=((rs []).slv0).len;simpa using this
 have hap:∀ b∈ob hv,b∉ob sv:=λb h1 h2=>by
  have:=(rh []).ob_le b h1;have:=(rs []).ob_le b h2;omega
 subst lC eY;refine Z4I rfl trivial (vs:=[(0,.slice p code.length c),(1,.slice ph code.length ch),(2,.slice ps code.length cs)]) rfl (Zat _ _ _ _ _ _ _ _ _) rfl ?_;refine Z7 rfl trivial (Zp rfl) (λ_ _ h=>h.choose_spec.2.2.2) rfl ?_;rintro _ w4 ⟨bv,rfl,gk,ab,aA⟩;have hS:=(ae.trans ak).trans (aq.trans aA);have lD:=ak.size;have pM:=aq.size;refine D ?_;refine QT (bv,.slice ph code.length ch,.slice ps code.length cs) ⟨?_,by omega,hS⟩;have b1:∀ b∈ob (.slice ph code.length ch),w.heap.size<=b/\b<w3.heap.size:=λb h=>by have:=(rh []).ob_le b h;omega
 have b2:∀ b∈ob (.slice ps code.length cs),w.heap.size<=b/\b<w3.heap.size:=λb h=>by have:=(rs []).ob_le b h;omega
 have e1:JL (List.replicate code.length none)=List.replicate code.length ⟨[]⟩:=by simp [JL]
 have e2:Ji (List.replicate code.length none)=List.replicate code.length false:=by simp [Ji]
 refine ⟨ab,hs.ext hS (by simp) (λb hb=>.inr ?_),by rw [e1];exact ((rh _).lower (Xl ae.size ak.size)).up aA,by rw [e2];exact ((rs _).lower ae.size).up (aq.trans aA),λh=>by have:=b1 bv h;omega,λh=>by have:=b2 bv h;omega,hS.size,hap,by simp⟩;simp only [Xg,Xd] at hb;rcases hb with rfl|h|h
 omega;exact (b1 b h).1;exact (b2 b h).1;rintro ⟨bv,hv,sv⟩ w2 ⟨h,gk,hS⟩;dsimp only at h gk ⊢;have ab:=h.blk;have iF:=h.seen.slv0;have eA:(Ji (List.replicate code.length none)).length=code.length:=by simp [Ji]
 have fA:0<(Ji (List.replicate code.length none)).length:=by omega
 refine W ?_;refine Zi (Z0Y (α:=Bool) (y':=true) (u:=.B true) rfl rfl rfl rfl h.seen fA) ?_;rintro _ w3 ⟨rs3,aq⟩;have ci:Stp (bv :: (ob hv++ob sv)) w2 w3:=aq.mono (λb hb=>by simp [hb]);generalize cB:(some [] :: List.replicate (code.length - 1) none:List (Option Shp))=st0 at *;have bV:st0.length=code.length:=by rw [<- cB];simp;omega
 obtain ⟨m,hm⟩:∃ m,code.length=m+1:=⟨code.length - 1,by omega⟩
 have e1:JL st0=JL (List.replicate code.length none):=by rw [<- cB,hm];simp [JL,Ya9]
 have e2:Ji st0=(Ji (List.replicate code.length none)).set 0 true:=by rw [<- cB,hm];simp [Ji,Ya9]
 have h3:Vf w3 bv w.heap.size (.slice p code.length c) hv sv code st0:=by
  refine ⟨h.blk.ext aq h.ns,h.cod.ext ci (λ_ h=>h) (λ_ h=>.inl h),?_,?_,h.nh,h.ns,Xl h.hi aq.size,h.apart,bV⟩;rw [e1];exact h.shp.ext (X':=bv :: ob sv) aq (λb hb=>⟨XW _ hb,λcJ=>h.apart b cJ hb⟩) (λ_ h=>.inl h);rw [e2];exact rs3
 have hB:∀ b∈bv :: (ob hv++ob sv),w.heap.size<=b:=λb hb=>by
  simp only [Xg,Xd] at hb;rcases hb with rfl|hb|hb
  exact gk;exact (h.shp.ob_le b hb).1;exact (h.seen.ob_le b hb).1
 have aE:=hS.own ci (λb hb=>.inr (hB b hb));have gZ:∀ s,some s∈st0->s.length<=16:=by
  intro s hs;rw [<- cB] at hs;simp at hs;rw [hs];simp
 have gt:Z01 code=match Z1a code code.length st0 with
  | none=>(0,22)
  | some st=>(((st.getD (code.length - 1) none).getD []).headD 0,0):=by
  rw [<- cB];exact if_neg h0
 clear iF ab h e1 e2 aq ci rs3 hS;refine W ?_
 refine ZC (σ:=Nat×List (Option Shp)) (λq=>[(0,.slice p code.length c),(4,pQ bv),(29,.I (code.length:Int)),(30,.I (q.1:Int))])
  (λq w'=>q.1<=code.length/\Z1a code q.1 st0=some q.2/\Vf w' bv w.heap.size (.slice p code.length c) hv sv code q.2/\(∀ s,some s∈q.2->s.length<=16)/\Stp [] w w') (λq=>code.length - q.1) (0,st0) ⟨rfl,rfl,rfl,rfl,trivial⟩ ⟨Xo _,rfl,h3,gZ,aE⟩ ?_
 rintro ⟨k,st⟩ w4 ⟨hk,aO,h4,dH,aA⟩
 try dsimp only at hk aO h4 dH ⊢
 by_cases hlt:k<code.length
 . refine QO ?_
   refine CM (Zj rfl rfl) (ZdQ bv w.heap.size _ hv sv code st k _ h4 hlt (by omega) dH) ?_;rintro _ w5 ⟨ay,rfl,hV⟩;replace ay:=aA.own ay (λb hb=>.inr (hB b hb));have lE:code.getD k ⟨0,0⟩=code[k]:=by simp [List.getD,hlt]
   have du:Z1a code (k+1) st0=J0 st k code[k]:=by rw [Z1a,aO,Option.bind_some,lE]
   cases aB:J0 st k code[k] with
   | none=>
     have hn:Z01 code=(0,22):=by rw [gt,Z5Z (du.trans aB) code.length hlt]
     refine RT ?_;exact ⟨by rw [hn],ay⟩
   | some st1=>
     refine W ?_;exact QL (k+1,st1) ⟨hlt,du.trans aB,hV st1 aB,Zkq dH aB,ay⟩ (Xp hlt (Xr k))
 obtain rfl:k=code.length:=by omega
 have pN:=Z54 aO;have jC:∃ a,st.getD (code.length - 1) none=some [a]:=by
  rw [hm,Z1a] at aO;obtain ⟨s1,r1,r2⟩:=Yaf.1 aO;have fY:=Z54 r1;obtain ⟨rfl,a,ha⟩:=Zbl (by omega) r2;exact ⟨a,by rw [hm];exact ha⟩
 obtain ⟨a,ha⟩:=jC;have pO:Z01 code=(a,0):=by rw [gt,aO];dsimp only;rw [ha];rfl
 have ab:=h4.blk;have fC:=h4.shps;have pP:(JL st).length=code.length:=by simp [JL];omega
 have gW:m<(JL st).length:=by omega
 have bC:(code.length:Int) - 1=(m:Int):=by omega
 obtain ⟨u,an,ee⟩:=fC.sub gW;have cK:(JL st)[m].l=[a]:=by
  have:st.getD m none=some [a]:=by rw [<- ha,hm];rfl
  have h2:st.getD m none=st[m]'(by omega):=by simp [List.getD,show m<st.length by omega]
  have h5:(JL st)[m]=⟨(st[m]'(by omega)).getD []⟩:=by simp [JL]
  rw [h5,<- h2,this];rfl
 rw [cK] at ee;refine QO ?_;apply Zf (Jo rfl rfl an) rfl;have gh:0 < [a].length:=by simp
 refine RT ?_;exact ⟨by rw [pO];rfl,aA⟩
def Zkr (o:Option Str):Value:=.tuple #[str (o.getD []),.B o.isSome]
theorem Z9j (x:Ins) (a z:Nat):∀ r∈Zl x a z,r.t.length<=2/\r.g.length<=1:=by
 obtain ⟨op,n⟩:=x;by_cases hr:1<=op/\op<=24
 . have hn:op=1\/op=2\/op=3\/op=4\/op=5\/op=6\/op=7\/op=8\/op=9\/op=10\/op=11\/op=12\/op=13\/op=14\/op=15\/op=16\/op=17\/op=18\/op=19\/op=20\/op=21\/op=22\/op=23\/op=24:=by omega
   rcases hn with rfl|rfl|rfl|rfl|rfl|rfl|rfl|rfl|rfl|rfl|rfl|rfl|rfl|rfl|rfl|rfl|rfl|rfl|rfl|rfl|rfl|rfl|rfl|rfl
   case inr.inr.inr.inl=>
    intro r h;have h':r∈(if 0<=n/\n<7 then [(⟨0,6,[],Z26.getD n.toNat []⟩:RwT)] else []):=h;split at h';rename_i hc;have hn:n=0\/n=1\/n=2\/n=3\/n=4\/n=5\/n=6:=by omega
    simp only [Xn] at h';subst h';rcases hn with rfl|rfl|rfl|rfl|rfl|rfl|rfl<;>decide
    cases h'
   all_goals (intro r h;simp [Zl] at h;first|(subst h;exact ⟨by first|decide|simp,by first|decide|simp⟩)|(rcases h with rfl|rfl<;>exact ⟨by decide,by decide⟩))
 rw [Zaq hr];intro r h;cases h
theorem Zbm (x:Ins) (i z:Nat) (sh:Str) (w) (hi:i<=100000) (hz:z<=100000) (cE:sh.length<=1000) :
 CC 173 #[agg x,.I (i:Int),.I (z:Int),str sh] w λr w'=>r=Zkr (Z0J x i z sh)/\Stp [] w w':=by
 refine cW4 85 Tryz.func173 ?_;refine W ?_;refine Z1 (Zp rfl) rfl ?_;rintro _ w1 ⟨b,rfl,hb,ab,hS⟩;replace ab:Blk w1 b _ [.I x.op,.I x.n]:=ab;refine W ?_;refine CM (ZQ rfl rfl rfl) (ZdL [] x i z _ hi hz (by simp)) ?_;rintro lv w2 ⟨sl,ak⟩;replace ab:=ab.up ak;replace hS:=hS.trans ak;clear ak;have g7:=Z9j x i z;have hA:Z0J x i z sh=Zu x.n sh (Zl x i z):=rfl;generalize Zl x i z=l at *;have aW:=sl.max;refine W ?_;refine LP (σ:=Nat) (λj=>[(3,str sh),(4,pQ b),(10,lv),(11,.I (j:Int))]) (λj w'=>j<=l.length/\Stp [] w2 w'/\Zu x.n sh l=Zu x.n sh (l.drop j)) (λj=>l.length - j) 0 ⟨Xo _,Stp.refl _ _,rfl⟩ ?_;rintro j w3 ⟨hj,aq,aD⟩
 try dsimp only at hj aD ⊢
 replace ab:=ab.up aq;replace sl:=sl.up aq;by_cases hlt:j<l.length
 case neg=>
  refine QO ?_;refine WR ?_;refine .mk ⟨?_,hS.trans aq⟩;rw [hA,aD,Yat (by omega)];rfl
 obtain ⟨st,sg⟩:=g7 _ (Xb hlt);have hd:l.drop j=l[j] :: l.drop (j+1):=XI hlt;refine QO ?_;refine ZDr 44 [] [] [(0,0),(1,1),(2,0),(3,0),(4,0),(5,0),(6,1),(7,0),(8,0),(9,0),(10,1),(11,0),(12,0),(13,0),(14,0),(15,1),(16,0),(17,0),(18,0),(19,0),(20,0),(21,0),(22,0),(23,0),(24,0),(25,0),(26,0),(27,0),(28,0),(29,0),(30,1),(31,0),(32,0),(33,0),(34,0),(35,0),(36,0),(37,0),(38,0),(39,1),(40,0),(41,0),(42,0),(43,0)] (λw1 ae=>?_);replace ab:=ab.up ae;replace sl:=sl.up ae;replace aq:=aq.trans ae;by_cases hr:l[j].lo<=x.n/\x.n<=l[j].hi/\l[j].t.length<=sh.length
 case neg=>
  have ac:Zu x.n sh l=Zu x.n sh (l.drop (j+1)):=by
   rw [aD,hd,Zu,Z7H,if_neg (λh=>hr ⟨h.1,h.2.1,h.2.2.1⟩)]
  repeat'(first|refine D1 ?_|omega|refine Z6 rfl rfl rfl rfl (λhg=>?_) (λhg=>?_)|(refine Z2 rfl rfl rfl rfl (λhg=>?_) (λhg=>?_)<;>refine D1 ?_)|fail)
  all_goals (refine QO ?_)
  all_goals exact QL (j+1) ⟨hlt,aq,ac⟩ (Xp hlt (Xr j))
 have bC:(sh.length:Int) - (l[j].t.length:Int)=((sh.length - l[j].t.length:Nat):Int):=by omega
 have ac:Zu x.n sh l=if sh.drop (sh.length - l[j].t.length)=l[j].t/\sh.length - l[j].t.length+l[j].g.length<=16 then some (sh.take (sh.length - l[j].t.length)++l[j].g) else Zu x.n sh (l.drop (j+1)):=by
  rw [aD,hd,Zu,Z7H];by_cases hc:sh.drop (sh.length - l[j].t.length)=l[j].t/\sh.length - l[j].t.length+l[j].g.length<=16;rw [if_pos ⟨hr.1,hr.2.1,hr.2.2,hc⟩,if_pos hc];rw [if_neg (λh=>hc h.2.2.2),if_neg hc]
 obtain ⟨j9,ep,dc⟩:=hr;refine QD ?_;refine Z7l rfl rfl rfl rfl bC (by omega) rfl ?_;by_cases he:sh.drop (sh.length - l[j].t.length)=l[j].t/\sh.length - l[j].t.length+l[j].g.length<=16
 . rw [if_pos he] at ac
   obtain ⟨ny,rE⟩:=he
   (refine QE ?_ ?_<;>intro hg)
   all_goals (refine QO ?_)
   refine ZDr 11 [] [] [(0,0),(1,0),(2,0),(3,0),(4,0),(5,0),(6,0),(7,1),(8,0),(9,0),(10,0)] (λw1 ae=>?_);replace ab:=ab.up ae;replace sl:=sl.up ae;replace aq:=aq.trans ae;have pR:(sh.take (sh.length - l[j].t.length)).length+l[j].g.length<=9223372036854775807:=by simp;omega
   refine D ?_;refine Z7m rfl trivial rfl rfl bC (by omega) rfl ?_;refine D ?_;refine RT ?_;exact ⟨by rw [hA,ac];rfl,hS.trans aq⟩;exact absurd ny (by assumption)
 . rw [if_neg he] at ac
   (refine QE ?_ ?_<;>intro hg)
   all_goals (repeat'(first|refine W1 ?_|omega|refine VG ?_ ?_<;>intro hg|refine VC ?_ ?_<;>intro hc))
   exact absurd ⟨by assumption,by omega⟩ he;all_goals exact QL (j+1) ⟨hlt,aq,ac⟩ (Xp hlt (Xr j))
theorem ZdR (a b c:Str) (w):(Instr.buildSlice 168 3 #[(0,str a),(1,str b),(2,str c)]).run Tryz.prog w=.ok (.slice (some ⟨w.heap.size,0,none⟩) 3 3) (w.alloc (.cells #[str a,str b,str c] 9)):=by kernel_rfl
abbrev RwS (w w':World) (v:Value) (xs:List Str):Prop:=J7 9 w w' v xs
theorem Z7I {x:Ins} {i z:Nat} {sh nx:Str} (h:Z0J x i z sh=some nx) (hx:x.op=13\/x.op=14):(i:Int)+1<=x.n/\x.n<=(z:Int) - 1:=by
 have key:∀ {n lo hi:Int} {t g:Str},Zu n sh [⟨lo,hi,t,g⟩]=some nx->lo<=n/\n<=hi:=by
  intro n lo hi t g h;unfold Zu Z7H at h;by_cases hc:lo<=n/\n<=hi/\t.length<=sh.length/\sh.drop (sh.length - t.length)=t/\sh.length - t.length+g.length<=16;exact ⟨hc.1,hc.2.1⟩;dsimp only at h;rw [if_neg hc] at h;cases h
 obtain ⟨op,n⟩:=x;rcases hx with hx|hx<;>(dsimp only at hx;subst hx)
 exact key (show Zu n sh [⟨(i:Int)+1,(z:Int) - 1,[],[]⟩]=some nx from h);exact key (show Zu n sh [⟨(i:Int)+1,(z:Int) - 1,[98],[]⟩]=some nx from h)
theorem Zbn {x:Ins} {i z:Nat} {sh nx:Str} (h:Z0J x i z sh=some nx):nx.length<=16:=by
 unfold Z0J at h;generalize Zl x i z=l at h
 induction l with
 | nil=>cases h
 | cons r l ih=>
   unfold Zu at h;cases hr:Z7H x.n sh r with
   | none=>rw [hr] at h;exact ih h
   | some s=>
     rw [hr] at h;cases h;unfold Z7H at hr;split at hr;rename_i hc;cases hr;simp;omega;cases hr
theorem Z60 {code:List Ins} {st0:List Str} {k:Nat} (h:Z3I code k st0=none):∀ m,k<=m->Z3I code m st0=none
 | 0, hm => by
   obtain rfl:k=0:=by omega
   exact h
 | m + 1, hm => by
   by_cases hk:k=m+1;subst hk;exact h;rw [Z3I,Z60 h m (by omega)];rfl
theorem cls (s:Str):idx (isS s) [[110],[98],[100]]=if s=[110] then 0 else if s=[98] then 1 else if s=[100] then 2 else -1:=by
 by_cases h1:s=[110]
 subst h1;rfl;by_cases h2:s=[98]
 subst h2;rfl;by_cases h3:s=[100]
 subst h3;rfl;rw [if_neg h1,if_neg h2,if_neg h3];have e1:decide (([110]:Str)=s)=false:=decide_eq_false (λh=>h1 h.symm);have e2:decide (([98]:Str)=s)=false:=decide_eq_false (λh=>h2 h.symm);have e3:decide (([100]:Str)=s)=false:=decide_eq_false (λh=>h3 h.symm);simp [idx,isS,YaL,e1,e2,e3]
theorem Z46 (v:Value) (code:List Ins) (w) (hs:SlV [] w v code) :
 CC 110 #[v] w λr w'=>r=.tuple #[.I (Z01 code).1,.I (Z01 code).2]/\Stp [] w w':=by
 have aW:=hs.max;rw [<- Zkp];refine cW1 158 Tryz.func110 ?_;refine W ?_;by_cases h0:code.length=0\/code.length > 200
 . have hM:Zbi code=(0,22):=if_pos h0
   repeat'(first|refine W1 ?_|omega|refine VG ?_ ?_<;>intro hg|refine VC ?_ ?_<;>intro hc)
   all_goals
    refine RU ?_;exact ⟨by rw [hM],Stp.refl _ _⟩
 refine QO ?_;have gj:0<code.length:=by omega
 have jB:code.length<=200:=by omega
 refine Z1 (Z0 (vs:=[(0,str [])]) rfl (Z4K _)) rfl ?_;rintro s0 w1 hN;have hr:RwS w w1 s0 [[]]:=J7.one hN rfl rfl (by simp [maxLen]);clear hN;refine W ?_;refine LP (σ:=Nat×Value) (λq=>[(0,v),(2,.I 0),(3,.I 0),(4,q.2),(5,.I (q.1:Int))]) (λq w'=>1<=q.1/\q.1<=code.length/\RwS w w' q.2 ([] :: List.replicate (q.1 - 1) [63])) (λq=>code.length - q.1) (1,s0) ⟨Xq _,gj,hr⟩ ?_;clear hr;rintro ⟨k,sv⟩ w2 ⟨bj,hk,hr⟩
 try dsimp only at bj hk hr ⊢
 have aJ:=hs.up hr.2;by_cases hlt:k<code.length;refine QO ?_;refine Z1 (Z0 (vs:=[(0,str [63])]) rfl (Z4K _)) rfl ?_;rintro u w3 hN;have hu:SlV (ob sv) w3 u [[(63:UInt8)]]:=hN.slv (λb hb=>(hr.ob_le b hb).2) rfl rfl (by simp [maxLen]);replace hr:=hr.up (Z5.stp hN);clear hN;refine Z1 (Jy rfl (by decide) rfl rfl hr hu (by simp;omega) (by simp [maxLen];omega)) rfl ?_;rintro v' w4 ⟨bW,-,-⟩;refine W ?_;refine QL (k+1,v') ⟨by dsimp only;omega,hlt,?_⟩ (by dsimp only;omega);obtain ⟨j,rfl⟩:∃ j,k=j+1:=⟨k - 1,by omega⟩
 simpa [List.replicate_succ'] using bW;obtain rfl:k=code.length:=by omega
 generalize cB:([] :: List.replicate (code.length - 1) [63]:List Str)=st0 at *;have bV:st0.length=code.length:=by rw [<- cB];simp;omega
 have gZ:∀ s∈st0,s.length<=16:=by
  intro s h;rw [<- cB] at h;simp at h;rcases h with rfl|⟨_,rfl⟩<;>simp
 have gu:Zbi code=Z9g (code.length - 1) (Z3I code code.length st0):=by
  rw [<- cB];exact if_neg h0
 clear cB;refine QO ?_
 refine ZC (σ:=Nat×List Str) (λq=>[(0,v),(4,sv),(6,.I (q.1:Int))])
  (λq w'=>q.1<=code.length/\Z3I code q.1 st0=some q.2/\RwS w w' sv q.2/\q.2.length=code.length/\(∀ s∈q.2,s.length<=16)) (λq=>code.length - q.1) (0,st0) ⟨rfl,rfl,rfl,trivial⟩ ⟨Xo _,rfl,hr,bV,gZ⟩ ?_
 clear hr aJ;rintro ⟨i,strs⟩ w3 ⟨hi,aO,hr,ai,dH⟩
 try dsimp only at hi aO hr ai dH ⊢
 have dQ:=hs.up hr.2;have au:=hr.1.slv0;by_cases hlt:i<code.length
 case neg=>
  obtain rfl:i=code.length:=by omega
  obtain ⟨m,hm⟩:∃ m,code.length=m+1:=⟨code.length - 1,by omega⟩
  have eZ:m<strs.length:=by omega
  have bC:(code.length:Int) - 1=(m:Int):=by omega
  refine QO ?_;refine Z1 (Z0 (vs:=[(0,str [110]),(1,str [98]),(2,str [100])]) rfl (ZdR _ _ _)) rfl ?_;rintro u w4 hN;have hu:SlV [] w4 u ([[110],[98],[100]]:List Str):=hN.slv (by simp) rfl rfl (by simp [maxLen]);have aA:=Z5.stp hN;clear hN;replace dQ:=dQ.up aA;replace au:=au.up aA;replace hr:=hr.up aA;refine W ?_;refine CL (Z0W [] _ _ strs[m] _ hu) ?_;rintro _ w5 ⟨rfl,ay⟩;have hv:Zbi code=if strs[m]=[110] then (1,0) else if strs[m]=[98] then (2,0) else if strs[m]=[100] then (3,0) else (0,22):=by
   rw [gu,aO,hm];have e:strs.getD m []=strs[m]:=by simp [List.getD,eZ]
   simp only [Z9g,YaN,e]
  rw [cls];by_cases c1:strs[m]=[110]
  rw [if_pos c1] at hv ⊢;refine RT ?_;exact ⟨by rw [hv];rfl,(hr.up ay).2⟩;rw [if_neg c1] at hv ⊢;by_cases c2:strs[m]=[98]
  rw [if_pos c2] at hv ⊢;refine RT ?_;exact ⟨by rw [hv];rfl,(hr.up ay).2⟩;rw [if_neg c2] at hv ⊢;by_cases c3:strs[m]=[100]
  rw [if_pos c3] at hv ⊢;refine RT ?_;exact ⟨by rw [hv];rfl,(hr.up ay).2⟩;rw [if_neg c3] at hv ⊢;refine RT ?_;exact ⟨by rw [hv],(hr.up ay).2⟩
 have dF:i<strs.length:=by omega
 have lE:code.getD i ⟨0,0⟩=code[i]:=by simp [List.getD,hlt]
 have kA:strs.getD i []=strs[i]:=by simp [List.getD,dF]
 have du:Z3I code (i+1) st0=Z1M strs i code[i]:=by rw [Z3I,aO,Option.bind_some,lE]
 have hM:Z1M strs i code[i]=Z1M strs i code[i]:=rfl
 conv at hM=>rhs;unfold Z1M;rw [kA,ai]
 have rF:=dH _ (Xb dF);have hdone:Z1M strs i code[i]=none->Zbi code=(0,22):=λh=>by rw [gu,Z60 (du.trans h) code.length hlt];rfl
 refine QO ?_;refine ZDr 17 [] [] [(0,0),(1,0),(2,0),(3,1),(4,0),(5,0),(6,0),(7,0),(8,0),(9,0),(10,1),(11,2),(12,0),(13,0),(14,0),(15,0),(16,0)] (λw1 ae=>?_);replace dQ:=dQ.up ae;replace au:=au.up ae;replace hr:=hr.up ae;refine D ?_;refine Z7 rfl trivial (Z4 rfl (Z7a rfl rfl rfl rfl) (Zbm code[i] i code.length strs[i] _ (by omega) (by omega) (by omega))) (λ_ _ h=>h.2) rfl ?_;rintro _ w4 ⟨rfl,aA⟩;replace dQ:=dQ.up aA;replace au:=au.up aA;replace hr:=hr.up aA;clear ae aA;cases hA:Z0J code[i] i code.length strs[i] with
 | none=>
   have hn:Z1M strs i code[i]=none:=by rw [hM,hA]
   refine D ?_;refine RT ?_;exact ⟨by rw [hdone hn],hr.2⟩
 | some nx=>
   rw [hA] at hM;dsimp only at hM;have bY:=Zbn hA;by_cases cd:strs[i]=[63]\/¬ (code[i].op=24↔i+1=code.length)
   . rw [if_pos cd] at hM
     refine D ?_;repeat'(first|refine W1 ?_|omega|refine VG ?_ ?_<;>intro hg|refine VC ?_ ?_<;>intro hc)
     refine RU ?_;exact ⟨by rw [hdone hM],hr.2⟩;refine RU ?_;exact ⟨by rw [hdone hM],hr.2⟩
     all_goals
      exfalso;have h2:¬ ¬ decide (code[i].op=24)=decide ((i:Int)=(code.length:Int) - 1):=by assumption
      have h3:=decide_eq_decide.1 (Classical.not_not.1 h2);rcases cd with h|h
      exact absurd h (by assumption);exact h (h3.trans (by omega))
   rw [if_neg cd] at hM;have eJ:code[i].op=24↔i+1=code.length:=Classical.not_not.1 (λh=>cd (Or.inr h));have pS:∀ t∈Z2L code[i] i code.length,0<=t/\t<(code.length:Int):=by
    intro t ht;unfold Z2L at ht;rcases Xd.1 ht with h|h
    split at h;rename_i hx;have:=Z7I hA hx;simp at h;omega;cases h;split at h;simp at h;omega;cases h
   refine D ?_;refine W ?_;refine Z79 rfl rfl (λhg=>absurd (Or.inl hg) cd) (λhg=>?_);refine W ?_;refine Z4m rfl (λhc=>absurd (decide_eq_decide.2 (eJ.trans (by omega))) hc) (λhc=>?_);refine W ?_;refine Z2u (σ:=Bool) (λq=>[(0,v),(4,sv),(6,.I (i:Int)),(7,str nx),(9,.N),(87,.B q)]) (λq w'=>w'=w4/\q=decide (code[i].op=13\/code[i].op=14)) ?_ ?_
   (refine QP ?_ ?_<;>intro hg)
   exact Zc true ⟨rfl,rfl,rfl,rfl,rfl,rfl,trivial⟩ ⟨rfl,by simp [*]⟩;exact Zc _ ⟨rfl,rfl,rfl,rfl,rfl,rfl,trivial⟩ ⟨rfl,by simp [*]⟩;rintro q w5 ⟨rfl,hq⟩
   try dsimp only
   refine JI (σ:=Value) (λtv=>[(0,v),(4,sv),(6,.I (i:Int)),(7,str nx),(9,tv)]) (λtv w'=>RwZ w5 w' tv (if code[i].op=13\/code[i].op=14 then [code[i].n] else [])) ?_ ?_;by_cases hx:code[i].op=13\/code[i].op=14;rw [if_pos hx];rw [decide_eq_true hx] at hq;subst hq;refine W ?_;refine Z1 (Z0 (vs:=[(0,.I code[i].n)]) rfl (Zk _)) rfl ?_;rintro u w6 hN;have hu:SlV [] w6 u [code[i].n]:=hN.slv (by simp) rfl rfl (by simp [maxLen]);have h0:RwZ w5 w6 (.N) []:=(J7.nil).up (Z5.stp hN);clear hN;refine Z1 (Jy rfl (by decide) rfl rfl h0 hu (by simp) (by simp [maxLen])) rfl ?_;rintro v' w7 ⟨bW,-,-⟩;refine W ?_;exact Zc v' ⟨rfl,rfl,rfl,rfl,rfl,trivial⟩ bW;rw [if_neg hx];rw [decide_eq_false hx] at hq;subst hq;refine W ?_;exact Zc (.N) ⟨rfl,rfl,rfl,rfl,rfl,trivial⟩ J7.nil;rintro tv w6 eK
   try dsimp only at eK ⊢
   have pT:=dQ.up eK.2;refine W ?_;refine Z2u (σ:=Bool) (λq=>[(0,v),(4,sv),(6,.I (i:Int)),(7,str nx),(9,tv),(108,.B q)]) (λq w'=>w'=w6/\q=decide (code[i].op≠13/\i+1<code.length)) ?_ ?_;by_cases hx:code[i].op=13;refine QO ?_;exact Zc _ ⟨rfl,rfl,rfl,rfl,rfl,rfl,trivial⟩ ⟨rfl,by simp [hx]⟩;refine QO ?_;exact Zc _ ⟨rfl,rfl,rfl,rfl,rfl,rfl,trivial⟩ ⟨rfl,by simp only [ne_eq,hx,not_false_eq_true,true_and];exact decide_eq_decide.2 (by omega)⟩;rintro q w7 ⟨rfl,hq⟩
   try dsimp only
   refine JI (σ:=Value) (λtv=>[(0,v),(4,sv),(6,.I (i:Int)),(7,str nx),(9,tv)]) (λtv w'=>RwZ w5 w' tv (Z2L code[i] i code.length)) ?_ ?_;unfold Z2L;have bJ:(if code[i].op=13\/code[i].op=14 then [code[i].n] else []).length<=1:=by split<;>simp
   generalize (if code[i].op=13\/code[i].op=14 then [code[i].n] else [])=T1 at *;by_cases hx:code[i].op≠13/\i+1<code.length;rw [if_pos hx];rw [decide_eq_true hx] at hq;subst hq;refine W ?_;refine Z1 (Z0 (vs:=[(0,.I ((i:Int)+1))]) rfl (Zk _)) rfl ?_;rintro u w6 hN;have hu:SlV (ob tv) w6 u [(i:Int)+1]:=hN.slv (λb hb=>(eK.ob_le b hb).2) rfl rfl (by simp [maxLen]);have h0:=eK.up (Z5.stp hN);clear hN;refine Z1 (Jy rfl (by decide) rfl rfl h0 hu (by simp;omega) (by simp [maxLen];omega)) rfl ?_;rintro v' w8 ⟨bW,-,-⟩;refine W ?_;exact Zc v' ⟨rfl,rfl,rfl,rfl,rfl,trivial⟩ bW;rw [if_neg hx,XE];rw [decide_eq_false hx] at hq;subst hq;refine W ?_;exact Zc tv ⟨rfl,rfl,rfl,rfl,rfl,trivial⟩ eK;clear eK pT;rintro tv w6 eK
   try dsimp only at eK ⊢
   generalize Z2L code[i] i code.length=T at *;have rG:=(eK.1.slv0).max;have aB:SlV (ob sv) w6 tv T:=eK.slv (λb hb=>(hr.ob_le b hb).2);have pU:RwS w w6 sv strs:=hr.up eK.2;clear au hq;refine W ?_
   refine ZC (σ:=Nat×List Str) (λq=>[(0,v),(4,sv),(6,.I (i:Int)),(7,str nx),(9,tv),(10,.I (q.1:Int))])
    (λq w'=>q.1<=T.length/\Z39 nx T strs=Z39 nx (T.drop q.1) q.2/\RwS w w' sv q.2/\q.2.length=code.length/\(∀ s∈q.2,s.length<=16)/\SlV (ob sv) w' tv T) (λq=>T.length - q.1) (0,strs) ⟨rfl,rfl,rfl,rfl,rfl,rfl,trivial⟩ ⟨Xo _,rfl,pU,ai,dH,aB⟩ ?_
   rintro ⟨k,st⟩ w8 ⟨hk,ia,iG,lF,ib,jD⟩
   try dsimp only at hk ia iG lF ib jD ⊢
   have pV:=iG.1.slv0;by_cases iE:k<T.length
   case neg=>
    rw [Yat (by omega)] at ia;refine QO ?_;exact QL (i+1,st) ⟨hlt,du.trans (hM.trans ia),iG,lF,ib⟩ (Xp hlt (Xr i))
   obtain ⟨ic,kB⟩:=pS _ (Xb iE);have hd:T.drop k=T[k] :: T.drop (k+1):=XI iE;rw [hd,Z39] at ia;obtain ⟨q,nz⟩:∃ q:Nat,T[k]=(q:Int):=⟨T[k].toNat,by omega⟩
   have nA:q<st.length:=by omega
   have fp:st.getD (T[k]).toNat []=st[q]:=by rw [nz];simp [List.getD,nA]
   by_cases cH:st[q]≠[63]/\st[q]≠nx
   . have hn:Z1M strs i code[i]=none:=by
      rw [hM,ia,Zbh,fp,if_pos cH];rfl
     repeat'(first|refine W1 ?_|omega|refine VG ?_ ?_<;>intro hg|refine VC ?_ ?_<;>intro hc)
     refine RU ?_;exact ⟨by rw [hdone hn],iG.2⟩;all_goals (exfalso;first|exact cH.2 (Classical.not_not.1 (by assumption))|exact cH.1 (by assumption)|exact cH.1 (Classical.not_not.1 (by assumption)))
   . have pW:Zbh st T[k] nx=some (st.set q nx):=by rw [Zbh,fp,if_neg cH,nz,Yaz]
     rw [pW,Option.bind_some] at ia;repeat'(first|refine W1 ?_|omega|refine VG ?_ ?_<;>intro hg|refine VC ?_ ?_<;>intro hc)
     exact absurd ⟨by assumption,by assumption⟩ cH
     all_goals
      refine Zi (Z0Y (α:=Str) (y':=nx) (u:=str nx) rfl rfl rfl rfl iG.1 nA) ?_;rintro _ w9 ⟨lG,dN⟩;have pX:RwS w w9 sv (st.set q nx):=⟨lG,iG.step dN (λ_ h=>h)⟩
      refine W ?_;refine QL (k+1,st.set q nx) ⟨iE,ia,pX,by simpa using lF,λs hs=>?_,jD.ext (X':=ob sv) dN (λ_ h=>h) (λ_ h=>.inl h)⟩ (Xp iE (Xr k));rcases YaT hs with h|h
      exact ib s h;rw [h];exact bY
open Go Go.Eng Go.RowKit Go.Proofs Go.ChangeShapes Go.WideShapes Go.Deep
theorem Zog:ownKnob Tryz.prog.godebug=none:=by kernel_rfl
theorem ZnN:laidOutB Tryz.prog=true:=by kernel_rfl
section
variable {H:Type} {enc:TypeId×Value->H} {w:World} {base:Nat} {spare:Nat->Bool} {aC:Bool}
theorem ZnO {r:Reach} {b0:Nat} {v:Value} {d:DataW H} {p:List MemPlace} (hv:Value.okWide Tryz.prog w r b0 3 v) (h:DataW.Trod enc Tryz.prog w base spare aC 3 v d p):∃ z:Int,v=.I z/\I64 z:=by
 obtain ⟨z,rfl,_,_,hw⟩:=open_int Tryz.underlying3 hv h;exact ⟨z,rfl,by simpa [I64,Lit.wf,IntKind.min,IntKind.max,IntKind.signed,IntKind.bits] using hw⟩
theorem Zl4 {r:Reach} {b0:Nat} {v:Value} {d:DataW H} {p:List MemPlace} (hv:Value.okWide Tryz.prog w r b0 22 v) (h:DataW.Trod enc Tryz.prog w base spare aC 22 v d p) :
 ∃ l:List Int,SlV [] w v l/\(∀ x∈l,I64 x)/\Zge d=l.length:=by
 obtain ⟨fuel,h⟩:=h;obtain ⟨u,l,hu,hs,aF,ku⟩:=ZdD Tryz.underlying22 (by kernel_rfl) Tryz.underlying3 h;obtain ⟨a,m,c,rfl⟩:=okWide_slice Tryz.underlying22 hv;have ii:Value.slice a m c=u:=by simpa [Value.cells] using hu
 subst ii;exact ⟨l,hs,aF,ku⟩
end
end Go.Proofs.YteibicnbkggiiaaGreatDoor
namespace Go.Eng
open Go Go.RowKit Go.Proofs Go.ChangeShapes Go.WideShapes Go.Deep
end Go.Eng
namespace Go.Proofs.YteibicnbkggiiaaGreatDoor
open Go Go.Eng Go.RowKit Go.Proofs Go.ChangeShapes Go.WideShapes Go.Deep
section
variable {H:Type} {enc:TypeId×Value->H} {w:World} {base:Nat} {spare:Nat->Bool} {aC:Bool}
theorem k3:Tryz.prog.cellsOf 3=1:=by kernel_rfl
theorem k9:Tryz.prog.cellsOf 9=1:=by kernel_rfl
end
end Go.Proofs.YteibicnbkggiiaaGreatDoor
namespace Go.Eng
open Go Go.RowKit
variable {X:List Nat} {w w':World} {base T:Nat} {v:Value} {zs ys:List Int}
def ZdS (w:World) (base T:Nat) (v:Value) (zs:List Int):Prop:=(v=.N/\zs=[])\/∃ g cap cur,v=.slice (some ⟨g,0,none⟩) zs.length cap/\base<=g/\w.heap[g]?=some (.cells cur T (0,0))/\zs.length<=cap/\cap<=maxLen/\cur.size=cap/\cur.toList.take zs.length=zs.map (Value.int .i64)
theorem Row.toI (h:Row X w base T v zs):ZdS w base T v zs:=by
 obtain ⟨css,hl,hr,hx,ho⟩:=h;have hc:css=zs.map (λx=>[Value.int .i64 x]):=by
  apply YaR (by simpa using hl);intro i h1 h2;have:css[i]=[Value.int .i64 zs[i]]:=hr i (by omega) h1;simp [this]
 rcases ho with ⟨rfl,hn⟩|⟨g,cap,cur,rfl,hb,hg,ca,bL,bu,ht⟩
 exact .inl ⟨rfl,X7.1 hn⟩
 . refine .inr ⟨g,cap,cur,rfl,hb,hg,ca,bL,by simpa [Z3.k,Z8.k] using bu,?_⟩
   have h2:cur.toList.take (zs.length * 1)=css.flatten:=ht;rw [Nat.mul_one] at h2;rw [h2,hc];clear h2 ht hx hr hl hc ca hg bu
   induction zs with
   | nil=>rfl
   | cons a l ih=>simp at ih ⊢;exact ih
theorem ZdS.toRow (h:ZdS w base T v zs):Row X w base T v zs:=by
 rcases h with ⟨rfl,rfl⟩|⟨g,cap,cur,rfl,hb,hg,ca,bL,bu,ht⟩
 exact Row.nil
 . refine ⟨zs.map (λx=>[Value.int .i64 x]),by simp,λi h1 h2=>by simp;rfl,?_⟩
   have hf:(zs.map (λx=>[Value.int .i64 x])).flatten=zs.map (Value.int .i64):=by
    clear ht ca
    induction zs with
    | nil=>rfl
    | cons a l ih=>simp at ih ⊢;exact ih
   rw [hf];refine ⟨by simp [Z3.k,Z8.k],.inr ⟨g,cap,cur,rfl,hb,hg,ca,bL,by simpa [Z3.k,Z8.k] using bu,by simpa [Z3.k,Z8.k] using ht⟩⟩
theorem Z6J {zs:List Int} (hs:zs.Pairwise (·<=·)):(Lib.compact zs).Pairwise (· < ·)/\∀ y,y∈Lib.compact zs↔y∈zs:=by
 have hd:∀ i j,i<=j->j<zs.length->zs.toArray[i]!<=zs.toArray[j]!:=by
  intro i j dw hj;rcases Nat.lt_or_eq_of_le dw with h|rfl
  have:=Yax.1 hs i j (by omega) hj h;simpa [getElem!_pos,hj,show i<zs.length by omega] using this;exact YaH _
 have key:∀ m,m<=zs.length->(Lib.compactUpTo zs.toArray m).Pairwise (· < ·)/\∀ y,y∈Lib.compactUpTo zs.toArray m↔∃ i,i<m/\y=zs.toArray[i]!:=by
  intro m
  induction m with
  | zero=>intro _;refine ⟨by simp [Lib.compactUpTo],λy=>by simp [Lib.compactUpTo]⟩
  | succ m ih=>
    intro hm;obtain ⟨i1,i2⟩:=ih (by omega);rw [Lib.compactUpTo_succ];by_cases hk:Lib.keeps zs.toArray m=true;rw [if_pos hk];refine ⟨Ya3.2 ⟨i1,List.pairwise_singleton _ _,λa ha b hb=>?_⟩,λy=>?_⟩;obtain ⟨i,hi,rfl⟩:=(i2 a).1 ha;rw [Xn.1 hb];have ij:m=0\/zs.toArray[m]!≠zs.toArray[m - 1]!:=by simpa [Lib.keeps] using hk
    have h1:=hd i (m - 1) (by omega) (by omega);have h2:=hd (m - 1) m (by omega) (by omega);have h3:=ij.resolve_left (by omega);omega;rw [Xd,i2,Xn];constructor;rintro (⟨i,hi,rfl⟩|rfl);exact ⟨i,by omega,rfl⟩;exact ⟨m,by omega,rfl⟩;rintro ⟨i,hi,rfl⟩;by_cases bh:i<m;exact .inl ⟨i,bh,rfl⟩;exact .inr (by rw [show i=m by omega]);rw [if_neg hk,XE];have ij:¬ (m=0\/zs.toArray[m]!≠zs.toArray[m - 1]!):=by simpa [Lib.keeps] using hk
    have iC:m≠0:=λh=>ij (.inl h);have he:zs.toArray[m]! = zs.toArray[m - 1]!:=Decidable.byContradiction λh=>ij (.inr h);refine ⟨i1,λy=>?_⟩;rw [i2];constructor;rintro ⟨i,hi,rfl⟩;exact ⟨i,by omega,rfl⟩;rintro ⟨i,hi,rfl⟩;by_cases bh:i<m;exact ⟨i,bh,rfl⟩;exact ⟨m - 1,by omega,by rw [show i=m by omega,he]⟩
 obtain ⟨h1,h2⟩:=key zs.length (Xq _);refine ⟨h1,λy=>?_⟩;show y∈Lib.compactUpTo zs.toArray zs.length↔_;rw [h2];constructor;rintro ⟨i,hi,rfl⟩;simp [getElem!_pos,hi];intro h;obtain ⟨i,hi,rfl⟩:=Xv h;exact ⟨i,hi,by simp [getElem!_pos,hi]⟩
def Z56 (zs:List Int):List Int:=Lib.compact (zs.mergeSort λx y=>decide (x<=y))
theorem Z9k (zs:List Int):(Z56 zs).Pairwise (· < ·)/\∀ y,y∈Z56 zs↔y∈zs:=by
 have hp:(zs.mergeSort λx y=>decide (x<=y)).Pairwise (·<=·):=by
  have:=List.pairwise_mergeSort (le:=λ(x y:Int)=>decide (x<=y)) (λa b c h1 h2=>by simp at *;omega) (λa b=>by simp;omega) zs;exact this.imp (λh=>by simpa using h)
 obtain ⟨h1,h2⟩:=Z6J hp;exact ⟨h1,λy=>by unfold Z56;rw [h2];exact (List.mergeSort_perm zs _).mem_iff⟩
theorem Z7J {g q:Nat} {cur:Array Value} (os:Array Obj) (h:w.heap[g]?=some (.cells cur T (0,0))) (hl:ys.length<=cur.size) :
 Stp [g] w (Go.Sort.grow (Go.Sort.putRow (Value.int .i64) (Go.Sort.ahead w q) g 0 ys.toArray) os)/\
 ∃ cur',(Go.Sort.grow (Go.Sort.putRow (Value.int .i64) (Go.Sort.ahead w q) g 0 ys.toArray) os).heap[g]?=some (.cells cur' T (0,0))/\cur'.size=cur.size/\cur'.toList.take ys.length=ys.map (Value.int .i64):=by
 have hlt:g<w.heap.size:=(Xx.1 h).1;have hh:(Go.Sort.grow (Go.Sort.putRow (Value.int .i64) (Go.Sort.ahead w q) g 0 ys.toArray) os).heap=w.heap.modify g (Go.Sort.onCells (Go.Sort.putCells (Value.int .i64) 0 ys.toArray))++os:=rfl;refine ⟨⟨rfl,rfl,rfl,by rw [hh];simp,λb hb hn=>?_⟩,Go.Sort.putCells (Value.int .i64) 0 ys.toArray cur,?_,by simp [Go.Sort.putCells],?_⟩;rw [hh,Yau (by simpa using hb),Array.getElem?_modify,if_neg (by simp at hn;exact λe=>hn e.symm)];rw [hh,Yau (by simpa using hlt),Array.getElem?_modify,if_pos rfl,h];rfl;apply YaR;simp [Go.Sort.putCells];omega;intro i h1 h2;have hi:i<ys.length:=by simpa using h2
 simp [Go.Sort.putCells,hi]
theorem Z61 {g:Nat} {cur:Array Value} (h:w.heap[g]?=some (.cells cur T (0,0))) (ht:cur.toList.take zs.length=zs.map (Value.int .i64)):Go.Sort.Holds (Value.int .i64) w g 0 zs.toArray:=by
 intro j hj;have dM:j<zs.length:=by simpa using hj
 have hc:cur[j]?=some (.I zs[j]):=by
  have h1:(cur.toList.take zs.length)[j]?=some (.I zs[j]):=by rw [ht];simp [dM]
  rw [Yap,if_pos dM] at h1;simpa using h1
 constructor;simp [World.cell?,h,hc,dM];simp [World.frozen?,h]
end Go.Eng
namespace Go.Proofs.YteibicnbkggiiaaGreatDoor
open Go Go.Eng Go.RowKit
theorem ZdT {X:List Nat} {base T:Nat} {v:Value} {zs:List Int} (w) (h:Row X w base T v zs) (br:zs.length<4611686018427387904) :
 CC 317 #[v] w λr w'=>r=.tuple #[]/\Row X w' base T v (zs.mergeSort λx y=>decide (x<=y))/\Stp (ob v) w w':=by
 rcases h.toI with ⟨rfl,rfl⟩|⟨g,cap,cur,rfl,hb,hg,ca,bL,bu,ht⟩
 refine (Tryz.slices_Sort_int_none none 0 w).mono ?_;rintro _ _ ⟨rfl,rfl⟩;exact .mk ⟨rfl,by simpa using Row.nil,Stp.refl _ _⟩;have hlt:g<w.heap.size:=(Xx.1 hg).1;refine (Tryz.slices_Sort_int g 0 cap zs w (Z61 hg ht) hlt br).mono ?_;rintro _ _ ⟨rfl,q,os,rfl⟩;have hl:(zs.mergeSort λx y=>decide (x<=y)).length=zs.length:=List.length_mergeSort zs;obtain ⟨hS,cur',h1,h2,h3⟩:=Z7J (q:=q) os hg (ys:=zs.mergeSort λx y=>decide (x<=y)) (by omega);refine .mk ⟨rfl,ZdS.toRow (.inr ⟨g,cap,cur',by rw [hl],hb,h1,by omega,bL,by omega,h3⟩),hS⟩
theorem Z7K {X:List Nat} {base T:Nat} {v:Value} {zs:List Int} (w) (h:Row X w base T v zs) (br:zs.length<=9223372036854775807) :
 CC 318 #[v] w λr w'=>Row X w' base T r (Lib.compact zs)/\Stp (ob v) w w'/\ob r=ob v:=by
 rcases h.toI with ⟨rfl,rfl⟩|⟨g,cap,cur,rfl,hb,hg,ca,bL,bu,ht⟩
 refine (Tryz.slices_Compact_int_empty none 0 w).mono ?_;rintro _ _ ⟨rfl,rfl⟩;exact .mk ⟨by rw [show Lib.compact ([]:List Int)=[] from rfl];exact Row.nil,Stp.refl _ _,rfl⟩;refine (Tryz.slices_Compact_int g 0 cap zs w (Z61 hg ht) br ca).mono ?_;rintro _ _ ⟨rfl,q,rfl⟩;have bD:(Lib.compact zs).length<=zs.length:=by
  unfold Lib.compact Lib.compactUpTo;rw [X1];exact Xl (Ya1 _ _) (by simp)
 have e:∀ W:World,W=Go.Sort.grow W #[]:=λW=>by simp [Go.Sort.grow]
 rw [e (Go.Sort.putRow _ _ _ _ _)];obtain ⟨hS,cur',h1,h2,h3⟩:=Z7J (q:=q) #[] hg (ys:=Lib.compact zs++List.replicate (zs.length - (Lib.compact zs).length) 0) (by simp;omega);refine .mk ⟨ZdS.toRow (.inr ⟨g,cap,cur',rfl,hb,h1,by omega,bL,by omega,?_⟩),hS,rfl⟩;have h4:=congrArg (List.take (Lib.compact zs).length) h3;rw [YaD,Yan (by simp)] at h4;rw [h4];simp
theorem Z57 (s:Str) (y:Int):((ZA s).2.2=true/\y=(ZA s).1)↔∃ i,i<7/\s=Zb.getD i []/\y=(i:Int):=by
 by_cases h0:s=[100,97,121]
 subst h0;have e:ZA [100,97,121]=(0,3,true):=by decide +kernel
 have u:∀ i,i<7->[100,97,121]=Zb.getD i []->i=0:=by decide +kernel
 rw [e];constructor;rintro ⟨-,rfl⟩;exact ⟨0,by decide,by decide +kernel,rfl⟩;rintro ⟨i,hi,he,rfl⟩;rw [u i hi he];exact ⟨rfl,rfl⟩;by_cases h1:s=[115,101,114,118,101,100]
 subst h1;have e:ZA [115,101,114,118,101,100]=(1,3,true):=by decide +kernel
 have u:∀ i,i<7->[115,101,114,118,101,100]=Zb.getD i []->i=1:=by decide +kernel
 rw [e];constructor;rintro ⟨-,rfl⟩;exact ⟨1,by decide,by decide +kernel,rfl⟩;rintro ⟨i,hi,he,rfl⟩;rw [u i hi he];exact ⟨rfl,rfl⟩;by_cases h2:s=[101,120,116,114,97]
 subst h2;have e:ZA [101,120,116,114,97]=(2,1,true):=by decide +kernel
 have u:∀ i,i<7->[101,120,116,114,97]=Zb.getD i []->i=2:=by decide +kernel
 rw [e];constructor;rintro ⟨-,rfl⟩;exact ⟨2,by decide,by decide +kernel,rfl⟩;rintro ⟨i,hi,he,rfl⟩;rw [u i hi he];exact ⟨rfl,rfl⟩;by_cases h3:s=[98,121]
 subst h3;have e:ZA [98,121]=(3,1,true):=by decide +kernel
 have u:∀ i,i<7->[98,121]=Zb.getD i []->i=3:=by decide +kernel
 rw [e];constructor;rintro ⟨-,rfl⟩;exact ⟨3,by decide,by decide +kernel,rfl⟩;rintro ⟨i,hi,he,rfl⟩;rw [u i hi he];exact ⟨rfl,rfl⟩;by_cases h4:s=[116,111]
 subst h4;have e:ZA [116,111]=(4,1,true):=by decide +kernel
 have u:∀ i,i<7->[116,111]=Zb.getD i []->i=4:=by decide +kernel
 rw [e];constructor;rintro ⟨-,rfl⟩;exact ⟨4,by decide,by decide +kernel,rfl⟩;rintro ⟨i,hi,he,rfl⟩;rw [u i hi he];exact ⟨rfl,rfl⟩;by_cases h5:s=[99,111,117,114,116]
 subst h5;have e:ZA [99,111,117,114,116]=(5,1,true):=by decide +kernel
 have u:∀ i,i<7->[99,111,117,114,116]=Zb.getD i []->i=5:=by decide +kernel
 rw [e];constructor;rintro ⟨-,rfl⟩;exact ⟨5,by decide,by decide +kernel,rfl⟩;rintro ⟨i,hi,he,rfl⟩;rw [u i hi he];exact ⟨rfl,rfl⟩;by_cases h6:s=[97,109,111,117,110,116]
 subst h6;have e:ZA [97,109,111,117,110,116]=(6,1,true):=by decide +kernel
 have u:∀ i,i<7->[97,109,111,117,110,116]=Zb.getD i []->i=6:=by decide +kernel
 rw [e];constructor;rintro ⟨-,rfl⟩;exact ⟨6,by decide,by decide +kernel,rfl⟩;rintro ⟨i,hi,he,rfl⟩;rw [u i hi he];exact ⟨rfl,rfl⟩;constructor;rintro ⟨h,-⟩;exfalso;have hn:Zb.findIdx? (isS s)=none:=X9.2 λx hx=>by
  simp only [Zb,Xg,Xm,or_false] at hx;rcases hx with rfl|rfl|rfl|rfl|rfl|rfl|rfl<;>simp only [isS,decide_eq_false_iff_not]<;>intro e<;>first|exact (absurd e h0)|exact (absurd e.symm h0)|exact (absurd e h1)|exact (absurd e.symm h1)|exact (absurd e h2)|exact (absurd e.symm h2)|exact (absurd e h3)|exact (absurd e.symm h3)|exact (absurd e h4)|exact (absurd e.symm h4)|exact (absurd e h5)|exact (absurd e.symm h5)|exact (absurd e h6)|exact (absurd e.symm h6)|skip
 simp [ZA,idx,hn] at h
 . rintro ⟨i,hi,he,-⟩
   exfalso
   match i,hi with
   | 0,_=>exact h0 he
   | 1,_=>exact h1 he
   | 2,_=>exact h2 he
   | 3,_=>exact h3 he
   | 4,_=>exact h4 he
   | 5,_=>exact h5 he
   | 6,_=>exact h6 he
theorem ZdU (a o:Str) (k n:Int) (s:Str) (p:Option Addr) (l c:Nat) (k' n':Int) (s':Str) (p':Option Addr) (l' c':Nat) (w):(Instr.build 84 #[(0,str a),(2,str o),(3,.agg #[.I k,.I n,str s,.slice p l c]),(4,.agg #[.I k',.I n',str s',.slice p' l' c'])]).run Tryz.prog w=.ok (.agg #[str a,.I 0,str o,.I k,.I n,str s,.slice p l c,.I k',.I n',str s',.slice p' l' c',str [],str []]) w:=by kernel_rfl
theorem Z3K {x y:Nd} (h:Ze x≠0) (hy:y∈x.kids):Ze y≠0:=by
 intro h0;apply h;rw [JW];unfold J4;split;rfl;rw [if_pos (by rw [<- h0];exact Yaj hy)]
def Seg (C:List Ins) (p:Nat) (c:List Ins):Prop:=∃ A B,C=A++c++B/\A.length=p
theorem Seg.left {C a b:List Ins} {p:Nat} (h:Seg C p (a++b)):Seg C p a:=by
 obtain ⟨A,B,rfl,hp⟩:=h;exact ⟨A,b++B,by simp,hp⟩
theorem Seg.right {C a b:List Ins} {p:Nat} (h:Seg C p (a++b)):Seg C (p+a.length) b:=by
 obtain ⟨A,B,rfl,hp⟩:=h;exact ⟨A++a,B,by simp,by simp [hp]⟩
theorem Seg.at {C r:List Ins} {x:Ins} {p:Nat} (h:Seg C p (x :: r)):C.getD p ⟨0,0⟩=x:=by
 obtain ⟨A,B,rfl,hp⟩:=h;subst hp;simp
def Z3b (C:List Ins):Nat->Nat->List (Option Shp)->Option (List (Option Shp))
 | _,0,st=>some st
 | p,k+1,st=>(J0 st p (C.getD p ⟨0,0⟩)).bind (Z3b C (p+1) k)
theorem Z0j (C:List Ins) (b:Nat):∀ (a p:Nat) (st:List (Option Shp)),Z3b C p (a+b) st=(Z3b C p a st).bind (Z3b C (p+a) b)
 | 0,p,st=>by simp [Z3b]
 | a + 1, p, st => by
   rw [show a+1+b=(a+b)+1 by omega,Z3b,Z3b];cases h:J0 st p (C.getD p ⟨0,0⟩) with
   | none=>rfl
   | some st'=>
     simp only [Option.bind_some];rw [Z0j C b a (p+1) st',show p+1+a=p+(a+1) by omega]
theorem Z28 (C:List Ins) (p:Nat) (st:List (Option Shp)):Z3b C p 1 st=J0 st p (C.getD p ⟨0,0⟩):=by
 rw [Z3b];cases J0 st p (C.getD p ⟨0,0⟩)<;>rfl
theorem Z62 (C:List Ins) (st:List (Option Shp)):∀ k:Nat,Z1a C k st=Z3b C 0 k st
 | 0=>rfl
 | k + 1 => by
   rw [Z1a,Z0j,Z62 C st k];cases Z3b C 0 k st with
   | none=>rfl
   | some st'=>simp only [Option.bind_some,XL];rw [Z28]
def Z1q (C:List Ins) (p:Nat) (c:List Ins) (s s':Shp):Prop:=
 ∀ st : List (Option Shp), st.length = C.length -> p + c.length < C.length -> st[p]? = some (some s) -> (∀ i, p < i -> i < p + c.length -> st[i]? = some none)->
   (st[p+c.length]?=some none\/st[p+c.length]?=some (some s'))->
   ∃ st',Z3b C p c.length st=some st'/\st'.length=C.length/\st'[p+c.length]?=some (some s')/\∀ i,p+c.length<i->st'[i]?=st[i]?
theorem Z6K {st:List (Option Shp)} {t:Nat} {sh:Shp} (h:t<st.length) (h2:st[t]?=some none\/st[t]?=some (some sh)) :
 ∃ st',ZO st (t:Int) sh=some st'/\st'.length=st.length/\st'[t]?=some (some sh)/\∀ i,i≠t->st'[i]?=st[i]?:=by
 unfold ZO;rw [if_pos (by omega),Yaz,XJ];rcases h2 with h2|h2
 rw [h2];exact ⟨_,rfl,by simp,by simp [h],λi hi=>List.getElem?_set_ne (λe=>hi e.symm)⟩;rw [h2];simp only [YaF,if_pos];exact ⟨_,rfl,rfl,h2,λ_ _=>rfl⟩
theorem Z1q.app {C a b:List Ins} {p:Nat} {s s1 s2:Shp} (ha:Z1q C p a s s1) (hb:Z1q C (p+a.length) b s1 s2) (h1:a≠[]) (h2:b≠[]):Z1q C p (a++b) s s2:=by
 intro st hl hlt h0 hn hq;have l1:=Yam.2 h1;have l2:=Yam.2 h2;simp only [Xf] at hlt hn hq ⊢;obtain ⟨st1,r1,e1,e2,e3⟩:=ha st hl (by omega) h0 (λi hi bN=>hn i hi (by omega)) (.inl (hn _ (by omega) (by omega)));obtain ⟨st2,r2,g1,g2,g3⟩:=hb st1 e1 (by omega) e2 (λi hi bN=>by rw [e3 i hi];exact hn i (by omega) (by omega)) (by rw [e3 _ (by omega),YaA];exact hq);refine ⟨st2,by rw [Z0j,r1];exact r2,g1,by rw [<- YaA];exact g2,λi hi=>by rw [g3 i (by omega),e3 i (by omega)]⟩
theorem Z3c {C:List Ins} {p:Nat} {x:Ins} {s s':Shp} (hs:Seg C p [x]) (h1:x.op≠24) (h2:x.op≠13) (h3:x.op≠14) (hx:Zq x s=some s'):Z1q C p [x] s s':=by
 intro st hl hlt h0 hn hq;simp only [Xh,Xj,XL] at hlt hq ⊢;obtain ⟨st',r1,r2,r3,r4⟩:=Z6K (st:=st) (t:=p+1) (sh:=s') (by omega) hq;refine ⟨st',?_,by omega,r3,λi hi=>r4 i (by omega)⟩;rw [Z28,hs.at];unfold J0;rw [XJ,h0];simp only [YaF,hx];rw [if_neg h1,if_neg h2,if_neg h3];exact r1
def Z47 (b:Nat):List Ins->Shp->Option Shp
 | [],s=>some s
 | x :: r, s => match Zq x s with
   | none=>none
   | some s'=>if s'.length<=b then Z47 b r s' else none
theorem Z0K {x:Ins} {ts r s:Shp} (h:Zq x ts=some r) (hl:s.length+r.length<=16):Zq x (s++ts)=some (s++r):=by
 unfold Zq at h ⊢;dsimp only at h ⊢;split at h;rename_i hc;obtain ⟨c1,c2,c3,c4⟩:=hc;simp only [Xi] at h;have e1:(s++ts).length - (Zt x).1.length=s.length+(ts.length - (Zt x).1.length):=by rw [Xf];omega
 have e2:(s++ts).drop (s.length+(ts.length - (Zt x).1.length))=ts.drop (ts.length - (Zt x).1.length):=by
  rw [List.drop_append,List.drop_of_length_le (by omega),XH];congr 1;omega
 have e3:(s++ts).take (s.length+(ts.length - (Zt x).1.length))=s++ts.take (ts.length - (Zt x).1.length):=by
  rw [YaC,XV (by omega),show s.length+(ts.length - (Zt x).1.length) - s.length=ts.length - (Zt x).1.length by omega]
 rw [e1,e2,e3];have e4:s++ts.take (ts.length - (Zt x).1.length)++(Zt x).2.2.1=s++r:=by rw [XM,h]
 rw [e4,if_pos ⟨c1,by rw [Xf];omega,c3,by rw [Xf];omega⟩];cases h
theorem Z63 {C:List Ins} (b:Nat):∀ (L:List Ins) (p:Nat) (s ts r:Shp),L≠[]->Seg C p L->(∀ x∈L,x.op≠24/\x.op≠13/\x.op≠14)->Z47 b L ts=some r->s.length+b<=16->Z1q C p L (s++ts) (s++r)
 | [],_,_,_,_,h,_,_,_,_=>absurd rfl h
 | [x], p, s, ts, r, _, hs, ho, hf, hb => by
   obtain ⟨o1,o2,o3⟩:=ho x (by simp);unfold Z47 at hf;cases hx:Zq x ts with
   | none=>rw [hx] at hf;cases hf
   | some s1=>
     rw [hx] at hf;simp only at hf;split at hf;rename_i hl;simp only [Z47,Xi] at hf;subst hf;exact Z3c hs o1 o2 o3 (Z0K hx (by omega));cases hf
 | x :: y :: L, p, s, ts, r, _, hs, ho, hf, hb => by
   obtain ⟨o1,o2,o3⟩:=ho x (by simp);rw [Z47] at hf;cases hx:Zq x ts with
   | none=>rw [hx] at hf;cases hf
   | some s1=>
     rw [hx] at hf;simp only at hf;split at hf;rename_i hl;have cR:Seg C p ([x]++(y :: L)):=hs;exact Z1q.app (a:=[x]) (Z3c cR.left o1 o2 o3 (Z0K hx (by omega))) (Z63 b (y :: L) _ s s1 r (by simp) cR.right (λz hz=>ho z (by simp [hz])) hf hb) (by simp) (by simp);cases hf
theorem Z6L {C Lc Ly Ln:List Ins} {p:Nat} {s s':Shp} (t1 t2:Int)
 (hs:Seg C p (Lc++[⟨14,t1⟩]++Ly++[⟨13,t2⟩]++Ln)) (kB:t1=((p+Lc.length+1+Ly.length+1:Nat):Int)) (ik:t2=((p+Lc.length+1+Ly.length+1+Ln.length:Nat):Int))
 (hc:Z1q C p Lc s (s++[2])) (hy:Z1q C (p+Lc.length+1) Ly s s') (hn:Z1q C (p+Lc.length+1+Ly.length+1) Ln s s') (h1:Lc≠[]) (h2:Ly≠[]) (h3:Ln≠[]) (hl:s.length<=16) (da:s'.length<=16) :
 Z1q C p (Lc++[⟨14,t1⟩]++Ly++[⟨13,t2⟩]++Ln) s s':=by
 intro st ai hlt h0 aR hq;have l1:=Yam.2 h1;have l2:=Yam.2 h2;have l3:=Yam.2 h3;have bV:(Lc++[(⟨14,t1⟩:Ins)]++Ly++[(⟨13,t2⟩:Ins)]++Ln).length=Lc.length+(1+(Ly.length+(1+Ln.length))):=by simp only [Xf,Xh,Xj];omega
 rw [bV] at hlt aR hq ⊢;have g14:C.getD (p+Lc.length) ⟨0,0⟩=⟨14,t1⟩:=(show Seg C (p+Lc.length) (⟨14,t1⟩ :: (Ly++[⟨13,t2⟩]++Ln)) from (show Seg C p (Lc++(⟨14,t1⟩ :: (Ly++[⟨13,t2⟩]++Ln))) by simpa using hs).right).at;have g13:C.getD (p+Lc.length+1+Ly.length) ⟨0,0⟩=⟨13,t2⟩:=by
  have h:=(show Seg C p ((Lc++[⟨14,t1⟩]++Ly)++(⟨13,t2⟩ :: Ln)) by simpa using hs).right.at;rw [<- h];congr 1;simp only [Xf,Xh,Xj];omega
 obtain ⟨st1,r1,e1,e2,e3⟩:=hc st ai (by omega) h0 (λi hi bN=>aR i hi (by omega)) (.inl (aR _ (by omega) (by omega)));have n14:Zq ⟨14,t1⟩ (s++[2])=some s:=by
  have:=Z0K (x:=⟨14,t1⟩) (ts:=[2]) (r:=[]) (s:=s) (by simp [Zq,Zt]) (by simpa using hl);simpa using this
 obtain ⟨st2,q1,q2,q3,q4⟩:=Z6K (st:=st1) (t:=p+Lc.length+1+Ly.length+1) (sh:=s) (by omega) (.inl (by rw [e3 _ (by omega)];exact aR _ (by omega) (by omega)));obtain ⟨st3,u1,u2,u3,u4⟩:=Z6K (st:=st2) (t:=p+Lc.length+1) (sh:=s) (by omega) (.inl (by rw [q4 _ (by omega),e3 _ (by omega)];exact aR _ (by omega) (by omega)));have s14:Z3b C (p+Lc.length) 1 st1=some st3:=by
  rw [Z28,g14];unfold J0;rw [XJ,e2];simp only [YaF,n14];rw [if_neg (by simp),if_neg (by simp),if_pos trivial,if_pos (by omega),kB,q1];simp only [Option.bind_some];rw [<- u1];congr 1
 obtain ⟨st4,v1,v2,v3,v4⟩:=hy st3 (by omega) (by omega) u3 (λi hi bN=>by rw [u4 i (by omega),q4 i (by omega),e3 i (by omega)];exact aR i (by omega) (by omega)) (.inl (by rw [u4 _ (by omega),q4 _ (by omega),e3 _ (by omega)];exact aR _ (by omega) (by omega)));have n13:Zq ⟨13,t2⟩ s'=some s':=by
  simp [Zq,Zt,da]
 have kw:st4[p+Lc.length+1+Ly.length+1+Ln.length]?=st[p+(Lc.length+(1+(Ly.length+(1+Ln.length))))]?:=by
  rw [v4 _ (by omega),u4 _ (by omega),q4 _ (by omega),e3 _ (by omega)];congr 1;omega
 obtain ⟨st5,w1,w2,w3,w4⟩:=Z6K (st:=st4) (t:=p+Lc.length+1+Ly.length+1+Ln.length) (sh:=s') (by omega) (by rw [kw];exact hq);have s13:Z3b C (p+Lc.length+1+Ly.length) 1 st4=some st5:=by
  rw [Z28,g13];unfold J0;rw [XJ,v3];simp only [YaF,n13];rw [if_neg (by simp),if_pos trivial,if_pos (by omega),ik,w1]
 obtain ⟨st6,x1,x2,x3,x4⟩:=hn st5 (by omega) (by omega) (by rw [w4 _ (by omega),v4 _ (by omega),u4 _ (by omega)];exact q3) (λi hi bN=>by rw [w4 i (by omega),v4 i (by omega),u4 i (by omega),q4 i (by omega),e3 i (by omega)];exact aR i (by omega) (by omega)) (.inr w3);refine ⟨st6,?_,x2,?_,λi hi=>by rw [x4 i (by omega),w4 i (by omega),v4 i (by omega),u4 i (by omega),q4 i (by omega),e3 i (by omega)]⟩;rw [Z0j,r1,Option.bind_some,Z0j,s14,Option.bind_some,Z0j,v1,Option.bind_some,Z0j,s13,Option.bind_some];exact x1;rw [<- x3];congr 1;omega
theorem Zgw {x:Sig} (h:Z1Y x≠0):(x,Value.int .i64 (Z1Y x))∈Z1k:=by
 have hs:=Z7q x;unfold Z1Y ZaX Z1Q at *;cases hf:Z1k.find? (λp=>decide (p.1=x)) with
 | none=>rw [hf] at h;simp at h
 | some p=>
   have h1:=XZ hf;have h2:=Ya6 hf;simp only [decide_eq_true_eq] at h2;rw [hf] at hs;simp only at hs ⊢;exact (congrArg (·∈Z1k) (Prod.ext h2 hs:p=(x,_))).mp h1
theorem Zbo {x:Sig} (h:Z1Y x≠0):∃ e∈Z1k,x=e.1/\e.2=.I (Z1Y x):=⟨_,Zgw h,rfl,rfl⟩
theorem Zhz {ts:List Int} (h0:(0:Int)∉ts) (h3:ts.length<=3) (hn:ts≠[]) (h2:ts.getD 2 0=0):(ts.getD 1 0=0/\ts=[ts.getD 0 0])\/(ts.getD 1 0≠0/\ts=[ts.getD 0 0,ts.getD 1 0]):=by
 match ts,h3 with
 | [],_=>exact absurd rfl hn
 | [a],_=>left;exact ⟨rfl,rfl⟩
 | [a,b],_=>right;refine ⟨λhb=>h0 ?_,rfl⟩;simp at hb;simp [hb]
 | [a,b,c],_=>exact absurd (by simp at h2;simp [h2]) h0
theorem Z48 {k n:Int} {s:Str} {ts:List Int} (h:J4 k n s ts≠0) :
 (ts=[]/\J4 k n s ts=JV k n s)\/
 ((0:Int)∉ts/\ts.length<=3/\ts≠[]/\((k=9/\ts=[2,J4 k n s ts,J4 k n s ts])\/(k=6/\ts.getD 2 0=0/\J4 k n s ts=Z0F s (ts.getD 0 0) (ts.getD 1 0))\/(J4 k n s ts=Z1Y ⟨k,s,ts.getD 0 0,ts.getD 1 0,ts.getD 2 0⟩))):=by
 unfold J4 at h ⊢;split at h;exact absurd rfl h;rename_i h3;split at h;exact absurd rfl h;rename_i h0;rw [if_neg h3,if_neg h0];split at h;rename_i he
 left;exact ⟨he,by rw [if_pos he]⟩;rename_i he
 right;rw [if_neg he];refine ⟨h0,by omega,he,?_⟩;split at h;exact absurd rfl h;rename_i hn;rw [if_neg hn];split at h
 . rename_i h9
   left;rw [if_pos h9];refine ⟨h9.1,?_⟩;obtain ⟨_,_,e2,e3⟩:=h9
   match ts,h3 with
   | [],_=>exact absurd rfl he
   | [a],_=>simp at e2 e3 h
   | [a,b],_=>simp at e2 e3 h;exact absurd e3 h
   | [a,b,c],_=>simp at e2 e3 ⊢;exact ⟨e2,e3.symm⟩
   | a :: b :: c :: d :: r,h3=>simp at h3
 rename_i h9;rw [if_neg h9];split at h;rename_i h6
 right;left;rw [if_pos h6];exact ⟨h6.1,h6.2,rfl⟩;rename_i h6
 right;right;rw [if_neg h6]
theorem Zgx {α:Type} {l:List α} (h:l.length=2):∃ a b,l=[a,b]:=by
 match l,h with
 | [a,b],_=>exact ⟨a,b,rfl⟩
theorem Zgy {α:Type} {l:List α} (h:l.length=3):∃ a b c,l=[a,b,c]:=by
 match l,h with
 | [a,b,c],_=>exact ⟨a,b,c,rfl⟩
theorem Z7L (x:Nd):Ze x≠0->∀ p,Zd x p≠[]:=by
 induction x using Nd.ind with
 | h k n s l ih=>
 intro ht p;have hk:∀ y∈l,Ze y≠0:=λy hy=>Z3K (x:=.mk k n s l) ht hy;rw [Zd];unfold Z0H;have hp:∀ p,l≠[]->Z0G k s (l.map Zd) p≠[]:=by
  intro p hl;unfold Z0G;cases l with
  | nil=>exact absurd rfl hl
  | cons y r=>
    have:=ih y (by simp) (hk y (by simp)) p;simp only [Xz,J5];intro h;simp only [Ya0] at h;exact this h.1.1.1
 split;simp;rename_i hl;have da:l≠[]:=λh=>hl (by rw [h];rfl)
 split;unfold chC;simp;split;unfold chC;simp;split;unfold chC;simp;split;simp;exact hp p da
theorem Z7M {C:List Ins}:∀ (l:List Nd),(∀ y∈l,∀ p s,Seg C p (Zd y p)->s.length+Zx y<=16->Z1q C p (Zd y p) s (s++[Ze y]))->(∀ y∈l,∀ p,Zd y p≠[])->
 ∀ p s,l≠[]->Seg C p (J5 (l.map Zd) p)->(∀ y∈l,s.length+(l.length - 1)+Zx y<=16)->Z1q C p (J5 (l.map Zd) p) s (s++l.map Ze)
 | [],_,_,_,_,h,_,_=>absurd rfl h
 | [y], hr, aZ, p, s, _, hs, hb => by
   have e:J5 ([y].map Zd) p=Zd y p:=by simp [J5]
   rw [e] at hs ⊢;exact hr y (by simp) p s hs (by have:=hb y (by simp);simpa using this)
 | y :: z :: l, hr, aZ, p, s, _, hs, hb => by
   have e:J5 ((y :: z :: l).map Zd) p=Zd y p++J5 ((z :: l).map Zd) (p+(Zd y p).length):=by simp [J5]
   rw [e] at hs ⊢;have h1:=hr y (by simp) p s hs.left (by have:=hb y (by simp);omega);have h2:=Z7M (z :: l) (λy hy=>hr y (by simp [hy])) (λy hy=>aZ y (by simp [hy])) (p+(Zd y p).length) (s++[Ze y]) (by simp) hs.right (λw hw=>by
    have:=hb w (by simp [hw]);simp only [Xf,Xh,Xj] at this ⊢;omega)
   have h3:J5 ((z :: l).map Zd) (p+(Zd y p).length)≠[]:=by
    simp only [Xz,J5];intro h;simp only [Ya0] at h;exact aZ z (by simp) _ h.1
   have:=Z1q.app h1 h2 (aZ y (by simp) p) h3;simpa using this
theorem Z0L {C:List Ins} {l:List Nd} {L:List Ins} {p:Nat} {s ts r:Shp} (hr:∀ y∈l,∀ p s,Seg C p (Zd y p)->s.length+Zx y<=16->Z1q C p (Zd y p) s (s++[Ze y])) (aZ:∀ y∈l,∀ p,Zd y p≠[])
 (cY:l.map Ze=ts) (hl:l≠[]) (hL:L≠[]) (hs:Seg C p (J5 (l.map Zd) p++L)) (hb:∀ y∈l,s.length+(l.length - 1)+Zx y<=16) (ho:∀ x∈L,x.op≠24/\x.op≠13/\x.op≠14) (hf:Z47 2 L ts=some r) (h2:s.length+2<=16) :
 Z1q C p (J5 (l.map Zd) p++L) s (s++r):=by
 have h1:=Z7M l hr aZ p s hl hs.left hb;rw [cY] at h1;have h3:J5 (l.map Zd) p≠[]:=by
  cases l with
  | nil=>exact absurd rfl hl
  | cons y l=>
    simp only [Xz,J5];intro h;simp only [Ya0] at h;exact aZ y (by simp) _ h.1
 exact Z1q.app h1 (Z63 2 L _ s ts r hL hs.right ho hf h2) h3 hL
def Z29 (k:Int) (s:Str):List Ins:=(if k=8\/k=5/\s=[45] then [⟨8,0⟩] else [])++Z2D (opF s)
theorem Z1r (k:Int) (s:Str) (cs:List Cf) (p:Nat):Z0G k s cs p=J5 cs p++Z29 k s:=by unfold Z0G Z29;rw [XM]
def okL (L:List Ins) (ts:List Int) (t:Int):Bool:=decide (L≠[]) && L.all (λx=>decide (x.op≠24/\x.op≠13/\x.op≠14)) && decide (Z47 2 L ts=some [t])
theorem Z3d {L:List Ins} {ts:List Int} {t:Int} (h:okL L ts t=true):L≠[]/\(∀ x∈L,x.op≠24/\x.op≠13/\x.op≠14)/\Z47 2 L ts=some [t]:=by
 unfold okL at h;simp only [Xa,decide_eq_true_eq,Xy] at h;exact ⟨h.1.1,h.1.2,h.2⟩
def ZhA (e:Z8Q):Bool:=
 match e.2 with
 | .I t=>decide (e.1.kind≠9) && decide (e.1.kind≠6) && decide (e.1.c=0) && okL (Z29 e.1.kind e.1.s) (if e.1.b=0 then [e.1.a] else [e.1.a,e.1.b]) t
 | _=>false
theorem Zgz:Z1k.all ZhA=true:=by decide +kernel
theorem ZdV:JK.all (λs=>okL (Z29 6 s++(if s=[45] then [⟨6,0⟩] else [])) [1,1] 1 && !decide (s=[97,110,100]) && !decide (s=[111,114]))=true:=by decide +kernel
theorem ZgA:Z0Q.all (λs=>okL (Z29 6 s) [1,1] 2 && okL (Z29 6 s) [3,3] 2 && !decide (s=[97,110,100]) && !decide (s=[111,114]) && !decide (s=[45]))=true:=by decide +kernel
theorem Zbp (C:List Ins) (x:Nd):Ze x≠0->∀ p s,Seg C p (Zd x p)->s.length+Zx x<=16->Z1q C p (Zd x p) s (s++[Ze x]):=by
 induction x using Nd.ind with
 | h k n s l ih=>
 intro ht p sh hs hb;have hk:∀ y∈l,Ze y≠0:=λy hy=>Z3K (x:=.mk k n s l) ht hy;have hr:∀ y∈l,∀ p s,Seg C p (Zd y p)->s.length+Zx y<=16->Z1q C p (Zd y p) s (s++[Ze y]):=λy hy=>ih y hy (hk y hy);have aZ:∀ y∈l,∀ p,Zd y p≠[]:=λy hy=>Z7L y (hk y hy);have bO:∀ y∈l,Zx y+1<=Zx (.mk k n s l):=λy hy=>by have:=Z7v (x:=.mk k n s l) hy;omega
 have hrange:=Z1Z (.mk k n s l);have il:Ze (.mk k n s l)=J4 k n s (l.map Ze):=JW _;rw [Zd] at hs ⊢;rw [il] at ht hrange ⊢;rcases Z48 ht with ⟨he,hc⟩|⟨h0,h3,gj,hc⟩
 ·
   have hl:l=[]:=by simpa using he
   subst hl;unfold Z0H at hs ⊢;rw [if_pos (show (List.map Zd ([]:List Nd)).length=0 from rfl)] at hs ⊢;rw [hc] at ht ⊢;have ai:sh.length+1<=16:=by
    have:1<=Zx (.mk k n s []):=by rw [JG];omega
    omega
   refine Z3c hs ?_ ?_ ?_ ?_;unfold Z0r;split<;>(try split)<;>(try split)<;>simp;unfold Z0r;split<;>(try split)<;>(try split)<;>simp;unfold Z0r;split<;>(try split)<;>(try split)<;>simp;have bY:Zq (Z0r k n s) []=some [JV k n s]:=by
    unfold JV at ht ⊢;unfold Z0r;by_cases k4:k=4;subst k4;rw [if_pos rfl] at ht ⊢;split at ht
    . rename_i hn
      rw [if_pos hn];have hf:((ZA s).2.1=3/\((ZA s).1=0\/(ZA s).1=1))\/((ZA s).2.1=1/\2<=(ZA s).1/\(ZA s).1<7):=by
       have h1:(ZA s).2.2=true:=by
        cases hb:(ZA s).2.2 with
        | true=>rfl
        | false=>exact absurd (Z3C hb) ht
       obtain ⟨i,hi,iF,_⟩:=(Z57 s (ZA s).1).1 ⟨h1,rfl⟩;subst iF
       match i,hi with
       | 0,_=>decide +kernel
       | 1,_=>decide +kernel
       | 2,_=>decide +kernel
       | 3,_=>decide +kernel
       | 4,_=>decide +kernel
       | 5,_=>decide +kernel
       | 6,_=>decide +kernel
      rw [if_neg (by decide),if_neg (by decide),if_neg (by decide)];rcases hf with ⟨e1,e2⟩|⟨e1,e2,e3⟩
      simp [Zq,Zt,e1,e2];omega;simp [Zq,Zt,e1];omega
    exact absurd rfl ht;rw [if_neg k4] at ht ⊢;split at ht;exact absurd rfl ht;rename_i bU;rw [if_neg bU];by_cases k1:k=1;rw [if_pos k1] at ht ⊢;rw [if_pos k1];split at ht;rename_i h;rw [if_pos h];simp [Zq,Zt];omega;exact absurd rfl ht;rw [if_neg k1] at ht ⊢;rw [if_neg k1];by_cases k2:k=2;rw [if_pos k2] at ht ⊢;rw [if_pos k2];split at ht;rename_i h;rw [if_pos h];simp [Zq,Zt];omega;exact absurd rfl ht;rw [if_neg k2] at ht ⊢;rw [if_neg k2];by_cases k3:k=3;rw [if_pos k3] at ht ⊢;rw [if_pos k3];split at ht;rename_i h;rw [if_pos h];simp [Zq,Zt];omega;exact absurd rfl ht;rw [if_neg k3] at ht;exact absurd rfl ht
   have:=Z0K (s:=sh) bY (by simpa using ai);simpa using this
 . have hl:l≠[]:=λh=>gj (by rw [h];rfl)
   have ai:l.length<=3:=by simpa using h3
   have bV:¬ (l.map Zd).length=0:=by simpa using hl
   unfold Z0H at hs ⊢;rw [if_neg bV] at hs ⊢;rcases hc with ⟨h9,cY⟩|⟨h6,pY,cC⟩|kA
   ·
     rw [if_pos h9] at hs ⊢;generalize J4 k n s (l.map Ze)=t at *;have eC:l.length=3:=by have:=congrArg List.length cY;simpa using this
     obtain ⟨a,b,c,rfl⟩:=Zgy eC;simp only [Xz,X6,Ya5,and_true] at cY;obtain ⟨ta,tb,tc⟩:=cY;simp only [Xz,X6,Yak,Yal] at hs ⊢;unfold chC at hs ⊢;have na:=bO a (by simp);have nb:=bO b (by simp);have nc:=bO c (by simp);refine Z6L _ _ hs rfl rfl ?_ ?_ ?_ (aZ a (by simp) _) (aZ b (by simp) _) (aZ c (by simp) _) (by omega) (by simp only [Xf,Xh,Xj];omega);rw [<- ta];exact hr a (by simp) p sh (by have:=hs.left.left.left.left;exact this) (by omega);rw [<- tb];have h2:=hs.left.left.right;simp only [Xf,Xh,Xj] at h2;exact hr b (by simp) _ sh h2 (by omega);rw [<- tc];have h2:=hs.right;simp only [Xf,Xh,Xj] at h2;have e:p+((Zd a p).length+(0+1)+(Zd b (p+(Zd a p).length+1)).length+(0+1))=p+(Zd a p).length+1+(Zd b (p+(Zd a p).length+1)).length+1:=by omega
     rw [e] at h2;exact hr c (by simp) _ sh h2 (by omega)
   ·
     subst h6;rw [if_neg (by decide)] at hs ⊢;rcases Zhz h0 h3 gj pY with ⟨cZ,cY⟩|⟨cZ,cY⟩
     exfalso;apply ht;rw [cC,cZ];have jE:(l.map Ze).getD 0 0≠0:=λh=>h0 (by rw [cY,h];simp)
     unfold Z0F;split;rw [if_neg (by omega)];split;rw [if_neg (by omega)];split;rw [if_neg (by omega)];rfl;have eW:l.length=2:=by have:=congrArg List.length cY;simpa using this
     obtain ⟨a,b,rfl⟩:=Zgx eW;simp only [Xz,X6,Yak,Yal] at cC;have na:=bO a (by simp);have nb:=bO b (by simp);have ra:=Z1Z a;have fE:∀ y∈[a,b],sh.length+([a,b].length - 1)+Zx y<=16:=λy hy=>by
      have:=bO y hy;simp only [Xh,Xj];omega
     have h2:sh.length+2<=16:=by
      have:1<=Zx a:=by rw [JG];omega
      omega
     by_cases hA:s∈JK;have aF:=Xy.1 ZdV s hA;simp only [Xa,YaP,decide_eq_false_iff_not] at aF;obtain ⟨⟨aF,im⟩,lH⟩:=aF;obtain ⟨o1,o2,o3⟩:=Z3d aF;have bE:Ze a=Ze b/\Ze a=1:=by
      unfold Z0F at cC;rw [if_pos hA] at cC;split at cC;assumption;exact absurd cC ht
     have kB:J4 6 n s ([a,b].map Ze)=1:=by
      show J4 6 n s [Ze a,Ze b]=1;rw [cC];unfold Z0F;rw [if_pos hA,if_pos bE]
     rw [kB];rw [if_neg (by intro h;exact im h.2),if_neg (by intro h;exact lH h.2)] at hs ⊢;split at hs;rename_i hm;rw [if_pos hm];rw [Z1r,XM] at hs ⊢;rw [if_pos hm.2] at o1 o2 o3;exact Z0L hr aZ (ts:=[1,1]) (by simp [bE.2,<- bE.1]) (by simp) o1 hs fE o2 o3 h2;rename_i hm;rw [if_neg hm];have iS:¬ s=[45]:=λh=>hm ⟨rfl,h⟩;rw [if_neg iS,XE] at o1 o2 o3;rw [Z1r] at hs ⊢;exact Z0L hr aZ (ts:=[1,1]) (by simp [bE.2,<- bE.1]) (by simp) o1 hs fE o2 o3 h2;by_cases hC:s∈Z0Q;have aF:=Xy.1 ZgA s hC;simp only [Xa,YaP,decide_eq_false_iff_not] at aF;obtain ⟨⟨⟨⟨lI,jF⟩,im⟩,lH⟩,pZ⟩:=aF;have bE:Ze a=Ze b/\¬ Ze a=2:=by
      unfold Z0F at cC;rw [if_neg hA,if_pos hC] at cC;split at cC;assumption;exact absurd cC ht
     have ik:J4 6 n s ([a,b].map Ze)=2:=by
      show J4 6 n s [Ze a,Ze b]=2;rw [cC];unfold Z0F;rw [if_neg hA,if_pos hC,if_pos bE]
     rw [ik];rw [if_neg (by intro h;exact im h.2),if_neg (by intro h;exact lH h.2),if_neg (by intro h;exact pZ h.2),Z1r] at hs ⊢;have ka:=hk a (by simp);have cg:Ze a=1\/Ze a=3:=by omega
     rcases cg with h|h
     obtain ⟨o1,o2,o3⟩:=Z3d lI;exact Z0L hr aZ (ts:=[1,1]) (by simp [h,<- bE.1]) (by simp) o1 hs fE o2 o3 h2;obtain ⟨o1,o2,o3⟩:=Z3d jF;exact Z0L hr aZ (ts:=[3,3]) (by simp [h,<- bE.1]) (by simp) o1 hs fE o2 o3 h2;have hL:s∈JF:=by
      by_cases hL:s∈JF;exact hL;exfalso;apply ht;show J4 6 n s [Ze a,Ze b]=0;rw [cC];unfold Z0F;rw [if_neg hA,if_neg hC,if_neg hL]
     have bE:Ze a=Ze b/\Ze a=2:=by
      unfold Z0F at cC;rw [if_neg hA,if_neg hC,if_pos hL] at cC;split at cC;assumption;exact absurd cC ht
     have ik:J4 6 n s ([a,b].map Ze)=2:=by
      show J4 6 n s [Ze a,Ze b]=2;rw [cC];unfold Z0F;rw [if_neg hA,if_neg hC,if_pos hL,if_pos bE]
     rw [ik];have hconst:∀ (z:Int) (q:Nat),(z=0\/z=1)->Seg C q [⟨2,z⟩]->Z1q C q [⟨2,z⟩] sh (sh++[2]):=λz q hz p9=>by
      have bY:Zq ⟨2,z⟩ []=some [2]:=by simp [Zq,Zt,hz]
      have:=Z0K (s:=sh) bY (by simp only [Xh,Xj];omega);rw [XE] at this;exact Z3c p9 (by simp) (by simp) (by simp) this
     simp only [JF,Xg,Xm,or_false] at hL;rcases hL with hL|hL
     rw [if_pos ⟨rfl,hL⟩] at hs ⊢;simp only [Xz,X6,Yak,Yal] at hs ⊢;unfold chC at hs ⊢;refine Z6L _ _ hs rfl rfl ?_ ?_ ?_ (aZ a (by simp) _) (aZ b (by simp) _) (by simp) (by omega) (by simp only [Xf,Xh,Xj];omega);have h1:=hr a (by simp) p sh hs.left.left.left.left (by omega);rw [bE.2] at h1;exact h1;have h2:=hs.left.left.right;simp only [Xf,Xh,Xj] at h2;have h1:=hr b (by simp) _ sh h2 (by omega);rw [<- bE.1,bE.2] at h1;exact h1;have h2:=hs.right;simp only [Xf,Xh,Xj] at h2;have e:p+((Zd a p).length+(0+1)+(Zd b (p+(Zd a p).length+1)).length+(0+1))=p+(Zd a p).length+1+(Zd b (p+(Zd a p).length+1)).length+1:=by omega
     rw [e] at h2;exact hconst 0 _ (.inl rfl) h2;have qa:¬ ((6:Int)=6/\s=[97,110,100]):=by rintro ⟨_,h⟩;rw [hL] at h;exact absurd h (by decide)
     rw [if_neg qa,if_pos ⟨rfl,hL⟩] at hs ⊢;simp only [Xz,X6,Yak,Yal] at hs ⊢;unfold chC at hs ⊢;refine Z6L _ _ hs rfl rfl ?_ ?_ ?_ (aZ a (by simp) _) (by simp) (aZ b (by simp) _) (by omega) (by simp only [Xf,Xh,Xj];omega);have h1:=hr a (by simp) p sh hs.left.left.left.left (by omega);rw [bE.2] at h1;exact h1;have h2:=hs.left.left.right;simp only [Xf,Xh,Xj] at h2;exact hconst 1 _ (.inr rfl) h2;have h2:=hs.right;simp only [Xf,Xh,Xj] at h2;have e:p+((Zd a p).length+(0+1)+(0+1)+(0+1))=p+(Zd a p).length+1+(0+1)+1:=by omega
     rw [e] at h2;have h1:=hr b (by simp) _ sh h2 (by omega);rw [<- bE.1,bE.2] at h1;exact h1
   ·
     obtain ⟨e,he,gP,gw⟩:=Zbo (by rw [<- kA];exact ht);have aF:=Xy.1 Zgz e he;unfold ZhA at aF;rw [gw] at aF;simp only [Xa,decide_eq_true_eq] at aF;obtain ⟨⟨⟨k9,k6⟩,dU⟩,io⟩:=aF;rw [<- gP] at k9 k6 dU io;simp only at k9 k6 dU io;obtain ⟨o1,o2,o3⟩:=Z3d io;rw [if_neg k9,if_neg (by intro h;exact k6 h.1),if_neg (by intro h;exact k6 h.1),if_neg (by intro h;exact k6 h.1),Z1r] at hs ⊢;rw [kA];have cY:l.map Ze=(if (l.map Ze).getD 1 0=0 then [(l.map Ze).getD 0 0] else [(l.map Ze).getD 0 0,(l.map Ze).getD 1 0]):=by
      rcases Zhz h0 h3 gj dU with ⟨h1,h2⟩|⟨h1,h2⟩
      rw [if_pos h1];exact h2;rw [if_neg h1];exact h2
     have eW:l.length<=2:=by
      have:=congrArg List.length cY;rw [X1] at this;split at this<;>simp only [Xh,Xj] at this<;>omega
     have h2:sh.length+2<=16:=by
      cases l with
      | nil=>exact absurd rfl hl
      | cons y r=>
        have:=bO y (by simp);have:1<=Zx y:=by rw [JG];omega
        omega
     exact Z0L hr aZ cY hl o1 hs (λy hy=>by have:=bO y hy;omega) o2 o3 h2
theorem Z64 (y:Nd) (ht:Ze y≠0) (hn:Zx y<=12) (hl:(Jd y).length<=200):Z01 (Jd y)=(Ze y,0):=by
 have aZ:=Z7L y ht 0;have ba:=Yam.2 aZ;unfold Jd at hl ⊢;have ai:(Zd y 0++[(⟨24,0⟩:Ins)]).length=(Zd y 0).length+1:=by simp
 have hr:=Zbp (Zd y 0++[⟨24,0⟩]) y ht 0 [] ⟨[],[⟨24,0⟩],by simp,rfl⟩ (by simp only [Xj];omega);obtain ⟨st,r1,r2,r3,_⟩:=hr ((some []) :: List.replicate ((Zd y 0++[(⟨24,0⟩:Ins)]).length - 1) none) (by simp) (by rw [ai];omega) (by simp) (λi hi bN=>by
  cases i with
  | zero=>omega
  | succ i=>
    rw [YaE,List.getElem?_replicate,if_pos (by rw [ai];omega)]) (.inl (by
  rw [XL];obtain ⟨m,hm⟩:∃ m,(Zd y 0).length=m+1:=⟨(Zd y 0).length - 1,by omega⟩
  rw [hm,YaE,List.getElem?_replicate,if_pos (by rw [ai];omega)]))
 rw [XL] at r3;rw [XH] at r3;unfold Z01;rw [if_neg (by rw [ai] at hl ⊢;omega)];have aO:Z1a (Zd y 0++[⟨24,0⟩]) (Zd y 0++[(⟨24,0⟩:Ins)]).length ((some []) :: List.replicate ((Zd y 0++[(⟨24,0⟩:Ins)]).length - 1) none)=some st:=by
  rw [Z62]
  conv=>lhs;arg 3;rw [ai]
  rw [Z0j,r1,Option.bind_some,XL,Z28];have hg:(Zd y 0++[(⟨24,0⟩:Ins)]).getD (Zd y 0).length ⟨0,0⟩=⟨24,0⟩:=by simp
  rw [hg];unfold J0;rw [XJ,r3];have bY:Zq ⟨24,0⟩ [Ze y]=some [Ze y]:=by simp [Zq,Zt]
  simp only [YaF,bY];rw [if_pos trivial,if_pos (by constructor<;>simp [r2])]
 rw [aO];have e:(Zd y 0++[(⟨24,0⟩:Ins)]).length - 1=(Zd y 0).length:=by rw [ai];omega
 simp only [e];rw [XJ,r3];rfl
structure Hol where
 kind:Int
 month:Int
 day:Int
 wd:Int
 nth:Int
 off:Int
 move:Int
 first:Int
 last:Int
structure Clo where
 lo:Int
 hi:Int
 known:Int
structure Cal where
 week:List Bool
 hols:List Hol
 clos:List Clo
def Zw (d:Int):Bool:=decide (0<=d/\d<=3652058)
def Z1N (y:Int):Int:=
 let a:=y % 19
 let b:=y / 100
 let c:=y % 100
 let g:=(b - (b+8) / 25+1) / 3
 let h:=(19 * a+b - b / 4 - g+15) % 30
 let l:=(32+2 * (b % 4)+2 * (c / 4) - h - c % 4) % 7
 h+l - 7 * ((a+11 * h+22 * l) / 451)+114
def Z3e (y:Int):Int:=JC y (Z1N y / 31) (Z1N y % 31+1)
def Z2a (y m wd:Int):Int:=JC y m 1+(wd - JC y m 1 % 7+7) % 7
def ZgB (h:Hol) (y:Int):Option Int:=
 if y<h.first\/h.last<y then none
 else if h.kind=1 then (if Z0T y h.month h.day then none else some (JC y h.month h.day))
 else if h.kind=2 then (if Z2a y h.month h.wd+7 * (h.nth - 1)<JC y h.month 1+ZD y h.month then some (Z2a y h.month h.wd+7 * (h.nth - 1)) else none)
 else if h.kind=3 then some (Z2a y h.month h.wd+(JC y h.month 1+ZD y h.month - 1 - Z2a y h.month h.wd) / 7 * 7)
 else if y<1583\/9999<y then none else some (Z3e y+h.off)
def Z2b (m d:Int):Int:=if m=1/\d % 7=5 then d+2 else if m=2/\d % 7=5 then d - 1 else if (m=1\/m=2)/\d % 7=6 then d+1 else d
def Z11 (h:Hol) (y:Int):Option Int:=(ZgB h y).bind λd=>if Zw (Z2b h.move d) then some (Z2b h.move d) else none
structure Z2c (h:Hol):Prop where
 k1:1<=h.kind
 k2:h.kind<=4
 m1:0<=h.move
 m2:h.move<=2
 f1:1<=h.first
 l1:h.last<=9999
 month:h.kind≠4->1<=h.month/\h.month<=12
 day:h.kind=1->1<=h.day/\h.day<=31
 wd:h.kind=2\/h.kind=3->0<=h.wd/\h.wd<=6
 nth:h.kind=2->1<=h.nth/\h.nth<=5
 off:h.kind=4->-100<=h.off/\h.off<=100
def Z58 (l:List Hol) (d:Int):Bool:=
 Zw d && [(ofM d).y - 1,(ofM d).y,(ofM d).y+1].any λy=>l.any λh=>decide (Z11 h y=some d)
def Z7N (l:List Clo) (known d:Int):Bool:=l.any λx=>decide (x.known<=known/\x.lo<=d/\d<=x.hi)
def Zau (c:Cal) (known d:Int):Bool:=c.week.getD (d % 7).toNat false || Z7N c.clos known d || Z58 c.hols d
def Z02 (c:Cal) (known d:Int):Bool:=Zw d && !Zau c known d
structure ZhB (c:Cal):Prop where
 week:c.week.length=7
 hols:∀ h∈c.hols,Z2c h
 few:c.hols.length<=6
def Z65 (opn:Int->Bool) (step:Int):Nat->Int->Int×Int
 | 0,_=>(0,31)
 | k+1,d=>if Zw d=true then (if opn d=true then (d,0) else Z65 opn step k (d+step)) else (0,31)
def Z12 (opn:Int->Bool) (step d:Int):Int×Int:=if Zw d=true then Z65 opn step 1001 d else (0,5)
abbrev Spn:=Int×Int
end Go.Proofs.YteibicnbkggiiaaGreatDoor
