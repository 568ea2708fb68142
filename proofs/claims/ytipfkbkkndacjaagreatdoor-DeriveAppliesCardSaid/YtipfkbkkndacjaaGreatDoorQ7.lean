/-
Contracts and plain laws, merged out of own texts.
-/
import Derived.Test.YtipfkbkkndacjaaGreatDoorQ6
import Derived.JoinedOf
set_option linter.unusedVariables false
set_option linter.unusedSimpArgs false
set_option maxHeartbeats 4000000
set_option maxRecDepth 20000
namespace Go.EngB
open Go Go.Eng Go.RowKit Go.Proofs
variable {P:Program} {n:Nat} {Q:Exit->Act->World->Prop} {e:Env} {w w0:World} {ops:Array Oper} {Lt:List Nat} {rest:List (Nat×Nat)}
theorem Z0z {w w':World} {T len:Nat} {cs:List Value} {v:Value} (h:Z9 w T len cs v w'):Stp [] w w':=h.choose_spec.2.2.2
theorem WD.weak {S:Nat×List Nat} {e':Env} {ord:List (Nat×Nat)} (hs:∀ t v,Eng.look e' t=some v->Eng.look e t=some v) (h:WD P n ops S Lt Q ord e' w):WD P n ops S Lt Q ord e w:=⟨λlisted a b c ha=>h.h listed a b c (ha.weak hs)⟩
theorem ZfA {α:Type} [Z5 α] {X:List Nat} {T:Nat} {v:Value} {w':World} (h:Z9 w T 0 [] v w') (hb:w0.heap.size<=w.heap.size):Row X w' w0.heap.size T v ([]:List α)/\∀ b∈ob v,w.heap.size<=b:=by
 obtain ⟨b,rfl,dr,hk,hT⟩:=h;refine ⟨⟨[],rfl,λi hi=>absurd hi (by simp),by simp,.inr ⟨b,0,#[],rfl,by omega,hk,Xn _,by simp [maxLen],by simp,by simp⟩⟩,λc hc=>?_⟩;simp [ob] at hc;omega
theorem Z4G {d k:Nat} {v:Value} {e:Env} (h:d≠k):Eng.look ((d,v) :: e) k=Eng.look e k:=by rw [JZ,if_neg h]
theorem Zl3 {d5 a b c:Nat} {v x y z:Value} {e:Env} (ha:Eng.look e a=none) (hb:Eng.look e b=none) (hc:Eng.look e c=none):∀ t u,Eng.look ((d5,v) :: e) t=some u->Eng.look ((d5,v) :: (a,x) :: (b,y) :: (c,z) :: e) t=some u:=λt u h=>by
 rw [JZ] at h ⊢;by_cases h5:d5=t
 rwa [if_pos h5] at h ⊢
 rw [if_neg h5] at h ⊢;have n1:a≠t:=λg=>by rw [<- g,ha] at h;cases h
 have n2:b≠t:=λg=>by rw [<- g,hb] at h;cases h
 have n3:c≠t:=λg=>by rw [<- g,hc] at h;cases h
 rw [Z4G n1,Z4G n2,Z4G n3];exact h
theorem WD_app2 {α:Type} [Z5 α] {X:List Nat} {i0 i3 i4 i5 d0 d3 d4 d5 t T bytes:Nat} {x z:Operand} {xv u z0:Value} {xs:List α} {y:α} {cs:List Value} {ty0 ty3 ty4 ty5:TypeId} {p0 p3 p4 p5:String} {a0 a3 a4 a5:Array Edge}
 [ht:Und P t (.slice T)] [hk:Siz P T (Z5.k α)] [hb:Byt P T bytes] [hz:Zer P T z0]
 (hW:Stp [] w0 w) (kK:SlV X w0 xv xs) (iT:∀ (Y:List Nat) (W:World),Stp [] w0 W->(∀ b∈Y,b∈X\/w0.heap.size<=b)->Z5.rep Y W y cs)
 (hl:(xs.length+1) * bytes<=140737488355328) (bI:xs.length+1<=maxLen)
 (k:∀ v w',Row X w' w0.heap.size T v (xs++[y])->Stp [] w0 w'->WD P n ops (w0.heap.size,[]) Lt Q rest ((d5,v) :: e) w')
 (h0:ops[i0]?=some ⟨some d0,.buildSlice t 0 #[],ty0,p0,a0,none⟩:=by exact rfl)
 (h3:ops[i3]?=some ⟨some d3,.call { callee:=.builtin .append,args:=#[.tmp d0,x],argTypes:=#[t,t] },ty3,p3,a3,none⟩:=by exact rfl)
 (h4:ops[i4]?=some ⟨some d4,.buildSlice t 1 #[(0,z)],ty4,p4,a4,none⟩:=by exact rfl)
 (h5:ops[i5]?=some ⟨some d5,.call { callee:=.builtin .append,args:=#[.tmp d3,.tmp d4],argTypes:=#[t,t] },ty5,p5,a5,none⟩:=by exact rfl)
 (r0:∀ w:World,(Instr.buildSlice t 0 #[]).run P w=.ok (.slice (some ⟨w.heap.size,0,none⟩) 0 0) (w.alloc (.cells #[] T)):=by intro w;kernel_rfl)
 (r4:∀ w:World,(Instr.buildSlice t 1 #[(0,u)]).run P w=.ok (.slice (some ⟨w.heap.size,0,none⟩) 1 1) (w.alloc (.cells cs.toArray T)):=by intro w;kernel_rfl)
 (ex:∀ o b,ev ((d0,o) :: e) x=some xv/\ev ((d0,o) :: (d4,b) :: e) x=some xv/\ev ((d4,b) :: (d0,o) :: e) x=some xv:=by intro _ _;exact ⟨rfl,rfl,rfl⟩)
 (ez:∀ o a,Jw e [(0,z)]=some [(0,u)]/\Jw ((d0,o) :: e) [(0,z)]=some [(0,u)]/\Jw ((d3,a) :: (d0,o) :: e) [(0,z)]=some [(0,u)]:=by intro _ _;exact ⟨rfl,rfl,rfl⟩)
 (hn:Eng.look e d0=none/\Eng.look e d3=none/\Eng.look e d4=none:=by exact ⟨rfl,rfl,rfl⟩)
 (hd:d0≠d3/\d0≠d4/\d3≠d4:=by decide)
 (hlt:Nat.blt d0 n=true/\Nat.blt d3 n=true/\Nat.blt d4 n=true/\Nat.blt d5 n=true:=by exact ⟨rfl,rfl,rfl,rfl⟩)
 (dT:z0.cells.size=Z5.k α:=by exact rfl) (aV:0<Z5.k α:=by decide)
 (oz:Z3A i4 ((i3,i4+3) :: (i4,2) :: (i5,2) :: rest)=(i3,2) :: (i5,2) :: rest/\Z3A i4 ((i4,2) :: (i5,2) :: rest)=(i5,2) :: rest:=by exact ⟨rfl,rfl⟩) (hq:Nat.blt (i4+3) 100000=true:=by exact rfl) (hX:∀ b∈X,b<w0.heap.size:=by simp) :
 WD P n ops (w0.heap.size,[]) Lt Q ((i0,i4+3) :: (i3,i4+3) :: (i4,2) :: (i5,2) :: rest) e w:=by
 obtain ⟨n0,n3,n4⟩:=hn;obtain ⟨l0,l3,l4,l5⟩:=hlt;obtain ⟨d03,d04,d34⟩:=hd;have cB:(([]:List α).length+xs.length) * bytes<=140737488355328:=by
  refine Xh (Xo _ ?_) hl;simp
 have j0:([]:List α).length+xs.length<=maxLen:=by simp only [Xg];omega
 have tm:∀ {d:Nat} {v:Value} {e:Env},ev ((d,v) :: e) (.tmp d)=some v:=λ{d v e}=>by show Eng.look _ _=_;rw [JZ,if_pos rfl]
 have tm2:∀ {d d':Nat} {v v':Value} {e:Env},d'≠d->ev ((d',v') :: (d,v) :: e) (.tmp d)=some v:=λ{d d' v v' e} h=>by show Eng.look _ _=_;rw [Z4G h,JZ,if_pos rfl]
 apply Z3B hq;refine JK h0 trivial (Z1 (l:=[]) (vs:=[]) rfl r0) (λ_ _ h=>Z1K.of (Z0z h) hW.size (by simp)) l0 ?_;rintro o wk hN;obtain ⟨ab,-⟩:=ZfA (w0:=w0) (α:=α) (X:=X) hN hW.size;replace hW:=hW.trans (Z0z hN);clear hN;apply Z3B hq;refine JK h3 trivial (ZF (X:=X) (base:=w0.heap.size) dT aV tm (ex o o).1 ab (kK.ext hW (by simp) (λb hb=>(Xf.1 hb).elim (λh=>.inr (ab.ob_le b h).1) .inl)) cB j0 hW.size) (λ_ _ h=>Z1K.of h.2.1 hW.size (λb hb=>(ab.ob_le b hb).1)) l3 ?_;rintro a wk2 ⟨aR,hT,-⟩;rw [XJ] at aR;replace hW:=hW.own hT (λb hb=>.inr (ab.ob_le b hb).1);clear hT ab;refine Za h4 trivial (Z1 (l:=[(0,z)]) (vs:=[(0,u)]) (ez o a).2.2 r4) (λ_ _ h=>Z1K.of (Z0z h) hW.size (by simp)) l4 ?_;rintro b4 wj hN;have eP:SlV (ob a++X) wj b4 [y]:=hN.slv1 (λb hb=>(Xf.1 hb).elim (λh=>(aR.ob_le b h).2) (λh=>Xa (hX b h) hW.size)) (iT _ _ hW (λb hb=>(Xf.1 hb).elim (λh=>.inr (aR.ob_le b h).1) .inl));replace aR:=aR.up (Z0z hN);replace hW:=hW.trans (Z0z hN);clear hN;refine Za h5 trivial (ZF (X:=X) (base:=w0.heap.size) dT aV (tm2 (Ne.symm d34)) tm aR eP (by simpa using hl) (by simpa using bI) hW.size) (λ_ _ h=>Z1K.of h.2.1 hW.size (λb hb=>(aR.ob_le b hb).1)) l5 ?_;rintro v wl ⟨cV,hT,-⟩;exact (k v wl cV (hW.own hT (λb hb=>.inr (aR.ob_le b hb).1))).weak (Zl3 n4 n3 n0);rw [oz.2];refine JK h4 trivial (Z1 (l:=[(0,z)]) (vs:=[(0,u)]) (ez o o).2.1 r4) (λ_ _ h=>Z1K.of (Z0z h) hW.size (by simp)) l4 ?_;rintro b4 wj hN;have eP:SlV (ob o++X) wj b4 [y]:=hN.slv1 (λb hb=>(Xf.1 hb).elim (λh=>(ab.ob_le b h).2) (λh=>Xa (hX b h) hW.size)) (iT _ _ hW (λb hb=>(Xf.1 hb).elim (λh=>.inr (ab.ob_le b h).1) .inl));replace ab:=ab.up (Z0z hN);replace hW:=hW.trans (Z0z hN);clear hN;refine Za h3 trivial (ZF (X:=X) (base:=w0.heap.size) dT aV (tm2 (Ne.symm d04)) (ex o b4).2.2 ab (kK.ext hW (by simp) (λb hb=>(Xf.1 hb).elim (λh=>.inr (ab.ob_le b h).1) .inl)) cB j0 hW.size) (λ_ _ h=>Z1K.of h.2.1 hW.size (λb hb=>(ab.ob_le b hb).1)) l3 ?_;rintro a wk2 ⟨aR,hT,bJ⟩;rw [XJ] at aR;replace eP:SlV (ob a++X) wk2 b4 [y]:=eP.ext hT (λb hb=>by simp [hb]) (λb hb=>by
  rcases Xf.1 hb with hb|hb
  rcases bJ b hb with h|h
  exact .inl (by simp [h]);exact .inr h;exact .inl (by simp [hb]))
 replace hW:=hW.own hT (λb hb=>.inr (ab.ob_le b hb).1);clear hT bJ ab;refine Za h5 trivial (ZF (X:=X) (base:=w0.heap.size) dT aV tm (tm2 d34) aR eP (by simpa using hl) (by simpa using bI) hW.size) (λ_ _ h=>Z1K.of h.2.1 hW.size (λb hb=>(aR.ob_le b hb).1)) l5 ?_;rintro v wl ⟨cV,hT,-⟩;exact (k v wl cV (hW.own hT (λb hb=>.inr (aR.ob_le b hb).1))).weak (Zl3 n3 n4 n0);rw [oz.1];refine JK h4 trivial (Z1 (l:=[(0,z)]) (vs:=[(0,u)]) (ez u u).1 r4) (λ_ _ h=>Z1K.of (Z0z h) hW.size (by simp)) l4 ?_;rintro b4 wj hN;have eP:SlV X wj b4 [y]:=hN.slv1 (λb h=>Xa (hX b h) hW.size) (iT _ _ hW (λb h=>.inl h));replace hW:=hW.trans (Z0z hN);clear hN;refine Za h0 trivial (Z1 (l:=[]) (vs:=[]) rfl r0) (λ_ _ h=>Z1K.of (Z0z h) hW.size (by simp)) l0 ?_;rintro o wk hN;obtain ⟨ab,sL⟩:=ZfA (w0:=w0) (α:=α) (X:=X) hN hW.size;replace eP:SlV (ob o++X) wk b4 [y]:=eP.ext (Z0z hN) (by simp) (λb hb=>(Xf.1 hb).elim (λh=>.inr (sL b h)) .inl);replace hW:=hW.trans (Z0z hN);clear hN;refine Za h3 trivial (ZF (X:=X) (base:=w0.heap.size) dT aV tm (ex o b4).2.1 ab (kK.ext hW (by simp) (λb hb=>(Xf.1 hb).elim (λh=>.inr (ab.ob_le b h).1) .inl)) cB j0 hW.size) (λ_ _ h=>Z1K.of h.2.1 hW.size (λb hb=>(ab.ob_le b hb).1)) l3 ?_;rintro a wk2 ⟨aR,hT,bJ⟩;rw [XJ] at aR;replace eP:SlV (ob a++X) wk2 b4 [y]:=eP.ext hT (λb hb=>by simp [hb]) (λb hb=>by
  rcases Xf.1 hb with hb|hb
  rcases bJ b hb with h|h
  exact .inl (by simp [h]);exact .inr h;exact .inl (by simp [hb]))
 replace hW:=hW.own hT (λb hb=>.inr (ab.ob_le b hb).1);clear hT bJ ab;refine Za h5 trivial (ZF (X:=X) (base:=w0.heap.size) dT aV tm (by show Eng.look _ _=_;rw [Z4G d34,Z4G d04,JZ,if_pos rfl]) aR eP (by simpa using hl) (by simpa using bI) hW.size) (λ_ _ h=>Z1K.of h.2.1 hW.size (λb hb=>(aR.ob_le b hb).1)) l5 ?_;rintro v wl ⟨cV,hT,-⟩;exact (k v wl cV (hW.own hT (λb hb=>.inr (aR.ob_le b hb).1))).weak (Zl3 n3 n0 n4)
end Go.EngB
namespace Go.Proofs.YtipfkbkkndacjaaGreatDoor
open Go Go.Eng Go.RowKit
def Z1A (o o':Int->Bool) (s:Spn):Prop:=∀ d,s.1<=d->d<=s.2->o d=o' d
theorem Zde (o:Int->Bool):∀ (k:Nat) (d r:Int),Z0q o 1 k d=(r,0)->d<=r/\r<d+k/\o r=true/\(∀ x,d<=x->x<r->o x=false)/\∀ o':Int->Bool,Z1A o o' (d,r)->Z0q o' 1 k d=(r,0)
 | 0,d,r,h=>by simp [Z0q] at h
 | k + 1, d, r, h => by
   unfold Z0q at h;split at h;rename_i hd;split at h;rename_i ho;obtain ⟨rfl,-⟩:=Yav h;refine ⟨XQ _,by omega,ho,λx h1 h2=>by omega,λo' ha=>?_⟩;have e:=ha d (XQ _) (XQ _);unfold Z0q;rw [if_pos hd,<- e,if_pos ho];rename_i ho;obtain ⟨h1,h2,h3,h4,h5⟩:=Zde o k (d+1) r h;refine ⟨by omega,by omega,h3,λx fJ io=>?_,λo' ha=>?_⟩;by_cases hx:x=d;subst hx;simpa using ho;exact h4 x (by omega) io;have e:=ha d (XQ _) (by show d<=r;omega);unfold Z0q;rw [if_pos hd,<- e,if_neg ho];exact h5 o' (λx fJ io=>ha x (by show d<=x;dsimp only at fJ;omega) io);simp at h
theorem Zdf (o:Int->Bool):∀ (k:Nat) (d r:Int),Z0q o (-1) k d=(r,0)->r<=d/\d<r+k/\o r=true/\(∀ x,x<=d->r<x->o x=false)/\∀ o':Int->Bool,Z1A o o' (r,d)->Z0q o' (-1) k d=(r,0)
 | 0,d,r,h=>by simp [Z0q] at h
 | k + 1, d, r, h => by
   unfold Z0q at h;split at h;rename_i hd;split at h;rename_i ho;obtain ⟨rfl,-⟩:=Yav h;refine ⟨XQ _,by omega,ho,λx h1 h2=>by omega,λo' ha=>?_⟩;have e:=ha d (XQ _) (XQ _);unfold Z0q;rw [if_pos hd,<- e,if_pos ho];rename_i ho;obtain ⟨h1,h2,h3,h4,h5⟩:=Zdf o k (d+-1) r h;refine ⟨by omega,by omega,h3,λx fJ io=>?_,λo' ha=>?_⟩;by_cases hx:x=d;subst hx;simpa using ho;exact h4 x (by omega) io;have e:=ha d (by show r<=d;omega) (XQ _);unfold Z0q;rw [if_pos hd,<- e,if_neg ho];exact h5 o' (λx fJ io=>ha x fJ (by show x<=d;dsimp only at io;omega));simp at h
theorem Z6d {o:Int->Bool} {d r:Int} (h:ZQ o 1 d=(r,0)):d<=r/\r<d+1001/\o r=true/\(∀ x,d<=x->x<r->o x=false)/\∀ o':Int->Bool,Z1A o o' (d,r)->ZQ o' 1 d=(r,0):=by
 unfold ZQ at h;split at h;rename_i hd;obtain ⟨h1,h2,h3,h4,h5⟩:=Zde o 1001 d r h;refine ⟨h1,by omega,h3,h4,λo' ha=>?_⟩;unfold ZQ;rw [if_pos hd];exact h5 o' ha;simp at h
theorem Zdg {o:Int->Bool} {d r:Int} (h:ZQ o (-1) d=(r,0)):r<=d/\d<r+1001/\o r=true/\(∀ x,x<=d->r<x->o x=false)/\∀ o':Int->Bool,Z1A o o' (r,d)->ZQ o' (-1) d=(r,0):=by
 unfold ZQ at h;split at h;rename_i hd;obtain ⟨h1,h2,h3,h4,h5⟩:=Zdf o 1001 d r h;refine ⟨h1,by omega,h3,h4,λo' ha=>?_⟩;unfold ZQ;rw [if_pos hd];exact h5 o' ha;simp at h
def Z17 (p:Int->Bool) (a:Int):Nat->Nat
 | 0=>0
 | n+1=>(if p a=true then 1 else 0)+Z17 p (a+1) n
theorem Z0P (p:Int->Bool):∀ (n m:Nat) (a:Int),Z17 p a (n+m)=Z17 p a n+Z17 p (a+n) m
 | 0,m,a=>by simp [Z17]
 | n + 1, m, a => by
   rw [show n+1+m=(n+m)+1 by omega];rw [Z17,Z17,Z0P p n m (a+1),show a+1+(n:Int)=a+((n+1:Nat):Int) by omega];omega
theorem Z4H (p:Int->Bool):∀ (n:Nat) (a:Int),(∀ x,a<=x->x<a+n->p x=false)->Z17 p a n=0
 | 0,a,h=>rfl
 | n + 1, a, h => by
   unfold Z17;rw [if_neg (by rw [h a (XQ _) (by omega)];decide),Z4H p n (a+1) (λx h1 h2=>h x (by omega) (by omega))]
theorem ZfB (o:Int->Bool):∀ (k:Nat) (a r:Int),Z2j o 1 k a=(r,0)->a<=r/\Z17 o (a+1) (r - a).toNat=k/\(0<k->a<r)/\∀ o':Int->Bool,Z1A o o' (a+1,r)->Z2j o' 1 k a=(r,0)
 | 0, a, r, h => by
   obtain ⟨rfl,-⟩:=Yav h;exact ⟨XQ _,by simp [Z17],λh=>absurd h (Nat.lt_irrefl _),λo' _=>rfl⟩
 | k + 1, a, r, h => by
   unfold Z2j at h;split at h;rename_i h0;have hm:ZQ o 1 (a+1)=((ZQ o 1 (a+1)).1,0):=Prod.ext rfl h0;obtain ⟨f1,f2,f3,f4,f5⟩:=Z6d hm;generalize (ZQ o 1 (a+1)).1=x at *;obtain ⟨g1,g2,-,g4⟩:=ZfB o k x r h;refine ⟨by omega,?_,λ_=>by omega,λo' ha=>?_⟩;have e:(r - a).toNat=(x - (a+1)).toNat+(1+(r - x).toNat):=by omega
   rw [e,Z0P,Z4H o _ _ (λy h1 h2=>f4 y h1 (by omega)),Z0P];have e2:a+1+((x - (a+1)).toNat:Int)=x:=by omega
   rw [e2];have e3:Z17 o x 1=1:=by simp [Z17,f3]
   rw [e3,show x+((1:Nat):Int)=x+1 by omega,g2];omega;unfold Z2j;have e:=f5 o' (λy h1 h2=>ha y h1 (by dsimp only at h2 ⊢;omega));rw [e];dsimp only;rw [if_pos rfl];exact g4 o' (λy h1 h2=>ha y (by dsimp only at h1 ⊢;omega) h2);simp at h
theorem ZfC (o:Int->Bool):∀ (k:Nat) (a r:Int),Z2j o (-1) k a=(r,0)->r<=a/\Z17 o r (a - r).toNat=k/\(0<k->r<a)/\∀ o':Int->Bool,Z1A o o' (r,a - 1)->Z2j o' (-1) k a=(r,0)
 | 0, a, r, h => by
   obtain ⟨rfl,-⟩:=Yav h;exact ⟨XQ _,by simp [Z17],λh=>absurd h (Nat.lt_irrefl _),λo' _=>rfl⟩
 | k + 1, a, r, h => by
   unfold Z2j at h;split at h;rename_i h0;have hm:ZQ o (-1) (a+-1)=((ZQ o (-1) (a+-1)).1,0):=Prod.ext rfl h0;obtain ⟨f1,f2,f3,f4,f5⟩:=Zdg hm;generalize (ZQ o (-1) (a+-1)).1=x at *;obtain ⟨g1,g2,-,g4⟩:=ZfC o k x r h;refine ⟨by omega,?_,λ_=>by omega,λo' ha=>?_⟩;have e:(a - r).toNat=(x - r).toNat+(1+(a - 1 - x).toNat):=by omega
   rw [e,Z0P,Z0P,g2];have e2:r+((x - r).toNat:Int)=x:=by omega
   rw [e2];have e3:Z17 o x 1=1:=by simp [Z17,f3]
   rw [e3,show x+((1:Nat):Int)=x+1 by omega,Z4H o _ _ (λy h1 h2=>f4 y (by omega) (by omega))];unfold Z2j;have e:=f5 o' (λy h1 h2=>ha y (by dsimp only at h1 ⊢;omega) (by dsimp only at h2 ⊢;omega));rw [e];dsimp only;rw [if_pos rfl];exact g4 o' (λy h1 h2=>ha y h1 (by dsimp only at h2 ⊢;omega));simp at h
theorem ZeB {o:Int->Bool} {a n r:Int} (h:Z2D o a n=(r,0)):ZK a=true/\-1000<=n/\n<=1000/\Z2j o (if n<0 then -1 else 1) n.natAbs a=(r,0):=by
 unfold Z2D at h;split at h;rename_i h1;split at h;simp at h;rename_i h2;exact ⟨h1,by omega,by omega,h⟩;simp at h
theorem ZeC {o o':Int->Bool} {a n r:Int} (h:Z2D o a n=(r,0)) (ha:∀ s∈Jz 18 a n r,Z1A o o' s):Z2D o' a n=(r,0):=by
 obtain ⟨h1,h2,h3,h4⟩:=ZeB h;unfold Z2D;rw [if_pos h1,if_neg (by omega)];by_cases hn:n<0;rw [if_pos hn] at h4 ⊢;obtain ⟨_,_,_,g4⟩:=ZfC o _ _ _ h4;refine g4 o' (ha _ ?_);unfold Jz;rw [if_neg (by decide),if_neg (by decide),if_pos rfl,if_neg (by omega),if_pos hn];simp;rw [if_neg hn] at h4 ⊢;obtain ⟨_,_,_,g4⟩:=ZfB o _ _ _ h4;by_cases h0:n=0;subst h0;exact h4;refine g4 o' (ha _ ?_);unfold Jz;rw [if_neg (by decide),if_neg (by decide),if_pos rfl,if_pos (by omega)];simp
theorem ZeD {o o':Int->Bool} {ev:List Int} {x:Ins} {a b:Int} (h:(JN o ev x a b).2=0) (ha:∀ s∈Jz x.op a b (JN o ev x a b).1,Z1A o o' s):JN o' ev x a b=JN o ev x a b:=by
 unfold JN at h ha ⊢;split;rfl;rename_i h4;rw [if_neg h4] at h ha;split;rfl;rename_i h0;rw [if_neg h0] at h ha;split;rename_i h1;rw [if_pos h1] at h ha;unfold ZaT at h ha ⊢;split;rfl;rename_i h8;rw [if_neg h8] at h ha;split;rename_i oA;rw [if_pos oA] at h ha;have hm:ZQ o 1 b=((ZQ o 1 b).1,0):=Prod.ext rfl h;obtain ⟨_,_,_,_,f5⟩:=Z6d hm;rw [f5 o' (ha _ (by unfold Jz;rw [if_pos oA];simp)),<- hm];rename_i oA;rw [if_neg oA] at h ha;split;rename_i uC;rw [if_pos uC] at h ha;have hm:ZQ o (-1) b=((ZQ o (-1) b).1,0):=Prod.ext rfl h;obtain ⟨_,_,_,_,f5⟩:=Zdg hm;rw [f5 o' (ha _ (by unfold Jz;rw [if_neg oA,if_pos uC];simp)),<- hm];rfl;rename_i h1;rw [if_neg h1] at h ha;by_cases sM:x.op=18;have e:∀ q:Int->Bool,Z2P q x.op a b=Z2D q a b:=λq=>by unfold Z2P;rw [sM];rfl
 rw [e,e];rw [e] at h ha;rw [sM] at ha;have hm:Z2D o a b=((Z2D o a b).1,0):=Prod.ext rfl h;rw [ZeC hm ha,<- hm];unfold Z2P;simp only [if_neg sM]
theorem Z3p {o o':Int->Bool} {ev:List Int} {C:List Ins}:∀ (f i:Nat) (st:List Int) (sp:List Spn) (v:Int) (sp':List Spn),Z4M o ev C f i st sp=(v,sp',0)->(∃ l,sp'=sp++l)/\((∀ s∈sp',Z1A o o' s)->Z4M o' ev C f i st sp=(v,sp',0))
 | 0,i,st,sp,v,sp',h=>by simp [Z4M] at h
 | f + 1, i, st, sp, v, sp', h => by
   rw [Z4M] at h ⊢;split at h;rename_i cJ;rw [if_pos cJ];obtain ⟨rfl,h2⟩:=Yav h;obtain ⟨rfl,-⟩:=Yav h2;exact ⟨⟨[],by simp⟩,λ_=>rfl⟩;rename_i cJ;rw [if_neg cJ];split at h;rename_i cD;rw [if_pos cD];exact Z3p f _ _ _ _ _ h;rename_i cD;rw [if_neg cD];split at h;rename_i dx;rw [if_pos dx];exact Z3p f _ _ _ _ _ h;rename_i dx;rw [if_neg dx];split at h;rename_i he;obtain ⟨⟨l,e⟩,g⟩:=Z3p (o':=o') f _ _ _ _ _ h;refine ⟨⟨Jz (C.getD i ⟨0,0⟩).op (JR st 1) (JR st 0) (JN o ev (C.getD i ⟨0,0⟩) (JR st 1) (JR st 0)).1++l,e.trans (Xy _ _ _)⟩,λha=>?_⟩;have hv:=ZeD (o':=o') he (λs hs=>ha s (by rw [e];exact List.mem_append_left _ (List.mem_append_right _ hs)));rw [hv,if_pos he];exact g ha;rename_i he;exfalso;obtain ⟨-,h2⟩:=Yav h;obtain ⟨-,h3⟩:=Yav h2;exact he h3
theorem Z6e {o o':Int->Bool} {ev:List Int} {C:List Ins} {v:Int} {sp:List Spn} (h:Je o ev C=(v,sp,0)) (ha:∀ s∈sp,Z1A o o' s):Je o' ev C=(v,sp,0):=(Z3p C.length 0 [] [] v sp h).2 ha
theorem Z4f {α:Type} (l:List α):l=[]\/∃ A u,l=A++[u]:=by
 rcases Yae l with h|⟨A,u,h⟩
 exact .inl h;exact .inr ⟨A,u,by rw [h,Yaf]⟩
def inB (L:List Spn) (x:Int):Bool:=L.any λs=>decide (s.1<=x/\x<=s.2)
theorem Z7I {L:List Spn} {x:Int}:inB L x=true↔∃ s∈L,s.1<=x/\x<=s.2:=by simp [inB]
theorem Z1d (L M:List Spn) (x:Int):inB (L++M) x=(inB L x || inB M x):=by simp [inB]
theorem Zl4 {L M:List Spn} (h:L.Perm M) (x:Int):inB L x=inB M x:=by
 rw [X7,Z7I,Z7I];simp only [h.mem_iff]
theorem Z1L (s:Spn) (x:Int):inB [s] x=decide (s.1<=x/\x<=s.2):=by simp [inB]
theorem Zdh:∀ (L acc:List Spn),(∀ a∈acc,∀ s∈L,a.1<=s.1)->L.Pairwise (λa b=>a.1<=b.1)->(∀ s∈L,s.1<=s.2)->(∀ s∈acc,s.1<=s.2)->∀ x,inB (L.foldl JA acc) x=(inB acc x || inB L x)
 | [],acc,_,_,_,_,x=>by simp [inB]
 | s :: L, acc, ha, hs, hv, hw, x => by
   have hm:(∀ x,inB (JA acc s) x=(inB acc x || inB [s] x))/\(∀ a∈JA acc s,a.1<=s.1/\a.1<=a.2):=by
    rcases Z4f acc with rfl|⟨A,u,rfl⟩
    rw [Z1Q];exact ⟨λx=>by simp [inB],λa h=>by simp at h;subst h;exact ⟨XQ _,hv a (by simp)⟩⟩;rw [JH];have hu:=ha u (by simp) s (by simp);have qV:=hw u (by simp);have bq:=hv s (by simp);split;rename_i hc;constructor;intro x;rw [Z1d,Z1d,Z1L,Z1L,Z1L,Bool.or_assoc];congr 1;rw [X7];simp only [Yax,decide_eq_true_eq];omega;intro a h;rcases Xf.1 h with h|h
    exact ⟨ha a (by simp [h]) s (by simp),hw a (by simp [h])⟩;simp at h;subst h;dsimp only;omega;constructor;intro x;rw [Z1d];intro a h;rcases Xf.1 h with h|h
    exact ⟨ha a h s (by simp),hw a h⟩;simp at h;subst h;omega
   rw [X2,Zdh L (JA acc s) (λa h t ht=>Int.le_trans (hm.2 a h).1 ((XO.1 hs).1 t ht)) (XO.1 hs).2 (λt ht=>hv t (by simp [ht])) (λa h=>(hm.2 a h).2),hm.1,Bool.or_assoc,<- Z1d];rfl
theorem Zl5 {l:List Spn} (hv:∀ s∈l,s.1<=s.2) (x:Int):inB (Z0i l) x=inB l x:=by
 unfold Z0i;rw [Zdh _ [] (by simp) (Z3h l) (λs h=>hv s ((Z0Y l).mem_iff.1 h)) (by simp),Zl4 (Z0Y l)];simp [inB]
def Zdi (L:List Spn):Prop:=L.Pairwise (λa b=>a.2+1<b.1)
theorem Z7n:∀ (L acc:List Spn),Zdi acc->(∀ s∈L,s.1<=s.2)->(∀ s∈acc,s.1<=s.2)->Zdi (L.foldl JA acc)/\∀ s∈L.foldl JA acc,s.1<=s.2
 | [],acc,ha,_,hw=>⟨ha,hw⟩
 | s :: L, acc, ha, hv, hw => by
   have hm:Zdi (JA acc s)/\∀ a∈JA acc s,a.1<=a.2:=by
    rcases Z4f acc with rfl|⟨A,u,rfl⟩
    rw [Z1Q];exact ⟨YaN _ _,λa h=>by simp at h;subst h;exact hv a (by simp)⟩;have qV:=hw u (by simp);have bq:=hv s (by simp);have hA:=(Yai.1 ha)
    rw [JH];split;refine ⟨Yai.2 ⟨hA.1,YaN _ _,λa h b hb=>?_⟩,λa h=>?_⟩;simp at hb;subst hb;exact hA.2.2 a h u (by simp);rcases Xf.1 h with h|h
    exact hw a (by simp [h]);simp at h;subst h;dsimp only;omega;refine ⟨Yai.2 ⟨ha,YaN _ _,λa h b hb=>?_⟩,λa h=>?_⟩;simp at hb;subst hb;rcases Xf.1 h with h|h
    have:=hA.2.2 a h u (by simp);omega;simp at h;subst h;omega;rcases Xf.1 h with h|h
    exact hw a h;simp at h;subst h;exact bq
   exact Z7n L _ hm.1 (λt ht=>hv t (by simp [ht])) hm.2
theorem Zdj {l:List Spn} (hv:∀ s∈l,s.1<=s.2):Zdi (Z0i l)/\∀ s∈Z0i l,s.1<=s.2:=
 Z7n _ [] List.Pairwise.nil (λs h=>hv s ((Z0Y l).mem_iff.1 h)) (by simp)
theorem Z2U (p:Int->Bool):∀ (n:Nat) (a:Int),(∀ x,a<=x->x<a+n->p x=true)->Z17 p a n=n
 | 0,a,h=>rfl
 | n + 1, a, h => by
   rw [Z17,if_pos (h a (XQ _) (by omega)),Z2U p n (a+1) (λx h1 h2=>h x (by omega) (by omega))];omega
theorem Z5p (p q:Int->Bool):∀ (n:Nat) (a:Int),(∀ x,a<=x->x<a+n->p x=q x)->Z17 p a n=Z17 q a n
 | 0,a,h=>rfl
 | n + 1, a, h => by
   rw [Z17,Z17,h a (XQ _) (by omega),Z5p p q n (a+1) (λx h1 h2=>h x (by omega) (by omega))]
structure Zbr (start due:Int) (L:List Spn) (E:Int):Prop where
 gt:start<E
 out:inB L E=false
 cnt:Z17 (λx=>!inB L x) (start+1) (E - start).toNat=(due - start).toNat
theorem Zl6 {start due:Int} {L:List Spn} {E F:Int} (h:Zbr start due L E) (k:Zbr start due L F):¬ E<F:=λhl=>by
 have h1:=h.gt;have e:(F - start).toNat=(E - start).toNat+((F - E - 1).toNat+1):=by omega
 have hk:=k.cnt;rw [e,Z0P,Z0P,h.cnt] at hk;rw [show start+1+((E - start).toNat:Int)+((F - E - 1).toNat:Int)=F by omega] at hk;have:Z17 (λx=>!inB L x) F 1=1:=Z2U _ 1 F (λx h1 h2=>by
  obtain rfl:x=F:=by omega
  simp [k.out])
 omega
theorem Zl7 {start due:Int} {L:List Spn} {E F:Int} (h:Zbr start due L E) (k:Zbr start due L F):E=F:=by
 have:=Zl6 h k;have:=Zl6 k h;omega
theorem Z4I {start due:Int} {L M:List Spn} {E:Int} (h:Zbr start due L E) (ha:∀ x,start<x->x<=E->inB M x=inB L x):Zbr start due M E:=by
 have h1:=h.gt;refine ⟨h1,by rw [ha E h1 (XQ _)];exact h.out,?_⟩;rw [<- h.cnt];exact Z5p _ _ _ _ (λx g1 g2=>by rw [ha x (by omega) (by omega)])
theorem Zad (start due:Int):∀ (R P:List Spn) (d:Int),Zdi (P++R)->(∀ s∈P++R,s.1<=s.2)->Zbr start due P d->Zbr start due (P++R) (Z44 start R d)
 | [],P,d,_,_,h=>by rw [XC];exact h
 | s :: R, P, d, ha, hv, h => by
   have iG:=hv s (by simp);have hA:=Yai.1 ha;have hB:=XO.1 hA.2.1;have hP:∀ x,s.1<=x->inB P x=false:=λx hx=>by
    rw [YaZ];intro hc;obtain ⟨t,ht,h1,h2⟩:=Z7I.1 hc;have:=hA.2.2 t ht s (by simp);omega
   rw [Z44];split;rename_i hd;refine Z4I h (λx _ hx=>?_);rw [Z1d];have:inB (s :: R) x=false:=by
    rw [YaZ];intro hc;obtain ⟨t,ht,h1,h2⟩:=Z7I.1 hc;rcases Xb.1 ht with rfl|ht
    omega;have:=hB.1 t ht;omega
   rw [this,Ya7];rename_i hd;have iV:=h.gt;have e:P++s :: R=(P++[s])++R:=by simp
   rw [e] at ha hv ⊢;refine Zad start due R (P++[s]) _ ha hv ?_;by_cases hk:s.2<=start;have e0:d+max 0 (s.2 - max s.1 (start+1)+1)=d:=by omega
   rw [e0];refine Z4I h (λx hx _=>?_);rw [Z1d,Z1L,decide_eq_false (by omega),Ya7];have tH:=h.cnt;obtain ⟨m,hm⟩:∃ m,max s.1 (start+1)=m:=⟨_,rfl⟩
   rw [hm];have ig:start+1<=m/\s.1<=m/\m<=s.2/\m<=d/\(m=s.1\/m=start+1):=by omega
   have e0:d+max 0 (s.2 - m+1)=d+(s.2 - m+1):=by omega
   rw [e0];refine ⟨by omega,?_,?_⟩;rw [Z1d,hP _ (by omega),Z1L,decide_eq_false (by omega)];rfl;rw [<- tH];have e1:(d+(s.2 - m+1) - start).toNat=(m - (start+1)).toNat+((s.2 - m+1).toNat+(d - m+1).toNat):=by omega
   have e2:(d - start).toNat=(m - (start+1)).toNat+(d - m+1).toNat:=by omega
   rw [e1,e2,Z0P,Z0P,Z0P];have f1:Z17 (λx=>!inB (P++[s]) x) (start+1) (m - (start+1)).toNat=Z17 (λx=>!inB P x) (start+1) (m - (start+1)).toNat:=Z5p _ _ _ _ (λx g1 g2=>by
    rw [Z1d,Z1L,decide_eq_false (by omega),Ya7])
   rw [show start+1+((m - (start+1)).toNat:Int)=m by omega,show m+((s.2 - m+1).toNat:Int)=s.2+1 by omega];have f2:Z17 (λx=>!inB (P++[s]) x) m (s.2 - m+1).toNat=0:=Z4H _ _ _ (λx g1 g2=>by
    rw [Z1d,Z1L,decide_eq_true (by omega)];simp)
   have f3:Z17 (λx=>!inB (P++[s]) x) (s.2+1) (d - m+1).toNat=(d - m+1).toNat:=Z2U _ _ _ (λx g1 g2=>by
    rw [Z1d,hP x (by omega),Z1L,decide_eq_false (by omega)];rfl)
   have f4:Z17 (λx=>!inB P x) m (d - m+1).toNat=(d - m+1).toNat:=Z2U _ _ _ (λx g1 g2=>by
    rw [hP x (by omega)];rfl)
   rw [f1,f2,f3,f4];omega
theorem Zdk {start due:Int} {l:List Spn} (hv:∀ s∈l,s.1<=s.2) (hd:start<due):Zbr start due l (Z44 start (Z0i l) due):=by
 obtain ⟨h1,h2⟩:=Zdj hv;have h:=Zad start due (Z0i l) [] due h1 h2 ⟨hd,rfl,Z2U _ _ _ (λx _ _=>rfl)⟩;exact Z4I h (λx _ _=>(Zl5 hv x).symm)
theorem Zl8 {start due:Int} {l:List Spn} {t:Spn} (hv:∀ s∈l,s.1<=s.2) (ht:t.1<=t.2) (hd:start<due) (hi:t.2<=start\/Z44 start (Z0i l) due<t.1):Z44 start (Z0i (l++[t])) due=Z44 start (Z0i l) due:=by
 have h1:=Zdk hv hd;have h2:=Zdk (l:=l++[t]) (start:=start) (due:=due) (λs hs=>by
  rcases Xf.1 hs with h|h
  exact hv s h;simp at h;subst h;exact ht) hd
 refine Zl7 h2 (Z4I h1 (λx g1 g2=>?_));rw [Z1d,Z1L,decide_eq_false (by omega),Ya7]
theorem Zl9 {start due:Int} {l:List Spn} {t:Spn} (hv:∀ s∈l,s.1<=s.2) (ht:t.1<=t.2) (h0:(Z27 start due l).2=0) (hi:t.2<=start\/(Z27 start due l).1<t.1) :
 Z27 start due (l++[t])=Z27 start due l/\Z4Z start due (l++[t])=Z4Z start due l:=by
 by_cases hd:due<=start;unfold Z4Z;rw [if_pos hd,if_pos hd];unfold Z27;rw [if_pos hd,if_pos hd];exact ⟨rfl,rfl⟩;have he:(Z27 start due l).1=Z44 start (Z0i l) due:=by
  unfold Z27 at h0 ⊢;rw [if_neg hd] at h0 ⊢;split at h0;cases h0;rename_i h;rw [if_neg h]
 rw [he] at hi;have hx:=Zl8 hv ht (by omega) hi;have hm:Z27 start due (l++[t])=Z27 start due l:=by
  unfold Z27;rw [hx]
 refine ⟨hm,?_⟩;unfold Z4Z ZjZ;rw [if_neg hd,if_neg hd,hm,if_neg (by omega),YaT];have:[t].filter (Z45 start (Z27 start due l).1)=[]:=by
  rw [YbF,if_neg (by unfold Z45;rw [he];simp;omega)];rfl
 rw [this,XC]
theorem ZfD (l:List Atp) (a:Atp) (crrs:List Crr) (en pa:Int):∀ k,k<=l.length->ofG (l++[a]) crrs en pa k=ofG l crrs en pa k
 | 0,_=>rfl
 | k + 1, h => by
   rw [ofG,ofG,ZfD l a crrs en pa k (by omega)];have:(l++[a]).getD k default=l.getD k default:=by
    rw [Xv,Xv,X3 (by omega)]
   rw [this]
theorem Zol (l:List Atp) (a:Atp) (crrs:List Crr) (en pa:Int) (h:¬ (a.entry=en/\a.party=pa)):Z4P (l++[a]) crrs en pa=Z4P l crrs en pa:=by
 unfold Z4P;rw [Xc,Xe,Xg,ofG,ZfD l a crrs en pa _ (Xn _)];have:(l++[a]).getD l.length default=a:=by
  rw [Xv,Yak (Xn _)];simp
 rw [this,if_neg (by unfold svB;rw [decide_eq_false h];simp),XC]
theorem Zla {c:Cal} {x:Clo} {kn:Int} {s:Spn} (h:x.known<=kn->∀ y,s.1<=y->x.lo<=y->y<=s.2->y<=x.hi->Zs c kn y=false):Z1A (Zs c kn) (Zs { c with clos:=c.clos++[x] } kn) s:=λy h1 h2=>by
 have e:Z8q (c.clos++[x]) kn y=(Z8q c.clos kn y || decide (x.known<=kn/\x.lo<=y/\y<=x.hi)):=by simp [Z8q]
 by_cases hc:x.known<=kn/\x.lo<=y/\y<=x.hi;rw [h hc.1 y h1 hc.2.1 h2 hc.2.2];unfold Zs Z9K;rw [e,decide_eq_true hc];simp;unfold Zs Z9K;dsimp only;rw [e,decide_eq_false hc,Ya7]
structure Zx8 (c:Cas) (f:Fct) (r:Int) (day due:Int) (sp:List Spn) (v:Int) (s1 s2:List Spn) (z:Int):Prop where
 rng:0<=r/\r<=(c.ruls.length:Int) - 1
 on:(c.ruls.getD r.toNat crZ).on=f.kind/\ZaU c.ruls (c.ruls.getD r.toNat crZ).name f.day=r
 cnd:Je (opn c) (evL c f) (c.ruls.getD r.toNat crZ).cnd=(v,s1,0)
 v0:v≠0
 du:Je (opn c) (evL c f) (c.ruls.getD r.toNat crZ).due=(day,s2,0)
 ex:Z27 f.day day c.stys=(z,0)
 fin:(z=day/\due=day/\sp=s1++s2)\/(z≠day/\ZQ (opn c) 1 z=(due,0)/\sp=s1++s2++[(z,due)])
theorem Zlb {c:Cas} {f:Fct} {r day due:Int} {sp:List Spn} (h:Z6O c f r=some (day,due,sp)):∃ v s1 s2 z,Zx8 c f r day due sp v s1 s2 z:=by
 unfold Z6O at h;dsimp only at h;split at h;cases h;rename_i a1;split at h;cases h;rename_i a2;split at h;cases h;rename_i a3;split at h;cases h;rename_i a4;split at h;cases h;rename_i a5;have b1:∀ {α β:Type} (p:α×β×Int),¬ p.2.2≠0->p=(p.1,p.2.1,0):=λp hp=>by
  obtain ⟨x,y,z⟩:=p;have:z=0:=Decidable.byContradiction hp;subst this;rfl
 have b2:∀ {α:Type} (p:α×Int),¬ p.2≠0->p=(p.1,0):=λp hp=>by
  obtain ⟨x,z⟩:=p;have:z=0:=Decidable.byContradiction hp;subst this;rfl
 have a1':=Decidable.byContradiction a1;have c1:(c.ruls.getD r.toNat crZ).on=f.kind:=Decidable.byContradiction λg=>a2 (.inl g);have c2:ZaU c.ruls (c.ruls.getD r.toNat crZ).name f.day=r:=Decidable.byContradiction λg=>a2 (.inr g);have c3:¬ (Je (opn c) (evL c f) (c.ruls.getD r.toNat crZ).cnd).2.2≠0:=λg=>a3 (.inl g);have c4:(Je (opn c) (evL c f) (c.ruls.getD r.toNat crZ).cnd).1≠0:=λg=>a3 (.inr g);split at h;rename_i a6;obtain ⟨h3,h4⟩:=Yav (XT h);obtain ⟨h5,h6⟩:=Yav h4;rw [h3] at a6 a5 h5;exact ⟨_,_,_,_,a1',⟨c1,c2⟩,b1 _ c3,c4,by rw [<- h3];exact b1 _ a4,b2 _ a5,.inl ⟨a6,h5.symm,h6.symm⟩⟩;rename_i a6;split at h;cases h;rename_i a7;obtain ⟨h3,h4⟩:=Yav (XT h);obtain ⟨h5,h6⟩:=Yav h4;rw [h3] at a6 a5 a7 h5 h6;rw [h5] at h6;exact ⟨_,_,_,_,a1',⟨c1,c2⟩,b1 _ c3,c4,by rw [<- h3];exact b1 _ a4,b2 _ a5,.inr ⟨a6,by rw [<- h5];exact b2 _ a7,h6.symm⟩⟩
theorem Zom {c:Cas} {f:Fct} {r day due v z:Int} {sp s1 s2:List Spn} (h:Zx8 c f r day due sp v s1 s2 z):Z6O c f r=some (day,due,sp):=by
 unfold Z6O;dsimp only;rw [if_neg (λg=>g h.rng),if_neg (λg=>g.elim (λg=>g h.on.1) (λg=>g h.on.2)),h.cnd,if_neg (by simp [h.v0]),h.du,if_neg (by simp),h.ex,if_neg (by simp)];dsimp only;rcases h.fin with ⟨rfl,rfl,rfl⟩|⟨h1,h2,rfl⟩
 rw [if_pos rfl];rw [if_neg h1,h2,if_neg (by simp)]
theorem Zlc {fs:List Fct} {g f:Fct} {unl:Str} {due:Int} (h:g.kind≠unl):Z98 (fs++[g]) f unl due=Z98 fs f unl due:=by
 have e:Z5S (fs++[g]) f unl due=Z5S fs f unl due:=by
  have hn:¬ Z8u f unl due g=true:=λhc=>h (of_decide_eq_true hc).2.1;rw [ZkU,if_neg hn,XC]
 unfold Z98;rw [e]
def Z6Q (c:Cas) (g:Fct) (x:Clo) (t:Spn) (a:Atp):Cas:={ c with fcts:=c.fcts++[g],cal:={ c.cal with clos:=c.cal.clos++[x] },stys:=c.stys++[t],atts:=c.atts++[a] }
theorem Zon {c:Cas} (hs:Z6a c) {d:Dln} (hd:d∈Z1t c) {r:Nat} (hr:Z7i c d=((r:Int),true)) {g:Fct} {x:Clo} {t:Spn} {a:Atp} (ht:t.1<=t.2)
 (h1:¬ (t.2 > d.trig.day/\t.1<=d.due)) (h2:¬ (a.entry=d.trig.entry/\a.party=d.party)) (h3:g.kind≠(c.ruls.getD r crZ).unl)
 (h4:x.known<=c.today->∀ q∈d.reas,q.kind=4->∀ y,q.a<=y->x.lo<=y->y<=q.b->y<=x.hi->Zs c.cal c.today y=false) :
 Z0F (Z6Q c g x t a) d.trig r=(d,true):=by
 obtain ⟨f,hf,s,cP,ho,rfl⟩:=Z6P hd;obtain ⟨_,da,due,sp,hk,oN⟩:=Za9 ho;have e:s=r:=by
  rw [oN,Zd5 c f s _ da due sp cP] at hr;have:=congrArg Prod.fst hr;dsimp only at this;omega
 subst e;rw [oN] at h1 h2 h4 ⊢;obtain ⟨v,s1,s2,z,hp⟩:=Zlb hk;have hq:c.ruls.getD ((s:Int)).toNat crZ=c.ruls.getD s crZ:=rfl;have bt:∀ u∈sp,Z1A (opn c) (opn (Z6Q c g x t a)) u:=λu hu=>Zla (λjn y g1 g2 g3 g4=>h4 jn ⟨4,u.1,u.2⟩ (by
  show _∈(mkD c f s (c.ruls.getD ((s:Int)).toNat crZ) da due sp).reas;unfold mkD;dsimp only;refine Xf.2 (.inl (Xf.2 (.inl (Xf.2 (.inr ?_)))));exact XG.2 ⟨u,hu,rfl⟩) rfl y g1 g2 g3 g4)
 have gG:Z4P (c.atts++[a]) c.crrs f.entry f.to_=Z4P c.atts c.crrs f.entry f.to_:=Zol _ _ _ _ _ h2;have bF:evL (Z6Q c g x t a) f=evL c f:=by
  unfold evL Z6Q;dsimp only;rw [gG]
 have hz:z<=due:=by
  rcases hp.fin with ⟨e1,e2,_⟩|⟨_,e2,_⟩
  omega;exact (Z6d e2).1
 have jU:¬ (t.2 > f.day/\t.1<=due):=h1;have hi:t.2<=f.day\/(Z27 f.day da c.stys).1<t.1:=by
  rw [hp.ex];dsimp only;omega
 obtain ⟨fJ,io⟩:=Zl9 (λu hu=>(hs.ok.sty.rng u hu).2.1) ht (by rw [hp.ex]) hi;have bu:∀ u∈s1++s2,u∈sp:=λu hu=>by
  rcases hp.fin with ⟨_,_,rfl⟩|⟨_,_,rfl⟩
  exact hu;exact Xf.2 (.inl hu)
 have mi:Z6O (Z6Q c g x t a) f s=some (da,due,sp):=Zom (v:=v) (s1:=s1) (s2:=s2) (z:=z) ⟨hp.rng,hp.on,by
  rw [bF];exact Z6e hp.cnd (λu hu=>bt u (bu u (by simp [hu]))),hp.v0,by
  rw [bF];exact Z6e hp.du (λu hu=>bt u (bu u (by simp [hu]))),fJ.trans hp.ex,by
  rcases hp.fin with ⟨e1,e2,e3⟩|⟨e1,e2,e3⟩
  exact .inl ⟨e1,e2,e3⟩;exact .inr ⟨e1,(Z6d e2).2.2.2.2 _ (bt (z,due) (by rw [e3];simp)),e3⟩⟩
 rw [ZkS];show (Z6O (Z6Q c g x t a) f s).elim noD _=_;rw [mi];refine Prod.ext ?_ rfl;show mkD (Z6Q c g x t a) f s (c.ruls.getD s crZ) da due sp=mkD c f s (c.ruls.getD s crZ) da due sp;have ha:Z98 (c.fcts++[g]) f (c.ruls.getD s crZ).unl due=Z98 c.fcts f (c.ruls.getD s crZ).unl due:=Zlc h3;unfold mkD Z6Q;dsimp only;rw [ha,io,gG]
open Go Go.Eng Go.RowKit Go.Proofs
theorem Zld {c:Cas} (h:Z6a c) {d:Dln} (hd:d∈Z1t c):Z0C d.trig:=by
 obtain ⟨f,hf,r,hr,h1,rfl⟩:=Z6P hd;have pp:Z0C f:=(Xf.1 hf).elim (h.fo f) (Z8V h f);rw [(Zbe h.ok pp h1).1];exact pp
def Zle (c:Cas) (x:Clo) (q:Rsn):Prop:=q.kind=4->∀ y,q.a<=y->x.lo<=y->y<=q.b->y<=x.hi->Zs c.cal c.today y=false
theorem Zdl (c:Cas) (R:Z0X) (d:Dln) (dv:Value) (x:Clo) (w) (hv:Z2k w c R) (hd:SlV [] w dv d.reas) (hx:-1000000000<=x.lo/\x.hi<=1000000000) :
 CC 27 #[.agg (Jl c R).toArray,.agg (dlC d dv).toArray,aG x] w λv w'=>∃ b,v=.B b/\(b=false->x.known<=c.today->∀ q∈d.reas,Zle c x q)/\Stp [] w w':=by
 have uB:=hd.max;refine cW3 52 Tryz.func27 ?_;refine W ?_;refine BX (Stp.refl [] w) λb3 w1 h3 e3 _ hS=>?_;replace e3:Blk w1 b3 37 (Jl c R):=e3;refine BX hS λb4 w2 h4 e4 hT hS=>?_;replace e4:Blk w2 b4 56 (dlC d dv):=e4;replace e3:=e3.up hT;refine BX hS λb5 w3 h5 e5 hT hS=>?_;replace e5:Blk w3 b5 73 (Z3.enc x):=e5;replace e3:=e3.up hT;replace e4:=e4.up hT;replace hv:=hv.up hS;replace hd:=hd.up hS;by_cases hk:x.known > c.today;focus repeat'(first|refine W1 ?_|omega|refine VG ?_ ?_<;>intro hg|refine VC ?_ ?_<;>intro hc)
 refine RU ?_;exact ⟨false,rfl,λ_ h=>by omega,hS⟩;repeat'(first|refine W1 ?_|omega|refine VG ?_ ?_<;>intro hg|refine VC ?_ ?_<;>intro hc)
 refine LP (σ:=Nat) (λj=>[(3,pQ b3),(4,pQ b4),(5,pQ b5),(6,.B false),(7,.I (j:Int))]) (λj W=>(j<=d.reas.length/\∀ i (h:i<d.reas.length),i<j->Zle c x d.reas[i])/\Stp [] w3 W) (λj=>d.reas.length - j) 0 ⟨⟨Xq _,λi _ h=>by omega⟩,Stp.refl _ _⟩ ?_;rintro j y ⟨⟨hj,aW⟩,hY⟩;have f3:=e3.up hY;have f4:=e4.up hY;have f5:=e5.up hY;have kU:=hd.up hY;by_cases hlt:j<d.reas.length;focus repeat'(first|refine W1 ?_|omega|refine VG ?_ ?_<;>intro hg|refine VC ?_ ?_<;>intro hc)
 refine Z0 Z2 rfl ?_;rintro _ wa ⟨b8,rfl,eO,e8,hT⟩;refine SA (us:=Z3.enc d.reas[j]) e8 ?_;rintro _ wb ⟨hU,e8⟩;replace hT:=hT.ow hU;replace f3:=f3.up hT;replace f4:=f4.up hT;replace f5:=f5.up hT;replace hY:=hY.trans hT;clear hT hU;generalize xJ:d.reas[j]=q at *;focus repeat'(first|refine W1 ?_|omega|refine VG ?_ ?_<;>intro hg|refine VC ?_ ?_<;>intro hc)
 refine Zu (σ:=Int) (λz=>[(3,pQ b3),(4,pQ b4),(5,pQ b5),(6,.B false),(7,.I (j:Int)),(8,pQ b8),(9,.I z)]) (λz W=>(max q.a x.lo<=z/\(q.kind=4->∀ y,max q.a x.lo<=y->y<z->Zs c.cal c.today y=false))/\Stp [] wb W) (λz=>(x.hi+1 - z).toNat) (max q.a x.lo) ⟨rfl,rfl,rfl,rfl,rfl,rfl,rfl,trivial⟩ ⟨⟨XQ _,λ_ y h1 h2=>by omega⟩,Stp.refl _ _⟩ ?_;rintro z v ⟨⟨hz,eM⟩,hZ⟩;have g3:=f3.up hZ;have g5:=f5.up hZ;have g8:=e8.up hZ;have ic:=(hv.up hY).up hZ;by_cases gA:q.kind=4/\z<=min q.b x.hi
 . obtain ⟨k4,vN⟩:=gA
   repeat'(first|refine W1 ?_|omega|refine VG ?_ ?_<;>intro hg|refine VC ?_ ?_<;>intro hc)
   refine Z8 (Zl (us:=Z06 c.cal R.hv R.lv R.zo R.zs R.hr) rfl rfl g3 rfl rfl) rfl ?_;repeat'(first|refine W1 ?_|omega|refine VG ?_ ?_<;>intro hg|refine VC ?_ ?_<;>intro hc)
   refine CP hZ (Zks z c.today c.cal R.hv R.lv R.zo R.zs R.hr _ ic.cal) λvc hT hZ=>?_;cases sN:Zs c.cal c.today z with
   | true=>
     repeat'(first|refine W1 ?_|omega|refine VG ?_ ?_<;>intro hg|refine VC ?_ ?_<;>intro hc)
     refine RU ?_;exact ⟨true,rfl,(λh=>by cases h),hS.trans (hY.trans hZ)⟩
   | false=>
     repeat'(first|refine W1 ?_|omega|refine VG ?_ ?_<;>intro hg|refine VC ?_ ?_<;>intro hc)
     exact QL (z+1) ⟨⟨by omega,λh y h1 h2=>by
      by_cases e:y=z;rw [e];exact sN;exact eM h y h1 (by omega)⟩,hZ⟩ (by omega)
 have fin:Zle c x q:=λh4 y h1 h2 h3 h5=>eM h4 y (by omega) (by
  by_cases jC:z<=min q.b x.hi;exact absurd ⟨h4,jC⟩ gA;omega)
 have oB:∀ i (h:i<d.reas.length),i<j+1->Zle c x d.reas[i]:=λi h hi=>by
  by_cases e:i=j;subst e;rw [xJ];exact fin;exact aW i h (by omega)
 by_cases k4:q.kind=4;have tE:¬ z<=min q.b x.hi:=λh=>gA ⟨k4,h⟩;focus repeat'(first|refine W1 ?_|omega|refine VG ?_ ?_<;>intro hg|refine VC ?_ ?_<;>intro hc)
 exact QL (j+1) ⟨⟨hlt,oB⟩,hY.trans hZ⟩ (XA hlt (XE j));focus repeat'(first|refine W1 ?_|omega|refine VG ?_ ?_<;>intro hg|refine VC ?_ ?_<;>intro hc)
 exact QL (j+1) ⟨⟨hlt,oB⟩,hY.trans hZ⟩ (XA hlt (XE j));focus repeat'(first|refine W1 ?_|omega|refine VG ?_ ?_<;>intro hg|refine VC ?_ ?_<;>intro hc)
 refine RU ?_;exact ⟨false,rfl,λ_ _ q hq=>by
  obtain ⟨i,hi,rfl⟩:=Xr hq;exact aW i hi (by omega),hS.trans hY⟩
theorem _root_.Go.Oper.wp_monoQ {P:Program} {o:Oper} {a:Act} {w} {K K':Act->World->Prop} {Q Q':Exit->Act->World->Prop} (h:∀ a w,K a w->K' a w) (hq:∀ e a w,Q e a w->Q' e a w)
 (hh:o.wp P a w K Q):o.wp P a w K' Q':=by
 unfold Oper.wp at *;generalize (execOp a.eval o).run P w=r at *;cases r with
 | ok n w'=>
   cases n<;>simp only [Oper.upon] at hh ⊢ <;>
    first
     | exact h _ _ hh
     | exact Calls.mono hh (λe w'' he=>by cases e<;>first|exact h _ _ he|exact hq _ _ _ he|exact he.imp λ_ h=>h.imp λ_ h=>hq _ _ _ h)
     | exact Rows.mono hh (λ_ _ he=>h _ _ he)
 | halt x w'=>cases x<;>simp only [Oper.upon] at hh ⊢<;>exact hq _ _ _ hh
theorem wpList_monoQ {P:Program} {ops:Array Oper} {Q Q':Exit->Act->World->Prop} (hq:∀ e a w,Q e a w->Q' e a w):∀ (l:List Oper) (a:Act) (w),wpList P ops Q l a w->wpList P ops Q' l a w
 | [],a,w,h=>hq _ _ _ h
 | o :: l, a, w, h => by
   unfold wpList at h ⊢;split;rename_i hw;rw [if_pos hw] at h;exact h.imp (Oper.wp_monoQ (wpList_monoQ hq l) hq) (λ⟨h1,h2⟩=>⟨h1,h2.imp λ_ h=>h.imp λ_ h=>hq _ _ _ h⟩);rename_i hw;rw [if_neg hw] at h;exact wpList_monoQ hq l _ _ h
theorem WL_cutQ {P:Program} {n:Nat} {Q:Exit->Act->World->Prop} {e:Env} {w} {ops:Array Oper} {l:List Oper} {y:Code} {σ:Type} (env:σ->Env) (I:σ->World->Prop)
 (h:WL P n ops (Exit.then (λa w=>∃ s,Has n (env s) a/\I s w) Q) l e w) (k:∀ s w,I s w->WC P n y Q (env s) w):WL P n ops (Exit.then (λa w=>y.wp P Q a w) Q) l e w:=
 ⟨λa ha => wpList_monoQ (λex a w hq => by
   cases ex with
   | normal=>obtain ⟨s,h1,h2⟩:=hq;exact (k s w h2).h a h1
   | _=>exact hq) _ _ _ (h.h a ha)⟩
theorem Zbs (a b:Int) (w):(Instr.build 78 #[(0,.I a),(1,.I b),(3,.I 739616)]).run Tryz.prog w=.ok (.agg (atC ⟨a,b,0,739616,[]⟩ (.N)).toArray) w:=by kernel_rfl
theorem Zlf (w):(Instr.build 80 #[(1,.I 1),(2,.I 739616),(3,.I 739619)]).run Tryz.prog w=.ok (aG (⟨0,1,739616,739619⟩:Rtn)) w:=by kernel_rfl
theorem Zhj (x:Rtn) (w):(Instr.buildSlice 76 1 #[(0,aG x)]).run Tryz.prog w=.ok (.slice (some ⟨w.heap.size,0,none⟩) 1 1) (w.alloc (.cells (Z3.enc x).toArray 80)):=by kernel_rfl
theorem Ztw (lv:Value) (l:List Int) (a0 a1 a2 a3 a4 a5 a6 a7:Int) (er:Value) (m:Int) (w) (hs:SlV [] w lv l) (hl:∀ a∈l,I64 a) (h0:I64 a0) (h1:I64 a1) (h2:I64 a2) (h3:I64 a3) (h4:I64 a4) (h5:I64 a5) (h6:I64 a6) (h7:I64 a7) (hF:SlV [] w Z2e Ze) (cS:Z0x w) (jf:Z3g w) (eC:w.cell? ⟨2,0,none⟩=some (.I m)) (eF:w.cell? ⟨8,0,none⟩=some er) (bF:er=.nilIface\/∃ te pe,er=.iface te pe) :
 CC 8 #[lv,.agg #[.I a0,.I a1,.I a2,.I a3,.I a4,.I a5,.I a6,.I a7]] w λr w'=>r=.B true/\Stp [] w w':=by
 refine cW2 185 Tryz.func8 ?_;refine W ?_;refine BX (Stp.refl [] w) λb3 w1 dG e3 _ hS=>?_;replace e3:Blk w1 b3 70 [.I a0,.I a1,.I a2,.I a3,.I a4,.I a5,.I a6,.I a7]:=e3;replace hs:=hs.up hS;repeat'(first|refine W1 ?_|omega|refine VG ?_ ?_<;>intro hg|refine VC ?_ ?_<;>intro hc)
 refine CL (Z8U lv l _ hs hl (cS.up hS) (jf.up hS)) ?_;rintro _ w2 ⟨c,R,rfl,hv,ay,hT⟩;have bh:=ay.cas;have dW:=ay.fl;have it:=ay.al;have ax:=ay.sl;have yN:=ay.cal.c3;have bZ:=ay.cl;have sO:∀ q∈c.crrs,0<=q.tol/\q.tol<=1000:=λq hq=>(ay.co q hq).tol;replace e3:=e3.up hT;replace hS:=hS.trans hT;clear hT ay hs;repeat'(first|refine W1 ?_|omega|refine VG ?_ ?_<;>intro hg|refine VC ?_ ?_<;>intro hc)
 refine Z0 Z2 rfl ?_;rintro _ w3 ⟨b5,rfl,jt,e5,hT⟩;refine SB (us:=Jl c R) hv.cell e5 ?_;rintro _ w4 ⟨hU,e5⟩;replace hT:=hT.ow hU;replace hv:=hv.up hT;replace e3:=e3.up hT;replace hS:=hS.trans hT;clear hT hU;repeat'(first|refine W1 ?_|omega|refine VG ?_ ?_<;>intro hg|refine VC ?_ ?_<;>intro hc)
 refine CL (Za0 1000 a0 _ h0) ?_;rintro _ w5 ⟨g,rfl,ke,gA,hT⟩;replace hv:=hv.up hT;replace e3:=e3.up hT;replace e5:=e5.up hT;replace hS:=hS.trans hT;clear hT;repeat'(first|refine W1 ?_|omega|refine VG ?_ ?_<;>intro hg|refine VC ?_ ?_<;>intro hc)
 refine Z0 Z2 rfl ?_;rintro _ w6 ⟨b6,rfl,eh,e6,hT⟩;refine SA (us:=Z3.enc g) e6 ?_;rintro _ w7 ⟨hU,e6⟩;replace hT:=hT.ow hU;replace hv:=hv.up hT;replace e3:=e3.up hT;replace e5:=e5.up hT;replace hS:=hS.trans hT;clear hT hU;repeat'(first|refine W1 ?_|omega|refine VG ?_ ?_<;>intro hg|refine VC ?_ ?_<;>intro hc)
 refine CP hS (Zp a1 100 _ (by decide) h1) λw8 hT hS=>?_
 have r1:=Zo (if a1<0 then -(a1+1) else a1) 100 (by decide);generalize (if a1<0 then -(a1+1) else a1) % 100=z1 at r1 ⊢;replace hv:=hv.up hT;replace e3:=e3.up hT;replace e5:=e5.up hT;replace e6:=e6.up hT;clear hT;repeat'(first|refine W1 ?_|omega|refine VG ?_ ?_<;>intro hg|refine VC ?_ ?_<;>intro hc)
 refine Ju (σ:=Nat×Clo) (λq=>[(3,pQ b3),(5,pQ b5),(6,pQ b6),(8,.pointer (some ⟨q.1,0,none⟩))]) (λq w'=>Blk w' q.1 73 (Z3.enc q.2)/\(-1000000000<=q.2.lo/\q.2.hi<=1000000000)/\w8.heap.size<=q.1/\Stp [] w8 w') ?_ ?_;have hB:Stp [] w8 w8:=Stp.refl [] w8;have k3:=e3;refine ZDr 14 [] [13] [(0,0),(1,0),(2,0),(3,1),(6,0),(7,1),(4,15),(5,0),(8,15),(9,0),(10,0),(11,0),(12,2),(13,2)] (λw1 ae=>?_);replace k3:=k3.up ae;replace hB:=hB.trans ae;clear ae;refine D ?_;apply Z3B rfl;refine JK rfl trivial (Z4 rfl (Zd rfl rfl) (Zp a2 6 _ (by decide) h2)) (λ_ _ h=>h.2) rfl ?_;rintro _ wk ⟨rfl,hT⟩;replace k3:=k3.up hT;replace hB:=hB.trans hT;clear hT;have r2:=Zo (if a2<0 then -(a2+1) else a2) 6 (by decide);generalize (if a2<0 then -(a2+1) else a2) % 6=z2 at r2 ⊢;refine D ?_;apply Z3B rfl;refine JK rfl trivial (Z4 rfl (Zd rfl rfl) (Zp a3 100 _ (by decide) h3)) (λ_ _ h=>h.2) rfl ?_;rintro _ wk ⟨rfl,hT⟩;replace k3:=k3.up hT;replace hB:=hB.trans hT;clear hT;have r3:=Zo (if a3<0 then -(a3+1) else a3) 100 (by decide);generalize (if a3<0 then -(a3+1) else a3) % 100=z3 at r3 ⊢;refine D ?_;refine ZS rfl trivial (λw'=>JC (vs:=[(0,.I (739616+z1 - 10)),(1,.I (739616+z1 - 10+z2)),(2,.I (739616+z3 - 10))]) rfl (Z7G _ _ _)) rfl ?_;refine Za rfl trivial Z2 (λ_ _ h=>h.choose_spec.2.2.2) rfl ?_;rintro _ wk ⟨bn,rfl,ii,kb,hT⟩;have gb:w8.heap.size<=bn:=by have:=hB.size;omega
 replace k3:=k3.up hT;replace hB:=hB.trans hT;clear hT;refine D ?_;refine ZO rfl trivial (Zj (us:=Z3.enc (⟨739616+z1 - 10,739616+z1 - 10+z2,739616+z3 - 10⟩:Clo)) rfl rfl rfl rfl (Z3.one _) kb rfl) rfl ?_;rintro _ wk ⟨hT,kb⟩;replace hB:=hB.own hT (λq hq=>.inr (by simp at hq;subst hq;exact gb));clear hT;refine D ?_;exact Zy (bn,(⟨739616+z1 - 10,739616+z1 - 10+z2,739616+z3 - 10⟩:Clo)) ⟨rfl,rfl,rfl,rfl,trivial⟩ ⟨kb,⟨by dsimp only;omega,by dsimp only;omega⟩,gb,hB⟩;refine JK rfl trivial Z2 (λ_ _ h=>h.choose_spec.2.2.2) rfl ?_;rintro _ wk ⟨bn,rfl,ii,kb,hT⟩;have gb:w8.heap.size<=bn:=by have:=hB.size;omega
 replace k3:=k3.up hT;replace hB:=hB.trans hT;clear hT;refine D ?_;refine Za rfl trivial (Z4 rfl (Zd rfl rfl) (Zp a3 100 _ (by decide) h3)) (λ_ _ h=>h.2) rfl ?_;rintro _ wk ⟨rfl,hT⟩;replace k3:=k3.up hT;replace hB:=hB.trans hT;replace kb:=kb.up hT;clear hT;have r3:=Zo (if a3<0 then -(a3+1) else a3) 100 (by decide);generalize (if a3<0 then -(a3+1) else a3) % 100=z3 at r3 ⊢;refine D ?_;refine ZS rfl trivial (λw'=>JC (vs:=[(0,.I (739616+z1 - 10)),(1,.I (739616+z1 - 10+z2)),(2,.I (739616+z3 - 10))]) rfl (Z7G _ _ _)) rfl ?_;refine D ?_;refine ZO rfl trivial (Zj (us:=Z3.enc (⟨739616+z1 - 10,739616+z1 - 10+z2,739616+z3 - 10⟩:Clo)) rfl rfl rfl rfl (Z3.one _) kb rfl) rfl ?_;rintro _ wk ⟨hT,kb⟩;replace hB:=hB.own hT (λq hq=>.inr (by simp at hq;subst hq;exact gb));clear hT;refine D ?_;exact Zy (bn,(⟨739616+z1 - 10,739616+z1 - 10+z2,739616+z3 - 10⟩:Clo)) ⟨rfl,rfl,rfl,rfl,trivial⟩ ⟨kb,⟨by dsimp only;omega,by dsimp only;omega⟩,gb,hB⟩;refine JK rfl trivial Z2 (λ_ _ h=>h.choose_spec.2.2.2) rfl ?_;rintro _ wk ⟨bn,rfl,ii,kb,hT⟩;have gb:w8.heap.size<=bn:=by have:=hB.size;omega
 replace k3:=k3.up hT;replace hB:=hB.trans hT;clear hT;refine D ?_;refine Za rfl trivial (Z4 rfl (Zd rfl rfl) (Zp a2 6 _ (by decide) h2)) (λ_ _ h=>h.2) rfl ?_;rintro _ wk ⟨rfl,hT⟩;replace k3:=k3.up hT;replace hB:=hB.trans hT;replace kb:=kb.up hT;clear hT;have r2:=Zo (if a2<0 then -(a2+1) else a2) 6 (by decide);generalize (if a2<0 then -(a2+1) else a2) % 6=z2 at r2 ⊢;refine D ?_;refine Za rfl trivial (Z4 rfl (Zd rfl rfl) (Zp a3 100 _ (by decide) h3)) (λ_ _ h=>h.2) rfl ?_;rintro _ wk ⟨rfl,hT⟩;replace k3:=k3.up hT;replace hB:=hB.trans hT;replace kb:=kb.up hT;clear hT;have r3:=Zo (if a3<0 then -(a3+1) else a3) 100 (by decide);generalize (if a3<0 then -(a3+1) else a3) % 100=z3 at r3 ⊢;refine D ?_;refine ZS rfl trivial (λw'=>JC (vs:=[(0,.I (739616+z1 - 10)),(1,.I (739616+z1 - 10+z2)),(2,.I (739616+z3 - 10))]) rfl (Z7G _ _ _)) rfl ?_;refine D ?_;refine ZO rfl trivial (Zj (us:=Z3.enc (⟨739616+z1 - 10,739616+z1 - 10+z2,739616+z3 - 10⟩:Clo)) rfl rfl rfl rfl (Z3.one _) kb rfl) rfl ?_;rintro _ wk ⟨hT,kb⟩;replace hB:=hB.own hT (λq hq=>.inr (by simp at hq;subst hq;exact gb));clear hT;refine D ?_;exact Zy (bn,(⟨739616+z1 - 10,739616+z1 - 10+z2,739616+z3 - 10⟩:Clo)) ⟨rfl,rfl,rfl,rfl,trivial⟩ ⟨kb,⟨by dsimp only;omega,by dsimp only;omega⟩,gb,hB⟩;rintro ⟨b8,x⟩ w9 ⟨e8,rf,eO,hT⟩;dsimp only at e8 rf eO ⊢;replace hv:=hv.up hT;replace e3:=e3.up hT;replace e5:=e5.up hT;replace e6:=e6.up hT;replace hS:=hS.trans hT;clear hT r1;repeat'(first|refine W1 ?_|omega|refine VG ?_ ?_<;>intro hg|refine VC ?_ ?_<;>intro hc)
 refine CP hS (Zp a4 100 _ (by decide) h4) λw10 hT hS=>?_
 have r4:=Zo (if a4<0 then -(a4+1) else a4) 100 (by decide);generalize (if a4<0 then -(a4+1) else a4) % 100=z4 at r4 ⊢;replace hv:=hv.up hT;replace e3:=e3.up hT;replace e5:=e5.up hT;replace e6:=e6.up hT;replace e8:=e8.up hT;clear hT;repeat'(first|refine W1 ?_|omega|refine VG ?_ ?_<;>intro hg|refine VC ?_ ?_<;>intro hc)
 refine CP hS (Zp a5 6 _ (by decide) h5) λw11 hT hS=>?_
 have r5:=Zo (if a5<0 then -(a5+1) else a5) 6 (by decide);generalize (if a5<0 then -(a5+1) else a5) % 6=z5 at r5 ⊢;replace hv:=hv.up hT;replace e3:=e3.up hT;replace e5:=e5.up hT;replace e6:=e6.up hT;replace e8:=e8.up hT;clear hT;repeat'(first|refine W1 ?_|omega|refine VG ?_ ?_<;>intro hg|refine VC ?_ ?_<;>intro hc)
 refine Z7 rfl (Z65 (739616+z4 - 10) (739616+z4 - 10+z5)) rfl ?_;obtain ⟨t,ht⟩:∃ t:Spn,((739616+z4 - 10,739616+z4 - 10+z5):Spn)=t:=⟨_,rfl⟩
 rw [ht];have mj:0<=t.1/\t.1<=t.2/\t.2<=3652058:=by subst ht;dsimp only;omega
 clear ht r4 r5;refine Z0 Z2 rfl ?_;rintro _ w12 ⟨b10,rfl,dL,e10,hT⟩;refine SA (us:=Z3.enc t) e10 ?_;rintro _ w13 ⟨hU,e10⟩;replace hT:=hT.ow hU;replace hv:=hv.up hT;replace e3:=e3.up hT;replace e5:=e5.up hT;replace e6:=e6.up hT;replace e8:=e8.up hT;replace hS:=hS.trans hT;clear hT hU;repeat'(first|refine W1 ?_|omega|refine VG ?_ ?_<;>intro hg|refine VC ?_ ?_<;>intro hc)
 refine Ju (σ:=Nat×Int×Int) (λq=>[(3,pQ b3),(5,pQ b5),(6,pQ b6),(8,pQ b8),(10,pQ b10),(11,.pointer (some ⟨q.1,0,none⟩))]) (λq w'=>Blk w' q.1 78 (atC ⟨q.2.1,q.2.2,0,739616,[]⟩ (.N))/\w13.heap.size<=q.1/\Stp [] w13 w') ?_ ?_;have hB:Stp [] w13 w13:=Stp.refl [] w13;have k3:=e3;refine ZDr 9 [] [8] [(0,0),(1,1),(3,0),(4,1),(2,10),(5,10),(6,0),(7,2),(8,2)] (λw1 ae=>?_);replace k3:=k3.up ae;replace hB:=hB.trans ae;clear ae;refine D ?_;apply Z3B rfl;refine JK rfl trivial (Z4 rfl (Zd rfl rfl) (Zp a6 18 _ (by decide) h6)) (λ_ _ h=>h.2) rfl ?_;rintro _ wk ⟨rfl,hT⟩;replace k3:=k3.up hT;replace hB:=hB.trans hT;clear hT;have r6:=Zo (if a6<0 then -(a6+1) else a6) 18 (by decide);generalize (if a6<0 then -(a6+1) else a6) % 18=z6 at r6 ⊢;refine D ?_;apply Z3B rfl;refine JK rfl trivial (Z4 rfl (Zd rfl rfl) (Zp a7 3 _ (by decide) h7)) (λ_ _ h=>h.2) rfl ?_;rintro _ wk ⟨rfl,hT⟩;replace k3:=k3.up hT;replace hB:=hB.trans hT;clear hT;have r7:=Zo (if a7<0 then -(a7+1) else a7) 3 (by decide);generalize (if a7<0 then -(a7+1) else a7) % 3=z7 at r7 ⊢;refine D ?_;refine ZS rfl trivial (λw'=>JC (vs:=[(0,.I z6),(1,.I z7),(3,.I 739616)]) rfl (Zbs _ _)) rfl ?_;refine Za rfl trivial Z2 (λ_ _ h=>h.choose_spec.2.2.2) rfl ?_;rintro _ wk ⟨bn,rfl,ii,kb,hT⟩;have gb:w13.heap.size<=bn:=by have:=hB.size;omega
 replace k3:=k3.up hT;replace hB:=hB.trans hT;clear hT;refine D ?_;refine ZO rfl trivial (Zj (us:=atC ⟨z6,z7,0,739616,[]⟩ (.N)) rfl rfl rfl rfl (λu hu=>by
  simp only [Xb,Xj,or_false] at hu;rcases hu with rfl|rfl|rfl|rfl|rfl<;>rfl) kb rfl) rfl ?_
 rintro _ wk ⟨hT,kb⟩;replace hB:=hB.own hT (λq hq=>.inr (by simp at hq;subst hq;exact gb));clear hT;refine D ?_;exact QT (bn,z6,z7) ⟨kb,gb,hB⟩;refine JK rfl trivial Z2 (λ_ _ h=>h.choose_spec.2.2.2) rfl ?_;rintro _ wk ⟨bn,rfl,ii,kb,hT⟩;have gb:w13.heap.size<=bn:=by have:=hB.size;omega
 replace k3:=k3.up hT;replace hB:=hB.trans hT;clear hT;refine D ?_;refine Za rfl trivial (Z4 rfl (Zd rfl rfl) (Zp a7 3 _ (by decide) h7)) (λ_ _ h=>h.2) rfl ?_;rintro _ wk ⟨rfl,hT⟩;replace k3:=k3.up hT;replace hB:=hB.trans hT;replace kb:=kb.up hT;clear hT;have r7:=Zo (if a7<0 then -(a7+1) else a7) 3 (by decide);generalize (if a7<0 then -(a7+1) else a7) % 3=z7 at r7 ⊢;refine D ?_;refine ZS rfl trivial (λw'=>JC (vs:=[(0,.I z6),(1,.I z7),(3,.I 739616)]) rfl (Zbs _ _)) rfl ?_;refine D ?_;refine ZO rfl trivial (Zj (us:=atC ⟨z6,z7,0,739616,[]⟩ (.N)) rfl rfl rfl rfl (λu hu=>by
  simp only [Xb,Xj,or_false] at hu;rcases hu with rfl|rfl|rfl|rfl|rfl<;>rfl) kb rfl) rfl ?_
 rintro _ wk ⟨hT,kb⟩;replace hB:=hB.own hT (λq hq=>.inr (by simp at hq;subst hq;exact gb));clear hT;refine D ?_;exact QT (bn,z6,z7) ⟨kb,gb,hB⟩;refine JK rfl trivial Z2 (λ_ _ h=>h.choose_spec.2.2.2) rfl ?_;rintro _ wk ⟨bn,rfl,ii,kb,hT⟩;have gb:w13.heap.size<=bn:=by have:=hB.size;omega
 replace k3:=k3.up hT;replace hB:=hB.trans hT;clear hT;refine D ?_;refine Za rfl trivial (Z4 rfl (Zd rfl rfl) (Zp a6 18 _ (by decide) h6)) (λ_ _ h=>h.2) rfl ?_;rintro _ wk ⟨rfl,hT⟩;replace k3:=k3.up hT;replace hB:=hB.trans hT;replace kb:=kb.up hT;clear hT;have r6:=Zo (if a6<0 then -(a6+1) else a6) 18 (by decide);generalize (if a6<0 then -(a6+1) else a6) % 18=z6 at r6 ⊢;refine D ?_;refine Za rfl trivial (Z4 rfl (Zd rfl rfl) (Zp a7 3 _ (by decide) h7)) (λ_ _ h=>h.2) rfl ?_;rintro _ wk ⟨rfl,hT⟩;replace k3:=k3.up hT;replace hB:=hB.trans hT;replace kb:=kb.up hT;clear hT;have r7:=Zo (if a7<0 then -(a7+1) else a7) 3 (by decide);generalize (if a7<0 then -(a7+1) else a7) % 3=z7 at r7 ⊢;refine D ?_;refine ZS rfl trivial (λw'=>JC (vs:=[(0,.I z6),(1,.I z7),(3,.I 739616)]) rfl (Zbs _ _)) rfl ?_;refine D ?_;refine ZO rfl trivial (Zj (us:=atC ⟨z6,z7,0,739616,[]⟩ (.N)) rfl rfl rfl rfl (λu hu=>by
  simp only [Xb,Xj,or_false] at hu;rcases hu with rfl|rfl|rfl|rfl|rfl<;>rfl) kb rfl) rfl ?_
 rintro _ wk ⟨hT,kb⟩;replace hB:=hB.own hT (λq hq=>.inr (by simp at hq;subst hq;exact gb));clear hT;refine D ?_;exact QT (bn,z6,z7) ⟨kb,gb,hB⟩;rintro ⟨b11,en,pa⟩ w14 ⟨e11,lh,hT⟩;dsimp only at e11 lh ⊢;clear e3;have l11:=e11.lt;repeat'(first|refine W1 ?_|omega|refine VG ?_ ?_<;>intro hg|refine VC ?_ ?_<;>intro hc)
 refine Z7 rfl Zlf rfl ?_;refine Z0 (Z1 (vs:=[(0,aG (⟨0,1,739616,739619⟩:Rtn))]) rfl (Zhj ⟨0,1,739616,739619⟩)) rfl ?_;rintro o w15 hN;have pL:SlV [b11] w15 o [(⟨0,1,739616,739619⟩:Rtn)]:=hN.slv (by simpa using l11) rfl rfl (by simp [maxLen]);have ar:=Z9.stp hN;obtain ⟨bo,rfl,yO,-,-⟩:=hN;replace hT:=hT.trans ar;replace e11:=e11.up ar;clear ar;repeat'(first|refine W1 ?_|omega|refine VG ?_ ?_<;>intro hg|refine VC ?_ ?_<;>intro hc)
 refine Z6 (Zb (u:=.slice (some ⟨bo,0,none⟩) 1 1) rfl rfl rfl rfl e11 (show (4:Nat)<5 by decide)) ?_;rintro _ w16 ⟨hU,e11⟩;replace pL:SlV [] w16 (.slice (some ⟨bo,0,none⟩) 1 1) [(⟨0,1,739616,739619⟩:Rtn)]:=pL.ext hU (by simp) (by simp);replace e11:Blk w16 b11 78 (atC ⟨en,pa,0,739616,[⟨0,1,739616,739619⟩]⟩ (.slice (some ⟨bo,0,none⟩) 1 1)):=e11;replace hT:=hT.ow hU;replace hv:=hv.up hT;replace e5:=e5.up hT;replace e6:=e6.up hT;replace e8:=e8.up hT;replace e10:=e10.up hT;replace hS:=hS.trans hT;clear hT hU;repeat'(first|refine W1 ?_|omega|refine VG ?_ ?_<;>intro hg|refine VC ?_ ?_<;>intro hc)
 refine Z0 Z2 rfl ?_;rintro _ w17 ⟨b12,rfl,fW,e12,T⟩;refine SB (us:=Jl c R) hv.cell e12 ?_;rintro _ w18 ⟨hU,e12⟩;replace T:=T.ow hU;clear hU;repeat'(first|refine W1 ?_|omega|refine VG ?_ ?_<;>intro hg|refine VC ?_ ?_<;>intro hc)
 have f5:=e5.up T;have fy:=e6.up T;have l5:=f5.lt;have ly:=fy.lt;have l12:=e12.lt;have eH:=hv.ff.ext (X':=[b12]) T (by simp) (λb hb=>.inr (by simp only [Xi] at hb;subst hb;exact fW));refine Go.EngB.WC_drawn 9 (w18.heap.size,[]) [8] [(1,0),(2,1),(4,1),(0,8),(3,8),(5,2),(6,2),(7,0),(8,2)] rfl mixed (by kernel_rfl) (by kernel_rfl) (by kernel_rfl) (λy1 hW=>?_);refine ZS rfl trivial (λw'=>ZW rfl) rfl ?_;refine Go.EngB.WD_read rfl trivial (λw' aN=>J1 rfl rfl (aN.blk (f5.up hW) l5) rfl) rfl ?_;refine Go.EngB.WD_read rfl trivial (λw' aN=>ZC rfl rfl (aN.blk (fy.up hW) ly) rfl) rfl ?_;refine Go.EngB.WD_app2 (α:=Fct) (T:=45) (t:=24) (y:=g) (cs:=Z3.enc g) hW eH (λ_ _ _ _=>rfl) (Xh (Xo _ (show c.fcts.length+1<=20 by omega)) (by decide)) (by simp only [maxLen];omega) (hX:=by simpa using l12) (k:=λfv2 wg ab eq=>?_);refine ZS rfl trivial (λw'=>ZW rfl) rfl ?_;obtain ⟨p2,k2,rfl,-⟩:=id (Row.slv ab (by simpa using l12));refine ZO rfl trivial (Zb (u:=.slice p2 (c.fcts++[g]).length k2) rfl rfl rfl rfl (e12.up eq) (show (0:Nat)<19 by decide)) rfl ?_;rintro _ w19 ⟨hU,k12⟩;refine Z55 ?_;have fA:SlV [b12] w19 (.slice p2 (c.fcts++[g]).length k2) (c.fcts++[g]):=Row.slv (X:=[b12]) (ab.ext (X':=[b12]) hU (λb hb=>by simp only [Xi] at hb;subst hb;exact ⟨by simp,λh=>by have:=(ab.ob_le _ h).1;omega⟩) (λb hb=>.inl hb)) (by simpa using l12);replace e12:Blk w19 b12 37 (Jl { c with fcts:=c.fcts++[g] } { R with fv:=.slice p2 (c.fcts++[g]).length k2 }):=k12;replace T:=(T.trans eq).ow hU;generalize hq1:(.slice p2 (c.fcts++[g]).length k2:Value)=q1 at *;clear hW eq hU ab k12 eH f5 fy l5 ly l12 hq1;repeat'(first|refine W1 ?_|omega|refine VG ?_ ?_<;>intro hg|refine VC ?_ ?_<;>intro hc)
 have f5:=e5.up T;have fy:=e8.up T;have l5:=f5.lt;have ly:=fy.lt;have l12:=e12.lt;have eH:=hv.cal.clos.ext (X':=[b12]) T (by simp) (λb hb=>.inr (by simp only [Xi] at hb;subst hb;exact fW));refine Go.EngB.WC_drawn 11 (w19.heap.size,[]) [10] [(1,0),(2,0),(3,1),(5,1),(0,9),(4,9),(6,2),(7,2),(8,0),(9,0),(10,2)] rfl mixed (by kernel_rfl) (by kernel_rfl) (by kernel_rfl) (λy1 hW=>?_);refine ZS rfl trivial (λw'=>ZW rfl) rfl ?_;refine ZS rfl trivial (λw'=>ZW rfl) rfl ?_;refine Go.EngB.WD_read rfl trivial (λw' aN=>J1 rfl rfl (aN.blk (f5.up hW) l5) rfl) rfl ?_;refine Go.EngB.WD_read rfl trivial (λw' aN=>ZC rfl rfl (aN.blk (fy.up hW) ly) rfl) rfl ?_;refine Go.EngB.WD_app2 (α:=Clo) (T:=73) (t:=30) (y:=x) (cs:=Z3.enc x) hW eH (λ_ _ _ _=>rfl) (Xh (Xo _ (show c.cal.clos.length+1<=20 by omega)) (by decide)) (by simp only [maxLen];omega) (hX:=by simpa using l12) (k:=λfv2 wg ab eq=>?_);refine ZS rfl trivial (λw'=>ZW rfl) rfl ?_;refine ZS rfl trivial (λw'=>ZW rfl) rfl ?_;obtain ⟨p2,k2,rfl,-⟩:=id (Row.slv ab (by simpa using l12));refine ZO rfl trivial (Zb (u:=.slice p2 (c.cal.clos++[x]).length k2) rfl rfl rfl rfl (e12.up eq) (show (13:Nat)<19 by decide)) rfl ?_;rintro _ w20 ⟨hU,k12⟩;refine Z55 ?_;have ie:SlV [b12] w20 (.slice p2 (c.cal.clos++[x]).length k2) (c.cal.clos++[x]):=Row.slv (X:=[b12]) (ab.ext (X':=[b12]) hU (λb hb=>by simp only [Xi] at hb;subst hb;exact ⟨by simp,λh=>by have:=(ab.ob_le _ h).1;omega⟩) (λb hb=>.inl hb)) (by simpa using l12);replace e12:Blk w20 b12 37 (Jl { c with fcts:=c.fcts++[g],cal:={ c.cal with clos:=c.cal.clos++[x] } } { R with fv:=q1,lv:=.slice p2 (c.cal.clos++[x]).length k2 }):=k12;replace T:=(T.trans eq).ow hU;replace fA:=fA.ext (eq.mn.trans hU) (by simp) (λb hb=>.inl hb);generalize hq2:(.slice p2 (c.cal.clos++[x]).length k2:Value)=q2 at *;clear hW eq hU ab k12 eH f5 fy l5 ly l12 hq2;repeat'(first|refine W1 ?_|omega|refine VG ?_ ?_<;>intro hg|refine VC ?_ ?_<;>intro hc)
 have f5:=e5.up T;have fy:=e10.up T;have l5:=f5.lt;have ly:=fy.lt;have l12:=e12.lt;have eH:=hv.ss.ext (X':=[b12]) T (by simp) (λb hb=>.inr (by simp only [Xi] at hb;subst hb;exact fW));refine Go.EngB.WC_drawn 9 (w20.heap.size,[]) [8] [(1,0),(2,1),(4,1),(0,8),(3,8),(5,2),(6,2),(7,0),(8,2)] rfl mixed (by kernel_rfl) (by kernel_rfl) (by kernel_rfl) (λy1 hW=>?_);refine ZS rfl trivial (λw'=>ZW rfl) rfl ?_;refine Go.EngB.WD_read rfl trivial (λw' aN=>J1 rfl rfl (aN.blk (f5.up hW) l5) rfl) rfl ?_;refine Go.EngB.WD_read rfl trivial (λw' aN=>ZC rfl rfl (aN.blk (fy.up hW) ly) rfl) rfl ?_;refine Go.EngB.WD_app2 (α:=Spn) (T:=75) (t:=27) (y:=t) (cs:=Z3.enc t) hW eH (λ_ _ _ _=>rfl) (Xh (Xo _ (show c.stys.length+1<=20 by omega)) (by decide)) (by simp only [maxLen];omega) (hX:=by simpa using l12) (k:=λfv2 wg ab eq=>?_);refine ZS rfl trivial (λw'=>ZW rfl) rfl ?_;obtain ⟨p2,k2,rfl,-⟩:=id (Row.slv ab (by simpa using l12));refine ZO rfl trivial (Zb (u:=.slice p2 (c.stys++[t]).length k2) rfl rfl rfl rfl (e12.up eq) (show (4:Nat)<19 by decide)) rfl ?_;rintro _ w21 ⟨hU,k12⟩;refine Z55 ?_;have jT:SlV [b12] w21 (.slice p2 (c.stys++[t]).length k2) (c.stys++[t]):=Row.slv (X:=[b12]) (ab.ext (X':=[b12]) hU (λb hb=>by simp only [Xi] at hb;subst hb;exact ⟨by simp,λh=>by have:=(ab.ob_le _ h).1;omega⟩) (λb hb=>.inl hb)) (by simpa using l12);replace e12:Blk w21 b12 37 (Jl { c with fcts:=c.fcts++[g],cal:={ c.cal with clos:=c.cal.clos++[x] },stys:=c.stys++[t] } { R with fv:=q1,lv:=q2,sv:=.slice p2 (c.stys++[t]).length k2 }):=k12;replace T:=(T.trans eq).ow hU;replace fA:=fA.ext (eq.mn.trans hU) (by simp) (λb hb=>.inl hb);replace ie:=ie.ext (eq.mn.trans hU) (by simp) (λb hb=>.inl hb);generalize oX:(.slice p2 (c.stys++[t]).length k2:Value)=q3 at *;clear hW eq hU ab k12 eH f5 fy l5 ly l12 oX;repeat'(first|refine W1 ?_|omega|refine VG ?_ ?_<;>intro hg|refine VC ?_ ?_<;>intro hc)
 have oD:=pL.ext (X':=[b12]) T (by simp) (λb hb=>.inr (by simp only [Xi] at hb;subst hb;exact fW));have f5:=e5.up T;have fy:=e11.up T;have l5:=f5.lt;have ly:=fy.lt;have l12:=e12.lt;have eH:=hv.aa.ext (X':=[b12]) T (by simp) (λb hb=>.inr (by simp only [Xi] at hb;subst hb;exact fW));refine Go.EngB.WC_drawn 9 (w21.heap.size,[]) [8] [(1,0),(2,1),(4,1),(0,8),(3,8),(5,2),(6,2),(7,0),(8,2)] rfl mixed (by kernel_rfl) (by kernel_rfl) (by kernel_rfl) (λy1 hW=>?_);refine ZS rfl trivial (λw'=>ZW rfl) rfl ?_;refine Go.EngB.WD_read rfl trivial (λw' aN=>J1 rfl rfl (aN.blk (f5.up hW) l5) rfl) rfl ?_;refine Go.EngB.WD_read rfl trivial (λw' aN=>ZC rfl rfl (aN.blk (fy.up hW) ly) rfl) rfl ?_;refine Go.EngB.WD_app2 (α:=Atp) (T:=78) (t:=25) (y:=(⟨en,pa,0,739616,[⟨0,1,739616,739619⟩]⟩:Atp)) (cs:=atC (⟨en,pa,0,739616,[⟨0,1,739616,739619⟩]⟩:Atp) (.slice (some ⟨bo,0,none⟩) 1 1)) hW eH (λX W h hX=>⟨_,rfl,oD.ext h (by simp) hX⟩) (Xh (Xo _ (show c.atts.length+1<=20 by omega)) (by decide)) (by simp only [maxLen];omega) (hX:=by simpa using l12) (k:=λfv2 wg ab eq=>?_);refine ZS rfl trivial (λw'=>ZW rfl) rfl ?_;obtain ⟨p2,k2,rfl,-⟩:=id (Row.slv ab (by simpa using l12));refine ZO rfl trivial (Zb (u:=.slice p2 (c.atts++[(⟨en,pa,0,739616,[⟨0,1,739616,739619⟩]⟩:Atp)]).length k2) rfl rfl rfl rfl (e12.up eq) (show (2:Nat)<19 by decide)) rfl ?_;rintro _ w22 ⟨hU,k12⟩;refine Z55 ?_;have oE:SlV [b12] w22 (.slice p2 (c.atts++[(⟨en,pa,0,739616,[⟨0,1,739616,739619⟩]⟩:Atp)]).length k2) (c.atts++[(⟨en,pa,0,739616,[⟨0,1,739616,739619⟩]⟩:Atp)]):=Row.slv (X:=[b12]) (ab.ext (X':=[b12]) hU (λb hb=>by simp only [Xi] at hb;subst hb;exact ⟨by simp,λh=>by have:=(ab.ob_le _ h).1;omega⟩) (λb hb=>.inl hb)) (by simpa using l12);replace e12:Blk w22 b12 37 (Jl (Z6Q c g x t (⟨en,pa,0,739616,[⟨0,1,739616,739619⟩]⟩:Atp)) { R with fv:=q1,lv:=q2,sv:=q3,av:=.slice p2 (c.atts++[(⟨en,pa,0,739616,[⟨0,1,739616,739619⟩]⟩:Atp)]).length k2 }):=k12;replace T:=(T.trans eq).ow hU;replace fA:=fA.ext (eq.mn.trans hU) (by simp) (λb hb=>.inl hb);replace ie:=ie.ext (eq.mn.trans hU) (by simp) (λb hb=>.inl hb);replace jT:=jT.ext (eq.mn.trans hU) (by simp) (λb hb=>.inl hb);generalize mc:(.slice p2 (c.atts++[(⟨en,pa,0,739616,[⟨0,1,739616,739619⟩]⟩:Atp)]).length k2:Value)=q4 at *;clear hW eq hU ab k12 eH f5 fy l5 ly l12 mc;repeat'(first|refine W1 ?_|omega|refine VG ?_ ?_<;>intro hg|refine VC ?_ ?_<;>intro hc)
 have jg:=hv.up T;have oF:Z2k w22 (Z6Q c g x t (⟨en,pa,0,739616,[⟨0,1,739616,739619⟩]⟩:Atp)) { R with fv:=q1,lv:=q2,sv:=q3,av:=q4 }:=⟨fA.wk (by simp),jg.rr,oE.wk (by simp),jg.cc,jT.wk (by simp),⟨jg.cal.hols,ie.wk (by simp),jg.cal.len,jg.cal.mov,⟨jg.cal.ok.week,jg.cal.ok.hols,jg.cal.ok.few⟩⟩,jg.one⟩
 have uD:Z64 (Z6Q c g x t (⟨en,pa,0,739616,[⟨0,1,739616,739619⟩]⟩:Atp)):=by
  have h3:=bh.ok;refine ⟨?_,h3.rl,h3.cnd,h3.due,⟨?_,?_,?_,?_⟩,h3.ext,⟨?_,?_⟩,h3.court,h3.today⟩;show (c.fcts++[g]).length<=100000;simp only [Xc,Xe,Xg];omega;show (c.atts++[(⟨en,pa,0,739616,[⟨0,1,739616,739619⟩]⟩:Atp)]).length<=65536;simp only [Xc,Xe,Xg];omega;intro q hq;rcases Xf.1 hq with hq|hq
  exact h3.att.ret q hq;obtain rfl:=Xi.1 hq;refine ⟨show 1<=32 by decide,λr hr=>?_,?_,λr hr=>?_⟩;obtain rfl:=Xi.1 hr;exact ⟨by decide,by show (0:Int)<c.crrs.length;omega⟩;exact sO;obtain rfl:=Xi.1 hr;decide;intro q hq;rcases Xf.1 hq with hq|hq
  exact h3.att.crr q hq;obtain rfl:=Xi.1 hq;exact ⟨show (0:Int)<=0 by decide,by show (0:Int)<c.crrs.length;omega⟩;intro q hq;rcases Xf.1 hq with hq|hq
  exact h3.att.sent q hq;obtain rfl:=Xi.1 hq;exact show (0:Int)<=739616/\(739616:Int)<=3652058 by decide
  show (c.stys++[t]).length<=1000;simp only [Xc,Xe,Xg];omega;intro q hq;rcases Xf.1 hq with hq|hq
  exact h3.sty.rng q hq;obtain rfl:=Xi.1 hq;exact mj
 replace hv:=hv.up T;replace e5:=e5.up T;replace e6:=e6.up T;replace e8:=e8.up T;replace e10:=e10.up T;replace e11:=e11.up T;replace hS:=hS.trans T;clear T fA ie jT oE jg pL oD;have aF:∀ d∈Z1t c,∀ r:Nat,Z7i c d=((r:Int),true)->¬ (t.2 > d.trig.day/\t.1<=d.due)->¬ (en=d.trig.entry/\pa=d.party)->g.kind≠(c.ruls.getD r crZ).unl->(x.known<=c.today->∀ q∈d.reas,Zle c x q)->Z0F (Z6Q c g x t (⟨en,pa,0,739616,[⟨0,1,739616,739619⟩]⟩:Atp)) d.trig r=(d,true):=λd hd r hr g1 g2 g3 g4=>Zon bh hd hr mj.2.1 g1 g2 g3 g4;generalize Z6Q c g x t (⟨en,pa,0,739616,[⟨0,1,739616,739619⟩]⟩:Atp)=C at oF uD aF e12;generalize ({ R with fv:=q1,lv:=q2,sv:=q3,av:=q4 }:Z0X)=Q at oF e12;repeat'(first|refine W1 ?_|omega|refine VG ?_ ?_<;>intro hg|refine VC ?_ ?_<;>intro hc)
 refine CL (Z53 c R _ hv bh) ?_;rintro dv w23 ⟨fb,hT⟩;have hd:SlV [] w23 dv (Z1t c):=Row.slv (X:=[]) fb (by simp);replace hv:=hv.up hT;replace oF:=oF.up hT;replace e5:=e5.up hT;replace e6:=e6.up hT;replace e8:=e8.up hT;replace e10:=e10.up hT;replace e11:=e11.up hT;replace e12:=e12.up hT;replace e11:Blk w23 b11 78 [.I en,.I pa,.I 0,.I 739616,.slice (some ⟨bo,0,none⟩) 1 1]:=e11;replace hS:=hS.trans hT;clear hT fb;have hR:=λd (hd:d∈Z1t c)=>Zh7 hd;have hK:=λd (hd:d∈Z1t c)=>Zld bh hd;generalize Z1t c=D at *;have uB:=hd.max;refine W ?_;refine LP (σ:=Nat) (λi=>[(5,pQ b5),(6,pQ b6),(8,pQ b8),(10,pQ b10),(11,pQ b11),(12,pQ b12),(13,dv),(14,.I (i:Int))]) (λi W=>i<=D.length/\Stp [] w23 W) (λi=>D.length - i) 0 ⟨Xq _,Stp.refl _ _⟩ ?_;rintro i y ⟨hi,hY⟩;have kU:=hd.up hY;have ic:=hv.up hY;have f5:=e5.up hY;have f6:=e6.up hY;have f8:=e8.up hY;have f10:=e10.up hY;have f11:=e11.up hY;have f12:=e12.up hY;have jh:=oF.up hY;by_cases hlt:i<D.length
 . obtain ⟨r,hr,uE⟩:=hR _ (Xd hlt)
   obtain ⟨csa,⟨ra,rfl,dI⟩,iQ⟩:=kU.cell hlt;repeat'(first|refine W1 ?_|omega|refine VG ?_ ?_<;>intro hg|refine VC ?_ ?_<;>intro hc)
   refine Z8 (Z25 rfl rfl kU hlt ⟨ra,rfl,dI⟩ iQ) rfl ?_;refine Z0 Z2 rfl ?_;rintro _ wa ⟨b15,rfl,rG,e15,hT⟩;refine Z6 (Zj (us:=dlC D[i] ra) rfl rfl rfl rfl (λu hu=>by
    simp only [Xb,Xj,or_false] at hu;rcases hu with rfl|rfl|rfl|rfl|rfl|rfl|rfl|rfl|rfl|rfl|rfl
    all_goals first|rfl|exact dI.one) e15 rfl) ?_
   rintro _ wb ⟨hU,e15⟩;replace hT:=hT.ow hU;replace f5:=f5.up hT;replace f6:=f6.up hT;replace f8:=f8.up hT;replace f10:=f10.up hT;replace f11:=f11.up hT;replace f12:=f12.up hT;replace ic:=ic.up hT;replace jh:=jh.up hT;replace dI:=dI.up hT;replace hY:=hY.trans hT;clear hT hU iQ kU;repeat'(first|refine W1 ?_|omega|refine VG ?_ ?_<;>intro hg|refine VC ?_ ?_<;>intro hc)
   refine CP hY (Zhi c R D[i] ra _ ic.rr dI) λwc hT hY=>?_;replace f5:=f5.up hT;replace f6:=f6.up hT;replace f8:=f8.up hT;replace f10:=f10.up hT;replace f11:=f11.up hT;replace f12:=f12.up hT;replace ic:=ic.up hT;replace jh:=jh.up hT;replace dI:=dI.up hT;replace e15:=e15.up hT;clear hT;rw [uE];have eE:=ic.rr;have yP:=eE.max;have hq:c.ruls.getD r crZ=c.ruls[r]:=by simp [hr]
   have aW:=aF _ (Xd hlt) r uE;rw [hq] at aW;obtain ⟨csr,⟨kc,kd,rfl,-,-⟩,an⟩:=eE.cell hr;have lN:wc.cell? (ZD R.rv r 7 5)=some (str c.ruls[r].unl):=an 5 _ rfl;clear an;refine W ?_;refine WL_cutQ (σ:=Bool) (λq=>[(5,pQ b5),(6,pQ b6),(8,pQ b8),(10,pQ b10),(11,pQ b11),(12,pQ b12),(13,dv),(14,.I (i:Int)),(15,pQ b15),(16,.I (r:Int)),(18,.B q)]) (λq Y=>q=decide (t.2 > D[i].trig.day/\t.1<=D[i].due)/\Y=wc) ?_ ?_
   . repeat'(first|refine W1 ?_|omega|refine VG ?_ ?_<;>intro hg|refine VC ?_ ?_<;>intro hc)
     all_goals first
      | exact QT false ⟨(decide_eq_false (by omega)).symm,rfl⟩
      | exact Zy (decide (t.1<=D[i].due)) ⟨rfl,rfl,rfl,rfl,rfl,rfl,rfl,rfl,rfl,rfl,rfl,trivial⟩ ⟨decide_eq_decide.2 (by omega),rfl⟩
   rintro q1 Y1 ⟨hq1,rfl⟩;refine W ?_;refine WL_cutQ (σ:=Bool) (λq=>[(5,pQ b5),(6,pQ b6),(8,pQ b8),(10,pQ b10),(11,pQ b11),(12,pQ b12),(13,dv),(14,.I (i:Int)),(15,pQ b15),(16,.I (r:Int)),(18,.B q1),(19,.B q)]) (λq Y=>q=decide (en=D[i].trig.entry/\pa=D[i].party)/\Y=Y1) ?_ ?_
   . repeat'(first|refine W1 ?_|omega|refine VG ?_ ?_<;>intro hg|refine VC ?_ ?_<;>intro hc)
     all_goals first
      | exact QT false ⟨(decide_eq_false (by omega)).symm,rfl⟩
      | exact Zy (decide (pa=D[i].party)) ⟨rfl,rfl,rfl,rfl,rfl,rfl,rfl,rfl,rfl,rfl,rfl,rfl,trivial⟩ ⟨decide_eq_decide.2 (by omega),rfl⟩
   rintro q2 Y2 ⟨hq2,rfl⟩;refine W ?_;refine ZDr 21 [] [] [(0,0),(1,0),(2,0),(3,0),(4,0),(5,0),(6,1),(7,0),(8,1),(9,0),(10,0),(11,0),(12,1),(13,0),(14,0),(15,0),(16,1),(17,1),(18,1),(19,2),(20,0)] (λw1 ae=>?_);replace f5:=f5.up ae;replace f6:=f6.up ae;replace f8:=f8.up ae;replace f10:=f10.up ae;replace f11:=f11.up ae;replace f12:=f12.up ae;replace ic:=ic.up ae;replace jh:=jh.up ae;replace dI:=dI.up ae;replace e15:=e15.up ae;have lN:=ae.cell0 lN;have eE:=ic.rr;replace hY:=hY.trans ae;clear ae;cases q1 with
   | true=>
     repeat'(first|refine D1 ?_|omega|refine Zk rfl rfl rfl rfl (λhg=>?_) (λhg=>?_)|(refine Zh rfl rfl rfl rfl (λhg=>?_) (λhg=>?_)<;>refine D1 ?_)|fail)
     repeat'(first|refine W1 ?_|omega|refine VG ?_ ?_<;>intro hg|refine VC ?_ ?_<;>intro hc)
     exact QL (i+1) ⟨hlt,hY⟩ (XA hlt (XE i))
   | false=>
   cases q2 with
   | true=>
     repeat'(first|refine D1 ?_|omega|refine Zk rfl rfl rfl rfl (λhg=>?_) (λhg=>?_)|(refine Zh rfl rfl rfl rfl (λhg=>?_) (λhg=>?_)<;>refine D1 ?_)|fail)
     repeat'(first|refine W1 ?_|omega|refine VG ?_ ?_<;>intro hg|refine VC ?_ ?_<;>intro hc)
     exact QL (i+1) ⟨hlt,hY⟩ (XA hlt (XE i))
   | false=>
   repeat'(first|refine D1 ?_|omega|refine JS rfl (by first|exact trivial|exact rfl) rfl rfl (by assumption) rfl ?_|refine Zk rfl rfl rfl rfl (λhg=>?_) (λhg=>?_)|(refine Zh rfl rfl rfl rfl (λhg=>?_) (λhg=>?_)<;>refine D1 ?_)|fail)
   all_goals first|(refine W ?_;exact QL (i+1) ⟨hlt,hY⟩ (XA hlt (XE i)))|skip
   have jn:g.kind≠c.ruls[r].unl:=by assumption
   refine DC (Zdl c R D[i] ra x _ ic dI rf) (λ_ _ h=>h.choose_spec.2.2) ?_;rintro _ wd ⟨b,rfl,hb,hT⟩;replace f5:=f5.up hT;replace f6:=f6.up hT;replace f8:=f8.up hT;replace f10:=f10.up hT;replace f11:=f11.up hT;replace f12:=f12.up hT;replace jh:=jh.up hT;replace dI:=dI.up hT;replace e15:=e15.up hT;replace hY:=hY.trans hT;clear hT ic eE lN;cases b with
   | true=>
     repeat'(first|refine D1 ?_|omega|refine Zk rfl rfl rfl rfl (λhg=>?_) (λhg=>?_)|(refine Zh rfl rfl rfl rfl (λhg=>?_) (λhg=>?_)<;>refine D1 ?_)|fail)
     repeat'(first|refine W1 ?_|omega|refine VG ?_ ?_<;>intro hg|refine VC ?_ ?_<;>intro hc)
     exact QL (i+1) ⟨hlt,hY⟩ (XA hlt (XE i))
   | false=>
   replace aW:=aW (of_decide_eq_false hq1.symm) (of_decide_eq_false hq2.symm) jn (hb rfl);repeat'(first|refine D1 ?_|omega|refine Zk rfl rfl rfl rfl (λhg=>?_) (λhg=>?_)|(refine Zh rfl rfl rfl rfl (λhg=>?_) (λhg=>?_)<;>refine D1 ?_)|fail)
   repeat'(first|refine W1 ?_|omega|refine VG ?_ ?_<;>intro hg|refine VC ?_ ?_<;>intro hc)
   refine Z8 (Zl (us:=Z3.enc D[i].trig) rfl rfl e15 rfl rfl) rfl ?_;repeat'(first|refine W1 ?_|omega|refine VG ?_ ?_<;>intro hg|refine VC ?_ ?_<;>intro hc)
   refine CM (ZN rfl rfl rfl) (Zfn C Q D[i].trig (r:Int) _ jh uD (hK _ (Xd hlt)) (by unfold I64;omega)) ?_;rintro _ wi ⟨rv,rfl,bD⟩;rw [aW] at bD ⊢;dsimp only at bD ⊢;have hT:=bD.2;replace dI:=dI.up hT;replace e15:=e15.up hT;replace hY:=hY.trans hT;have lO:SlV [] wi rv D[i].reas:=bD.slv (by simp);clear hT bD jh f5 f6 f8 f10 f11 f12;repeat'(first|refine W1 ?_|omega|refine VG ?_ ?_<;>intro hg|refine VC ?_ ?_<;>intro hc)
   refine Z0 Z2 rfl ?_;rintro _ wj ⟨b20,rfl,xK,e20,hT⟩;refine Z6 (Zj (us:=dlC D[i] rv) rfl rfl rfl rfl (λu hu=>by
    simp only [Xb,Xj,or_false] at hu;rcases hu with rfl|rfl|rfl|rfl|rfl|rfl|rfl|rfl|rfl|rfl|rfl
    all_goals first|rfl|exact lO.one) e20 rfl) ?_
   rintro _ wk ⟨hU,e20⟩;replace hT:=hT.ow hU;replace dI:=dI.up hT;replace e15:=e15.up hT;replace lO:=lO.up hT;replace hY:=hY.trans hT;clear hT hU;repeat'(first|refine W1 ?_|omega|refine VG ?_ ?_<;>intro hg|refine VC ?_ ?_<;>intro hc)
   refine CP hY (Z7j D[i] ra rv _ dI lO) λwt hT hY=>?_;repeat'(first|refine W1 ?_|omega|refine VG ?_ ?_<;>intro hg|refine VC ?_ ?_<;>intro hc)
   exact QL (i+1) ⟨hlt,hY⟩ (XA hlt (XE i))
 replace hS:=hS.trans hY;focus repeat'(first|refine W1 ?_|omega|refine VG ?_ ?_<;>intro hg|refine VC ?_ ?_<;>intro hc)
 refine CP hS (Z7m er m _ (hF.up hS) (cS.up hS) (jf.up hS) (hS.cell (by simp) eC) (hS.cell (by simp) eF) bF) λy2 _ hS=>?_
 focus repeat'(first|refine W1 ?_|omega|refine VG ?_ ?_<;>intro hg|refine VC ?_ ?_<;>intro hc)
 refine RU ?_;exact ⟨rfl,hS⟩
theorem Zhk (z:Int) (w) (hz:I64 z):CC 12 #[.I z] w λr w'=>(∃ s:Str,r=str s)/\Stp [] w w':=by
 refine cW1 7 Tryz.func12 ?_;refine W ?_;refine CM (Zd rfl rfl) (Zp z 4 _ (by decide) hz) ?_;rintro _ w1 ⟨rfl,hS⟩;have hr:=Zo (if z<0 then -(z+1) else z) 4 (by decide);generalize (if z<0 then -(z+1) else z) % 4=y at hr ⊢;refine CM (ZR rfl) (Z4X y _ (by omega) (by omega)) ?_;rintro _ w2 ⟨rfl,hT⟩;have:y=0\/y=1\/y=2\/y=3:=by omega
 have hm:(Lib.itoa y).length<=10:=by
  rcases this with rfl|rfl|rfl|rfl<;>(unfold Lib.itoa;rw [if_neg (by omega),Lib.decDigits,dif_pos (by decide)];decide)
 refine Z30 rfl rfl (by simp;omega) rfl ?_;refine RT ?_;exact ⟨⟨_,rfl⟩,hS.trans hT⟩
theorem Ztx (rv lv:Value) (rs:List Cr) (l:List Int) (nm:Str) (day:Int) (er:Value) (m:Int) (w) (lO:SlV [] w rv rs) (hs:SlV [] w lv l) (hl:∀ a∈l,I64 a) (hd:I64 day) (hF:SlV [] w Z2e Ze) (cS:Z0x w) (jf:Z3g w) (eC:w.cell? ⟨2,0,none⟩=some (.I m)) (eF:w.cell? ⟨8,0,none⟩=some er) (bF:er=.nilIface\/∃ te pe,er=.iface te pe) :
 CC 3 #[rv,lv,str nm,.I day] w λr w'=>r=.B true/\Stp [] w w':=by
 refine cW4 46 Tryz.func3 ?_;refine W ?_;refine CL (Z8U lv l w hs hl cS jf) ?_;rintro _ w1 ⟨c,R,rfl,hv,ay,hS⟩;refine W ?_;refine Z0 Z2 rfl ?_;rintro _ w2 ⟨b9,rfl,iI,e9,hT⟩;refine SB (us:=Jl c R) hv.cell e9 ?_;rintro _ w3 ⟨hU,e9⟩;replace hT:=hT.ow hU;replace hv:=hv.up hT;replace hS:=hS.trans hT;clear hT hU ay;repeat'(first|refine W1 ?_|omega|refine VG ?_ ?_<;>intro hg|refine VC ?_ ?_<;>intro hc)
 refine CP hS (Zp day 40 _ (by decide) hd) λw4 hT hS=>?_
 have r1:=Zo (if day<0 then -(day+1) else day) 40 (by decide);generalize (if day<0 then -(day+1) else day) % 40=z1 at r1 ⊢;replace hv:=hv.up hT;replace e9:=e9.up hT;clear hT;repeat'(first|refine W1 ?_|omega|refine VG ?_ ?_<;>intro hg|refine VC ?_ ?_<;>intro hc)
 refine CL (Zhk day _ hd) ?_;rintro _ w5 ⟨⟨s,rfl⟩,hT⟩;replace hv:=hv.up hT;replace e9:=e9.up hT;replace hS:=hS.trans hT;clear hT;repeat'(first|refine W1 ?_|omega|refine VG ?_ ?_<;>intro hg|refine VC ?_ ?_<;>intro hc)
 refine CP hS (Z42 rv rs nm day _ (lO.up hS)) λw6 hT hS=>?_;replace hv:=hv.up hT;replace e9:=e9.up hT;clear hT;repeat'(first|refine W1 ?_|omega|refine VG ?_ ?_<;>intro hg|refine VC ?_ ?_<;>intro hc)
 refine CP hS (Z5R rv rs nm day _ (lO.up hS)) λw7 hT hS=>?_;generalize ZaU rs nm day=A;replace hv:=hv.up hT;replace e9:=e9.up hT;clear hT;repeat'(first|refine W1 ?_|omega|refine VG ?_ ?_<;>intro hg|refine VC ?_ ?_<;>intro hc)
 refine ZDr 18 [] [] [(0,0),(1,0),(2,0),(3,1),(4,0),(5,0),(7,0),(8,1),(9,0),(10,0),(6,2),(11,2),(12,0),(13,0),(14,0),(15,2),(16,0),(17,0)] (λw1 ae=>?_);replace hv:=hv.up ae;replace e9:=e9.up ae;replace hS:=hS.trans ae;clear ae;repeat'(first|refine D1 ?_|omega|refine Zk rfl rfl rfl rfl (λhg=>?_) (λhg=>?_)|(refine Zh rfl rfl rfl rfl (λhg=>?_) (λhg=>?_)<;>refine D1 ?_)|fail)
 refine DP hS (Z42 R.rv c.ruls s (739601+z1) _ hv.rr) (λw8 hT hS=>?_) rfl rfl;replace hv:=hv.up hT;clear hT;repeat'(first|refine D1 ?_|omega|refine Zk rfl rfl rfl rfl (λhg=>?_) (λhg=>?_)|(refine Zh rfl rfl rfl rfl (λhg=>?_) (λhg=>?_)<;>refine D1 ?_)|fail)
 refine DP hS (Z5R R.rv c.ruls s (739601+z1) _ hv.rr) (λw9 hT hS=>?_) rfl rfl;generalize ZaU c.ruls s (739601+z1)=B;clear hT;repeat'(first|refine D1 ?_|omega|refine Zk rfl rfl rfl rfl (λhg=>?_) (λhg=>?_)|(refine Zh rfl rfl rfl rfl (λhg=>?_) (λhg=>?_)<;>refine D1 ?_)|fail)
 refine DP hS (Z7m er m _ (hF.up hS) (cS.up hS) (jf.up hS) (hS.cell (by simp) eC) (hS.cell (by simp) eF) bF) (λy2 _ hS=>?_) rfl rfl;repeat'(first|refine D1 ?_|omega|refine Zk rfl rfl rfl rfl (λhg=>?_) (λhg=>?_)|(refine Zh rfl rfl rfl rfl (λhg=>?_) (λhg=>?_)<;>refine D1 ?_)|fail)
 repeat'(first|refine W1 ?_|omega|refine VG ?_ ?_<;>intro hg|refine VC ?_ ?_<;>intro hc)
 refine RU ?_;exact ⟨rfl,hS⟩
open Go Go.Eng Go.RowKit Go.Proofs Go.ChangeShapes Go.WideShapes Go.Deep
section
variable {H:Type} {enc:TypeId×Value->H} {w:World} {base:Nat} {spare:Nat->Bool} {bK:Bool}
theorem ZxS:Tryz.prog.cellsOf 60=1:=by kernel_rfl
theorem Zx9:Tryz.prog.cellsOf 62=7:=by kernel_rfl
theorem Zoo (fuel:Nat) (cs:List Value) (x:DataW H×List MemPlace) (h:DataW.trod enc Tryz.prog w base spare bK fuel 62 cs=some x):∃ q:Cr,Z5.rep [] w q cs:=by
 obtain ⟨xs,n,rfl,hx,ai,jH,hf⟩:=DataW.trod_struct Tryz.underlying62 h;rw [Zx9] at ai;have h0:DataW.trod enc Tryz.prog w base spare bK n 9 ((cs.drop 0).take (Tryz.prog.cellsOf 9))=xs[0]?:=hf 0 _ rfl;have h1:DataW.trod enc Tryz.prog w base spare bK n 3 ((cs.drop 1).take (Tryz.prog.cellsOf 3))=xs[1]?:=hf 1 _ rfl;have h2:DataW.trod enc Tryz.prog w base spare bK n 9 ((cs.drop 2).take (Tryz.prog.cellsOf 9))=xs[2]?:=hf 2 _ rfl;have h3:DataW.trod enc Tryz.prog w base spare bK n 60 ((cs.drop 3).take (Tryz.prog.cellsOf 60))=xs[3]?:=hf 3 _ rfl;have h4:DataW.trod enc Tryz.prog w base spare bK n 60 ((cs.drop 4).take (Tryz.prog.cellsOf 60))=xs[4]?:=hf 4 _ rfl;have h5:DataW.trod enc Tryz.prog w base spare bK n 9 ((cs.drop 5).take (Tryz.prog.cellsOf 9))=xs[5]?:=hf 5 _ rfl;have h6:DataW.trod enc Tryz.prog w base spare bK n 9 ((cs.drop 6).take (Tryz.prog.cellsOf 9))=xs[6]?:=hf 6 _ rfl;rw [k3] at h1;rw [k9] at h0 h2 h5 h6;rw [ZxS] at h3 h4
 match cs,ai,xs,jH with
 | [c0, c1, c2, c3, c4, c5, c6], _, [y0, y1, y2, y3, y4, y5, y6], _=>
   simp only [List.drop,List.take] at h0 h1 h2 h3 h4 h5 h6;obtain ⟨s0,e0,t0,-⟩:=DataW.trod_string Tryz.underlying9 h0;obtain ⟨z,e1,-,hz⟩:=DataW.trod_int Tryz.underlying3 h1;obtain ⟨s2,e2,t2,-⟩:=DataW.trod_string Tryz.underlying9 h2;obtain ⟨s5,e5,t5,-⟩:=DataW.trod_string Tryz.underlying9 h5;obtain ⟨s6,e6,t6,-⟩:=DataW.trod_string Tryz.underlying9 h6;have rd:∀ (n:Nat) (cs:List Value) (y:DataW H×List MemPlace),cs.length=Z3.k Ins->DataW.trod enc Tryz.prog w base spare bK n 171 cs=some y->∃ a:Ins,cs=Z3.enc a/\(I64 a.op/\I64 a.n):=λn cs y hl hy=>by
    obtain ⟨zs,h1,rfl,h2⟩:=Z8a (k:=2) (by kernel_rfl) hl hy
    match zs,h1 with
    | [a,b],_=>exact ⟨⟨a,b⟩,rfl,by simpa using h2⟩
   obtain ⟨u3,l3,e3,eA,nB,-⟩:=Z3T (α:=Ins) (ok:=λx=>I64 x.op/\I64 x.n) Tryz.underlying60 (by kernel_rfl) (by decide) rd h3;obtain ⟨u4,l4,e4,dM,xL,-⟩:=Z3T (α:=Ins) (ok:=λx=>I64 x.op/\I64 x.n) Tryz.underlying60 (by kernel_rfl) (by decide) rd h4;obtain rfl:=(YaU e0).1;obtain rfl:=(YaU e1).1;obtain rfl:=(YaU e2).1;obtain rfl:=(YaU e3).1;obtain rfl:=(YaU e4).1;obtain rfl:=(YaU e5).1;obtain rfl:=(YaU e6).1;exact ⟨⟨s0.data.toList,z,s2.data.toList,l3,l4,s5.data.toList,s6.data.toList⟩,⟨_,_,rfl,eA,dM⟩⟩
theorem Zxa {r:Reach} {b0:Nat} {v:Value} {d:DataW H} {p:List MemPlace} (hv:Value.okWide Tryz.prog w r b0 22 v) (h:DataW.Trod enc Tryz.prog w base spare bK 22 v d p) :
 ∃ l:List Cr,SlV [] w v l:=by
 obtain ⟨fuel,h⟩:=h;obtain ⟨u,l,hu,hs,-⟩:=ZaP (α:=Cr) Tryz.underlying22 Zx9 (by decide) (λn cs' d q _ _ m0=>Zoo n cs' (d,q) m0) h;obtain ⟨a,m,c,rfl⟩:=okWide_slice Tryz.underlying22 hv;have qO:Value.slice a m c=u:=by simpa [Value.cells] using hu
 subst qO;exact ⟨l,hs⟩
end
end Go.Proofs.YtipfkbkkndacjaaGreatDoor
namespace Go.Eng
open Go Go.RowKit Go.Proofs
def Z90 (P:Program) (w:World) (n:String) (d:DataW Unit):Prop:=∃ g t cs fuel p,P.globalNamed n=some g/\(P.globals[g]?).map (·.type)=some t/\w.var? P n=some cs/\DataW.trod (λ_=>()) P w 0 (λ_=>true) false fuel t cs.toList=some (d,p)
theorem Z4g {P:Program} {w}:∀ (l:List (String×DataW Unit)) (ps:List MemPlace),DataW.LaidVars P w l ps->∀ (n:String) (d:DataW Unit),(n,d)∈l->Z90 P w n d
 | [],_,_,n,d,h=>by simp at h
 | (n0, d0) :: r, ps, hl, n, d, h => by
   obtain ⟨g,t,cs,fuel,p,q,h1,h2,h3,h4,h5,_⟩:=hl;rcases Xb.1 h with h|h
   cases h;exact ⟨g,t,cs,fuel,p,h1,h2,h3,h4⟩;exact Z4g r q h5 n d h
theorem Zhl {P:Program} {w} {name:String} {g t e n:Nat} {k:IntKind} {zs:List Int} (h:Z90 P w name (Lib.tabData k zs)) (hg:P.globalNamed name=some g) (j7:(P.globals[g]?).map (·.type)=some t) (ht:P.underlying t=some (.array n e)) (he:P.underlying e=some (.int k)) (xM:P.cellsOf e=1) (nX:P.cellsOf t=n):Lib.TabIs P w name k zs:=by
 obtain ⟨g',t',cs,fuel,p,xN,xO,sP,hd⟩:=h;obtain rfl:=XT (hg.symm.trans xN);obtain rfl:=XT (j7.symm.trans xO);unfold Lib.TabIs;rw [sP,<- Lib.cells_of_tab ht he xM nX hd]
theorem ZeE {P:Program} {W:World} {name:String} {g t e n:Nat} {ss:List Str} (hg:P.globalNamed name=some g) (ht:(P.globals[g]?).map (·.type)=some t) (hu:P.underlying t=some (.array n e)) (he:P.underlying e=some .string) (hc:P.cellsOf e=1)
 (hn:ss.length=n) (h:Z90 P W name (.agg (ss.map (λs=>DataW.lit (.string s))))) :
 ∀ i (hi:i<ss.length),W.cell? ⟨g,i,none⟩=some (str ss[i]):=by
 obtain ⟨g0,t0,cs0,f0,p0,lP,mw,lJ,eU⟩:=h;obtain rfl:=XT (hg.symm.trans lP);obtain rfl:=XT (ht.symm.trans mw);obtain ⟨xs,m1,rfl,fJ,ai,eT,dw⟩:=DataW.trod_array hu eU;intro i hi;have h1:=dw i (by omega);rw [hc,YaQ] at h1;have uF:xs[i]?=some (xs[i]'(by omega)):=XD (by omega);rw [uF] at h1;obtain ⟨s,e1,e2,_⟩:=DataW.trod_string he h1;have e3:DataW.agg (ss.map (λs=>DataW.lit (.string s)))=(DataW.agg (xs.map (·.1)):DataW Unit):=congrArg Prod.fst fJ;simp only [DataW.agg.injEq] at e3;have e4:(DataW.lit (.string ss[i]):DataW Unit)=(xs[i]'(by omega)).1:=by
  have h2:=congrArg (λl=>l[i]?) e3;simp only [Yby,uF,XD hi,Ya9,XH] at h2;exact h2
 rw [e2] at e4;simp only [DataW.lit.injEq,Lit.string.injEq] at e4;have hv:=World.var?_cell lP lJ i;rw [hv];have h5:cs0.toList[i]?=some (.string s):=by
  have h6:=congrArg (λl=>l[0]?) e1;simpa [Yah,List.getElem?_drop] using h6
 rw [<- YaX,h5];congr 1;simp only [str,e4]
theorem Zdm {P:Program} {W:World} {name:String} {g t:Nat} {ms:Array (String×TypeId)} {d:DataW Unit} (hg:P.globalNamed name=some g) (ht:(P.globals[g]?).map (·.type)=some t) (hu:P.underlying t=some (.interface ms)) (h:Z90 P W name d) :
 ∃ er,W.cell? ⟨g,0,none⟩=some er/\(er=.nilIface\/∃ te pe,er=.iface te pe):=by
 obtain ⟨g0,t0,cs0,f0,p0,lP,mw,lJ,eU⟩:=h;obtain rfl:=XT (hg.symm.trans lP);obtain rfl:=XT (ht.symm.trans mw);have hv:=World.var?_cell lP lJ 0;rw [hv];rw [<- YaX];generalize cs0.toList=cs at *;cases f0 with
 | zero=>simp [DataW.trod] at eU
 | succ f=>
   unfold DataW.trod at eU;rw [hu] at eU
   match cs,eU with
   | [],eU=>simp at eU
   | a :: b :: r,eU=>simp at eU
   | [x], eU=>
     refine ⟨x,rfl,?_⟩;cases x with
     | nilIface=>exact .inl rfl
     | iface u v=>exact .inr ⟨u,v,rfl⟩
     | _=>simp at eU
end Go.Eng
namespace Go.Proofs.YtipfkbkkndacjaaGreatDoor
open Go Go.Eng Go.RowKit Go.Proofs
open Go Go.Eng Go.RowKit Go.Proofs Go.ChangeShapes Go.WideShapes Go.Deep
theorem Zhm {W:World} (h:Z90 Tryz.prog W "rollbook/holiday.moves" Rows.laid_rollbook_holiday_moves):Z3g W:=by
 obtain ⟨g0,t0,cs0,f0,p0,lP,mw,lJ,eU⟩:=h;have hg:Tryz.prog.globalNamed "rollbook/holiday.moves" = some 4:=by kernel_rfl
 have ht:(Tryz.prog.globals[4]?).map (·.type)=some 374:=by kernel_rfl
 obtain rfl:=XT (hg.symm.trans lP);obtain rfl:=XT (ht.symm.trans mw);obtain ⟨xs,m1,rfl,fJ,ai,eT,dw⟩:=DataW.trod_array Tryz.underlying374 eU;have oK:Tryz.prog.cellsOf 282=7:=by kernel_rfl
 have e3:(Rows.laid_rollbook_holiday_moves:DataW Unit)=.agg (xs.map (·.1)):=congrArg Prod.fst fJ;have e4:(.agg [Lib.tabData .i64 [0,0,0,0,0,0,0],Lib.tabData .i64 [0,0,0,0,0,2,1],Lib.tabData .i64 [0,0,0,0,0,-1,1]]:DataW Unit)=.agg (xs.map (·.1)):=e3;simp only [DataW.agg.injEq] at e4;have row:∀ (k:Nat) (zs:List Int),k<3->[Lib.tabData .i64 [0,0,0,0,0,0,0],Lib.tabData .i64 [0,0,0,0,0,2,1],(Lib.tabData .i64 [0,0,0,0,0,-1,1]:DataW Unit)][k]?=some (Lib.tabData .i64 zs)->(cs0.toList.drop (k * 7)).take 7=zs.map λz=>Value.int .i64 z:=by
  intro k zs hk hz;have h1:=dw k hk;rw [oK] at h1;rw [e4,Yby] at hz;cases hx:xs[k]? with
  | none=>rw [hx] at hz;cases hz
  | some y=>
    rw [hx] at hz h1;have hy:y=(Lib.tabData .i64 zs,y.2):=Prod.ext (XT hz) rfl;rw [hy] at h1;exact Lib.cells_of_tab (t:=282) (e:=3) (n:=7) Tryz.underlying282 Tryz.underlying3 (by kernel_rfl) oK h1
 have r0:=row 0 _ (by omega) rfl;have r1:=row 1 _ (by omega) rfl;have r2:=row 2 _ (by omega) rfl;have an:∀ (k:Nat) (zs:List Int) (j:Nat),(cs0.toList.drop (k * 7)).take 7=(zs.map λz=>Value.int .i64 z)->j<7->j<zs.length->cs0.toList[k * 7+j]?=some (.I (zs.getD j 0)):=by
  intro k zs j hr hj fD;have h6:=congrArg (λl=>l[j]?) hr;simp only [Yah,List.getElem?_drop,Yby,if_pos hj] at h6;rw [h6];simp [List.getD,fD]
 intro i u hu;have hi:=(Xu.1 hu).1;have xP:i<21:=hi;have hv:=World.var?_cell hg lJ i;rw [hv,<- YaX];by_cases h7:i<7;have h2:=an 0 _ i r0 h7 (by simpa using h7);rw [show 0 * 7+i=i by omega] at h2;rw [h2];have hk:i=0\/i=1\/i=2\/i=3\/i=4\/i=5\/i=6:=by omega
 rcases hk with rfl|rfl|rfl|rfl|rfl|rfl|rfl<;>(simp [Z6A] at hu;subst hu;rfl)
 by_cases dx:i<14;have h2:=an 1 _ (i - 7) r1 (by omega) (by simp;omega);rw [show 1 * 7+(i - 7)=i by omega] at h2;rw [h2];have hk:i=7\/i=8\/i=9\/i=10\/i=11\/i=12\/i=13:=by omega
 rcases hk with rfl|rfl|rfl|rfl|rfl|rfl|rfl<;>(simp [Z6A] at hu;subst hu;rfl)
 have h2:=an 2 _ (i - 14) r2 (by omega) (by simp;omega);rw [show 2 * 7+(i - 14)=i by omega] at h2;rw [h2];have hk:i=14\/i=15\/i=16\/i=17\/i=18\/i=19\/i=20:=by omega
 rcases hk with rfl|rfl|rfl|rfl|rfl|rfl|rfl<;>(simp [Z6A] at hu;subst hu;rfl)
abbrev Z91:List (String×DataW Unit):=[("math/bits.deBruijn32tab",Rows.laid_math_bits_deBruijn32tab),("math/bits.deBruijn64tab",Rows.laid_math_bits_deBruijn64tab),("internal/strconv.uint64pow10",Rows.laid_internal_strconv_uint64pow10),("strconv.ErrRange",Rows.laid_strconv_ErrRange),("strconv.ErrSyntax",Rows.laid_strconv_ErrSyntax),("rollbook/date.lengths",Rows.laid_rollbook_date_lengths),("rollbook/holiday.moves",Rows.laid_rollbook_holiday_moves)]
abbrev Zdn:List (String×DataW Unit):=Z91++[("rollbook/types.fields",Rows.laid_rollbook_types_fields)]
theorem Zdo {W:World} (h1:Z90 Tryz.prog W "rollbook/date.lengths" Rows.laid_rollbook_date_lengths):Z0x W:=by
 have h2:=Zhl (k:=.i64) (zs:=Z5G) (g:=3) (t:=371) (e:=3) (n:=13) h1 (by kernel_rfl) (by kernel_rfl) Tryz.underlying371 Tryz.underlying3 (by kernel_rfl) (by kernel_rfl);intro i u hu;have hi:=(Xu.1 hu).1;rw [Lib.TabIs.cell h2 (g:=3) (by kernel_rfl) i hi];simp [List.getD,hu]
theorem ZeF {W:World} (h1:Z90 Tryz.prog W "rollbook/types.fields" Rows.laid_rollbook_types_fields):SlV [] W Z2e Ze:=by
 have hc:=ZeE (g:=0) (t:=295) (e:=9) (n:=7) (ss:=Ze) (by kernel_rfl) (by kernel_rfl) Tryz.underlying295 Tryz.underlying9 (by kernel_rfl) rfl h1;have hlt:0<W.heap.size:=block_lt_of_cell (a:=⟨0,0,none⟩) (hc 0 (by decide));refine ⟨some ⟨0,0,none⟩,7,rfl,by decide,by decide,(λh=>by cases h),λi hi=>⟨0,0,[str Ze[i]],rfl,hlt,by simp,rfl,λj u hu=>?_⟩⟩;have hj:j=0:=by
  have:=(Xu.1 hu).1;simp at this;exact this
 subst hj;simp at hu;subst hu;have:=hc i hi;simpa [Z5.k,Z3.k] using this
structure ZoM (W:World):Prop where
 len:Z0x W
 mov:Z3g W
 err:∃ er,W.cell? ⟨8,0,none⟩=some er/\(er=.nilIface\/∃ te pe,er=.iface te pe)
theorem Zlg {W:World} {l:List (String×DataW Unit)} {ps:List MemPlace} (h:DataW.LaidVars Tryz.prog W l ps) (h1:("rollbook/date.lengths",Rows.laid_rollbook_date_lengths)∈l) (h2:("rollbook/holiday.moves",Rows.laid_rollbook_holiday_moves)∈l) (h3:("strconv.ErrRange",Rows.laid_strconv_ErrRange)∈l):ZoM W:=
 ⟨Zdo (Z4g _ _ h _ _ h1),Zhm (Z4g _ _ h _ _ h2),Zdm (g:=8) (t:=197) (by kernel_rfl) (by kernel_rfl) Tryz.underlying197 (Z4g _ _ h _ _ h3)⟩
theorem Zty {W:World} (h:laidMetH Tryz.prog Zdn W):ZoM W/\SlV [] W Z2e Ze:=by
 rw [MakeChecks.laidMetH_plain _ _ _ (by kernel_rfl)] at h;obtain ⟨ps,h,_⟩:=h;exact ⟨Zlg h (by simp [Zdn,Z91]) (by simp [Zdn,Z91]) (by simp [Zdn,Z91]),ZeF (Z4g _ _ h _ _ (by simp [Zdn,Z91]))⟩
end Go.Proofs.YtipfkbkkndacjaaGreatDoor
namespace Go.Eng
open Go Go.RowKit Go.Proofs Go.ChangeShapes Go.WideShapes Go.Deep
def Z6R (P:Program) (lo n:Nat):Bool:=(List.range n).all λi=>!((P.funcs[lo+i]?).any Func.goes)
theorem Z0Q {P:Program} {lo n g:Nat} (h:Z6R P lo n=true) (h1:lo<=g) (h2:g<lo+n):(P.funcs[g]?).any Func.goes=false:=by
 have:=X0.1 h (g - lo) (Ybv.2 (by omega));rw [show lo+(g - lo)=g by omega] at this;simpa using this
theorem Zxe {P:Program} (h:∀ g:Nat,(P.funcs[g]?).any Func.goes=false) {c:OpenClaim} (hs:c.start=.entering):false=c.goesBy P:=by
 symm;have aB:P.funcs.any Func.goes=false:=by
  rw [Array.any_eq_false];intro i hi hg;have:=h i;rw [Ya1 hi] at this;simp only [Option.any_some] at this;rw [this] at hg;cases hg
 have gA:∀ f,P.goes f=false:=by
  intro f;unfold Program.goes;rw [aB,YbN,Ya7];rw [YaZ];intro hc;have cq:=hc;simp [h] at cq
 unfold OpenClaim.goesBy Program.goesAt Program.goesFrom;rw [hs];cases hf:P.funcNamed c.func with
 | none=>rfl
 | some f=>simp [gA]
theorem Zop {P:Program} {f:FuncId} {fn:Func} {s:ChangeSpec} {c:OpenClaim} (a1:c.wf (OpenSpec.ofChange s)=true) (a2:laidOutB P=true) (a3:mapsRowed P=true) (a4:fn.params.all (P.readableRec ·)=true) (a5:namedTie P c.named s.vars=true)
 (a6:((c.stops == []) && (P.stops == []) && (c.knobs == []) && (P.stopKnobs == []))=true)
 (h2:(c.inPlace == P.inPlace f)=true) (h3:(c.unfollowed == P.unfollowed f)=true) (h4:(c.recurses == P.recurses f)=true) (h5:(c.named == P.varsNamed f)=true)
 (h6 : ((c.maps == (fn.params.toList ++ s.plain.varTypes P).any (P.mapsRec ·)) && (c.ifaces == (fn.params.toList ++ s.plain.varTypes P).any (P.ifacesRec ·)) && (c.mapsOut == P.mapsAmong fn.resultTypes.toList) &&
   (c.loops == (fn.params.toList++s.plain.varTypes P).any (P.loopsFrom ·)) && (c.wideKeys == (fn.params.toList++s.plain.varTypes P++fn.resultTypes.toList).any (P.wideKeysFrom ·)) &&
   s.vars.all (P.varReadable ·) && fn.resultTypes.all (λt=>P.readableRec t && decide (t<P.types.size)) && (c.ifacesOut == fn.resultTypes.toList.any (P.ifacesRec ·)) && (c.loopsOut == fn.resultTypes.toList.any (P.loopsFrom ·)) && (c.plainKeys == P.plainKeys) && c.shortTexts.isNone && P.stopsHeard && P.mayEnter && (c.lifted == P.liftsFinal) && (P.make == some c.make) && (c.kinds == (if c.domain.isEmpty then [] else fn.params.toList.map λt=>match P.underlying t with|some (.int k)=>some k|_=>none)) && (c.pinned == c.pinnedBy) &&
   (c.veiled == (fn.params.toList++s.plain.varTypes P++fn.resultTypes.toList).any (P.veiledRec ·)) && c.veiledFits P fn.params.toList (fn.params.toList++s.plain.varTypes P++fn.resultTypes.toList))=true) :
 joinedFacts P f fn s c=true:=by
 simp only [Xm] at a6 h6;unfold joinedFacts;simp only [Xm];exact ⟨⟨⟨⟨⟨⟨⟨⟨⟨⟨⟨⟨⟨⟨⟨⟨⟨⟨⟨⟨⟨⟨⟨⟨⟨⟨⟨⟨⟨⟨⟨a1,a2⟩,a3⟩,a4⟩,a5⟩,a6.1.1.1⟩,a6.1.1.2⟩,a6.1.2⟩,a6.2⟩,h2⟩,h3⟩,h4⟩,h5⟩,h6.1.1.1.1.1.1.1.1.1.1.1.1.1.1.1.1.1.1⟩,h6.1.1.1.1.1.1.1.1.1.1.1.1.1.1.1.1.1.2⟩,h6.1.1.1.1.1.1.1.1.1.1.1.1.1.1.1.1.2⟩,h6.1.1.1.1.1.1.1.1.1.1.1.1.1.1.1.2⟩,h6.1.1.1.1.1.1.1.1.1.1.1.1.1.1.2⟩,h6.1.1.1.1.1.1.1.1.1.1.1.1.1.2⟩,h6.1.1.1.1.1.1.1.1.1.1.1.1.2⟩,h6.1.1.1.1.1.1.1.1.1.1.1.2⟩,h6.1.1.1.1.1.1.1.1.1.1.2⟩,h6.1.1.1.1.1.1.1.1.1.2⟩,h6.1.1.1.1.1.1.1.1.2⟩,h6.1.1.1.1.1.1.1.2⟩,h6.1.1.1.1.1.1.2⟩,h6.1.1.1.1.1.2⟩,h6.1.1.1.1.2⟩,h6.1.1.1.2⟩,h6.1.1.2⟩,h6.1.2⟩,h6.2⟩
end Go.Eng
namespace Go.Proofs.YtipfkbkkndacjaaGreatDoor
open Go Go.Eng Go.RowKit Go.Proofs Go.ChangeShapes Go.WideShapes Go.Deep
theorem Zxb:mapsRowed Tryz.prog=true:=by kernel_rfl
theorem Zlh:Tryz.prog.funcs.size=404:=by kernel_rfl
theorem Zhn:Z6R Tryz.prog 0 34=true:=by kernel_rfl
theorem Zho:Z6R Tryz.prog 34 34=true:=by kernel_rfl
theorem Zhp:Z6R Tryz.prog 68 34=true:=by kernel_rfl
theorem Zhq:Z6R Tryz.prog 102 34=true:=by kernel_rfl
theorem Zhr:Z6R Tryz.prog 136 34=true:=by kernel_rfl
theorem Zhs:Z6R Tryz.prog 170 34=true:=by kernel_rfl
theorem Zht:Z6R Tryz.prog 204 34=true:=by kernel_rfl
theorem Zhu:Z6R Tryz.prog 238 34=true:=by kernel_rfl
theorem Zhv:Z6R Tryz.prog 272 34=true:=by kernel_rfl
theorem Zhw:Z6R Tryz.prog 306 34=true:=by kernel_rfl
theorem ZeG:Z6R Tryz.prog 340 34=true:=by kernel_rfl
theorem ZeH:Z6R Tryz.prog 374 34=true:=by kernel_rfl
theorem Zxc:∀ g:Nat,(Tryz.prog.funcs[g]?).any Func.goes=false:=λg=>by
 by_cases h:g<404;by_cases h0:g<34;exact Z0Q Zhn (by omega) (by omega);by_cases h1:g<68;exact Z0Q Zho (by omega) (by omega);by_cases h2:g<102;exact Z0Q Zhp (by omega) (by omega);by_cases h3:g<136;exact Z0Q Zhq (by omega) (by omega);by_cases h4:g<170;exact Z0Q Zhr (by omega) (by omega);by_cases h5:g<204;exact Z0Q Zhs (by omega) (by omega);by_cases h6:g<238;exact Z0Q Zht (by omega) (by omega);by_cases h7:g<272;exact Z0Q Zhu (by omega) (by omega);by_cases h8:g<306;exact Z0Q Zhv (by omega) (by omega);by_cases h9:g<340;exact Z0Q Zhw (by omega) (by omega);by_cases gN:g<374;exact Z0Q ZeG (by omega) (by omega);exact Z0Q ZeH (by omega) (by omega);rw [Yaz (by rw [Zlh];omega)];rfl
end Go.Proofs.YtipfkbkkndacjaaGreatDoor
