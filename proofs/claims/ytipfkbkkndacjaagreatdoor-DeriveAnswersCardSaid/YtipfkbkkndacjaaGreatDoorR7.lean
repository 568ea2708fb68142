/-
Contracts and plain laws, merged out of own texts.
-/
import Derived.Test.YtipfkbkkndacjaaGreatDoorR6
import Derived.JoinedOf
set_option linter.unusedVariables false
set_option linter.unusedSimpArgs false
set_option maxHeartbeats 4000000
set_option maxRecDepth 20000
namespace Go.EngB
open Go Go.Eng Go.RowKit Go.Proofs
variable {P:Program} {n:Nat} {Q:Exit->Act->World->Prop} {e:Env} {w w0:World} {ops:Array Oper} {Lt:List Nat} {rest:List (Nat×Nat)}
theorem Z0v {w w':World} {T len:Nat} {cs:List Value} {v:Value} (h:Z9 w T len cs v w'):Stp [] w w':=h.choose_spec.2.2.2
theorem WD.weak {S:Nat×List Nat} {e':Env} {ord:List (Nat×Nat)} (hs:∀ t v,Eng.look e' t=some v->Eng.look e t=some v) (h:WD P n ops S Lt Q ord e' w):WD P n ops S Lt Q ord e w:=⟨λlisted a b c ha=>h.h listed a b c (ha.weak hs)⟩
theorem Zf5 {α:Type} [Z5 α] {X:List Nat} {T:Nat} {v:Value} {w':World} (h:Z9 w T 0 [] v w') (hb:w0.heap.size<=w.heap.size):Row X w' w0.heap.size T v ([]:List α)/\∀ b∈ob v,w.heap.size<=b:=by
 obtain ⟨b,rfl,dr,hk,hT⟩:=h;refine ⟨⟨[],rfl,λi hi=>absurd hi (by simp),by simp,.inr ⟨b,0,#[],rfl,by omega,hk,Xn _,by simp [maxLen],by simp,by simp⟩⟩,λc hc=>?_⟩;simp [ob] at hc;omega
theorem Z4v {d k:Nat} {v:Value} {e:Env} (h:d≠k):Eng.look ((d,v) :: e) k=Eng.look e k:=by rw [JR,if_neg h]
theorem Zkw {d5 a b c:Nat} {v x y z:Value} {e:Env} (ha:Eng.look e a=none) (hb:Eng.look e b=none) (hc:Eng.look e c=none):∀ t u,Eng.look ((d5,v) :: e) t=some u->Eng.look ((d5,v) :: (a,x) :: (b,y) :: (c,z) :: e) t=some u:=λt u h=>by
 rw [JR] at h ⊢;by_cases h5:d5=t
 rwa [if_pos h5] at h ⊢
 rw [if_neg h5] at h ⊢;have n1:a≠t:=λg=>by rw [<- g,ha] at h;cases h
 have n2:b≠t:=λg=>by rw [<- g,hb] at h;cases h
 have n3:c≠t:=λg=>by rw [<- g,hc] at h;cases h
 rw [Z4v n1,Z4v n2,Z4v n3];exact h
theorem WD_app2 {α:Type} [Z5 α] {X:List Nat} {i0 i3 i4 i5 d0 d3 d4 d5 t T bytes:Nat} {x z:Operand} {xv u z0:Value} {xs:List α} {y:α} {cs:List Value} {ty0 ty3 ty4 ty5:TypeId} {p0 p3 p4 p5:String} {a0 a3 a4 a5:Array Edge}
 [ht:Und P t (.slice T)] [hk:Siz P T (Z5.k α)] [hb:Byt P T bytes] [hz:Zer P T z0]
 (hW:Stp [] w0 w) (ku:SlV X w0 xv xs) (iI:∀ (Y:List Nat) (W:World),Stp [] w0 W->(∀ b∈Y,b∈X\/w0.heap.size<=b)->Z5.rep Y W y cs)
 (hl:(xs.length+1) * bytes<=140737488355328) (bH:xs.length+1<=maxLen)
 (k:∀ v w',Row X w' w0.heap.size T v (xs++[y])->Stp [] w0 w'->WD P n ops (w0.heap.size,[]) Lt Q rest ((d5,v) :: e) w')
 (h0:ops[i0]?=some ⟨some d0,.buildSlice t 0 #[],ty0,p0,a0,none⟩:=by exact rfl)
 (h3:ops[i3]?=some ⟨some d3,.call { callee:=.builtin .append,args:=#[.tmp d0,x],argTypes:=#[t,t] },ty3,p3,a3,none⟩:=by exact rfl)
 (h4:ops[i4]?=some ⟨some d4,.buildSlice t 1 #[(0,z)],ty4,p4,a4,none⟩:=by exact rfl)
 (h5:ops[i5]?=some ⟨some d5,.call { callee:=.builtin .append,args:=#[.tmp d3,.tmp d4],argTypes:=#[t,t] },ty5,p5,a5,none⟩:=by exact rfl)
 (r0:∀ w:World,(Instr.buildSlice t 0 #[]).run P w=.ok (.slice (some ⟨w.heap.size,0,none⟩) 0 0) (w.alloc (.cells #[] T)):=by intro w;kernel_rfl)
 (r4:∀ w:World,(Instr.buildSlice t 1 #[(0,u)]).run P w=.ok (.slice (some ⟨w.heap.size,0,none⟩) 1 1) (w.alloc (.cells cs.toArray T)):=by intro w;kernel_rfl)
 (ex:∀ o b,ev ((d0,o) :: e) x=some xv/\ev ((d0,o) :: (d4,b) :: e) x=some xv/\ev ((d4,b) :: (d0,o) :: e) x=some xv:=by intro _ _;exact ⟨rfl,rfl,rfl⟩)
 (ez:∀ o a,Jt e [(0,z)]=some [(0,u)]/\Jt ((d0,o) :: e) [(0,z)]=some [(0,u)]/\Jt ((d3,a) :: (d0,o) :: e) [(0,z)]=some [(0,u)]:=by intro _ _;exact ⟨rfl,rfl,rfl⟩)
 (hn:Eng.look e d0=none/\Eng.look e d3=none/\Eng.look e d4=none:=by exact ⟨rfl,rfl,rfl⟩)
 (hd:d0≠d3/\d0≠d4/\d3≠d4:=by decide)
 (hlt:Nat.blt d0 n=true/\Nat.blt d3 n=true/\Nat.blt d4 n=true/\Nat.blt d5 n=true:=by exact ⟨rfl,rfl,rfl,rfl⟩)
 (dQ:z0.cells.size=Z5.k α:=by exact rfl) (aW:0<Z5.k α:=by decide)
 (oq:Z3m i4 ((i3,i4+3) :: (i4,2) :: (i5,2) :: rest)=(i3,2) :: (i5,2) :: rest/\Z3m i4 ((i4,2) :: (i5,2) :: rest)=(i5,2) :: rest:=by exact ⟨rfl,rfl⟩) (hq:Nat.blt (i4+3) 100000=true:=by exact rfl) (hX:∀ b∈X,b<w0.heap.size:=by simp) :
 WD P n ops (w0.heap.size,[]) Lt Q ((i0,i4+3) :: (i3,i4+3) :: (i4,2) :: (i5,2) :: rest) e w:=by
 obtain ⟨n0,n3,n4⟩:=hn;obtain ⟨l0,l3,l4,l5⟩:=hlt;obtain ⟨d03,d04,d34⟩:=hd;have cB:(([]:List α).length+xs.length) * bytes<=140737488355328:=by
  refine Xg (Xo _ ?_) hl;simp
 have jL:([]:List α).length+xs.length<=maxLen:=by simp only [Xf];omega
 have tm:∀ {d:Nat} {v:Value} {e:Env},ev ((d,v) :: e) (.tmp d)=some v:=λ{d v e}=>by show Eng.look _ _=_;rw [JR,if_pos rfl]
 have tm2:∀ {d d':Nat} {v v':Value} {e:Env},d'≠d->ev ((d',v') :: (d,v) :: e) (.tmp d)=some v:=λ{d d' v v' e} h=>by show Eng.look _ _=_;rw [Z4v h,JR,if_pos rfl]
 apply Za1 hq;refine Z1d h0 trivial (Z1 (l:=[]) (vs:=[]) rfl r0) (λ_ _ h=>StpB.of (Z0v h) hW.size (by simp)) l0 ?_;rintro o wk hN;obtain ⟨ab,-⟩:=Zf5 (w0:=w0) (α:=α) (X:=X) hN hW.size;replace hW:=hW.trans (Z0v hN);clear hN;apply Za1 hq;refine Z1d h3 trivial (Zx (X:=X) (base:=w0.heap.size) dQ aW tm (ex o o).1 ab (ku.ext hW (by simp) (λb hb=>(Xh.1 hb).elim (λh=>.inr (ab.ob_le b h).1) .inl)) cB jL hW.size) (λ_ _ h=>StpB.of h.2.1 hW.size (λb hb=>(ab.ob_le b hb).1)) l3 ?_;rintro a wk2 ⟨aM,hT,-⟩;rw [XC] at aM;replace hW:=hW.own hT (λb hb=>.inr (ab.ob_le b hb).1);clear hT ab;refine Za h4 trivial (Z1 (l:=[(0,z)]) (vs:=[(0,u)]) (ez o a).2.2 r4) (λ_ _ h=>StpB.of (Z0v h) hW.size (by simp)) l4 ?_;rintro b4 wj hN;have dY:SlV (ob a++X) wj b4 [y]:=hN.slv1 (λb hb=>(Xh.1 hb).elim (λh=>(aM.ob_le b h).2) (λh=>Xa (hX b h) hW.size)) (iI _ _ hW (λb hb=>(Xh.1 hb).elim (λh=>.inr (aM.ob_le b h).1) .inl));replace aM:=aM.up (Z0v hN);replace hW:=hW.trans (Z0v hN);clear hN;refine Za h5 trivial (Zx (X:=X) (base:=w0.heap.size) dQ aW (tm2 (Ne.symm d34)) tm aM dY (by simpa using hl) (by simpa using bH) hW.size) (λ_ _ h=>StpB.of h.2.1 hW.size (λb hb=>(aM.ob_le b hb).1)) l5 ?_;rintro v wl ⟨bI,hT,-⟩;exact (k v wl bI (hW.own hT (λb hb=>.inr (aM.ob_le b hb).1))).weak (Zkw n4 n3 n0);rw [oq.2];refine Z1d h4 trivial (Z1 (l:=[(0,z)]) (vs:=[(0,u)]) (ez o o).2.1 r4) (λ_ _ h=>StpB.of (Z0v h) hW.size (by simp)) l4 ?_;rintro b4 wj hN;have dY:SlV (ob o++X) wj b4 [y]:=hN.slv1 (λb hb=>(Xh.1 hb).elim (λh=>(ab.ob_le b h).2) (λh=>Xa (hX b h) hW.size)) (iI _ _ hW (λb hb=>(Xh.1 hb).elim (λh=>.inr (ab.ob_le b h).1) .inl));replace ab:=ab.up (Z0v hN);replace hW:=hW.trans (Z0v hN);clear hN;refine Za h3 trivial (Zx (X:=X) (base:=w0.heap.size) dQ aW (tm2 (Ne.symm d04)) (ex o b4).2.2 ab (ku.ext hW (by simp) (λb hb=>(Xh.1 hb).elim (λh=>.inr (ab.ob_le b h).1) .inl)) cB jL hW.size) (λ_ _ h=>StpB.of h.2.1 hW.size (λb hb=>(ab.ob_le b hb).1)) l3 ?_;rintro a wk2 ⟨aM,hT,bA⟩;rw [XC] at aM;replace dY:SlV (ob a++X) wk2 b4 [y]:=dY.ext hT (λb hb=>by simp [hb]) (λb hb=>by
  rcases Xh.1 hb with hb|hb
  rcases bA b hb with h|h
  exact .inl (by simp [h]);exact .inr h;exact .inl (by simp [hb]))
 replace hW:=hW.own hT (λb hb=>.inr (ab.ob_le b hb).1);clear hT bA ab;refine Za h5 trivial (Zx (X:=X) (base:=w0.heap.size) dQ aW tm (tm2 d34) aM dY (by simpa using hl) (by simpa using bH) hW.size) (λ_ _ h=>StpB.of h.2.1 hW.size (λb hb=>(aM.ob_le b hb).1)) l5 ?_;rintro v wl ⟨bI,hT,-⟩;exact (k v wl bI (hW.own hT (λb hb=>.inr (aM.ob_le b hb).1))).weak (Zkw n3 n4 n0);rw [oq.1];refine Z1d h4 trivial (Z1 (l:=[(0,z)]) (vs:=[(0,u)]) (ez u u).1 r4) (λ_ _ h=>StpB.of (Z0v h) hW.size (by simp)) l4 ?_;rintro b4 wj hN;have dY:SlV X wj b4 [y]:=hN.slv1 (λb h=>Xa (hX b h) hW.size) (iI _ _ hW (λb h=>.inl h));replace hW:=hW.trans (Z0v hN);clear hN;refine Za h0 trivial (Z1 (l:=[]) (vs:=[]) rfl r0) (λ_ _ h=>StpB.of (Z0v h) hW.size (by simp)) l0 ?_;rintro o wk hN;obtain ⟨ab,sB⟩:=Zf5 (w0:=w0) (α:=α) (X:=X) hN hW.size;replace dY:SlV (ob o++X) wk b4 [y]:=dY.ext (Z0v hN) (by simp) (λb hb=>(Xh.1 hb).elim (λh=>.inr (sB b h)) .inl);replace hW:=hW.trans (Z0v hN);clear hN;refine Za h3 trivial (Zx (X:=X) (base:=w0.heap.size) dQ aW tm (ex o b4).2.1 ab (ku.ext hW (by simp) (λb hb=>(Xh.1 hb).elim (λh=>.inr (ab.ob_le b h).1) .inl)) cB jL hW.size) (λ_ _ h=>StpB.of h.2.1 hW.size (λb hb=>(ab.ob_le b hb).1)) l3 ?_;rintro a wk2 ⟨aM,hT,bA⟩;rw [XC] at aM;replace dY:SlV (ob a++X) wk2 b4 [y]:=dY.ext hT (λb hb=>by simp [hb]) (λb hb=>by
  rcases Xh.1 hb with hb|hb
  rcases bA b hb with h|h
  exact .inl (by simp [h]);exact .inr h;exact .inl (by simp [hb]))
 replace hW:=hW.own hT (λb hb=>.inr (ab.ob_le b hb).1);clear hT bA ab;refine Za h5 trivial (Zx (X:=X) (base:=w0.heap.size) dQ aW tm (by show Eng.look _ _=_;rw [Z4v d34,Z4v d04,JR,if_pos rfl]) aM dY (by simpa using hl) (by simpa using bH) hW.size) (λ_ _ h=>StpB.of h.2.1 hW.size (λb hb=>(aM.ob_le b hb).1)) l5 ?_;rintro v wl ⟨bI,hT,-⟩;exact (k v wl bI (hW.own hT (λb hb=>.inr (aM.ob_le b hb).1))).weak (Zkw n3 n0 n4)
end Go.EngB
namespace Go.Proofs.YtipfkbkkndacjaaGreatDoor
open Go Go.Eng Go.RowKit
structure Zx1 (c:Cas) (f:Fct) (r:Int) (day due:Int) (sp:List Spn) (v:Int) (s1 s2:List Spn) (z:Int):Prop where
 rng:0<=r/\r<=(c.ruls.length:Int) - 1
 on:(c.ruls.getD r.toNat crZ).on=f.kind/\ZfP c.ruls (c.ruls.getD r.toNat crZ).name f.day=r
 cnd:J8 (opn c) (evL c f) (c.ruls.getD r.toNat crZ).cnd=(v,s1,0)
 v0:v≠0
 du:J8 (opn c) (evL c f) (c.ruls.getD r.toNat crZ).due=(day,s2,0)
 ex:Z8b f.day day c.stys=(z,0)
 fin:(z=day/\due=day/\sp=s1++s2)\/(z≠day/\Jo (opn c) 1 z=(due,0)/\sp=s1++s2++[(z,due)])
theorem Zkx {c:Cas} {f:Fct} {r day due:Int} {sp:List Spn} (h:Z8V c f r=some (day,due,sp)):∃ v s1 s2 z,Zx1 c f r day due sp v s1 s2 z:=by
 unfold Z8V at h;dsimp only at h;split at h;cases h;rename_i a1;split at h;cases h;rename_i a2;split at h;cases h;rename_i a3;split at h;cases h;rename_i a4;split at h;cases h;rename_i a5;have b1:∀ {α β:Type} (p:α×β×Int),¬ p.2.2≠0->p=(p.1,p.2.1,0):=λp hp=>by
  obtain ⟨x,y,z⟩:=p;have:z=0:=Decidable.byContradiction hp;subst this;rfl
 have b2:∀ {α:Type} (p:α×Int),¬ p.2≠0->p=(p.1,0):=λp hp=>by
  obtain ⟨x,z⟩:=p;have:z=0:=Decidable.byContradiction hp;subst this;rfl
 have a1':=Decidable.byContradiction a1;have c1:(c.ruls.getD r.toNat crZ).on=f.kind:=Decidable.byContradiction λg=>a2 (.inl g);have c2:ZfP c.ruls (c.ruls.getD r.toNat crZ).name f.day=r:=Decidable.byContradiction λg=>a2 (.inr g);have c3:¬ (J8 (opn c) (evL c f) (c.ruls.getD r.toNat crZ).cnd).2.2≠0:=λg=>a3 (.inl g);have c4:(J8 (opn c) (evL c f) (c.ruls.getD r.toNat crZ).cnd).1≠0:=λg=>a3 (.inr g);split at h;rename_i a6;obtain ⟨h3,h4⟩:=YbK (XQ h);obtain ⟨h5,h6⟩:=YbK h4;rw [h3] at a6 a5 h5;exact ⟨_,_,_,_,a1',⟨c1,c2⟩,b1 _ c3,c4,by rw [<- h3];exact b1 _ a4,b2 _ a5,.inl ⟨a6,h5.symm,h6.symm⟩⟩;rename_i a6;split at h;cases h;rename_i a7;obtain ⟨h3,h4⟩:=YbK (XQ h);obtain ⟨h5,h6⟩:=YbK h4;rw [h3] at a6 a5 a7 h5 h6;rw [h5] at h6;exact ⟨_,_,_,_,a1',⟨c1,c2⟩,b1 _ c3,c4,by rw [<- h3];exact b1 _ a4,b2 _ a5,.inr ⟨a6,by rw [<- h5];exact b2 _ a7,h6.symm⟩⟩
open Go Go.Eng Go.RowKit Go.Proofs
theorem _root_.Go.EngB.StpB.cell {B:Nat} {w w':World} {a:Addr} {v:Value} (h:Go.EngB.StpB (B,[]) w w') (ha:a.block<B) (hc:w.cell? a=some v):w'.cell? a=some v:=by
 unfold World.cell? at *;rw [h.block a.block ha (by simp)];exact hc
theorem Zky {c:Cas} (h:Z55 c) {d:Dln} (hd:d∈Z0M c):Z0o d.trig:=by
 obtain ⟨f,hf,r,hr,h1,rfl⟩:=Z2F hd;have j6:Z0o f:=(Xh.1 hf).elim (h.fo f) (Z57 h f);rw [(Z7j h.ok j6 h1).1];exact j6
theorem ZcQ {C:List Ins} {t:Int} (h:Z1t C=(t,0)):C.length<=200:=by
 by_cases h0:C.length=0\/C.length > 200;rw [show Z1t C=(0,22) from if_pos h0] at h;cases h;omega
theorem ZnB {c:Cas} (hs:Z55 c) {d:Dln} (hd:d∈Z0M c):d.reas.length<=2000:=by
 obtain ⟨f,hf,s,cI,ho,rfl⟩:=Z2F hd;obtain ⟨_,da,due,sp,hk,lX⟩:=Z6x ho;obtain ⟨v,s1,s2,z,hp⟩:=Zkx hk;have hq:c.ruls.getD ((s:Int)).toNat crZ∈c.ruls:=by
  have e:c.ruls.getD s crZ=c.ruls[s]:=by simp [cI]
  show c.ruls.getD s crZ∈c.ruls;rw [e];exact Xd cI
 have l1:s1.length<=200:=by
  have h:=Z2D (opn c) (evL c f) (c.ruls.getD ((s:Int)).toNat crZ).cnd (c.ruls.getD ((s:Int)).toNat crZ).cnd.length 0 [] [];have e:=hp.cnd;unfold J8 at e;rw [e] at h;have:=ZcQ (hs.ok.cnd _ hq);dsimp only at h;rw [Xf] at h;omega
 have l2:s2.length<=200:=by
  have h:=Z2D (opn c) (evL c f) (c.ruls.getD ((s:Int)).toNat crZ).due (c.ruls.getD ((s:Int)).toNat crZ).due.length 0 [] [];have e:=hp.du;unfold J8 at e;rw [e] at h;have:=ZcQ (hs.ok.due _ hq);dsimp only at h;rw [Xf] at h;omega
 have l3:sp.length<=401:=by
  rcases hp.fin with ⟨_,_,rfl⟩|⟨_,_,rfl⟩<;>simp<;>omega
 have l4:(Z6P f.day da c.stys).length<=1000:=by
  unfold Z6P;split;simp;exact Xg (XW _ _) hs.ok.sty.len
 rw [lX];unfold mkD;dsimp only;simp only [Xc,Xs,Xe,Xf];have l5:∀ (p:Prop) [Decidable p] (x:Rsn),(if p then [x] else []).length<=1:=λp _ x=>by split<;>simp
 have a1:=l5 ((Z5E c.atts c.crrs f.entry f.to_).2=true/\(Z3d (c.ruls.getD s crZ).cnd=true\/Z3d (c.ruls.getD s crZ).due=true)) ⟨3,(Z5E c.atts c.crrs f.entry f.to_).1.att,(Z5E c.atts c.crrs f.entry f.to_).1.day⟩;have a2:=l5 ((Z3Q c.fcts f (c.ruls.getD s crZ).unl due).2=true) ⟨6,(Z3Q c.fcts f (c.ruls.getD s crZ).unl due).1.entry,(Z3Q c.fcts f (c.ruls.getD s crZ).unl due).1.day⟩;omega
theorem ZnC (a b c:Int) (w):(Instr.build 67 #[(0,.I a),(1,.I b),(2,.I c)]).run Tryz.prog w=.ok (aG (⟨a,b,c⟩:Rsn)) w:=by kernel_rfl
theorem Zkz (w):(Instr.buildSlice 54 0 #[]).run Tryz.prog w=.ok (.slice (some ⟨w.heap.size,0,none⟩) 0 0) (w.alloc (.cells #[] 67)):=by kernel_rfl
theorem ZkA (a:Int) (s:Str) (b c:Int) (w):(Instr.build 45 #[(0,.I a),(1,str s),(2,.I b),(3,.I c)]).run Tryz.prog w=.ok (aG (⟨a,s,b,c,0,0⟩:Fct)) w:=by kernel_rfl
theorem ZsL (lv:Value) (l:List Int) (at_:Int) (er:Value) (m:Int) (w) (hs:SlV [] w lv l) (hl:∀ a∈l,I64 a) (fz:I64 at_) (hF:SlV [] w Z2m Ze) (cY:Z0A w) (lB:Z3h w) (eQ:w.cell? ⟨2,0,none⟩=some (.I m)) (eV:w.cell? ⟨8,0,none⟩=some er) (bR:er=.nilIface\/∃ te pe,er=.iface te pe) :
 CC 7 #[lv,.I at_] w λr w'=>r=.B true/\Stp [] w w':=by
 refine cW2 117 Tryz.func7 ?_;refine W ?_;refine CL (ZdX lv l w hs hl cY lB) ?_;rintro _ w1 ⟨c,R,rfl,hv,aB,hS⟩;have aV:=aB.cas;have dS:=aB.fl;refine W ?_;refine Z0 Z2 rfl ?_;rintro _ w2 ⟨b5,rfl,ji,e5,hT⟩;refine SB (us:=Jw c R) hv.cell e5 ?_;rintro _ w3 ⟨hU,e5⟩;replace hT:=hT.ow hU;replace hv:=hv.up hT;replace hS:=hS.trans hT;clear hT hU aB;repeat'(first|refine W1 ?_|omega|refine VG ?_ ?_<;>intro hg|refine VC ?_ ?_<;>intro hc)
 refine CL (Z4L c R _ hv aV) ?_;rintro dv w4 ⟨eX,hT⟩;have hd:SlV [] w4 dv (Z0M c):=Row.slv (X:=[]) eX (by simp);replace e5:=e5.up hT;replace hv:=hv.up hT;replace hS:=hS.trans hT;clear hT eX;have hR:=λd (hd:d∈Z0M c)=>ZgD hd;have hB:=λd (hd:d∈Z0M c)=>Zkv aV hd;have hL:=λd (hd:d∈Z0M c)=>ZnB aV hd;have hK:=λd (hd:d∈Z0M c)=>Zky aV hd;have hA:=λd (hd:d∈Z0M c) r hr h1 hu day h2 h3=>Zng hd (r:=r) hr h1 hu (day:=day) h2 h3;generalize Z0M c=D at *;have xA:=hd.max;refine W ?_;refine LP (σ:=Nat) (λi=>[(1,.I at_),(5,pQ b5),(6,dv),(7,.I (i:Int))]) (λi W=>i<=D.length/\Stp [] w4 W) (λi=>D.length - i) 0 ⟨Xq _,Stp.refl _ _⟩ ?_;rintro i y ⟨hi,hY⟩;have f5:=e5.up hY;have lU:=hd.up hY;have gU:=hv.up hY;by_cases hlt:i<D.length
 . obtain ⟨r,hr,um⟩:=hR _ (Xd hlt)
   have bD:=hB _ (Xd hlt);obtain ⟨csa,⟨ra,rfl,di⟩,iE⟩:=lU.cell hlt;repeat'(first|refine W1 ?_|omega|refine VG ?_ ?_<;>intro hg|refine VC ?_ ?_<;>intro hc)
   refine Z8 (Z1W rfl rfl lU hlt ⟨ra,rfl,di⟩ iE) rfl ?_;refine Z0 Z2 rfl ?_;rintro _ wa ⟨b8,rfl,fk,e8,hT⟩;refine Z6 (Zi (us:=dlC D[i] ra) rfl rfl rfl rfl (λu hu=>by
    simp only [Xb,Xj,or_false] at hu;rcases hu with rfl|rfl|rfl|rfl|rfl|rfl|rfl|rfl|rfl|rfl|rfl
    all_goals first|rfl|exact di.one) e8 rfl) ?_
   rintro _ wb ⟨hU,e8⟩;replace hT:=hT.ow hU;replace f5:=f5.up hT;replace gU:=gU.up hT;replace di:=di.up hT;replace hY:=hY.trans hT;clear hT hU iE lU;repeat'(first|refine W1 ?_|omega|refine VG ?_ ?_<;>intro hg|refine VC ?_ ?_<;>intro hc)
   refine CP hY (ZgO c R D[i] ra _ gU.rr di) λwc hT hY=>?_;replace f5:=f5.up hT;replace gU:=gU.up hT;replace di:=di.up hT;replace e8:=e8.up hT;clear hT;rw [um];have dO:=gU.rr;have yI:=dO.max;obtain ⟨csr,⟨kc,kd,rfl,-,-⟩,ar⟩:=dO.cell hr;have eM:wc.cell? (ZH R.rv r 7 5)=some (str c.ruls[r].unl):=ar 5 _ rfl;clear ar;repeat'(first|refine W1 ?_|omega|refine Zaw rfl rfl (by assumption) rfl ?_|refine VG ?_ ?_<;>intro hg|refine VC ?_ ?_<;>intro hc)
   all_goals first|exact QL (i+1) ⟨hlt,hY⟩ (XN hlt (XT i))|skip
   have ay:D[i].stat≠1:=by assumption
   have iJ:c.ruls[r].unl≠[]:=by assumption
   have tC:D[i].trig.day<=D[i].due:=by omega
   have hq:c.ruls.getD r crZ=c.ruls[r]:=by simp [hr]
   refine ZDr 14 [] [] [(0,0),(1,0),(2,1),(3,0),(4,0),(5,1),(6,0),(7,0),(8,1),(9,0),(10,0),(11,2),(12,0),(13,0)] (λw1 ae=>?_);replace f5:=f5.up ae;replace e8:=e8.up ae;replace gU:=gU.up ae;replace di:=di.up ae;have eM:=ae.cell0 eM;replace hY:=hY.trans ae;clear ae dO;repeat'(first|refine D1 ?_|omega|refine Zq rfl rfl rfl rfl (λhg=>?_) (λhg=>?_)|(refine Zm rfl rfl rfl rfl (λhg=>?_) (λhg=>?_)<;>refine D1 ?_)|fail)
   refine DP hY (Jz at_ (D[i].due - D[i].trig.day+1) _ (by omega) fz) λwd hT hY=>?_
   have sC:=Jk (if at_<0 then -(at_+1) else at_) (D[i].due - D[i].trig.day+1) (by omega);generalize (if at_<0 then -(at_+1) else at_) % (D[i].due - D[i].trig.day+1)=z at sC ⊢;replace f5:=f5.up hT;replace e8:=e8.up hT;replace gU:=gU.up hT;replace di:=di.up hT;have eM:=hT.cell0 eM;clear hT;repeat'(first|refine D1 ?_|omega|refine Zq rfl rfl rfl rfl (λhg=>?_) (λhg=>?_)|(refine Zm rfl rfl rfl rfl (λhg=>?_) (λhg=>?_)<;>refine D1 ?_)|fail)
   repeat'(first|refine W1 ?_|omega|refine VG ?_ ?_<;>intro hg|refine VC ?_ ?_<;>intro hc)
   obtain ⟨day,gG⟩:∃ day,D[i].trig.day+z=day:=⟨_,rfl⟩
   rw [gG];have aF:=hA _ (Xd hlt) r um ay (by rw [hq];exact iJ) day (by omega) (by omega);rw [hq] at aF;have j5:=f5.lt;have j8:=e8.lt;have jY:=hY.size;have ot:=di;refine Z0 Z2 rfl ?_;rintro _ we ⟨b12,rfl,kV,e12,hT⟩;refine SB (us:=Jw c R) gU.cell e12 ?_;rintro _ wf ⟨hU,e12⟩;have g12:wd.heap.size<=b12:=kV;replace hT:=hT.ow hU;replace f5:=f5.up hT;replace e8:=e8.up hT;replace di:=di.up hT;have eM:=hT.cell0 eM;have nK:=gU;have lD:=gU.up hT;replace hY:=hY.trans hT;have l5:=f5.lt;have l8:=e8.lt;have l12:=e12.lt;have ou:=block_lt_of_cell eM;have gZ:=lD.ff;have oa:=gZ.max;clear hU;repeat'(first|refine W1 ?_|omega|refine VG ?_ ?_<;>intro hg|refine VC ?_ ?_<;>intro hc)
   have dO:=lD.rr;refine Go.EngB.WC_drawn 18 (wf.heap.size,[]) [17] [(1,0),(2,1),(4,0),(5,1),(6,0),(7,0),(8,0),(9,1),(10,0),(11,0),(12,1),(13,0),(0,17),(3,17),(14,2),(15,2),(16,0),(17,2)] rfl mixed (by kernel_rfl) (by kernel_rfl) (by kernel_rfl) (λw1 hW=>?_);refine Ja rfl trivial (λw'=>JJ rfl) rfl ?_;refine Go.EngB.WD_read rfl trivial (λw' aP=>ZZ rfl rfl (aP.blk (f5.up hW) l5) rfl) rfl ?_;refine Ja rfl trivial (λw'=>JJ rfl) rfl ?_;refine Go.EngB.WD_read rfl trivial (λw' aP=>ZZ rfl rfl (aP.blk (f5.up hW) l5) rfl) rfl ?_;refine Ja rfl trivial (λw'=>ZM rfl) rfl ?_;refine Ja rfl trivial (λw'=>Z2k rfl dO rfl rfl hr) rfl ?_;refine Ja rfl trivial (λw'=>Z3l rfl (SlV.isSome dO hr)) rfl ?_;refine Go.EngB.WD_read rfl trivial (λw' aP=>Jl rfl rfl (aP.cell ou (hW.cell0 eM))) rfl ?_;refine Ja rfl trivial (λw'=>ZM rfl) rfl ?_;refine Ja rfl trivial (λw'=>JJ rfl) rfl ?_;refine Go.EngB.WD_read rfl trivial (λw' aP=>ZZ rfl rfl (aP.blk (e8.up hW) l8) rfl) rfl ?_;refine Ja rfl trivial (λw'=>Z0j (vs:=[(0,.I 60000),(1,str c.ruls[r].unl),(2,.I day),(3,.I D[i].party)]) rfl (ZkA _ _ _ _)) rfl ?_;refine Go.EngB.WD_app2 (α:=Fct) (T:=45) (t:=24) (y:=Z3Z c.ruls[r].unl day D[i].party) (cs:=Z3.enc (Z3Z c.ruls[r].unl day D[i].party)) hW gZ (λ_ _ _ _=>rfl) (Xg (Xo _ (show c.fcts.length+1<=20 by omega)) (by decide)) (by simp only [maxLen];omega) (λfv2 wg ab lE=>?_);refine Ja rfl trivial (λw'=>JJ rfl) rfl ?_;obtain ⟨p2,k2,rfl,-⟩:=id (Row.slv (X:=[]) ab (by simp));refine Jm rfl trivial (Zb (u:=.slice p2 (c.fcts++[Z3Z c.ruls[r].unl day D[i].party]).length k2) rfl rfl rfl rfl (e12.up lE) (show (0:Nat)<19 by decide)) rfl ?_;rintro _ wh ⟨hU,k12⟩;refine Za0 ?_;have fS:SlV [] wh (.slice p2 (c.fcts++[Z3Z c.ruls[r].unl day D[i].party]).length k2) (c.fcts++[Z3Z c.ruls[r].unl day D[i].party]):=(Row.slv (X:=[b12]) (ab.keep hU (λb hb h=>by simp only [Xl] at hb;subst hb;have:=(ab.ob_le _ h).1;omega)) (by simpa using l12)).wk (by simp);have uo:Z1D wh { c with fcts:=c.fcts++[Z3Z c.ruls[r].unl day D[i].party] } { R with fv:=.slice p2 (c.fcts++[Z3Z c.ruls[r].unl day D[i].party]).length k2 }:=(nK.own (hT.trans lE) (B:=[b12]) (by simpa using g12) hU).facts fS;have xB:Z5L { c with fcts:=c.fcts++[Z3Z c.ruls[r].unl day D[i].party] }:=⟨by simp only [Xc,Xe,Xf];omega,aV.ok.rl,aV.ok.cnd,aV.ok.due,aV.ok.att,aV.ok.ext,aV.ok.sty,aV.ok.court,aV.ok.today⟩
   replace k12:Blk wh b12 37 (Jw { c with fcts:=c.fcts++[Z3Z c.ruls[r].unl day D[i].party] } { R with fv:=.slice p2 (c.fcts++[Z3Z c.ruls[r].unl day D[i].party]).length k2 }):=k12;have aq:=(hT.trans lE).ow hU;replace f5:=(f5.up lE).ext hU (by simp;omega);replace e8:=(e8.up lE).ext hU (by simp;omega);replace di:SlV [] wh ra D[i].reas:=ot.up aq;replace hY:=(hY.trans lE).ow hU;clear hW lE hU ab e12 aq nK lD gZ dO eM ou fS hT ot;generalize ({ c with fcts:=c.fcts++[Z3Z c.ruls[r].unl day D[i].party] }:Cas)=C at *;generalize ({ R with fv:=.slice p2 (c.fcts++[Z3Z c.ruls[r].unl day D[i].party]).length k2 }:Z0T)=Q at *;repeat'(first|refine W1 ?_|omega|refine VG ?_ ?_<;>intro hg|refine VC ?_ ?_<;>intro hc)
   refine Z8 (Zl (us:=Z3.enc D[i].trig) rfl rfl e8 rfl rfl) rfl ?_;repeat'(first|refine W1 ?_|omega|refine VG ?_ ?_<;>intro hg|refine VC ?_ ?_<;>intro hc)
   refine CM (ZI rfl rfl rfl) (ZeS C Q D[i].trig (r:Int) _ uo xB (hK _ (Xd hlt)) (by unfold I64;omega)) ?_;rintro _ wi ⟨rv,rfl,bC⟩;rw [aF] at bC ⊢;dsimp only at bC ⊢;have hT:=bC.2;replace f5:=f5.up hT;replace e8:=e8.up hT;replace di:=di.up hT;replace hY:=hY.trans hT;have px:SlV [] wi rv (D[i].reas++[⟨6,60000,day⟩]):=bC.slv (by simp);clear hT bC uo k12;repeat'(first|refine W1 ?_|omega|refine VG ?_ ?_<;>intro hg|refine VC ?_ ?_<;>intro hc)
   refine Z0 Z2 rfl ?_;rintro _ wj ⟨b13,rfl,xC,e13,hT⟩;refine Z6 (Zi (us:=dlC { D[i] with stat:=1,reas:=D[i].reas++[⟨6,60000,day⟩] } rv) rfl rfl rfl rfl (λu hu=>by
    simp only [Xb,Xj,or_false] at hu;rcases hu with rfl|rfl|rfl|rfl|rfl|rfl|rfl|rfl|rfl|rfl|rfl
    all_goals first|rfl|exact px.one) e13 rfl) ?_
   rintro _ wk ⟨hU,e13⟩;replace hT:=hT.ow hU;replace f5:=f5.up hT;replace e8:=e8.up hT;replace di:=di.up hT;replace px:=px.up hT;replace hY:=hY.trans hT;clear hT hU;have l13:=e13.lt;repeat'(first|refine W1 ?_|omega|refine VG ?_ ?_<;>intro hg|refine VC ?_ ?_<;>intro hc)
   refine Z0 Z2 rfl ?_;rintro _ wl ⟨b15,rfl,rt,e15,hT⟩;refine Z6 (Zi (us:=dlC D[i] ra) rfl rfl rfl rfl (λu hu=>by
    simp only [Xb,Xj,or_false] at hu;rcases hu with rfl|rfl|rfl|rfl|rfl|rfl|rfl|rfl|rfl|rfl|rfl
    all_goals first|rfl|exact di.one) e15 rfl) ?_
   rintro _ wm ⟨hU,e15⟩;replace hT:=hT.ow hU;have T:=hT;have e8m:=e8.up T;have lF:=di.up T;clear hU hT;repeat'(first|refine W1 ?_|omega|refine VG ?_ ?_<;>intro hg|refine VC ?_ ?_<;>intro hc)
   refine Z6 (Zb (u:=.I 1) rfl rfl rfl rfl e15 (show (9:Nat)<11 by decide)) ?_;rintro _ wn ⟨hU,e15⟩;replace T:=T.ow hU;replace e8m:=e8.up T;replace lF:=di.up T;have l15:=e15.lt;have iw:D[i].reas.length<=1000000:=Xg (hL _ (Xd hlt)) (by decide);clear hU;repeat'(first|refine W1 ?_|omega|refine VG ?_ ?_<;>intro hg|refine VC ?_ ?_<;>intro hc)
   refine Z0 (Z1 (vs:=[]) rfl Zkz) rfl ?_;rintro o wo hN;have ab:Row [] wo wn.heap.size 67 o ([]:List Rsn):=hN.row (Xn _) rfl rfl (by simp [maxLen]);have bh:=λb hb=>ab.ob_le b hb;have hU:=Z9.stp hN;clear hN;have uq:SlV (ob o++[]) wo ra D[i].reas:=lF.ext hU (by simp) (λb hb=>.inr (bh b (by simpa using hb)).1);replace e15:=e15.up hU;replace T:=T.trans hU;replace e8m:=e8.up T;have zn:=hU.size;have zk:=T.size;clear hU;repeat'(first|refine W1 ?_|omega|refine VG ?_ ?_<;>intro hg|refine VC ?_ ?_<;>intro hc)
   refine Z0 (Zx (α:=Rsn) (X:=[]) (base:=wn.heap.size) rfl (by decide) rfl rfl ab uq (Xg (Xo _ (show ([]:List Rsn).length+D[i].reas.length<=1000000 by simp only [Xf];omega)) (by decide)) (by simp only [Xf,maxLen];omega) (by omega)) rfl ?_;rintro o2 wp ⟨aM,hU,bA⟩;rw [XC] at aM;replace e15:=e15.ext hU (λh=>by have:=bh _ h;omega);replace T:=T.own hU (λb hb=>.inr (by have:=bh b hb;omega));have lG:=λb hb=>aM.ob_le b hb;have zop:=hU.size;clear hU uq ab bA bh;repeat'(first|refine W1 ?_|omega|refine VG ?_ ?_<;>intro hg|refine VC ?_ ?_<;>intro hc)
   refine Z7 rfl (ZnC 6 60000 day) rfl ?_;refine Z0 (Z1 (vs:=[(0,aG (⟨6,60000,day⟩:Rsn))]) rfl (ZcO ⟨6,60000,day⟩)) rfl ?_;rintro o3 wq hN;have dY:SlV (ob o2++[]) wq o3 [(⟨6,60000,day⟩:Rsn)]:=hN.slv (λb hb=>(lG b (by simpa using hb)).2) rfl rfl (by simp [maxLen]);replace aM:=aM.up (Z9.stp hN);replace e15:=e15.up (Z9.stp hN);replace T:=T.trans (Z9.stp hN);have zpq:=(Z9.stp hN).size;clear hN;repeat'(first|refine W1 ?_|omega|refine VG ?_ ?_<;>intro hg|refine VC ?_ ?_<;>intro hc)
   refine Z0 (Zx (α:=Rsn) (X:=[]) (base:=wn.heap.size) rfl (by decide) rfl rfl aM dY (Xg (Xo _ (show D[i].reas.length+1<=1000001 by omega)) (by decide)) (by simp only [Xe,Xf,maxLen];omega) (by omega)) rfl ?_;rintro o4 wr ⟨bI,hU,-⟩;replace e15:=e15.ext hU (λh=>by have:=lG _ h;omega);replace T:=T.own hU (λb hb=>.inr (by have:=lG b hb;omega));clear hU aM dY;obtain ⟨p4,k4,rfl,-⟩:=id (Row.slv (X:=[]) bI (by simp));repeat'(first|refine W1 ?_|omega|refine VG ?_ ?_<;>intro hg|refine VC ?_ ?_<;>intro hc)
   refine Z6 (Zb (u:=.slice p4 (D[i].reas++[(⟨6,60000,day⟩:Rsn)]).length k4) rfl rfl rfl rfl e15 (show (10:Nat)<11 by decide)) ?_;rintro _ ws ⟨hU,e15⟩;have gq:=bI.keep hU (λb hb h=>by simp only [Xl] at hb;subst hb;have:=(bI.ob_le _ h).1;omega);have dz:SlV [] ws (.slice p4 (D[i].reas++[(⟨6,60000,day⟩:Rsn)]).length k4) (D[i].reas++[⟨6,60000,day⟩]):=gq.slv (by simp);replace T:=T.ow hU;replace e15:Blk ws b15 56 (dlC { D[i] with stat:=1,reas:=D[i].reas++[⟨6,60000,day⟩] } (.slice p4 (D[i].reas++[(⟨6,60000,day⟩:Rsn)]).length k4)):=e15;have e13s:=e13.up T;have sD:=px.up T;replace hY:=hY.trans T;clear hU gq bI T e8m lF;repeat'(first|refine W1 ?_|omega|refine VG ?_ ?_<;>intro hg|refine VC ?_ ?_<;>intro hc)
   refine CP hY (Z6Z { D[i] with stat:=1,reas:=D[i].reas++[⟨6,60000,day⟩] } rv (.slice p4 (D[i].reas++[(⟨6,60000,day⟩:Rsn)]).length k4) _ sD dz) λwt hT hY=>?_;repeat'(first|refine W1 ?_|omega|refine VG ?_ ?_<;>intro hg|refine VC ?_ ?_<;>intro hc)
   exact QL (i+1) ⟨hlt,hY⟩ (XN hlt (XT i))
 replace hS:=hS.trans hY;focus repeat'(first|refine W1 ?_|omega|refine VG ?_ ?_<;>intro hg|refine VC ?_ ?_<;>intro hc)
 refine CP hS (ZcP er m _ (hF.up hS) (cY.up hS) (lB.up hS) (hS.cell (by simp) eQ) (hS.cell (by simp) eV) bR) λy2 _ hS=>?_
 focus repeat'(first|refine W1 ?_|omega|refine VG ?_ ?_<;>intro hg|refine VC ?_ ?_<;>intro hc)
 refine RU ?_;exact ⟨rfl,hS⟩
open Go Go.Eng Go.RowKit Go.Proofs Go.ChangeShapes Go.WideShapes Go.Deep
section
variable {H:Type} {enc:TypeId×Value->H} {w:World} {base:Nat} {spare:Nat->Bool} {bJ:Bool}
theorem Zx2:Tryz.prog.cellsOf 60=1:=by kernel_rfl
theorem Zwi:Tryz.prog.cellsOf 62=7:=by kernel_rfl
theorem ZnD (fuel:Nat) (cs:List Value) (x:DataW H×List MemPlace) (h:DataW.trod enc Tryz.prog w base spare bJ fuel 62 cs=some x):∃ q:Cr,Z5.rep [] w q cs:=by
 obtain ⟨xs,n,rfl,hx,ai,jv,hf⟩:=DataW.trod_struct Tryz.underlying62 h;rw [Zwi] at ai;have h0:DataW.trod enc Tryz.prog w base spare bJ n 9 ((cs.drop 0).take (Tryz.prog.cellsOf 9))=xs[0]?:=hf 0 _ rfl;have h1:DataW.trod enc Tryz.prog w base spare bJ n 3 ((cs.drop 1).take (Tryz.prog.cellsOf 3))=xs[1]?:=hf 1 _ rfl;have h2:DataW.trod enc Tryz.prog w base spare bJ n 9 ((cs.drop 2).take (Tryz.prog.cellsOf 9))=xs[2]?:=hf 2 _ rfl;have h3:DataW.trod enc Tryz.prog w base spare bJ n 60 ((cs.drop 3).take (Tryz.prog.cellsOf 60))=xs[3]?:=hf 3 _ rfl;have h4:DataW.trod enc Tryz.prog w base spare bJ n 60 ((cs.drop 4).take (Tryz.prog.cellsOf 60))=xs[4]?:=hf 4 _ rfl;have h5:DataW.trod enc Tryz.prog w base spare bJ n 9 ((cs.drop 5).take (Tryz.prog.cellsOf 9))=xs[5]?:=hf 5 _ rfl;have h6:DataW.trod enc Tryz.prog w base spare bJ n 9 ((cs.drop 6).take (Tryz.prog.cellsOf 9))=xs[6]?:=hf 6 _ rfl;rw [k3] at h1;rw [k9] at h0 h2 h5 h6;rw [Zx2] at h3 h4
 match cs,ai,xs,jv with
 | [c0, c1, c2, c3, c4, c5, c6], _, [y0, y1, y2, y3, y4, y5, y6], _=>
   simp only [List.drop,List.take] at h0 h1 h2 h3 h4 h5 h6;obtain ⟨s0,e0,t0,-⟩:=DataW.trod_string Tryz.underlying9 h0;obtain ⟨z,e1,-,hz⟩:=DataW.trod_int Tryz.underlying3 h1;obtain ⟨s2,e2,t2,-⟩:=DataW.trod_string Tryz.underlying9 h2;obtain ⟨s5,e5,t5,-⟩:=DataW.trod_string Tryz.underlying9 h5;obtain ⟨s6,e6,t6,-⟩:=DataW.trod_string Tryz.underlying9 h6;have rd:∀ (n:Nat) (cs:List Value) (y:DataW H×List MemPlace),cs.length=Z3.k Ins->DataW.trod enc Tryz.prog w base spare bJ n 171 cs=some y->∃ a:Ins,cs=Z3.enc a/\(I64 a.op/\I64 a.n):=λn cs y hl hy=>by
    obtain ⟨zs,h1,rfl,h2⟩:=Z7N (k:=2) (by kernel_rfl) hl hy
    match zs,h1 with
    | [a,b],_=>exact ⟨⟨a,b⟩,rfl,by simpa using h2⟩
   obtain ⟨u3,l3,e3,ey,nq,-⟩:=Z3E (α:=Ins) (ok:=λx=>I64 x.op/\I64 x.n) Tryz.underlying60 (by kernel_rfl) (by decide) rd h3;obtain ⟨u4,l4,e4,dz,xD,-⟩:=Z3E (α:=Ins) (ok:=λx=>I64 x.op/\I64 x.n) Tryz.underlying60 (by kernel_rfl) (by decide) rd h4;obtain rfl:=(YaP e0).1;obtain rfl:=(YaP e1).1;obtain rfl:=(YaP e2).1;obtain rfl:=(YaP e3).1;obtain rfl:=(YaP e4).1;obtain rfl:=(YaP e5).1;obtain rfl:=(YaP e6).1;exact ⟨⟨s0.data.toList,z,s2.data.toList,l3,l4,s5.data.toList,s6.data.toList⟩,⟨_,_,rfl,ey,dz⟩⟩
theorem Zwj {r:Reach} {b0:Nat} {v:Value} {d:DataW H} {p:List MemPlace} (hv:Value.okWide Tryz.prog w r b0 22 v) (h:DataW.Trod enc Tryz.prog w base spare bJ 22 v d p) :
 ∃ l:List Cr,SlV [] w v l:=by
 obtain ⟨fuel,h⟩:=h;obtain ⟨u,l,hu,hs,-⟩:=Zas (α:=Cr) Tryz.underlying22 Zwi (by decide) (λn cs' d q _ _ mT=>ZnD n cs' (d,q) mT) h;obtain ⟨a,m,c,rfl⟩:=okWide_slice Tryz.underlying22 hv;have qD:Value.slice a m c=u:=by simpa [Value.cells] using hu
 subst qD;exact ⟨l,hs⟩
end
end Go.Proofs.YtipfkbkkndacjaaGreatDoor
namespace Go.Eng
open Go Go.RowKit Go.Proofs
def Z8D (P:Program) (w:World) (n:String) (d:DataW Unit):Prop:=∃ g t cs fuel p,P.globalNamed n=some g/\(P.globals[g]?).map (·.type)=some t/\w.var? P n=some cs/\DataW.trod (λ_=>()) P w 0 (λ_=>true) false fuel t cs.toList=some (d,p)
theorem Z43 {P:Program} {w}:∀ (l:List (String×DataW Unit)) (ps:List MemPlace),DataW.LaidVars P w l ps->∀ (n:String) (d:DataW Unit),(n,d)∈l->Z8D P w n d
 | [],_,_,n,d,h=>by simp at h
 | (n0, d0) :: r, ps, hl, n, d, h => by
   obtain ⟨g,t,cs,fuel,p,q,h1,h2,h3,h4,h5,_⟩:=hl;rcases Xb.1 h with h|h
   cases h;exact ⟨g,t,cs,fuel,p,h1,h2,h3,h4⟩;exact Z43 r q h5 n d h
theorem ZgP {P:Program} {w} {name:String} {g t e n:Nat} {k:IntKind} {zs:List Int} (h:Z8D P w name (Lib.tabData k zs)) (hg:P.globalNamed name=some g) (jP:(P.globals[g]?).map (·.type)=some t) (ht:P.underlying t=some (.array n e)) (he:P.underlying e=some (.int k)) (xE:P.cellsOf e=1) (nR:P.cellsOf t=n):Lib.TabIs P w name k zs:=by
 obtain ⟨g',t',cs,fuel,p,xF,xG,sE,hd⟩:=h;obtain rfl:=XQ (hg.symm.trans xF);obtain rfl:=XQ (jP.symm.trans xG);unfold Lib.TabIs;rw [sE,<- Lib.cells_of_tab ht he xE nR hd]
theorem Ze6 {P:Program} {W:World} {name:String} {g t e n:Nat} {ss:List Str} (hg:P.globalNamed name=some g) (ht:(P.globals[g]?).map (·.type)=some t) (hu:P.underlying t=some (.array n e)) (he:P.underlying e=some .string) (hc:P.cellsOf e=1)
 (hn:ss.length=n) (h:Z8D P W name (.agg (ss.map (λs=>DataW.lit (.string s))))) :
 ∀ i (hi:i<ss.length),W.cell? ⟨g,i,none⟩=some (str ss[i]):=by
 obtain ⟨g0,t0,cs0,f0,p0,lH,mi,ly,eN⟩:=h;obtain rfl:=XQ (hg.symm.trans lH);obtain rfl:=XQ (ht.symm.trans mi);obtain ⟨xs,m1,rfl,jV,ai,eK,dw⟩:=DataW.trod_array hu eN;intro i hi;have h1:=dw i (by omega);rw [hc,YaM] at h1;have ur:xs[i]?=some (xs[i]'(by omega)):=XB (by omega);rw [ur] at h1;obtain ⟨s,e1,e2,_⟩:=DataW.trod_string he h1;have e3:DataW.agg (ss.map (λs=>DataW.lit (.string s)))=(DataW.agg (xs.map (·.1)):DataW Unit):=congrArg Prod.fst jV;simp only [DataW.agg.injEq] at e3;have e4:(DataW.lit (.string ss[i]):DataW Unit)=(xs[i]'(by omega)).1:=by
  have h2:=congrArg (λl=>l[i]?) e3;simp only [Ybv,ur,XB hi,Ya3,XD] at h2;exact h2
 rw [e2] at e4;simp only [DataW.lit.injEq,Lit.string.injEq] at e4;have hv:=World.var?_cell lH ly i;rw [hv];have h5:cs0.toList[i]?=some (.string s):=by
  have h6:=congrArg (λl=>l[0]?) e1;simpa [Yae,List.getElem?_drop] using h6
 rw [<- YaS,h5];congr 1;simp only [str,e4]
theorem ZcR {P:Program} {W:World} {name:String} {g t:Nat} {ms:Array (String×TypeId)} {d:DataW Unit} (hg:P.globalNamed name=some g) (ht:(P.globals[g]?).map (·.type)=some t) (hu:P.underlying t=some (.interface ms)) (h:Z8D P W name d) :
 ∃ er,W.cell? ⟨g,0,none⟩=some er/\(er=.nilIface\/∃ te pe,er=.iface te pe):=by
 obtain ⟨g0,t0,cs0,f0,p0,lH,mi,ly,eN⟩:=h;obtain rfl:=XQ (hg.symm.trans lH);obtain rfl:=XQ (ht.symm.trans mi);have hv:=World.var?_cell lH ly 0;rw [hv];rw [<- YaS];generalize cs0.toList=cs at *;cases f0 with
 | zero=>simp [DataW.trod] at eN
 | succ f=>
   unfold DataW.trod at eN;rw [hu] at eN
   match cs,eN with
   | [],eN=>simp at eN
   | a :: b :: r,eN=>simp at eN
   | [x], eN=>
     refine ⟨x,rfl,?_⟩;cases x with
     | nilIface=>exact .inl rfl
     | iface u v=>exact .inr ⟨u,v,rfl⟩
     | _=>simp at eN
end Go.Eng
namespace Go.Proofs.YtipfkbkkndacjaaGreatDoor
open Go Go.Eng Go.RowKit Go.Proofs
open Go Go.Eng Go.RowKit Go.Proofs Go.ChangeShapes Go.WideShapes Go.Deep
theorem ZgQ {W:World} (h:Z8D Tryz.prog W "rollbook/holiday.moves" Rows.laid_rollbook_holiday_moves):Z3h W:=by
 obtain ⟨g0,t0,cs0,f0,p0,lH,mi,ly,eN⟩:=h;have hg:Tryz.prog.globalNamed "rollbook/holiday.moves" = some 4:=by kernel_rfl
 have ht:(Tryz.prog.globals[4]?).map (·.type)=some 374:=by kernel_rfl
 obtain rfl:=XQ (hg.symm.trans lH);obtain rfl:=XQ (ht.symm.trans mi);obtain ⟨xs,m1,rfl,jV,ai,eK,dw⟩:=DataW.trod_array Tryz.underlying374 eN;have oB:Tryz.prog.cellsOf 282=7:=by kernel_rfl
 have e3:(Rows.laid_rollbook_holiday_moves:DataW Unit)=.agg (xs.map (·.1)):=congrArg Prod.fst jV;have e4:(.agg [Lib.tabData .i64 [0,0,0,0,0,0,0],Lib.tabData .i64 [0,0,0,0,0,2,1],Lib.tabData .i64 [0,0,0,0,0,-1,1]]:DataW Unit)=.agg (xs.map (·.1)):=e3;simp only [DataW.agg.injEq] at e4;have row:∀ (k:Nat) (zs:List Int),k<3->[Lib.tabData .i64 [0,0,0,0,0,0,0],Lib.tabData .i64 [0,0,0,0,0,2,1],(Lib.tabData .i64 [0,0,0,0,0,-1,1]:DataW Unit)][k]?=some (Lib.tabData .i64 zs)->(cs0.toList.drop (k * 7)).take 7=zs.map λz=>Value.int .i64 z:=by
  intro k zs hk hz;have h1:=dw k hk;rw [oB] at h1;rw [e4,Ybv] at hz;cases hx:xs[k]? with
  | none=>rw [hx] at hz;cases hz
  | some y=>
    rw [hx] at hz h1;have hy:y=(Lib.tabData .i64 zs,y.2):=Prod.ext (XQ hz) rfl;rw [hy] at h1;exact Lib.cells_of_tab (t:=282) (e:=3) (n:=7) Tryz.underlying282 Tryz.underlying3 (by kernel_rfl) oB h1
 have r0:=row 0 _ (by omega) rfl;have r1:=row 1 _ (by omega) rfl;have r2:=row 2 _ (by omega) rfl;have ar:∀ (k:Nat) (zs:List Int) (j:Nat),(cs0.toList.drop (k * 7)).take 7=(zs.map λz=>Value.int .i64 z)->j<7->j<zs.length->cs0.toList[k * 7+j]?=some (.I (zs.getD j 0)):=by
  intro k zs j hr hj fy;have h6:=congrArg (λl=>l[j]?) hr;simp only [Yae,List.getElem?_drop,Ybv,if_pos hj] at h6;rw [h6];simp [List.getD,fy]
 intro i u hu;have hi:=(Xu.1 hu).1;have xH:i<21:=hi;have hv:=World.var?_cell hg ly i;rw [hv,<- YaS];by_cases h7:i<7;have h2:=ar 0 _ i r0 h7 (by simpa using h7);rw [show 0 * 7+i=i by omega] at h2;rw [h2];have hk:i=0\/i=1\/i=2\/i=3\/i=4\/i=5\/i=6:=by omega
 rcases hk with rfl|rfl|rfl|rfl|rfl|rfl|rfl<;>(simp [Z6f] at hu;subst hu;rfl)
 by_cases dW:i<14;have h2:=ar 1 _ (i - 7) r1 (by omega) (by simp;omega);rw [show 1 * 7+(i - 7)=i by omega] at h2;rw [h2];have hk:i=7\/i=8\/i=9\/i=10\/i=11\/i=12\/i=13:=by omega
 rcases hk with rfl|rfl|rfl|rfl|rfl|rfl|rfl<;>(simp [Z6f] at hu;subst hu;rfl)
 have h2:=ar 2 _ (i - 14) r2 (by omega) (by simp;omega);rw [show 2 * 7+(i - 14)=i by omega] at h2;rw [h2];have hk:i=14\/i=15\/i=16\/i=17\/i=18\/i=19\/i=20:=by omega
 rcases hk with rfl|rfl|rfl|rfl|rfl|rfl|rfl<;>(simp [Z6f] at hu;subst hu;rfl)
abbrev Z8E:List (String×DataW Unit):=[("math/bits.deBruijn32tab",Rows.laid_math_bits_deBruijn32tab),("math/bits.deBruijn64tab",Rows.laid_math_bits_deBruijn64tab),("internal/strconv.uint64pow10",Rows.laid_internal_strconv_uint64pow10),("strconv.ErrRange",Rows.laid_strconv_ErrRange),("strconv.ErrSyntax",Rows.laid_strconv_ErrSyntax),("rollbook/date.lengths",Rows.laid_rollbook_date_lengths),("rollbook/holiday.moves",Rows.laid_rollbook_holiday_moves)]
abbrev ZcS:List (String×DataW Unit):=Z8E++[("rollbook/types.fields",Rows.laid_rollbook_types_fields)]
theorem ZcT {W:World} (h1:Z8D Tryz.prog W "rollbook/date.lengths" Rows.laid_rollbook_date_lengths):Z0A W:=by
 have h2:=ZgP (k:=.i64) (zs:=Z5p) (g:=3) (t:=371) (e:=3) (n:=13) h1 (by kernel_rfl) (by kernel_rfl) Tryz.underlying371 Tryz.underlying3 (by kernel_rfl) (by kernel_rfl);intro i u hu;have hi:=(Xu.1 hu).1;rw [Lib.TabIs.cell h2 (g:=3) (by kernel_rfl) i hi];simp [List.getD,hu]
theorem Ze7 {W:World} (h1:Z8D Tryz.prog W "rollbook/types.fields" Rows.laid_rollbook_types_fields):SlV [] W Z2m Ze:=by
 have hc:=Ze6 (g:=0) (t:=295) (e:=9) (n:=7) (ss:=Ze) (by kernel_rfl) (by kernel_rfl) Tryz.underlying295 Tryz.underlying9 (by kernel_rfl) rfl h1;have hlt:0<W.heap.size:=block_lt_of_cell (a:=⟨0,0,none⟩) (hc 0 (by decide));refine ⟨some ⟨0,0,none⟩,7,rfl,by decide,by decide,(λh=>by cases h),λi hi=>⟨0,0,[str Ze[i]],rfl,hlt,by simp,rfl,λj u hu=>?_⟩⟩;have hj:j=0:=by
  have:=(Xu.1 hu).1;simp at this;exact this
 subst hj;simp at hu;subst hu;have:=hc i hi;simpa [Z5.k,Z3.k] using this
structure Zo2 (W:World):Prop where
 len:Z0A W
 mov:Z3h W
 err:∃ er,W.cell? ⟨8,0,none⟩=some er/\(er=.nilIface\/∃ te pe,er=.iface te pe)
theorem ZkB {W:World} {l:List (String×DataW Unit)} {ps:List MemPlace} (h:DataW.LaidVars Tryz.prog W l ps) (h1:("rollbook/date.lengths",Rows.laid_rollbook_date_lengths)∈l) (h2:("rollbook/holiday.moves",Rows.laid_rollbook_holiday_moves)∈l) (h3:("strconv.ErrRange",Rows.laid_strconv_ErrRange)∈l):Zo2 W:=
 ⟨ZcT (Z43 _ _ h _ _ h1),ZgQ (Z43 _ _ h _ _ h2),ZcR (g:=8) (t:=197) (by kernel_rfl) (by kernel_rfl) Tryz.underlying197 (Z43 _ _ h _ _ h3)⟩
theorem ZsM {W:World} (h:laidMetH Tryz.prog ZcS W):Zo2 W/\SlV [] W Z2m Ze:=by
 rw [MakeChecks.laidMetH_plain _ _ _ (by kernel_rfl)] at h;obtain ⟨ps,h,_⟩:=h;exact ⟨ZkB h (by simp [ZcS,Z8E]) (by simp [ZcS,Z8E]) (by simp [ZcS,Z8E]),Ze7 (Z43 _ _ h _ _ (by simp [ZcS,Z8E]))⟩
end Go.Proofs.YtipfkbkkndacjaaGreatDoor
namespace Go.Eng
open Go Go.RowKit Go.Proofs Go.ChangeShapes Go.WideShapes Go.Deep
def Z6y (P:Program) (lo n:Nat):Bool:=(List.range n).all λi=>!((P.funcs[lo+i]?).any Func.goes)
theorem Z0N {P:Program} {lo n g:Nat} (h:Z6y P lo n=true) (h1:lo<=g) (h2:g<lo+n):(P.funcs[g]?).any Func.goes=false:=by
 have:=XZ.1 h (g - lo) (Ybr.2 (by omega));rw [show lo+(g - lo)=g by omega] at this;simpa using this
theorem Zwn {P:Program} (h:∀ g:Nat,(P.funcs[g]?).any Func.goes=false) {c:OpenClaim} (hs:c.start=.entering):false=c.goesBy P:=by
 symm;have aA:P.funcs.any Func.goes=false:=by
  rw [Array.any_eq_false];intro i hi hg;have:=h i;rw [YaW hi] at this;simp only [Option.any_some] at this;rw [this] at hg;cases hg
 have ja:∀ f,P.goes f=false:=by
  intro f;unfold Program.goes;rw [aA,YbJ,Bool.or_false];rw [Ybt];intro hc;have cq:=hc;simp [h] at cq
 unfold OpenClaim.goesBy Program.goesAt Program.goesFrom;rw [hs];cases hf:P.funcNamed c.func with
 | none=>rfl
 | some f=>simp [ja]
theorem ZnE {P:Program} {f:FuncId} {fn:Func} {s:ChangeSpec} {c:OpenClaim} (a1:c.wf (OpenSpec.ofChange s)=true) (a2:laidOutB P=true) (a3:mapsRowed P=true) (a4:fn.params.all (P.readableRec ·)=true) (a5:namedTie P c.named s.vars=true)
 (a6:((c.stops == []) && (P.stops == []) && (c.knobs == []) && (P.stopKnobs == []))=true)
 (h2:(c.inPlace == P.inPlace f)=true) (h3:(c.unfollowed == P.unfollowed f)=true) (h4:(c.recurses == P.recurses f)=true) (h5:(c.named == P.varsNamed f)=true)
 (h6 : ((c.maps == (fn.params.toList ++ s.plain.varTypes P).any (P.mapsRec ·)) && (c.ifaces == (fn.params.toList ++ s.plain.varTypes P).any (P.ifacesRec ·)) && (c.mapsOut == P.mapsAmong fn.resultTypes.toList) &&
   (c.loops == (fn.params.toList++s.plain.varTypes P).any (P.loopsFrom ·)) && (c.wideKeys == (fn.params.toList++s.plain.varTypes P++fn.resultTypes.toList).any (P.wideKeysFrom ·)) &&
   s.vars.all (P.varReadable ·) && fn.resultTypes.all (λt=>P.readableRec t && decide (t<P.types.size)) && (c.ifacesOut == fn.resultTypes.toList.any (P.ifacesRec ·)) && (c.loopsOut == fn.resultTypes.toList.any (P.loopsFrom ·)) && (c.plainKeys == P.plainKeys) && c.shortTexts.isNone && P.stopsHeard && P.mayEnter && (c.lifted == P.liftsFinal) && (P.make == some c.make) && (c.kinds == (if c.domain.isEmpty then [] else fn.params.toList.map λt=>match P.underlying t with|some (.int k)=>some k|_=>none)) && (c.pinned == c.pinnedBy) &&
   (c.veiled == (fn.params.toList++s.plain.varTypes P++fn.resultTypes.toList).any (P.veiledRec ·)) && c.veiledFits P fn.params.toList (fn.params.toList++s.plain.varTypes P++fn.resultTypes.toList))=true) :
 joinedFacts P f fn s c=true:=by
 simp only [Xm] at a6 h6;unfold joinedFacts;simp only [Xm];exact ⟨⟨⟨⟨⟨⟨⟨⟨⟨⟨⟨⟨⟨⟨⟨⟨⟨⟨⟨⟨⟨⟨⟨⟨⟨⟨⟨⟨⟨⟨⟨a1,a2⟩,a3⟩,a4⟩,a5⟩,a6.1.1.1⟩,a6.1.1.2⟩,a6.1.2⟩,a6.2⟩,h2⟩,h3⟩,h4⟩,h5⟩,h6.1.1.1.1.1.1.1.1.1.1.1.1.1.1.1.1.1.1⟩,h6.1.1.1.1.1.1.1.1.1.1.1.1.1.1.1.1.1.2⟩,h6.1.1.1.1.1.1.1.1.1.1.1.1.1.1.1.1.2⟩,h6.1.1.1.1.1.1.1.1.1.1.1.1.1.1.1.2⟩,h6.1.1.1.1.1.1.1.1.1.1.1.1.1.1.2⟩,h6.1.1.1.1.1.1.1.1.1.1.1.1.1.2⟩,h6.1.1.1.1.1.1.1.1.1.1.1.1.2⟩,h6.1.1.1.1.1.1.1.1.1.1.1.2⟩,h6.1.1.1.1.1.1.1.1.1.1.2⟩,h6.1.1.1.1.1.1.1.1.1.2⟩,h6.1.1.1.1.1.1.1.1.2⟩,h6.1.1.1.1.1.1.1.2⟩,h6.1.1.1.1.1.1.2⟩,h6.1.1.1.1.1.2⟩,h6.1.1.1.1.2⟩,h6.1.1.1.2⟩,h6.1.1.2⟩,h6.1.2⟩,h6.2⟩
end Go.Eng
namespace Go.Proofs.YtipfkbkkndacjaaGreatDoor
open Go Go.Eng Go.RowKit Go.Proofs Go.ChangeShapes Go.WideShapes Go.Deep
theorem Zwk:mapsRowed Tryz.prog=true:=by kernel_rfl
theorem ZkC:Tryz.prog.funcs.size=404:=by kernel_rfl
theorem ZgR:Z6y Tryz.prog 0 34=true:=by kernel_rfl
theorem ZgS:Z6y Tryz.prog 34 34=true:=by kernel_rfl
theorem ZgT:Z6y Tryz.prog 68 34=true:=by kernel_rfl
theorem ZgU:Z6y Tryz.prog 102 34=true:=by kernel_rfl
theorem ZgV:Z6y Tryz.prog 136 34=true:=by kernel_rfl
theorem ZgW:Z6y Tryz.prog 170 34=true:=by kernel_rfl
theorem ZgX:Z6y Tryz.prog 204 34=true:=by kernel_rfl
theorem ZgY:Z6y Tryz.prog 238 34=true:=by kernel_rfl
theorem ZgZ:Z6y Tryz.prog 272 34=true:=by kernel_rfl
theorem Zh0:Z6y Tryz.prog 306 34=true:=by kernel_rfl
theorem Ze8:Z6y Tryz.prog 340 34=true:=by kernel_rfl
theorem Ze9:Z6y Tryz.prog 374 34=true:=by kernel_rfl
theorem Zwl:∀ g:Nat,(Tryz.prog.funcs[g]?).any Func.goes=false:=λg=>by
 by_cases h:g<404;by_cases h0:g<34;exact Z0N ZgR (by omega) (by omega);by_cases h1:g<68;exact Z0N ZgS (by omega) (by omega);by_cases h2:g<102;exact Z0N ZgT (by omega) (by omega);by_cases h3:g<136;exact Z0N ZgU (by omega) (by omega);by_cases h4:g<170;exact Z0N ZgV (by omega) (by omega);by_cases h5:g<204;exact Z0N ZgW (by omega) (by omega);by_cases h6:g<238;exact Z0N ZgX (by omega) (by omega);by_cases h7:g<272;exact Z0N ZgY (by omega) (by omega);by_cases h8:g<306;exact Z0N ZgZ (by omega) (by omega);by_cases h9:g<340;exact Z0N Zh0 (by omega) (by omega);by_cases gD:g<374;exact Z0N Ze8 (by omega) (by omega);exact Z0N Ze9 (by omega) (by omega);rw [Yau (by rw [ZkC];omega)];rfl
end Go.Proofs.YtipfkbkkndacjaaGreatDoor
