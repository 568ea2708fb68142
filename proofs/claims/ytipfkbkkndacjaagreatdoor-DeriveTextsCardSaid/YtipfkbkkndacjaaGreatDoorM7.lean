/-
Contracts and plain laws, merged out of own texts.
-/
import Derived.Test.YtipfkbkkndacjaaGreatDoorM6
import Derived.JoinedOf
set_option linter.unusedVariables false
set_option linter.unusedSimpArgs false
set_option maxHeartbeats 4000000
set_option maxRecDepth 20000
namespace Go.Proofs.YtipfkbkkndacjaaGreatDoor
open Go Go.Eng Go.RowKit
def rlT (first:Int) (k:Str) (n:Int):RuleM:=⟨[120],first,k,.mk 2 1 [] [],.mk 7 0 [100,97,121,115] [.mk 4 0 [100,97,121] [],.mk 1 n [] []],[],[]⟩
def crT (first:Int) (k:Str) (n:Int):Cr:=⟨[120],first,k,[⟨2,1⟩,⟨24,0⟩],[⟨4,0⟩,⟨1,n⟩,⟨15,0⟩,⟨24,0⟩],[],[]⟩
def Zbg (first:Int) (k:Str) (n:Int):Str:=[114,117,108,101]++32 :: ([120]++32 :: ([102,114,111,109]++32 :: (64 :: Z2J first++32 :: 123 :: 32 :: ([111,110]++32 :: (k++59 :: 32 :: ([100,117,101]++32 :: ([100,97,121]++32 :: 43 :: 32 :: (Lib.itoa n++32 :: ([100,97,121,115]++59 :: 32 :: [125])))))))))
def Za9 (first:Int) (k:Str) (n:Int):List T3:=[(1,[114,117,108,101],0),(1,[120],0),(1,[102,114,111,109],0),(3,64 :: Z2J first,first),(4,[123],0),(1,[111,110],0),(1,k,0),(4,[59],0),(1,[100,117,101],0),(1,[100,97,121],0),(4,[43],0),(2,Lib.itoa n,n),(1,[100,97,121,115],0),(4,[59],0),(4,[125],0)]
theorem Zey:∀ s∈Jm,(decide (s≠[]) && decide (s.length<=12) && Z5A (s.getD 0 0) && s.all ldB)=true:=by decide
section
variable {first n:Int} {k:Str}
theorem ZwB (h0:0<=first) (h1:first<=3652058) (hk:k∈Jm) (hn:0<=n/\n<=59):ZL (Zbg first k n) (Za9 first k n):=by
 unfold Zbg Za9;refine ZL.word (Z16 (by decide)) Z3b (ZL.spc ?_);refine ZL.word (Z16 (by decide)) Z3b (ZL.spc ?_);refine ZL.word (Z16 (by decide)) Z3b (ZL.spc ?_);refine ZL.day Z83 h0 h1 (ZL.spc ?_);refine ZL.sym (by decide) (.inr (by decide)) (ZL.spc ?_);refine ZL.word (Z16 (by decide)) Z3b (ZL.spc ?_);refine ZL.word (Z16 (Zey k hk)) Z9y ?_;refine ZL.sym (by decide) (.inr (by decide)) (ZL.spc ?_);refine ZL.word (Z16 (by decide)) Z3b (ZL.spc ?_);refine ZL.word (Z16 (by decide)) Z3b (ZL.spc ?_);refine ZL.sym (by decide) (.inr (by decide)) (ZL.spc ?_);refine ZL.num hn.1 (by omega) Z3b (ZL.spc ?_);refine ZL.word (Z16 (by decide)) Z9y ?_;refine ZL.sym (by decide) (.inr (by decide)) (ZL.spc ?_);exact ZL.sym (by decide) (.inr (by decide)) .nil
theorem Z8X (hn:0<=n/\n<=59):(Lib.itoa n).length<=2:=by
 unfold Lib.itoa;rw [if_neg (by omega)];exact Z0R 1 n.toNat (by omega)
theorem Z8Y (h0:0<=first) (h1:first<=3652058) (hk:k∈Jm) (hn:0<=n/\n<=59):(Zbg first k n).length<=100:=by
 have e1:=(Z83 first h0 h1).1;have e2:=Z8X hn;have e3:∀ s∈Jm,s.length<=6:=by decide
 have e4:=e3 k hk;unfold Zbg;simp;omega
theorem Z10 {a:Tkn} {i:Int} {s:Str} {m:Int} (h:of3 a=(i,s,m)):a=⟨i,a.pos,s,m⟩:=by
 obtain ⟨b,p,t,z⟩:=a;simp only [of3,Prod.mk.injEq] at h;obtain ⟨rfl,rfl,rfl⟩:=h;rfl
def ZkR (l:List Tkn):Ps:=match Z20 l (l.length+1) [] 0 0 with
 | .err a c=>.err a c
 | .ok rs _ _=>.ok rs
def Zbh:List UInt8:=[48,49,50,51,52,53,54,55,56,57]
theorem Zhb (hn:0<=n/\n<=59):∃ c∈Zbh,∃ r,Lib.itoa n=c :: r:=by
 obtain ⟨m,rfl⟩:∃ m:Nat,n=(m:Int):=⟨n.toNat,by omega⟩
 have h:∀ m<60,(match Lib.itoa ((m:Nat):Int) with|[]=>false|c :: _=>Zbh.contains c)=true:=by decide +kernel
 have h2:=h m (by omega)
 revert h2;cases Lib.itoa (m:Int) with
 | nil=>intro h2;cases h2
 | cons c r=>intro h2;exact ⟨c,by simpa using h2,r,rfl⟩
theorem Zt6 (hk:k∈Jm) {d:UInt8} (hd:d∈Zbh) (ds ns:Str) (p1 p2 p3 p4 p5 p6 p7 p8 p9 p10 p11 p12 p13 p14 p15 p:Int):ZkR ([⟨1,p1,[114,117,108,101],0⟩,⟨1,p2,[120],0⟩,⟨1,p3,[102,114,111,109],0⟩,⟨3,p4,64 :: ds,first⟩,⟨4,p5,[123],0⟩,⟨1,p6,[111,110],0⟩,⟨1,p7,k,0⟩,⟨4,p8,[59],0⟩,⟨1,p9,[100,117,101],0⟩,⟨1,p10,[100,97,121],0⟩,⟨4,p11,[43],0⟩,⟨2,p12,d :: ns,n⟩,⟨1,p13,[100,97,121,115],0⟩,⟨4,p14,[59],0⟩,⟨4,p15,[125],0⟩]++[⟨0,p,[],0⟩])=.ok [rlT first k n]:=by
 unfold rlT;simp only [Jm,Zbh,Xb,Xj,or_false] at hk hd;rcases hk with rfl|rfl|rfl|rfl|rfl|rfl<;>rcases hd with rfl|rfl|rfl|rfl|rfl|rfl|rfl|rfl|rfl|rfl<;>kernel_rfl
theorem Zt7 (h0:0<=first) (h1:first<=3652058) (hk:k∈Jm) (hn:0<=n/\n<=59):Z22 (Zbg first k n)=.ok [rlT first k n]:=by
 obtain ⟨l1,p,g1,g2,-⟩:=Z6X (Xg (Z8Y h0 h1 hk hn) (by decide)) (ZwB h0 h1 hk hn);unfold Z22;rw [g1];show ZkR (l1++[⟨0,p,[],0⟩])=_;clear g1;unfold Za9 at g2;obtain ⟨t1,l1,rfl,q1,g2⟩:=XG.1 g2;obtain ⟨t2,l1,rfl,q2,g2⟩:=XG.1 g2;obtain ⟨t3,l1,rfl,q3,g2⟩:=XG.1 g2;obtain ⟨t4,l1,rfl,q4,g2⟩:=XG.1 g2;obtain ⟨t5,l1,rfl,q5,g2⟩:=XG.1 g2;obtain ⟨t6,l1,rfl,q6,g2⟩:=XG.1 g2;obtain ⟨t7,l1,rfl,q7,g2⟩:=XG.1 g2;obtain ⟨t8,l1,rfl,q8,g2⟩:=XG.1 g2;obtain ⟨t9,l1,rfl,q9,g2⟩:=XG.1 g2;obtain ⟨t10,l1,rfl,q10,g2⟩:=XG.1 g2;obtain ⟨t11,l1,rfl,q11,g2⟩:=XG.1 g2;obtain ⟨t12,l1,rfl,q12,g2⟩:=XG.1 g2;obtain ⟨t13,l1,rfl,q13,g2⟩:=XG.1 g2;obtain ⟨t14,l1,rfl,q14,g2⟩:=XG.1 g2;obtain ⟨t15,l1,rfl,q15,g2⟩:=XG.1 g2;obtain rfl:=List.map_eq_nil_iff.1 g2;obtain ⟨d,hd,r,hr⟩:=Zhb hn;rw [hr] at q12;rw [Z10 q1,Z10 q2,Z10 q3,Z10 q4,Z10 q5,Z10 q6,Z10 q7,Z10 q8,Z10 q9,Z10 q10,Z10 q11,Z10 q12,Z10 q13,Z10 q14,Z10 q15];exact Zt6 hk hd _ _ _ _ _ _ _ _ _ _ _ _ _ _ _ _ _ _
theorem Zt8 (h0:0<=first) (h1:first<=3652058) (hk:k∈Jm) (hn:0<=n/\n<=59):∀ l,Z00 (Zbg first k n)=.ok l->∀ t∈l,t.text∉Z3u:=λl hl t ht hb=>by
 obtain ⟨l1,p,g1,g2,-⟩:=Z6X (Xg (Z8Y h0 h1 hk hn) (by decide)) (ZwB h0 h1 hk hn);have e:=g1.symm.trans hl;simp only [Tks.ok.injEq] at e;subst e;rcases Xi.1 ht with ht|ht
 . have hm:of3 t∈Za9 first k n:=g2 ▸ XK.2 ⟨t,ht,rfl⟩
   have bg:∀ q∈Za9 first k n,q.2.1∉Z3u:=by
    have hi:∀ m:Nat,m<60->Lib.itoa (m:Int)∉Z3u:=by
     intro m hm;have h2:∀ s∈Z3u,s.getD 0 0<48\/57<s.getD 0 0:=by decide
     intro hc;have h3:=h2 _ hc;have:∀ m<60,¬ ((Lib.itoa ((m:Nat):Int)).getD 0 0<48\/57<(Lib.itoa ((m:Nat):Int)).getD 0 0):=by decide +kernel
     exact this m hm h3
    intro q hq;unfold Za9 at hq;have hd:(64 :: Z2J first:Str)∉Z3u:=by
     have h2:∀ s∈Z3u,s.getD 0 0≠64:=by decide
     intro hc;exact h2 _ hc rfl
    have dT:∀ s∈Jm,s∉Z3u:=by decide
    simp only [Xb,Xj,or_false] at hq;rcases hq with rfl|rfl|rfl|rfl|rfl|rfl|rfl|rfl|rfl|rfl|rfl|rfl|rfl|rfl|rfl
    all_goals first|exact hd|exact dT k hk|(have:=hi n.toNat (by omega);rwa [Yax hn.1] at this)|(dsimp only;decide)
   exact bg _ hm hb
 obtain rfl:=Xk.1 ht;exact absurd hb (show ([]:Str)∉Z3u by decide)
theorem ZwC (hn:0<=n/\n<=59):Ze (.mk 1 n [] [])=1:=by
 rw [Ze];simp [JB,Z0M];omega
theorem ZwD (hn:0<=n/\n<=59):Ze (.mk 7 0 [100,97,121,115] [.mk 4 0 [100,97,121] [],.mk 1 n [] []])=3:=by
 rw [Ze,Xs,Xs,XL,ZwC hn,Ze];kernel_rfl
theorem ZwE:Zz (.mk 7 0 [100,97,121,115] [.mk 4 0 [100,97,121] [],.mk 1 n [] []])=2:=by
 rw [Zz,Xs,Xs,XL,Zz,Zz];kernel_rfl
theorem Zon:ZU (.mk 7 0 [100,97,121,115] [.mk 4 0 [100,97,121] [],.mk 1 n [] []])=[⟨4,0⟩,⟨1,n⟩,⟨15,0⟩,⟨24,0⟩]:=by
 rw [ZU,Zd,Xs,Xs,XL];simp only [Zd8];kernel_rfl
theorem ZkS (h0:0<=first) (h1:first<=3652058) (hk:k∈Jm) (hn:0<=n/\n<=59):Z0r (rlT first k n).rul=0:=by
 have c1:(rlT first k n).rul.cnd=.mk 2 1 [] []:=rfl;have c2:(rlT first k n).rul.due=.mk 7 0 [100,97,121,115] [.mk 4 0 [100,97,121] [],.mk 1 n [] []]:=rfl;have c3:Jf (rlT first k n).rul=true:=by
  simp only [Jm,Xb,Xj,or_false] at hk;rcases hk with rfl|rfl|rfl|rfl|rfl|rfl<;>kernel_rfl
 have c4:¬ ((rlT first k n).rul.frm<0\/(rlT first k n).rul.frm > 3652058):=by
  show ¬ (first<0\/first > 3652058);omega
 unfold Z0r Z0J;rw [c1,c2,c3];simp only [Z1H,Z0B,Zoh,ZwD hn,Zoi,ZwE,Zft,Zon,if_neg c4];exact (show _=(0:Int) by kernel_rfl)
theorem ZwF (h0:0<=first) (h1:first<=3652058) (hk:k∈Jm) (hn:0<=n/\n<=59):crF (rlT first k n).rul=crT first k n:=by
 unfold crF;rw [if_pos (ZkS h0 h1 hk hn)];have c1:(rlT first k n).rul.cnd=.mk 2 1 [] []:=rfl;have c2:(rlT first k n).rul.due=.mk 7 0 [100,97,121,115] [.mk 4 0 [100,97,121] [],.mk 1 n [] []]:=rfl;rw [c1,c2,Zft,Zon];rfl
theorem Zxt (h0:0<=first) (h1:first<=3652058) (hk:k∈Jm) (hn:0<=n/\n<=59):Zb9 (crT first k n)=0:=ZwF h0 h1 hk hn ▸ (Z8R (rlT first k n).rul (ZkS h0 h1 hk hn)).2
def Z0F (c:Cas) (first:Int) (k:Str) (n:Int):Cas:={ c with ruls:=[crT first k n],stys:=[] }
theorem ZnP {c:Cas} (h:Z8S c) (h0:0<=first) (h1:first<=3652058) (hk:k∈Jm) (hn:0<=n/\n<=59):Z6J (Z0F c first k n):=by
 obtain ⟨v1,v2⟩:=Z8T (Zxt h0 h1 hk hn);have g:=h.cas;refine ⟨⟨g.ok.fl,by show 1<=1024;decide,λq hq=>?_,λq hq=>?_,g.ok.att,g.ok.ext,⟨by show 0<=1000;decide,λs hs=>by cases hs⟩,g.ok.court,g.ok.today⟩,g.fl,by show 1<=4;decide,g.fo,g.nd⟩;obtain rfl:=Xk.1 hq;exact v1;obtain rfl:=Xk.1 hq;exact v2
def Zbi (first:Int) (k:Str) (f:Fct):Bool:=decide (f.kind=k/\first<=f.day)
def dlT (c:Cas) (f:Fct) (n:Int):Dln:=⟨[120],f,f.to_,f.day+n,if f.day+n<c.today then 2 else 0,[⟨1,f.entry,f.day⟩,⟨2,0,0⟩]⟩
theorem ZkT (fs:List Fct) (f:Fct) (due:Int):ZdZ fs f [] due=(default,false):=by
 have e:Z8n fs f [] due=[]:=by
  unfold Z8n;rw [List.filter_eq_nil_iff];intro g _ h;exact (of_decide_eq_true h).1 rfl
 unfold ZdZ;rw [if_pos e]
theorem Zxu {c:Cas} {f:Fct} (hf:0<=f.day/\f.day<=3651000) (hn:0<=n/\n<=59):Z1l (Z0F c first k n) f (0:Nat)=if Zbi first k f=true then (dlT c f n,true) else noD:=by
 have hap:Zgi [crT first k n] [120] f.day=if first<=f.day then 0 else -1:=by
  show (if Zgh [crT first k n] [120] f.day (-1) 0 then ((0:Nat):Int) else -1)=_;have:Zgh [crT first k n] [120] f.day (-1) 0↔first<=f.day:=⟨λh=>h.2.1,λh=>⟨rfl,h,.inl (by decide)⟩⟩
  by_cases h:first<=f.day
  rw [if_pos (this.2 h),if_pos h];rfl;rw [if_neg (λg=>h (this.1 g)),if_neg h]
 have bY:Js (opn (Z0F c first k n)) (evL (Z0F c first k n) f) [⟨2,1⟩,⟨24,0⟩]=(1,[],0):=by kernel_rfl
 have ce:Js (opn (Z0F c first k n)) (evL (Z0F c first k n) f) [⟨4,0⟩,⟨1,n⟩,⟨15,0⟩,⟨24,0⟩]=(f.day+n,[],0):=by
  have hd:Z6s (f.day+n)=(f.day+n,0):=by
   unfold Z6s;rw [if_neg (by omega)]
  have:Js (opn (Z0F c first k n)) (evL (Z0F c first k n) f) [⟨4,0⟩,⟨1,n⟩,⟨15,0⟩,⟨24,0⟩]=if (Z6s (f.day+n)).2=0 then ((Z6s (f.day+n)).1,[],0) else (0,[],(Z6s (f.day+n)).2):=by
   simp [Js,Z6t,Z05,Z0b,Zck,arM,Z3x,JX,evL]
  rw [this,hd];rfl
 have hx:Z8t f.day (f.day+n) []=(f.day+n,0):=by
  unfold Z8t;by_cases h:f.day+n<=f.day;rw [if_pos h];rw [if_neg h];have:Z8s f.day (Z3g []) (f.day+n)=f.day+n:=by kernel_rfl
  rw [this,if_neg (by omega)]
 have hu:∀ e,Z77 f.day e []=[]:=λe=>by unfold Z77;split<;>rfl
 unfold Z1l;rw [if_neg (by show ¬ ¬ (0<=((0:Nat):Int)/\((0:Nat):Int)<=((1:Nat):Int) - 1);decide)];have hq:(Z0F c first k n).ruls.getD ((0:Nat):Int).toNat crZ=crT first k n:=rfl
 rw [hq];dsimp only;have cB:(¬ (crT first k n).on=f.kind\/¬ Zgi (Z0F c first k n).ruls (crT first k n).name f.day=((0:Nat):Int))↔¬ Zbi first k f=true:=by
  show (¬ k=f.kind\/¬ Zgi [crT first k n] [120] f.day=0)↔_;rw [hap];unfold Zbi;rw [decide_eq_true_eq];by_cases h1:k=f.kind;by_cases h2:first<=f.day
  simp [h1,h2];simp [h1,h2];exact ⟨λ_ h=>h1 h.1.symm,λ_=>.inl h1⟩
 by_cases pl:Zbi first k f=true
 rw [if_neg (λh=>(cB.1 h) pl),if_pos pl];have e1:(crT first k n).cnd=[⟨2,1⟩,⟨24,0⟩]:=rfl;have e2:(crT first k n).due=[⟨4,0⟩,⟨1,n⟩,⟨15,0⟩,⟨24,0⟩]:=rfl;rw [e1,e2,bY,ce];have e3:(Z0F c first k n).stys=[]:=rfl;dsimp only;rw [if_neg (by decide),if_neg (by decide),e3,hx];dsimp only;rw [if_neg (by decide),if_pos rfl];unfold mkD dlT;have e4:(crT first k n).unl=[]:=rfl;have e5:Z2P [⟨2,1⟩,⟨24,0⟩]=false:=by decide
 have e6:Z2P [⟨4,0⟩,⟨1,n⟩,⟨15,0⟩,⟨24,0⟩]=false:=by
  unfold Z2P;simp
 dsimp only;rw [e4,ZkT,e1,e2,e3,hu,e5,e6];simp [Z0F,crT];rfl;rw [if_pos (cB.2 pl),if_neg pl]
theorem ZkU (c:Cas):Z1g (Z0F c first k n)=[]:=by
 have aj:∀ (l:List DI) (s:List Fct×List Fct),(∀ p∈l,p.2<1)->l.foldl (Z0t (Z0F c first k n)) s=s:=by
  intro l
  induction l with
  | nil=>intro s _;rfl
  | cons p l ih=>
    intro s h;have hp:p.2=0:=by have:=h p (by simp);omega
    have e:(Z9a (Z0F c first k n) p.1 p.2).2=false:=by
     unfold Z9a;dsimp only;rw [hp];exact decide_eq_false (λh=>h.2.1 rfl)
    rw [X2];have:Z0t (Z0F c first k n) s p=s:=by
     unfold Z0t;dsimp only;rw [e,if_neg (by simp)]
    rw [this];exact ih s (λq hq=>h q (by simp [hq]))
 have h2:∀ j,(ZX (Z0F c first k n) j).2.2=[]:=by
  intro j
  induction j with
  | zero=>rfl
  | succ j ih=>
    rw [ZX];dsimp only;rw [ih,aj _ _ (λp hp=>by obtain ⟨f,hf,hr,-⟩:=ZcS hp;exact hr)];rfl
 unfold Z1g;rw [h2];rfl
theorem ZwG {c:Cas} (hf:∀ f∈c.fcts,0<=f.day/\f.day<=3651000) (hn:0<=n/\n<=59):Z2u (Z0F c first k n)=((Z49 c.fcts).filter (Zbi first k)).map (λf=>dlT c f n):=by
 unfold Z2u;rw [ZkU,XD];have hc:(Z0F c first k n).fcts=c.fcts:=rfl;rw [hc];have hm:∀ f∈Z49 c.fcts,0<=f.day/\f.day<=3651000:=λf h=>hf f ((Z0i _).mem_iff.1 h);generalize Z49 c.fcts=L at hm
 induction L with
 | nil=>rfl
 | cons f L ih=>
   have e:Z1z (Z0F c first k n) (f :: L)=Z4N (Z0F c first k n) f 1++Z1z (Z0F c first k n) L:=rfl;rw [e,XQ,ih (λg hg=>hm g (by simp [hg]))];have e2:Z4N (Z0F c first k n) f 1=if (Z1l (Z0F c first k n) f (0:Nat)).2=true then [((Z1l (Z0F c first k n) f (0:Nat)).1,0)] else []:=by
    rw [Z4N,Z4N,XT]
   rw [e2,Zxu (hm f (by simp)) hn,List.filter_cons];cases Zbi first k f<;>rfl
end
open Go Go.Eng Go.RowKit Go.Proofs
theorem ZnQ (rl:Str) (f:Fct) (p d s:Int) (w):(Instr.build 56 #[(0,str rl),(1,aG f),(2,.I p),(3,.I d),(4,.I s)]).run Tryz.prog w=.ok (.agg (dlC ⟨rl,f,p,d,s,[]⟩ (.N)).toArray) w:=by kernel_rfl
theorem Z7B (a b c:Int) (w):(Instr.build 67 #[(0,.I a),(1,.I b),(2,.I c)]).run Tryz.prog w=.ok (aG (⟨a,b,c⟩:Rsn)) w:=by kernel_rfl
theorem ZnR (a:Int) (w):(Instr.build 67 #[(0,.I a)]).run Tryz.prog w=.ok (aG (⟨a,0,0⟩:Rsn)) w:=by kernel_rfl
theorem Zda (x y:Rsn) (w):(Instr.buildSlice 54 2 #[(0,aG x),(1,aG y)]).run Tryz.prog w=.ok (.slice (some ⟨w.heap.size,0,none⟩) 2 2) (w.alloc (.cells (Z3.enc x++Z3.enc y).toArray 67)):=by kernel_rfl
theorem Z3o (c:Cas) (R:Z1e) (due st:Int) (mv ev:Value) (more:List Rsn) (evs:List Fct) (w) (m:Int) (hF:SlV [] w Z2x Zf) (fe:w.cell? ⟨2,0,none⟩=some (.I m))
 (hv:Z2B w c R) (hs:Z6J c) (ho:Zd6 c) (dB:∀ Y,Stp [] w Y->CC 114 #[.agg (Z0h c.cal R.hv R.lv R.zo R.zs R.hr).toArray] Y λr w'=>r=.I 0/\Stp [] Y w')
 (hd:Z2u c=[Z0Z due st more]) (hf:Z1g c=evs) (h0:∃ l,c.fcts=Zo :: l) (me:SlV [] w mv more) (sj:SlV [] w ev evs) (bP:more.length<=10) :
 CC 40 #[.agg (JG c R).toArray,.I due,.I st,mv,ev] w λr w'=>r=.B true/\Stp [] w w':=by
 obtain ⟨l0,cR⟩:=h0;refine cW5 48 Tryz.func40 ?_;refine W ?_;refine BX (Stp.refl [] w) λb5 w1 h5 e5 _ hS=>?_;replace e5:Blk w1 b5 37 (JG c R):=e5;refine QO ?_;refine CL (Z50 c R _ (hv.up hS) hs) ?_;rintro dv w2 ⟨eT,hT⟩;rw [hd] at eT;have fU:SlV [] w2 dv [Z0Z due st more]:=Row.slv (X:=[]) eT (by simp);have jD:0 < [Z0Z due st more].length:=by simp
 replace e5:=e5.up hT;replace hS:=hS.trans hT;clear eT hT;refine QO ?_;refine CP hS (Zbe c R _ m (hF.up hS) (hS.cell (by simp) fe) (hv.up hS) ho (λY h=>dB Y (hS.trans h))) λw3 hT hS=>?_
 replace e5:=e5.up hT;replace fU:=fU.up hT;clear hT;refine QO ?_;refine CL (Z6M c R _ (hv.up hS) hs) ?_;rintro fv w4 gK;rw [hf] at gK;have pm:SlV [] w4 fv evs:=gK.slv (by simp);have hT:=gK.2;replace e5:=e5.up hT;replace fU:=fU.up hT;replace hS:=hS.trans hT;clear gK hT;refine QO ?_;refine CP hS (Z9i fv ev evs evs _ pm (sj.up hS)) λw5 hT hS=>?_;rw [decide_eq_true rfl];replace e5:=e5.up hT;replace fU:=fU.up hT;clear hT pm;have js:SlV [] w5 R.fv c.fcts:=(hv.up hS).ff;rw [cR] at js;have dE:0<(Zo :: l0).length:=by simp
 refine QO ?_;refine Z8 rfl (ZnQ [114] Zo 2 due st) rfl ?_;refine Z1 Z2 rfl ?_;rintro _ w6 ⟨b,rfl,hb,e6,hT⟩;have zS:=hS.size;have n5:b5≠b:=by have:=e5.lt;omega
 replace e5:=e5.up hT;have jy:SlV [b] w6 dv [Z0Z due st more]:=fU.ext hT (by simp) (λc hc=>.inr (by simp at hc;omega));have lH:SlV [b] w6 mv more:=me.ext (hS.trans hT) (by simp) (λc hc=>.inr (by simp at hc;omega));replace hS:=hS.trans hT;clear hT fU js;refine Z4 (Zb (us:=dlC ⟨[114],Zo,2,due,st,[]⟩ (.N)) rfl rfl rfl rfl (λu hu=>by
  simp only [Xb,Xj,or_false] at hu;rcases hu with rfl|rfl|rfl|rfl|rfl|rfl|rfl|rfl|rfl|rfl|rfl<;>rfl) e6 rfl) ?_
 rintro _ w7 ⟨hT,e6⟩;replace e5:=e5.ext hT (by simpa using n5);replace jy:=jy.ext (X':=[b]) hT (by simp) (λc hc=>.inl hc);replace lH:=lH.ext (X':=[b]) hT (by simp) (λc hc=>.inl hc);replace hS:=hS.ow hT;clear hT;have l6:=e6.lt;have l57:=e5.lt;refine QO ?_;refine Z8 rfl (Z7B 1 4 739616) rfl ?_;refine W ?_;refine Z8 rfl (ZnR 2) rfl ?_;refine Z1 (Z0 rfl (Zda ⟨1,4,739616⟩ ⟨2,0,0⟩)) rfl ?_;rintro tv w8 hN;have ab:Row [b] w8 w7.heap.size 67 tv [(⟨1,4,739616⟩:Rsn),⟨2,0,0⟩]:=Z29 (X:=[]) (hN.row (Xn _) rfl (by simp) (by simp [maxLen]));have bq:=λc hc=>ab.ob_le c hc;have hT:=Z5.stp hN;have jg:SlV (ob tv++[b]) w8 mv more:=lH.ext hT (by simp) (λc hc=>by
  rcases Xi.1 hc with h|h
  exact .inr (bq c h).1;exact .inl h)
 replace e5:=e5.up hT;replace e6:=e6.up hT;have oc:SlV (ob tv++[b]) w8 dv [Z0Z due st more]:=jy.ext hT (by simp) (λc hc=>by
  rcases Xi.1 hc with h|h
  exact .inr (bq c h).1;exact .inl h)
 have zS7:=hS.size;replace hS:=hS.trans hT;have zT:=hT.size;clear hT hN lH;refine W ?_;refine Z1 (J4 (α:=Rsn) (X:=[b]) (base:=w7.heap.size) rfl (by decide) rfl rfl ab jg (Xg (Xp _ (show [(⟨1,4,739616⟩:Rsn),⟨2,0,0⟩].length+more.length<=20 by simp;omega)) (by decide)) (by simp [maxLen];omega) (by omega)) rfl ?_;rintro qv w9 ⟨iF,hT,xm⟩;replace e5:=e5.ext hT (λh=>by have:=bq _ h;omega);replace e6:=e6.ext hT (λh=>by have:=bq _ h;omega);have od:SlV [b] w9 dv [Z0Z due st more]:=oc.ext hT (λc hc=>by simp [hc]) (λc hc=>.inl (by simp at hc;simp [hc]));replace hS:=hS.own hT (λc hc=>.inr (by have:=bq c hc;omega));clear hT oc jg jy ab;obtain ⟨pq,kq,rfl,-⟩:=id (Row.slv (X:=[b]) iF (by simpa using l6));refine QO ?_;refine Z4 (Zc (u:=.slice pq ([(⟨1,4,739616⟩:Rsn),⟨2,0,0⟩]++more).length kq) rfl rfl rfl rfl e6 (show (10:Nat)<11 by decide)) ?_;rintro _ wA ⟨hT,e6⟩;replace e6:Blk wA b 56 (dlC (Z0Z due st more) (.slice pq ([(⟨1,4,739616⟩:Rsn),⟨2,0,0⟩]++more).length kq)):=e6;have jz:SlV [] wA dv [Z0Z due st more]:=od.ext hT (by simp) (by simp);have sm:SlV [] wA (.slice pq ([(⟨1,4,739616⟩:Rsn),⟨2,0,0⟩]++more).length kq) (Z0Z due st more).reas:=(Row.slv (X:=[b]) iF (by simpa using l6)).ext hT (by simp) (by simp);replace hS:=hS.ow hT;generalize (Value.slice pq ([(⟨1,4,739616⟩:Rsn),⟨2,0,0⟩]++more).length kq)=qv at *;clear hT od iF e5;refine QO ?_;refine ZDr 6 [] [] [(0,0),(1,0),(2,1),(3,1),(4,2),(5,0)] (λw1 ae=>?_);replace jz:=jz.up ae;replace sm:=sm.up ae;replace e6:=e6.up ae;replace hS:=hS.trans ae;clear ae;obtain ⟨csa,⟨ra,rfl,iI⟩,iC⟩:=jz.cell jD;refine QD ?_;refine J7 rfl trivial (λw' aU=>Z28 rfl rfl (jz.up aU) jD ⟨ra,rfl,iI.up aU⟩ (λj u hu=>aU.cell0 (iC j u hu))) rfl ?_;refine QD ?_
 try refine J7 rfl trivial (λw' aU=>Zn rfl rfl (e6.up aU) (us:=dlC (Z0Z due st more) qv) rfl rfl) rfl ?_
 repeat'(first|refine D1 ?_|omega|refine Zy rfl rfl rfl rfl (λhg=>?_) (λhg=>?_)|(refine Zq rfl rfl rfl rfl (λhg=>?_) (λhg=>?_)<;>refine D1 ?_)|fail)
 refine DP hS (Zd7 (Z0Z due st more) ra qv _ iI sm) λw5 hT hS=>?_;refine QD ?_;refine RT ?_;exact ⟨rfl,hS⟩
theorem ZwH:∀ x∈Z4b.cnd++Z4b.due,opP x.op:=by unfold opP;decide +kernel
theorem ZwI:Smp Z3z.cond:=.mk (by decide) (by decide) (λy hy=>by cases hy)
theorem Zxv:Smp Z3z.due:=.mk (by decide) (by decide) (λy hy=>by
 have:y=.mk 4 0 [100,97,121] []\/y=.mk 1 20 [] []:=by simpa [Z3z,Nd.kids] using hy
 rcases this with rfl|rfl<;>exact .mk (by decide) (by decide) (λy hy=>by cases hy))
theorem ZkV:(match Z00 Zfs with|.ok l=>l.all (λt=>!(Z3u.contains t.text))|_=>true)=true:=by kernel_rfl
theorem ZnS:∀ l,Z00 Zfs=.ok l->∀ t∈l,t.text∉Z3u:=λl hl t ht hb=>by
 have h:=ZkV;rw [hl] at h;have h2:=XV.1 h t ht;rw [List.contains_iff_mem.2 hb] at h2;cases h2
theorem Z2B.cell {c:Cas} {R:Z1e} {w} (h:Z2B w c R):∀ u∈JG c R,u.oneCell'=true:=by
 have h1:=h.ff.one;have h2:=h.rr.one;have h3:=h.aa.one;have h4:=h.cc.one;have h5:=h.ss.one;have h6:=h.cal.hols.one;have h7:=h.cal.clos.one;obtain ⟨h8,h9,eZ⟩:=h.one;intro u hu;simp only [JG,Z0h,Xb,Xj,or_false,XA,XT] at hu;rcases hu with rfl|rfl|rfl|rfl|rfl|rfl|rfl|rfl|rfl|rfl|rfl|rfl|rfl|rfl|rfl|rfl|rfl|rfl|rfl<;>first|assumption|rfl
def Z0K (fs:List Fct) (ss:List Spn) (td:Int):Cas:=⟨fs,[Z4b],[],[],ss,z22,0,td⟩
abbrev Z2f:Value:=.N
def exR (fv rv sv:Value):Z1e:=⟨fv,rv,Z2f,Z2f,sv,Z2f,Z2f,.I 0,Z2f,.I 0⟩
theorem Zdb {fs:List Fct} {ss:List Spn} {td:Int} (h1:fs.length<=16) (h2:∀ f∈fs,Z17 f) (h3:fs.Nodup) (h4:Z8r ss) (h5:0<=td/\td<=3652058):Z6J (Z0K fs ss td):=by
 obtain ⟨v1,v2⟩:=Z8T Zol;refine ⟨⟨by show fs.length<=100000;omega,by show 1<=1024;decide,λq hq=>?_,λq hq=>?_,⟨by show 0<=65536;decide,λa ha=>absurd ha (by simp [Z0K]),λa ha=>absurd ha (by simp [Z0K]),λa ha=>absurd ha (by simp [Z0K])⟩,λx hx=>absurd hx (by simp [Z0K]),h4,⟨by show (0:Int)<=0;decide,by show (0:Int)<=15;decide⟩,h5⟩,h1,by show 1<=4;decide,h2,h3⟩;have:q=Z4b:=by simpa [Z0K] using hq
 rw [this];exact v1;have:q=Z4b:=by simpa [Z0K] using hq
 rw [this];exact v2
theorem Zdc {fs:List Fct} {ss:List Spn} {td:Int} (h1:Zd4 [] fs=0) (h2:∀ f∈fs,(f.kind.length:Int)<=maxLen) (h3:Zgs ss=0) (h5:0<=td/\td<=3652058):Zd6 (Z0K fs ss td):=
 ⟨λq hq => by
   have:q=Z4b:=by simpa [Z0K] using hq
   rw [this];exact ZwH,h1,h2,by show 0<=16;decide,λx hx=>absurd hx (by simp [Z0K]),by show 1<=1024;decide,λq hq=>by
   have:q=Z4b:=by simpa [Z0K] using hq
   rw [this];exact Zol,by show 0<=65536;decide,rfl,h3,⟨by show (0:Int)<=0;decide,by show (0:Int)<=15;decide⟩,h5⟩
theorem Zbj {fs:List Fct} {ss:List Spn} {td:Int} {fv rv sv:Value} {w} (hL:Z0I w) (hM:Z3y w) (h1:SlV [] w fv fs) (h2:SlV [] w rv [Z4b]) (h3:SlV [] w sv ss):Z2B w (Z0K fs ss td) (exR fv rv sv):=
 ⟨h1,h2,J0 _ _,J0 _ _,h3,⟨J0 _ _,J0 _ _,hL,hM,⟨rfl,λh hh=>absurd hh (by simp [Z0K,z22]),by show 0<=6;decide⟩⟩,rfl,rfl,rfl⟩
theorem Z64 (fs:List Fct) (ss:List Spn) (td:Int) (fv rv sv:Value) (Y:World):CC 114 #[.agg (Z0h (Z0K fs ss td).cal (exR fv rv sv).hv (exR fv rv sv).lv (exR fv rv sv).zo (exR fv rv sv).zs (exR fv rv sv).hr).toArray] Y λr w'=>r=.I 0/\Stp [] Y w':=Z9h Y
theorem ZnT (p q:Option Addr) (a b c d:Nat) (fs:List Fct) (td:Int) (w):(Instr.build 37 #[(0,.slice p a b),(1,.slice q c d),(7,.I td)]).run Tryz.prog w=.ok (.agg (JG (Z0K fs [] td) (exR (.slice p a b) (.slice q c d) Z2f)).toArray) w:=by kernel_rfl
theorem Zfv (f:Fct) (w):(Instr.buildSlice 24 1 #[(0,aG f)]).run Tryz.prog w=.ok (.slice (some ⟨w.heap.size,0,none⟩) 1 1) (w.alloc (.cells (Z3.enc f).toArray 45)):=by kernel_rfl
theorem ZnU (f g:Fct) (w):(Instr.buildSlice 24 2 #[(0,aG f),(1,aG g)]).run Tryz.prog w=.ok (.slice (some ⟨w.heap.size,0,none⟩) 2 2) (w.alloc (.cells (Z3.enc f++Z3.enc g).toArray 45)):=by kernel_rfl
theorem Zhc (w):(Instr.build 45 #[(0,.I 4),(1,str [99,108,97,105,109]),(2,.I 739616),(3,.I 1),(4,.I 2),(5,.I 50)]).run Tryz.prog w=.ok (aG Zo) w:=by kernel_rfl
def Z1B:Fct:=⟨7,[97,110,115,119,101,114],739636,2,0,0⟩
theorem Zhd (w):(Instr.build 45 #[(0,.I 7),(1,str [97,110,115,119,101,114]),(2,.I 739636),(3,.I 2)]).run Tryz.prog w=.ok (aG Z1B) w:=by kernel_rfl
theorem Zhe (w):(Instr.build 45 #[(0,.I 4),(1,str [108,97,112,115,101]),(2,.I 739637),(3,.I 2),(4,.I 1),(5,.I 50)]).run Tryz.prog w=.ok (aG Z4G) w:=by kernel_rfl
theorem ZkW (x:Rsn) (w):(Instr.buildSlice 54 1 #[(0,aG x)]).run Tryz.prog w=.ok (.slice (some ⟨w.heap.size,0,none⟩) 1 1) (w.alloc (.cells (Z3.enc x).toArray 67)):=by kernel_rfl
theorem Zfw:Z17 Zo:=⟨by decide,by decide,by decide,by decide⟩
theorem ZwJ:Z17 Z1B:=⟨by decide,by decide,by decide,by decide⟩
theorem Zbk {ss:List Spn} {td:Int} (h4:Z8r ss) (h5:0<=td/\td<=3652058):Z6J (Z0K [Zo] ss td):=Zdb (by decide) (λf hf=>by
 have:f=Zo:=by simpa using hf
 rw [this];exact Zfw) (by simp) h4 h5
theorem ZnV {ss:List Spn} {td:Int} (h4:Z8r ss) (h5:0<=td/\td<=3652058):Z6J (Z0K [Zo,Z1B] ss td):=Zdb (by decide) (λf hf=>by
 have:f=Zo\/f=Z1B:=by simpa using hf
 rcases this with h|h
 rw [h];exact Zfw;rw [h];exact ZwJ) (by decide +kernel) h4 h5
theorem Zbl {ss:List Spn} {td:Int} (h4:Zgs ss=0) (h5:0<=td/\td<=3652058):Zd6 (Z0K [Zo] ss td):=Zdc (by decide +kernel) (λf hf=>by
 have:f=Zo:=by simpa using hf
 rw [this];decide +kernel) h4 h5
theorem ZnW {ss:List Spn} {td:Int} (h4:Zgs ss=0) (h5:0<=td/\td<=3652058):Zd6 (Z0K [Zo,Z1B] ss td):=Zdc (by decide +kernel) (λf hf=>by
 have:f=Zo\/f=Z1B:=by simpa using hf
 rcases this with h|h
 rw [h];decide +kernel;rw [h];decide +kernel) h4 h5
theorem sp0:Z8r []:=⟨by decide,by simp⟩
theorem sp1:Z8r [((739620,739621):Spn)]:=⟨by decide,λs hs=>by
 have:s=(739620,739621):=by simpa using hs
 rw [this];decide⟩
theorem ZwK:ZG (.mk 2 1 [] [])=1:=by
 rw [ZG];decide +kernel
theorem ZwL:ZG (.mk 7 0 [100,97,121,115] [.mk 4 0 [100,97,121] [],.mk 1 20 [] []])=3:=by
 rw [ZG,Xs,Xs,XL,ZG,ZG];decide +kernel
theorem Zdd (er:Value) (m:Int) (w) (hF:SlV [] w Z2x Zf) (cY:Z0I w) (lu:Z3y w) (fe:w.cell? ⟨2,0,none⟩=some (.I m)) (eH:w.cell? ⟨8,0,none⟩=some er) (bM:er=.nilIface\/∃ te pe,er=.iface te pe) :
 CC 15 #[] w λr w'=>r=.B true/\Stp [] w w':=by
 refine cW0 58 Tryz.func15 ?_;refine W ?_;refine Z1 (Z6 rfl (ZP rfl) (Z4e [] Zfs [Z3z] er m w (by simp) hF cY fe eH bM (by decide +kernel) ZnS ZnI (by decide) (λr hr=>by
  have:r=Z3z:=by simpa using hr
  subst this;exact ⟨Zeu,by rw [show Z3z.cond=.mk 2 1 [] [] from rfl,ZwK];decide,by rw [show Z3z.due=.mk 7 0 [100,97,121,115] [.mk 4 0 [100,97,121] [],.mk 1 20 [] []] from rfl,ZwL];decide,ZwI,Zxv⟩))) rfl ?_
 rintro _ w1 ⟨rv,rfl,bN,hS⟩;replace bN:SlV [] w1 rv [Z4b]:=by simpa [Zok] using bN
 obtain ⟨pr,kr,rfl,-⟩:=id bN;refine QO ?_;refine Z8 rfl Zhc rfl ?_;refine Z1 Z2 rfl ?_;rintro _ w2 ⟨b3,rfl,dV,e3,hT⟩;refine SA (us:=Z3.enc Zo) e3 ?_;rintro _ w3 ⟨hU,e3⟩;replace hT:=hT.ow hU;replace bN:=bN.up hT;replace hS:=hS.trans hT;clear hT hU;refine QO ?_;refine Z1 (Z0 rfl (Zfv Zo)) rfl ?_;rintro fv w4 hN;have fR:SlV [] w4 fv [Zo]:=hN.slv (by simp) rfl (by simp) (by simp [maxLen]);have hT:=Z5.stp hN;clear hN;replace bN:=bN.up hT;replace e3:=e3.up hT;replace hS:=hS.trans hT;clear hT;obtain ⟨pf,kf,rfl,-⟩:=id fR;refine QO ?_;refine Z8 rfl (ZnT pf pr [Zo].length kf [Z4b].length kr [Zo] 739630) rfl ?_;generalize (Value.slice pf [Zo].length kf)=fv at *;generalize (Value.slice pr [Z4b].length kr)=rv at *;refine Z1 Z2 rfl ?_;rintro _ w5 ⟨b4,rfl,bC,e4,hT⟩;have d5:=Zbj (ss:=[]) (sv:=Z2f) (td:=739630) (cY.up hS) (lu.up hS) fR bN (J0 _ _);refine SB (us:=JG (Z0K [Zo] [] 739630) (exR fv rv Z2f)) d5.cell e4 ?_;rintro _ w6 ⟨hU,e4⟩;replace hT:=hT.ow hU;replace d5:=d5.up hT;replace fR:=fR.up hT;replace bN:=bN.up hT;replace e3:=e3.up hT;replace hS:=hS.trans hT;clear hT hU;refine QO ?_;refine Z1 Z2 rfl ?_;rintro _ w7 ⟨b5,rfl,jS,e5,hT⟩;refine SB (us:=JG (Z0K [Zo] [] 739630) (exR fv rv Z2f)) d5.cell e5 ?_;rintro _ w8 ⟨hU,e5⟩;replace hT:=hT.ow hU;refine QO ?_;refine Z4 (Zc (u:=.I 739640) rfl rfl rfl rfl e5 (show (18:Nat)<19 by decide)) ?_;rintro _ w9 ⟨hU,e5⟩;replace e5:Blk w9 b5 37 (JG (Z0K [Zo] [] 739640) (exR fv rv Z2f)):=e5;replace hT:=hT.ow hU;have gw:Z2B w9 (Z0K [Zo] [] 739640) (exR fv rv Z2f):=Zbj (cY.up (hS.trans hT)) (lu.up (hS.trans hT)) (fR.up hT) (bN.up hT) (J0 _ _);replace d5:=d5.up hT;replace fR:=fR.up hT;replace bN:=bN.up hT;replace e3:=e3.up hT;replace e4:=e4.up hT;replace hS:=hS.trans hT;clear hT hU;refine QO ?_;refine Z1 Z2 rfl ?_;rintro _ wa ⟨b6,rfl,ew,e6,hT⟩;refine SB (us:=JG (Z0K [Zo] [] 739640) (exR fv rv Z2f)) gw.cell e6 ?_;rintro _ wb ⟨hU,e6⟩;replace hT:=hT.ow hU;replace e3:=e3.up hT;refine QO ?_;refine Z8 rfl Zhd rfl ?_;refine Z1 (Z0 rfl (ZnU Zo Z1B)) rfl ?_;rintro fv2 wc hN;have jA:SlV [] wc fv2 [Zo,Z1B]:=hN.slv (by simp) rfl (by simp) (by simp [maxLen]);have l6:=e6.lt;have jZ:SlV [b6] wc fv2 [Zo,Z1B]:=hN.slv (by simpa using l6) rfl (by simp) (by simp [maxLen]);have hU:=Z5.stp hN;clear hN;replace e6:=e6.up hU;replace e3:=e3.up hU;replace hT:=hT.trans hU;obtain ⟨p2,k2,rfl,-⟩:=id jA;refine QO ?_;refine Z4 (Zc (u:=.slice p2 [Zo,Z1B].length k2) rfl rfl rfl rfl e6 (show (0:Nat)<19 by decide)) ?_;rintro _ wd ⟨hU,e6⟩;replace jA:SlV [] wd (.slice p2 [Zo,Z1B].length k2) [Zo,Z1B]:=jZ.ext hU (by simp) (by simp);generalize (Value.slice p2 [Zo,Z1B].length k2)=fv2 at *;replace e6:Blk wd b6 37 (JG (Z0K [Zo,Z1B] [] 739640) (exR fv2 rv Z2f)):=e6;replace hT:=hT.ow hU;have fj:Z2B wd (Z0K [Zo,Z1B] [] 739640) (exR fv2 rv Z2f):=Zbj (cY.up (hS.trans hT)) (lu.up (hS.trans hT)) jA (bN.up hT) (J0 _ _);replace d5:=d5.up hT;replace gw:=gw.up hT;replace fR:=fR.up hT;replace bN:=bN.up hT;replace e4:=e4.up hT;replace e5:=e5.up hT;replace hS:=hS.trans hT;clear hT hU jZ e3;refine QO ?_;refine Z1 Z2 rfl ?_;rintro _ we ⟨b7,rfl,fb,e7,hT⟩;refine SB (us:=JG (Z0K [Zo] [] 739630) (exR fv rv Z2f)) d5.cell e7 ?_;rintro _ wf ⟨hU,e7⟩;replace hT:=hT.ow hU;refine QO ?_;refine Z8 (vs:=[(0,.I 739620),(1,.I 739621)]) rfl (Z8H _ _) rfl ?_;refine Z1 (Z0 rfl (ZgX (739620,739621))) rfl ?_;rintro sv wg hN;have l7:=e7.lt;have lw:SlV [b7] wg sv [((739620,739621):Spn)]:=hN.slv (by simpa using l7) rfl (by simp) (by simp [maxLen]);have hU:=Z5.stp hN;clear hN;replace e7:=e7.up hU;replace hT:=hT.trans hU;obtain ⟨p3,k3,rfl,-⟩:=id lw;refine QO ?_;refine Z4 (Zc (u:=.slice p3 [((739620,739621):Spn)].length k3) rfl rfl rfl rfl e7 (show (4:Nat)<19 by decide)) ?_;rintro _ wh ⟨hU,e7⟩;have eE:SlV [] wh (.slice p3 [((739620,739621):Spn)].length k3) [((739620,739621):Spn)]:=lw.ext hU (by simp) (by simp);generalize (Value.slice p3 [((739620,739621):Spn)].length k3)=sv at *;replace e7:Blk wh b7 37 (JG (Z0K [Zo] [(739620,739621)] 739630) (exR fv rv sv)):=e7;replace hT:=hT.ow hU;have fW:Z2B wh (Z0K [Zo] [(739620,739621)] 739630) (exR fv rv sv):=Zbj (cY.up (hS.trans hT)) (lu.up (hS.trans hT)) (fR.up hT) (bN.up hT) eE;replace d5:=d5.up hT;replace gw:=gw.up hT;replace fj:=fj.up hT;replace e4:=e4.up hT;replace e5:=e5.up hT;replace e6:=e6.up hT;replace hS:=hS.trans hT;clear hT hU lw;refine QO ?_;refine Z8 rfl Zhe rfl ?_;refine Z1 Z2 rfl ?_;rintro _ wi ⟨b8,rfl,fC,e8,hT⟩;refine SA (us:=Z3.enc Z4G) e8 ?_;rintro _ wj ⟨hU,e8⟩;replace hT:=hT.ow hU;replace d5:=d5.up hT;replace gw:=gw.up hT;replace fj:=fj.up hT;replace fW:=fW.up hT;replace e4:=e4.up hT;replace e5:=e5.up hT;replace e6:=e6.up hT;replace e7:=e7.up hT;replace hS:=hS.trans hT;clear hT hU fR bN jA eE;refine QO ?_;refine CP (hv:=ZfA rfl rfl rfl rfl rfl) hS (Z3o (Z0K [Zo] [] 739630) (exR fv rv Z2f) 739636 0 Z2f Z2f [] [] _ m (hF.up hS) (hS.cell (by simp) fe) d5 (Zbk sp0 (by decide)) (Zbl rfl (by decide)) (λY _=>Z64 _ _ _ _ _ _ Y) Zxp Zxl ⟨[],rfl⟩ (J0 _ _) (J0 _ _) (by decide)) λx1 hT hS=>?_
 replace gw:=gw.up hT;replace fj:=fj.up hT;replace fW:=fW.up hT;replace e5:=e5.up hT;replace e6:=e6.up hT;replace e7:=e7.up hT;replace e8:=e8.up hT;clear hT;refine QO ?_;refine Z1 (Z0 rfl (Zfv Z4G)) rfl ?_;rintro lv x2 hN;have kj:SlV [] x2 lv [Z4G]:=hN.slv (by simp) rfl (by simp) (by simp [maxLen]);have hT:=Z5.stp hN;clear hN;replace hS:=hS.trans hT;refine W ?_;refine CP (hv:=ZfA rfl rfl rfl rfl rfl) hS (Z3o (Z0K [Zo] [] 739640) (exR fv rv Z2f) 739636 2 Z2f lv [] [Z4G] _ m (hF.up hS) (hS.cell (by simp) fe) (gw.up hT) (Zbk sp0 (by decide)) (Zbl rfl (by decide)) (λY _=>Z64 _ _ _ _ _ _ Y) Zxq Zxm ⟨[],rfl⟩ (J0 _ _) kj (by decide)) λx3 hU hS=>?_
 replace hT:=hT.trans hU;replace fj:=fj.up hT;replace fW:=fW.up hT;replace e6:=e6.up hT;replace e7:=e7.up hT;clear hT hU;refine QO ?_;refine Z8 rfl (Z7B 6 7 739636) rfl ?_;refine Z1 (Z0 rfl (ZkW ⟨6,7,739636⟩)) rfl ?_;rintro mv x4 hN;have me:SlV [] x4 mv [(⟨6,7,739636⟩:Rsn)]:=hN.slv (by simp) rfl (by simp) (by simp [maxLen]);have hT:=Z5.stp hN;clear hN;replace hS:=hS.trans hT;refine W ?_;refine CP (hv:=ZfA rfl rfl rfl rfl rfl) hS (Z3o (Z0K [Zo,Z1B] [] 739640) (exR fv2 rv Z2f) 739636 1 mv Z2f [⟨6,7,739636⟩] [] _ m (hF.up hS) (hS.cell (by simp) fe) (fj.up hT) (ZnV sp0 (by decide)) (ZnW rfl (by decide)) (λY _=>Z64 _ _ _ _ _ _ Y) Zxr Zxn ⟨[Z1B],rfl⟩ me (J0 _ _) (by decide)) λx5 hU hS=>?_
 replace hT:=hT.trans hU;replace fW:=fW.up hT;replace e7:=e7.up hT;clear hT hU me;refine QO ?_;refine Z8 rfl (Z7B 4 739638 739638) rfl ?_;refine W ?_;refine Z8 rfl (Z7B 5 739620 739621) rfl ?_;refine W ?_;refine Z1 (Z0 rfl (Zda ⟨4,739638,739638⟩ ⟨5,739620,739621⟩)) rfl ?_;rintro mv x6 hN;have me:SlV [] x6 mv [(⟨4,739638,739638⟩:Rsn),⟨5,739620,739621⟩]:=hN.slv (by simp) rfl (by simp) (by simp [maxLen]);have hT:=Z5.stp hN;clear hN;replace hS:=hS.trans hT;refine W ?_;refine CP (hv:=ZfA rfl rfl rfl rfl rfl) hS (Z3o (Z0K [Zo] [(739620,739621)] 739630) (exR fv rv sv) 739638 0 mv Z2f [⟨4,739638,739638⟩,⟨5,739620,739621⟩] [] _ m (hF.up hS) (hS.cell (by simp) fe) (fW.up hT) (Zbk sp1 (by decide)) (Zbl (by decide +kernel) (by decide)) (λY _=>Z64 _ _ _ _ _ _ Y) Zxs Zxo ⟨[],rfl⟩ me (J0 _ _) (by decide)) λx7 hU hS=>?_
 refine RT ?_;exact ⟨rfl,hS⟩
theorem ZkX {α:Type} [Z7 α] {X:List Nat} {w}:SlV X w (.N) ([]:List α):=⟨none,0,rfl,Xn _,by simp [maxLen],λ_=>rfl,λi h=>absurd h (Xu _)⟩
def Zbm (first:Int) (k:Str) (l:List Fct) (i:Nat):Nat:=((l.take i).filter (Zbi first k)).length
theorem Zhf {first:Int} {k:Str} {l:List Fct} {i:Nat} (h:i<l.length):Zbm first k l (i+1)=Zbm first k l i+if l[i].kind=k/\first<=l[i].day then 1 else 0:=by
 unfold Zbm;rw [Xh h,Ya7,Xc];congr 1;by_cases hc:l[i].kind=k/\first<=l[i].day
 have:Zbi first k l[i]=true:=decide_eq_true hc
 simp [this,hc];have:Zbi first k l[i]=false:=decide_eq_false hc
 simp [this,hc]
structure ZwM (c:Cas) (k:Str) (n:Int) (d:Dln):Prop where
 name:d.rule=[120]
 kind:d.trig.kind=k
 due:d.due=d.trig.day+n
 stat:(d.due<c.today->d.stat=2)/\(¬ d.due<c.today->d.stat=0)
 party:d.party=d.trig.to_
 len:d.reas.length=2
 day:0<=d.trig.day/\d.trig.day<=3651000
theorem Zxw {c:Cas} {first n:Int} {k:Str} (hf:∀ f∈c.fcts,0<=f.day/\f.day<=3651000) (hn:0<=n/\n<=59):(Z2u (Z0F c first k n)).length=Zbm first k c.fcts c.fcts.length/\∀ d∈Z2u (Z0F c first k n),ZwM c k n d:=by
 rw [ZwG hf hn];refine ⟨?_,λd hd=>?_⟩;rw [Xt];unfold Zbm;rw [Xo];exact ((Z0i c.fcts).filter _).length_eq;obtain ⟨f,nq,rfl⟩:=XK.1 hd;obtain ⟨g1,g2⟩:=Ybm.1 nq;have g3:f.kind=k/\first<=f.day:=of_decide_eq_true g2
 exact ⟨rfl,g3.1,rfl,⟨λh=>if_pos h,λh=>if_neg h⟩,rfl,rfl,hf f ((Z0i _).mem_iff.1 g1)⟩
theorem ZwN (lv:Value) (l:List Int) (kd n_ fr:Int) (er:Value) (m:Int) (w) (hs:SlV [] w lv l) (hl:∀ a∈l,I64 a) (dP:I64 kd) (hn_:I64 n_) (iV:I64 fr) (hF:SlV [] w Z2x Zf) (cY:Z0I w) (lu:Z3y w) (sq:Zc8 w) (fe:w.cell? ⟨2,0,none⟩=some (.I m)) (eH:w.cell? ⟨8,0,none⟩=some er) (bM:er=.nilIface\/∃ te pe,er=.iface te pe) :
 CC 9 #[lv,.I kd,.I n_,.I fr] w λr w'=>r=.B true/\Stp [] w w':=by
 refine cW4 149 Tryz.func9 ?_;refine W ?_;refine CL (Zen lv l w hs hl cY lu) ?_;rintro _ w1 ⟨c,R,rfl,hv,aA,hS⟩;have bo:=aA.cas;have dE:=aA.fl;have oS:∀ f∈c.fcts,0<=f.day/\f.day<=3651000:=λf hf=>by have:=(aA.fo f hf).day;omega
 refine W ?_;refine Z1 Z2 rfl ?_;rintro _ w2 ⟨b9,rfl,iu,e9,T⟩;refine SB (us:=JG c R) hv.cell e9 ?_;rintro _ w3 ⟨hU,e9⟩;replace T:=T.ow hU;clear hU;repeat'(first|refine W1 ?_|omega|refine VG ?_ ?_<;>intro hg|refine VC ?_ ?_<;>intro hc)
 refine CP T (Jo n_ 60 _ (by decide) hn_) λw4 hT T=>?_
 have r1:=Je (if n_<0 then -(n_+1) else n_) 60 (by decide);generalize (if n_<0 then -(n_+1) else n_) % 60=n at r1 ⊢;replace e9:=e9.up hT;clear hT;repeat'(first|refine W1 ?_|omega|refine VG ?_ ?_<;>intro hg|refine VC ?_ ?_<;>intro hc)
 refine CP T (Jo fr 50 _ (by decide) iV) λw5 hT T=>?_
 have r2:=Je (if fr<0 then -(fr+1) else fr) 50 (by decide);generalize (if fr<0 then -(fr+1) else fr) % 50=z2 at r2 ⊢;replace e9:=e9.up hT;clear hT;repeat'(first|refine W1 ?_|omega|refine VG ?_ ?_<;>intro hg|refine VC ?_ ?_<;>intro hc)
 refine CL (Z9X kd _ dP) ?_;rintro _ w6 ⟨⟨k,hk,rfl⟩,hT⟩;replace e9:=e9.up hT;replace T:=T.trans hT;clear hT;obtain ⟨first,hfirst⟩:∃ first,739616+z2 - 5=first:=⟨_,rfl⟩
 rw [hfirst];have r3:0<=first/\first<=3652058:=by omega
 repeat'(first|refine W1 ?_|omega|refine VG ?_ ?_<;>intro hg|refine VC ?_ ?_<;>intro hc)
 refine CP T (ZdR first _ r3.1 r3.2 ((sq.up hS).up T)) λw7 hT T=>?_;replace e9:=e9.up hT;clear hT;have kl:k.length<=6:=by
  have e3:∀ s∈Jm,s.length<=6:=by decide
  exact e3 k hk
 have dl:=(Z83 first r3.1 r3.2).1;have il:=Z8X (n:=n) (by omega);refine W ?_;refine Z0A rfl rfl (by simp;omega) rfl ?_;refine W ?_;refine Z0A rfl rfl (by simp;omega) rfl ?_;refine W ?_;refine Z0A rfl rfl (by simp;omega) rfl ?_;refine W ?_;refine Z0A rfl rfl (by simp;omega) rfl ?_;refine W ?_;refine CP T (Z4W n _ (by omega) (by omega)) λw8 hT T=>?_
 replace e9:=e9.up hT;clear hT;refine W ?_;refine Z0A rfl rfl (by simp;omega) rfl ?_;refine W ?_;refine Z0A rfl rfl (by simp;omega) rfl ?_;rw [show ((((([114,117,108,101,32,120,32,102,114,111,109,32,64]++Z2J first)++[32,123,32,111,110,32])++k)++[59,32,100,117,101,32,100,97,121,32,43,32])++Lib.itoa n)++[32,100,97,121,115,59,32,125]=Zbg first k n by simp [Zbg]];refine W ?_;have l9:=e9.lt;have ST:=hS.trans T;refine Z1 (Z6 rfl (ZP rfl) (Z4e [b9] (Zbg first k n) [rlT first k n] er m _ (by simpa using l9) (hF.up ST) (cY.up ST) (ST.cell (by simp) fe) (ST.cell (by simp) eH) bM (Xg (Z8Y r3.1 r3.2 hk (by omega)) (by decide)) (Zt8 r3.1 r3.2 hk (by omega)) (Zt7 r3.1 r3.2 hk (by omega)) (show 1<=100 by decide) (λr hr=>by
  obtain rfl:=Xk.1 hr;refine ⟨ZkS r3.1 r3.2 hk (by omega),?_,?_,?_,?_⟩;show ZG (.mk 2 1 [] [])<=1000;rw [ZG];decide;show ZG (.mk 7 0 [100,97,121,115] [.mk 4 0 [100,97,121] [],.mk 1 n [] []])<=1000;simp only [ZG,Xs,XL];decide;exact ZwI;exact .mk (show (7:Int)≠6 by decide) (show (7:Int)≠9 by decide) (λy hy=>by
   simp only [rlT,Nd.kids,Xb,Xj,or_false] at hy;rcases hy with rfl|rfl
   exact .mk (show (4:Int)≠6 by decide) (show (4:Int)≠9 by decide) (λy hy=>by cases hy);exact .mk (show (1:Int)≠6 by decide) (show (1:Int)≠9 by decide) (λy hy=>by cases hy))))) rfl ?_
 rintro _ w9 ⟨sv,rfl,eE,hT⟩;rw [Xs,XL,ZwF r3.1 r3.2 hk (by omega)] at eE;replace e9:=e9.up hT;replace T:=T.trans hT;clear hT ST;obtain ⟨ps,ks,rfl,-⟩:=id eE;repeat'(first|refine W1 ?_|omega|refine VG ?_ ?_<;>intro hg|refine VC ?_ ?_<;>intro hc)
 refine Z4 (Zc (u:=.slice ps [crT first k n].length ks) rfl rfl rfl rfl e9 (show (1:Nat)<19 by decide)) ?_;rintro _ w10 ⟨hU,e9⟩;replace eE:=eE.ext (X':=[b9]) hU (by simp) (λb hb=>.inl hb);replace T:=T.ow hU;clear hU;repeat'(first|refine W1 ?_|omega|refine VG ?_ ?_<;>intro hg|refine VC ?_ ?_<;>intro hc)
 refine Z4 (Zc (u:=.N) rfl rfl rfl rfl e9 (show (4:Nat)<19 by decide)) ?_;rintro _ w11 ⟨hU,e9⟩;replace eE:=eE.ext (X':=[]) hU (by simp) (by simp);replace T:=T.ow hU;clear hU;replace e9:Blk w11 b9 37 (JG (Z0F c first k n) { R with rv:=.slice ps [crT first k n].length ks,sv:=.N }):=e9;have mg:=hv.up T;have mh:Z2B w11 (Z0F c first k n) { R with rv:=.slice ps [crT first k n].length ks,sv:=.N }:=⟨mg.ff,eE,mg.aa,mg.cc,ZkX,mg.cal,mg.one⟩
 have nS:=ZnP (n:=n) aA r3.1 r3.2 hk (by omega);obtain ⟨fJ,aB⟩:=Zxw (first:=first) (k:=k) (n:=n) oS (by omega);have xn:=ZkU (first:=first) (k:=k) (n:=n) c;have ef:(Z0F c first k n).fcts=c.fcts:=rfl;have et:(Z0F c first k n).today=c.today:=rfl;have lZ:=bo.ok.today;replace hS:=hS.trans T;clear T mg hv eE aA;rw [<- ef] at fJ dE;rw [<- et] at lZ;have eu:∀ d∈Z2u (Z0F c first k n),ZwM (Z0F c first k n) k n d:=λd hd=>let h:=aB d hd;⟨h.name,h.kind,h.due,h.stat,h.party,h.len,h.day⟩
 clear aB ef et oS bo;generalize Z0F c first k n=C at *
 generalize ({ R with rv:=.slice ps [crT first k n].length ks,sv:=.N }:Z1e)=Q at *;repeat'(first|refine W1 ?_|omega|refine VG ?_ ?_<;>intro hg|refine VC ?_ ?_<;>intro hc)
 refine CL (Z50 C Q _ mh nS) ?_;rintro dv w12 ⟨eT,hT⟩;have hd:SlV [] w12 dv (Z2u C):=Row.slv (X:=[]) eT (by simp);replace e9:=e9.up hT;replace mh:=mh.up hT;replace hS:=hS.trans hT;clear hT eT;generalize Z2u C=D at *;have yr:=hd.max;have ub:Zbm first k C.fcts 0=0:=rfl
 refine W ?_;refine LP (σ:=Nat) (λi=>[(9,pQ b9),(10,.I n),(11,.I first),(12,str k),(15,dv),(16,.I (Zbm first k C.fcts i:Int)),(17,.I (i:Int))]) (λi W=>i<=C.fcts.length/\Stp [] w12 W) (λi=>C.fcts.length - i) 0 ⟨Xq _,Stp.refl _ _⟩ ?_;rintro i y ⟨hi,hY⟩;have f9:=e9.up hY;have js:=(mh.up hY).ff;by_cases ag:i<C.fcts.length;have ay:=Zhf (first:=first) (k:=k) ag;have aL:Zbm first k C.fcts i<=8:=by
  unfold Zbm;refine Xg (XZ _ _) ?_;rw [Xv];omega
 focus repeat'(first|refine W1 ?_|omega|refine VG ?_ ?_<;>intro hg|refine VC ?_ ?_<;>intro hc)
 have h1:C.fcts[i].kind=k:=by assumption
 have h2:first<=C.fcts[i].day:=by omega
 rw [if_pos ⟨h1,h2⟩] at ay;refine Zx (i+1) ⟨rfl,rfl,rfl,rfl,rfl,?_,rfl,trivial⟩ ⟨ag,hY⟩ (XE ag (XP i));rw [ay];rfl;have h2:¬ first<=C.fcts[i].day:=by omega
 rw [if_neg (λh=>h2 h.2)] at ay;refine Zx (i+1) ⟨rfl,rfl,rfl,rfl,rfl,?_,rfl,trivial⟩ ⟨ag,hY⟩ (XE ag (XP i));rw [ay];rfl;have h1:¬ C.fcts[i].kind=k:=by assumption
 rw [if_neg (λh=>h1 h.1)] at ay;refine Zx (i+1) ⟨rfl,rfl,rfl,rfl,rfl,?_,rfl,trivial⟩ ⟨ag,hY⟩ (XE ag (XP i));rw [ay];rfl;obtain rfl:i=C.fcts.length:=by omega
 have kp:=hd.up hY;have uc:=mh.up hY;replace hS:=hS.trans hY;rw [<- fJ];clear hY hd e9 mh;focus repeat'(first|refine W1 ?_|omega|refine VG ?_ ?_<;>intro hg|refine VC ?_ ?_<;>intro hc)
 refine CL (Z6M C Q _ uc nS) ?_;rintro fv w13 gK;rw [xn] at gK;have pm:SlV [] w13 fv ([]:List Fct):=gK.slv (by simp);have hT:=gK.2;replace f9:=f9.up hT;replace kp:=kp.up hT;replace hS:=hS.trans hT;clear hT gK uc;focus repeat'(first|refine W1 ?_|omega|refine VG ?_ ?_<;>intro hg|refine VC ?_ ?_<;>intro hc)
 refine LP (σ:=Nat) (λi=>[(9,pQ b9),(10,.I n),(12,str k),(15,dv),(18,.I (i:Int))]) (λi W=>i<=D.length/\Stp [] w13 W) (λi=>D.length - i) 0 ⟨Xq _,Stp.refl _ _⟩ ?_;rintro i y ⟨hi,hY⟩;have g9:=f9.up hY;have oM:=kp.up hY;by_cases ag:i<D.length
 . have hx:=eu _ (Xd ag)
   obtain ⟨csa,⟨ra,rfl,iI⟩,iC⟩:=oM.cell ag;repeat'(first|refine W1 ?_|omega|refine VG ?_ ?_<;>intro hg|refine VC ?_ ?_<;>intro hc)
   refine Z9 (Z28 rfl rfl oM ag ⟨ra,rfl,iI⟩ iC) rfl ?_;refine Z1 Z2 rfl ?_;rintro _ wa ⟨b19,rfl,nE,e19,hT⟩;refine Z4 (Zb (us:=dlC D[i] ra) rfl rfl rfl rfl (λu hu=>by
    simp only [Xb,Xj,or_false] at hu;rcases hu with rfl|rfl|rfl|rfl|rfl|rfl|rfl|rfl|rfl|rfl|rfl
    all_goals first|rfl|exact iI.one) e19 rfl) ?_
   rintro _ wb ⟨hU,e19⟩;replace hT:=hT.ow hU;replace g9:=g9.up hT;replace iI:=iI.up hT;replace hY:=hY.trans hT;clear hT hU iC oM;have x1:=hx.name;have x2:=hx.kind;have x3:=hx.due;have x4:=hx.stat;have x5:=hx.party;have x6:=hx.len;have x7:=hx.day;clear eu hx kp pm lZ fJ dE hi;by_cases fP:D[i].due<C.today
   . replace x4:=x4.1 fP
     repeat'(first|refine W1 ?_|omega|refine VG ?_ ?_<;>intro hg|refine VC ?_ ?_<;>intro hc)
     all_goals first|contradiction|exact QL (i+1) ⟨ag,hY⟩ (XE ag (XP i))
   . replace x4:=x4.2 fP
     repeat'(first|refine W1 ?_|omega|refine VG ?_ ?_<;>intro hg|refine VC ?_ ?_<;>intro hc)
     all_goals first|contradiction|exact QL (i+1) ⟨ag,hY⟩ (XE ag (XP i))
 replace hS:=hS.trans hY;focus repeat'(first|refine W1 ?_|omega|refine VG ?_ ?_<;>intro hg|refine VC ?_ ?_<;>intro hc)
 refine CP hS (Zdd er m _ (hF.up hS) (cY.up hS) (lu.up hS) (hS.cell (by simp) fe) (hS.cell (by simp) eH) bM) λy2 _ hS=>?_
 focus repeat'(first|refine W1 ?_|omega|refine VG ?_ ?_<;>intro hg|refine VC ?_ ?_<;>intro hc)
 refine RU ?_;exact ⟨rfl,hS⟩
end Go.Proofs.YtipfkbkkndacjaaGreatDoor
namespace Go.Eng
open Go Go.RowKit Go.Proofs
def Z8Z (P:Program) (w:World) (n:String) (d:DataW Unit):Prop:=∃ g t cs fuel p,P.globalNamed n=some g/\(P.globals[g]?).map (·.type)=some t/\w.var? P n=some cs/\DataW.trod (λ_=>()) P w 0 (λ_=>true) false fuel t cs.toList=some (d,p)
theorem Z4f {P:Program} {w}:∀ (l:List (String×DataW Unit)) (ps:List MemPlace),DataW.LaidVars P w l ps->∀ (n:String) (d:DataW Unit),(n,d)∈l->Z8Z P w n d
 | [],_,_,n,d,h=>by simp at h
 | (n0, d0) :: r, ps, hl, n, d, h => by
   obtain ⟨g,t,cs,fuel,p,q,h1,h2,h3,h4,h5,_⟩:=hl;rcases Xb.1 h with h|h
   cases h;exact ⟨g,t,cs,fuel,p,h1,h2,h3,h4⟩;exact Z4f r q h5 n d h
theorem Zhg {P:Program} {w} {name:String} {g t e n:Nat} {k:IntKind} {zs:List Int} (h:Z8Z P w name (Lib.tabData k zs)) (hg:P.globalNamed name=some g) (jL:(P.globals[g]?).map (·.type)=some t) (ht:P.underlying t=some (.array n e)) (he:P.underlying e=some (.int k)) (xo:P.cellsOf e=1) (nM:P.cellsOf t=n):Lib.TabIs P w name k zs:=by
 obtain ⟨g',t',cs,fuel,p,xp,xq,su,hd⟩:=h;obtain rfl:=X1 (hg.symm.trans xp);obtain rfl:=X1 (jL.symm.trans xq);unfold Lib.TabIs;rw [su,<- Lib.cells_of_tab ht he xo nM hd]
theorem Zez {P:Program} {W:World} {name:String} {g t e n:Nat} {ss:List Str} (hg:P.globalNamed name=some g) (ht:(P.globals[g]?).map (·.type)=some t) (hu:P.underlying t=some (.array n e)) (he:P.underlying e=some .string) (hc:P.cellsOf e=1)
 (hn:ss.length=n) (h:Z8Z P W name (.agg (ss.map (λs=>DataW.lit (.string s))))) :
 ∀ i (hi:i<ss.length),W.cell? ⟨g,i,none⟩=some (str ss[i]):=by
 obtain ⟨g0,t0,cs0,f0,p0,lz,lY,lp,eJ⟩:=h;obtain rfl:=X1 (hg.symm.trans lz);obtain rfl:=X1 (ht.symm.trans lY);obtain ⟨xs,m1,rfl,jR,ai,eI,dw⟩:=DataW.trod_array hu eJ;intro i hi;have h1:=dw i (by omega);rw [hc,YaQ] at h1;have ud:xs[i]?=some (xs[i]'(by omega)):=XU (by omega);rw [ud] at h1;obtain ⟨s,e1,e2,_⟩:=DataW.trod_string he h1;have e3:DataW.agg (ss.map (λs=>DataW.lit (.string s)))=(DataW.agg (xs.map (·.1)):DataW Unit):=congrArg Prod.fst jR;simp only [DataW.agg.injEq] at e3;have e4:(DataW.lit (.string ss[i]):DataW Unit)=(xs[i]'(by omega)).1:=by
  have h2:=congrArg (λl=>l[i]?) e3;simp only [Ybw,ud,XU hi,Ya5,XI] at h2;exact h2
 rw [e2] at e4;simp only [DataW.lit.injEq,Lit.string.injEq] at e4;have hv:=World.var?_cell lz lp i;rw [hv];have h5:cs0.toList[i]?=some (.string s):=by
  have h6:=congrArg (λl=>l[0]?) e1;simpa [Yaf,List.getElem?_drop] using h6
 rw [<- YaW,h5];congr 1;simp only [str,e4]
theorem Zde {P:Program} {W:World} {name:String} {g t:Nat} {ms:Array (String×TypeId)} {d:DataW Unit} (hg:P.globalNamed name=some g) (ht:(P.globals[g]?).map (·.type)=some t) (hu:P.underlying t=some (.interface ms)) (h:Z8Z P W name d) :
 ∃ er,W.cell? ⟨g,0,none⟩=some er/\(er=.nilIface\/∃ te pe,er=.iface te pe):=by
 obtain ⟨g0,t0,cs0,f0,p0,lz,lY,lp,eJ⟩:=h;obtain rfl:=X1 (hg.symm.trans lz);obtain rfl:=X1 (ht.symm.trans lY);have hv:=World.var?_cell lz lp 0;rw [hv];rw [<- YaW];generalize cs0.toList=cs at *;cases f0 with
 | zero=>simp [DataW.trod] at eJ
 | succ f=>
   unfold DataW.trod at eJ;rw [hu] at eJ
   match cs,eJ with
   | [],eJ=>simp at eJ
   | a :: b :: r,eJ=>simp at eJ
   | [x], eJ=>
     refine ⟨x,rfl,?_⟩;cases x with
     | nilIface=>exact .inl rfl
     | iface u v=>exact .inr ⟨u,v,rfl⟩
     | _=>simp at eJ
end Go.Eng
namespace Go.Proofs.YtipfkbkkndacjaaGreatDoor
open Go Go.Eng Go.RowKit Go.Proofs
open Go Go.Eng Go.RowKit Go.Proofs Go.ChangeShapes Go.WideShapes Go.Deep
theorem Zhh {W:World} (h:Z8Z Tryz.prog W "rollbook/holiday.moves" Rows.laid_rollbook_holiday_moves):Z3y W:=by
 obtain ⟨g0,t0,cs0,f0,p0,lz,lY,lp,eJ⟩:=h;have hg:Tryz.prog.globalNamed "rollbook/holiday.moves" = some 4:=by kernel_rfl
 have ht:(Tryz.prog.globals[4]?).map (·.type)=some 374:=by kernel_rfl
 obtain rfl:=X1 (hg.symm.trans lz);obtain rfl:=X1 (ht.symm.trans lY);obtain ⟨xs,m1,rfl,jR,ai,eI,dw⟩:=DataW.trod_array Tryz.underlying374 eJ;have om:Tryz.prog.cellsOf 282=7:=by kernel_rfl
 have e3:(Rows.laid_rollbook_holiday_moves:DataW Unit)=.agg (xs.map (·.1)):=congrArg Prod.fst jR;have e4:(.agg [Lib.tabData .i64 [0,0,0,0,0,0,0],Lib.tabData .i64 [0,0,0,0,0,2,1],Lib.tabData .i64 [0,0,0,0,0,-1,1]]:DataW Unit)=.agg (xs.map (·.1)):=e3;simp only [DataW.agg.injEq] at e4;have row:∀ (k:Nat) (zs:List Int),k<3->[Lib.tabData .i64 [0,0,0,0,0,0,0],Lib.tabData .i64 [0,0,0,0,0,2,1],(Lib.tabData .i64 [0,0,0,0,0,-1,1]:DataW Unit)][k]?=some (Lib.tabData .i64 zs)->(cs0.toList.drop (k * 7)).take 7=zs.map λz=>Value.int .i64 z:=by
  intro k zs hk hz;have h1:=dw k hk;rw [om] at h1;rw [e4,Ybw] at hz;cases hx:xs[k]? with
  | none=>rw [hx] at hz;cases hz
  | some y=>
    rw [hx] at hz h1;have hy:y=(Lib.tabData .i64 zs,y.2):=Prod.ext (X1 hz) rfl;rw [hy] at h1;exact Lib.cells_of_tab (t:=282) (e:=3) (n:=7) Tryz.underlying282 Tryz.underlying3 (by kernel_rfl) om h1
 have r0:=row 0 _ (by omega) rfl;have r1:=row 1 _ (by omega) rfl;have r2:=row 2 _ (by omega) rfl;have au:∀ (k:Nat) (zs:List Int) (j:Nat),(cs0.toList.drop (k * 7)).take 7=(zs.map λz=>Value.int .i64 z)->j<7->j<zs.length->cs0.toList[k * 7+j]?=some (.I (zs.getD j 0)):=by
  intro k zs j hr hj ft;have h6:=congrArg (λl=>l[j]?) hr;simp only [Yaf,List.getElem?_drop,Ybw,if_pos hj] at h6;rw [h6];simp [List.getD,ft]
 intro i u hu;have hi:=(Xx.1 hu).1;have xr:i<21:=hi;have hv:=World.var?_cell hg lp i;rw [hv,<- YaW];by_cases h7:i<7;have h2:=au 0 _ i r0 h7 (by simpa using h7);rw [show 0 * 7+i=i by omega] at h2;rw [h2];have hk:i=0\/i=1\/i=2\/i=3\/i=4\/i=5\/i=6:=by omega
 rcases hk with rfl|rfl|rfl|rfl|rfl|rfl|rfl<;>(simp [Z6u] at hu;subst hu;rfl)
 by_cases dY:i<14;have h2:=au 1 _ (i - 7) r1 (by omega) (by simp;omega);rw [show 1 * 7+(i - 7)=i by omega] at h2;rw [h2];have hk:i=7\/i=8\/i=9\/i=10\/i=11\/i=12\/i=13:=by omega
 rcases hk with rfl|rfl|rfl|rfl|rfl|rfl|rfl<;>(simp [Z6u] at hu;subst hu;rfl)
 have h2:=au 2 _ (i - 14) r2 (by omega) (by simp;omega);rw [show 2 * 7+(i - 14)=i by omega] at h2;rw [h2];have hk:i=14\/i=15\/i=16\/i=17\/i=18\/i=19\/i=20:=by omega
 rcases hk with rfl|rfl|rfl|rfl|rfl|rfl|rfl<;>(simp [Z6u] at hu;subst hu;rfl)
abbrev Z90:List (String×DataW Unit):=[("math/bits.deBruijn32tab",Rows.laid_math_bits_deBruijn32tab),("math/bits.deBruijn64tab",Rows.laid_math_bits_deBruijn64tab),("internal/strconv.uint64pow10",Rows.laid_internal_strconv_uint64pow10),("strconv.ErrRange",Rows.laid_strconv_ErrRange),("strconv.ErrSyntax",Rows.laid_strconv_ErrSyntax),("rollbook/date.lengths",Rows.laid_rollbook_date_lengths),("rollbook/holiday.moves",Rows.laid_rollbook_holiday_moves)]
abbrev Zdf:List (String×DataW Unit):=Z90++[("rollbook/types.fields",Rows.laid_rollbook_types_fields)]
theorem Zdg {W:World} (h1:Z8Z Tryz.prog W "rollbook/date.lengths" Rows.laid_rollbook_date_lengths):Z0I W:=by
 have h2:=Zhg (k:=.i64) (zs:=Z5D) (g:=3) (t:=371) (e:=3) (n:=13) h1 (by kernel_rfl) (by kernel_rfl) Tryz.underlying371 Tryz.underlying3 (by kernel_rfl) (by kernel_rfl);intro i u hu;have hi:=(Xx.1 hu).1;rw [Lib.TabIs.cell h2 (g:=3) (by kernel_rfl) i hi];simp [List.getD,hu]
theorem ZeA {W:World} (h1:Z8Z Tryz.prog W "rollbook/types.fields" Rows.laid_rollbook_types_fields):SlV [] W Z2x Zf:=by
 have hc:=Zez (g:=0) (t:=295) (e:=9) (n:=7) (ss:=Zf) (by kernel_rfl) (by kernel_rfl) Tryz.underlying295 Tryz.underlying9 (by kernel_rfl) rfl h1;have ag:0<W.heap.size:=block_lt_of_cell (a:=⟨0,0,none⟩) (hc 0 (by decide));refine ⟨some ⟨0,0,none⟩,7,rfl,by decide,by decide,(λh=>by cases h),λi hi=>⟨0,0,[str Zf[i]],rfl,ag,by simp,rfl,λj u hu=>?_⟩⟩;have hj:j=0:=by
  have:=(Xx.1 hu).1;simp at this;exact this
 subst hj;simp at hu;subst hu;have:=hc i hi;simpa [Z7.k,Z3.k] using this
structure Zoo (W:World):Prop where
 len:Z0I W
 mov:Z3y W
 err:∃ er,W.cell? ⟨8,0,none⟩=some er/\(er=.nilIface\/∃ te pe,er=.iface te pe)
theorem ZkY {W:World} {l:List (String×DataW Unit)} {ps:List MemPlace} (h:DataW.LaidVars Tryz.prog W l ps) (h1:("rollbook/date.lengths",Rows.laid_rollbook_date_lengths)∈l) (h2:("rollbook/holiday.moves",Rows.laid_rollbook_holiday_moves)∈l) (h3:("strconv.ErrRange",Rows.laid_strconv_ErrRange)∈l):Zoo W:=
 ⟨Zdg (Z4f _ _ h _ _ h1),Zhh (Z4f _ _ h _ _ h2),Zde (g:=8) (t:=197) (by kernel_rfl) (by kernel_rfl) Tryz.underlying197 (Z4f _ _ h _ _ h3)⟩
theorem Zt9 {W:World} (h:laidMetH Tryz.prog Zdf W):Zoo W/\SlV [] W Z2x Zf:=by
 rw [MakeChecks.laidMetH_plain _ _ _ (by kernel_rfl)] at h;obtain ⟨ps,h,_⟩:=h;exact ⟨ZkY h (by simp [Zdf,Z90]) (by simp [Zdf,Z90]) (by simp [Zdf,Z90]),ZeA (Z4f _ _ h _ _ (by simp [Zdf,Z90]))⟩
end Go.Proofs.YtipfkbkkndacjaaGreatDoor
namespace Go.Eng
open Go Go.RowKit Go.Proofs Go.ChangeShapes Go.WideShapes Go.Deep
def Z6N (P:Program) (lo n:Nat):Bool:=(List.range n).all λi=>!((P.funcs[lo+i]?).any Func.goes)
theorem Z0U {P:Program} {lo n g:Nat} (h:Z6N P lo n=true) (h1:lo<=g) (h2:g<lo+n):(P.funcs[g]?).any Func.goes=false:=by
 have:=XV.1 h (g - lo) (YbJ.2 (by omega));rw [show lo+(g - lo)=g by omega] at this;simpa using this
theorem ZwR {P:Program} (h:∀ g:Nat,(P.funcs[g]?).any Func.goes=false) {c:OpenClaim} (hs:c.start=.entering):false=c.goesBy P:=by
 symm;have aB:P.funcs.any Func.goes=false:=by
  rw [Array.any_eq_false];intro i hi hg;have:=h i;rw [Array.getElem?_eq_getElem hi] at this;simp only [Option.any_some] at this;rw [this] at hg;cases hg
 have iX:∀ f,P.goes f=false:=by
  intro f;unfold Program.goes;rw [aB,YbI,Bool.or_false];rw [Ybu];intro hc;have ce:=hc;simp [h] at ce
 unfold OpenClaim.goesBy Program.goesAt Program.goesFrom;rw [hs];cases hf:P.funcNamed c.func with
 | none=>rfl
 | some f=>simp [iX]
theorem ZnX {P:Program} {f:FuncId} {fn:Func} {s:ChangeSpec} {c:OpenClaim} (a1:c.wf (OpenSpec.ofChange s)=true) (a2:laidOutB P=true) (a3:mapsRowed P=true) (a4:fn.params.all (P.readableRec ·)=true) (a5:namedTie P c.named s.vars=true)
 (a6:((c.stops == []) && (P.stops == []) && (c.knobs == []) && (P.stopKnobs == []))=true)
 (h2:(c.inPlace == P.inPlace f)=true) (h3:(c.unfollowed == P.unfollowed f)=true) (h4:(c.recurses == P.recurses f)=true) (h5:(c.named == P.varsNamed f)=true)
 (h6 : ((c.maps == (fn.params.toList ++ s.plain.varTypes P).any (P.mapsRec ·)) && (c.ifaces == (fn.params.toList ++ s.plain.varTypes P).any (P.ifacesRec ·)) && (c.mapsOut == P.mapsAmong fn.resultTypes.toList) &&
   (c.loops == (fn.params.toList++s.plain.varTypes P).any (P.loopsFrom ·)) && (c.wideKeys == (fn.params.toList++s.plain.varTypes P++fn.resultTypes.toList).any (P.wideKeysFrom ·)) &&
   s.vars.all (P.varReadable ·) && fn.resultTypes.all (λt=>P.readableRec t && decide (t<P.types.size)) && (c.ifacesOut == fn.resultTypes.toList.any (P.ifacesRec ·)) && (c.loopsOut == fn.resultTypes.toList.any (P.loopsFrom ·)) && (c.plainKeys == P.plainKeys) && c.shortTexts.isNone && P.stopsHeard && P.mayEnter && (c.lifted == P.liftsFinal) && (P.make == some c.make) && (c.kinds == (if c.domain.isEmpty then [] else fn.params.toList.map λt=>match P.underlying t with|some (.int k)=>some k|_=>none)) && (c.pinned == c.pinnedBy) &&
   (c.veiled == (fn.params.toList++s.plain.varTypes P++fn.resultTypes.toList).any (P.veiledRec ·)) && c.veiledFits P fn.params.toList (fn.params.toList++s.plain.varTypes P++fn.resultTypes.toList))=true) :
 joinedFacts P f fn s c=true:=by
 simp only [Xl] at a6 h6;unfold joinedFacts;simp only [Xl];exact ⟨⟨⟨⟨⟨⟨⟨⟨⟨⟨⟨⟨⟨⟨⟨⟨⟨⟨⟨⟨⟨⟨⟨⟨⟨⟨⟨⟨⟨⟨⟨a1,a2⟩,a3⟩,a4⟩,a5⟩,a6.1.1.1⟩,a6.1.1.2⟩,a6.1.2⟩,a6.2⟩,h2⟩,h3⟩,h4⟩,h5⟩,h6.1.1.1.1.1.1.1.1.1.1.1.1.1.1.1.1.1.1⟩,h6.1.1.1.1.1.1.1.1.1.1.1.1.1.1.1.1.1.2⟩,h6.1.1.1.1.1.1.1.1.1.1.1.1.1.1.1.1.2⟩,h6.1.1.1.1.1.1.1.1.1.1.1.1.1.1.1.2⟩,h6.1.1.1.1.1.1.1.1.1.1.1.1.1.1.2⟩,h6.1.1.1.1.1.1.1.1.1.1.1.1.1.2⟩,h6.1.1.1.1.1.1.1.1.1.1.1.1.2⟩,h6.1.1.1.1.1.1.1.1.1.1.1.2⟩,h6.1.1.1.1.1.1.1.1.1.1.2⟩,h6.1.1.1.1.1.1.1.1.1.2⟩,h6.1.1.1.1.1.1.1.1.2⟩,h6.1.1.1.1.1.1.1.2⟩,h6.1.1.1.1.1.1.2⟩,h6.1.1.1.1.1.2⟩,h6.1.1.1.1.2⟩,h6.1.1.1.2⟩,h6.1.1.2⟩,h6.1.2⟩,h6.2⟩
end Go.Eng
namespace Go.Proofs.YtipfkbkkndacjaaGreatDoor
open Go Go.Eng Go.RowKit Go.Proofs Go.ChangeShapes Go.WideShapes Go.Deep
theorem ZwO:mapsRowed Tryz.prog=true:=by kernel_rfl
theorem ZkZ:Tryz.prog.funcs.size=404:=by kernel_rfl
theorem Zhi:Z6N Tryz.prog 0 34=true:=by kernel_rfl
theorem Zhj:Z6N Tryz.prog 34 34=true:=by kernel_rfl
theorem Zhk:Z6N Tryz.prog 68 34=true:=by kernel_rfl
theorem Zhl:Z6N Tryz.prog 102 34=true:=by kernel_rfl
theorem Zhm:Z6N Tryz.prog 136 34=true:=by kernel_rfl
theorem Zhn:Z6N Tryz.prog 170 34=true:=by kernel_rfl
theorem Zho:Z6N Tryz.prog 204 34=true:=by kernel_rfl
theorem Zhp:Z6N Tryz.prog 238 34=true:=by kernel_rfl
theorem Zhq:Z6N Tryz.prog 272 34=true:=by kernel_rfl
theorem Zhr:Z6N Tryz.prog 306 34=true:=by kernel_rfl
theorem ZeB:Z6N Tryz.prog 340 34=true:=by kernel_rfl
theorem ZeC:Z6N Tryz.prog 374 34=true:=by kernel_rfl
theorem ZwP:∀ g:Nat,(Tryz.prog.funcs[g]?).any Func.goes=false:=λg=>by
 by_cases h:g<404;by_cases h0:g<34;exact Z0U Zhi (by omega) (by omega);by_cases h1:g<68;exact Z0U Zhj (by omega) (by omega);by_cases h2:g<102;exact Z0U Zhk (by omega) (by omega);by_cases h3:g<136;exact Z0U Zhl (by omega) (by omega);by_cases h4:g<170;exact Z0U Zhm (by omega) (by omega);by_cases h5:g<204;exact Z0U Zhn (by omega) (by omega);by_cases h6:g<238;exact Z0U Zho (by omega) (by omega);by_cases h7:g<272;exact Z0U Zhp (by omega) (by omega);by_cases h8:g<306;exact Z0U Zhq (by omega) (by omega);by_cases h9:g<340;exact Z0U Zhr (by omega) (by omega);by_cases eZ:g<374;exact Z0U ZeB (by omega) (by omega);exact Z0U ZeC (by omega) (by omega);rw [Yah (by rw [ZkZ];omega)];rfl
end Go.Proofs.YtipfkbkkndacjaaGreatDoor
