/-
Contracts and plain laws, merged out of own texts.
-/
import Derived.Test.YtipfkbkkndacjaaGreatDoorM6
import Derived.JoinedOf
set_option linter.unusedVariables false
set_option linter.unusedSimpArgs false
set_option maxHeartbeats 4000000
set_option maxRecDepth 20000
namespace Go.Proofs.YtipfkbkkndacjaaGreatDoor
open Go Go.Eng Go.RowKit Go.Proofs
theorem Z8y (X:List Nat) (s:Str) (rs:List RuleM) (er:Value) (m:Int) (w:World) (hX:∀ b∈X,b<w.heap.size) (hF:SlV [] w Z2q Zf) (hLG:Z0E w) (hmm:w.cell? ⟨2,0,none⟩=some (.I m)) (hv4:w.cell? ⟨8,0,none⟩=some er) (hev:er=.nilIface∨∃ te pe,er=.iface te pe) (hl:s.length≤1000000) (hpl:∀ l,Z0x s=.ok l→∀ t∈l,t.text∉Z8F)
 (hp:Z31 s=.ok rs) (h4:rs.length≤100) (hr0:∀ r∈rs,Z0z r.rul=0∧ZM r.cond≤1000∧ZM r.due≤1000∧Smp r.cond∧Smp r.due) :
 CC 29 #[str s] w fun r w'=>∃ v,r=.tuple #[v,.B true]∧SlV X w' v (rs.map (fun r=>crF r.rul))∧Stp [] w w':=by
 refine cW1 40 Tryz.func29 ?_;refine W ?_;refine CL (Zh3 X s er m w hX hLG hmm hv4 hev hl hpl) ?_;rintro rv w1 ⟨hr,hS⟩;rw [hp] at hr;obtain ⟨gv,rfl,hgv⟩:=hr;have hmg:=hgv.max;have hlr:(rs.map RuleM.rul).length=rs.length:=Xs ..;have hX1:∀ b∈X,b<w1.heap.size:=fun b hb=>Xa (hX b hb) hS.size;refine QO ?_;refine LP (σ:=Nat×Value) (fun q=>[(0,str s),(4,gv),(7,q.2),(8,.I (q.1:Int))]) (fun q W=>q.1≤rs.length∧Row X W w1.heap.size 62 q.2 ((rs.take q.1).map (fun r=>crF r.rul))∧Stp [] w1 W) (fun q=>rs.length - q.1) (0,.N) ⟨Xq _,Row.nil,Stp.refl _ _⟩ ?_;rintro ⟨j,ov⟩ y1 ⟨hj,hrow,hT⟩;dsimp only at hj hrow ⊢;have hob:=fun b hb=>hrow.ob_le b hb;have hgvY:SlV X y1 gv (rs.map RuleM.rul):=hgv.up hT;by_cases hlt:j<rs.length;have hli:j<(rs.map RuleM.rul).length:=by omega
 obtain ⟨hG,hz1,hz2,hs1,hs2⟩:=hr0 _ (Xd hlt);have hri:(rs.map RuleM.rul)[j]=rs[j].rul:=by simp
 have htk:(rs.take (j+1)).map (fun r=>crF r.rul)=(rs.take j).map (fun r=>crF r.rul)++[crF rs[j].rul]:=by
  rw [Xi hlt,XI];rfl
 have hlen:((rs.take j).map (fun r=>crF r.rul)).length≤100:=by rw [Xs,Xt];omega
 obtain ⟨ka,kb,hka,hkb,hca⟩:=ZjD hgvY hli;rw [hri] at hka hkb;have hSy:=hS.trans hT;refine QO ?_;refine Z4 (Z7S rfl rfl hgvY hli hca) rfl ?_;rw [hri];refine CM (ZX rfl) (ZjF _ rs[j].rul _ ⟨ka,kb,rfl,hka.wk (by simp),hkb.wk (by simp)⟩ hs1 hs2 hz1 hz2 (hF.up hSy) m (hSy.cell (by simp) hmm)) ?_;rintro _ y2 ⟨cv,rfl,hcv,hU⟩;obtain ⟨k1,d1,rfl,hk1,hd1⟩:=hcv (ob ov++X) (fun b hb=>by
  have:=hT.size;rcases Xh.1 hb with h|h
  exact (hob b h).2;have:=hX1 b h;omega)
 clear hcv hgvY hka hkb hca;rw [hG];replace hrow:=hrow.up hU;replace hT:=hT.trans hU;clear hU;refine W ?_;refine Z1 Z2 rfl ?_;rintro _ y3 ⟨b7,rfl,hb7,e7,hU⟩;have hob2:=fun b hb=>hrow.ob_le b hb;replace hrow:=hrow.ext (X':=b7 :: X) hU (by simp) (fun b hb=>by
  rcases Xb.1 hb with rfl|h
  exact .inr hb7;exact .inl h)
 have nb7:∀ b∈b7 :: (ob ov++X),b∈ob ov++X∨y2.heap.size≤b:=fun b hb=>by
  rcases Xb.1 hb with rfl|h
  exact .inr hb7;exact .inl h
 replace hk1:=hk1.ext hU (by simp) nb7;replace hd1:=hd1.ext hU (by simp) nb7;have zT:=hT.size;replace hT:=hT.trans hU;clear hU;refine SB (us:=crC (crF rs[j].rul) k1 d1) (Z0n hk1 hd1) e7 ?_;rintro _ y4 ⟨hU,e7⟩;replace hrow:=hrow.ext (X':=X) hU (fun b hb=>by
  simp only [Xl] at hb;subst hb;exact ⟨by simp,fun h=>by have:=(hob2 _ h).2;omega⟩) (fun b hb=>.inl (XE _ hb))
 replace hk1:=hk1.ext (X':=ob ov++X) hU (by simp) (fun b hb=>.inl (XE _ hb));replace hd1:=hd1.ext (X':=ob ov++X) hU (by simp) (fun b hb=>.inl (XE _ hb));replace hT:=hT.ow hU;clear hU;have zT4:=hT.size;refine QO ?_;refine APG (X:=X) (base:=w1.heap.size) (crF rs[j].rul) hrow (fun b hb=>by have:=hX1 b hb;omega) (by omega) ⟨k1,d1,rfl,hk1,hd1⟩ (Xg (Xp _ (Nat.succ_le_succ hlen)) (by decide)) (by simp only [maxLen];omega) fun v1 rv' y5 hrow' hU hob'=>?_
 replace hT:=hT.own hU (fun b hb=>.inr (hob2 b hb).1);refine QO ?_;exact QL (j+1,rv') ⟨hlt,by dsimp only;rw [htk];exact hrow',hT⟩ (by dsimp only;omega);obtain rfl:j=rs.length:=by omega
 rw [Xo] at hrow;refine RT ?_;exact ⟨ov,rfl,hrow.slv hX1,hS.trans hT⟩
theorem Zob (rl:Str) (f:Fct) (p d s:Int) (w):(Instr.build 56 #[(0,str rl),(1,aG f),(2,.I p),(3,.I d),(4,.I s)]).run Tryz.prog w=.ok (.agg (dlC ⟨rl,f,p,d,s,[]⟩ (.N)).toArray) w:=by kernel_rfl
theorem Z7g (a b c:Int) (w):(Instr.build 67 #[(0,.I a),(1,.I b),(2,.I c)]).run Tryz.prog w=.ok (aG (⟨a,b,c⟩:Rsn)) w:=by kernel_rfl
theorem Zoc (a:Int) (w):(Instr.build 67 #[(0,.I a)]).run Tryz.prog w=.ok (aG (⟨a,0,0⟩:Rsn)) w:=by kernel_rfl
theorem ZcZ (x y:Rsn) (w):(Instr.buildSlice 54 2 #[(0,aG x),(1,aG y)]).run Tryz.prog w=.ok (.slice (some ⟨w.heap.size,0,none⟩) 2 2) (w.alloc (.cells (Z3.enc x++Z3.enc y).toArray 67)):=by kernel_rfl
theorem Z3f (c:Cas) (R:Z11) (due st:Int) (mv ev:Value) (more:List Rsn) (evs:List Fct) (w) (m:Int) (hF:SlV [] w Z2q Zf) (hmm:w.cell? ⟨2,0,none⟩=some (.I m))
 (hv:Z1H w c R) (hs:Z3c c) (ho:ZcW c) (hcal:∀ Y,Stp [] w Y→CC 114 #[.agg (Z0e c.cal R.hv R.lv R.zo R.zs R.hr).toArray] Y fun r w'=>r=.I 0∧Stp [] Y w')
 (hd:Z41 c=[Z0U due st more]) (hf:Z0F c=evs) (h0:∃ l,c.fcts=Zo :: l) (hmv:SlV [] w mv more) (hevv:SlV [] w ev evs) (hml:more.length≤10) :
 CC 40 #[.agg (JE c R).toArray,.I due,.I st,mv,ev] w fun r w'=>r=.B true∧Stp [] w w':=by
 obtain ⟨l0,hl0⟩:=h0;refine cW5 48 Tryz.func40 ?_;refine W ?_;refine BX (Stp.refl [] w) fun b5 w1 h5 e5 _ hS=>?_;replace e5:Blk w1 b5 37 (JE c R):=e5;refine QO ?_;refine CL (Z4K c R _ (hv.up hS) hs) ?_;rintro dv w2 ⟨hrd,hT⟩;rw [hd] at hrd;have hsd:SlV [] w2 dv [Z0U due st more]:=Row.slv (X:=[]) hrd (by simp);have hdl:0 < [Z0U due st more].length:=by simp
 replace e5:=e5.up hT;replace hS:=hS.trans hT;clear hrd hT;refine QO ?_;refine CP hS (Zb5 c R _ m (hF.up hS) (hS.cell (by simp) hmm) (hv.up hS) ho (fun Y h=>hcal Y (hS.trans h))) fun w3 hT hS=>?_
 replace e5:=e5.up hT;replace hsd:=hsd.up hT;clear hT;refine QO ?_;refine CL (Z6u c R _ (hv.up hS) hs) ?_;rintro fv w4 hrf;rw [hf] at hrf;have hsf:SlV [] w4 fv evs:=hrf.slv (by simp);have hT:=hrf.2;replace e5:=e5.up hT;replace hsd:=hsd.up hT;replace hS:=hS.trans hT;clear hrf hT;refine QO ?_;refine CP hS (Z8V fv ev evs evs _ hsf (hevv.up hS)) fun w5 hT hS=>?_;rw [decide_eq_true rfl];replace e5:=e5.up hT;replace hsd:=hsd.up hT;clear hT hsf;have hff:SlV [] w5 R.fv c.fcts:=(hv.up hS).ff;rw [hl0] at hff;have hfl:0<(Zo :: l0).length:=by simp
 refine QO ?_;refine Z8 rfl (Zob [114] Zo 2 due st) rfl ?_;refine Z1 Z2 rfl ?_;rintro _ w6 ⟨b,rfl,hb,e6,hT⟩;have zS:=hS.size;have n5:b5≠b:=by have:=e5.lt;omega
 replace e5:=e5.up hT;have hsd6:SlV [b] w6 dv [Z0U due st more]:=hsd.ext hT (by simp) (fun c hc=>.inr (by simp at hc;omega));have hm6:SlV [b] w6 mv more:=hmv.ext (hS.trans hT) (by simp) (fun c hc=>.inr (by simp at hc;omega));replace hS:=hS.trans hT;clear hT hsd hff;refine Z5 (Z9 (us:=dlC ⟨[114],Zo,2,due,st,[]⟩ (.N)) rfl rfl rfl rfl (fun u hu=>by
  simp only [Xb,Xj,or_false] at hu;rcases hu with rfl|rfl|rfl|rfl|rfl|rfl|rfl|rfl|rfl|rfl|rfl<;>rfl) e6 rfl) ?_
 rintro _ w7 ⟨hT,e6⟩;replace e5:=e5.ext hT (by simpa using n5);replace hsd6:=hsd6.ext (X':=[b]) hT (by simp) (fun c hc=>.inl hc);replace hm6:=hm6.ext (X':=[b]) hT (by simp) (fun c hc=>.inl hc);replace hS:=hS.ow hT;clear hT;have l6:=e6.lt;have l57:=e5.lt;refine QO ?_;refine Z8 rfl (Z7g 1 4 739616) rfl ?_;refine W ?_;refine Z8 rfl (Zoc 2) rfl ?_;refine Z1 (Z0 rfl (ZcZ ⟨1,4,739616⟩ ⟨2,0,0⟩)) rfl ?_;rintro tv w8 hN;have hrow:Row [b] w8 w7.heap.size 67 tv [(⟨1,4,739616⟩:Rsn),⟨2,0,0⟩]:=Z20 (X:=[]) (hN.row (Xn _) rfl (by simp) (by simp [maxLen]));have hob:=fun c hc=>hrow.ob_le c hc;have hT:=Z6.stp hN;have hm8:SlV (ob tv++[b]) w8 mv more:=hm6.ext hT (by simp) (fun c hc=>by
  rcases Xh.1 hc with h|h
  exact .inr (hob c h).1;exact .inl h)
 replace e5:=e5.up hT;replace e6:=e6.up hT;have hsd8:SlV (ob tv++[b]) w8 dv [Z0U due st more]:=hsd6.ext hT (by simp) (fun c hc=>by
  rcases Xh.1 hc with h|h
  exact .inr (hob c h).1;exact .inl h)
 have zS7:=hS.size;replace hS:=hS.trans hT;have zT:=hT.size;clear hT hN hm6;refine W ?_;refine Z1 (ZW (α:=Rsn) (X:=[b]) (base:=w7.heap.size) rfl (by decide) rfl rfl hrow hm8 (Xg (Xp _ (show [(⟨1,4,739616⟩:Rsn),⟨2,0,0⟩].length+more.length≤20 by simp;omega)) (by decide)) (by simp [maxLen];omega) (by omega)) rfl ?_;rintro qv w9 ⟨hrow9,hT,hob9⟩;replace e5:=e5.ext hT (fun h=>by have:=hob _ h;omega);replace e6:=e6.ext hT (fun h=>by have:=hob _ h;omega);have hsd9:SlV [b] w9 dv [Z0U due st more]:=hsd8.ext hT (fun c hc=>by simp [hc]) (fun c hc=>.inl (by simp at hc;simp [hc]));replace hS:=hS.own hT (fun c hc=>.inr (by have:=hob c hc;omega));clear hT hsd8 hm8 hsd6 hrow;obtain ⟨pq,kq,rfl,-⟩:=id (Row.slv (X:=[b]) hrow9 (by simpa using l6));refine QO ?_;refine Z5 (Za (u:=.slice pq ([(⟨1,4,739616⟩:Rsn),⟨2,0,0⟩]++more).length kq) rfl rfl rfl rfl e6 (show (10:Nat)<11 by decide)) ?_;rintro _ wA ⟨hT,e6⟩;replace e6:Blk wA b 56 (dlC (Z0U due st more) (.slice pq ([(⟨1,4,739616⟩:Rsn),⟨2,0,0⟩]++more).length kq)):=e6;have hsdA:SlV [] wA dv [Z0U due st more]:=hsd9.ext hT (by simp) (by simp);have hqA:SlV [] wA (.slice pq ([(⟨1,4,739616⟩:Rsn),⟨2,0,0⟩]++more).length kq) (Z0U due st more).reas:=(Row.slv (X:=[b]) hrow9 (by simpa using l6)).ext hT (by simp) (by simp);replace hS:=hS.ow hT;generalize (Value.slice pq ([(⟨1,4,739616⟩:Rsn),⟨2,0,0⟩]++more).length kq)=qv at *;clear hT hsd9 hrow9 e5;refine QO ?_;refine ZDr 6 [] [] [(0,0),(1,0),(2,1),(3,1),(4,2),(5,0)] (fun w1 hS1=>?_);replace hsdA:=hsdA.up hS1;replace hqA:=hqA.up hS1;replace e6:=e6.up hS1;replace hS:=hS.trans hS1;clear hS1;obtain ⟨csa,⟨ra,rfl,hra⟩,hca⟩:=hsdA.cell hdl;refine QD ?_;refine J3 rfl trivial (fun w' hS'=>Z2F rfl rfl (hsdA.up hS') hdl ⟨ra,rfl,hra.up hS'⟩ (fun j u hu=>hS'.cell0 (hca j u hu))) rfl ?_;refine QD ?_
 try refine J3 rfl trivial (fun w' hS'=>Zn rfl rfl (e6.up hS') (us:=dlC (Z0U due st more) qv) rfl rfl) rfl ?_
 repeat'(first|refine D1 ?_|omega|refine Zy rfl rfl rfl rfl (fun hg=>?_) (fun hg=>?_)|(refine Zr rfl rfl rfl rfl (fun hg=>?_) (fun hg=>?_)<;>refine D1 ?_)|fail)
 refine DP hS (ZcX (Z0U due st more) ra qv _ hra hqA) fun w5 hT hS=>?_;refine QD ?_;refine RT ?_;exact ⟨rfl,hS⟩
theorem Zxn:∀ x∈Z42.cnd++Z42.due,opP x.op:=by unfold opP;decide +kernel
theorem Zy7:Smp Z3o.cond:=.mk (by decide) (by decide) (fun y hy=>by cases hy)
theorem Zy8:Smp Z3o.due:=.mk (by decide) (by decide) (fun y hy=>by
 have:y=.mk 4 0 [100,97,121] []∨y=.mk 1 20 [] []:=by simpa [Z3o,Nd.kids] using hy
 rcases this with rfl|rfl<;>exact .mk (by decide) (by decide) (fun y hy=>by cases hy))
theorem ZkW:(match Z0x Zfg with|.ok l=>l.all (fun t=>!(Z8F.contains t.text))|_=>true)=true:=by kernel_rfl
theorem Zod:∀ l,Z0x Zfg=.ok l→∀ t∈l,t.text∉Z8F:=fun l hl t ht hb=>by
 have h:=ZkW;rw [hl] at h;have h2:=XY.1 h t ht;rw [List.contains_iff_mem.2 hb] at h2;cases h2
theorem Z1H.cell {c:Cas} {R:Z11} {w} (h:Z1H w c R):∀ u∈JE c R,u.oneCell'=true:=by
 have h1:=h.ff.one;have h2:=h.rr.one;have h3:=h.aa.one;have h4:=h.cc.one;have h5:=h.ss.one;have h6:=h.cal.hols.one;have h7:=h.cal.clos.one;obtain ⟨h8,h9,h10⟩:=h.one;intro u hu;simp only [JE,Z0e,Xb,Xj,or_false,XR,XL] at hu;rcases hu with rfl|rfl|rfl|rfl|rfl|rfl|rfl|rfl|rfl|rfl|rfl|rfl|rfl|rfl|rfl|rfl|rfl|rfl|rfl<;>first|assumption|rfl
def Z0G (fs:List Fct) (ss:List Spn) (td:Int):Cas:=⟨fs,[Z42],[],[],ss,z22,0,td⟩
abbrev Z27:Value:=.N
def exR (fv rv sv:Value):Z11:=⟨fv,rv,Z27,Z27,sv,Z27,Z27,.I 0,Z27,.I 0⟩
theorem Zd0 {fs:List Fct} {ss:List Spn} {td:Int} (h1:fs.length≤16) (h2:∀ f∈fs,Z0B f) (h3:fs.Nodup) (h4:Z84 ss) (h5:0≤td∧td≤3652058):Z3c (Z0G fs ss td):=by
 obtain ⟨v1,v2⟩:=ZcT ZoF;refine ⟨⟨by show fs.length≤100000;omega,by show 1≤1024;decide,fun q hq=>?_,fun q hq=>?_,⟨by show 0≤65536;decide,fun a ha=>absurd ha (by simp [Z0G]),fun a ha=>absurd ha (by simp [Z0G]),fun a ha=>absurd ha (by simp [Z0G])⟩,fun x hx=>absurd hx (by simp [Z0G]),h4,⟨by show (0:Int)≤0;decide,by show (0:Int)≤15;decide⟩,h5⟩,h1,by show 1≤4;decide,h2,h3⟩;have:q=Z42:=by simpa [Z0G] using hq
 rw [this];exact v1;have:q=Z42:=by simpa [Z0G] using hq
 rw [this];exact v2
theorem Zd1 {fs:List Fct} {ss:List Spn} {td:Int} (h1:ZcU [] fs=0) (h2:∀ f∈fs,(f.kind.length:Int)≤maxLen) (h3:Zgi ss=0) (h5:0≤td∧td≤3652058):ZcW (Z0G fs ss td):=
 ⟨fun q hq => by
   have:q=Z42:=by simpa [Z0G] using hq
   rw [this];exact Zxn,h1,h2,by show 0≤16;decide,fun x hx=>absurd hx (by simp [Z0G]),by show 1≤1024;decide,fun q hq=>by
   have:q=Z42:=by simpa [Z0G] using hq
   rw [this];exact ZoF,by show 0≤65536;decide,rfl,h3,⟨by show (0:Int)≤0;decide,by show (0:Int)≤15;decide⟩,h5⟩
theorem Zb7 {fs:List Fct} {ss:List Spn} {td:Int} {fv rv sv:Value} {w} (hL:Z0E w) (hM:Z3n w) (h1:SlV [] w fv fs) (h2:SlV [] w rv [Z42]) (h3:SlV [] w sv ss):Z1H w (Z0G fs ss td) (exR fv rv sv):=
 ⟨h1,h2,ZZ _ _,ZZ _ _,h3,⟨ZZ _ _,ZZ _ _,hL,hM,⟨rfl,fun h hh=>absurd hh (by simp [Z0G,z22]),by show 0≤6;decide⟩⟩,rfl,rfl,rfl⟩
theorem Z5O (fs:List Fct) (ss:List Spn) (td:Int) (fv rv sv:Value) (Y:World):CC 114 #[.agg (Z0e (Z0G fs ss td).cal (exR fv rv sv).hv (exR fv rv sv).lv (exR fv rv sv).zo (exR fv rv sv).zs (exR fv rv sv).hr).toArray] Y fun r w'=>r=.I 0∧Stp [] Y w':=Z8U Y
theorem Zoe (p q:Option Addr) (a b c d:Nat) (fs:List Fct) (td:Int) (w):(Instr.build 37 #[(0,.slice p a b),(1,.slice q c d),(7,.I td)]).run Tryz.prog w=.ok (.agg (JE (Z0G fs [] td) (exR (.slice p a b) (.slice q c d) Z27)).toArray) w:=by kernel_rfl
theorem Zfi (f:Fct) (w):(Instr.buildSlice 24 1 #[(0,aG f)]).run Tryz.prog w=.ok (.slice (some ⟨w.heap.size,0,none⟩) 1 1) (w.alloc (.cells (Z3.enc f).toArray 45)):=by kernel_rfl
theorem Zof (f g:Fct) (w):(Instr.buildSlice 24 2 #[(0,aG f),(1,aG g)]).run Tryz.prog w=.ok (.slice (some ⟨w.heap.size,0,none⟩) 2 2) (w.alloc (.cells (Z3.enc f++Z3.enc g).toArray 45)):=by kernel_rfl
theorem Zh4 (w):(Instr.build 45 #[(0,.I 4),(1,str [99,108,97,105,109]),(2,.I 739616),(3,.I 1),(4,.I 2),(5,.I 50)]).run Tryz.prog w=.ok (aG Zo) w:=by kernel_rfl
def Z1t:Fct:=⟨7,[97,110,115,119,101,114],739636,2,0,0⟩
theorem Zh5 (w):(Instr.build 45 #[(0,.I 7),(1,str [97,110,115,119,101,114]),(2,.I 739636),(3,.I 2)]).run Tryz.prog w=.ok (aG Z1t) w:=by kernel_rfl
theorem Zh6 (w):(Instr.build 45 #[(0,.I 4),(1,str [108,97,112,115,101]),(2,.I 739637),(3,.I 2),(4,.I 1),(5,.I 50)]).run Tryz.prog w=.ok (aG Z4t) w:=by kernel_rfl
theorem ZkX (x:Rsn) (w):(Instr.buildSlice 54 1 #[(0,aG x)]).run Tryz.prog w=.ok (.slice (some ⟨w.heap.size,0,none⟩) 1 1) (w.alloc (.cells (Z3.enc x).toArray 67)):=by kernel_rfl
theorem Zfj:Z0B Zo:=⟨by decide,by decide,by decide,by decide⟩
theorem Zxo:Z0B Z1t:=⟨by decide,by decide,by decide,by decide⟩
theorem Zb8 {ss:List Spn} {td:Int} (h4:Z84 ss) (h5:0≤td∧td≤3652058):Z3c (Z0G [Zo] ss td):=Zd0 (by decide) (fun f hf=>by
 have:f=Zo:=by simpa using hf
 rw [this];exact Zfj) (by simp) h4 h5
theorem Zog {ss:List Spn} {td:Int} (h4:Z84 ss) (h5:0≤td∧td≤3652058):Z3c (Z0G [Zo,Z1t] ss td):=Zd0 (by decide) (fun f hf=>by
 have:f=Zo∨f=Z1t:=by simpa using hf
 rcases this with h|h
 rw [h];exact Zfj;rw [h];exact Zxo) (by decide +kernel) h4 h5
theorem Zb9 {ss:List Spn} {td:Int} (h4:Zgi ss=0) (h5:0≤td∧td≤3652058):ZcW (Z0G [Zo] ss td):=Zd1 (by decide +kernel) (fun f hf=>by
 have:f=Zo:=by simpa using hf
 rw [this];decide +kernel) h4 h5
theorem Zoh {ss:List Spn} {td:Int} (h4:Zgi ss=0) (h5:0≤td∧td≤3652058):ZcW (Z0G [Zo,Z1t] ss td):=Zd1 (by decide +kernel) (fun f hf=>by
 have:f=Zo∨f=Z1t:=by simpa using hf
 rcases this with h|h
 rw [h];decide +kernel;rw [h];decide +kernel) h4 h5
theorem sp0:Z84 []:=⟨by decide,by simp⟩
theorem sp1:Z84 [((739620,739621):Spn)]:=⟨by decide,fun s hs=>by
 have:s=(739620,739621):=by simpa using hs
 rw [this];decide⟩
theorem Zxp:ZM (.mk 2 1 [] [])=1:=by
 rw [ZM];decide +kernel
theorem Zxq:ZM (.mk 7 0 [100,97,121,115] [.mk 4 0 [100,97,121] [],.mk 1 20 [] []])=3:=by
 rw [ZM,Xy,Xy,XQ,ZM,ZM];decide +kernel
theorem Zd2 (er:Value) (m:Int) (w) (hF:SlV [] w Z2q Zf) (hLG:Z0E w) (hMG:Z3n w) (hmm:w.cell? ⟨2,0,none⟩=some (.I m)) (hv4:w.cell? ⟨8,0,none⟩=some er) (hev:er=.nilIface∨∃ te pe,er=.iface te pe) :
 CC 15 #[] w fun r w'=>r=.B true∧Stp [] w w':=by
 refine cW0 58 Tryz.func15 ?_;refine W ?_;refine Z1 (Zd rfl (ZX rfl) (Z8y [] Zfg [Z3o] er m w (by simp) hF hLG hmm hv4 hev (by decide +kernel) Zod Zo4 (by decide) (fun r hr=>by
  have:r=Z3o:=by simpa using hr
  subst this;exact ⟨Zei,by rw [show Z3o.cond=.mk 2 1 [] [] from rfl,Zxp];decide,by rw [show Z3o.due=.mk 7 0 [100,97,121,115] [.mk 4 0 [100,97,121] [],.mk 1 20 [] []] from rfl,Zxq];decide,Zy7,Zy8⟩))) rfl ?_
 rintro _ w1 ⟨rv,rfl,hrv,hS⟩;replace hrv:SlV [] w1 rv [Z42]:=by simpa [ZoE] using hrv
 obtain ⟨pr,kr,rfl,-⟩:=id hrv;refine QO ?_;refine Z8 rfl Zh4 rfl ?_;refine Z1 Z2 rfl ?_;rintro _ w2 ⟨b3,rfl,hb3,e3,hT⟩;refine SA (us:=Z3.enc Zo) e3 ?_;rintro _ w3 ⟨hU,e3⟩;replace hT:=hT.ow hU;replace hrv:=hrv.up hT;replace hS:=hS.trans hT;clear hT hU;refine QO ?_;refine Z1 (Z0 rfl (Zfi Zo)) rfl ?_;rintro fv w4 hN;have hfv:SlV [] w4 fv [Zo]:=hN.slv (by simp) rfl (by simp) (by simp [maxLen]);have hT:=Z6.stp hN;clear hN;replace hrv:=hrv.up hT;replace e3:=e3.up hT;replace hS:=hS.trans hT;clear hT;obtain ⟨pf,kf,rfl,-⟩:=id hfv;refine QO ?_;refine Z8 rfl (Zoe pf pr [Zo].length kf [Z42].length kr [Zo] 739630) rfl ?_;generalize (Value.slice pf [Zo].length kf)=fv at *;generalize (Value.slice pr [Z42].length kr)=rv at *;refine Z1 Z2 rfl ?_;rintro _ w5 ⟨b4,rfl,hb4,e4,hT⟩;have hva:=Zb7 (ss:=[]) (sv:=Z27) (td:=739630) (hLG.up hS) (hMG.up hS) hfv hrv (ZZ _ _);refine SB (us:=JE (Z0G [Zo] [] 739630) (exR fv rv Z27)) hva.cell e4 ?_;rintro _ w6 ⟨hU,e4⟩;replace hT:=hT.ow hU;replace hva:=hva.up hT;replace hfv:=hfv.up hT;replace hrv:=hrv.up hT;replace e3:=e3.up hT;replace hS:=hS.trans hT;clear hT hU;refine QO ?_;refine Z1 Z2 rfl ?_;rintro _ w7 ⟨b5,rfl,hb5,e5,hT⟩;refine SB (us:=JE (Z0G [Zo] [] 739630) (exR fv rv Z27)) hva.cell e5 ?_;rintro _ w8 ⟨hU,e5⟩;replace hT:=hT.ow hU;refine QO ?_;refine Z5 (Za (u:=.I 739640) rfl rfl rfl rfl e5 (show (18:Nat)<19 by decide)) ?_;rintro _ w9 ⟨hU,e5⟩;replace e5:Blk w9 b5 37 (JE (Z0G [Zo] [] 739640) (exR fv rv Z27)):=e5;replace hT:=hT.ow hU;have hvb:Z1H w9 (Z0G [Zo] [] 739640) (exR fv rv Z27):=Zb7 (hLG.up (hS.trans hT)) (hMG.up (hS.trans hT)) (hfv.up hT) (hrv.up hT) (ZZ _ _);replace hva:=hva.up hT;replace hfv:=hfv.up hT;replace hrv:=hrv.up hT;replace e3:=e3.up hT;replace e4:=e4.up hT;replace hS:=hS.trans hT;clear hT hU;refine QO ?_;refine Z1 Z2 rfl ?_;rintro _ wa ⟨b6,rfl,hb6,e6,hT⟩;refine SB (us:=JE (Z0G [Zo] [] 739640) (exR fv rv Z27)) hvb.cell e6 ?_;rintro _ wb ⟨hU,e6⟩;replace hT:=hT.ow hU;replace e3:=e3.up hT;refine QO ?_;refine Z8 rfl Zh5 rfl ?_;refine Z1 (Z0 rfl (Zof Zo Z1t)) rfl ?_;rintro fv2 wc hN;have hfv2:SlV [] wc fv2 [Zo,Z1t]:=hN.slv (by simp) rfl (by simp) (by simp [maxLen]);have l6:=e6.lt;have hfv2':SlV [b6] wc fv2 [Zo,Z1t]:=hN.slv (by simpa using l6) rfl (by simp) (by simp [maxLen]);have hU:=Z6.stp hN;clear hN;replace e6:=e6.up hU;replace e3:=e3.up hU;replace hT:=hT.trans hU;obtain ⟨p2,k2,rfl,-⟩:=id hfv2;refine QO ?_;refine Z5 (Za (u:=.slice p2 [Zo,Z1t].length k2) rfl rfl rfl rfl e6 (show (0:Nat)<19 by decide)) ?_;rintro _ wd ⟨hU,e6⟩;replace hfv2:SlV [] wd (.slice p2 [Zo,Z1t].length k2) [Zo,Z1t]:=hfv2'.ext hU (by simp) (by simp);generalize (Value.slice p2 [Zo,Z1t].length k2)=fv2 at *;replace e6:Blk wd b6 37 (JE (Z0G [Zo,Z1t] [] 739640) (exR fv2 rv Z27)):=e6;replace hT:=hT.ow hU;have hvc:Z1H wd (Z0G [Zo,Z1t] [] 739640) (exR fv2 rv Z27):=Zb7 (hLG.up (hS.trans hT)) (hMG.up (hS.trans hT)) hfv2 (hrv.up hT) (ZZ _ _);replace hva:=hva.up hT;replace hvb:=hvb.up hT;replace hfv:=hfv.up hT;replace hrv:=hrv.up hT;replace e4:=e4.up hT;replace e5:=e5.up hT;replace hS:=hS.trans hT;clear hT hU hfv2' e3;refine QO ?_;refine Z1 Z2 rfl ?_;rintro _ we ⟨b7,rfl,hb7,e7,hT⟩;refine SB (us:=JE (Z0G [Zo] [] 739630) (exR fv rv Z27)) hva.cell e7 ?_;rintro _ wf ⟨hU,e7⟩;replace hT:=hT.ow hU;refine QO ?_;refine Z8 (vs:=[(0,.I 739620),(1,.I 739621)]) rfl (Z8h _ _) rfl ?_;refine Z1 (Z0 rfl (ZgO (739620,739621))) rfl ?_;rintro sv wg hN;have l7:=e7.lt;have hsv':SlV [b7] wg sv [((739620,739621):Spn)]:=hN.slv (by simpa using l7) rfl (by simp) (by simp [maxLen]);have hU:=Z6.stp hN;clear hN;replace e7:=e7.up hU;replace hT:=hT.trans hU;obtain ⟨p3,k3,rfl,-⟩:=id hsv';refine QO ?_;refine Z5 (Za (u:=.slice p3 [((739620,739621):Spn)].length k3) rfl rfl rfl rfl e7 (show (4:Nat)<19 by decide)) ?_;rintro _ wh ⟨hU,e7⟩;have hsv:SlV [] wh (.slice p3 [((739620,739621):Spn)].length k3) [((739620,739621):Spn)]:=hsv'.ext hU (by simp) (by simp);generalize (Value.slice p3 [((739620,739621):Spn)].length k3)=sv at *;replace e7:Blk wh b7 37 (JE (Z0G [Zo] [(739620,739621)] 739630) (exR fv rv sv)):=e7;replace hT:=hT.ow hU;have hvd:Z1H wh (Z0G [Zo] [(739620,739621)] 739630) (exR fv rv sv):=Zb7 (hLG.up (hS.trans hT)) (hMG.up (hS.trans hT)) (hfv.up hT) (hrv.up hT) hsv;replace hva:=hva.up hT;replace hvb:=hvb.up hT;replace hvc:=hvc.up hT;replace e4:=e4.up hT;replace e5:=e5.up hT;replace e6:=e6.up hT;replace hS:=hS.trans hT;clear hT hU hsv';refine QO ?_;refine Z8 rfl Zh6 rfl ?_;refine Z1 Z2 rfl ?_;rintro _ wi ⟨b8,rfl,hb8,e8,hT⟩;refine SA (us:=Z3.enc Z4t) e8 ?_;rintro _ wj ⟨hU,e8⟩;replace hT:=hT.ow hU;replace hva:=hva.up hT;replace hvb:=hvb.up hT;replace hvc:=hvc.up hT;replace hvd:=hvd.up hT;replace e4:=e4.up hT;replace e5:=e5.up hT;replace e6:=e6.up hT;replace e7:=e7.up hT;replace hS:=hS.trans hT;clear hT hU hfv hrv hfv2 hsv;refine QO ?_;refine CP (hv:=Zfl rfl rfl rfl rfl rfl) hS (Z3f (Z0G [Zo] [] 739630) (exR fv rv Z27) 739636 0 Z27 Z27 [] [] _ m (hF.up hS) (hS.cell (by simp) hmm) hva (Zb8 sp0 (by decide)) (Zb9 rfl (by decide)) (fun Y _=>Z5O _ _ _ _ _ _ Y) Zy3 ZxZ ⟨[],rfl⟩ (ZZ _ _) (ZZ _ _) (by decide)) fun x1 hT hS=>?_
 replace hvb:=hvb.up hT;replace hvc:=hvc.up hT;replace hvd:=hvd.up hT;replace e5:=e5.up hT;replace e6:=e6.up hT;replace e7:=e7.up hT;replace e8:=e8.up hT;clear hT;refine QO ?_;refine Z1 (Z0 rfl (Zfi Z4t)) rfl ?_;rintro lv x2 hN;have hlv:SlV [] x2 lv [Z4t]:=hN.slv (by simp) rfl (by simp) (by simp [maxLen]);have hT:=Z6.stp hN;clear hN;replace hS:=hS.trans hT;refine W ?_;refine CP (hv:=Zfl rfl rfl rfl rfl rfl) hS (Z3f (Z0G [Zo] [] 739640) (exR fv rv Z27) 739636 2 Z27 lv [] [Z4t] _ m (hF.up hS) (hS.cell (by simp) hmm) (hvb.up hT) (Zb8 sp0 (by decide)) (Zb9 rfl (by decide)) (fun Y _=>Z5O _ _ _ _ _ _ Y) Zy4 Zy0 ⟨[],rfl⟩ (ZZ _ _) hlv (by decide)) fun x3 hU hS=>?_
 replace hT:=hT.trans hU;replace hvc:=hvc.up hT;replace hvd:=hvd.up hT;replace e6:=e6.up hT;replace e7:=e7.up hT;clear hT hU;refine QO ?_;refine Z8 rfl (Z7g 6 7 739636) rfl ?_;refine Z1 (Z0 rfl (ZkX ⟨6,7,739636⟩)) rfl ?_;rintro mv x4 hN;have hmv:SlV [] x4 mv [(⟨6,7,739636⟩:Rsn)]:=hN.slv (by simp) rfl (by simp) (by simp [maxLen]);have hT:=Z6.stp hN;clear hN;replace hS:=hS.trans hT;refine W ?_;refine CP (hv:=Zfl rfl rfl rfl rfl rfl) hS (Z3f (Z0G [Zo,Z1t] [] 739640) (exR fv2 rv Z27) 739636 1 mv Z27 [⟨6,7,739636⟩] [] _ m (hF.up hS) (hS.cell (by simp) hmm) (hvc.up hT) (Zog sp0 (by decide)) (Zoh rfl (by decide)) (fun Y _=>Z5O _ _ _ _ _ _ Y) Zy5 Zy1 ⟨[Z1t],rfl⟩ hmv (ZZ _ _) (by decide)) fun x5 hU hS=>?_
 replace hT:=hT.trans hU;replace hvd:=hvd.up hT;replace e7:=e7.up hT;clear hT hU hmv;refine QO ?_;refine Z8 rfl (Z7g 4 739638 739638) rfl ?_;refine W ?_;refine Z8 rfl (Z7g 5 739620 739621) rfl ?_;refine W ?_;refine Z1 (Z0 rfl (ZcZ ⟨4,739638,739638⟩ ⟨5,739620,739621⟩)) rfl ?_;rintro mv x6 hN;have hmv:SlV [] x6 mv [(⟨4,739638,739638⟩:Rsn),⟨5,739620,739621⟩]:=hN.slv (by simp) rfl (by simp) (by simp [maxLen]);have hT:=Z6.stp hN;clear hN;replace hS:=hS.trans hT;refine W ?_;refine CP (hv:=Zfl rfl rfl rfl rfl rfl) hS (Z3f (Z0G [Zo] [(739620,739621)] 739630) (exR fv rv sv) 739638 0 mv Z27 [⟨4,739638,739638⟩,⟨5,739620,739621⟩] [] _ m (hF.up hS) (hS.cell (by simp) hmm) (hvd.up hT) (Zb8 sp1 (by decide)) (Zb9 (by decide +kernel) (by decide)) (fun Y _=>Z5O _ _ _ _ _ _ Y) Zy6 Zy2 ⟨[],rfl⟩ hmv (ZZ _ _) (by decide)) fun x7 hU hS=>?_
 refine RT ?_;exact ⟨rfl,hS⟩
theorem Zd3 (v:Value) (l:List Fct) (w) (hs:SlV [] w v l) (hl:l.length≤1000) :
 CC 20 #[v] w fun r w'=>ZI 3 w w' r (l.map Fct.entry):=by
 have hmx:=hs.max;refine cW1 20 Tryz.func20 ?_;refine W ?_;refine LP (σ:=Nat×Value) (fun q=>[(0,v),(3,q.2),(4,.I (q.1:Int))]) (fun q W=>q.1≤l.length∧Row [] W w.heap.size 3 q.2 ((l.take q.1).map Fct.entry)∧Stp [] w W) (fun q=>l.length - q.1) (0,.N) ⟨Xq _,Row.nil,Stp.refl _ _⟩ ?_;rintro ⟨j,ov⟩ y1 ⟨hj,hrow,hS⟩;dsimp only at hj hrow ⊢;have hob:=fun b hb=>hrow.ob_le b hb;have hs1:=hs.up hS;by_cases hlt:j<l.length;have htk:(l.take (j+1)).map Fct.entry=(l.take j).map Fct.entry++[l[j].entry]:=by
  rw [Xi hlt,XI];rfl
 have hlen:((l.take j).map Fct.entry).length≤1000:=by rw [Xs,Xt];omega
 have zS:=hS.size;refine QO ?_;refine APG (X:=[]) (base:=w.heap.size) (l[j].entry) hrow (by simp) (by omega) rfl (Xg (Xp _ (Nat.succ_le_succ hlen)) (by decide)) (by simp only [maxLen];omega) fun v1 rv' y5 hrow' hU hob'=>?_
 have hS':=hS.own hU (fun b hb=>.inr (hob b hb).1);refine QO ?_;exact QL (j+1,rv') ⟨hlt,by dsimp only;rw [htk];exact hrow',hS'⟩ (by dsimp only;omega);obtain rfl:j=l.length:=by omega
 rw [Xo] at hrow;refine RT ?_;exact ⟨hrow,hS⟩
theorem Z9M (v:Value) (l:List Int) (x:Int) (w) (hs:SlV [] w v l) :
 CC 21 #[v,.I x] w fun r w'=>r=.B (decide (x∈l))∧Stp [] w w':=by
 have hmx:=hs.max;refine cW2 18 Tryz.func21 ?_;refine W ?_;refine LP (σ:=Nat) (fun k=>[(0,v),(1,.I x),(4,.B false),(5,.I (k:Int))]) (fun k w'=>k≤l.length∧Stp [] w w'∧∀ j (h:j<l.length),j<k→l[j]≠x) (fun k=>l.length - k) 0 ⟨Xq _,Stp.refl _ _,fun j _ h=>absurd h (Xu _)⟩ ?_;rintro k w2 ⟨hk,hT,hz⟩;have hs2:=hs.up hT;by_cases hlt:k<l.length
 (refine QP ?_ ?_<;>intro hc)
 refine RU ?_;exact ⟨by rw [decide_eq_true (hc ▸ Xd hlt)],hT⟩;exact QL (k+1) ⟨hlt,hT,fun j h hj=>by
  by_cases e:j=k;subst e;exact hc;exact hz j h (by omega)⟩ (by omega)
 have hno:¬ x∈l:=fun h=>by
  obtain ⟨j,hj,e⟩:=Xr h;exact hz j hj (by omega) e
 refine RT ?_;exact ⟨by rw [decide_eq_false hno],hT⟩
theorem Z1H.facts {c:Cas} {R:Z11} {w} (h:Z1H w c R) {fs:List Fct} {fv:Value} (hf:SlV [] w fv fs):Z1H w { c with fcts:=fs } { R with fv:=fv }:=⟨hf,h.rr,h.aa,h.cc,h.ss,h.cal,h.one⟩
theorem Z3c.sub {c:Cas} (h:Z3c c) {fs:List Fct} (hs:fs.Sublist c.fcts):Z3c { c with fcts:=fs }:=by
 have h1:=hs.length_le;have h2:=h.fl;have h3:=h.ok;exact ⟨⟨by show fs.length≤100000;omega,h3.rl,h3.cnd,h3.due,h3.att,h3.ext,h3.sty,h3.court,h3.today⟩,by show fs.length≤16;omega,h.rl,fun f hf=>h.fo f (hs.subset hf),h.nd.sublist hs⟩
theorem ZkY (w):(Instr.buildSlice 24 0 #[]).run Tryz.prog w=.ok (.slice (some ⟨w.heap.size,0,none⟩) 0 0) (w.alloc (.cells #[] 45)):=by kernel_rfl
theorem Zxr (lv:Value) (l:List Int) (at_:Int) (er:Value) (m:Int) (w) (hs:SlV [] w lv l) (hl:∀ a∈l,I64 a) (ha:I64 at_) (hF:SlV [] w Z2q Zf) (hLG:Z0E w) (hMG:Z3n w) (hmm:w.cell? ⟨2,0,none⟩=some (.I m)) (hv4:w.cell? ⟨8,0,none⟩=some er) (hev:er=.nilIface∨∃ te pe,er=.iface te pe) :
 CC 5 #[lv,.I at_] w fun r w'=>r=.B true∧Stp [] w w':=by
 refine cW2 84 Tryz.func5 ?_;refine W ?_;refine CL (Zed lv l w hs hl hLG hMG) ?_;rintro _ w1 ⟨c,R,rfl,hv,hmk,hS⟩;have hcs:=hmk.cas;have hv1:=hv;have hfl:=hmk.fl;refine W ?_;refine Z1 Z2 rfl ?_;rintro _ w2 ⟨b5,rfl,hb5,e5,hT⟩;have g5:w.heap.size≤b5:=Xg hS.size hb5;refine SB (us:=JE c R) hv.cell e5 ?_;rintro _ w3 ⟨hU,e5⟩;replace hT:=hT.ow hU;replace hv:=hv.up hT;replace hS:=hS.trans hT;have hT13:=hT;clear hT hU;have hvf:=hv.ff;have hfm:=hvf.max;have l5:=e5.lt;refine W ?_;refine JA (σ:=Value×List Fct) (fun q=>[(5,pQ b5)]) (fun q W=>Blk W b5 37 (JE { c with fcts:=q.2 } { R with fv:=q.1 })∧SlV [] W q.1 q.2∧q.2.Sublist c.fcts∧Stp [b5] w3 W) ?_ ?_;by_cases h0:0<c.fcts.length;refine QO ?_;refine CM (Zh rfl rfl) (JC at_ ((c.fcts.length:Int)+1) _ (by omega) ha) ?_;rintro _ w4 ⟨rfl,hT⟩;have hr:=Jm (if at_<0 then -(at_+1) else at_) ((c.fcts.length:Int)+1) (by omega);generalize (if at_<0 then -(at_+1) else at_) % ((c.fcts.length:Int)+1)=y at hr ⊢;obtain ⟨k,rfl⟩:∃ k:Nat,y=(k:Int):=⟨y.toNat,by omega⟩
 have hkl:k≤c.fcts.length:=by omega
 replace hvf:=hvf.up hT;replace e5:=e5.up hT;have hb4:=e5.lt;have z34:=hT.size;refine QO ?_;refine Z1 (Z0 (vs:=[]) rfl ZkY) rfl ?_;rintro o w5 hN;have hrow:Row [] w5 w4.heap.size 45 o ([]:List Fct):=hN.row (Xn _) rfl rfl (by simp [maxLen]);have hob:=fun b hb=>hrow.ob_le b hb;have hU:=Z6.stp hN;clear hN;have hv5:SlV (ob o++[]) w5 R.fv c.fcts:=hvf.ext hU (by simp) (fun b hb=>.inr (hob b (by simpa using hb)).1);replace hvf:=hvf.up hU;replace e5:=e5.up hU;replace hT:=hT.trans hU;have z5:=hU.size;clear hU;refine QO ?_;have hmn:min (k:Int) (c.fcts.length:Int)=((min k c.fcts.length:Nat):Int):=by omega
 refine Z4 (Z1d (r:=min k c.fcts.length) rfl hvf rfl (by omega) (by omega)) rfl ?_;have h1:=hv5.slc (l:=0) (r:=min k c.fcts.length) (by omega) (by omega);rw [Ybm] at h1;have hl1:(c.fcts.take (min k c.fcts.length)).length≤8:=by rw [Xt];omega
 refine Z1 (ZW (α:=Fct) (X:=[]) (base:=w4.heap.size) rfl (by decide) rfl rfl hrow h1 (Xg (Xp _ (show ([]:List Fct).length+(c.fcts.take (min k c.fcts.length)).length≤20 by simp only [Xf];omega)) (by decide)) (by simp only [Xf,maxLen];omega) (by omega)) rfl ?_;rintro o2 w6 ⟨hrow2,hU,hob2⟩;rw [XL] at hrow2;have hobb:=fun b hb=>hrow2.ob_le b hb;have hv6:SlV (ob o2++[]) w6 R.fv c.fcts:=hv5.ext hU (fun b hb=>by simpa using hb) (fun b hb=>by
  rcases hob2 b (by simpa using hb) with h|h
  exact .inl (by simpa using h);exact .inr h)
 replace e5:=e5.ext hU (fun h=>by have:=hob _ h;omega);have z6:=hU.size;have hT6:=hT.own hU (fun b hb=>.inr (by have:=hob b hb;omega));clear hU hvf h1 hrow hv5;have hvf:SlV [] w6 R.fv c.fcts:=hv6.wk (by simp);refine QO ?_;refine Z4 (Z2N (l:=min (k+1) c.fcts.length) rfl hvf rfl (by omega) (by omega)) rfl ?_;have h2:=hv6.slc (l:=min (k+1) c.fcts.length) (r:=c.fcts.length) (by omega) (Xn _);rw [Xo] at h2;have hl2:(c.fcts.drop (min (k+1) c.fcts.length)).length≤8:=by rw [Yaf];omega
 refine Z1 (ZW (α:=Fct) (X:=[]) (base:=w4.heap.size) rfl (by decide) rfl rfl hrow2 h2 (Xg (Xp _ (show (c.fcts.take (min k c.fcts.length)).length+(c.fcts.drop (min (k+1) c.fcts.length)).length≤20 by omega)) (by decide)) (by simp only [maxLen];omega) (by omega)) rfl ?_;rintro o3 w7 ⟨hrow3,hU,hob3⟩;replace e5:=e5.ext hU (fun h=>by have:=hobb _ h;omega);have hT7:=hT6.own hU (fun b hb=>.inr (by have:=hobb b hb;omega));have hsub:(c.fcts.take (min k c.fcts.length)++c.fcts.drop (min (k+1) c.fcts.length)).Sublist c.fcts:=by
  have e:=XB (min k c.fcts.length) c.fcts;have g:(c.fcts.drop (min (k+1) c.fcts.length)).Sublist (c.fcts.drop (min k c.fcts.length)):=by
   have:c.fcts.drop (min (k+1) c.fcts.length)=(c.fcts.drop (min k c.fcts.length)).drop (min (k+1) c.fcts.length - min k c.fcts.length):=by
    rw [List.drop_drop];congr 1;omega
   rw [this];exact List.drop_sublist _ _
  have:=(Ybr (c.fcts.take (min k c.fcts.length))).append g
  rwa [e] at this
 generalize c.fcts.take (min k c.fcts.length)++c.fcts.drop (min (k+1) c.fcts.length)=fs at hrow3 hsub;obtain ⟨p3,k3,rfl,-⟩:=id (Row.slv (X:=[]) hrow3 (by simp));refine QO ?_;refine Z5 (Za (u:=.slice p3 fs.length k3) rfl rfl rfl rfl e5 (show (0:Nat)<19 by decide)) ?_;rintro _ w8 ⟨hU2,e5⟩;replace e5:Blk w8 b5 37 (JE { c with fcts:=fs } { R with fv:=.slice p3 fs.length k3 }):=e5;have hr4:=hrow3.keep hU2 (fun b hb h=>by simp only [Xl] at hb;subst hb;have:=(hrow3.ob_le _ h).1;omega);refine QO ?_;exact QT (.slice p3 fs.length k3,fs) ⟨e5,Row.slv (X:=[]) hr4 (by simp),hsub,hT7.mn.trans hU2⟩;refine QO ?_;exact QT (R.fv,c.fcts) ⟨e5,hvf,Ybr _,Stp.refl _ _⟩;rintro ⟨fv,fs⟩ w4 ⟨e5,hff,hsub,hT⟩;dsimp only at e5 hff hsub;have hvN:Z1H w4 { c with fcts:=fs } { R with fv:=fv }:=(hv1.own hT13 (B:=[b5]) (by simpa using hb5) hT).facts hff;have hcN:=hcs.sub hsub;replace hS:=hS.ow hT;clear hv hv1 hvf hT hT13 hsub hcs hmk;have hD:=ZgW hcN;have hE:=Z8u hcN;generalize ({ c with fcts:=fs }:Cas)=C at *;generalize ({ R with fv:=fv }:Z11)=Q at *;refine QO ?_;refine CM (ZX rfl) (Zd3 Q.fv C.fcts _ hvN.ff (Xg hcN.fl (by decide))) ?_;rintro kv w5 hrk;have hk:SlV [] w5 kv (C.fcts.map Fct.entry):=hrk.slv (by simp);have hT:=hrk.2;replace e5:=e5.up hT;replace hvN:=hvN.up hT;replace hS:=hS.trans hT;clear hT hrk;refine QO ?_;refine CL (Z4K C Q _ hvN hcN) ?_;rintro dv w6 ⟨hrd,hT⟩;have hd:SlV [] w6 dv (Z41 C):=Row.slv (X:=[]) hrd (by simp);replace e5:=e5.up hT;replace hvN:=hvN.up hT;replace hk:=hk.up hT;replace hS:=hS.trans hT;clear hT hrd;refine QO ?_;refine CL (Z6u C Q _ hvN hcN) ?_;rintro ev w7 hre;have he:SlV [] w7 ev (Z0F C):=hre.slv (by simp);have hT:=hre.2;replace hk:=hk.up hT;replace hd:=hd.up hT;replace hS:=hS.trans hT;clear hT hre hvN e5;generalize Z41 C=D at *;generalize Z0F C=E at *;have hdm:=hd.max;have hem:=he.max;refine QO ?_;refine LP (σ:=Nat) (fun j=>[(8,kv),(9,dv),(10,ev),(11,.I (j:Int))]) (fun j W=>j≤D.length∧Stp [] w7 W) (fun j=>D.length - j) 0 ⟨Xq _,Stp.refl _ _⟩ ?_;rintro j y ⟨hj,hT⟩;have hk2:=hk.up hT;have hd2:=hd.up hT;by_cases hlt:j<D.length;have hin:=hD _ (Xd hlt);obtain ⟨csa,⟨ra,rfl,hra⟩,hca⟩:=hd2.cell hlt;refine QO ?_;refine ZaD rfl rfl (hca 1 _ rfl) rfl ?_;refine CP hT (Z9M kv _ D[j].trig.entry _ hk2) fun y2 _ hT=>?_;rw [decide_eq_true hin];refine QO ?_;exact QL (j+1) ⟨hlt,hT⟩ (XM hlt (XS j));replace hS:=hS.trans hT;replace he:=he.up hT;clear hT hd2 hk;refine QO ?_;refine LP (σ:=Nat) (fun j=>[(8,kv),(10,ev),(12,.I (j:Int))]) (fun j W=>j≤E.length∧Stp [] y W) (fun j=>E.length - j) 0 ⟨Xq _,Stp.refl _ _⟩ ?_;rintro i z ⟨hi,hT⟩;have hk3:=hk2.up hT;have he2:=he.up hT;by_cases hlt2:i<E.length;have hin:=hE _ (Xd hlt2);refine QO ?_;refine CP hT (Z9M kv _ E[i].entry _ hk3) fun y2 _ hT=>?_;rw [decide_eq_true hin];refine QO ?_;exact QL (i+1) ⟨hlt2,hT⟩ (XM hlt2 (XS i));replace hS:=hS.trans hT;refine QO ?_;refine CP hS (Zd2 er m _ (hF.up hS) (hLG.up hS) (hMG.up hS) (hS.cell (by simp) hmm) (hS.cell (by simp) hv4) hev) fun y2 _ hS=>?_
 refine RT ?_;exact ⟨rfl,hS⟩
end Go.Proofs.YtipfkbkkndacjaaGreatDoor
namespace Go.Eng
open Go Go.RowKit Go.Proofs
def Z8z (P:Program) (w:World) (n:String) (d:DataW Unit):Prop:=∃ g t cs fuel p,P.globalNamed n=some g∧(P.globals[g]?).map (·.type)=some t∧w.var? P n=some cs∧DataW.trod (fun _=>()) P w 0 (fun _=>true) false fuel t cs.toList=some (d,p)
theorem Z45 {P:Program} {w}:∀ (l:List (String×DataW Unit)) (ps:List MemPlace),DataW.LaidVars P w l ps→∀ (n:String) (d:DataW Unit),(n,d)∈l→Z8z P w n d
 | [],_,_,n,d,h=>by simp at h
 | (n0, d0) :: r, ps, hl, n, d, h => by
   obtain ⟨g,t,cs,fuel,p,q,h1,h2,h3,h4,h5,_⟩:=hl;rcases Xb.1 h with h|h
   cases h;exact ⟨g,t,cs,fuel,p,h1,h2,h3,h4⟩;exact Z45 r q h5 n d h
theorem Zh7 {P:Program} {w} {name:String} {g t e n:Nat} {k:IntKind} {zs:List Int} (h:Z8z P w name (Lib.tabData k zs)) (hg:P.globalNamed name=some g) (hty:(P.globals[g]?).map (·.type)=some t) (ht:P.underlying t=some (.array n e)) (he:P.underlying e=some (.int k)) (hce:P.cellsOf e=1) (hct:P.cellsOf t=n):Lib.TabIs P w name k zs:=by
 obtain ⟨g',t',cs,fuel,p,hg',ht',hvar,hd⟩:=h;obtain rfl:=XX (hg.symm.trans hg');obtain rfl:=XX (hty.symm.trans ht');unfold Lib.TabIs;rw [hvar,← Lib.cells_of_tab ht he hce hct hd]
theorem Zem {P:Program} {W:World} {name:String} {g t e n:Nat} {ss:List Str} (hg:P.globalNamed name=some g) (ht:(P.globals[g]?).map (·.type)=some t) (hu:P.underlying t=some (.array n e)) (he:P.underlying e=some .string) (hc:P.cellsOf e=1)
 (hn:ss.length=n) (h:Z8z P W name (.agg (ss.map (fun s=>DataW.lit (.string s))))) :
 ∀ i (hi:i<ss.length),W.cell? ⟨g,i,none⟩=some (str ss[i]):=by
 obtain ⟨g0,t0,cs0,f0,p0,hg0,ht0,hv0,hd0⟩:=h;obtain rfl:=XX (hg.symm.trans hg0);obtain rfl:=XX (ht.symm.trans ht0);obtain ⟨xs,m1,rfl,hx1,hlen,hn3,hel⟩:=DataW.trod_array hu hd0;intro i hi;have h1:=hel i (by omega);rw [hc,YaM] at h1;have hxi:xs[i]?=some (xs[i]'(by omega)):=XN (by omega);rw [hxi] at h1;obtain ⟨s,e1,e2,_⟩:=DataW.trod_string he h1;have e3:DataW.agg (ss.map (fun s=>DataW.lit (.string s)))=(DataW.agg (xs.map (·.1)):DataW Unit):=congrArg Prod.fst hx1;simp only [DataW.agg.injEq] at e3;have e4:(DataW.lit (.string ss[i]):DataW Unit)=(xs[i]'(by omega)).1:=by
  have h2:=congrArg (fun l=>l[i]?) e3;simp only [Ybu,hxi,XN hi,Ya1,XD] at h2;exact h2
 rw [e2] at e4;simp only [DataW.lit.injEq,Lit.string.injEq] at e4;have hv:=World.var?_cell hg0 hv0 i;rw [hv];have h5:cs0.toList[i]?=some (.string s):=by
  have h6:=congrArg (fun l=>l[0]?) e1;simpa [Yae,List.getElem?_drop] using h6
 rw [← YaR,h5];congr 1;simp only [str,e4]
theorem Zd4 {P:Program} {W:World} {name:String} {g t:Nat} {ms:Array (String×TypeId)} {d:DataW Unit} (hg:P.globalNamed name=some g) (ht:(P.globals[g]?).map (·.type)=some t) (hu:P.underlying t=some (.interface ms)) (h:Z8z P W name d) :
 ∃ er,W.cell? ⟨g,0,none⟩=some er∧(er=.nilIface∨∃ te pe,er=.iface te pe):=by
 obtain ⟨g0,t0,cs0,f0,p0,hg0,ht0,hv0,hd0⟩:=h;obtain rfl:=XX (hg.symm.trans hg0);obtain rfl:=XX (ht.symm.trans ht0);have hv:=World.var?_cell hg0 hv0 0;rw [hv];rw [← YaR];generalize cs0.toList=cs at *;cases f0 with
 | zero=>simp [DataW.trod] at hd0
 | succ f=>
   unfold DataW.trod at hd0;rw [hu] at hd0
   match cs,hd0 with
   | [],hd0=>simp at hd0
   | a :: b :: r,hd0=>simp at hd0
   | [x], hd0=>
     refine ⟨x,rfl,?_⟩;cases x with
     | nilIface=>exact .inl rfl
     | iface u v=>exact .inr ⟨u,v,rfl⟩
     | _=>simp at hd0
end Go.Eng
namespace Go.Proofs.YtipfkbkkndacjaaGreatDoor
open Go Go.Eng Go.RowKit Go.Proofs
open Go Go.Eng Go.RowKit Go.Proofs Go.ChangeShapes Go.WideShapes Go.Deep
theorem Zh8 {W:World} (h:Z8z Tryz.prog W "rollbook/holiday.moves" Rows.laid_rollbook_holiday_moves):Z3n W:=by
 obtain ⟨g0,t0,cs0,f0,p0,hg0,ht0,hv0,hd0⟩:=h;have hg:Tryz.prog.globalNamed "rollbook/holiday.moves" = some 4:=by kernel_rfl
 have ht:(Tryz.prog.globals[4]?).map (·.type)=some 374:=by kernel_rfl
 obtain rfl:=XX (hg.symm.trans hg0);obtain rfl:=XX (ht.symm.trans ht0);obtain ⟨xs,m1,rfl,hx1,hlen,hn3,hel⟩:=DataW.trod_array Tryz.underlying374 hd0;have hc7:Tryz.prog.cellsOf 282=7:=by kernel_rfl
 have e3:(Rows.laid_rollbook_holiday_moves:DataW Unit)=.agg (xs.map (·.1)):=congrArg Prod.fst hx1;have e4:(.agg [Lib.tabData .i64 [0,0,0,0,0,0,0],Lib.tabData .i64 [0,0,0,0,0,2,1],Lib.tabData .i64 [0,0,0,0,0,-1,1]]:DataW Unit)=.agg (xs.map (·.1)):=e3;simp only [DataW.agg.injEq] at e4;have row:∀ (k:Nat) (zs:List Int),k<3→[Lib.tabData .i64 [0,0,0,0,0,0,0],Lib.tabData .i64 [0,0,0,0,0,2,1],(Lib.tabData .i64 [0,0,0,0,0,-1,1]:DataW Unit)][k]?=some (Lib.tabData .i64 zs)→(cs0.toList.drop (k * 7)).take 7=zs.map fun z=>Value.int .i64 z:=by
  intro k zs hk hz;have h1:=hel k hk;rw [hc7] at h1;rw [e4,Ybu] at hz;cases hx:xs[k]? with
  | none=>rw [hx] at hz;cases hz
  | some y=>
    rw [hx] at hz h1;have hy:y=(Lib.tabData .i64 zs,y.2):=Prod.ext (XX hz) rfl;rw [hy] at h1;exact Lib.cells_of_tab (t:=282) (e:=3) (n:=7) Tryz.underlying282 Tryz.underlying3 (by kernel_rfl) hc7 h1
 have r0:=row 0 _ (by omega) rfl;have r1:=row 1 _ (by omega) rfl;have r2:=row 2 _ (by omega) rfl;have hcell:∀ (k:Nat) (zs:List Int) (j:Nat),(cs0.toList.drop (k * 7)).take 7=(zs.map fun z=>Value.int .i64 z)→j<7→j<zs.length→cs0.toList[k * 7+j]?=some (.I (zs.getD j 0)):=by
  intro k zs j hr hj hjl;have h6:=congrArg (fun l=>l[j]?) hr;simp only [Yae,List.getElem?_drop,Ybu,if_pos hj] at h6;rw [h6];simp [List.getD,hjl]
 intro i u hu;have hi:=(Xw.1 hu).1;have hi21:i<21:=hi;have hv:=World.var?_cell hg hv0 i;rw [hv,← YaR];by_cases h7:i<7;have h2:=hcell 0 _ i r0 h7 (by simpa using h7);rw [show 0 * 7+i=i by omega] at h2;rw [h2];have hk:i=0∨i=1∨i=2∨i=3∨i=4∨i=5∨i=6:=by omega
 rcases hk with rfl|rfl|rfl|rfl|rfl|rfl|rfl<;>(simp [Z6d] at hu;subst hu;rfl)
 by_cases h14:i<14;have h2:=hcell 1 _ (i - 7) r1 (by omega) (by simp;omega);rw [show 1 * 7+(i - 7)=i by omega] at h2;rw [h2];have hk:i=7∨i=8∨i=9∨i=10∨i=11∨i=12∨i=13:=by omega
 rcases hk with rfl|rfl|rfl|rfl|rfl|rfl|rfl<;>(simp [Z6d] at hu;subst hu;rfl)
 have h2:=hcell 2 _ (i - 14) r2 (by omega) (by simp;omega);rw [show 2 * 7+(i - 14)=i by omega] at h2;rw [h2];have hk:i=14∨i=15∨i=16∨i=17∨i=18∨i=19∨i=20:=by omega
 rcases hk with rfl|rfl|rfl|rfl|rfl|rfl|rfl<;>(simp [Z6d] at hu;subst hu;rfl)
abbrev Z8A:List (String×DataW Unit):=[("math/bits.deBruijn32tab",Rows.laid_math_bits_deBruijn32tab),("math/bits.deBruijn64tab",Rows.laid_math_bits_deBruijn64tab),("internal/strconv.uint64pow10",Rows.laid_internal_strconv_uint64pow10),("strconv.ErrRange",Rows.laid_strconv_ErrRange),("strconv.ErrSyntax",Rows.laid_strconv_ErrSyntax),("rollbook/date.lengths",Rows.laid_rollbook_date_lengths),("rollbook/holiday.moves",Rows.laid_rollbook_holiday_moves)]
abbrev Zd5:List (String×DataW Unit):=Z8A++[("rollbook/types.fields",Rows.laid_rollbook_types_fields)]
theorem Zd6 {W:World} (h1:Z8z Tryz.prog W "rollbook/date.lengths" Rows.laid_rollbook_date_lengths):Z0E W:=by
 have h2:=Zh7 (k:=.i64) (zs:=Z5l) (g:=3) (t:=371) (e:=3) (n:=13) h1 (by kernel_rfl) (by kernel_rfl) Tryz.underlying371 Tryz.underlying3 (by kernel_rfl) (by kernel_rfl);intro i u hu;have hi:=(Xw.1 hu).1;rw [Lib.TabIs.cell h2 (g:=3) (by kernel_rfl) i hi];simp [List.getD,hu]
theorem Zen {W:World} (h1:Z8z Tryz.prog W "rollbook/types.fields" Rows.laid_rollbook_types_fields):SlV [] W Z2q Zf:=by
 have hc:=Zem (g:=0) (t:=295) (e:=9) (n:=7) (ss:=Zf) (by kernel_rfl) (by kernel_rfl) Tryz.underlying295 Tryz.underlying9 (by kernel_rfl) rfl h1;have hlt:0<W.heap.size:=block_lt_of_cell (a:=⟨0,0,none⟩) (hc 0 (by decide));refine ⟨some ⟨0,0,none⟩,7,rfl,by decide,by decide,(fun h=>by cases h),fun i hi=>⟨0,0,[str Zf[i]],rfl,hlt,by simp,rfl,fun j u hu=>?_⟩⟩;have hj:j=0:=by
  have:=(Xw.1 hu).1;simp at this;exact this
 subst hj;simp at hu;subst hu;have:=hc i hi;simpa [Z7.k,Z3.k] using this
structure ZoH (W:World):Prop where
 len:Z0E W
 mov:Z3n W
 err:∃ er,W.cell? ⟨8,0,none⟩=some er∧(er=.nilIface∨∃ te pe,er=.iface te pe)
theorem ZkZ {W:World} {l:List (String×DataW Unit)} {ps:List MemPlace} (h:DataW.LaidVars Tryz.prog W l ps) (h1:("rollbook/date.lengths",Rows.laid_rollbook_date_lengths)∈l) (h2:("rollbook/holiday.moves",Rows.laid_rollbook_holiday_moves)∈l) (h3:("strconv.ErrRange",Rows.laid_strconv_ErrRange)∈l):ZoH W:=
 ⟨Zd6 (Z45 _ _ h _ _ h1),Zh8 (Z45 _ _ h _ _ h2),Zd4 (g:=8) (t:=197) (by kernel_rfl) (by kernel_rfl) Tryz.underlying197 (Z45 _ _ h _ _ h3)⟩
theorem ZtV {W:World} (h:laidMetH Tryz.prog Zd5 W):ZoH W∧SlV [] W Z2q Zf:=by
 rw [MakeChecks.laidMetH_plain _ _ _ (by kernel_rfl)] at h;obtain ⟨ps,h,_⟩:=h;exact ⟨ZkZ h (by simp [Zd5,Z8A]) (by simp [Zd5,Z8A]) (by simp [Zd5,Z8A]),Zen (Z45 _ _ h _ _ (by simp [Zd5,Z8A]))⟩
section
variable {H:Type} {enc:TypeId×Value→H} {w:World} {base:Nat} {spare:Nat→Bool} {held:Bool}
end
end Go.Proofs.YtipfkbkkndacjaaGreatDoor
namespace Go.Eng
open Go Go.RowKit Go.Proofs Go.ChangeShapes Go.WideShapes Go.Deep
def Z6v (P:Program) (lo n:Nat):Bool:=(List.range n).all fun i=>!((P.funcs[lo+i]?).any Func.goes)
theorem Z0O {P:Program} {lo n g:Nat} (h:Z6v P lo n=true) (h1:lo≤g) (h2:g<lo+n):(P.funcs[g]?).any Func.goes=false:=by
 have:=XY.1 h (g - lo) (YbI.2 (by omega));rw [show lo+(g - lo)=g by omega] at this;simpa using this
theorem Zxv {P:Program} (h:∀ g:Nat,(P.funcs[g]?).any Func.goes=false) {c:OpenClaim} (hs:c.start=.entering):false=c.goesBy P:=by
 symm;have hall:P.funcs.any Func.goes=false:=by
  rw [Array.any_eq_false];intro i hi hg;have:=h i;rw [Array.getElem?_eq_getElem hi] at this;simp only [Option.any_some] at this;rw [this] at hg;cases hg
 have hgo:∀ f,P.goes f=false:=by
  intro f;unfold Program.goes;rw [hall,YbH,Bool.or_false];rw [Ybs];intro hc;have hc2:=hc;simp [h] at hc2
 unfold OpenClaim.goesBy Program.goesAt Program.goesFrom;rw [hs];cases hf:P.funcNamed c.func with
 | none=>rfl
 | some f=>simp [hgo]
theorem Zoi {P:Program} {f:FuncId} {fn:Func} {s:ChangeSpec} {c:OpenClaim} (a1:c.wf (OpenSpec.ofChange s)=true) (a2:laidOutB P=true) (a3:mapsRowed P=true) (a4:fn.params.all (P.readableRec ·)=true) (a5:namedTie P c.named s.vars=true)
 (a6:((c.stops == []) && (P.stops == []) && (c.knobs == []) && (P.stopKnobs == []))=true)
 (h2:(c.inPlace == P.inPlace f)=true) (h3:(c.unfollowed == P.unfollowed f)=true) (h4:(c.recurses == P.recurses f)=true) (h5:(c.named == P.varsNamed f)=true)
 (h6 : ((c.maps == (fn.params.toList ++ s.plain.varTypes P).any (P.mapsRec ·)) && (c.ifaces == (fn.params.toList ++ s.plain.varTypes P).any (P.ifacesRec ·)) && (c.mapsOut == P.mapsAmong fn.resultTypes.toList) &&
   (c.loops == (fn.params.toList++s.plain.varTypes P).any (P.loopsFrom ·)) && (c.wideKeys == (fn.params.toList++s.plain.varTypes P++fn.resultTypes.toList).any (P.wideKeysFrom ·)) &&
   s.vars.all (P.varReadable ·) && fn.resultTypes.all (fun t=>P.readableRec t && decide (t<P.types.size)) && (c.ifacesOut == fn.resultTypes.toList.any (P.ifacesRec ·)) && (c.loopsOut == fn.resultTypes.toList.any (P.loopsFrom ·)) && (c.plainKeys == P.plainKeys) && c.shortTexts.isNone && P.stopsHeard && P.mayEnter && (c.lifted == P.liftsFinal) && (P.make == some c.make) && (c.kinds == (if c.domain.isEmpty then [] else fn.params.toList.map fun t=>match P.underlying t with|some (.int k)=>some k|_=>none)) && (c.pinned == c.pinnedBy) &&
   (c.veiled == (fn.params.toList++s.plain.varTypes P++fn.resultTypes.toList).any (P.veiledRec ·)) && c.veiledFits P fn.params.toList (fn.params.toList++s.plain.varTypes P++fn.resultTypes.toList))=true) :
 joinedFacts P f fn s c=true:=by
 simp only [Xm] at a6 h6;unfold joinedFacts;simp only [Xm];exact ⟨⟨⟨⟨⟨⟨⟨⟨⟨⟨⟨⟨⟨⟨⟨⟨⟨⟨⟨⟨⟨⟨⟨⟨⟨⟨⟨⟨⟨⟨⟨a1,a2⟩,a3⟩,a4⟩,a5⟩,a6.1.1.1⟩,a6.1.1.2⟩,a6.1.2⟩,a6.2⟩,h2⟩,h3⟩,h4⟩,h5⟩,h6.1.1.1.1.1.1.1.1.1.1.1.1.1.1.1.1.1.1⟩,h6.1.1.1.1.1.1.1.1.1.1.1.1.1.1.1.1.1.2⟩,h6.1.1.1.1.1.1.1.1.1.1.1.1.1.1.1.1.2⟩,h6.1.1.1.1.1.1.1.1.1.1.1.1.1.1.1.2⟩,h6.1.1.1.1.1.1.1.1.1.1.1.1.1.1.2⟩,h6.1.1.1.1.1.1.1.1.1.1.1.1.1.2⟩,h6.1.1.1.1.1.1.1.1.1.1.1.1.2⟩,h6.1.1.1.1.1.1.1.1.1.1.1.2⟩,h6.1.1.1.1.1.1.1.1.1.1.2⟩,h6.1.1.1.1.1.1.1.1.1.2⟩,h6.1.1.1.1.1.1.1.1.2⟩,h6.1.1.1.1.1.1.1.2⟩,h6.1.1.1.1.1.1.2⟩,h6.1.1.1.1.1.2⟩,h6.1.1.1.1.2⟩,h6.1.1.1.2⟩,h6.1.1.2⟩,h6.1.2⟩,h6.2⟩
end Go.Eng
namespace Go.Proofs.YtipfkbkkndacjaaGreatDoor
open Go Go.Eng Go.RowKit Go.Proofs Go.ChangeShapes Go.WideShapes Go.Deep
theorem Zxs:mapsRowed Tryz.prog=true:=by kernel_rfl
theorem Zl0:Tryz.prog.funcs.size=404:=by kernel_rfl
theorem Zh9:Z6v Tryz.prog 0 34=true:=by kernel_rfl
theorem Zha:Z6v Tryz.prog 34 34=true:=by kernel_rfl
theorem Zhb:Z6v Tryz.prog 68 34=true:=by kernel_rfl
theorem Zhc:Z6v Tryz.prog 102 34=true:=by kernel_rfl
theorem Zhd:Z6v Tryz.prog 136 34=true:=by kernel_rfl
theorem Zhe:Z6v Tryz.prog 170 34=true:=by kernel_rfl
theorem Zhf:Z6v Tryz.prog 204 34=true:=by kernel_rfl
theorem Zhg:Z6v Tryz.prog 238 34=true:=by kernel_rfl
theorem Zhh:Z6v Tryz.prog 272 34=true:=by kernel_rfl
theorem Zhi:Z6v Tryz.prog 306 34=true:=by kernel_rfl
theorem Zeo:Z6v Tryz.prog 340 34=true:=by kernel_rfl
theorem Zep:Z6v Tryz.prog 374 34=true:=by kernel_rfl
theorem Zxt:∀ g:Nat,(Tryz.prog.funcs[g]?).any Func.goes=false:=fun g=>by
 by_cases h:g<404;by_cases h0:g<34;exact Z0O Zh9 (by omega) (by omega);by_cases h1:g<68;exact Z0O Zha (by omega) (by omega);by_cases h2:g<102;exact Z0O Zhb (by omega) (by omega);by_cases h3:g<136;exact Z0O Zhc (by omega) (by omega);by_cases h4:g<170;exact Z0O Zhd (by omega) (by omega);by_cases h5:g<204;exact Z0O Zhe (by omega) (by omega);by_cases h6:g<238;exact Z0O Zhf (by omega) (by omega);by_cases h7:g<272;exact Z0O Zhg (by omega) (by omega);by_cases h8:g<306;exact Z0O Zhh (by omega) (by omega);by_cases h9:g<340;exact Z0O Zhi (by omega) (by omega);by_cases h10:g<374;exact Z0O Zeo (by omega) (by omega);exact Z0O Zep (by omega) (by omega);rw [Yat (by rw [Zl0];omega)];rfl
end Go.Proofs.YtipfkbkkndacjaaGreatDoor
