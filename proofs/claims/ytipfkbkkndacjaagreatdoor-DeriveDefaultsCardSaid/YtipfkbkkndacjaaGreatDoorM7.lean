/-
Contracts and plain laws, merged out of own texts.
-/
import Derived.Test.YtipfkbkkndacjaaGreatDoorM6
import Derived.JoinedOf
set_option linter.unusedVariables false
set_option linter.unusedSimpArgs false
set_option maxHeartbeats 4000000
set_option maxRecDepth 20000
namespace Go.Proofs.YtipfkbkkndacjaaGreatDoor
open Go Go.Eng Go.RowKit Go.Proofs
theorem Zxo:∀ x∈Z4i.cnd++Z4i.due,opP x.op:=by unfold opP;decide +kernel
theorem Zxp:Smp Z3H.cond:=.mk (by decide) (by decide) (λy hy=>by cases hy)
theorem Zyh:Smp Z3H.due:=.mk (by decide) (by decide) (λy hy=>by
 have:y=.mk 4 0 [100,97,121] []\/y=.mk 1 20 [] []:=by simpa [Z3H,Nd.kids] using hy
 rcases this with rfl|rfl<;>exact .mk (by decide) (by decide) (λy hy=>by cases hy))
theorem Zlp:(match Z02 ZfW with|.ok l=>l.all (λt=>!(Z3D.contains t.text))|_=>true)=true:=by kernel_rfl
theorem Zou:∀ l,Z02 ZfW=.ok l->∀ t∈l,t.text∉Z3D:=λl hl t ht hb=>by
 have h:=Zlp;rw [hl] at h;have h2:=XW.1 h t ht;rw [List.contains_iff_mem.2 hb] at h2;cases h2
theorem Z1z.cell {c:Cas} {R:Z0N} {w} (h:Z1z w c R):∀ u∈Jh c R,u.oneCell'=true:=by
 have h1:=h.ff.one;have h2:=h.rr.one;have h3:=h.aa.one;have h4:=h.cc.one;have h5:=h.ss.one;have h6:=h.cal.hols.one;have h7:=h.cal.clos.one;obtain ⟨h8,h9,fq⟩:=h.one;intro u hu;simp only [Jh,Z0j,Xb,Xj,or_false,XC,XN] at hu;rcases hu with rfl|rfl|rfl|rfl|rfl|rfl|rfl|rfl|rfl|rfl|rfl|rfl|rfl|rfl|rfl|rfl|rfl|rfl|rfl<;>first|assumption|rfl
def Z0O (fs:List Fct) (ss:List Spn) (td:Int):Cas:=⟨fs,[Z4i],[],[],ss,z22,0,td⟩
abbrev Z2j:Value:=.N
def exR (fv rv sv:Value):Z0N:=⟨fv,rv,Z2j,Z2j,sv,Z2j,Z2j,.I 0,Z2j,.I 0⟩
theorem ZdD {fs:List Fct} {ss:List Spn} {td:Int} (h1:fs.length<=16) (h2:∀ f∈fs,Z0Z f) (h3:fs.Nodup) (h4:Z8E ss) (h5:0<=td/\td<=3652058):Z4T (Z0O fs ss td):=by
 obtain ⟨v1,v2⟩:=Z97 ZoZ;refine ⟨⟨by show fs.length<=100000;omega,by show 1<=1024;decide,λq hq=>?_,λq hq=>?_,⟨by show 0<=65536;decide,λa ha=>absurd ha (by simp [Z0O]),λa ha=>absurd ha (by simp [Z0O]),λa ha=>absurd ha (by simp [Z0O])⟩,λx hx=>absurd hx (by simp [Z0O]),h4,⟨by show (0:Int)<=0;decide,by show (0:Int)<=15;decide⟩,h5⟩,h1,by show 1<=4;decide,h2,h3⟩;have:q=Z4i:=by simpa [Z0O] using hq
 rw [this];exact v1;have:q=Z4i:=by simpa [Z0O] using hq
 rw [this];exact v2
theorem ZdE {fs:List Fct} {ss:List Spn} {td:Int} (h1:Zdx [] fs=0) (h2:∀ f∈fs,(f.kind.length:Int)<=maxLen) (h3:ZgW ss=0) (h5:0<=td/\td<=3652058):Zdz (Z0O fs ss td):=
 ⟨λq hq => by
   have:q=Z4i:=by simpa [Z0O] using hq
   rw [this];exact Zxo,h1,h2,by show 0<=16;decide,λx hx=>absurd hx (by simp [Z0O]),by show 1<=1024;decide,λq hq=>by
   have:q=Z4i:=by simpa [Z0O] using hq
   rw [this];exact ZoZ,by show 0<=65536;decide,rfl,h3,⟨by show (0:Int)<=0;decide,by show (0:Int)<=15;decide⟩,h5⟩
theorem ZbG {fs:List Fct} {ss:List Spn} {td:Int} {fv rv sv:Value} {w} (hL:Z0z w) (hM:Z2R w) (h1:SlV [] w fv fs) (h2:SlV [] w rv [Z4i]) (h3:SlV [] w sv ss):Z1z w (Z0O fs ss td) (exR fv rv sv):=
 ⟨h1,h2,ZY _ _,ZY _ _,h3,⟨ZY _ _,ZY _ _,hL,hM,⟨rfl,λh hh=>absurd hh (by simp [Z0O,z22]),by show 0<=6;decide⟩⟩,rfl,rfl,rfl⟩
theorem Z6d (fs:List Fct) (ss:List Spn) (td:Int) (fv rv sv:Value) (Y:World):CC 114 #[.agg (Z0j (Z0O fs ss td).cal (exR fv rv sv).hv (exR fv rv sv).lv (exR fv rv sv).zo (exR fv rv sv).zs (exR fv rv sv).hr).toArray] Y λr w'=>r=.I 0/\Stp [] Y w':=Z9z Y
theorem Zov (p q:Option Addr) (a b c d:Nat) (fs:List Fct) (td:Int) (w):(Instr.build 37 #[(0,.slice p a b),(1,.slice q c d),(7,.I td)]).run Tryz.prog w=.ok (.agg (Jh (Z0O fs [] td) (exR (.slice p a b) (.slice q c d) Z2j)).toArray) w:=by kernel_rfl
theorem ZfZ (f:Fct) (w):(Instr.buildSlice 24 1 #[(0,aG f)]).run Tryz.prog w=.ok (.slice (some ⟨w.heap.size,0,none⟩) 1 1) (w.alloc (.cells (Z3.enc f).toArray 45)):=by kernel_rfl
theorem Zow (f g:Fct) (w):(Instr.buildSlice 24 2 #[(0,aG f),(1,aG g)]).run Tryz.prog w=.ok (.slice (some ⟨w.heap.size,0,none⟩) 2 2) (w.alloc (.cells (Z3.enc f++Z3.enc g).toArray 45)):=by kernel_rfl
theorem ZhF (w):(Instr.build 45 #[(0,.I 4),(1,str [99,108,97,105,109]),(2,.I 739616),(3,.I 1),(4,.I 2),(5,.I 50)]).run Tryz.prog w=.ok (aG Zp) w:=by kernel_rfl
def Z1B:Fct:=⟨7,[97,110,115,119,101,114],739636,2,0,0⟩
theorem ZhG (w):(Instr.build 45 #[(0,.I 7),(1,str [97,110,115,119,101,114]),(2,.I 739636),(3,.I 2)]).run Tryz.prog w=.ok (aG Z1B) w:=by kernel_rfl
theorem ZhH (w):(Instr.build 45 #[(0,.I 4),(1,str [108,97,112,115,101]),(2,.I 739637),(3,.I 2),(4,.I 1),(5,.I 50)]).run Tryz.prog w=.ok (aG Z4N) w:=by kernel_rfl
theorem Zlq (x:Rsn) (w):(Instr.buildSlice 54 1 #[(0,aG x)]).run Tryz.prog w=.ok (.slice (some ⟨w.heap.size,0,none⟩) 1 1) (w.alloc (.cells (Z3.enc x).toArray 67)):=by kernel_rfl
theorem Zg0:Z0Z Zp:=⟨by decide,by decide,by decide,by decide⟩
theorem Zxq:Z0Z Z1B:=⟨by decide,by decide,by decide,by decide⟩
theorem ZbH {ss:List Spn} {td:Int} (h4:Z8E ss) (h5:0<=td/\td<=3652058):Z4T (Z0O [Zp] ss td):=ZdD (by decide) (λf hf=>by
 have:f=Zp:=by simpa using hf
 rw [this];exact Zg0) (by simp) h4 h5
theorem Zox {ss:List Spn} {td:Int} (h4:Z8E ss) (h5:0<=td/\td<=3652058):Z4T (Z0O [Zp,Z1B] ss td):=ZdD (by decide) (λf hf=>by
 have:f=Zp\/f=Z1B:=by simpa using hf
 rcases this with h|h
 rw [h];exact Zg0;rw [h];exact Zxq) (by decide +kernel) h4 h5
theorem ZbI {ss:List Spn} {td:Int} (h4:ZgW ss=0) (h5:0<=td/\td<=3652058):Zdz (Z0O [Zp] ss td):=ZdE (by decide +kernel) (λf hf=>by
 have:f=Zp:=by simpa using hf
 rw [this];decide +kernel) h4 h5
theorem Zoy {ss:List Spn} {td:Int} (h4:ZgW ss=0) (h5:0<=td/\td<=3652058):Zdz (Z0O [Zp,Z1B] ss td):=ZdE (by decide +kernel) (λf hf=>by
 have:f=Zp\/f=Z1B:=by simpa using hf
 rcases this with h|h
 rw [h];decide +kernel;rw [h];decide +kernel) h4 h5
theorem sp0:Z8E []:=⟨by decide,by simp⟩
theorem sp1:Z8E [((739620,739621):Spn)]:=⟨by decide,λs hs=>by
 have:s=(739620,739621):=by simpa using hs
 rw [this];decide⟩
theorem Zxr:ZD (.mk 2 1 [] [])=1:=by
 rw [ZD];decide +kernel
theorem Zxs:ZD (.mk 7 0 [100,97,121,115] [.mk 4 0 [100,97,121] [],.mk 1 20 [] []])=3:=by
 rw [ZD,Xt,Xt,XM,ZD,ZD];decide +kernel
theorem Z4m (er:Value) (m:Int) (w) (hF:SlV [] w Z21 Ze) (cx:Z0z w) (ij:Z2R w) (ey:w.cell? ⟨2,0,none⟩=some (.I m)) (d5:w.cell? ⟨8,0,none⟩=some er) (bD:er=.nilIface\/∃ te pe,er=.iface te pe) :
 CC 15 #[] w λr w'=>r=.B true/\Stp [] w w':=by
 refine cW0 58 Tryz.func15 ?_;refine W ?_;refine Z0 (Z4 rfl (ZN rfl) (Z4l [] ZfW [Z3H] er m w (by simp) hF cx ey d5 bD (by decide +kernel) Zou Zol (by decide) (λr hr=>by
  have:r=Z3H:=by simpa using hr
  subst this;exact ⟨ZeY,by rw [show Z3H.cond=.mk 2 1 [] [] from rfl,Zxr];decide,by rw [show Z3H.due=.mk 7 0 [100,97,121,115] [.mk 4 0 [100,97,121] [],.mk 1 20 [] []] from rfl,Zxs];decide,Zxp,Zyh⟩))) rfl ?_
 rintro _ w1 ⟨rv,rfl,bN,hS⟩;replace bN:SlV [] w1 rv [Z4i]:=by simpa [ZoY] using bN
 obtain ⟨pr,kr,rfl,-⟩:=id bN;refine QO ?_;refine Z7 rfl ZhF rfl ?_;refine Z0 Z2 rfl ?_;rintro _ w2 ⟨b3,rfl,dN,e3,hT⟩;refine SA (us:=Z3.enc Zp) e3 ?_;rintro _ w3 ⟨hU,e3⟩;replace hT:=hT.ow hU;replace bN:=bN.up hT;replace hS:=hS.trans hT;clear hT hU;refine QO ?_;refine Z0 (Z1 rfl (ZfZ Zp)) rfl ?_;rintro fv w4 hN;have gg:SlV [] w4 fv [Zp]:=hN.slv (by simp) rfl (by simp) (by simp [maxLen]);have hT:=Z9.stp hN;clear hN;replace bN:=bN.up hT;replace e3:=e3.up hT;replace hS:=hS.trans hT;clear hT;obtain ⟨pf,kf,rfl,-⟩:=id gg;refine QO ?_;refine Z7 rfl (Zov pf pr [Zp].length kf [Z4i].length kr [Zp] 739630) rfl ?_;generalize (Value.slice pf [Zp].length kf)=fv at *;generalize (Value.slice pr [Z4i].length kr)=rv at *;refine Z0 Z2 rfl ?_;rintro _ w5 ⟨b4,rfl,bz,e4,hT⟩;have eo:=ZbG (ss:=[]) (sv:=Z2j) (td:=739630) (cx.up hS) (ij.up hS) gg bN (ZY _ _);refine SB (us:=Jh (Z0O [Zp] [] 739630) (exR fv rv Z2j)) eo.cell e4 ?_;rintro _ w6 ⟨hU,e4⟩;replace hT:=hT.ow hU;replace eo:=eo.up hT;replace gg:=gg.up hT;replace bN:=bN.up hT;replace e3:=e3.up hT;replace hS:=hS.trans hT;clear hT hU;refine QO ?_;refine Z0 Z2 rfl ?_;rintro _ w7 ⟨b5,rfl,jA,e5,hT⟩;refine SB (us:=Jh (Z0O [Zp] [] 739630) (exR fv rv Z2j)) eo.cell e5 ?_;rintro _ w8 ⟨hU,e5⟩;replace hT:=hT.ow hU;refine QO ?_;refine Z5 (Zb (u:=.I 739640) rfl rfl rfl rfl e5 (show (18:Nat)<19 by decide)) ?_;rintro _ w9 ⟨hU,e5⟩;replace e5:Blk w9 b5 37 (Jh (Z0O [Zp] [] 739640) (exR fv rv Z2j)):=e5;replace hT:=hT.ow hU;have gJ:Z1z w9 (Z0O [Zp] [] 739640) (exR fv rv Z2j):=ZbG (cx.up (hS.trans hT)) (ij.up (hS.trans hT)) (gg.up hT) (bN.up hT) (ZY _ _);replace eo:=eo.up hT;replace gg:=gg.up hT;replace bN:=bN.up hT;replace e3:=e3.up hT;replace e4:=e4.up hT;replace hS:=hS.trans hT;clear hT hU;refine QO ?_;refine Z0 Z2 rfl ?_;rintro _ wa ⟨b6,rfl,ez,e6,hT⟩;refine SB (us:=Jh (Z0O [Zp] [] 739640) (exR fv rv Z2j)) gJ.cell e6 ?_;rintro _ wb ⟨hU,e6⟩;replace hT:=hT.ow hU;replace e3:=e3.up hT;refine QO ?_;refine Z7 rfl ZhG rfl ?_;refine Z0 (Z1 rfl (Zow Zp Z1B)) rfl ?_;rintro fv2 wc hN;have jW:SlV [] wc fv2 [Zp,Z1B]:=hN.slv (by simp) rfl (by simp) (by simp [maxLen]);have l6:=e6.lt;have kG:SlV [b6] wc fv2 [Zp,Z1B]:=hN.slv (by simpa using l6) rfl (by simp) (by simp [maxLen]);have hU:=Z9.stp hN;clear hN;replace e6:=e6.up hU;replace e3:=e3.up hU;replace hT:=hT.trans hU;obtain ⟨p2,k2,rfl,-⟩:=id jW;refine QO ?_;refine Z5 (Zb (u:=.slice p2 [Zp,Z1B].length k2) rfl rfl rfl rfl e6 (show (0:Nat)<19 by decide)) ?_;rintro _ wd ⟨hU,e6⟩;replace jW:SlV [] wd (.slice p2 [Zp,Z1B].length k2) [Zp,Z1B]:=kG.ext hU (by simp) (by simp);generalize (Value.slice p2 [Zp,Z1B].length k2)=fv2 at *;replace e6:Blk wd b6 37 (Jh (Z0O [Zp,Z1B] [] 739640) (exR fv2 rv Z2j)):=e6;replace hT:=hT.ow hU;have fB:Z1z wd (Z0O [Zp,Z1B] [] 739640) (exR fv2 rv Z2j):=ZbG (cx.up (hS.trans hT)) (ij.up (hS.trans hT)) jW (bN.up hT) (ZY _ _);replace eo:=eo.up hT;replace gJ:=gJ.up hT;replace gg:=gg.up hT;replace bN:=bN.up hT;replace e4:=e4.up hT;replace e5:=e5.up hT;replace hS:=hS.trans hT;clear hT hU kG e3;refine QO ?_;refine Z0 Z2 rfl ?_;rintro _ we ⟨b7,rfl,fu,e7,hT⟩;refine SB (us:=Jh (Z0O [Zp] [] 739630) (exR fv rv Z2j)) eo.cell e7 ?_;rintro _ wf ⟨hU,e7⟩;replace hT:=hT.ow hU;refine QO ?_;refine Z7 (vs:=[(0,.I 739620),(1,.I 739621)]) rfl (Z8T _ _) rfl ?_;refine Z0 (Z1 rfl (Zhp (739620,739621))) rfl ?_;rintro sv wg hN;have l7:=e7.lt;have lU:SlV [b7] wg sv [((739620,739621):Spn)]:=hN.slv (by simpa using l7) rfl (by simp) (by simp [maxLen]);have hU:=Z9.stp hN;clear hN;replace e7:=e7.up hU;replace hT:=hT.trans hU;obtain ⟨p3,k3,rfl,-⟩:=id lU;refine QO ?_;refine Z5 (Zb (u:=.slice p3 [((739620,739621):Spn)].length k3) rfl rfl rfl rfl e7 (show (4:Nat)<19 by decide)) ?_;rintro _ wh ⟨hU,e7⟩;have eR:SlV [] wh (.slice p3 [((739620,739621):Spn)].length k3) [((739620,739621):Spn)]:=lU.ext hU (by simp) (by simp);generalize (Value.slice p3 [((739620,739621):Spn)].length k3)=sv at *;replace e7:Blk wh b7 37 (Jh (Z0O [Zp] [(739620,739621)] 739630) (exR fv rv sv)):=e7;replace hT:=hT.ow hU;have go:Z1z wh (Z0O [Zp] [(739620,739621)] 739630) (exR fv rv sv):=ZbG (cx.up (hS.trans hT)) (ij.up (hS.trans hT)) (gg.up hT) (bN.up hT) eR;replace eo:=eo.up hT;replace gJ:=gJ.up hT;replace fB:=fB.up hT;replace e4:=e4.up hT;replace e5:=e5.up hT;replace e6:=e6.up hT;replace hS:=hS.trans hT;clear hT hU lU;refine QO ?_;refine Z7 rfl ZhH rfl ?_;refine Z0 Z2 rfl ?_;rintro _ wi ⟨b8,rfl,fL,e8,hT⟩;refine SA (us:=Z3.enc Z4N) e8 ?_;rintro _ wj ⟨hU,e8⟩;replace hT:=hT.ow hU;replace eo:=eo.up hT;replace gJ:=gJ.up hT;replace fB:=fB.up hT;replace go:=go.up hT;replace e4:=e4.up hT;replace e5:=e5.up hT;replace e6:=e6.up hT;replace e7:=e7.up hT;replace hS:=hS.trans hT;clear hT hU gg bN jW eR;refine QO ?_;refine CP (hv:=Zg5 rfl rfl rfl rfl rfl) hS (Z3x (Z0O [Zp] [] 739630) (exR fv rv Z2j) 739636 0 Z2j Z2j [] [] _ m (hF.up hS) (hS.cell (by simp) ey) eo (ZbH sp0 (by decide)) (ZbI rfl (by decide)) (λY _=>Z6d _ _ _ _ _ _ Y) Zyd Zy9 ⟨[],rfl⟩ (ZY _ _) (ZY _ _) (by decide)) λx1 hT hS=>?_
 replace gJ:=gJ.up hT;replace fB:=fB.up hT;replace go:=go.up hT;replace e5:=e5.up hT;replace e6:=e6.up hT;replace e7:=e7.up hT;replace e8:=e8.up hT;clear hT;refine QO ?_;refine Z0 (Z1 rfl (ZfZ Z4N)) rfl ?_;rintro lv x2 hN;have kU:SlV [] x2 lv [Z4N]:=hN.slv (by simp) rfl (by simp) (by simp [maxLen]);have hT:=Z9.stp hN;clear hN;replace hS:=hS.trans hT;refine W ?_;refine CP (hv:=Zg5 rfl rfl rfl rfl rfl) hS (Z3x (Z0O [Zp] [] 739640) (exR fv rv Z2j) 739636 2 Z2j lv [] [Z4N] _ m (hF.up hS) (hS.cell (by simp) ey) (gJ.up hT) (ZbH sp0 (by decide)) (ZbI rfl (by decide)) (λY _=>Z6d _ _ _ _ _ _ Y) Zye Zya ⟨[],rfl⟩ (ZY _ _) kU (by decide)) λx3 hU hS=>?_
 replace hT:=hT.trans hU;replace fB:=fB.up hT;replace go:=go.up hT;replace e6:=e6.up hT;replace e7:=e7.up hT;clear hT hU;refine QO ?_;refine Z7 rfl (Z7Q 6 7 739636) rfl ?_;refine Z0 (Z1 rfl (Zlq ⟨6,7,739636⟩)) rfl ?_;rintro mv x4 hN;have mF:SlV [] x4 mv [(⟨6,7,739636⟩:Rsn)]:=hN.slv (by simp) rfl (by simp) (by simp [maxLen]);have hT:=Z9.stp hN;clear hN;replace hS:=hS.trans hT;refine W ?_;refine CP (hv:=Zg5 rfl rfl rfl rfl rfl) hS (Z3x (Z0O [Zp,Z1B] [] 739640) (exR fv2 rv Z2j) 739636 1 mv Z2j [⟨6,7,739636⟩] [] _ m (hF.up hS) (hS.cell (by simp) ey) (fB.up hT) (Zox sp0 (by decide)) (Zoy rfl (by decide)) (λY _=>Z6d _ _ _ _ _ _ Y) Zyf Zyb ⟨[Z1B],rfl⟩ mF (ZY _ _) (by decide)) λx5 hU hS=>?_
 replace hT:=hT.trans hU;replace go:=go.up hT;replace e7:=e7.up hT;clear hT hU mF;refine QO ?_;refine Z7 rfl (Z7Q 4 739638 739638) rfl ?_;refine W ?_;refine Z7 rfl (Z7Q 5 739620 739621) rfl ?_;refine W ?_;refine Z0 (Z1 rfl (ZdC ⟨4,739638,739638⟩ ⟨5,739620,739621⟩)) rfl ?_;rintro mv x6 hN;have mF:SlV [] x6 mv [(⟨4,739638,739638⟩:Rsn),⟨5,739620,739621⟩]:=hN.slv (by simp) rfl (by simp) (by simp [maxLen]);have hT:=Z9.stp hN;clear hN;replace hS:=hS.trans hT;refine W ?_;refine CP (hv:=Zg5 rfl rfl rfl rfl rfl) hS (Z3x (Z0O [Zp] [(739620,739621)] 739630) (exR fv rv sv) 739638 0 mv Z2j [⟨4,739638,739638⟩,⟨5,739620,739621⟩] [] _ m (hF.up hS) (hS.cell (by simp) ey) (go.up hT) (ZbH sp1 (by decide)) (ZbI (by decide +kernel) (by decide)) (λY _=>Z6d _ _ _ _ _ _ Y) Zyg Zyc ⟨[],rfl⟩ mF (ZY _ _) (by decide)) λx7 hU hS=>?_
 refine RT ?_;exact ⟨rfl,hS⟩
theorem Z1z.facts {c:Cas} {R:Z0N} {w} (h:Z1z w c R) {fs:List Fct} {fv:Value} (hf:SlV [] w fv fs):Z1z w { c with fcts:=fs } { R with fv:=fv }:=⟨hf,h.rr,h.aa,h.cc,h.ss,h.cal,h.one⟩
theorem ZdF (w):(Instr.buildSlice 24 0 #[]).run Tryz.prog w=.ok (.slice (some ⟨w.heap.size,0,none⟩) 0 0) (w.alloc (.cells #[] 45)):=by kernel_rfl
theorem ZhI {α:Type} (l:List α) (i j:Nat) (hi:i<l.length) (hj:j<l.length):((l.set i l[j]).set j l[i]).Perm l:=by
 exact List.set_set_perm hi hj
theorem Zxt (lv pv:Value) (l places:List Int) (er:Value) (m:Int) (w) (hs:SlV [] w lv l) (hl:∀ a∈l,I64 a) (bA:SlV [] w pv places) (bZ:∀ a∈places,I64 a) (hF:SlV [] w Z21 Ze) (cx:Z0z w) (ij:Z2R w) (ey:w.cell? ⟨2,0,none⟩=some (.I m)) (d5:w.cell? ⟨8,0,none⟩=some er) (bD:er=.nilIface\/∃ te pe,er=.iface te pe) :
 CC 4 #[lv,pv] w λr w'=>r=.B true/\Stp [] w w':=by
 have kN:=bA.max;refine cW2 83 Tryz.func4 ?_;refine W ?_;refine CL (Z5v lv l w hs hl cx ij) ?_;rintro _ w1 ⟨c,R,rfl,hv,az,hS⟩;have aO:=az.cas;have dC:=az.fl;have z1:=hS.size;have iz:=hv;refine W ?_;refine Z0 Z2 rfl ?_;rintro _ w2 ⟨b5,rfl,jA,e5,hT⟩;refine SB (us:=Jh c R) hv.cell e5 ?_;rintro _ w3 ⟨hU,e5⟩;have T:=hT.ow hU;replace hv:=iz.up T;clear hT hU;refine QO ?_;have l5:=e5.lt;refine Z0 Z2 rfl ?_;rintro _ w4 ⟨b6,rfl,ez,e6,hT⟩;refine SB (us:=Jh c R) hv.cell e6 ?_;rintro _ w5 ⟨hU,e6⟩;replace hT:=hT.ow hU;replace e5:=e5.up hT;replace T:=T.trans hT;replace hv:=iz.up T;have z3:=hT.size;have l6:=e6.lt;clear hU hT;refine QO ?_;refine Z0 (Z1 (vs:=[]) rfl ZdF) rfl ?_;rintro o w6 hN;have ab:Row [] w6 w5.heap.size 45 o ([]:List Fct):=hN.row (Xn _) rfl rfl (by simp [maxLen]);have aV:=λb hb=>ab.ob_le b hb;have hU:=Z9.stp hN;clear hN;have oM:SlV (ob o++[]) w6 R.fv c.fcts:=hv.ff.ext hU (by simp) (λb hb=>.inr (aV b (by simpa using hb)).1);replace e5:=e5.up hU;replace e6:=e6.up hU;replace T:=T.trans hU;have z6:=T.size;have z56:=hU.size;clear hU;refine QO ?_;refine Z0 (ZQ (α:=Fct) (X:=[]) (base:=w5.heap.size) rfl (by decide) rfl rfl ab oM (Xh (Xq _ (show ([]:List Fct).length+c.fcts.length<=20 by simp only [Xf];omega)) (by decide)) (by simp only [Xf,maxLen];omega) (by omega)) rfl ?_;rintro o2 w7 ⟨bB,hU,bK⟩;rw [XN] at bB;replace e5:=e5.ext hU (λh=>by have:=aV _ h;omega);replace e6:=e6.ext hU (λh=>by have:=aV _ h;omega);replace T:=T.own hU (λb hb=>.inr (by have:=aV b hb;omega));have cm:=λb hb=>bB.ob_le b hb;clear hU oM ab bK hv;obtain ⟨p3,k3,rfl,-⟩:=id (Row.slv (X:=[]) bB (by simp));refine QO ?_;refine Z5 (Zb (u:=.slice p3 c.fcts.length k3) rfl rfl rfl rfl e6 (show (0:Nat)<19 by decide)) ?_;rintro _ w8 ⟨hU,e6⟩;replace e6:Blk w8 b6 37 (Jh c { R with fv:=.slice p3 c.fcts.length k3 }):=e6;have dh:=bB.keep hU (λb hb h=>by simp only [Xk] at hb;subst hb;have:=(cm _ h).1;omega);replace e5:=e5.ext hU (by simp;omega);replace T:=T.ow hU;have z78:=hU.size;clear hU bB;have gu:SlV [] w8 pv places:=bA.up (hS.trans T);have q5:=e5.lt;have q6:=e6.lt;refine W ?_;refine Z0h (σ:=List Fct) (λ_=>[(5,pQ b5),(6,pQ b6)]) (λq W=>Row [] W w5.heap.size 45 (.slice p3 c.fcts.length k3) q/\q.Perm c.fcts/\Stp (ob (.slice p3 c.fcts.length k3)) w8 W) ?_ ?_
 focus
  refine LP (σ:=Nat×List Fct) (λq=>[(1,pv),(5,pQ b5),(6,pQ b6),(7,.I (q.1:Int))]) (λq W=>(q.1<=places.length/\q.1 % 2=0)/\Row [] W w5.heap.size 45 (.slice p3 c.fcts.length k3) q.2/\q.2.Perm c.fcts/\Stp (ob (.slice p3 c.fcts.length k3)) w8 W) (λq=>places.length+1 - q.1) (0,c.fcts) ⟨⟨Xp _,rfl⟩,dh,Yaj _,Stp.refl _ _⟩ ?_;clear dh;rintro ⟨i,fs⟩ y ⟨⟨hi,cg⟩,hr,fT,hT⟩;dsimp only at hi cg hr fT ⊢;replace e5:=e5.ext hT (λh=>by have:=(cm _ h).1;omega);replace e6:=e6.ext hT (λh=>by have:=(cm _ h).1;omega);have ai:=fT.length_eq;have iu:=(hS.trans T).own hT (λb hb=>.inr (by have:=(cm b hb).1;omega));replace gu:=bA.up iu;have d7:SlV [] y (.slice p3 c.fcts.length k3) fs:=hr.slv (by simp);by_cases iL:i+1<places.length/\0<fs.length;obtain ⟨h1,h2⟩:=iL;have xH:I64 (places[i]'(by omega)):=bZ _ (Xc _);have xI:I64 (places[i+1]'(by omega)):=bZ _ (Xc _);have fx:i<places.length:=by omega
  refine QO ?_;refine ZDr 9 [] [] [(0,0),(1,0),(2,0),(3,1),(4,0),(5,1),(6,0),(7,2),(8,0)] (λw1 ae=>?_);replace e5:=e5.up ae;replace e6:=e6.up ae;replace gu:=gu.up ae;replace d7:=d7.up ae;replace hr:=hr.up ae;replace hT:=hT.trans ae.mn;clear ae;refine QD ?_;refine DP hT (J7 places[i] (fs.length:Int) _ (by omega) xH) λw9 hU hT=>?_
  have cQ:=J1 (if places[i]<0 then -(places[i]+1) else places[i]) (fs.length:Int) (by omega);generalize (if places[i]<0 then -(places[i]+1) else places[i]) % (fs.length:Int)=ya at cQ ⊢;obtain ⟨ka,rfl⟩:∃ k:Nat,ya=(k:Int):=⟨ya.toNat,by omega⟩
  have jp:ka<fs.length:=by omega
  replace e5:=e5.up hU;replace e6:=e6.up hU;replace gu:=gu.up hU;replace d7:=d7.up hU;replace hr:=hr.up hU;clear hU;refine QD ?_;refine QO ?_;refine ZDr 10 [] [] [(0,0),(1,0),(2,0),(3,0),(4,1),(5,0),(6,1),(7,0),(8,2),(9,0)] (λw1 ae=>?_);replace e5:=e5.up ae;replace e6:=e6.up ae;replace gu:=gu.up ae;replace d7:=d7.up ae;replace hr:=hr.up ae;replace hT:=hT.trans ae.mn;clear ae;refine QD ?_;refine DP hT (J7 places[i+1] (fs.length:Int) _ (by omega) xI) λw9 hU hT=>?_
  have me:=J1 (if places[i+1]<0 then -(places[i+1]+1) else places[i+1]) (fs.length:Int) (by omega);generalize (if places[i+1]<0 then -(places[i+1]+1) else places[i+1]) % (fs.length:Int)=yb at me ⊢;obtain ⟨kb,rfl⟩:∃ k:Nat,yb=(k:Int):=⟨yb.toNat,by omega⟩
  have it:kb<fs.length:=by omega
  replace e5:=e5.up hU;replace e6:=e6.up hU;replace gu:=gu.up hU;replace d7:=d7.up hU;replace hr:=hr.up hU;clear hU;refine QD ?_;refine QO ?_;refine Z0 Z2 rfl ?_;rintro _ wa ⟨b10,rfl,dG,e10,hU⟩;have g10:w8.heap.size<=b10:=Xh hT.size dG;replace e5:=e5.up hU;replace e6:=e6.up hU;replace gu:=gu.up hU;replace d7:=d7.up hU;replace hr:=hr.up hU;replace hT:=hT.trans hU.mn;clear hU;refine SA (us:=Z3.enc fs[ka]) e10 ?_;rintro _ wb ⟨hU,e10⟩;replace e5:=e5.ext hU (by simp;omega);replace e6:=e6.ext hU (by simp;omega);replace hr:=hr.keep hU (λb hb h=>by simp only [Xk] at hb;subst hb;have:=(cm _ h).2;omega);replace d7:SlV [] wb (.slice p3 c.fcts.length k3) fs:=hr.slv (by simp);replace hT:=hT.ow hU;replace gu:=bA.up ((hS.trans T).own hT (λb hb=>.inr (by have:=(cm b hb).1;omega)));clear hU;refine QO ?_;refine ZDr 10 [] [9] [(0,0),(1,1),(2,0),(3,0),(4,1),(5,0),(6,0),(7,1),(8,0),(9,2)] (λw1 ae=>?_);replace e5:=e5.up ae;replace e6:=e6.up ae;replace gu:=gu.up ae;replace d7:=d7.up ae;replace hr:=hr.up ae;replace e10:=e10.up ae;replace hT:=hT.trans ae.mn;clear ae;refine QD ?_;refine Jr rfl trivial (Z34 (i:=ka) (y':=fs[kb]) rfl rfl rfl rfl hr (by simp) jp) rfl ?_;rintro _ wc ⟨bE,hU⟩;replace e5:=e5.ext hU (λh=>by have:=(cm _ h).1;omega);replace e6:=e6.ext hU (λh=>by have:=(cm _ h).1;omega);replace e10:=e10.ext hU (λh=>by have:=(cm _ h).2;omega);replace hT:=hT.trans hU;clear hU hr d7;have d7:SlV [] wc (.slice p3 c.fcts.length k3) (fs.set ka fs[kb]):=bE.slv (by simp);have sT:kb<(fs.set ka fs[kb]).length:=by rw [X4];exact it
  refine QD ?_;refine QO ?_;refine Z5 (Z34 (i:=kb) (y':=fs[ka]) (u:=.agg (Z3.enc fs[ka]).toArray) rfl rfl rfl rfl bE (by simp) sT) ?_;rintro _ wd ⟨hr,hU⟩;replace hT:=hT.trans hU;refine QO ?_;have sU:=(ZhI fs ka kb jp it).trans fT;exact Zs (i+2,(fs.set ka fs[kb]).set kb fs[ka]) ⟨rfl,rfl,rfl,rfl,trivial⟩ ⟨⟨by dsimp only;omega,by dsimp only;omega⟩,hr,sU,hT⟩ (by dsimp only;omega);by_cases h1:i+1<places.length;have h0:fs.length=0:=by omega
  refine QO ?_;exact QT fs ⟨hr,fT,hT⟩;refine QO ?_;exact QT fs ⟨hr,fT,hT⟩
 clear dh;rintro fs y ⟨hr,fT,hT⟩;replace e5:=e5.ext hT (λh=>by have:=(cm _ h).1;omega);replace e6:=e6.ext hT (λh=>by have:=(cm _ h).1;omega);have ai:=fT.length_eq;have iu:=(hS.trans T).own hT (λb hb=>.inr (by have:=(cm b hb).1;omega));have d7:SlV [] y (.slice p3 c.fcts.length k3) fs:=hr.slv (by simp);have ik:Z1z y { c with fcts:=fs } { R with fv:=.slice p3 c.fcts.length k3 }:=(iz.own T (B:=ob (.slice p3 c.fcts.length k3)) (λb hb=>by have:=(cm b hb).1;omega) hT).facts d7;have ja:Z1z y c R:=iz.own T (B:=ob (.slice p3 c.fcts.length k3)) (λb hb=>by have:=(cm b hb).1;omega) hT;have hD:=ZeU fT aO.nd;have hE:=Z7r fT aO.nd;have ou:Z4T { c with fcts:=fs }:=⟨⟨by show fs.length<=_;have:=aO.ok.fl;omega,aO.ok.rl,aO.ok.cnd,aO.ok.due,aO.ok.att,aO.ok.ext,aO.ok.sty,aO.ok.court,aO.ok.today⟩,by show fs.length<=_;have:=aO.fl;omega,aO.rl,λf hf=>aO.fo f (fT.mem_iff.1 hf),fT.symm.nodup aO.nd⟩
 clear fT hr d7 cm az iz T hT gu ai;have e5':Blk y b5 37 (Jh c R):=e5;have e6':Blk y b6 37 (Jh { c with fcts:=fs } { R with fv:=.slice p3 c.fcts.length k3 }):=e6;clear e5 e6;generalize hC:({ c with fcts:=fs }:Cas)=C at *;generalize hQ:({ R with fv:=.slice p3 c.fcts.length k3 }:Z0N)=Q at *;replace hS:=iu;clear iu;refine QO ?_;refine ZDr 16 [] [] [(0,1),(2,1),(1,2),(3,2),(4,2),(5,0),(6,1),(8,1),(7,2),(9,2),(10,2),(11,0),(12,0),(13,2),(14,0),(15,0)] (λw1 ae=>?_);replace e5':=e5'.up ae;replace e6':=e6'.up ae;replace ja:=ja.up ae;replace ik:=ik.up ae;replace hS:=hS.trans ae;clear ae;refine QD ?_;refine DC (Z10 c R _ ja aO) (λ_ _ h=>h.2) ?_;rintro dv z ⟨dy,hT⟩;have hd:SlV [] z dv (JH c):=Row.slv (X:=[]) dy (by simp);replace e5':=e5'.up hT;replace e6':=e6'.up hT;replace ja:=ja.up hT;replace ik:=ik.up hT;replace hS:=hS.trans hT;clear hT dy;repeat'(first|refine D1 ?_|omega|refine Zk rfl rfl rfl rfl (λhg=>?_) (λhg=>?_)|(refine Zi rfl rfl rfl rfl (λhg=>?_) (λhg=>?_)<;>refine D1 ?_)|fail)
 refine DC (Z10 C Q _ ik ou) (λ_ _ h=>h.2) ?_;rintro dv2 z2 ⟨dy,hT⟩;have dw:SlV [] z2 dv2 (JH c):=by
  rw [<- hD];exact Row.slv (X:=[]) dy (by simp)
 replace hd:=hd.up hT;replace e5':=e5'.up hT;replace e6':=e6'.up hT;replace ja:=ja.up hT;replace ik:=ik.up hT;replace hS:=hS.trans hT;clear hT dy;repeat'(first|refine D1 ?_|omega|refine Zk rfl rfl rfl rfl (λhg=>?_) (λhg=>?_)|(refine Zi rfl rfl rfl rfl (λhg=>?_) (λhg=>?_)<;>refine D1 ?_)|fail)
 refine DP hS (ZbE dv dv2 (JH c) _ hd dw) λz3 hT hS=>?_;replace e5':=e5'.up hT;replace e6':=e6'.up hT;replace ja:=ja.up hT;replace ik:=ik.up hT;clear hT hd dw;refine QD ?_;refine DC (Z1U c R _ ja aO) (λ_ _ h=>h.2) ?_;rintro ev z4 jc;have he:SlV [] z4 ev (J2 c):=jc.slv (by simp);have hT:=jc.2;replace e5':=e5'.up hT;replace e6':=e6'.up hT;replace ik:=ik.up hT;replace hS:=hS.trans hT;clear hT jc ja;repeat'(first|refine D1 ?_|omega|refine Zk rfl rfl rfl rfl (λhg=>?_) (λhg=>?_)|(refine Zi rfl rfl rfl rfl (λhg=>?_) (λhg=>?_)<;>refine D1 ?_)|fail)
 refine DC (Z1U C Q _ ik ou) (λ_ _ h=>h.2) ?_;rintro ev2 z5 jc;have im:SlV [] z5 ev2 (J2 c):=by
  rw [<- hE];exact jc.slv (by simp)
 have hT:=jc.2;replace he:=he.up hT;replace hS:=hS.trans hT;clear hT jc ik e5' e6';repeat'(first|refine D1 ?_|omega|refine Zk rfl rfl rfl rfl (λhg=>?_) (λhg=>?_)|(refine Zi rfl rfl rfl rfl (λhg=>?_) (λhg=>?_)<;>refine D1 ?_)|fail)
 refine DP hS (Z57 ev ev2 (J2 c) (J2 c) _ he im) λz6 hT hS=>?_;rw [decide_eq_true rfl];refine QD ?_;refine DP hS (Z4m er m _ (hF.up hS) (cx.up hS) (ij.up hS) (hS.cell (by simp) ey) (hS.cell (by simp) d5) bD) λz7 hT hS=>?_
 refine QD ?_;refine RT ?_;exact ⟨rfl,hS⟩
def ZhJ:Rsn:=⟨0,0,0⟩
def Z58 (c:Cas) (d:Dln):Int×Bool:=
 if d.reas.length<2\/(d.reas.getD 1 ZhJ).kind≠2 then (0,false) else
  ((d.reas.getD 1 ZhJ).a,decide (0<=(d.reas.getD 1 ZhJ).a/\(d.reas.getD 1 ZhJ).a<c.ruls.length))
def Z7C (c:Cas) (d:Dln) (r:Nat) (f:Fct):Bool:=decide (d.stat=2/\f=Z6M (c.ruls.getD r crZ).els d)
theorem Z9b (c:Cas) (f:Fct) (r:Nat) (q:Cr) (day due:Int) (sp:List Spn) (hr:r<c.ruls.length):Z58 c (mkD c f r q day due sp)=((r:Int),true):=by
 have e:∀ (l:List Rsn),¬ (([⟨1,f.entry,f.day⟩,⟨2,(r:Int),0⟩]:List Rsn)++l).length<2:=λl=>by simp
 unfold Z58 mkD;dsimp only;simp only [XA];rw [if_neg (by
  rintro (h|h);exact e _ h;exact h rfl)]
 have h2:∀ (l:List Rsn),(([⟨1,f.entry,f.day⟩,⟨2,(r:Int),0⟩]:List Rsn)++l).getD 1 ZhJ=⟨2,(r:Int),0⟩:=λl=>rfl;rw [h2];dsimp only;rw [decide_eq_true (by omega)]
def Zf2 (c:Cas) (f:Fct) (r:Int):Option (Int×Int×List Spn):=
 if ¬ (0<=r/\r<=(c.ruls.length:Int) - 1) then none else
 let q:=c.ruls.getD r.toNat crZ
 if q.on≠f.kind\/Zev c.ruls q.name f.day≠r then none else
 let x:=Jk (opn c) (evL c f) q.cnd
 if x.2.2≠0\/x.1=0 then none else
 let y:=Jk (opn c) (evL c f) q.due
 if y.2.2≠0 then none else
 let z:=Z7z f.day y.1 c.stys
 if z.2≠0 then none else
 if z.1=y.1 then some (y.1,y.1,x.2.1++y.2.1) else
 let n:=Jz (opn c) 1 z.1
 if n.2≠0 then none else some (y.1,n.1,x.2.1++y.2.1++[(z.1,n.1)])
theorem ZtM (c:Cas) (f:Fct) (r:Int):JB c f r=(Zf2 c f r).elim noD (λp=>(mkD c f r (c.ruls.getD r.toNat crZ) p.1 p.2.1 p.2.2,true)):=by
 unfold JB Zf2;dsimp only;split;rfl;split;rfl;split;rfl;split;rfl;split;rfl;split;rfl;split<;>rfl
theorem ZdG {c:Cas} {f:Fct} {r:Int} {p:Int×Int×List Spn} (h:Zf2 c f r=some p):0<=r/\r<c.ruls.length:=by
 unfold Zf2 at h;split at h;cases h;omega
theorem Zlr {c:Cas} {f:Fct} {r:Int} (h:(JB c f r).2=true):0<=r/\r<c.ruls.length/\∃ day due sp,Zf2 c f r=some (day,due,sp)/\(JB c f r).1=mkD c f r (c.ruls.getD r.toNat crZ) day due sp:=by
 rw [ZtM] at h ⊢;cases hk:Zf2 c f r with
 | none=>rw [hk] at h;cases h
 | some p=>exact ⟨(ZdG hk).1,(ZdG hk).2,p.1,p.2.1,p.2.2,rfl,rfl⟩
theorem Z6U {c:Cas} {f:Fct} {r:Nat} (h:(JB c f (r:Nat)).2=true):r<c.ruls.length/\∃ day due sp,Zf2 c f (r:Nat)=some (day,due,sp)/\(JB c f (r:Nat)).1=mkD c f r (c.ruls.getD r crZ) day due sp:=by
 obtain ⟨_,h2,day,due,sp,h3,h4⟩:=Zlr h;exact ⟨by omega,day,due,sp,h3,h4⟩
theorem Z6V {c:Cas} {d:Dln} (hd:d∈JH c):∃ f∈c.fcts++J2 c,∃ r,r<c.ruls.length/\(JB c f (r:Nat)).2=true/\d=(JB c f r).1:=by
 unfold JH at hd;obtain ⟨p,hp,rfl⟩:=XH.1 hd;obtain ⟨f,hf,hr,he,ht⟩:=Z6a hp;rw [(Jf _).mem_iff] at hf;exact ⟨f,hf,p.2,hr,ht,he⟩
theorem ZdH {c:Cas} {f:Fct} {r:Nat} (h:(JB c f (r:Nat)).2=true):∀ i,r<i->((JB c f r).1,r)∈Z2p c f i
 | 0,hi=>by omega
 | i + 1, hi => by
   rw [Z2p];by_cases e:r=i;subst e;rw [if_pos h];simp;exact Xg.2 (.inl (ZdH h i (by omega)))
theorem ZdI {c:Cas} {fs:List Fct} {f:Fct} {r:Nat} (hf:f∈fs) (hr:r<c.ruls.length) (h:(JB c f (r:Nat)).2=true):((JB c f r).1,r)∈Z0a c fs:=
 YaZ.2 ⟨f,hf,ZdH h _ hr⟩
theorem Zls {c:Cas} {f:Fct} {r:Nat} (hf:f∈c.fcts++J2 c) (hr:r<c.ruls.length) (h:(JB c f (r:Nat)).2=true):(JB c f r).1∈JH c:=
 XH.2 ⟨_,ZdI ((Jf _).mem_iff.2 hf) hr h,rfl⟩
theorem ZdJ (c:Cas) (k:Nat):∀ j,∀ f∈(Zj c k).2.2,f∈(Zj c (k+j)).2.2
 | 0,f,h=>h
 | j + 1, f, h => by
   rw [<- Yau,Zj];exact Xg.2 (.inl (ZdJ c k j f h))
theorem Zoz (c:Cas):∀ k,∀ f∈(Zj c k).2.1,f∈c.fcts\/f∈(Zj c k).2.2
 | 0,f,h=>.inl h
 | k + 1, f, h => by
   rw [Zj] at h ⊢;exact .inr (Xg.2 (.inr h))
theorem Zg1 (c:Cas):∀ k,∀ f∈(Zj c k).2.2,∃ g,(g∈c.fcts\/g∈(Zj c k).2.2)/\∃ r,r<c.ruls.length/\(JB c g (r:Nat)).2=true/\(Z1N c (JB c g r).1 r).2=true/\f=(Z1N c (JB c g r).1 r).1
 | 0,f,h=>by cases h
 | k + 1, f, h => by
   rw [Zj] at h ⊢;dsimp only at h ⊢;rcases Xg.1 h with h|h
   obtain ⟨g,hg,hr⟩:=Zg1 c k f h;exact ⟨g,hg.imp id (λh=>Xg.2 (.inl h)),hr⟩;rw [(Z2Y c _ _).m2] at h;rcases h with h|⟨_,p,hp,h1,h2⟩
   cases h;obtain ⟨g,hg,hr,he,ht⟩:=Z6a hp;refine ⟨g,(Zoz c k g hg).imp id (λh=>Xg.2 (.inl h)),p.2,hr,ht,?_,?_⟩;rw [<- he];exact h1;rw [<- he];exact h2
theorem Zf3 {c:Cas} {f:Fct} (h:f∈J2 c):∃ d∈JH c,∃ r:Nat,r<c.ruls.length/\Z58 c d=((r:Int),true)/\Z7C c d r f=true/\f.kind≠[]/\f.day<=c.today:=by
 have hm:∀ x,x∈J2 c↔x∈(Zj c 16).2.2:=λx=>(Jf _).mem_iff;obtain ⟨g,hg,r,hr,h1,h2,h3⟩:=Zg1 c 16 f ((hm f).1 h);obtain ⟨_,day,due,sp,_,hd⟩:=Z6U h1;refine ⟨_,Zls (Xg.2 (hg.imp id (hm g).2)) hr h1,r,hr,by rw [hd];exact Z9b c g r _ day due sp hr,?_,?_,?_⟩;unfold Z1N at h2 h3;have h4:=of_decide_eq_true h2;exact decide_eq_true ⟨h4.1,h3⟩;unfold Z1N at h2 h3;have h4:=of_decide_eq_true h2;rw [h3];exact h4.2.1;unfold Z1N at h2 h3;have h4:=of_decide_eq_true h2;rw [h3];exact h4.2.2
theorem ZhK {c:Cas} {d:Dln} (hd:d∈JH c):∃ r:Nat,r<c.ruls.length/\Z58 c d=((r:Int),true):=by
 obtain ⟨f,hf,r,hr,h1,rfl⟩:=Z6V hd;obtain ⟨_,day,due,sp,_,hd⟩:=Z6U h1;exact ⟨r,hr,by rw [hd];exact Z9b c f r _ day due sp hr⟩
theorem Zlt {c:Cas} (hs:Z4T c) {d:Dln} (hd:d∈JH c) {r:Nat} (hr:Z58 c d=((r:Int),true)) (hf:d.trig∈c.fcts) (h2:d.stat=2) (he:(c.ruls.getD r crZ).els≠[]) (ht:max d.due d.trig.day+1<=c.today) :
 ∃ f∈c.fcts++J2 c,Z7C c d r f=true:=by
 obtain ⟨g,hg,s,cJ,h1,rfl⟩:=Z6V hd;obtain ⟨_,day,due,sp,_,o0⟩:=Z6U h1;have e:s=r:=by
  rw [o0,Z9b c g s _ day due sp cJ] at hr;have:=congrArg Prod.fst hr;dsimp only at this;omega
 subst e;have xJ:(JB c g s).1.trig=g:=by rw [o0];rfl
 rw [xJ] at hf;have hG:Giv c (Z0a c c.fcts) (Z6M (c.ruls.getD s crZ).els (JB c g s).1):=⟨_,ZdI hf cJ h1,decide_eq_true ⟨h2,he,ht⟩,rfl⟩
 refine ⟨Z6M (c.ruls.getD s crZ).els (JB c g s).1,?_,decide_eq_true ⟨h2,rfl⟩⟩;by_cases hx:Z6M (c.ruls.getD s crZ).els (JB c g s).1∈c.fcts;exact Xg.2 (.inl hx);refine Xg.2 (.inr ?_);refine (Jf _).mem_iff.2 (ZdJ c 1 15 _ ?_);rw [Zj];refine Xg.2 (.inr ?_);rw [(Z2Y c _ _).m2];exact .inr ⟨hx,hG⟩
theorem Zau (c:Cas) (R:Z0N) (d:Dln) (dv:Value) (w) (hs:SlV [] w R.rv c.ruls) (hd:SlV [] w dv d.reas) :
 CC 22 #[.agg (Jh c R).toArray,.agg (dlC d dv).toArray] w λv w'=>v=.tuple #[.I (Z58 c d).1,.B (Z58 c d).2]/\Stp [] w w':=by
 have uy:=hd.max;have gR:=hs.max;unfold Z58;refine cW2 34 Tryz.func22 ?_;refine W ?_;refine BX (Stp.refl [] w) λb2 w1 h2 e2 _ hS=>?_;replace e2:Blk w1 b2 37 (Jh c R):=e2;refine BX hS λb3 w2 h3 e3 hT hS=>?_;replace e3:Blk w2 b3 56 (dlC d dv):=e3;replace e2:=e2.up hT;have l2:=e2.lt;have l3:=e3.lt;replace hs:=hs.up hS;replace hd:=hd.up hS;by_cases hl:d.reas.length<2;refine RT ?_;exact ⟨by rw [if_pos (.inl hl)],hS⟩;have ft:1<d.reas.length:=by omega
 have hg:d.reas.getD 1 ZhJ=d.reas[1]:=by simp [ft]
 rw [hg]
 (refine QP ?_ ?_<;>intro hc)
 refine RU ?_;exact ⟨by rw [if_pos (.inr (by assumption))],hS⟩
 . have hk:d.reas[1].kind=2:=Decidable.byContradiction (by assumption)
   repeat'(first|refine W1 ?_|omega|refine VG ?_ ?_<;>intro hg|refine VC ?_ ?_<;>intro hc)
   have hq:¬ (d.reas.length<2\/d.reas[1].kind≠2):=λh=>h.elim hl (λh=>h hk);rw [if_neg hq];clear hq;refine ZDr 12 [] [] [(0,0),(1,0),(2,0),(3,0),(4,0),(5,0),(6,1),(7,0),(8,0),(9,0),(10,0),(11,0)] (λw1 ae=>?_);replace e2:=e2.up ae;replace hS:=hS.trans ae;replace hs:=hs.up ae
   (refine QE ?_ ?_<;>intro hg)
   all_goals refine QO ?_
   all_goals refine WR ?_
   all_goals refine .mk ⟨?_,hS⟩
   all_goals congr 4
   congr 1;dsimp only;rw [decide_eq_decide];exact ⟨λh=>⟨hg,h⟩,λh=>h.2⟩;congr 1;exact (decide_eq_false (λh=>hg h.1)).symm
theorem Zp1 (a b:Fct) (w):(binOp .eql 45 (agg a) (agg b)).run Tryz.prog w=.ok (.B (decide (a=b))) w:=by
 have h1:Program.stoodInHeld Tryz.prog 45=false:=by kernel_rfl
 obtain ⟨i,hi⟩:∃ i,Tryz.prog.info? 3=some i:=by
  have:=(inferInstance:Siz Tryz.prog 3 1).h;cases h:Tryz.prog.info? 3 with
  | none=>rw [h] at this;cases this
  | some i=>exact ⟨i,rfl⟩
 obtain ⟨a1,a2,a3,a4,a5,a6⟩:=a;obtain ⟨b1,b2,b3,b4,b5,b6⟩:=b;simp [agg,Z3.enc,run_eql_struct,run_equalIn_struct,h1,Program.fieldsOf,Tryz.underlying45,Op.eqFields,part,Und.isAgg,Siz.run,Z0K,run_equalIn_int w _ _ .i64 .i64 _ _ Tryz.underlying3,run_equalIn_string w _ _ _ _ Tryz.underlying9];repeat' split
 all_goals simp_all
theorem Z9c (c:Cas) (R:Z0N) (d:Dln) (dv:Value) (r:Nat) (f:Fct) (w) (hs:SlV [] w R.rv c.ruls) (hr:r<c.ruls.length) (hb:-1000000000<=d.due/\d.due<=1000000000/\-1000000000<=d.trig.day/\d.trig.day<=1000000000) :
 CC 23 #[.agg (Jh c R).toArray,.agg (dlC d dv).toArray,.I r,aG f] w λv w'=>v=.B (Z7C c d r f)/\Stp [] w w':=by
 unfold Z7C;rw [show c.ruls.getD r crZ=c.ruls[r] by simp [hr]];refine cW4 40 Tryz.func23 ?_;refine W ?_;refine BX (Stp.refl [] w) λb4 w1 h4 e4 _ hS=>?_;replace e4:Blk w1 b4 37 (Jh c R):=e4;refine BX hS λb5 w2 h5 e5 hT hS=>?_;replace e5:Blk w2 b5 56 (dlC d dv):=e5;replace e4:=e4.up hT;refine BX hS λb7 w3 h7 e7 hT hS=>?_;replace e7:Blk w3 b7 45 (Z3.enc f):=e7;replace e4:=e4.up hT;replace e5:=e5.up hT;have l4:=e4.lt;have l5:=e5.lt;have l7:=e7.lt;refine W ?_;refine Z8 (Zl (us:=Z3.enc d.trig) rfl rfl e5 rfl rfl) rfl ?_;refine Z0 Z2 rfl ?_;rintro _ w4 ⟨b9,rfl,ir,e9,hT⟩;refine SA (us:=Z3.enc d.trig) e9 ?_;rintro _ w5 ⟨ar,e9⟩;replace hT:=hT.ow ar;replace e4:=e4.up hT;replace e5:=e5.up hT;replace e7:=e7.up hT;replace hS:=hS.trans hT;clear hT ar;refine W ?_;refine ZDr 29 [] [] [(0,0),(1,1),(2,0),(3,0),(4,1),(5,0),(6,1),(7,0),(8,1),(9,0),(10,0),(11,0),(12,1),(13,0),(14,1),(15,0),(16,1),(17,0),(18,0),(19,0),(20,1),(21,0),(22,1),(23,0),(24,1),(25,0),(26,0),(27,0),(28,0)] (λw1 ae=>?_);replace e4:=e4.up ae;replace e5:=e5.up ae;replace e7:=e7.up ae;replace e9:=e9.up ae;replace hS:=hS.trans ae;clear ae;have eK:=hs.up hS;obtain ⟨cs,⟨kc,kd,rfl,-,-⟩,aq⟩:=eK.cell hr;have hf:w1.cell? (ZH R.rv r 7 6)=some (str c.ruls[r].els):=aq 6 _ rfl;repeat'(first|refine D1 ?_|omega|refine Z0G rfl (by first|exact trivial|exact rfl) rfl rfl (by assumption) rfl ?_|refine Zk rfl rfl rfl rfl (λhg=>?_) (λhg=>?_)|(refine Zi rfl rfl rfl rfl (λhg=>?_) (λhg=>?_)<;>refine D1 ?_)|fail)
 have h2:d.stat=2:=by assumption
 refine Z1Z rfl rfl (vs:=[(0,.I d.trig.entry),(1,str c.ruls[r].els),(2,.I (max d.due d.trig.day+1)),(3,.I d.trig.to_),(4,.I d.trig.by_),(5,.I d.trig.amt)]) rfl (Zd6 _ _ _ _ _ _) rfl ?_;apply Z20;exact rfl;refine ZaI (c:=f=Z6M c.ruls[r].els d) rfl rfl rfl (λw=>Z7P _ _ _ f (Z6M c.ruls[r].els d) w) (by intro w;exact Zp1 f (Z6M c.ruls[r].els d) w) rfl ?_;refine QD ?_;refine QO ?_;refine WR ?_;refine .mk ⟨?_,hS⟩;congr 1;rw [decide_eq_decide];exact ⟨λh=>⟨h2,h⟩,λh=>h.2⟩;refine QO ?_;refine WR ?_;refine .mk ⟨?_,hS⟩;congr 1;exact (decide_eq_false (λh=>by first|exact absurd h.1 (by assumption)|omega)).symm
theorem Z9d {α:Type} (p:α->Bool) (l:List α) (j:Nat) (h:j<l.length):(l.take (j+1)).any p=((l.take j).any p || p l[j]):=by
 rw [Xi h,List.any_append];simp
theorem Zlu {c:Cas} (h:Z4T c) {d:Dln} (hd:d∈JH c):0<=d.due/\d.due<=3652058/\0<=d.trig.day/\d.trig.day<=3652058:=by
 obtain ⟨f,hf,r,hr,h1,rfl⟩:=Z6V hd;have kD:Z0Z f:=(Xg.1 hf).elim (h.fo f) (Z96 h f);obtain ⟨a,b,e⟩:=Zbu h.ok kD h1;rw [a];exact ⟨b,e,kD.day.1,kD.day.2⟩
theorem Zp2 (lv:Value) (l:List Int) (er:Value) (m:Int) (w) (hs:SlV [] w lv l) (hl:∀ a∈l,I64 a) (hF:SlV [] w Z21 Ze) (cx:Z0z w) (ij:Z2R w) (ey:w.cell? ⟨2,0,none⟩=some (.I m)) (d5:w.cell? ⟨8,0,none⟩=some er) (bD:er=.nilIface\/∃ te pe,er=.iface te pe) :
 CC 6 #[lv] w λr w'=>r=.B true/\Stp [] w w':=by
 refine cW1 174 Tryz.func6 ?_;refine W ?_;refine CL (Z5v lv l w hs hl cx ij) ?_;rintro _ w1 ⟨c,R,rfl,hv,az,hS⟩;have aO:=az.cas;have dC:=az.fl;refine W ?_;refine Z0 Z2 rfl ?_;rintro _ w2 ⟨b3,rfl,dN,e3,hT⟩;refine SB (us:=Jh c R) hv.cell e3 ?_;rintro _ w3 ⟨hU,e3⟩;replace hT:=hT.ow hU;replace hv:=hv.up hT;replace hS:=hS.trans hT;clear hT hU az;refine QO ?_;refine CL (Z10 c R _ hv aO) ?_;rintro dv w4 ⟨dy,hT⟩;have hd:SlV [] w4 dv (JH c):=Row.slv (X:=[]) dy (by simp);replace e3:=e3.up hT;replace hv:=hv.up hT;replace hS:=hS.trans hT;clear hT dy;refine QO ?_;refine CL (Z1U c R _ hv aO) ?_;rintro ev w5 jc;have he:SlV [] w5 ev (J2 c):=jc.slv (by simp);have hT:=jc.2;replace e3:=e3.up hT;replace hv:=hv.up hT;replace hd:=hd.up hT;replace hS:=hS.trans hT;clear hT jc;have l3:=e3.lt;refine QO ?_;refine Z0 (Z1 (vs:=[]) rfl ZdF) rfl ?_;rintro o w6 hN;have ab:Row [] w6 w5.heap.size 45 o ([]:List Fct):=hN.row (Xn _) rfl rfl (by simp [maxLen]);have aV:=λb hb=>ab.ob_le b hb;have hU:=Z9.stp hN;clear hN;have oM:SlV (ob o++[]) w6 R.fv c.fcts:=hv.ff.ext hU (by simp) (λb hb=>.inr (aV b (by simpa using hb)).1);have uz:SlV (ob o++[]) w6 ev (J2 c):=he.ext hU (by simp) (λb hb=>.inr (aV b (by simpa using hb)).1);replace e3:=e3.up hU;have T:=hU;have z6:=hU.size;clear hU;refine QO ?_;refine Z0 (ZQ (α:=Fct) (X:=[]) (base:=w5.heap.size) rfl (by decide) rfl rfl ab oM (Xh (Xq _ (show ([]:List Fct).length+c.fcts.length<=20 by simp only [Xf];omega)) (by decide)) (by simp only [Xf,maxLen];omega) (by omega)) rfl ?_;rintro o2 w7 ⟨bB,hU,bK⟩;rw [XN] at bB;replace e3:=e3.ext hU (λh=>by have:=aV _ h;omega);have uA:SlV (ob o2++[]) w7 ev (J2 c):=uz.ext hU (λb hb=>by simpa using hb) (λb hb=>by
  rcases bK b (by simpa using hb) with h|h
  exact .inl (by simpa using h);exact .inr h)
 replace T:=T.own hU (λb hb=>.inr (by have:=aV b hb;omega));have cm:=λb hb=>bB.ob_le b hb;have z7:=T.size;clear hU oM uz ab bK;have bI:=Z95 aO;refine QO ?_;refine Z0 (ZQ (α:=Fct) (X:=[]) (base:=w5.heap.size) rfl (by decide) rfl rfl bB uA (Xh (Xq _ (show c.fcts.length+(J2 c).length<=100000000000 by omega)) (by decide)) (by simp only [maxLen];omega) (by omega)) rfl ?_;rintro av w8 ⟨dP,hU,-⟩;replace e3:=e3.ext hU (λh=>by have:=cm _ h;omega);replace T:=T.own hU (λb hb=>.inr (by have:=cm b hb;omega));replace hv:=hv.up T;replace hd:=hd.up T;replace he:=he.up T;replace hS:=hS.trans T;have ha:SlV [] w8 av (c.fcts++J2 c):=dP.slv (by simp);clear hU T bB dP cm aV uA;have hG:=λf (hf:f∈J2 c)=>Zf3 hf;have hR:=λd (hd:d∈JH c)=>ZhK hd;have hB:=λd (hd:d∈JH c)=>Zlu aO hd;have hE:=λd (hd:d∈JH c) r hr hf h2 he ht=>Zlt aO hd (r:=r) hr hf h2 he ht;generalize c.fcts++J2 c=A at *;generalize JH c=D at *;generalize J2 c=E at *;have uy:=hd.max;have yR:=he.max;have yS:=ha.max;clear bI;refine W ?_;refine LP (σ:=Nat) (λi=>[(3,pQ b3),(4,dv),(5,ev),(6,av),(7,.I (i:Int))]) (λi W=>i<=E.length/\Stp [] w8 W) (λi=>E.length - i) 0 ⟨Xp _,Stp.refl _ _⟩ ?_;rintro i y ⟨hi,hY⟩;have f3:=e3.up hY;have im:=he.up hY;by_cases hlt:i<E.length;obtain ⟨d0,eE,r0,lg,g1,g2,g3,g4⟩:=hG _ (Xc hlt);refine QO ?_;refine LP (σ:=Nat×Bool) (λq=>[(3,pQ b3),(4,dv),(5,ev),(6,av),(7,.I (i:Int)),(8,.B q.2),(9,.I (q.1:Int))]) (λq W=>(q.1<=D.length/\q.2=(D.take q.1).any (λd=>Z7C c d (Z58 c d).1.toNat E[i]))/\Stp [] w8 W) (λq=>D.length - q.1) (0,false) ⟨⟨Xp _,rfl⟩,hY⟩ ?_;clear f3 im hY;rintro ⟨j,g⟩ z ⟨⟨hj,eW⟩,hY⟩;dsimp only at hj eW ⊢;have f3:=e3.up hY;have im:=he.up hY;have dw:=hd.up hY;have eX:=hv.up hY;by_cases fP:j<D.length
 . obtain ⟨r,hr,oN⟩:=hR _ (Xc fP)
   have bz:=hB _ (Xc fP);obtain ⟨csa,⟨ra,rfl,cQ⟩,dI⟩:=dw.cell fP;refine QO ?_;refine ZDr 11 [] [] [(0,1),(1,0),(2,0),(3,0),(4,1),(5,2),(6,0),(7,0),(8,0),(9,0),(10,0)] (λw1 ae=>?_);replace f3:=f3.up ae;replace im:=im.up ae;replace dw:=dw.up ae;replace eX:=eX.up ae;replace cQ:=cQ.up ae;replace dI:=λj u hu=>ae.cell0 (dI j u hu);replace hY:=hY.trans ae.mn;clear ae;refine QD ?_;refine ZP rfl trivial (λw' aN=>Z0n rfl rfl (dw.up aN) fP ⟨ra,rfl,cQ.up aN⟩ (λj u hu=>aN.cell0 (dI j u hu))) rfl ?_;repeat'(first|refine D1 ?_|omega|refine Zk rfl rfl rfl rfl (λhg=>?_) (λhg=>?_)|(refine Zi rfl rfl rfl rfl (λhg=>?_) (λhg=>?_)<;>refine D1 ?_)|fail)
   refine DP hY (Zau c R D[j] ra _ eX.rr cQ) λwa hT hY=>?_;replace f3:=f3.up hT;replace im:=im.up hT;replace dw:=dw.up hT;replace eX:=eX.up hT;replace cQ:=cQ.up hT;replace dI:=λj u hu=>hT.cell0 (dI j u hu);clear hT;rw [oN];refine QD ?_;refine QO ?_;have cu:(D.take (j+1)).any (λd=>Z7C c d (Z58 c d).1.toNat E[i])=(g || Z7C c D[j] r E[i]):=by
    rw [Z9d _ _ _ fP,<- eW,oN];rfl
   cases g
   case true=>
    refine ZDr 18 [] [] [(0,0),(1,0),(2,0),(3,0),(4,1),(5,0),(6,0),(7,0),(8,1),(9,0),(10,0),(11,0),(12,0),(13,1),(14,2),(15,0),(16,0),(17,0)] (λw1 ae=>?_);refine QD ?_;refine QO ?_;exact QL (j+1,true) ⟨⟨fP,by rw [cu];rfl⟩,hY.trans ae.mn⟩ (Xs fP (Xv j))
   case false=>
    refine ZDr 18 [] [] [(0,0),(1,0),(2,0),(3,0),(4,1),(5,0),(6,0),(7,0),(8,1),(9,0),(10,0),(11,0),(12,0),(13,1),(14,2),(15,0),(16,0),(17,0)] (λw1 ae=>?_);replace f3:=f3.up ae;replace im:=im.up ae;replace dw:=dw.up ae;replace eX:=eX.up ae;replace cQ:=cQ.up ae;replace dI:=λj u hu=>ae.cell0 (dI j u hu);replace hY:=hY.trans ae.mn;clear ae;refine QD ?_;refine ZP rfl rfl (λw' aN=>Z0n rfl rfl (dw.up aN) fP ⟨ra,rfl,cQ.up aN⟩ (λj u hu=>aN.cell0 (dI j u hu))) rfl ?_;refine QD ?_;refine DP hY (Z9c c R D[j] ra r E[i] _ eX.rr hr (by omega)) λwb hT hY=>?_
    refine QD ?_;refine QO ?_;exact QL (j+1,Z7C c D[j] r E[i]) ⟨⟨fP,by rw [cu];rfl⟩,hY⟩ (Xs fP (Xv j))
 have du:j=D.length:=by omega
 subst du;rw [Xo] at eW;have fU:g=true:=by
  rw [eW,Yag];exact ⟨d0,eE,by rw [g1];exact g2⟩
 subst fU;clear eW;refine QO ?_;refine ZDr 20 [] [] [(0,0),(1,0),(2,0),(3,0),(4,0),(5,0),(6,0),(7,1),(8,0),(9,0),(10,0),(11,0),(12,0),(13,0),(14,0),(15,1),(16,0),(17,1),(18,0),(19,0)] (λw1 ae=>?_);replace f3:=f3.up ae;replace im:=im.up ae;replace hY:=hY.trans ae.mn;focus repeat'(first|refine D1 ?_|omega|refine Zk rfl rfl rfl rfl (λhg=>?_) (λhg=>?_)|(refine Zi rfl rfl rfl rfl (λhg=>?_) (λhg=>?_)<;>refine D1 ?_)|fail)
 exact absurd (by assumption) g3;refine QO ?_;exact QL (i+1) ⟨hlt,hY⟩ (Xs hlt (Xv i));replace hS:=hS.trans hY;replace hv:=hv.up hY;replace hd:=hd.up hY;replace ha:=ha.up hY;clear hY e3 he hG;refine QO ?_;clear im;refine LP (σ:=Nat) (λk=>[(3,pQ b3),(4,dv),(6,av),(12,.I (k:Int))]) (λk W=>k<=D.length/\Stp [] y W) (λk=>D.length - k) 0 ⟨Xp _,Stp.refl _ _⟩ ?_;rintro k z ⟨hk,hY⟩;have e3:=f3.up hY;have dw:=hd.up hY;have eX:=hv.up hY;by_cases iB:k<D.length
 . obtain ⟨r,hr,oN⟩:=hR _ (Xc iB)
   have bz:=hB _ (Xc iB);obtain ⟨csa,⟨ra,rfl,cQ⟩,dI⟩:=dw.cell iB;refine QO ?_;refine Z8 (Z0n rfl rfl dw iB ⟨ra,rfl,cQ⟩ dI) rfl ?_;refine Z0 Z2 rfl ?_;rintro _ wa ⟨b13,rfl,xK,e13,hT⟩;refine Z5 (Zm (us:=dlC D[k] ra) rfl rfl rfl rfl (λu hu=>by
    simp only [Xb,Xj,or_false] at hu;rcases hu with rfl|rfl|rfl|rfl|rfl|rfl|rfl|rfl|rfl|rfl|rfl
    all_goals first|rfl|exact cQ.one) e13 rfl) ?_
   rintro _ wb ⟨hU,e13⟩;replace hT:=hT.ow hU;replace e3:=e3.up hT;replace dw:=dw.up hT;replace eX:=eX.up hT;replace cQ:=cQ.up hT;replace hY:=hY.trans hT;clear hT hU dI;refine QO ?_;refine CP hY (Zau c R D[k] ra _ eX.rr cQ) λwc hT hY=>?_;replace e3:=e3.up hT;replace dw:=dw.up hT;replace eX:=eX.up hT;replace cQ:=cQ.up hT;replace e13:=e13.up hT;clear hT;rw [oN];have iw:=eX.ff;have oE:=iw.max;refine QO ?_;refine LP (σ:=Nat×Bool) (λq=>[(3,pQ b3),(4,dv),(6,av),(12,.I (k:Int)),(13,pQ b13),(14,.I (r:Int)),(16,.B q.2),(17,.I (q.1:Int))]) (λq W=>(q.1<=c.fcts.length/\q.2=(c.fcts.take q.1).any (λf=>decide (f=D[k].trig)))/\Stp [] wc W) (λq=>c.fcts.length - q.1) (0,false) ⟨⟨Xp _,rfl⟩,Stp.refl _ _⟩ ?_;rintro ⟨j,g⟩ x ⟨⟨hj,eW⟩,hX⟩;dsimp only at hj eW ⊢;have f3:=e3.up hX;have f13:=e13.up hX;have oO:=iw.up hX;by_cases fP:j<c.fcts.length
   . have cu:(c.fcts.take (j+1)).any (λf=>decide (f=D[k].trig))=(g || decide (c.fcts[j]=D[k].trig)):=by
      rw [Z9d _ _ _ fP,<- eW]
     refine QO ?_;cases g
     case true=>
      refine ZDr 12 [] [] [(0,0),(1,0),(2,0),(3,1),(4,0),(5,0),(6,1),(7,0),(8,1),(9,0),(10,0),(11,0)] (λw1 ae=>?_);refine QD ?_;refine QO ?_;exact QL (j+1,true) ⟨⟨fP,by rw [cu];rfl⟩,hX.trans ae⟩ (Xs fP (Xv j))
     case false=>
      refine ZDr 12 [] [] [(0,0),(1,0),(2,0),(3,1),(4,0),(5,0),(6,1),(7,0),(8,1),(9,0),(10,0),(11,0)] (λw1 ae=>?_);replace f3:=f3.up ae;replace f13:=f13.up ae;replace oO:=oO.up ae;refine QD ?_;refine ZP rfl rfl (λw' aN=>Zl rfl rfl (f13.up aN) (us:=Z3.enc D[k].trig) rfl rfl) rfl ?_;repeat'(first|refine D1 ?_|omega|refine Zk rfl rfl rfl rfl (λhg=>?_) (λhg=>?_)|(refine Zi rfl rfl rfl rfl (λhg=>?_) (λhg=>?_)<;>refine D1 ?_)|fail)
      apply Z20;exact rfl;refine ZaI (c:=c.fcts[j]=D[k].trig) rfl rfl rfl (λw=>Z7P _ _ _ c.fcts[j] D[k].trig w) (by intro w;exact Zp1 c.fcts[j] D[k].trig w) rfl ?_;refine QD ?_;refine QO ?_;exact Zs (j+1,decide (c.fcts[j]=D[k].trig)) ⟨rfl,rfl,rfl,rfl,rfl,rfl,rfl,rfl,trivial⟩ ⟨⟨fP,by rw [cu];rfl⟩,hX.trans ae⟩ (Xs fP (Xv j))
   . have du:j=c.fcts.length:=by omega
     subst du;rw [Xo] at eW;have fe:=eX.rr.up hX;have yT:=fe.max;obtain ⟨csr,⟨kc,kd,rfl,-,-⟩,aq⟩:=fe.cell hr;have xL:x.cell? (ZH R.rv r 7 6)=some (str c.ruls[r].els):=aq 6 _ rfl;replace hY:=hY.trans hX;clear hX aq;repeat'(first|refine W1 ?_|omega|refine Zbb rfl rfl (by assumption) rfl ?_|refine VG ?_ ?_<;>intro hg|refine VC ?_ ?_<;>intro hc)
     all_goals first|exact QL (k+1) ⟨iB,hY⟩ (Xs iB (Xv k))|skip
     have fU:g=true:=by
      cases g
      contradiction;rfl
     rw [fU] at eW;have oY:D[k].trig∈c.fcts:=by
      obtain ⟨f,hf,lC⟩:=Yag.1 eW.symm;rw [<- of_decide_eq_true lC];exact hf
     have ax:D[k].stat=2:=Decidable.byContradiction (by assumption);have hq:c.ruls.getD r crZ=c.ruls[r]:=by simp [hr]
     have jh:max D[k].due D[k].trig.day+1<=c.today:=by omega
     obtain ⟨f0,od,nq⟩:=hE _ (Xc iB) r oN oY ax (by rw [hq];assumption) jh;have iy:=ha.up hY;have kC:=hv.up hY;refine LP (σ:=Nat×Bool) (λq=>[(3,pQ b3),(4,dv),(6,av),(12,.I (k:Int)),(13,pQ b13),(14,.I (r:Int)),(18,.B q.2),(19,.I (q.1:Int))]) (λq W=>(q.1<=A.length/\q.2=(A.take q.1).any (λf=>Z7C c D[k] r f))/\Stp [] x W) (λq=>A.length - q.1) (0,false) ⟨⟨Xp _,rfl⟩,Stp.refl _ _⟩ ?_;rintro ⟨j,g2⟩ x2 ⟨⟨oQ,mr⟩,hX⟩;dsimp only at oQ mr ⊢;replace f3:=f3.up hX;replace f13:=f13.up hX;replace iy:=iy.up hX;replace kC:=kC.up hX;by_cases jd:j<A.length
     . have cu:(A.take (j+1)).any (λf=>Z7C c D[k] r f)=(g2 || Z7C c D[k] r A[j]):=by
        rw [Z9d _ _ _ jd,<- mr]
       refine QO ?_;cases g2
       case true=>
        refine ZDr 12 [] [] [(0,0),(1,0),(2,1),(3,1),(4,0),(5,0),(6,0),(7,0),(8,1),(9,2),(10,0),(11,0)] (λw1 ae=>?_);refine QD ?_;refine QO ?_;exact QL (j+1,true) ⟨⟨jd,by rw [cu];rfl⟩,hX.trans ae⟩ (Xs jd (Xv j))
       case false=>
        refine ZDr 12 [] [] [(0,0),(1,0),(2,1),(3,1),(4,0),(5,0),(6,0),(7,0),(8,1),(9,2),(10,0),(11,0)] (λw1 ae=>?_);replace f3:=f3.up ae;replace f13:=f13.up ae;replace iy:=iy.up ae;replace kC:=kC.up ae;replace hX:=hX.trans ae;clear ae;refine QD ?_;refine DP hX (Z9c c R D[k] ra r A[j] _ kC.rr hr (by omega)) λwb hT hX=>?_
        refine QD ?_;refine QO ?_;exact QL (j+1,Z7C c D[k] r A[j]) ⟨⟨jd,by rw [cu];rfl⟩,hX⟩ (Xs jd (Xv j))
     have du:j=A.length:=by omega
     subst du;rw [Xo] at mr;have fU:g2=true:=by
      rw [mr,Yag];exact ⟨f0,od,nq⟩
     subst fU;refine QO ?_;exact QL (k+1) ⟨iB,hY.trans hX⟩ (Xs iB (Xv k))
 replace hS:=hS.trans hY;refine QO ?_;refine CP hS (Z4m er m _ (hF.up hS) (cx.up hS) (ij.up hS) (hS.cell (by simp) ey) (hS.cell (by simp) d5) bD) λy2 _ hS=>?_
 refine RT ?_;exact ⟨rfl,hS⟩
def rlT (first:Int) (k:Str) (n:Int):RuleM:=⟨[120],first,k,.mk 2 1 [] [],.mk 7 0 [100,97,121,115] [.mk 4 0 [100,97,121] [],.mk 1 n [] []],[],[]⟩
def crT (first:Int) (k:Str) (n:Int):Cr:=⟨[120],first,k,[⟨2,1⟩,⟨24,0⟩],[⟨4,0⟩,⟨1,n⟩,⟨15,0⟩,⟨24,0⟩],[],[]⟩
def ZbJ (first:Int) (k:Str) (n:Int):Str:=[114,117,108,101]++32 :: ([120]++32 :: ([102,114,111,109]++32 :: (64 :: Z2L first++32 :: 123 :: 32 :: ([111,110]++32 :: (k++59 :: 32 :: ([100,117,101]++32 :: ([100,97,121]++32 :: 43 :: 32 :: (Lib.itoa n++32 :: ([100,97,121,115]++59 :: 32 :: [125])))))))))
def Zav (first:Int) (k:Str) (n:Int):List T3:=[(1,[114,117,108,101],0),(1,[120],0),(1,[102,114,111,109],0),(3,64 :: Z2L first,first),(4,[123],0),(1,[111,110],0),(1,k,0),(4,[59],0),(1,[100,117,101],0),(1,[100,97,121],0),(4,[43],0),(2,Lib.itoa n,n),(1,[100,97,121,115],0),(4,[59],0),(4,[125],0)]
theorem Zf4:∀ s∈Jo,(decide (s≠[]) && decide (s.length<=12) && Z5I (s.getD 0 0) && s.all ldB)=true:=by decide
section
variable {first n:Int} {k:Str}
theorem Zxu (h0:0<=first) (h1:first<=3652058) (hk:k∈Jo) (hn:0<=n/\n<=59):ZJ (ZbJ first k n) (Zav first k n):=by
 unfold ZbJ Zav;refine ZJ.word (Z1d (by decide)) Z3i (ZJ.spc ?_);refine ZJ.word (Z1d (by decide)) Z3i (ZJ.spc ?_);refine ZJ.word (Z1d (by decide)) Z3i (ZJ.spc ?_);refine ZJ.day Z8h h0 h1 (ZJ.spc ?_);refine ZJ.sym (by decide) (.inr (by decide)) (ZJ.spc ?_);refine ZJ.word (Z1d (by decide)) Z3i (ZJ.spc ?_);refine ZJ.word (Z1d (Zf4 k hk)) Z9O ?_;refine ZJ.sym (by decide) (.inr (by decide)) (ZJ.spc ?_);refine ZJ.word (Z1d (by decide)) Z3i (ZJ.spc ?_);refine ZJ.word (Z1d (by decide)) Z3i (ZJ.spc ?_);refine ZJ.sym (by decide) (.inr (by decide)) (ZJ.spc ?_);refine ZJ.num hn.1 (by omega) Z3i (ZJ.spc ?_);refine ZJ.word (Z1d (by decide)) Z9O ?_;refine ZJ.sym (by decide) (.inr (by decide)) (ZJ.spc ?_);exact ZJ.sym (by decide) (.inr (by decide)) .nil
theorem Z9e (hn:0<=n/\n<=59):(Lib.itoa n).length<=2:=by
 unfold Lib.itoa;rw [if_neg (by omega)];exact Z0W 1 n.toNat (by omega)
theorem Z9f (h0:0<=first) (h1:first<=3652058) (hk:k∈Jo) (hn:0<=n/\n<=59):(ZbJ first k n).length<=100:=by
 have e1:=(Z8h first h0 h1).1;have e2:=Z9e hn;have e3:∀ s∈Jo,s.length<=6:=by decide
 have e4:=e3 k hk;unfold ZbJ;simp;omega
theorem Z17 {a:Tkn} {i:Int} {s:Str} {m:Int} (h:of3 a=(i,s,m)):a=⟨i,a.pos,s,m⟩:=by
 obtain ⟨b,p,t,z⟩:=a;simp only [of3,Prod.mk.injEq] at h;obtain ⟨rfl,rfl,rfl⟩:=h;rfl
def Zlv (l:List Tkn):Ps:=match Z25 l (l.length+1) [] 0 0 with
 | .err a c=>.err a c
 | .ok rs _ _=>.ok rs
def ZbK:List UInt8:=[48,49,50,51,52,53,54,55,56,57]
theorem ZhL (hn:0<=n/\n<=59):∃ c∈ZbK,∃ r,Lib.itoa n=c :: r:=by
 obtain ⟨m,rfl⟩:∃ m:Nat,n=(m:Int):=⟨n.toNat,by omega⟩
 have h:∀ m<60,(match Lib.itoa ((m:Nat):Int) with|[]=>false|c :: _=>ZbK.contains c)=true:=by decide +kernel
 have h2:=h m (by omega)
 revert h2;cases Lib.itoa (m:Int) with
 | nil=>intro h2;cases h2
 | cons c r=>intro h2;exact ⟨c,by simpa using h2,r,rfl⟩
theorem ZtN (hk:k∈Jo) {d:UInt8} (hd:d∈ZbK) (ds ns:Str) (p1 p2 p3 p4 p5 p6 p7 p8 p9 p10 p11 p12 p13 p14 p15 p:Int):Zlv ([⟨1,p1,[114,117,108,101],0⟩,⟨1,p2,[120],0⟩,⟨1,p3,[102,114,111,109],0⟩,⟨3,p4,64 :: ds,first⟩,⟨4,p5,[123],0⟩,⟨1,p6,[111,110],0⟩,⟨1,p7,k,0⟩,⟨4,p8,[59],0⟩,⟨1,p9,[100,117,101],0⟩,⟨1,p10,[100,97,121],0⟩,⟨4,p11,[43],0⟩,⟨2,p12,d :: ns,n⟩,⟨1,p13,[100,97,121,115],0⟩,⟨4,p14,[59],0⟩,⟨4,p15,[125],0⟩]++[⟨0,p,[],0⟩])=.ok [rlT first k n]:=by
 unfold rlT;simp only [Jo,ZbK,Xb,Xj,or_false] at hk hd;rcases hk with rfl|rfl|rfl|rfl|rfl|rfl<;>rcases hd with rfl|rfl|rfl|rfl|rfl|rfl|rfl|rfl|rfl|rfl<;>kernel_rfl
theorem ZtO (h0:0<=first) (h1:first<=3652058) (hk:k∈Jo) (hn:0<=n/\n<=59):Z27 (ZbJ first k n)=.ok [rlT first k n]:=by
 obtain ⟨l1,p,g1,g2,-⟩:=Z76 (Xh (Z9f h0 h1 hk hn) (by decide)) (Zxu h0 h1 hk hn);unfold Z27;rw [g1];show Zlv (l1++[⟨0,p,[],0⟩])=_;clear g1;unfold Zav at g2;obtain ⟨t1,l1,rfl,q1,g2⟩:=XI.1 g2;obtain ⟨t2,l1,rfl,q2,g2⟩:=XI.1 g2;obtain ⟨t3,l1,rfl,q3,g2⟩:=XI.1 g2;obtain ⟨t4,l1,rfl,q4,g2⟩:=XI.1 g2;obtain ⟨t5,l1,rfl,q5,g2⟩:=XI.1 g2;obtain ⟨t6,l1,rfl,q6,g2⟩:=XI.1 g2;obtain ⟨t7,l1,rfl,q7,g2⟩:=XI.1 g2;obtain ⟨t8,l1,rfl,q8,g2⟩:=XI.1 g2;obtain ⟨t9,l1,rfl,q9,g2⟩:=XI.1 g2;obtain ⟨t10,l1,rfl,q10,g2⟩:=XI.1 g2;obtain ⟨t11,l1,rfl,q11,g2⟩:=XI.1 g2;obtain ⟨t12,l1,rfl,q12,g2⟩:=XI.1 g2;obtain ⟨t13,l1,rfl,q13,g2⟩:=XI.1 g2;obtain ⟨t14,l1,rfl,q14,g2⟩:=XI.1 g2;obtain ⟨t15,l1,rfl,q15,g2⟩:=XI.1 g2;obtain rfl:=List.map_eq_nil_iff.1 g2;obtain ⟨d,hd,r,hr⟩:=ZhL hn;rw [hr] at q12;rw [Z17 q1,Z17 q2,Z17 q3,Z17 q4,Z17 q5,Z17 q6,Z17 q7,Z17 q8,Z17 q9,Z17 q10,Z17 q11,Z17 q12,Z17 q13,Z17 q14,Z17 q15];exact ZtN hk hd _ _ _ _ _ _ _ _ _ _ _ _ _ _ _ _ _ _
theorem ZtP (h0:0<=first) (h1:first<=3652058) (hk:k∈Jo) (hn:0<=n/\n<=59):∀ l,Z02 (ZbJ first k n)=.ok l->∀ t∈l,t.text∉Z3D:=λl hl t ht hb=>by
 obtain ⟨l1,p,g1,g2,-⟩:=Z76 (Xh (Z9f h0 h1 hk hn) (by decide)) (Zxu h0 h1 hk hn);have e:=g1.symm.trans hl;simp only [Tks.ok.injEq] at e;subst e;rcases Xg.1 ht with ht|ht
 . have hm:of3 t∈Zav first k n:=g2 ▸ XH.2 ⟨t,ht,rfl⟩
   have bg:∀ q∈Zav first k n,q.2.1∉Z3D:=by
    have hi:∀ m:Nat,m<60->Lib.itoa (m:Int)∉Z3D:=by
     intro m hm;have h2:∀ s∈Z3D,s.getD 0 0<48\/57<s.getD 0 0:=by decide
     intro hc;have h3:=h2 _ hc;have:∀ m<60,¬ ((Lib.itoa ((m:Nat):Int)).getD 0 0<48\/57<(Lib.itoa ((m:Nat):Int)).getD 0 0):=by decide +kernel
     exact this m hm h3
    intro q hq;unfold Zav at hq;have hd:(64 :: Z2L first:Str)∉Z3D:=by
     have h2:∀ s∈Z3D,s.getD 0 0≠64:=by decide
     intro hc;exact h2 _ hc rfl
    have d9:∀ s∈Jo,s∉Z3D:=by decide
    simp only [Xb,Xj,or_false] at hq;rcases hq with rfl|rfl|rfl|rfl|rfl|rfl|rfl|rfl|rfl|rfl|rfl|rfl|rfl|rfl|rfl
    all_goals first|exact hd|exact d9 k hk|(have:=hi n.toNat (by omega);rwa [YaA hn.1] at this)|(dsimp only;decide)
   exact bg _ hm hb
 obtain rfl:=Xk.1 ht;exact absurd hb (show ([]:Str)∉Z3D by decide)
theorem Zxv (hn:0<=n/\n<=59):Zd (.mk 1 n [] [])=1:=by
 rw [Zd];simp [JD,Z0Q];omega
theorem Zxw (hn:0<=n/\n<=59):Zd (.mk 7 0 [100,97,121,115] [.mk 4 0 [100,97,121] [],.mk 1 n [] []])=3:=by
 rw [Zd,Xt,Xt,XM,Zxv hn,Zd];kernel_rfl
theorem Zxx:Zw (.mk 7 0 [100,97,121,115] [.mk 4 0 [100,97,121] [],.mk 1 n [] []])=2:=by
 rw [Zw,Xt,Xt,XM,Zw,Zw];kernel_rfl
theorem Zp3:ZU (.mk 7 0 [100,97,121,115] [.mk 4 0 [100,97,121] [],.mk 1 n [] []])=[⟨4,0⟩,⟨1,n⟩,⟨15,0⟩,⟨24,0⟩]:=by
 rw [ZU,Zc,Xt,Xt,XM];simp only [ZdA];kernel_rfl
theorem Zlw (h0:0<=first) (h1:first<=3652058) (hk:k∈Jo) (hn:0<=n/\n<=59):Z0s (rlT first k n).rul=0:=by
 have c1:(rlT first k n).rul.cnd=.mk 2 1 [] []:=rfl;have c2:(rlT first k n).rul.due=.mk 7 0 [100,97,121,115] [.mk 4 0 [100,97,121] [],.mk 1 n [] []]:=rfl;have c3:Je (rlT first k n).rul=true:=by
  simp only [Jo,Xb,Xj,or_false] at hk;rcases hk with rfl|rfl|rfl|rfl|rfl|rfl<;>kernel_rfl
 have c4:¬ ((rlT first k n).rul.frm<0\/(rlT first k n).rul.frm > 3652058):=by
  show ¬ (first<0\/first > 3652058);omega
 unfold Z0s Z0M;rw [c1,c2,c3];simp only [Z1H,Z0D,ZoV,Zxw hn,ZoW,Zxx,ZfX,Zp3,if_neg c4];exact (show _=(0:Int) by kernel_rfl)
theorem Zxy (h0:0<=first) (h1:first<=3652058) (hk:k∈Jo) (hn:0<=n/\n<=59):crF (rlT first k n).rul=crT first k n:=by
 unfold crF;rw [if_pos (Zlw h0 h1 hk hn)];have c1:(rlT first k n).rul.cnd=.mk 2 1 [] []:=rfl;have c2:(rlT first k n).rul.due=.mk 7 0 [100,97,121,115] [.mk 4 0 [100,97,121] [],.mk 1 n [] []]:=rfl;rw [c1,c2,ZfX,Zp3];rfl
theorem Zyi (h0:0<=first) (h1:first<=3652058) (hk:k∈Jo) (hn:0<=n/\n<=59):Zby (crT first k n)=0:=Zxy h0 h1 hk hn ▸ (Z93 (rlT first k n).rul (Zlw h0 h1 hk hn)).2
def Z0I (c:Cas) (first:Int) (k:Str) (n:Int):Cas:={ c with ruls:=[crT first k n],stys:=[] }
theorem ZoA {c:Cas} (h:Z94 c) (h0:0<=first) (h1:first<=3652058) (hk:k∈Jo) (hn:0<=n/\n<=59):Z4T (Z0I c first k n):=by
 obtain ⟨v1,v2⟩:=Z97 (Zyi h0 h1 hk hn);have g:=h.cas;refine ⟨⟨g.ok.fl,by show 1<=1024;decide,λq hq=>?_,λq hq=>?_,g.ok.att,g.ok.ext,⟨by show 0<=1000;decide,λs hs=>by cases hs⟩,g.ok.court,g.ok.today⟩,g.fl,by show 1<=4;decide,g.fo,g.nd⟩;obtain rfl:=Xk.1 hq;exact v1;obtain rfl:=Xk.1 hq;exact v2
def ZbL (first:Int) (k:Str) (f:Fct):Bool:=decide (f.kind=k/\first<=f.day)
def dlT (c:Cas) (f:Fct) (n:Int):Dln:=⟨[120],f,f.to_,f.day+n,if f.day+n<c.today then 2 else 0,[⟨1,f.entry,f.day⟩,⟨2,0,0⟩]⟩
theorem Zlx (fs:List Fct) (f:Fct) (due:Int):Z9o fs f [] due=(default,false):=by
 have e:Z2S fs f [] due=[]:=by
  unfold Z2S;rw [List.filter_eq_nil_iff];intro g _ h;exact (of_decide_eq_true h).1 rfl
 unfold Z9o;rw [if_pos e]
theorem Zyj {c:Cas} {f:Fct} (hf:0<=f.day/\f.day<=3651000) (hn:0<=n/\n<=59):JB (Z0I c first k n) f (0:Nat)=if ZbL first k f=true then (dlT c f n,true) else noD:=by
 have hap:Zev [crT first k n] [120] f.day=if first<=f.day then 0 else -1:=by
  show (if ZgM [crT first k n] [120] f.day (-1) 0 then ((0:Nat):Int) else -1)=_;have:ZgM [crT first k n] [120] f.day (-1) 0↔first<=f.day:=⟨λh=>h.2.1,λh=>⟨rfl,h,.inl (by decide)⟩⟩
  by_cases h:first<=f.day
  rw [if_pos (this.2 h),if_pos h];rfl;rw [if_neg (λg=>h (this.1 g)),if_neg h]
 have bY:Jk (opn (Z0I c first k n)) (evL (Z0I c first k n) f) [⟨2,1⟩,⟨24,0⟩]=(1,[],0):=by kernel_rfl
 have ci:Jk (opn (Z0I c first k n)) (evL (Z0I c first k n) f) [⟨4,0⟩,⟨1,n⟩,⟨15,0⟩,⟨24,0⟩]=(f.day+n,[],0):=by
  have hd:Z6B (f.day+n)=(f.day+n,0):=by
   unfold Z6B;rw [if_neg (by omega)]
  have:Jk (opn (Z0I c first k n)) (evL (Z0I c first k n) f) [⟨4,0⟩,⟨1,n⟩,⟨15,0⟩,⟨24,0⟩]=if (Z6B (f.day+n)).2=0 then ((Z6B (f.day+n)).1,[],0) else (0,[],(Z6B (f.day+n)).2):=by
   simp [Jk,Z6C,Z07,Z0d,ZcL,arM,Z3G,JZ,evL]
  rw [this,hd];rfl
 have hx:Z7z f.day (f.day+n) []=(f.day+n,0):=by
  unfold Z7z;by_cases h:f.day+n<=f.day;rw [if_pos h];rw [if_neg h];have:Z8F f.day (Z3o []) (f.day+n)=f.day+n:=by kernel_rfl
  rw [this,if_neg (by omega)]
 have hu:∀ e,Z7g f.day e []=[]:=λe=>by unfold Z7g;split<;>rfl
 unfold JB;rw [if_neg (by show ¬ ¬ (0<=((0:Nat):Int)/\((0:Nat):Int)<=((1:Nat):Int) - 1);decide)];have hq:(Z0I c first k n).ruls.getD ((0:Nat):Int).toNat crZ=crT first k n:=rfl
 rw [hq];dsimp only;have cC:(¬ (crT first k n).on=f.kind\/¬ Zev (Z0I c first k n).ruls (crT first k n).name f.day=((0:Nat):Int))↔¬ ZbL first k f=true:=by
  show (¬ k=f.kind\/¬ Zev [crT first k n] [120] f.day=0)↔_;rw [hap];unfold ZbL;rw [decide_eq_true_eq];by_cases h1:k=f.kind;by_cases h2:first<=f.day
  simp [h1,h2];simp [h1,h2];exact ⟨λ_ h=>h1 h.1.symm,λ_=>.inl h1⟩
 by_cases pU:ZbL first k f=true
 rw [if_neg (λh=>(cC.1 h) pU),if_pos pU];have e1:(crT first k n).cnd=[⟨2,1⟩,⟨24,0⟩]:=rfl;have e2:(crT first k n).due=[⟨4,0⟩,⟨1,n⟩,⟨15,0⟩,⟨24,0⟩]:=rfl;rw [e1,e2,bY,ci];have e3:(Z0I c first k n).stys=[]:=rfl;dsimp only;rw [if_neg (by decide),if_neg (by decide),e3,hx];dsimp only;rw [if_neg (by decide),if_pos rfl];unfold mkD dlT;have e4:(crT first k n).unl=[]:=rfl;have e5:Z2T [⟨2,1⟩,⟨24,0⟩]=false:=by decide
 have e6:Z2T [⟨4,0⟩,⟨1,n⟩,⟨15,0⟩,⟨24,0⟩]=false:=by
  unfold Z2T;simp
 dsimp only;rw [e4,Zlx,e1,e2,e3,hu,e5,e6];simp [Z0I,crT];rfl;rw [if_pos (cC.2 pU),if_neg pU]
theorem Zly (c:Cas):J2 (Z0I c first k n)=[]:=by
 have hstep:∀ (l:List DI) (s:List Fct×List Fct),(∀ p∈l,p.2<1)->l.foldl (JG (Z0I c first k n)) s=s:=by
  intro l
  induction l with
  | nil=>intro s _;rfl
  | cons p l ih=>
    intro s h;have hp:p.2=0:=by have:=h p (by simp);omega
    have e:(Z1N (Z0I c first k n) p.1 p.2).2=false:=by
     unfold Z1N;dsimp only;rw [hp];exact decide_eq_false (λh=>h.2.1 rfl)
    rw [XX];have:JG (Z0I c first k n) s p=s:=by
     unfold JG;dsimp only;rw [e,if_neg (by simp)]
    rw [this];exact ih s (λq hq=>h q (by simp [hq]))
 have h2:∀ j,(Zj (Z0I c first k n) j).2.2=[]:=by
  intro j
  induction j with
  | zero=>rfl
  | succ j ih=>
    rw [Zj];dsimp only;rw [ih,hstep _ _ (λp hp=>by obtain ⟨f,hf,hr,-⟩:=Z6a hp;exact hr)];rfl
 unfold J2;rw [h2];rfl
theorem Zxz {c:Cas} (hf:∀ f∈c.fcts,0<=f.day/\f.day<=3651000) (hn:0<=n/\n<=59):JH (Z0I c first k n)=((Z2X c.fcts).filter (ZbL first k)).map (λf=>dlT c f n):=by
 unfold JH;rw [Zly,XG];have hc:(Z0I c first k n).fcts=c.fcts:=rfl;rw [hc];have hm:∀ f∈Z2X c.fcts,0<=f.day/\f.day<=3651000:=λf h=>hf f ((Jf _).mem_iff.1 h);generalize Z2X c.fcts=L at hm
 induction L with
 | nil=>rfl
 | cons f L ih=>
   have e:Z0a (Z0I c first k n) (f :: L)=Z2p (Z0I c first k n) f 1++Z0a (Z0I c first k n) L:=rfl;rw [e,XR,ih (λg hg=>hm g (by simp [hg]))];have e2:Z2p (Z0I c first k n) f 1=if (JB (Z0I c first k n) f (0:Nat)).2=true then [((JB (Z0I c first k n) f (0:Nat)).1,0)] else []:=by
    rw [Z2p,Z2p,XN]
   rw [e2,Zyj (hm f (by simp)) hn,List.filter_cons];cases ZbL first k f<;>rfl
end
theorem Zlz {α:Type} [Z6 α] {X:List Nat} {w}:SlV X w (.N) ([]:List α):=⟨none,0,rfl,Xn _,by simp [maxLen],λ_=>rfl,λi h=>absurd h (Xw _)⟩
def ZbM (first:Int) (k:Str) (l:List Fct) (i:Nat):Nat:=((l.take i).filter (ZbL first k)).length
theorem ZhM {first:Int} {k:Str} {l:List Fct} {i:Nat} (h:i<l.length):ZbM first k l (i+1)=ZbM first k l i+if l[i].kind=k/\first<=l[i].day then 1 else 0:=by
 unfold ZbM;rw [Xi h,Ya8,Xd];congr 1;by_cases hc:l[i].kind=k/\first<=l[i].day
 have:ZbL first k l[i]=true:=decide_eq_true hc
 simp [this,hc];have:ZbL first k l[i]=false:=decide_eq_false hc
 simp [this,hc]
structure ZxA (c:Cas) (k:Str) (n:Int) (d:Dln):Prop where
 name:d.rule=[120]
 kind:d.trig.kind=k
 due:d.due=d.trig.day+n
 stat:(d.due<c.today->d.stat=2)/\(¬ d.due<c.today->d.stat=0)
 party:d.party=d.trig.to_
 len:d.reas.length=2
 day:0<=d.trig.day/\d.trig.day<=3651000
theorem Zyk {c:Cas} {first n:Int} {k:Str} (hf:∀ f∈c.fcts,0<=f.day/\f.day<=3651000) (hn:0<=n/\n<=59):(JH (Z0I c first k n)).length=ZbM first k c.fcts c.fcts.length/\∀ d∈JH (Z0I c first k n),ZxA c k n d:=by
 rw [Zxz hf hn];refine ⟨?_,λd hd=>?_⟩;rw [Xu];unfold ZbM;rw [Xo];exact ((Jf c.fcts).filter _).length_eq;obtain ⟨f,lC,rfl⟩:=XH.1 hd;obtain ⟨g1,g2⟩:=Ybo.1 lC;have g3:f.kind=k/\first<=f.day:=of_decide_eq_true g2
 exact ⟨rfl,g3.1,rfl,⟨λh=>if_pos h,λh=>if_neg h⟩,rfl,rfl,hf f ((Jf _).mem_iff.1 g1)⟩
theorem ZxB (lv:Value) (l:List Int) (kd n_ fr:Int) (er:Value) (m:Int) (w) (hs:SlV [] w lv l) (hl:∀ a∈l,I64 a) (dY:I64 kd) (hn_:I64 n_) (ju:I64 fr) (hF:SlV [] w Z21 Ze) (cx:Z0z w) (ij:Z2R w) (sV:Zcz w) (ey:w.cell? ⟨2,0,none⟩=some (.I m)) (d5:w.cell? ⟨8,0,none⟩=some er) (bD:er=.nilIface\/∃ te pe,er=.iface te pe) :
 CC 9 #[lv,.I kd,.I n_,.I fr] w λr w'=>r=.B true/\Stp [] w w':=by
 refine cW4 149 Tryz.func9 ?_;refine W ?_;refine CL (Z5v lv l w hs hl cx ij) ?_;rintro _ w1 ⟨c,R,rfl,hv,az,hS⟩;have aO:=az.cas;have dC:=az.fl;have kD:∀ f∈c.fcts,0<=f.day/\f.day<=3651000:=λf hf=>by have:=(az.fo f hf).day;omega
 refine W ?_;refine Z0 Z2 rfl ?_;rintro _ w2 ⟨b9,rfl,ir,e9,T⟩;refine SB (us:=Jh c R) hv.cell e9 ?_;rintro _ w3 ⟨hU,e9⟩;replace T:=T.ow hU;clear hU;repeat'(first|refine W1 ?_|omega|refine VG ?_ ?_<;>intro hg|refine VC ?_ ?_<;>intro hc)
 refine CP T (J7 n_ 60 _ (by decide) hn_) λw4 hT T=>?_
 have r1:=J1 (if n_<0 then -(n_+1) else n_) 60 (by decide);generalize (if n_<0 then -(n_+1) else n_) % 60=n at r1 ⊢;replace e9:=e9.up hT;clear hT;repeat'(first|refine W1 ?_|omega|refine VG ?_ ?_<;>intro hg|refine VC ?_ ?_<;>intro hc)
 refine CP T (J7 fr 50 _ (by decide) ju) λw5 hT T=>?_
 have r2:=J1 (if fr<0 then -(fr+1) else fr) 50 (by decide);generalize (if fr<0 then -(fr+1) else fr) % 50=z2 at r2 ⊢;replace e9:=e9.up hT;clear hT;repeat'(first|refine W1 ?_|omega|refine VG ?_ ?_<;>intro hg|refine VC ?_ ?_<;>intro hc)
 refine CL (Zae kd _ dY) ?_;rintro _ w6 ⟨⟨k,hk,rfl⟩,hT⟩;replace e9:=e9.up hT;replace T:=T.trans hT;clear hT;obtain ⟨first,hfirst⟩:∃ first,739616+z2 - 5=first:=⟨_,rfl⟩
 rw [hfirst];have r3:0<=first/\first<=3652058:=by omega
 repeat'(first|refine W1 ?_|omega|refine VG ?_ ?_<;>intro hg|refine VC ?_ ?_<;>intro hc)
 refine CP T (Zen first _ r3.1 r3.2 ((sV.up hS).up T)) λw7 hT T=>?_;replace e9:=e9.up hT;clear hT;have kl:k.length<=6:=by
  have e3:∀ s∈Jo,s.length<=6:=by decide
  exact e3 k hk
 have dl:=(Z8h first r3.1 r3.2).1;have il:=Z9e (n:=n) (by omega);refine W ?_;refine Z0C rfl rfl (by simp;omega) rfl ?_;refine W ?_;refine Z0C rfl rfl (by simp;omega) rfl ?_;refine W ?_;refine Z0C rfl rfl (by simp;omega) rfl ?_;refine W ?_;refine Z0C rfl rfl (by simp;omega) rfl ?_;refine W ?_;refine CP T (Z52 n _ (by omega) (by omega)) λw8 hT T=>?_
 replace e9:=e9.up hT;clear hT;refine W ?_;refine Z0C rfl rfl (by simp;omega) rfl ?_;refine W ?_;refine Z0C rfl rfl (by simp;omega) rfl ?_;rw [show ((((([114,117,108,101,32,120,32,102,114,111,109,32,64]++Z2L first)++[32,123,32,111,110,32])++k)++[59,32,100,117,101,32,100,97,121,32,43,32])++Lib.itoa n)++[32,100,97,121,115,59,32,125]=ZbJ first k n by simp [ZbJ]];refine W ?_;have l9:=e9.lt;have ST:=hS.trans T;refine Z0 (Z4 rfl (ZN rfl) (Z4l [b9] (ZbJ first k n) [rlT first k n] er m _ (by simpa using l9) (hF.up ST) (cx.up ST) (ST.cell (by simp) ey) (ST.cell (by simp) d5) bD (Xh (Z9f r3.1 r3.2 hk (by omega)) (by decide)) (ZtP r3.1 r3.2 hk (by omega)) (ZtO r3.1 r3.2 hk (by omega)) (show 1<=100 by decide) (λr hr=>by
  obtain rfl:=Xk.1 hr;refine ⟨Zlw r3.1 r3.2 hk (by omega),?_,?_,?_,?_⟩;show ZD (.mk 2 1 [] [])<=1000;rw [ZD];decide;show ZD (.mk 7 0 [100,97,121,115] [.mk 4 0 [100,97,121] [],.mk 1 n [] []])<=1000;simp only [ZD,Xt,XM];decide;exact Zxp;exact .mk (show (7:Int)≠6 by decide) (show (7:Int)≠9 by decide) (λy hy=>by
   simp only [rlT,Nd.kids,Xb,Xj,or_false] at hy;rcases hy with rfl|rfl
   exact .mk (show (4:Int)≠6 by decide) (show (4:Int)≠9 by decide) (λy hy=>by cases hy);exact .mk (show (1:Int)≠6 by decide) (show (1:Int)≠9 by decide) (λy hy=>by cases hy))))) rfl ?_
 rintro _ w9 ⟨sv,rfl,eR,hT⟩;rw [Xt,XM,Zxy r3.1 r3.2 hk (by omega)] at eR;replace e9:=e9.up hT;replace T:=T.trans hT;clear hT ST;obtain ⟨ps,ks,rfl,-⟩:=id eR;repeat'(first|refine W1 ?_|omega|refine VG ?_ ?_<;>intro hg|refine VC ?_ ?_<;>intro hc)
 refine Z5 (Zb (u:=.slice ps [crT first k n].length ks) rfl rfl rfl rfl e9 (show (1:Nat)<19 by decide)) ?_;rintro _ w10 ⟨hU,e9⟩;replace eR:=eR.ext (X':=[b9]) hU (by simp) (λb hb=>.inl hb);replace T:=T.ow hU;clear hU;repeat'(first|refine W1 ?_|omega|refine VG ?_ ?_<;>intro hg|refine VC ?_ ?_<;>intro hc)
 refine Z5 (Zb (u:=.N) rfl rfl rfl rfl e9 (show (4:Nat)<19 by decide)) ?_;rintro _ w11 ⟨hU,e9⟩;replace eR:=eR.ext (X':=[]) hU (by simp) (by simp);replace T:=T.ow hU;clear hU;replace e9:Blk w11 b9 37 (Jh (Z0I c first k n) { R with rv:=.slice ps [crT first k n].length ks,sv:=.N }):=e9;have iz:=hv.up T;have mG:Z1z w11 (Z0I c first k n) { R with rv:=.slice ps [crT first k n].length ks,sv:=.N }:=⟨iz.ff,eR,iz.aa,iz.cc,Zlz,iz.cal,iz.one⟩
 have oz:=ZoA (n:=n) az r3.1 r3.2 hk (by omega);obtain ⟨fV,aB⟩:=Zyk (first:=first) (k:=k) (n:=n) kD (by omega);have xM:=Zly (first:=first) (k:=k) (n:=n) c;have ef:(Z0I c first k n).fcts=c.fcts:=rfl;have et:(Z0I c first k n).today=c.today:=rfl;have mB:=aO.ok.today;replace hS:=hS.trans T;clear T iz hv eR az;rw [<- ef] at fV dC;rw [<- et] at mB;have eI:∀ d∈JH (Z0I c first k n),ZxA (Z0I c first k n) k n d:=λd hd=>let h:=aB d hd;⟨h.name,h.kind,h.due,h.stat,h.party,h.len,h.day⟩
 clear aB ef et kD aO;generalize Z0I c first k n=C at *
 generalize ({ R with rv:=.slice ps [crT first k n].length ks,sv:=.N }:Z0N)=Q at *;repeat'(first|refine W1 ?_|omega|refine VG ?_ ?_<;>intro hg|refine VC ?_ ?_<;>intro hc)
 refine CL (Z10 C Q _ mG oz) ?_;rintro dv w12 ⟨dy,hT⟩;have hd:SlV [] w12 dv (JH C):=Row.slv (X:=[]) dy (by simp);replace e9:=e9.up hT;replace mG:=mG.up hT;replace hS:=hS.trans hT;clear hT dy;generalize JH C=D at *;have uy:=hd.max;have uB:ZbM first k C.fcts 0=0:=rfl
 refine W ?_;refine LP (σ:=Nat) (λi=>[(9,pQ b9),(10,.I n),(11,.I first),(12,str k),(15,dv),(16,.I (ZbM first k C.fcts i:Int)),(17,.I (i:Int))]) (λi W=>i<=C.fcts.length/\Stp [] w12 W) (λi=>C.fcts.length - i) 0 ⟨Xp _,Stp.refl _ _⟩ ?_;rintro i y ⟨hi,hY⟩;have f9:=e9.up hY;have iw:=(mG.up hY).ff;by_cases hlt:i<C.fcts.length;have ax:=ZhM (first:=first) (k:=k) hlt;have cE:ZbM first k C.fcts i<=8:=by
  unfold ZbM;refine Xh (X0 _ _) ?_;rw [Xx];omega
 focus repeat'(first|refine W1 ?_|omega|refine VG ?_ ?_<;>intro hg|refine VC ?_ ?_<;>intro hc)
 have h1:C.fcts[i].kind=k:=by assumption
 have h2:first<=C.fcts[i].day:=by omega
 rw [if_pos ⟨h1,h2⟩] at ax;refine Zs (i+1) ⟨rfl,rfl,rfl,rfl,rfl,?_,rfl,trivial⟩ ⟨hlt,hY⟩ (Xs hlt (Xv i));rw [ax];rfl;have h2:¬ first<=C.fcts[i].day:=by omega
 rw [if_neg (λh=>h2 h.2)] at ax;refine Zs (i+1) ⟨rfl,rfl,rfl,rfl,rfl,?_,rfl,trivial⟩ ⟨hlt,hY⟩ (Xs hlt (Xv i));rw [ax];rfl;have h1:¬ C.fcts[i].kind=k:=by assumption
 rw [if_neg (λh=>h1 h.1)] at ax;refine Zs (i+1) ⟨rfl,rfl,rfl,rfl,rfl,?_,rfl,trivial⟩ ⟨hlt,hY⟩ (Xs hlt (Xv i));rw [ax];rfl;obtain rfl:i=C.fcts.length:=by omega
 have dw:=hd.up hY;have eX:=mG.up hY;replace hS:=hS.trans hY;rw [<- fV];clear hY hd e9 mG;focus repeat'(first|refine W1 ?_|omega|refine VG ?_ ?_<;>intro hg|refine VC ?_ ?_<;>intro hc)
 refine CL (Z1U C Q _ eX oz) ?_;rintro fv w13 gZ;rw [xM] at gZ;have d7:SlV [] w13 fv ([]:List Fct):=gZ.slv (by simp);have hT:=gZ.2;replace f9:=f9.up hT;replace dw:=dw.up hT;replace hS:=hS.trans hT;clear hT gZ eX;focus repeat'(first|refine W1 ?_|omega|refine VG ?_ ?_<;>intro hg|refine VC ?_ ?_<;>intro hc)
 refine LP (σ:=Nat) (λi=>[(9,pQ b9),(10,.I n),(12,str k),(15,dv),(18,.I (i:Int))]) (λi W=>i<=D.length/\Stp [] w13 W) (λi=>D.length - i) 0 ⟨Xp _,Stp.refl _ _⟩ ?_;rintro i y ⟨hi,hY⟩;have g9:=f9.up hY;have pC:=dw.up hY;by_cases hlt:i<D.length
 . have hx:=eI _ (Xc hlt)
   obtain ⟨csa,⟨ra,rfl,cQ⟩,dI⟩:=pC.cell hlt;repeat'(first|refine W1 ?_|omega|refine VG ?_ ?_<;>intro hg|refine VC ?_ ?_<;>intro hc)
   refine Z8 (Z0n rfl rfl pC hlt ⟨ra,rfl,cQ⟩ dI) rfl ?_;refine Z0 Z2 rfl ?_;rintro _ wa ⟨b19,rfl,nX,e19,hT⟩;refine Z5 (Zm (us:=dlC D[i] ra) rfl rfl rfl rfl (λu hu=>by
    simp only [Xb,Xj,or_false] at hu;rcases hu with rfl|rfl|rfl|rfl|rfl|rfl|rfl|rfl|rfl|rfl|rfl
    all_goals first|rfl|exact cQ.one) e19 rfl) ?_
   rintro _ wb ⟨hU,e19⟩;replace hT:=hT.ow hU;replace g9:=g9.up hT;replace cQ:=cQ.up hT;replace hY:=hY.trans hT;clear hT hU dI pC;have x1:=hx.name;have x2:=hx.kind;have x3:=hx.due;have x4:=hx.stat;have x5:=hx.party;have x6:=hx.len;have x7:=hx.day;clear eI hx dw d7 mB fV dC hi;by_cases ge:D[i].due<C.today
   . replace x4:=x4.1 ge
     repeat'(first|refine W1 ?_|omega|refine VG ?_ ?_<;>intro hg|refine VC ?_ ?_<;>intro hc)
     all_goals first|contradiction|exact QL (i+1) ⟨hlt,hY⟩ (Xs hlt (Xv i))
   . replace x4:=x4.2 ge
     repeat'(first|refine W1 ?_|omega|refine VG ?_ ?_<;>intro hg|refine VC ?_ ?_<;>intro hc)
     all_goals first|contradiction|exact QL (i+1) ⟨hlt,hY⟩ (Xs hlt (Xv i))
 replace hS:=hS.trans hY;focus repeat'(first|refine W1 ?_|omega|refine VG ?_ ?_<;>intro hg|refine VC ?_ ?_<;>intro hc)
 refine CP hS (Z4m er m _ (hF.up hS) (cx.up hS) (ij.up hS) (hS.cell (by simp) ey) (hS.cell (by simp) d5) bD) λy2 _ hS=>?_
 focus repeat'(first|refine W1 ?_|omega|refine VG ?_ ?_<;>intro hg|refine VC ?_ ?_<;>intro hc)
 refine RU ?_;exact ⟨rfl,hS⟩
end Go.Proofs.YtipfkbkkndacjaaGreatDoor
namespace Go.Eng
open Go Go.RowKit Go.Proofs
def Z9g (P:Program) (w:World) (n:String) (d:DataW Unit):Prop:=∃ g t cs fuel p,P.globalNamed n=some g/\(P.globals[g]?).map (·.type)=some t/\w.var? P n=some cs/\DataW.trod (λ_=>()) P w 0 (λ_=>true) false fuel t cs.toList=some (d,p)
theorem Z4n {P:Program} {w}:∀ (l:List (String×DataW Unit)) (ps:List MemPlace),DataW.LaidVars P w l ps->∀ (n:String) (d:DataW Unit),(n,d)∈l->Z9g P w n d
 | [],_,_,n,d,h=>by simp at h
 | (n0, d0) :: r, ps, hl, n, d, h => by
   obtain ⟨g,t,cs,fuel,p,q,h1,h2,h3,h4,h5,_⟩:=hl;rcases Xb.1 h with h|h
   cases h;exact ⟨g,t,cs,fuel,p,h1,h2,h3,h4⟩;exact Z4n r q h5 n d h
theorem ZhN {P:Program} {w} {name:String} {g t e n:Nat} {k:IntKind} {zs:List Int} (h:Z9g P w name (Lib.tabData k zs)) (hg:P.globalNamed name=some g) (jh:(P.globals[g]?).map (·.type)=some t) (ht:P.underlying t=some (.array n e)) (he:P.underlying e=some (.int k)) (xN:P.cellsOf e=1) (ol:P.cellsOf t=n):Lib.TabIs P w name k zs:=by
 obtain ⟨g',t',cs,fuel,p,xO,xP,sW,hd⟩:=h;obtain rfl:=X2 (hg.symm.trans xO);obtain rfl:=X2 (jh.symm.trans xP);unfold Lib.TabIs;rw [sW,<- Lib.cells_of_tab ht he xN ol hd]
theorem Zf5 {P:Program} {W:World} {name:String} {g t e n:Nat} {ss:List Str} (hg:P.globalNamed name=some g) (ht:(P.globals[g]?).map (·.type)=some t) (hu:P.underlying t=some (.array n e)) (he:P.underlying e=some .string) (hc:P.cellsOf e=1)
 (hn:ss.length=n) (h:Z9g P W name (.agg (ss.map (λs=>DataW.lit (.string s))))) :
 ∀ i (hi:i<ss.length),W.cell? ⟨g,i,none⟩=some (str ss[i]):=by
 obtain ⟨g0,t0,cs0,f0,p0,eW,mA,lR,eE⟩:=h;obtain rfl:=X2 (hg.symm.trans eW);obtain rfl:=X2 (ht.symm.trans mA);obtain ⟨xs,m1,rfl,kp,ai,eV,dB⟩:=DataW.trod_array hu eE;intro i hi;have h1:=dB i (by omega);rw [hc,YaQ] at h1;have uC:xs[i]?=some (xs[i]'(by omega)):=XV (by omega);rw [uC] at h1;obtain ⟨s,e1,e2,_⟩:=DataW.trod_string he h1;have e3:DataW.agg (ss.map (λs=>DataW.lit (.string s)))=(DataW.agg (xs.map (·.1)):DataW Unit):=congrArg Prod.fst kp;simp only [DataW.agg.injEq] at e3;have e4:(DataW.lit (.string ss[i]):DataW Unit)=(xs[i]'(by omega)).1:=by
  have h2:=congrArg (λl=>l[i]?) e3;simp only [Yby,uC,XV hi,Ya6,XK] at h2;exact h2
 rw [e2] at e4;simp only [DataW.lit.injEq,Lit.string.injEq] at e4;have hv:=World.var?_cell eW lR i;rw [hv];have h5:cs0.toList[i]?=some (.string s):=by
  have h6:=congrArg (λl=>l[0]?) e1;simpa [Yaf,List.getElem?_drop] using h6
 rw [<- YaW,h5];congr 1;simp only [str,e4]
theorem ZdK {P:Program} {W:World} {name:String} {g t:Nat} {ms:Array (String×TypeId)} {d:DataW Unit} (hg:P.globalNamed name=some g) (ht:(P.globals[g]?).map (·.type)=some t) (hu:P.underlying t=some (.interface ms)) (h:Z9g P W name d) :
 ∃ er,W.cell? ⟨g,0,none⟩=some er/\(er=.nilIface\/∃ te pe,er=.iface te pe):=by
 obtain ⟨g0,t0,cs0,f0,p0,eW,mA,lR,eE⟩:=h;obtain rfl:=X2 (hg.symm.trans eW);obtain rfl:=X2 (ht.symm.trans mA);have hv:=World.var?_cell eW lR 0;rw [hv];rw [<- YaW];generalize cs0.toList=cs at *;cases f0 with
 | zero=>simp [DataW.trod] at eE
 | succ f=>
   unfold DataW.trod at eE;rw [hu] at eE
   match cs,eE with
   | [],eE=>simp at eE
   | a :: b :: r,eE=>simp at eE
   | [x], eE=>
     refine ⟨x,rfl,?_⟩;cases x with
     | nilIface=>exact .inl rfl
     | iface u v=>exact .inr ⟨u,v,rfl⟩
     | _=>simp at eE
end Go.Eng
namespace Go.Proofs.YtipfkbkkndacjaaGreatDoor
open Go Go.Eng Go.RowKit Go.Proofs
open Go Go.Eng Go.RowKit Go.Proofs Go.ChangeShapes Go.WideShapes Go.Deep
theorem ZhO {W:World} (h:Z9g Tryz.prog W "rollbook/holiday.moves" Rows.laid_rollbook_holiday_moves):Z2R W:=by
 obtain ⟨g0,t0,cs0,f0,p0,eW,mA,lR,eE⟩:=h;have hg:Tryz.prog.globalNamed "rollbook/holiday.moves" = some 4:=by kernel_rfl
 have ht:(Tryz.prog.globals[4]?).map (·.type)=some 374:=by kernel_rfl
 obtain rfl:=X2 (hg.symm.trans eW);obtain rfl:=X2 (ht.symm.trans mA);obtain ⟨xs,m1,rfl,kp,ai,eV,dB⟩:=DataW.trod_array Tryz.underlying374 eE;have oV:Tryz.prog.cellsOf 282=7:=by kernel_rfl
 have e3:(Rows.laid_rollbook_holiday_moves:DataW Unit)=.agg (xs.map (·.1)):=congrArg Prod.fst kp;have e4:(.agg [Lib.tabData .i64 [0,0,0,0,0,0,0],Lib.tabData .i64 [0,0,0,0,0,2,1],Lib.tabData .i64 [0,0,0,0,0,-1,1]]:DataW Unit)=.agg (xs.map (·.1)):=e3;simp only [DataW.agg.injEq] at e4;have row:∀ (k:Nat) (zs:List Int),k<3->[Lib.tabData .i64 [0,0,0,0,0,0,0],Lib.tabData .i64 [0,0,0,0,0,2,1],(Lib.tabData .i64 [0,0,0,0,0,-1,1]:DataW Unit)][k]?=some (Lib.tabData .i64 zs)->(cs0.toList.drop (k * 7)).take 7=zs.map λz=>Value.int .i64 z:=by
  intro k zs hk hz;have h1:=dB k hk;rw [oV] at h1;rw [e4,Yby] at hz;cases hx:xs[k]? with
  | none=>rw [hx] at hz;cases hz
  | some y=>
    rw [hx] at hz h1;have hy:y=(Lib.tabData .i64 zs,y.2):=Prod.ext (X2 hz) rfl;rw [hy] at h1;exact Lib.cells_of_tab (t:=282) (e:=3) (n:=7) Tryz.underlying282 Tryz.underlying3 (by kernel_rfl) oV h1
 have r0:=row 0 _ (by omega) rfl;have r1:=row 1 _ (by omega) rfl;have r2:=row 2 _ (by omega) rfl;have aq:∀ (k:Nat) (zs:List Int) (j:Nat),(cs0.toList.drop (k * 7)).take 7=(zs.map λz=>Value.int .i64 z)->j<7->j<zs.length->cs0.toList[k * 7+j]?=some (.I (zs.getD j 0)):=by
  intro k zs j hr hj fF;have h6:=congrArg (λl=>l[j]?) hr;simp only [Yaf,List.getElem?_drop,Yby,if_pos hj] at h6;rw [h6];simp [List.getD,fF]
 intro i u hu;have hi:=(Xz.1 hu).1;have xQ:i<21:=hi;have hv:=World.var?_cell hg lR i;rw [hv,<- YaW];by_cases h7:i<7;have h2:=aq 0 _ i r0 h7 (by simpa using h7);rw [show 0 * 7+i=i by omega] at h2;rw [h2];have hk:i=0\/i=1\/i=2\/i=3\/i=4\/i=5\/i=6:=by omega
 rcases hk with rfl|rfl|rfl|rfl|rfl|rfl|rfl<;>(simp [Z6D] at hu;subst hu;rfl)
 by_cases eh:i<14;have h2:=aq 1 _ (i - 7) r1 (by omega) (by simp;omega);rw [show 1 * 7+(i - 7)=i by omega] at h2;rw [h2];have hk:i=7\/i=8\/i=9\/i=10\/i=11\/i=12\/i=13:=by omega
 rcases hk with rfl|rfl|rfl|rfl|rfl|rfl|rfl<;>(simp [Z6D] at hu;subst hu;rfl)
 have h2:=aq 2 _ (i - 14) r2 (by omega) (by simp;omega);rw [show 2 * 7+(i - 14)=i by omega] at h2;rw [h2];have hk:i=14\/i=15\/i=16\/i=17\/i=18\/i=19\/i=20:=by omega
 rcases hk with rfl|rfl|rfl|rfl|rfl|rfl|rfl<;>(simp [Z6D] at hu;subst hu;rfl)
abbrev Z9h:List (String×DataW Unit):=[("math/bits.deBruijn32tab",Rows.laid_math_bits_deBruijn32tab),("math/bits.deBruijn64tab",Rows.laid_math_bits_deBruijn64tab),("internal/strconv.uint64pow10",Rows.laid_internal_strconv_uint64pow10),("strconv.ErrRange",Rows.laid_strconv_ErrRange),("strconv.ErrSyntax",Rows.laid_strconv_ErrSyntax),("rollbook/date.lengths",Rows.laid_rollbook_date_lengths),("rollbook/holiday.moves",Rows.laid_rollbook_holiday_moves)]
abbrev ZdL:List (String×DataW Unit):=Z9h++[("rollbook/types.fields",Rows.laid_rollbook_types_fields)]
theorem ZdM {W:World} (h1:Z9g Tryz.prog W "rollbook/date.lengths" Rows.laid_rollbook_date_lengths):Z0z W:=by
 have h2:=ZhN (k:=.i64) (zs:=Z5L) (g:=3) (t:=371) (e:=3) (n:=13) h1 (by kernel_rfl) (by kernel_rfl) Tryz.underlying371 Tryz.underlying3 (by kernel_rfl) (by kernel_rfl);intro i u hu;have hi:=(Xz.1 hu).1;rw [Lib.TabIs.cell h2 (g:=3) (by kernel_rfl) i hi];simp [List.getD,hu]
theorem Zf6 {W:World} (h1:Z9g Tryz.prog W "rollbook/types.fields" Rows.laid_rollbook_types_fields):SlV [] W Z21 Ze:=by
 have hc:=Zf5 (g:=0) (t:=295) (e:=9) (n:=7) (ss:=Ze) (by kernel_rfl) (by kernel_rfl) Tryz.underlying295 Tryz.underlying9 (by kernel_rfl) rfl h1;have hlt:0<W.heap.size:=block_lt_of_cell (a:=⟨0,0,none⟩) (hc 0 (by decide));refine ⟨some ⟨0,0,none⟩,7,rfl,by decide,by decide,(λh=>by cases h),λi hi=>⟨0,0,[str Ze[i]],rfl,hlt,by simp,rfl,λj u hu=>?_⟩⟩;have hj:j=0:=by
  have:=(Xz.1 hu).1;simp at this;exact this
 subst hj;simp at hu;subst hu;have:=hc i hi;simpa [Z6.k,Z3.k] using this
structure Zp4 (W:World):Prop where
 len:Z0z W
 mov:Z2R W
 err:∃ er,W.cell? ⟨8,0,none⟩=some er/\(er=.nilIface\/∃ te pe,er=.iface te pe)
theorem ZlA {W:World} {l:List (String×DataW Unit)} {ps:List MemPlace} (h:DataW.LaidVars Tryz.prog W l ps) (h1:("rollbook/date.lengths",Rows.laid_rollbook_date_lengths)∈l) (h2:("rollbook/holiday.moves",Rows.laid_rollbook_holiday_moves)∈l) (h3:("strconv.ErrRange",Rows.laid_strconv_ErrRange)∈l):Zp4 W:=
 ⟨ZdM (Z4n _ _ h _ _ h1),ZhO (Z4n _ _ h _ _ h2),ZdK (g:=8) (t:=197) (by kernel_rfl) (by kernel_rfl) Tryz.underlying197 (Z4n _ _ h _ _ h3)⟩
theorem ZtQ {W:World} (h:laidMetH Tryz.prog ZdL W):Zp4 W/\SlV [] W Z21 Ze:=by
 rw [MakeChecks.laidMetH_plain _ _ _ (by kernel_rfl)] at h;obtain ⟨ps,h,_⟩:=h;exact ⟨ZlA h (by simp [ZdL,Z9h]) (by simp [ZdL,Z9h]) (by simp [ZdL,Z9h]),Zf6 (Z4n _ _ h _ _ (by simp [ZdL,Z9h]))⟩
end Go.Proofs.YtipfkbkkndacjaaGreatDoor
namespace Go.Eng
open Go Go.RowKit Go.Proofs Go.ChangeShapes Go.WideShapes Go.Deep
def Z6W (P:Program) (lo n:Nat):Bool:=(List.range n).all λi=>!((P.funcs[lo+i]?).any Func.goes)
theorem Z11 {P:Program} {lo n g:Nat} (h:Z6W P lo n=true) (h1:lo<=g) (h2:g<lo+n):(P.funcs[g]?).any Func.goes=false:=by
 have:=XW.1 h (g - lo) (YbK.2 (by omega));rw [show lo+(g - lo)=g by omega] at this;simpa using this
theorem ZxF {P:Program} (h:∀ g:Nat,(P.funcs[g]?).any Func.goes=false) {c:OpenClaim} (hs:c.start=.entering):false=c.goesBy P:=by
 symm;have aB:P.funcs.any Func.goes=false:=by
  rw [Array.any_eq_false];intro i hi hg;have:=h i;rw [Array.getElem?_eq_getElem hi] at this;simp only [Option.any_some] at this;rw [this] at hg;cases hg
 have iL:∀ f,P.goes f=false:=by
  intro f;unfold Program.goes;rw [aB,YbJ,Bool.or_false];rw [Ybw];intro hc;have ci:=hc;simp [h] at ci
 unfold OpenClaim.goesBy Program.goesAt Program.goesFrom;rw [hs];cases hf:P.funcNamed c.func with
 | none=>rfl
 | some f=>simp [iL]
theorem ZoB {P:Program} {f:FuncId} {fn:Func} {s:ChangeSpec} {c:OpenClaim} (a1:c.wf (OpenSpec.ofChange s)=true) (a2:laidOutB P=true) (a3:mapsRowed P=true) (a4:fn.params.all (P.readableRec ·)=true) (a5:namedTie P c.named s.vars=true)
 (a6:((c.stops == []) && (P.stops == []) && (c.knobs == []) && (P.stopKnobs == []))=true)
 (h2:(c.inPlace == P.inPlace f)=true) (h3:(c.unfollowed == P.unfollowed f)=true) (h4:(c.recurses == P.recurses f)=true) (h5:(c.named == P.varsNamed f)=true)
 (h6 : ((c.maps == (fn.params.toList ++ s.plain.varTypes P).any (P.mapsRec ·)) && (c.ifaces == (fn.params.toList ++ s.plain.varTypes P).any (P.ifacesRec ·)) && (c.mapsOut == P.mapsAmong fn.resultTypes.toList) &&
   (c.loops == (fn.params.toList++s.plain.varTypes P).any (P.loopsFrom ·)) && (c.wideKeys == (fn.params.toList++s.plain.varTypes P++fn.resultTypes.toList).any (P.wideKeysFrom ·)) &&
   s.vars.all (P.varReadable ·) && fn.resultTypes.all (λt=>P.readableRec t && decide (t<P.types.size)) && (c.ifacesOut == fn.resultTypes.toList.any (P.ifacesRec ·)) && (c.loopsOut == fn.resultTypes.toList.any (P.loopsFrom ·)) && (c.plainKeys == P.plainKeys) && c.shortTexts.isNone && P.stopsHeard && P.mayEnter && (c.lifted == P.liftsFinal) && (P.make == some c.make) && (c.kinds == (if c.domain.isEmpty then [] else fn.params.toList.map λt=>match P.underlying t with|some (.int k)=>some k|_=>none)) && (c.pinned == c.pinnedBy) &&
   (c.veiled == (fn.params.toList++s.plain.varTypes P++fn.resultTypes.toList).any (P.veiledRec ·)) && c.veiledFits P fn.params.toList (fn.params.toList++s.plain.varTypes P++fn.resultTypes.toList))=true) :
 joinedFacts P f fn s c=true:=by
 simp only [Xl] at a6 h6;unfold joinedFacts;simp only [Xl];exact ⟨⟨⟨⟨⟨⟨⟨⟨⟨⟨⟨⟨⟨⟨⟨⟨⟨⟨⟨⟨⟨⟨⟨⟨⟨⟨⟨⟨⟨⟨⟨a1,a2⟩,a3⟩,a4⟩,a5⟩,a6.1.1.1⟩,a6.1.1.2⟩,a6.1.2⟩,a6.2⟩,h2⟩,h3⟩,h4⟩,h5⟩,h6.1.1.1.1.1.1.1.1.1.1.1.1.1.1.1.1.1.1⟩,h6.1.1.1.1.1.1.1.1.1.1.1.1.1.1.1.1.1.2⟩,h6.1.1.1.1.1.1.1.1.1.1.1.1.1.1.1.1.2⟩,h6.1.1.1.1.1.1.1.1.1.1.1.1.1.1.1.2⟩,h6.1.1.1.1.1.1.1.1.1.1.1.1.1.1.2⟩,h6.1.1.1.1.1.1.1.1.1.1.1.1.1.2⟩,h6.1.1.1.1.1.1.1.1.1.1.1.1.2⟩,h6.1.1.1.1.1.1.1.1.1.1.1.2⟩,h6.1.1.1.1.1.1.1.1.1.1.2⟩,h6.1.1.1.1.1.1.1.1.1.2⟩,h6.1.1.1.1.1.1.1.1.2⟩,h6.1.1.1.1.1.1.1.2⟩,h6.1.1.1.1.1.1.2⟩,h6.1.1.1.1.1.2⟩,h6.1.1.1.1.2⟩,h6.1.1.1.2⟩,h6.1.1.2⟩,h6.1.2⟩,h6.2⟩
end Go.Eng
namespace Go.Proofs.YtipfkbkkndacjaaGreatDoor
open Go Go.Eng Go.RowKit Go.Proofs Go.ChangeShapes Go.WideShapes Go.Deep
theorem ZxC:mapsRowed Tryz.prog=true:=by kernel_rfl
theorem ZlB:Tryz.prog.funcs.size=404:=by kernel_rfl
theorem ZhP:Z6W Tryz.prog 0 34=true:=by kernel_rfl
theorem ZhQ:Z6W Tryz.prog 34 34=true:=by kernel_rfl
theorem ZhR:Z6W Tryz.prog 68 34=true:=by kernel_rfl
theorem ZhS:Z6W Tryz.prog 102 34=true:=by kernel_rfl
theorem ZhT:Z6W Tryz.prog 136 34=true:=by kernel_rfl
theorem ZhU:Z6W Tryz.prog 170 34=true:=by kernel_rfl
theorem ZhV:Z6W Tryz.prog 204 34=true:=by kernel_rfl
theorem ZhW:Z6W Tryz.prog 238 34=true:=by kernel_rfl
theorem ZhX:Z6W Tryz.prog 272 34=true:=by kernel_rfl
theorem ZhY:Z6W Tryz.prog 306 34=true:=by kernel_rfl
theorem Zf7:Z6W Tryz.prog 340 34=true:=by kernel_rfl
theorem Zf8:Z6W Tryz.prog 374 34=true:=by kernel_rfl
theorem ZxD:∀ g:Nat,(Tryz.prog.funcs[g]?).any Func.goes=false:=λg=>by
 by_cases h:g<404;by_cases h0:g<34;exact Z11 ZhP (by omega) (by omega);by_cases h1:g<68;exact Z11 ZhQ (by omega) (by omega);by_cases h2:g<102;exact Z11 ZhR (by omega) (by omega);by_cases h3:g<136;exact Z11 ZhS (by omega) (by omega);by_cases h4:g<170;exact Z11 ZhT (by omega) (by omega);by_cases h5:g<204;exact Z11 ZhU (by omega) (by omega);by_cases h6:g<238;exact Z11 ZhV (by omega) (by omega);by_cases h7:g<272;exact Z11 ZhW (by omega) (by omega);by_cases h8:g<306;exact Z11 ZhX (by omega) (by omega);by_cases h9:g<340;exact Z11 ZhY (by omega) (by omega);by_cases fq:g<374;exact Z11 Zf7 (by omega) (by omega);exact Z11 Zf8 (by omega) (by omega);rw [Yai (by rw [ZlB];omega)];rfl
end Go.Proofs.YtipfkbkkndacjaaGreatDoor
