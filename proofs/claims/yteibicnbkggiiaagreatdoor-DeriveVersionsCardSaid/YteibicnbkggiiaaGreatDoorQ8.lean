/-
Contracts and plain laws, merged out of own texts.
-/
import Derived.Test.YteibicnbkggiiaaGreatDoorQ7
import Derived.JoinedOf
set_option linter.unusedVariables false
set_option linter.unusedSimpArgs false
set_option maxHeartbeats 4000000
set_option maxRecDepth 20000
namespace Go.Proofs.YteibicnbkggiiaaGreatDoor
open Go Go.Eng Go.RowKit Go.Proofs Go.Sim
def odP:Od:=[(7,20,[],[(0,0),(1,1),(2,0),(3,1),(5,0),(6,1),(8,0),(9,1),(4,2),(7,2),(10,2),(11,2),(12,2),(13,0)]),
 (130,5,[],[(0,0),(1,1),(2,0),(3,0),(4,0),(5,0),(6,1),(7,0),(8,0),(9,0),(10,0),(11,0),(12,0),(13,0),(14,0),(15,1),(16,0),(17,0),(18,0),(19,0),(20,1),(21,0),(22,0),(23,0)]),
 (55,6,[],[(0,0),(1,1),(2,0),(3,0),(4,1),(5,0),(6,1),(7,0),(8,0),(9,1),(10,0)]),
 (14,1,[],[(0,0),(1,1),(2,1),(3,2),(4,2),(5,2),(6,0)]),
 (81,6,[],[(0,0),(1,0),(2,0),(3,1),(4,0),(5,0),(6,0),(7,1),(8,0)]),
 (42,6,[],[(0,0),(1,0),(2,1),(3,1),(4,2),(5,0)]),
 (132,11,[],[(0,0),(2,1),(1,2),(3,0),(4,0),(5,0)]),
 (52,1,[],[(0,0),(1,1),(2,0),(3,1),(5,0),(6,1),(7,0),(8,1),(10,0),(11,1),(12,0),(13,1),(15,0),(16,1),(17,0),(18,1),(20,0),(21,1),(22,0),(23,1),(25,0),(26,1),(27,0),(28,1),(4,2),(9,2),(14,2),(19,2),(24,2),(29,2),(30,2),(31,2),(32,0)]),
 (89,2,[22],[(0,0),(1,1),(2,0),(3,1),(4,0),(5,0),(6,0),(7,1),(8,0),(9,1),(10,0),(11,1),(12,0),(13,0),(14,0),(15,1),(16,0),(17,1),(18,0),(19,1),(20,0),(21,2),(22,2)]),
 (89,3,[],[(0,1),(1,0),(2,1),(3,0),(4,0),(5,0),(6,1),(7,0),(8,0),(9,0),(10,0),(11,1),(12,0),(13,1),(14,0),(15,0),(16,2),(17,0)]),
 (66,3,[],[(0,0),(1,0),(2,0),(4,0),(5,0),(3,9),(6,2),(7,0),(8,2),(9,0)]),
 (201,9,[],[(0,0),(1,0),(2,0),(3,0),(4,1),(5,0),(6,0),(7,0),(8,0),(9,0),(10,1),(11,0),(12,0),(13,0)]),
 (115,8,[],[(0,0),(1,0),(2,0),(3,1),(4,0),(5,0),(6,0),(7,1),(8,0),(9,0),(10,1),(11,0)]),
 (116,2,[],[(0,0),(1,0),(2,0),(3,1),(4,0),(5,0),(6,0),(7,1),(8,0),(9,0),(10,1),(11,0)]),
 (102,1,[],[(0,0),(1,0),(2,0),(3,1),(4,0),(5,0),(6,1),(7,0),(8,0),(9,0),(10,1),(11,0),(12,0),(13,1),(14,2),(15,2),(16,0)]),
 (242,0,[37],[(0,0),(1,0),(2,0),(3,0),(4,1),(5,0),(6,0),(7,0),(8,0),(9,1),(10,0),(11,0),(12,0),(13,0),(14,1),(15,0),(16,0),(17,0),(18,0),(19,1),(20,0),(21,0),(22,0),(23,0),(24,1),(25,0),(26,0),(27,0),(28,0),(29,1),(30,0),(31,0),(32,0),(33,0),(34,1),(35,0),(36,2),(37,2)]),
 (119,4,[],[(0,0),(1,0),(2,0),(3,0),(4,0),(5,0),(6,0),(7,0),(8,1),(9,0),(10,0),(11,0),(12,0),(13,1),(14,2),(15,0),(16,0)]),
 (139,4,[],[(0,0),(1,0),(2,0),(3,0),(4,0),(5,0),(6,0),(7,0),(8,0),(9,0),(10,0),(11,0),(12,0),(13,0),(14,0),(15,0),(16,0),(17,0),(18,0),(19,0),(20,0),(21,0)]),
 (182,1,[11],[(0,0),(1,0),(2,0),(3,1),(4,0),(5,0),(6,0),(7,1),(8,0),(9,1),(10,2),(11,2)]),
 (183,1,[],[(0,0),(1,0),(2,0),(3,1),(4,0),(5,0),(6,0),(7,1),(8,0),(9,0),(10,1),(11,0)]),
 (152,13,[],[(0,0),(2,0),(3,1),(4,0),(5,0),(6,0),(7,1),(8,0),(9,0),(10,0),(11,0),(1,2),(12,0),(13,0)]),
 (152,4,[],[(1,0),(2,1),(3,0),(4,0),(5,0),(6,1),(7,0),(8,0),(9,0),(10,0),(0,2),(11,0),(12,0)]),
 (152,44,[],[(0,0),(1,0),(2,0),(3,0),(4,1),(5,0),(6,0),(7,0),(8,0),(9,0)]),
 (152,6,[],[(1,0),(2,1),(3,0),(4,0),(5,0),(6,1),(7,0),(8,0),(9,0),(10,0),(0,2),(11,0),(12,0)]),
 (153,6,[],[(0,0),(1,0),(2,0),(3,1),(4,0),(5,0),(6,0),(7,1),(8,0)]),
 (155,5,[12,14],[(0,0),(1,0),(2,0),(3,1),(4,0),(5,0),(6,0),(7,0),(8,1),(9,0),(10,0),(11,0),(12,2),(13,0),(14,2)]),
 (232,14,[8],[(0,0),(1,1),(2,0),(3,0),(4,0),(5,2),(6,2),(7,0),(8,2)]),
 (234,19,[],[(1,0),(2,1),(3,0),(4,1),(5,1),(6,0),(0,2),(7,2),(8,0)]),
 (238,8,[],[(1,0),(2,1),(5,0),(0,2),(3,2),(4,0)]),
 (215,1,[],[(0,0),(1,1),(2,0),(3,0),(4,0),(5,1),(6,0),(7,0),(8,0),(9,0),(10,1),(11,0),(12,0),(13,0),(14,0),(15,1),(16,0),(17,0),(18,0),(19,0),(20,1),(21,0),(22,0),(23,0),(24,0),(25,1),(26,0),(27,1),(28,0),(29,1),(30,2),(31,0),(32,0)]),
 (216,1,[],[(0,0),(1,1),(2,0),(3,1),(4,0),(5,0),(6,0)]),
 (278,1,[11],[(0,0),(1,0),(2,0),(3,1),(4,0),(5,0),(6,0),(7,1),(8,0),(9,1),(10,2),(11,2)])]
theorem Zvb:(Tryz.prog.funcs.toList.all λfn=>!(fn.name == "runtime.NumGoroutine"))=true:=by kernel_rfl
theorem ZjW (f:Nat) (fn:Func) (h:Tryz.prog.funcs[f]?=some fn):(fn.name == "runtime.NumGoroutine")=false:=by
 simpa using Xx.1 Zvb fn (Array.mem_toList_iff.2 (Array.mem_of_getElem? h))
def Zga (lo hi:Nat):Nat->List Func->Bool
 | _,[]=>true
 | k, fn :: r => (match Nat.ble lo k && Nat.blt k hi, fn.body with
   | true,some c=>Sim.chkC (odS k odP) c
   | _,_=>true) && Zga lo hi (k+1) r
theorem Z9Z (lo hi:Nat):∀ (l:List Func) (k i:Nat) (fn:Func) (c:Code),Zga lo hi k l=true->l[i]?=some fn->fn.body=some c->lo<=k+i->k+i<hi->Sim.chkC (odS (k+i) odP) c=true
 | [],_,_,_,_,_,h,_,_,_=>by cases h
 | x :: r, k, 0, fn, c, h, be, hb, h1, h2 => by
   simp only [Zga,Xd] at h;cases be;have:=h.1;rw [hb,X2 (show lo<=k from h1),show Nat.blt k hi=true from X2 h2] at this;exact this
 | x :: r, k, i + 1, fn, c, h, be, hb, h1, h2 => by
   simp only [Zga,Xd] at h;have:=Z9Z lo hi r (k+1) i fn c h.2 be hb (by omega) (by omega)
   rwa [show k+1+i=k+(i+1) by omega] at this
theorem Zvc:Zga 0 150 0 Tryz.prog.funcs.toList=true:=by kernel_rfl
theorem Zvd:Zga 150 1000 0 Tryz.prog.funcs.toList=true:=by kernel_rfl
theorem Zn4:Nat.ble Tryz.prog.funcs.toList.length 1000=true:=by kernel_rfl
theorem Za0:ZmZ Tryz.prog odP:=λf fn c hf hb=>by
 have jk:Tryz.prog.funcs.toList[f]?=some fn:=by rw [YaH];exact hf
 have hl:=(Xt.1 jk).1;have:=Xg Zn4;by_cases h:f<150;have:=Z9Z 0 150 _ 0 f fn c Zvc jk hb (by omega) (by omega)
 rwa [XK] at this
 have:=Z9Z 150 1000 _ 0 f fn c Zvd jk hb (by omega) (by omega)
 rwa [XK] at this
noncomputable abbrev Zgb (hk:Hk):Sim.Cf:=fnS Tryz.prog odP hk 30
def Zve:Str:=[114,117,108,101,32,114,32,102,114,111,109,32,64,50,48,50,54,45,48,49,45,48,49,32,123,32,111,110,32,99,108,97,105,109,59,32,100,117,101,32,100,97,121,32,43,32,50,48,32,100,97,121,115,59,32,117,110,108,101,115,115,32,97,110,115,119,101,114,59,32,101,108,115,101,32,108,97,112,115,101,59,32,125]
abbrev nS:V:=.c (.N)
abbrev vI (n:Int):V:=.i .i64 n
abbrev Ms:=List (Nat×Option O)
def m0:Ms:=[(0,some (.ro (Zd.map V.s))),(1,some (.ro (Z2b.map vI))),(5,some (.ro (Z3k.map vI))),(2,some .ig)]
def mC:Ms:=(220,some (.c 174 2 [vI 4,vI 0,vI 1,vI 20,vI 15,vI 0,vI 24,vI 0])) :: (185,some (.c 174 2 [vI 2,vI 1,vI 24,vI 0])) :: (223,some (.c 27 7 [.s [114],vI 739616,.s [99,108,97,105,109],.l 185 2,.l 220 4,.s [97,110,115,119,101,114],.s [108,97,112,115,101]])) :: m0
def clV:List V:=[vI 4,.s [99,108,97,105,109],vI 739616,vI 1,vI 2,vI 50]
def mF:Ms:=(225,some (.c 24 6 clV)) :: mC
def csV (f s:V) (d:Int):V:=.a [f,.l 223 1,nS,nS,s,.b false,.b false,.b false,.b false,.b false,.b false,.b false,nS,nS,vI 0,nS,vI 0,vI 0,vI d]
def Zn5 (a:List V) (m:Ms) (n:Nat):En:=⟨42,a,⟨m,n⟩,.b true,none⟩
def E0:En:=⟨41,[.s Zve],⟨m0,64⟩,.t [.l 223 1,.b true],some ⟨mC,224⟩⟩
def E1:En:=Zn5 [csV (.l 225 1) nS 739630,vI 739636,vI 0,nS,nS] mF 233
def E2:En:=Zn5 [csV (.l 225 1) nS 739640,vI 739636,vI 2,nS,.l 233 1] ((233,some (.c 24 6 [vI 4,.s [108,97,112,115,101],vI 739637,vI 2,vI 1,vI 50])) :: mF) 234
def E3:En:=Zn5 [csV (.l 229 2) nS 739640,vI 739636,vI 1,.l 234 1,nS] ((234,some (.c 104 3 [vI 6,vI 7,vI 739636])) :: (229,some (.c 24 6 (clV++[vI 7,.s [97,110,115,119,101,114],vI 739636,vI 2,vI 0,vI 0]))) :: mC) 235
def E4:En:=Zn5 [csV (.l 225 1) (.l 231 1) 739630,vI 739638,vI 0,.l 235 2,nS] ((235,some (.c 104 3 [vI 4,vI 739638,vI 739638,vI 5,vI 739620,vI 739621])) :: (231,some (.c 29 2 [vI 739620,vI 739621])) :: mF) 236
theorem ZvO:Zdz E0 (Zgb (jx odP) E0.f E0.args E0.a)=true:=by kernel_rfl
theorem ZvP:Zdz E1 (Zgb (jx odP) E1.f E1.args E1.a)=true:=by kernel_rfl
theorem ZvQ:Zdz E2 (Zgb (jx odP) E2.f E2.args E2.a)=true:=by kernel_rfl
theorem ZvR:Zdz E3 (Zgb (jx odP) E3.f E3.args E3.a)=true:=by kernel_rfl
theorem ZvS:Zdz E4 (Zgb (jx odP) E4.f E4.args E4.a)=true:=by kernel_rfl
def ZrO:List En:=[E0,E1,E2,E3,E4]
theorem ZrP:∀ E∈ZrO,ZrN Tryz.prog E:=by
 have hC:=Zdw Za0 mixed ZjW (ZjT odP Za0) 30;intro E hE;simp only [ZrO,Xa,Xo,or_false] at hE;rcases hE with rfl|rfl|rfl|rfl|rfl
 exact Z4Z hC ZvO;exact Z4Z hC ZvP;exact Z4Z hC ZvQ;exact Z4Z hC ZvR;exact Z4Z hC ZvS
noncomputable def qB:Hk:=λcall f args s=>match Zn3 f args s ZrO with
 | some r=>some (some r)
 | none=>jx odP call f args s
theorem ZrQ:ZrH Tryz.prog qB:=by
 intro call hC f args s v s' ws h hB L w hR;unfold qB at h;split at h;rename_i r hr;cases h;exact ZeD ZrP hr hB L w hR;exact ZjT odP Za0 call hC f args s v s' ws h hB L w hR
def ZjX:Option (V×S×List Nat)->Bool
 | some (.b true,_,[])=>true
 | _=>false
theorem ZvT:ZjX (Zgb qB 9 [] ⟨m0,64⟩)=true:=by kernel_rfl
theorem Zvf (m:Int) (w) (hF:SlV [] w Z2S Zd) (gT:Z0G w) (gU:Z2g w) (dN:w.cell? ⟨2,0,none⟩=some (.I m)):Rel (λk=>(k,7)) ⟨m0,64⟩ w:=by
 have hN:∀ {g:Nat} {l:List Int},l≠[]->(∀ i u,l[i]?=some u->w.cell? ⟨g,i,none⟩=some (.I u))->Ob (λk=>(k,7)) w g (.ro (l.map vI)):=λ{g l} hl h=>by
  refine ⟨?_,λi u hu=>?_⟩
  . cases l with
    | nil=>exact absurd rfl hl
    | cons a t=>exact block_lt_of_cell (h 0 a rfl)
  rw [XV,XO] at hu;obtain ⟨z,hz,rfl⟩:=hu;exact h i z hz
 have hS:Ob (λk=>(k,7)) w 0 (.ro (Zd.map V.s)):=by
  obtain ⟨p,c,he,hl,hm,hn,hc⟩:=hF;cases he;have hc':∀ i (hi:i<Zd.length),w.cell? ⟨0,i,none⟩=some (str Zd[i]):=λi hi=>by
   obtain ⟨b,o,cs,h1,h2,h3,h4,h5⟩:=hc i hi;cases h1;have h4:cs=[str Zd[i]]:=h4;have:=h5 0 (str Zd[i]) (by rw [h4];rfl);simpa [show Z5.k Str=1 from rfl] using this
  refine ⟨block_lt_of_cell (hc' 0 (by decide)),λi u hu=>?_⟩;rw [XV,XO] at hu;obtain ⟨z,hz,rfl⟩:=hu;obtain ⟨hi,rfl⟩:=Xt.1 hz;exact hc' i hi
 have cs:∀ (k:Nat) (o:O),Tr.get m0 k=some o->k<64/\O.bd 64 o=true/\Ob (λk=>(k,7)) w k o:=λk o h=>by
  have:=ZeC h;simp only [m0,Xa,Xo,or_false,XM,Xl] at this;rcases this with ⟨rfl,rfl⟩|⟨rfl,rfl⟩|⟨rfl,rfl⟩|⟨rfl,rfl⟩
  exact ⟨by decide,by decide +kernel,hS⟩;exact ⟨by decide,by decide +kernel,hN (by decide) gT⟩;exact ⟨by decide,by decide +kernel,hN (by decide) gU⟩;exact ⟨by decide,rfl,block_lt_of_cell dN,m,dN⟩
 exact ⟨λ_ _=>rfl,λk o h=>(cs k o h).2.2,λk o h=>⟨(cs k o h).1,(cs k o h).2.1⟩,λj k _ _ h=>h,Xq _⟩
theorem ZrR (call:Sim.Cf) (hC:Z4h Tryz.prog call) (run:ZjX (call 9 [] ⟨m0,64⟩)=true) (m:Int) (w) (hF:SlV [] w Z2S Zd) (gT:Z0G w) (gU:Z2g w) (dN:w.cell? ⟨2,0,none⟩=some (.I m)) :
 CC 9 #[] w λr w'=>r=.B true/\Stp [] w w':=by
 generalize hf:call 9 [] ⟨m0,64⟩=r at run;unfold ZjX at run;split at run;refine (hC _ _ _ _ _ _ hf rfl _ w (Zvf m w hF gT gU dN)).2.mono ?_;rintro _ w' ⟨u,rfl,L',hN,-,rfl⟩;exact ⟨_,rfl,rfl,by simpa [ids] using hN.st⟩;cases run
theorem ZdA (er:Value) (m:Int) (w) (hF:SlV [] w Z2S Zd) (gT:Z0G w) (gU:Z2g w) (dN:w.cell? ⟨2,0,none⟩=some (.I m)) (jq:w.cell? ⟨4,0,none⟩=some er) (cb:er=.nilIface\/∃ te pe,er=.iface te pe) :
 CC 9 #[] w λr w'=>r=.B true/\Stp [] w w':=ZrR _ (Zdw Za0 mixed ZjW ZrQ 30) ZvT m w hF gT gU dN
theorem Z2k.cell {c:Cas} {R:Z0C} {w} (h:Z2k w c R):∀ u∈Jq c R,u.oneCell'=true:=by
 have h1:=h.ff.one;have h2:=h.rr.one;have h3:=h.aa.one;have h4:=h.cc.one;have h5:=h.ss.one;have h6:=h.cal.hols.one;have h7:=h.cal.clos.one;obtain ⟨h8,h9,gw⟩:=h.one;intro u hu;simp only [Jq,JO,Xa,Xo,or_false,Yab,XW] at hu;rcases hu with rfl|rfl|rfl|rfl|rfl|rfl|rfl|rfl|rfl|rfl|rfl|rfl|rfl|rfl|rfl|rfl|rfl|rfl|rfl<;>first|assumption|rfl
theorem Z66 (er:Value) (m:Int) (w) (hF:SlV [] w Z2S Zd) (gT:Z0G w) (gU:Z2g w) (dN:w.cell? ⟨2,0,none⟩=some (.I m)) (jq:w.cell? ⟨4,0,none⟩=some er) (cb:er=.nilIface\/∃ te pe,er=.iface te pe) :
 CC 9 #[] w λr w'=>r=.B true/\Stp [] w w':=ZdA er m w hF gT gU dN jq cb
theorem Z85.facts {c:Cas} {R:Z0C} {w} {z h:Int} {sh:List Spn} (g:Z85 w c R z sh h) {fs:List Fct} {fv:Value} (hf:SlV [] w fv fs):Z85 w { c with fcts:=fs } { R with fv:=fv } z sh h:=⟨hf,g.rr,g.aa,g.cc,g.ss,g.ho,g.cl,g.zo,g.zs,g.hr⟩
abbrev fcZ:Value:=.agg #[.I 0,.string ByteArray.empty,.I 0,.I 0,.I 0,.I 0]
theorem ZjY (a:Int) (w):(Instr.build 24 #[(0,.I a)]).run Tryz.prog w=.ok (aG (⟨a,[],0,0,0,0⟩:Fct)) w:=by kernel_rfl
theorem ZjZ (a:Int) (f:Fct) (w):(Instr.build 60 #[(0,.I a),(2,aG f)]).run Tryz.prog w=.ok (aG (⟨a,false,f⟩:Vrs)) w:=by kernel_rfl
theorem Znm (lv nv:Value) (l ns:List Int) (op at_:Int) (er:Value) (m:Int) (w) (hs:SlV [] w lv l) (hl:∀ a∈l,I64 a) (hn:SlV [] w nv ns) (jg:∀ a∈ns,I64 a) (fW:I64 op) (bO:I64 at_) (hF:SlV [] w Z2S Zd) (gT:Z0G w) (gU:Z2g w) (dN:w.cell? ⟨2,0,none⟩=some (.I m)) (jq:w.cell? ⟨4,0,none⟩=some er) (cb:er=.nilIface\/∃ te pe,er=.iface te pe) :
 CC 4 #[lv,nv,.I op,.I at_] w λr w'=>r=.B true/\Stp [] w w':=by
 refine cW4 164 Tryz.func4 ?_;refine W ?_;refine CL (Zbq lv l w hs hl gT gU) ?_;rintro _ w1 ⟨c,R,rfl,hv,aA,S0,z,sh,h,eu,ik,dC,gf,hh⟩;have bH:Z85 w1 c R z sh h:=⟨hv.ff,hv.rr,hv.aa,hv.cc,hv.ss,hv.cal.hols,hv.cal.clos,eu,dC,ik⟩
 have dp:=aA.drv gf hh;have aV:=aA.cas;have eC:c.atts.length<=65536:=by have:=aA.al;omega
 clear aA eu ik dC;refine W ?_;refine Z0 Z4 rfl ?_;rintro _ w2 ⟨b9,rfl,gH,e9,hS⟩;refine SB (us:=Jq c R) hv.cell e9 ?_;rintro _ w3 ⟨hU,e9⟩;replace hS:=hS.ow hU;clear hU;refine W ?_;refine CM (Zh rfl rfl) (Z7q [] nv ns 80 _ (hn.up (S0.trans hS)) jg (by decide)) ?_;rintro iv w4 qC;have fH:SlV [] w4 iv (ns.take 80):=qC.slv (by simp);have hT:=qC.2;replace e9:=e9.up hT;replace hS:=hS.trans hT;clear hT qC;refine W ?_;refine CM (ZO rfl) (Z7A iv (ns.take 80) _ fH (λa ha=>jg a (Yao ha)) (by rw [Xz];omega)) ?_;rintro vv w5 ⟨vs,eJ,mZ,cy,hT⟩;replace e9:=e9.up hT;replace hS:=hS.trans hT;clear hT fH;have o5:=eJ.op;refine W ?_;refine LP (σ:=Nat) (λj=>[(2,.I op),(3,.I at_),(9,pQ b9),(10,vv),(11,.I (ZI (vs.take j))),(12,.I (j:Int))]) (λj W=>j<=vs.length/\Stp [] w5 W) (λj=>vs.length - j) 0 ⟨Xu _,Stp.refl _ _⟩ ?_;rintro j y ⟨hj,hT⟩;have fg:=cy.up hT;have eG:=fg.max;by_cases hlt:j<vs.length;have vQ:ZI (vs.take (j+1))=vs[j].op:=by rw [Xj hlt,Z0a]
 focus repeat'(first|refine W1 ?_|omega|refine VG ?_ ?_<;>intro hg|refine VC ?_ ?_<;>intro hc)
 exact ZF (j+1) ⟨rfl,rfl,rfl,rfl,by rw [vQ];rfl,rfl,trivial⟩ ⟨hlt,hT⟩ (XE hlt (XA j));obtain rfl:j=vs.length:=by omega
 rw [Xs];replace e9:=e9.up hT;replace hS:=hS.trans hT;replace cy:=fg;clear hT fg hlt hj;repeat'(first|refine W1 ?_|omega|refine VG ?_ ?_<;>intro hg|refine VC ?_ ?_<;>intro hc)
 refine CP hS (J4 op (ZI vs+2) _ (by omega) fW) λw6 hT hS=>?_
 have hk:=ZT (if op<0 then -(op+1) else op) (ZI vs+2) (by omega);generalize (if op<0 then -(op+1) else op) % (ZI vs+2)=k at hk ⊢;replace e9:=e9.up hT;replace cy:=cy.up hT;clear hT;have l9:=e9.lt;refine W ?_;refine LP (σ:=Nat×Value) (λq=>[(3,.I at_),(9,pQ b9),(10,vv),(13,.I k),(14,q.2),(15,.I (q.1:Int))]) (λq W=>q.1<=vs.length/\Row [] W w6.heap.size 60 q.2 ((vs.take q.1).filter (Z12 k))/\Stp [] w6 W) (λq=>vs.length - q.1) (0,.N) ⟨Xu _,Row.nil,Stp.refl _ _⟩ ?_;rintro ⟨j,ev⟩ y2 ⟨hj,ac,hT⟩;dsimp only at hj ac ⊢;have fg:=cy.up hT;have eG:=fg.max;have cP:((vs.take j).filter (Z12 k)).length<=10:=Xk (X0 _ _) (by rw [Xz];omega);by_cases hlt:j<vs.length;have ht:vs.take (j+1)=vs.take j++[vs[j]]:=Xj hlt;by_cases cK:vs[j].op<=k;focus repeat'(first|refine W1 ?_|omega|refine VG ?_ ?_<;>intro hg|refine VC ?_ ?_<;>intro hc)
 refine Z0 (Z1 (vs:=[(0,.agg (Z2.enc vs[j]).toArray)]) rfl (Z3s _)) rfl ?_;rintro o3 w7 hN;have dz:SlV (ob ev++[]) w7 o3 [vs[j]]:=hN.slv (λc hc=>(ac.ob_le c (by simpa using hc)).2) rfl rfl (by simp [maxLen]);have hU:=Z6.stp hN;clear hN;replace ac:=ac.up hU;replace hT:=hT.trans hU;clear hU;have aN:=λb hb=>ac.ob_le b hb;have zz:=hT.size;focus repeat'(first|refine W1 ?_|omega|refine VG ?_ ?_<;>intro hg|refine VC ?_ ?_<;>intro hc)
 refine Z0 (ZA (α:=Vrs) (X:=[]) (base:=w6.heap.size) rfl (by decide) rfl rfl ac dz (Xk (Xr _ (show ((vs.take j).filter (Z12 k)).length+[vs[j]].length<=12 by simp only [XP];omega)) (by decide)) (by simp only [XP,maxLen];omega) zz) rfl ?_;rintro o4 w8 ⟨da,hU,-⟩;replace hT:=hT.own hU (λc hc=>.inr (by have:=(aN c hc).1;omega));focus repeat'(first|refine W1 ?_|omega|refine VG ?_ ?_<;>intro hg|refine VC ?_ ?_<;>intro hc)
 refine QL (j+1,o4) ⟨hlt,?_,hT⟩ (by dsimp only;omega);dsimp only;rw [ht,X5,YaM (by simpa [Z12] using cK),Ybp];exact da;focus repeat'(first|refine W1 ?_|omega|refine VG ?_ ?_<;>intro hg|refine VC ?_ ?_<;>intro hc)
 refine QL (j+1,ev) ⟨hlt,?_,hT⟩ (by dsimp only;omega);dsimp only;rw [ht,X5,YaL (by simpa [Z12] using cK),Ybp,XG];exact ac;obtain rfl:j=vs.length:=by omega
 rw [Xs] at ac cP;have z67:=hT.size;replace e9:=e9.up hT;replace hS:=hS.trans hT;clear hT cy hlt hj;repeat'(first|refine W1 ?_|omega|refine VG ?_ ?_<;>intro hg|refine VC ?_ ?_<;>intro hc)
 refine CM (Zh rfl rfl) (Z9S vv vs k _ fg (by omega)) ?_;rintro fv w9 ⟨⟨fs,dQ,kK,jn⟩,hT⟩;have hL:=Z5B.mk' eJ hk.1 dQ (by omega);have z9:=hT.size;have z8:=hS.size;replace e9:=e9.up hT;replace ac:=ac.up hT;replace hS:=hS.trans hT;have aN:=λb hb=>ac.ob_le b hb;have gg:=λb hb=>jn.ob_le b hb;have ew:=jn.slv (X:=[]) (by simp);clear hT fg eJ dQ;generalize vs.filter (Z12 k)=E at *;refine W ?_;refine Z8 (Zf (u:=fv) rfl rfl ew.cells ew.one e9 (show (0:Nat)<19 by decide)) ?_;rintro _ w10 ⟨hU,f9⟩;replace e9:Blk w10 b9 49 (Jq { c with fcts:=fs } { R with fv:=fv }):=f9;replace ew:SlV [] w10 fv fs:=(jn.keep hU (λb hb h=>by simp at hb;subst hb;have:=(gg _ h).1;omega)).slv (by simp);have hE:SlV [] w10 ev E:=(ac.keep hU (λb hb h=>by simp at hb;subst hb;have:=(aN _ h).1;omega)).slv (by simp);replace hS:=hS.ow hU;have hw:Z85 w10 { c with fcts:=fs } { R with fv:=fv } z sh h:=(bH.up hS).facts ew;have bt:Z2k w10 { c with fcts:=fs } { R with fv:=fv }:=⟨ew,(hv.up hS).rr,(hv.up hS).aa,(hv.up hS).cc,(hv.up hS).ss,(hv.up hS).cal,hv.one⟩
 have qD:=aV;have qE:=hL.kn.cas aV;have vR:=hL.kn.drv dp;replace hS:=S0.trans hS;clear hU ac jn aN gg f9 hv bH aV dp S0;have vS:E.length<=10:=by assumption
 have K:∀ W,Stp [] w10 W->Blk W b9 49 (Jq { c with fcts:=fs } { R with fv:=fv })/\Z2k W { c with fcts:=fs } { R with fv:=fv }/\Z85 W { c with fcts:=fs } { R with fv:=fv } z sh h/\SlV [] W ev E:=λW g=>⟨e9.up g,bt.up g,hw.up g,hE.up g⟩
 repeat'(first|refine W1 ?_|omega|refine VG ?_ ?_<;>intro hg|refine VC ?_ ?_<;>intro hc)
 refine Z0 Z4 rfl ?_;rintro _ wa ⟨b16,rfl,vT,e16,T⟩;refine Z8 (Zy (us:=Jq { c with fcts:=fs } { R with fv:=fv }) rfl rfl rfl rfl bt.cell e16 rfl) ?_;rintro _ wb ⟨hU,e16⟩;replace T:=T.ow hU;replace e9:=e9.up T;replace hE:=hE.up T;clear hU bt hw;refine W ?_;refine CM (Zh rfl rfl) (Z9S ev E k _ hE (by omega)) ?_;rintro gv wc ⟨⟨gs,mQ,qx,fF⟩,hT⟩;obtain rfl:fs=gs:=hL.spec.eq mQ (λe=>rfl);have l16:=e16.lt;replace e16:=e16.up hT;replace T:=T.trans hT;have jy:=λb hb=>fF.ob_le b hb;have ez:=fF.slv (X:=[]) (by simp);clear hT e9 hE;refine W ?_;refine Z8 (Zf (u:=gv) rfl rfl ez.cells ez.one e16 (show (0:Nat)<19 by decide)) ?_;rintro _ wd ⟨hU,f16⟩;replace e16:Blk wd b16 49 (Jq { c with fcts:=fs } { R with fv:=gv }):=f16;replace ez:SlV [] wd gv fs:=(fF.keep hU (λb hb h=>by simp at hb;subst hb;have:=(jy _ h).1;omega)).slv (by simp);replace T:=T.ow hU;obtain ⟨e9,bt,hw,hE⟩:=K _ T;have eJ:Z2k wd { c with fcts:=fs } { R with fv:=gv }:=⟨ez,bt.rr,bt.aa,bt.cc,bt.ss,bt.cal,bt.one⟩
 clear hU f16 fF jy ez mQ;repeat'(first|refine W1 ?_|omega|refine VG ?_ ?_<;>intro hg|refine VC ?_ ?_<;>intro hc)
 refine CL (Z0S _ _ _ bt qE) ?_;rintro dv we ⟨gV,hT⟩;have hd:SlV [] we dv (Z42 { c with fcts:=fs }):=Row.slv (X:=[]) gV (by simp);replace e16:=e16.up hT;replace eJ:=eJ.up hT;replace T:=T.trans hT;clear e9 bt hw hE;obtain ⟨e9,bt,hw,hE⟩:=K _ T;clear hT gV;repeat'(first|refine W1 ?_|omega|refine VG ?_ ?_<;>intro hg|refine VC ?_ ?_<;>intro hc)
 refine CP T (Z86 _ _ z h sh _ m (hF.up (hS.trans T)) ((hS.trans T).cell (by simp) dN) hw hL.kn.km eC) λwf hT T=>?_
 rw [vR];replace e16:=e16.up hT;replace eJ:=eJ.up hT;replace hd:=hd.up hT;clear e9 bt hw hE;obtain ⟨e9,bt,hw,hE⟩:=K _ T;clear hT;repeat'(first|refine W1 ?_|omega|refine VG ?_ ?_<;>intro hg|refine VC ?_ ?_<;>intro hc)
 refine CL (Z0S _ _ _ eJ qE) ?_;rintro dv2 wg ⟨gV,hT⟩;have jf:SlV [] wg dv2 (Z42 { c with fcts:=fs }):=Row.slv (X:=[]) gV (by simp);replace hd:=hd.up hT;replace T:=T.trans hT;clear hT gV eJ e16 e9 bt hw hE;repeat'(first|refine W1 ?_|omega|refine VG ?_ ?_<;>intro hg|refine VC ?_ ?_<;>intro hc)
 refine CP T (Z4S dv dv2 _ _ hd jf) λwh hT T=>?_;replace hd:=hd.up hT;obtain ⟨e9,bt,hw,hE⟩:=K _ T;clear hT jf;have ew:SlV [] _ fv fs:=bt.ff;have mG:=ew.max;by_cases h0:fs.length=0;focus repeat'(first|refine W1 ?_|omega|refine VG ?_ ?_<;>intro hg|refine VC ?_ ?_<;>intro hc)
 refine CP (hS.trans T) (Z66 er m _ (hF.up (hS.trans T)) (gT.up (hS.trans T)) (gU.up (hS.trans T)) ((hS.trans T).cell (by simp) dN) ((hS.trans T).cell (by simp) jq) cb) λwi _ hS=>?_
 focus repeat'(first|refine W1 ?_|omega|refine VG ?_ ?_<;>intro hg|refine VC ?_ ?_<;>intro hc)
 refine RU ?_;exact ⟨rfl,hS⟩;repeat'(first|refine W1 ?_|omega|refine VG ?_ ?_<;>intro hg|refine VC ?_ ?_<;>intro hc)
 have hK:Z8h (λw' D=>Stp [] wh w'/\∀ c∈D,c<w'.heap.size/\wh.heap.size<=c):=λw w' D D' hJ hS hD=>⟨hJ.1.trans hS,λc hc=>by
  rcases hD c hc with h|h
  have:=hJ.2 c h;have:=hS.size;omega;have:=hJ.1.size;omega⟩
 refine Z8i 11 [⟨9,18,24,fcZ⟩] [10] [(0,0),(1,1),(2,0),(3,0),(4,1),(5,0),(6,2),(7,0),(8,1)] [(10,2)] (λw' D=>Stp [] wh w'/\∀ c∈D,c<w'.heap.size/\wh.heap.size<=c) rfl mixed (by kernel_rfl) (by kernel_rfl) (by kernel_rfl) (by intro f hf;simp at hf;rcases hf with rfl;rfl) (λw' aL=>⟨aL,by simp⟩) ?_;refine ZdZ (F:=[⟨9,18,24,fcZ⟩]) ⟨by intro f hf;simp at hf;rcases hf with rfl;exact ⟨_,_,_,rfl⟩,by intro f hf;simp at hf;rcases hf with rfl;exact inferInstance,by intro f hf;simp at hf;rcases hf with rfl;rfl,by show [9].Nodup;decide,by intro f hf g hg h;simp at hf hg;rcases hf with rfl;rcases hg with rfl;rfl⟩ (λqF=>?_);refine Jp rfl trivial (λw'=>Z1g rfl) rfl rfl ?_;refine Z9g hK rfl trivial (λw D hJ=>Ji rfl rfl (e9.up hJ.1) rfl) rfl rfl ?_;refine Jp rfl trivial (λw'=>ZJ rfl) rfl rfl ?_;refine Jp rfl trivial (λw'=>Z1g rfl) rfl rfl ?_;refine Z9g hK rfl trivial (λw D hJ=>Ji rfl rfl (e9.up hJ.1) rfl) rfl rfl ?_;refine Jp rfl trivial (λw'=>Z8Y rfl ew) rfl rfl ?_
 refine Zcw qF hK (J':=λz w' D=>z=.I ((if at_<0 then -(at_+1) else at_) % (fs.length:Int))/\Stp [] wh w'/\∀ c∈D,c<w'.heap.size/\wh.heap.size<=c) rfl trivial
  (λw D hJ=>(Z3 rfl (Zh rfl rfl) (J4 at_ (fs.length:Int) w (by omega) bO)).mono (λz w' ⟨h1,h3⟩=>⟨h3,h1,hJ.1.trans h3,λc hc=>⟨Xi (hJ.2 c hc).1 h3.size,(hJ.2 c hc).2⟩⟩)) rfl rfl ?_
 intro vt;refine Zcx ?_;rintro rfl;have hx:=ZT (if at_<0 then -(at_+1) else at_) (fs.length:Int) (by omega);generalize (if at_<0 then -(at_+1) else at_) % (fs.length:Int)=x at hx ⊢;obtain ⟨x,rfl⟩:∃ q:Nat,x=(q:Int):=⟨x.toNat,by omega⟩
 have fP:x<fs.length:=by omega
 refine Jp rfl trivial (λw'=>Z2m rfl ew rfl rfl fP) rfl rfl ?_;refine Z9g hK rfl trivial (λw D hJ=>Z5H rfl rfl (ew.up hJ.1) fP rfl) rfl rfl ?_;refine Zaw qF hK ?_;rintro wj DD b18 ⟨hT,hD⟩ d18 e18;have vU:=(hD b18 d18).2;have fh:fs[x]∈fs:=Xc fP;generalize nR:fs[x]=f at fh ⊢;refine Je rfl trivial (Zy (us:=Z2.enc f) rfl rfl rfl rfl (Z2.one _) e18 rfl) rfl ?_;rintro _ wk ⟨hU,e18⟩;refine Z54 ?_;replace hT:=hT.ow hU;replace T:=T.trans hT;replace hd:=hd.up hT;clear e9 bt hw hE ew hT hU hK qF hD d18;obtain ⟨e9,bt,hw,hE⟩:=K _ T;repeat'(first|refine W1 ?_|omega|refine VG ?_ ?_<;>intro hg|refine VC ?_ ?_<;>intro hc)
 refine Zc (vs:=[(0,.I f.entry)]) rfl (ZjY _) rfl ?_;refine Zc (vs:=[(0,.I (k+1)),(1,.B true),(2,aG (⟨f.entry,[],0,0,0,0⟩:Fct))]) rfl (Zew _ _ _) rfl ?_;refine CM (Zh rfl rfl) (Z7C ev E (skV k f) _ hE hL.chain (λx hx=>(hL.fil x hx).km) (hL.step1 fh) (by simp [maxLen]) (by omega)) ?_;rintro _ wl ⟨o1,rfl,sA,hT⟩;replace T:=T.trans hT;replace hd:=hd.up hT;replace e18:=e18.up hT;clear e9 bt hw hE hT;repeat'(first|refine W1 ?_|omega|refine VG ?_ ?_<;>intro hg|refine VC ?_ ?_<;>intro hc)
 refine Zc (vs:=[(0,.I (k+2)),(2,aG f)]) rfl (ZjZ _ _) rfl ?_;refine CM (Zh rfl rfl) (Z7C o1 (E++[skV k f]) (agV k f) _ sA (hL.chain.snoc (hL.step1 fh)) (λx hx=>(Xe.1 hx).elim (λg=>(hL.fil x g).km) (λg=>by rw [Xn.1 g];simp [maxLen])) (hL.step2 fh) (hL.kn.fil f fh).km (by simp only [Xb,XP];omega)) ?_;rintro _ wm ⟨o2,rfl,hG,hT⟩;replace T:=T.trans hT;replace hd:=hd.up hT;replace e18:=e18.up hT;obtain ⟨e9,bt,hw,hE⟩:=K _ T;clear hT sA;repeat'(first|refine W1 ?_|omega|refine VG ?_ ?_<;>intro hg|refine VC ?_ ?_<;>intro hc)
 have K2:∀ W,Stp [] wm W->SlV [] W dv (Z42 { c with fcts:=fs })/\SlV [] W o2 (E++[skV k f]++[agV k f])/\Blk W b18 24 (Z2.enc f):=λW g=>⟨hd.up g,hG.up g,e18.up g⟩
 have xx:(E++[skV k f]++[agV k f]).length<=12:=by simp only [Xb,XP];omega
 refine Z0 Z4 rfl ?_;rintro _ wn ⟨b23,rfl,vV,e23,M⟩;refine Z8 (Zy (us:=Jq { c with fcts:=fs } { R with fv:=fv }) rfl rfl rfl rfl bt.cell e23 rfl) ?_;rintro _ wo ⟨hU,e23⟩;replace M:=M.ow hU;clear e9 bt hw hE hU hd hG e18;obtain ⟨hd,hG,e18⟩:=K2 _ M;refine W ?_;refine CM (Zh rfl rfl) (Z9S o2 _ (k+1) _ hG (by omega)) ?_;rintro gv1 wp ⟨⟨gs,mQ,qx,fF⟩,hT⟩;obtain ⟨fx,eM⟩:=hL.gone fh mQ (by omega);have l23:=e23.lt;replace e23:=e23.up hT;replace M:=M.trans hT;have jy:=λb hb=>fF.ob_le b hb;have ez:=fF.slv (X:=[]) (by simp);clear hT mQ;refine W ?_;refine Z8 (Zf (u:=gv1) rfl rfl ez.cells ez.one e23 (show (0:Nat)<19 by decide)) ?_;rintro _ wq ⟨hU,f23⟩;replace e23:Blk wq b23 49 (Jq { c with fcts:=gs } { R with fv:=gv1 }):=f23;replace ez:SlV [] wq gv1 gs:=(fF.keep hU (λb hb h=>by simp at hb;subst hb;have:=(jy _ h).1;omega)).slv (by simp);replace M:=M.ow hU;clear hd hG e18;obtain ⟨hd,hG,e18⟩:=K2 _ M;obtain ⟨e9,bt,hw,hE⟩:=K _ (T.trans M);have gW:Z2k wq { c with fcts:=gs } { R with fv:=gv1 }:=⟨ez,bt.rr,bt.aa,bt.cc,bt.ss,bt.cal,bt.one⟩
 clear hU f23 fF jy ez hw hE;have K3:∀ W,Stp [] wq W->Blk W b23 49 (Jq { c with fcts:=gs } { R with fv:=gv1 })/\Z2k W { c with fcts:=gs } { R with fv:=gv1 }/\Stp [] wm W:=λW g=>⟨e23.up g,gW.up g,M.trans g⟩
 repeat'(first|refine W1 ?_|omega|refine VG ?_ ?_<;>intro hg|refine VC ?_ ?_<;>intro hc)
 refine Z0 Z4 rfl ?_;rintro _ wr ⟨b24,rfl,pM,e24,N⟩;refine Z8 (Zy (us:=Jq { c with fcts:=fs } { R with fv:=fv }) rfl rfl rfl rfl bt.cell e24 rfl) ?_;rintro _ ws ⟨hU,e24⟩;replace N:=N.ow hU;replace hG:=hG.up N;clear e9 bt hU hd e18 e23 gW M;refine W ?_;refine CM (Zh rfl rfl) (Z9S o2 _ (k+2) _ hG (by omega)) ?_;rintro gv2 wt ⟨⟨bs,cM,iE,fF⟩,hT⟩;obtain rfl:fs=bs:=(hL.back fh cM).symm;have l24:=e24.lt;replace e24:=e24.up hT;replace N:=N.trans hT;have jy:=λb hb=>fF.ob_le b hb;have ez:=fF.slv (X:=[]) (by simp);clear hT cM hG;refine W ?_;refine Z8 (Zf (u:=gv2) rfl rfl ez.cells ez.one e24 (show (0:Nat)<19 by decide)) ?_;rintro _ wu ⟨hU,f24⟩;replace e24:Blk wu b24 49 (Jq { c with fcts:=fs } { R with fv:=gv2 }):=f24;replace ez:SlV [] wu gv2 fs:=(fF.keep hU (λb hb h=>by simp at hb;subst hb;have:=(jy _ h).1;omega)).slv (by simp);replace N:=N.ow hU;obtain ⟨e23,gW,M⟩:=K3 _ N;obtain ⟨hd,-,e18⟩:=K2 _ M;have ij:Z2k wu { c with fcts:=fs } { R with fv:=gv2 }:=⟨ez,gW.rr,gW.aa,gW.cc,gW.ss,gW.cal,gW.one⟩
 replace hS:=(hS.trans T).trans M;clear hU f24 fF jy ez K K2 K3 T M N;have nq:=fx.cas qD;have aw:=Zg0 nq;repeat'(first|refine W1 ?_|omega|refine VG ?_ ?_<;>intro hg|refine VC ?_ ?_<;>intro hc)
 refine CL (Z0S _ _ _ gW nq) ?_;rintro dl wv ⟨gV,hT⟩;have iW:SlV [] wv dl (Z42 { c with fcts:=gs }):=Row.slv (X:=[]) gV (by simp);replace hd:=hd.up hT;replace e18:=e18.up hT;replace e24:=e24.up hT;replace ij:=ij.up hT;replace hS:=hS.trans hT;clear hT gV gW e23;generalize Z42 { c with fcts:=gs }=D at iW aw;replace aw:∀ d∈D,d.trig.entry≠f.entry:=λd h e=>eM (e ▸ aw d h);have bP:=iW.max;repeat'(first|refine W1 ?_|omega|refine VG ?_ ?_<;>intro hg|refine VC ?_ ?_<;>intro hc)
 refine LP (σ:=Nat) (λj=>[(17,dv),(18,pQ b18),(24,pQ b24),(25,dl),(26,.I (j:Int))]) (λj W=>j<=D.length/\Stp [] wv W) (λj=>D.length - j) 0 ⟨Xu _,Stp.refl _ _⟩ ?_;rintro j y3 ⟨hj,hT⟩;have jf:=iW.up hT;have f18:=e18.up hT;by_cases hlt:j<D.length;have ba:=aw _ (Xc hlt);obtain ⟨csa,⟨ra,rfl,kG⟩,kl⟩:=jf.cell hlt;focus repeat'(first|refine W1 ?_|omega|refine VG ?_ ?_<;>intro hg|refine VC ?_ ?_<;>intro hc)
 refine ZDr 9 [] [] [(0,0),(1,0),(2,0),(3,0),(4,0),(5,1),(6,0),(7,1),(8,0)] (λw1 ae=>?_);replace jf:=jf.up ae;replace f18:=f18.up ae;replace hT:=hT.trans ae;have qG:=ae.cell0 (kl 1 _ rfl);clear ae;focus repeat'(first|refine D1 ?_|omega|refine Zb rfl rfl rfl rfl (λhg=>?_) (λhg=>?_)|(refine Z7 rfl rfl rfl rfl (λhg=>?_) (λhg=>?_)<;>refine D1 ?_)|fail)
 refine Z0d rfl trivial rfl rfl qG rfl ?_;focus repeat'(first|refine D1 ?_|omega|refine Zb rfl rfl rfl rfl (λhg=>?_) (λhg=>?_)|(refine Z7 rfl rfl rfl rfl (λhg=>?_) (λhg=>?_)<;>refine D1 ?_)|fail)
 focus repeat'(first|refine W1 ?_|omega|refine VG ?_ ?_<;>intro hg|refine VC ?_ ?_<;>intro hc)
 exact QL (j+1) ⟨hlt,hT⟩ (XE hlt (XA j));replace hS:=hS.trans hT;replace hd:=hd.up hT;replace e24:=e24.up hT;replace ij:=ij.up hT;clear hT f18 e18;repeat'(first|refine W1 ?_|omega|refine VG ?_ ?_<;>intro hg|refine VC ?_ ?_<;>intro hc)
 refine CL (Z0S _ _ _ ij qE) ?_;rintro db wy ⟨gV,hT⟩;have sB:SlV [] wy db (Z42 { c with fcts:=fs }):=Row.slv (X:=[]) gV (by simp);replace hd:=hd.up hT;replace hS:=hS.trans hT;clear hT gV ij e24;repeat'(first|refine W1 ?_|omega|refine VG ?_ ?_<;>intro hg|refine VC ?_ ?_<;>intro hc)
 refine CP hS (Z4S dv db _ _ hd sB) λwz hT hS=>?_;clear hT hd sB;repeat'(first|refine W1 ?_|omega|refine VG ?_ ?_<;>intro hg|refine VC ?_ ?_<;>intro hc)
 refine CP hS (Z66 er m _ (hF.up hS) (gT.up hS) (gU.up hS) (hS.cell (by simp) dN) (hS.cell (by simp) jq) cb) λwi _ hS=>?_
 repeat'(first|refine W1 ?_|omega|refine VG ?_ ?_<;>intro hg|refine VC ?_ ?_<;>intro hc)
 refine RU ?_;exact ⟨rfl,hS⟩
end Go.Proofs.YteibicnbkggiiaaGreatDoor
namespace Go.Eng
open Go Go.RowKit Go.Proofs
def Z7K (P:Program) (w:World) (n:String) (d:DataW Unit):Prop:=∃ g t cs fuel p,P.globalNamed n=some g/\(P.globals[g]?).map (·.type)=some t/\w.var? P n=some cs/\DataW.trod (λ_=>()) P w 0 (λ_=>true) false fuel t cs.toList=some (d,p)
theorem Z3w {P:Program} {w}:∀ (l:List (String×DataW Unit)) (ps:List MemPlace),DataW.LaidVars P w l ps->∀ (n:String) (d:DataW Unit),(n,d)∈l->Z7K P w n d
 | [],_,_,n,d,h=>by simp at h
 | (n0, d0) :: r, ps, hl, n, d, h => by
   obtain ⟨g,t,cs,fuel,p,q,h1,h2,h3,h4,h5,_⟩:=hl;rcases Xa.1 h with h|h
   cases h;exact ⟨g,t,cs,fuel,p,h1,h2,h3,h4⟩;exact Z3w r q h5 n d h
theorem Zgc {P:Program} {w} {name:String} {g t e n:Nat} {k:IntKind} {zs:List Int} (h:Z7K P w name (Lib.tabData k zs)) (hg:P.globalNamed name=some g) (m5:(P.globals[g]?).map (·.type)=some t) (ht:P.underlying t=some (.array n e)) (he:P.underlying e=some (.int k)) (vW:P.cellsOf e=1) (qe:P.cellsOf t=n):Lib.TabIs P w name k zs:=by
 obtain ⟨g',t',cs,fuel,p,vX,sm,qH,hd⟩:=h;obtain rfl:=XL (hg.symm.trans vX);obtain rfl:=XL (m5.symm.trans sm);unfold Lib.TabIs;rw [qH,<- Lib.cells_of_tab ht he vW qe hd]
theorem ZdB {P:Program} {W:World} {name:String} {g t e n:Nat} {ss:List Str} (hg:P.globalNamed name=some g) (ht:(P.globals[g]?).map (·.type)=some t) (hu:P.underlying t=some (.array n e)) (he:P.underlying e=some .string) (hc:P.cellsOf e=1)
 (hn:ss.length=n) (h:Z7K P W name (.agg (ss.map (λs=>DataW.lit (.string s))))) :
 ∀ i (hi:i<ss.length),W.cell? ⟨g,i,none⟩=some (str ss[i]):=by
 obtain ⟨g0,t0,cs0,f0,p0,jv,jt,mR,dp⟩:=h;obtain rfl:=XL (hg.symm.trans jv);obtain rfl:=XL (ht.symm.trans jt);obtain ⟨xs,m1,rfl,kT,ai,dS,cU⟩:=DataW.trod_array hu dp;intro i hi;have h1:=cU i (by omega);rw [hc,Ya5] at h1;have sC:xs[i]?=some (xs[i]'(by omega)):=XC (by omega);rw [sC] at h1;obtain ⟨s,e1,e2,_⟩:=DataW.trod_string he h1;have e3:DataW.agg (ss.map (λs=>DataW.lit (.string s)))=(DataW.agg (xs.map (·.1)):DataW Unit):=congrArg Prod.fst kT;simp only [DataW.agg.injEq] at e3;have e4:(DataW.lit (.string ss[i]):DataW Unit)=(xs[i]'(by omega)).1:=by
  have h2:=congrArg (λl=>l[i]?) e3;simp only [XV,sC,XC hi,YaN,Xl] at h2;exact h2
 rw [e2] at e4;simp only [DataW.lit.injEq,Lit.string.injEq] at e4;have hv:=World.var?_cell jv mR i;rw [hv];have h5:cs0.toList[i]?=some (.string s):=by
  have h6:=congrArg (λl=>l[0]?) e1;simpa [Yav,YbN] using h6
 rw [<- YaH,h5];congr 1;simp only [str,e4]
theorem ZbR {P:Program} {W:World} {name:String} {g t:Nat} {ms:Array (String×TypeId)} {d:DataW Unit} (hg:P.globalNamed name=some g) (ht:(P.globals[g]?).map (·.type)=some t) (hu:P.underlying t=some (.interface ms)) (h:Z7K P W name d) :
 ∃ er,W.cell? ⟨g,0,none⟩=some er/\(er=.nilIface\/∃ te pe,er=.iface te pe):=by
 obtain ⟨g0,t0,cs0,f0,p0,jv,jt,mR,dp⟩:=h;obtain rfl:=XL (hg.symm.trans jv);obtain rfl:=XL (ht.symm.trans jt);have hv:=World.var?_cell jv mR 0;rw [hv];rw [<- YaH];generalize cs0.toList=cs at *;cases f0 with
 | zero=>simp [DataW.trod] at dp
 | succ f=>
   unfold DataW.trod at dp;rw [hu] at dp
   match cs,dp with
   | [],dp=>simp at dp
   | a :: b :: r,dp=>simp at dp
   | [x], dp=>
     refine ⟨x,rfl,?_⟩;cases x with
     | nilIface=>exact .inl rfl
     | iface u v=>exact .inr ⟨u,v,rfl⟩
     | _=>simp at dp
end Go.Eng
namespace Go.Proofs.YteibicnbkggiiaaGreatDoor
open Go Go.Eng Go.RowKit Go.Proofs
open Go Go.Eng Go.RowKit Go.Proofs Go.ChangeShapes Go.WideShapes Go.Deep
theorem Zgd {W:World} (h:Z7K Tryz.prog W "rollbook/holiday.moves" Rows.laid_rollbook_holiday_moves):Z2g W:=by
 obtain ⟨g0,t0,cs0,f0,p0,jv,jt,mR,dp⟩:=h;have hg:Tryz.prog.globalNamed "rollbook/holiday.moves" = some 5:=by kernel_rfl
 have ht:(Tryz.prog.globals[5]?).map (·.type)=some 390:=by kernel_rfl
 obtain rfl:=XL (hg.symm.trans jv);obtain rfl:=XL (ht.symm.trans jt);obtain ⟨xs,m1,rfl,kT,ai,dS,cU⟩:=DataW.trod_array Tryz.underlying390 dp;have sD:Tryz.prog.cellsOf 340=7:=by kernel_rfl
 have e3:(Rows.laid_rollbook_holiday_moves:DataW Unit)=.agg (xs.map (·.1)):=congrArg Prod.fst kT;have e4:(.agg [Lib.tabData .i64 [0,0,0,0,0,0,0],Lib.tabData .i64 [0,0,0,0,0,2,1],Lib.tabData .i64 [0,0,0,0,0,-1,1]]:DataW Unit)=.agg (xs.map (·.1)):=e3;simp only [DataW.agg.injEq] at e4;have row:∀ (k:Nat) (zs:List Int),k<3->[Lib.tabData .i64 [0,0,0,0,0,0,0],Lib.tabData .i64 [0,0,0,0,0,2,1],(Lib.tabData .i64 [0,0,0,0,0,-1,1]:DataW Unit)][k]?=some (Lib.tabData .i64 zs)->(cs0.toList.drop (k * 7)).take 7=zs.map λz=>Value.int .i64 z:=by
  intro k zs hk hz;have h1:=cU k hk;rw [sD] at h1;rw [e4,XV] at hz;cases hx:xs[k]? with
  | none=>rw [hx] at hz;cases hz
  | some y=>
    rw [hx] at hz h1;have hy:y=(Lib.tabData .i64 zs,y.2):=Prod.ext (XL hz) rfl;rw [hy] at h1;exact Lib.cells_of_tab (t:=340) (e:=3) (n:=7) Tryz.underlying340 Tryz.underlying3 (by kernel_rfl) sD h1
 have r0:=row 0 _ (by omega) rfl;have r1:=row 1 _ (by omega) rfl;have r2:=row 2 _ (by omega) rfl;have am:∀ (k:Nat) (zs:List Int) (j:Nat),(cs0.toList.drop (k * 7)).take 7=(zs.map λz=>Value.int .i64 z)->j<7->j<zs.length->cs0.toList[k * 7+j]?=some (.I (zs.getD j 0)):=by
  intro k zs j hr hj dI;have h6:=congrArg (λl=>l[j]?) hr;simp only [Yav,YbN,XV,if_pos hj] at h6;rw [h6];simp [List.getD,dI]
 intro i u hu;have hi:=(Xt.1 hu).1;have vY:i<21:=hi;have hv:=World.var?_cell hg mR i;rw [hv,<- YaH];by_cases h7:i<7;have h2:=am 0 _ i r0 h7 (by simpa using h7);rw [show 0 * 7+i=i by omega] at h2;rw [h2];have hk:i=0\/i=1\/i=2\/i=3\/i=4\/i=5\/i=6:=by omega
 rcases hk with rfl|rfl|rfl|rfl|rfl|rfl|rfl<;>(simp [Z3k] at hu;subst hu;rfl)
 by_cases cV:i<14;have h2:=am 1 _ (i - 7) r1 (by omega) (by simp;omega);rw [show 1 * 7+(i - 7)=i by omega] at h2;rw [h2];have hk:i=7\/i=8\/i=9\/i=10\/i=11\/i=12\/i=13:=by omega
 rcases hk with rfl|rfl|rfl|rfl|rfl|rfl|rfl<;>(simp [Z3k] at hu;subst hu;rfl)
 have h2:=am 2 _ (i - 14) r2 (by omega) (by simp;omega);rw [show 2 * 7+(i - 14)=i by omega] at h2;rw [h2];have hk:i=14\/i=15\/i=16\/i=17\/i=18\/i=19\/i=20:=by omega
 rcases hk with rfl|rfl|rfl|rfl|rfl|rfl|rfl<;>(simp [Z3k] at hu;subst hu;rfl)
abbrev Z7L:List (String×DataW Unit):=[("math/bits.deBruijn32tab",Rows.laid_math_bits_deBruijn32tab),("math/bits.deBruijn64tab",Rows.laid_math_bits_deBruijn64tab),("internal/strconv.uint64pow10",Rows.laid_internal_strconv_uint64pow10),("strconv.ErrRange",Rows.laid_strconv_ErrRange),("strconv.ErrSyntax",Rows.laid_strconv_ErrSyntax),("rollbook/date.lengths",Rows.laid_rollbook_date_lengths),("rollbook/holiday.moves",Rows.laid_rollbook_holiday_moves)]
abbrev ZbS:List (String×DataW Unit):=Z7L++[("rollbook/types.fields",Rows.laid_rollbook_types_fields)]
theorem ZbT {W:World} (h1:Z7K Tryz.prog W "rollbook/date.lengths" Rows.laid_rollbook_date_lengths):Z0G W:=by
 have h2:=Zgc (k:=.i64) (zs:=Z2b) (g:=1) (t:=293) (e:=3) (n:=13) h1 (by kernel_rfl) (by kernel_rfl) Tryz.underlying293 Tryz.underlying3 (by kernel_rfl) (by kernel_rfl);intro i u hu;have hi:=(Xt.1 hu).1;rw [Lib.TabIs.cell h2 (g:=1) (by kernel_rfl) i hi];simp [List.getD,hu]
theorem ZdC {W:World} (h1:Z7K Tryz.prog W "rollbook/types.fields" Rows.laid_rollbook_types_fields):SlV [] W Z2S Zd:=by
 have hc:=ZdB (g:=0) (t:=290) (e:=9) (n:=7) (ss:=Zd) (by kernel_rfl) (by kernel_rfl) Tryz.underlying290 Tryz.underlying9 (by kernel_rfl) rfl h1;have hlt:0<W.heap.size:=block_lt_of_cell (a:=⟨0,0,none⟩) (hc 0 (by decide));refine ⟨some ⟨0,0,none⟩,7,rfl,by decide,by decide,(λh=>by cases h),λi hi=>⟨0,0,[str Zd[i]],rfl,hlt,by simp,rfl,λj u hu=>?_⟩⟩;have hj:j=0:=by
  have:=(Xt.1 hu).1;simp at this;exact this
 subst hj;simp at hu;subst hu;have:=hc i hi;simpa [Z5.k,Z2.k] using this
structure Znn (W:World):Prop where
 len:Z0G W
 mov:Z2g W
 err:∃ er,W.cell? ⟨4,0,none⟩=some er/\(er=.nilIface\/∃ te pe,er=.iface te pe)
theorem Zk0 {W:World} {l:List (String×DataW Unit)} {ps:List MemPlace} (h:DataW.LaidVars Tryz.prog W l ps) (h1:("rollbook/date.lengths",Rows.laid_rollbook_date_lengths)∈l) (h2:("rollbook/holiday.moves",Rows.laid_rollbook_holiday_moves)∈l) (h3:("strconv.ErrRange",Rows.laid_strconv_ErrRange)∈l):Znn W:=
 ⟨ZbT (Z3w _ _ h _ _ h1),Zgd (Z3w _ _ h _ _ h2),ZbR (g:=4) (t:=321) (by kernel_rfl) (by kernel_rfl) Tryz.underlying321 (Z3w _ _ h _ _ h3)⟩
theorem ZrS {W:World} (h:laidMetH Tryz.prog ZbS W):Znn W/\SlV [] W Z2S Zd:=by
 rw [MakeChecks.laidMetH_plain _ _ _ (by kernel_rfl)] at h;obtain ⟨ps,h,_⟩:=h;exact ⟨Zk0 h (by simp [ZbS,Z7L]) (by simp [ZbS,Z7L]) (by simp [ZbS,Z7L]),ZdC (Z3w _ _ h _ _ (by simp [ZbS,Z7L]))⟩
end Go.Proofs.YteibicnbkggiiaaGreatDoor
namespace Go.Eng
open Go Go.RowKit Go.Proofs Go.ChangeShapes Go.WideShapes Go.Deep
def Z50 (P:Program) (lo n:Nat):Bool:=(List.range n).all λi=>!((P.funcs[lo+i]?).any Func.goes)
theorem Z0f {P:Program} {lo n g:Nat} (h:Z50 P lo n=true) (h1:lo<=g) (h2:g<lo+n):(P.funcs[g]?).any Func.goes=false:=by
 have:=Xx.1 h (g - lo) (List.mem_range.2 (by omega));rw [show lo+(g - lo)=g by omega] at this;simpa using this
theorem Zvj {P:Program} (h:∀ g:Nat,(P.funcs[g]?).any Func.goes=false) {c:OpenClaim} (hs:c.start=.entering):false=c.goesBy P:=by
 symm;have aD:P.funcs.any Func.goes=false:=by
  rw [Array.any_eq_false];intro i hi hg;have:=h i;rw [Array.getElem?_eq_getElem hi] at this;simp only [Option.any_some] at this;rw [this] at hg;cases hg
 have iy:∀ f,P.goes f=false:=by
  intro f;unfold Program.goes;rw [aD,Yb3,Bool.or_false];rw [Ybe];intro hc;have bT:=hc;simp [h] at bT
 unfold OpenClaim.goesBy Program.goesAt Program.goesFrom;rw [hs];cases hf:P.funcNamed c.func with
 | none=>rfl
 | some f=>simp [iy]
theorem Zn6 {P:Program} {f:FuncId} {fn:Func} {s:ChangeSpec} {c:OpenClaim} (a1:c.wf (OpenSpec.ofChange s)=true) (a2:laidOutB P=true) (a3:mapsRowed P=true) (a4:fn.params.all (P.readableRec ·)=true) (a5:namedTie P c.named s.vars=true)
 (a6:((c.stops == []) && (P.stops == []) && (c.knobs == []) && (P.stopKnobs == []))=true)
 (h2:(c.inPlace == P.inPlace f)=true) (h3:(c.unfollowed == P.unfollowed f)=true) (h4:(c.recurses == P.recurses f)=true) (h5:(c.named == P.varsNamed f)=true)
 (h6 : ((c.maps == (fn.params.toList ++ s.plain.varTypes P).any (P.mapsRec ·)) && (c.ifaces == (fn.params.toList ++ s.plain.varTypes P).any (P.ifacesRec ·)) && (c.mapsOut == P.mapsAmong fn.resultTypes.toList) &&
   (c.loops == (fn.params.toList++s.plain.varTypes P).any (P.loopsFrom ·)) && (c.wideKeys == (fn.params.toList++s.plain.varTypes P++fn.resultTypes.toList).any (P.wideKeysFrom ·)) &&
   s.vars.all (P.varReadable ·) && fn.resultTypes.all (λt=>P.readableRec t && decide (t<P.types.size)) && (c.ifacesOut == fn.resultTypes.toList.any (P.ifacesRec ·)) && (c.loopsOut == fn.resultTypes.toList.any (P.loopsFrom ·)) && (c.plainKeys == P.plainKeys) && c.shortTexts.isNone && P.stopsHeard && P.mayEnter && (c.lifted == P.liftsFinal) && (P.make == some c.make) && (c.kinds == (if c.domain.isEmpty then [] else fn.params.toList.map λt=>match P.underlying t with|some (.int k)=>some k|_=>none)) && (c.pinned == c.pinnedBy) &&
   (c.veiled == (fn.params.toList++s.plain.varTypes P++fn.resultTypes.toList).any (P.veiledRec ·)) && c.veiledFits P fn.params.toList (fn.params.toList++s.plain.varTypes P++fn.resultTypes.toList))=true) :
 joinedFacts P f fn s c=true:=by
 simp only [Xd] at a6 h6;unfold joinedFacts;simp only [Xd];exact ⟨⟨⟨⟨⟨⟨⟨⟨⟨⟨⟨⟨⟨⟨⟨⟨⟨⟨⟨⟨⟨⟨⟨⟨⟨⟨⟨⟨⟨⟨⟨a1,a2⟩,a3⟩,a4⟩,a5⟩,a6.1.1.1⟩,a6.1.1.2⟩,a6.1.2⟩,a6.2⟩,h2⟩,h3⟩,h4⟩,h5⟩,h6.1.1.1.1.1.1.1.1.1.1.1.1.1.1.1.1.1.1⟩,h6.1.1.1.1.1.1.1.1.1.1.1.1.1.1.1.1.1.2⟩,h6.1.1.1.1.1.1.1.1.1.1.1.1.1.1.1.1.2⟩,h6.1.1.1.1.1.1.1.1.1.1.1.1.1.1.1.2⟩,h6.1.1.1.1.1.1.1.1.1.1.1.1.1.1.2⟩,h6.1.1.1.1.1.1.1.1.1.1.1.1.1.2⟩,h6.1.1.1.1.1.1.1.1.1.1.1.1.2⟩,h6.1.1.1.1.1.1.1.1.1.1.1.2⟩,h6.1.1.1.1.1.1.1.1.1.1.2⟩,h6.1.1.1.1.1.1.1.1.1.2⟩,h6.1.1.1.1.1.1.1.1.2⟩,h6.1.1.1.1.1.1.1.2⟩,h6.1.1.1.1.1.1.2⟩,h6.1.1.1.1.1.2⟩,h6.1.1.1.1.2⟩,h6.1.1.1.2⟩,h6.1.1.2⟩,h6.1.2⟩,h6.2⟩
end Go.Eng
namespace Go.Proofs.YteibicnbkggiiaaGreatDoor
open Go Go.Eng Go.RowKit Go.Proofs Go.ChangeShapes Go.WideShapes Go.Deep
theorem Zvg:mapsRowed Tryz.prog=true:=by kernel_rfl
theorem Zk1:Tryz.prog.funcs.size=415:=by kernel_rfl
theorem Zge:Z50 Tryz.prog 0 34=true:=by kernel_rfl
theorem Zgf:Z50 Tryz.prog 34 34=true:=by kernel_rfl
theorem Zgg:Z50 Tryz.prog 68 34=true:=by kernel_rfl
theorem Zgh:Z50 Tryz.prog 102 34=true:=by kernel_rfl
theorem Zgi:Z50 Tryz.prog 136 34=true:=by kernel_rfl
theorem Zgj:Z50 Tryz.prog 170 34=true:=by kernel_rfl
theorem Zgk:Z50 Tryz.prog 204 34=true:=by kernel_rfl
theorem Zgl:Z50 Tryz.prog 238 34=true:=by kernel_rfl
theorem Zgm:Z50 Tryz.prog 272 34=true:=by kernel_rfl
theorem Zgn:Z50 Tryz.prog 306 34=true:=by kernel_rfl
theorem ZdD:Z50 Tryz.prog 340 34=true:=by kernel_rfl
theorem ZdE:Z50 Tryz.prog 374 34=true:=by kernel_rfl
theorem ZdF:Z50 Tryz.prog 408 7=true:=by kernel_rfl
theorem Zvh:∀ g:Nat,(Tryz.prog.funcs[g]?).any Func.goes=false:=λg=>by
 by_cases h:g<415;by_cases h0:g<34;exact Z0f Zge (by omega) (by omega);by_cases h1:g<68;exact Z0f Zgf (by omega) (by omega);by_cases h2:g<102;exact Z0f Zgg (by omega) (by omega);by_cases h3:g<136;exact Z0f Zgh (by omega) (by omega);by_cases h4:g<170;exact Z0f Zgi (by omega) (by omega);by_cases h5:g<204;exact Z0f Zgj (by omega) (by omega);by_cases h6:g<238;exact Z0f Zgk (by omega) (by omega);by_cases h7:g<272;exact Z0f Zgl (by omega) (by omega);by_cases h8:g<306;exact Z0f Zgm (by omega) (by omega);by_cases h9:g<340;exact Z0f Zgn (by omega) (by omega);by_cases gw:g<374;exact Z0f ZdD (by omega) (by omega);by_cases xy:g<408;exact Z0f ZdE (by omega) (by omega);exact Z0f ZdF (by omega) (by omega);rw [Ya7 (by rw [Zk1];omega)];rfl
end Go.Proofs.YteibicnbkggiiaaGreatDoor
