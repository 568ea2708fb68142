/-
Merged by program out of own texts: Psr10, Psr11, Pxn1, Ver3, Ver5, Arg15, Srt1, Use1, Tyo1, Cty0, Cty1, Dtr1, Vmm, Vme, Vev0, Vmw1, Vmw2, Vmw3, Est1, Hol1, Hol2, HolS, Hol3, Hol4, Pri1, Eng29, Hol5, Cal1, Cal2, Cal3.
-/
import Derived.Test.YtjdjdoefppebkaaGreatDoorM3
import Derived.Test.YtjdjdoefppebkaaGreatDoorRows
import Derived.Test.YtjdjdoefppebkaaGreatDoorTie
import Derived.Test.YtjdjdoefppebkaaGreatDoorCards
import Derived.RangeFuncBox
import Derived.RangeFuncLeaves
import Derived.RangeFuncNested
import Derived.RangeFuncBound
import Derived.RangeFuncCalls
import Derived.Shelf.Abstract
import Derived.Shelf.RegionOpen
import Derived.BigRegionIn
import Derived.WalkKit
import Derived.OwnWalkIn
import Derived.TacticsInMore
import Derived.LoopNIn
import Derived.LoopIn
set_option linter.unusedVariables false
set_option linter.unusedSimpArgs false
namespace Go.Eng
open Go Go.RowKit Go.Proofs
theorem Z16 {nl:Str→Nat} {s:Str}:∀ (f at_:Nat) (l:List Tkn) (a c:Int),JG nl s f at_ l=.err a c→c≠0
 | 0,at_,l,a,c,h=>by simp [JG] at h
 | f + 1, at_, l, a, c, h => by
   simp only [JG] at h
   split at h
   split at h
   exact Z16 f _ _ _ _ h
   split at h
   exact Z16 f _ _ _ _ h
   · cases hr:Z0a (s.drop at_) with
     | err e=>
       rw [hr] at h
       simp only [Tks.err.injEq] at h
       obtain ⟨_,rfl⟩:=h
       exact Z1n hr
     | ok t=>
       rw [hr] at h
       exact Z16 f _ _ _ _ h
   simp at h
theorem Z7X {s:Str} {a c:Int} (h:Z15 s=.err a c):c≠0:=by
 unfold Z15 at h
 split at h
 simp only [Tks.err.injEq] at h;omega
 exact Z16 _ _ _ _ _ h
theorem Z6U {s:Str} {l:List Tkn} (h:Z15 s=.ok l):Z25 l∧∃ l1 p,l=l1++[⟨0,p,[],0⟩]∧∀ t∈l1,ZbH t:=by
 unfold Z15 at h
 split at h
 cases h
 rename_i hl
 obtain ⟨l1,p,rfl,h1,h2,h3⟩:=Z1J (nl:=nlM) (s:=s) (by omega) (s.length+1) 0 [] l (by simp) (by simp) (by simp) (by simp) h
 exact ⟨Zdv h1 h2 (by omega),l1,p,rfl,h1⟩
end Go.Eng
namespace Go.Proofs.YtjdjdoefppebkaaGreatDoor
open Go Go.Eng Go.RowKit Go.Proofs
theorem ZdB (a c:Int) (w:World):(Instr.typeAssert (Z2H a c) 20 210 true).run Tryz.prog w=.ok (.tuple #[.agg #[.int .i64 a,.int .i64 c],.bool true]) w:=by kernel_rfl
theorem ZdC (w:World):(Instr.typeAssert .nilIface 20 210 true).run Tryz.prog w=.ok (.tuple #[.agg #[.int .i64 0,.int .i64 0],.bool false]) w:=by kernel_rfl
theorem Z2c {w w':World} {b T:Nat} {cs:List Value} (hS:Stp [b] w w') (h:Blk w b T cs) (h':Blk w' b T cs):Stp [] w w':=
 ⟨hS.os, hS.tape, hS.output, hS.size, fun k hk _ => by
   by_cases hb:k=b
   subst hb
   rw [h,h']
   exact hS.block k hk (by simpa using hb)⟩
theorem ZdD (p:Option Addr) (l c:Nat) (w:World):(Instr.build 170 #[(0,.slice p l c)]).run Tryz.prog w=.ok (.agg #[.slice p l c,.int .i64 0,.int .i64 0]) w:=by kernel_rfl
end Go.Proofs.YtjdjdoefppebkaaGreatDoor
namespace Go.Eng
open Go Go.RowKit Go.Proofs
inductive PsE where
 | err (a c:Int)
 | ok (x:Nd)
def Z1f (s:Str):PsE:=
 match Z15 s with
 | .err a c=>.err a c
 | .ok l => match Z3N l 0 0 with
   | .err a c=>.err a c
   | .ok x i _=>if (cur l i).kind=0 then .ok x else .err (cur l i).pos 20
def zC:List Value:=[.int .i64 0,.int .i64 0,str [],.slice none 0 0]
theorem Z8M:∀ c∈zC,c.oneCell'=true:=by
 intro c hc
 simp only [zC,Xd,Xv,or_false] at hc
 rcases hc with rfl|rfl|rfl|rfl<;>rfl
theorem Z1M {P:Program} {w:World} {fn:Func} {a:Act} {t1 t2 t3 T1 T2 T3 b1 b2 b3 S1 S2 S3 m:Nat} {D1 D2 D3:TypeDesc} {c1:List Value} {v2 v3:Value} (hr:fn.results=#[.cell t1 T1,.cell t2 T2,.cell t3 T3]) [hu1:Und P T1 D1] [hs1:Siz P T1 m] [hu2:Und P T2 D2] [hu3:Und P T3 D3] (hA1:JA D1=true) (hA2:JA D2=false) (hA3:JA D3=false)
 (h1:a.tmps.getD t1 undef=.pointer (some ⟨b1,0,none⟩)) (h2:a.tmps.getD t2 undef=.pointer (some ⟨b2,0,none⟩)) (h3:a.tmps.getD t3 undef=.pointer (some ⟨b3,0,none⟩))
 (e1:Blk w b1 S1 c1) (hl1:c1.length=m) (e2:Blk w b2 S2 [v2]) (e3:Blk w b3 S3 [v3]):(results fn a.tmps).run P w=.ok (.tuple #[.agg c1.toArray,v2,v3]) w:=by
 rw [Array.getD_eq_getD_getElem?] at h1 h2 h3
 simp [results,hr,h1,h2,h3,asAddr,Z0Z hA1 e1 hl1,Z64 hA2 e2,Z64 hA3 e3]
theorem Z69 {P:Program} {n:Nat} {fn:Func} {R:Ending→World→Prop} {e:Env} {w:World} {t b T T' m s s2:Nat} {D:TypeDesc} {cs:List Value} {v v2:Value} (hr:fn.results=#[.cell t T',.tmp s,.tmp s2]) [hu:Und P T' D] (hA:JA D=true) [hs:Siz P T' m] (ht:look e t=some (.pointer (some ⟨b,0,none⟩))) (hb:Blk w b T cs) (hl:cs.length=m)
 (hv:look e s=some v) (hv2:look e s2=some v2) (h:R (.returned (.tuple #[.agg cs.toArray,v,v2])) w):WQ n (bodyPost P fn R) .ret e w:=
 ⟨fun a ha => ⟨ha.defers, .tuple #[.agg cs.toArray, v, v2], by
   have h1:=ha.vals _ _ ht
   have h2:=ha.vals _ _ hv
   have h3:=ha.vals _ _ hv2
   rw [Array.getD_eq_getD_getElem?] at h1 h2 h3
   simp [results,hr,h1,h2,h3,asAddr,Z0Z hA hb hl],h⟩⟩
end Go.Eng
namespace Go.Proofs.YtjdjdoefppebkaaGreatDoor
open Go Go.Eng Go.RowKit Go.Proofs
def ZjF (X:List Nat) (w':World) (r:Value):PsE→Prop
 | .err a c=>r=.tuple #[.agg zC.toArray,.int .i64 a,.int .i64 c]
 | .ok x=>∃ kv,r=.tuple #[.agg (ndC x kv).toArray,.int .i64 0,.int .i64 0]∧SlV X w' kv x.kids
theorem Z4l (a c:Int) (b7 b4 b5 b6:Nat) (c4:List Value) (v5 v6:Value) (w:World) (e7:Blk w b7 27 zC) (e4:Blk w b4 27 c4) (e5:Blk w b5 3 [v5]) (e6:Blk w b6 41 [v6])
 (h4:c4.length=4) (n74:b7≠b4) (n75:b7≠b5) (n76:b7≠b6) (n45:b4≠b5) (n46:b4≠b6) (n56:b5≠b6) :
 CallsD Tryz.prog 118 #[.pointer (some ⟨b7,0,none⟩),.pointer (some ⟨b4,0,none⟩),.pointer (some ⟨b5,0,none⟩),.pointer (some ⟨b6,0,none⟩)] (.panicking [⟨Z2H a c,false,false⟩]) w
  (fun e u' w'=>∃ v,e=.returned v∧(u'=.panicking [⟨Z2H a c,true,false⟩]∧Blk w' b4 27 zC∧Blk w' b5 3 [.int .i64 a]∧Blk w' b6 41 [.int .i64 c]∧Stp [b4,b5,b6] w w')):=by
 refine callsD_of_wpS Tryz.func118 rfl fun c₀ cs hu=>?_
 apply wpS_seq
 apply wpS_region
 simp [wpOpsS,go_sem,recoverD,hu,Tryz.ntmps118,Exit.thenS]
 refine Z62 (n:=22) (e:=[(0,.pointer (some ⟨b7,0,none⟩)),(1,.pointer (some ⟨b4,0,none⟩)),(2,.pointer (some ⟨b5,0,none⟩)),(3,.pointer (some ⟨b6,0,none⟩)),(4,Z2H a c)]) (Has.of rfl (by simp) (by
  intro p hp
  simp only [Xd,Xv,or_false] at hp
  rcases hp with rfl|rfl|rfl|rfl|rfl<;>kernel_rfl)) ?_
 refine W ?_
 refine Z7 (Z2I rfl (ZdB a c)) rfl ?_
 refine W ?_
 refine Z0 Z8 rfl ?_
 rintro _ w1 ⟨bf,rfl,hbf,ef,hT⟩
 refine Z1 (Z2 (us:=[.int .i64 a,.int .i64 c]) rfl rfl rfl rfl (by intro u hu;simp at hu;rcases hu with rfl|rfl<;>rfl) ef rfl) ?_
 rintro _ w2 ⟨hT2,ef'⟩
 have nf7:=e7.lt
 have nf4:=e4.lt
 have nf5:=e5.lt
 have nf6:=e6.lt
 have hS:=hT.own hT2 (fun c hc=>.inr (by simp at hc;omega))
 clear hT hT2 ef
 replace e7:=e7.up hS;replace e4:=e4.up hS;replace e5:=e5.up hS;replace e6:=e6.up hS
 refine W ?_
 refine ZDr 8 ([b4,b5,b6]) [] [(0,1),(1,0),(2,1),(3,0),(4,1),(5,2),(6,2),(7,2)] (fun w1 hS1=>?_)
 replace e7:=e7.up hS1;replace e4:=e4.up hS1;replace e5:=e5.up hS1;replace e6:=e6.up hS1
 replace ef':=ef'.up hS1
 replace hS:=hS.trans hS1
 clear hS1
 have m7:b7∉[b4,b5,b6]:=by simp;exact ⟨n74,n75,n76⟩
 have mf:bf∉[b4,b5,b6]:=by simp;omega
 refine Z1z rfl trivial rfl rfl e7 m7 rfl rfl ?_
 refine Jf rfl trivial rfl rfl ?_
 refine Jv rfl trivial rfl rfl ef' mf rfl rfl ?_
 refine Jf rfl trivial rfl rfl ?_
 refine Jv rfl trivial rfl rfl ef' mf rfl rfl ?_
 refine Z2m rfl trivial (Z2 (us:=zC) rfl rfl rfl rfl Z8M e4 h4.symm) (fun _ _ h=>h.1.mono (by simp)) ?_
 rintro _ w3 ⟨hT,e4'⟩
 replace e5:=e5.ext hT (by simpa using n45.symm)
 replace e6:=e6.ext hT (by simpa using n46.symm)
 replace hS:=(hS.mono (S':=[b4,b5,b6]) (by simp)).trans (hT.mono (by simp))
 clear hT
 refine Z2m rfl trivial (Z2 (us:=[.int .i64 a]) rfl rfl rfl rfl (by simp;rfl) e5 rfl) (fun _ _ h=>h.1.mono (by simp)) ?_
 rintro _ w4 ⟨hT,e5'⟩
 replace e4':=e4'.ext hT (by simpa using n45)
 replace e6:=e6.ext hT (by simpa using n56.symm)
 replace hS:=hS.trans (hT.mono (by simp))
 clear hT
 refine Z2m rfl trivial (Z2 (us:=[.int .i64 c]) rfl rfl rfl rfl (by simp;rfl) e6 rfl) (fun _ _ h=>h.1.mono (by simp)) ?_
 rintro _ w5 ⟨hT,e6'⟩
 replace e4':=e4'.ext hT (by simpa using n46)
 replace e5':=e5'.ext hT (by simpa using n56)
 replace hS:=hS.trans (hT.mono (by simp))
 refine Z1x ?_
 refine W ?_
 first|refine Z4y rfl ?_|refine Z4z rfl ?_
 exact ⟨⟨_,rfl⟩,rfl,e4',e5',e6',hS⟩
theorem Z7Y (b7 b4 b5 b6:Nat) (w:World) :
 CallsD Tryz.prog 118 #[.pointer (some ⟨b7,0,none⟩),.pointer (some ⟨b4,0,none⟩),.pointer (some ⟨b5,0,none⟩),.pointer (some ⟨b6,0,none⟩)] .returning w
  (fun e u' w'=>∃ v,e=.returned v∧(u'=.returning∧Stp [] w w')):=by
 refine callsD_of_wpS Tryz.func118 rfl fun c₀ cs hu=>?_
 have hc:c₀={ c₀ with mode:=.returning }:=by rw [← hu]
 apply wpS_seq
 apply wpS_region
 simp [wpOpsS,go_sem,recoverD,hu,Tryz.ntmps118,Exit.thenS]
 rw [hc]
 refine Z62 (n:=22) (e:=[(0,.pointer (some ⟨b7,0,none⟩)),(1,.pointer (some ⟨b4,0,none⟩)),(2,.pointer (some ⟨b5,0,none⟩)),(3,.pointer (some ⟨b6,0,none⟩)),(4,.nilIface)]) (Has.of rfl (by simp) (by
  intro p hp
  simp only [Xd,Xv,or_false] at hp
  rcases hp with rfl|rfl|rfl|rfl|rfl<;>kernel_rfl)) ?_
 refine W ?_
 refine Z7 (Z2I rfl ZdC) rfl ?_
 refine W ?_
 refine Z0 Z8 rfl ?_
 rintro _ w1 ⟨bf,rfl,hbf,ef,hT⟩
 refine Z1 (Z2 (us:=[.int .i64 0,.int .i64 0]) rfl rfl rfl rfl (by intro u hu;simp at hu;rcases hu with rfl|rfl<;>rfl) ef rfl) ?_
 rintro _ w2 ⟨hT2,ef'⟩
 have hS:=hT.own hT2 (fun c hc=>.inr (by simp at hc;omega))
 refine W ?_
 refine Ze6 ⟨_,rfl⟩ rfl rfl ?_
 refine W ?_
 first|refine Z4y rfl ?_|refine Z4z rfl ?_
 exact ⟨⟨_,rfl⟩,rfl,hS⟩
set_option maxHeartbeats 2000000 in
theorem Z8N (X:List Nat) (s:Str) (er:Value) (m:Int) (w:World) (hX:∀ c∈X,c<w.heap.size) (hLG:Z0b w) (hm:w.cell? ⟨2,0,none⟩=some (.int .i64 m)) (hv4:w.cell? ⟨5,0,none⟩=some er) (hev:er=.nilIface∨∃ te pe,er=.iface te pe) (hl:s.length≤1000000) :
 CC 63 #[str s,.func (.func 64) #[] #[]] w fun r w'=>ZjF X w' r (Z1f s)∧Stp [] w w':=by
 have h1w:2<w.heap.size:=by have:=block_lt_of_cell hm;simpa using this
 refine Z5D (n:=43) Tryz.func63 rfl rfl rfl ?_
 refine W ?_
 refine Z0 Z8 rfl ?_
 rintro _ w1 ⟨b4,rfl,hb4,e4,hS⟩
 refine W ?_
 refine Z0 Z8 rfl ?_
 rintro _ w2 ⟨b5,rfl,hb5,e5,hT⟩
 have n45:b4≠b5:=by have:=e4.lt;omega
 have g5:w.heap.size≤b5:=Xg hS.size hb5
 replace e4:=e4.up hT
 replace hS:=hS.trans hT
 refine W ?_
 refine Z0 Z8 rfl ?_
 rintro _ w3 ⟨b6,rfl,hb6,e6,hT⟩
 have n46:b4≠b6:=by have:=e4.lt;omega
 have n56:b5≠b6:=by have:=e5.lt;omega
 have g6:w.heap.size≤b6:=Xg hS.size hb6
 replace e4:=e4.up hT;replace e5:=e5.up hT
 replace hS:=hS.trans hT
 refine W ?_
 refine Z0 Z8 rfl ?_
 rintro _ w4 ⟨b7,rfl,hb7,e7,hT⟩
 have n74:b7≠b4:=by have:=e4.lt;omega
 have n75:b7≠b5:=by have:=e5.lt;omega
 have n76:b7≠b6:=by have:=e6.lt;omega
 replace e4:=e4.up hT;replace e5:=e5.up hT;replace e6:=e6.up hT
 replace hS:=hS.trans hT
 clear hT
 have g4:w.heap.size≤b4:=hb4
 have hlt4:∀ c∈[b4,b5,b6,b7],c<w4.heap.size:=fun c hc=>by
  simp only [Xd,Xv,or_false] at hc
  rcases hc with rfl|rfl|rfl|rfl
  exact e4.lt
  exact e5.lt
  exact e6.lt
  exact e7.lt
 refine W ?_
 refine CL rfl (Zk rfl) rfl (Z8L s er _ (hLG.up hS) (hS.cell (by simp) hv4) hev hl) ?_
 rintro r w5 ⟨hr,hT⟩
 replace e4:=e4.up hT;replace e5:=e5.up hT;replace e6:=e6.up hT;replace e7:=e7.up hT
 have hSo:=hS
 replace hS:=hS.trans hT
 clear hT
 have own3:∀ {S:List Nat},(∀ c∈S,c=b4∨c=b5∨c=b6)→∀ c∈S,c∈([]:List Nat)∨w.heap.size≤c:=fun h c hc=>by
  rcases h c hc with rfl|rfl|rfl
  exact .inr g4
  exact .inr g5
  exact .inr g6
 cases hK:Z15 s with
 | err a c=>
   rw [hK] at hr
   have hr':r=.tuple #[.slice none 0 0,.int .i64 a,.int .i64 c]:=hr
   subst hr'
   have hc0:=Z7X hK
   refine W ?_
   refine Z1 (Z2 (us:=[.int .i64 a]) rfl rfl rfl rfl (by simp;rfl) e5 rfl) ?_
   rintro _ w6 ⟨hT,e5'⟩
   replace e4:=e4.ext hT (by simpa using n45)
   replace e6:=e6.ext hT (by simpa using n56.symm)
   replace e7:=e7.ext hT (by simpa using n75)
   replace hS:=hS.own hT (own3 (by simp))
   refine W ?_
   refine Z1 (Z2 (us:=[.int .i64 c]) rfl rfl rfl rfl (by simp;rfl) e6 rfl) ?_
   rintro _ w7 ⟨hT2,e6'⟩
   replace e4:=e4.ext hT2 (by simpa using n46)
   replace e5':=e5'.ext hT2 (by simpa using n56)
   replace e7:=e7.ext hT2 (by simpa using n76)
   replace hS:=hS.own hT2 (own3 (by simp))
   clear hT hT2 e5 e6
   repeat'(first|refine W1 ?_|omega|refine VG ?_ ?_<;>intro hg|refine VC ?_ ?_<;>intro hc)
   refine ZDr 6 ([b4]) [] [(0,1),(1,1),(2,1),(3,2),(4,2),(5,2)] (fun w8 hS1=>?_)
   replace e7:=e7.up hS1;replace e4:=e4.up hS1;replace e5':=e5'.up hS1;replace e6':=e6'.up hS1
   replace hS:=hS.trans hS1
   clear hS1
   refine Z1z rfl trivial rfl rfl e7 (by simpa using n74) rfl rfl ?_
   refine Jv rfl trivial rfl rfl e5' (by simpa using n45.symm) rfl rfl ?_
   refine Jv rfl trivial rfl rfl e6' (by simpa using n46.symm) rfl rfl ?_
   refine Z2m rfl trivial (Z2 (us:=zC) rfl rfl rfl rfl Z8M e4 rfl) (fun _ _ h=>h.1) ?_
   rintro _ w9 ⟨hT,e4'⟩
   replace e5':=e5'.ext hT (by simpa using n45.symm)
   replace e6':=e6'.ext hT (by simpa using n46.symm)
   replace hS:=hS.own hT (own3 (by simp))
   clear hT e4 e7
   refine Z2m (G:=fun _ w'=>Stp [] w9 w') rfl trivial ((Z2 (us:=[.int .i64 a]) rfl rfl rfl rfl (by simp;rfl) e5' rfl).mono (fun _ _ h=>Z2c h.1 e5' h.2)) (fun _ _ h=>h.mono (by simp)) ?_
   intro _ w10 hT
   replace e4':=e4'.up hT;replace e5':=e5'.up hT;replace e6':=e6'.up hT
   replace hS:=hS.trans hT
   clear hT
   refine Z2m (G:=fun _ w'=>Stp [] w10 w') rfl trivial ((Z2 (us:=[.int .i64 c]) rfl rfl rfl rfl (by simp;rfl) e6' rfl).mono (fun _ _ h=>Z2c h.1 e6' h.2)) (fun _ _ h=>h.mono (by simp)) ?_
   intro _ w11 hT
   replace e4':=e4'.up hT;replace e5':=e5'.up hT;replace e6':=e6'.up hT
   replace hS:=hS.trans hT
   clear hT
   refine Z1x ?_
   refine W ?_
   refine ⟨fun act ha=>?_⟩
   show Leaves _ _ act.tmps _ act.defers .returning _
   rw [ha.defers]
   refine ⟨_,Z1M rfl rfl rfl rfl (ha.vals 4 _ rfl) (ha.vals 5 _ rfl) (ha.vals 6 _ rfl) e4' rfl e5' e6',?_⟩
   refine .mk ⟨?_,hS⟩
   unfold Z1f
   rw [hK]
   rfl
 | ok l=>
   rw [hK] at hr
   obtain ⟨tv,rfl,hrow⟩:∃ tv,r=.tuple #[tv,.int .i64 0,.int .i64 0]∧JZ 167 w4 w5 tv l:=hr
   obtain ⟨hL,-⟩:=Z6U hK
   have hts:SlV (α:=Tkn) [b4,b5,b6,b7] w5 tv l:=hrow.slv hlt4
   have hlp:=hL.pos
   have hll:l.length≤1000000:=by have:=hL.len;omega
   refine W ?_
   refine Z1 (Z2 (us:=[.int .i64 0]) rfl rfl rfl rfl (by simp;rfl) e5 rfl) ?_
   rintro _ w6 ⟨hT,e5'⟩
   replace e4:=e4.ext hT (by simpa using n45)
   replace e6:=e6.ext hT (by simpa using n56.symm)
   replace e7:=e7.ext hT (by simpa using n75)
   replace hts:=hts.ext (X':=[b4,b5,b6,b7]) hT (by simp) (fun _ h=>.inl h)
   replace hS:=hS.own hT (own3 (by simp))
   refine W ?_
   refine Z1 (Z2 (us:=[.int .i64 0]) rfl rfl rfl rfl (by simp;rfl) e6 rfl) ?_
   rintro _ w7 ⟨hT2,e6'⟩
   replace e4:=e4.ext hT2 (by simpa using n46)
   replace e5':=e5'.ext hT2 (by simpa using n56)
   replace e7:=e7.ext hT2 (by simpa using n76)
   replace hts:=hts.ext (X':=[b4,b5,b6,b7]) hT2 (by simp) (fun _ h=>.inl h)
   replace hS:=hS.own hT2 (own3 (by simp))
   clear hT hT2 e5 e6
   repeat'(first|refine W1 ?_|omega|refine VG ?_ ?_<;>intro hg|refine VC ?_ ?_<;>intro hc)
   refine Z7 (Z6O rfl rfl rfl rfl) rfl ?_
   refine ZbG rfl ?_
   refine Z3j (Z1H ?_)
   refine W ?_
   obtain ⟨tp,tc,htv⟩:=hts.len
   refine Z7 (Z1g (vs:=[(0,tv)]) rfl (by rw [htv];exact fun w=>ZdD _ _ _ w)) rfl ?_
   refine Z0 (Zl rfl) rfl ?_
   rintro _ w8 ⟨bp,rfl,hbp,ep,hT⟩
   have l4:=e4.lt
   have l5:=e5'.lt
   have l6:=e6'.lt
   have l7:=e7.lt
   have hXp:∀ c∈bp :: b4 :: b5 :: b6 :: b7 :: X,c<w8.heap.size:=fun c hc=>by
    have h8:=hT.size
    have hp:=ep.lt
    have h0:=hS.size
    simp only [Xd] at hc
    rcases hc with rfl|rfl|rfl|rfl|rfl|hc
    exact hp
    omega
    omega
    omega
    omega
    have:=hX c hc;omega
   have hpd:Pd w8 bp tv l 0 0:=⟨by rw [htv];exact ep,hts.ext hT (by simp) (fun c hc=>by simp at hc;subst hc;exact .inr hbp),hlp,hll,by omega⟩
   replace hts:=hts.ext (X':=[bp,b4,b5,b6,b7]) hT (by simp) (fun c hc=>by
    rcases Xd.1 hc with rfl|hc
    exact .inr hbp
    exact .inl hc)
   replace e4:=e4.up hT;replace e5':=e5'.up hT;replace e6':=e6'.up hT;replace e7:=e7.up hT
   replace hS:=hS.trans hT
   have gp:w.heap.size≤bp:=by have:=hS.size;omega
   have np4:b4≠bp:=by omega
   have np5:b5≠bp:=by omega
   have np6:b6≠bp:=by omega
   have np7:b7≠bp:=by omega
   clear hT
   refine Z7 (Z3C rfl) rfl ?_
   refine Z0h ?_
   refine Z3S (Z28 ?_)
   refine Z3j (Z1H ?_)
   refine Z7 (J2 rfl) rfl ?_
   refine Z7 (J2 rfl) rfl ?_
   have hP:=Za4 (bp :: b4 :: b5 :: b6 :: b7 :: X) bp tv l hL m 0 0 w8 (by omega) (by simp) hXp (hS.cell (by simp) hm) hpd
   cases hR:Z3N l 0 0 with
   | err a c=>
     rw [hR] at hP
     refine Z63 rfl (Zk rfl) hP rfl ?_
     intro w9 hT
     replace e4:=e4.ext hT (by simpa using np4)
     replace e5':=e5'.ext hT (by simpa using np5)
     replace e6':=e6'.ext hT (by simpa using np6)
     replace e7:=e7.ext hT (by simpa using np7)
     replace hS:=hS.own hT (fun c hc=>.inr (by simp at hc;omega))
     refine Z3S (Z29 ?_)
     refine ⟨fun act ha=>?_⟩
     show Leaves _ _ act.tmps _ (act.defers++_) (.panicking _) _
     rw [ha.defers]
     refine Z2Y (f:=118) (by simp) (Z4l a c b7 b4 b5 b6 _ _ _ w9 e7 e4 e5' e6' rfl n74 n75 n76 n45 n46 n56) ?_
     rintro v u' w10 ⟨rfl,e4',e5'',e6'',hT⟩
     refine ⟨rfl,_,Z1M rfl rfl rfl rfl (ha.vals 4 _ rfl) (ha.vals 5 _ rfl) (ha.vals 6 _ rfl) e4' rfl e5'' e6'',?_⟩
     refine .mk ⟨?_,hS.own hT (own3 (by simp))⟩
     unfold Z1f
     rw [hK]
     simp only [hR]
     rfl
   | ok x i' o'=>
     rw [hR] at hP
     refine CL rfl (Zk rfl) rfl hP ?_
     rintro rv w9 ⟨⟨kv,rfl,hkv⟩,hpd',hT⟩
     replace e4:=e4.ext hT (by simpa using np4)
     replace e5':=e5'.ext hT (by simpa using np5)
     replace e6':=e6'.ext hT (by simpa using np6)
     replace e7:=e7.ext hT (by simpa using np7)
     replace hts:=hts.ext (X':=[bp,b4,b5,b6,b7]) hT (by simp) (fun _ h=>.inl h)
     replace hS:=hS.own hT (fun c hc=>.inr (by simp at hc;omega))
     obtain ⟨ep',-,hil,-,ho'⟩:=hpd'
     refine Z1 (Z2 (us:=ndC x kv) rfl rfl rfl rfl (ZD hkv) e4 rfl) ?_
     rintro _ w10 ⟨hT,e4'⟩
     replace ep':=ep'.ext hT (by simpa using np4.symm)
     replace e5':=e5'.ext hT (by simpa using n45.symm)
     replace e6':=e6'.ext hT (by simpa using n46.symm)
     replace e7:=e7.ext hT (by simpa using n74)
     replace hts:=hts.ext (X':=[bp,b4,b5,b6,b7]) hT (by simp) (fun _ h=>.inl h)
     replace hkv:=hkv.ext (X':=bp :: b4 :: b5 :: b6 :: b7 :: X) hT (by simp) (fun _ h=>.inl h)
     replace hS:=hS.own hT (own3 (by simp))
     clear hT
     refine Z0h ?_
     refine Z3S (Z28 ?_)
     refine Z3j (Z3j ?_)
     refine Za5 12 [] [] [(0,0),(1,0),(2,0),(3,1),(4,0),(5,0),(6,0),(7,1),(8,0),(9,0),(10,1),(11,0)] rfl mixed (by kernel_rfl) (by kernel_rfl) (by kernel_rfl) (fun w1 hS1=>?_)
     replace e4':=e4'.up hS1;replace e5':=e5'.up hS1;replace e6':=e6'.up hS1;replace ep':=ep'.up hS1;replace e7:=e7.up hS1
     replace hts:=hts.up hS1
     replace hkv:=hkv.up hS1
     replace hS:=hS.trans hS1
     clear hS1
     refine D ?_
     refine W ?_
     refine Z3S (Z28 ?_)
     by_cases hk0:(cur l i').kind=0
     have hk0':=hk0
     rw [Z3O hil] at hk0'
     refine Z5c (by simp [ev,hk0'];rfl) (ZbF (Z28 (Z3j ?_)))
     refine Z1H ?_
     refine Z7 (Z0G rfl rfl e4' rfl) rfl ?_
     refine Z1 (G:=fun _ w'=>Stp [] w1 w') ((Z2 (us:=ndC x kv) rfl rfl rfl rfl (ZD hkv) e4' rfl).mono (fun _ _ h=>Z2c h.1 e4' h.2)) ?_
     intro _ w12 hT
     replace e4':=e4'.up hT;replace e5':=e5'.up hT;replace e6':=e6'.up hT;replace hkv:=hkv.up hT
     replace hS:=hS.trans hT
     clear hT
     refine Z1 (G:=fun _ w'=>Stp [] w12 w') ((Z2 (us:=[.int .i64 0]) rfl rfl rfl rfl (by simp;rfl) e5' rfl).mono (fun _ _ h=>Z2c h.1 e5' h.2)) ?_
     intro _ w13 hT
     replace e4':=e4'.up hT;replace e5':=e5'.up hT;replace e6':=e6'.up hT;replace hkv:=hkv.up hT
     replace hS:=hS.trans hT
     clear hT
     refine Z1 (G:=fun _ w'=>Stp [] w13 w') ((Z2 (us:=[.int .i64 0]) rfl rfl rfl rfl (by simp;rfl) e6' rfl).mono (fun _ _ h=>Z2c h.1 e6' h.2)) ?_
     intro _ w14 hT
     replace e4':=e4'.up hT;replace e5':=e5'.up hT;replace e6':=e6'.up hT;replace hkv:=hkv.up hT
     replace hS:=hS.trans hT
     clear hT
     refine Z0h ?_
     refine Z3S (Z28 (Zdu ?_))
     refine ⟨fun act ha=>?_⟩
     show Leaves _ _ act.tmps _ (act.defers++_) .returning _
     rw [ha.defers]
     refine Z2Y (f:=118) (by simp) (Z7Y b7 b4 b5 b6 w14) ?_
     rintro v u' w15 ⟨rfl,hT⟩
     refine ⟨rfl,_,Z1M rfl rfl rfl rfl (ha.vals 4 _ rfl) (ha.vals 5 _ rfl) (ha.vals 6 _ rfl) (e4'.up hT) rfl (e5'.up hT) (e6'.up hT),?_⟩
     have hM:Z1f s=.ok x:=by
      unfold Z1f
      rw [hK]
      simp only [hR]
      rw [if_pos hk0]
     rw [hM]
     exact .mk ⟨⟨kv,rfl,(hkv.up hT).ext (Stp.refl [] _) (by simp) (fun c hc=>.inl (by simp [hc]))⟩,hS.trans hT⟩
     have hk0':=hk0
     rw [Z3O hil] at hk0'
     have hpd2:Pd w1 bp tv l i' o':=⟨ep',hts.wk (by simp),hil,hll,ho'⟩
     refine Z5C (by simp [ev,hk0'];rfl) (Z1H ?_)
     refine Z7 (J2 rfl) rfl ?_
     refine Z63 rfl (Zb rfl rfl) (Z7F bp tv l i' o' 20 _ hpd2) rfl ?_
     intro w12 hT
     replace e4':=e4'.up hT;replace e5':=e5'.up hT;replace e6':=e6'.up hT;replace e7:=e7.up hT
     replace hS:=hS.trans hT
     refine Z3S (Z29 ?_)
     refine ⟨fun act ha=>?_⟩
     show Leaves _ _ act.tmps _ (act.defers++_) (.panicking _) _
     rw [ha.defers]
     refine Z2Y (f:=118) (by simp) (Z4l _ 20 b7 b4 b5 b6 _ _ _ w12 e7 e4' e5' e6' rfl n74 n75 n76 n45 n46 n56) ?_
     rintro v u' w13 ⟨rfl,e4',e5'',e6'',hT⟩
     refine ⟨rfl,_,Z1M rfl rfl rfl rfl (ha.vals 4 _ rfl) (ha.vals 5 _ rfl) (ha.vals 6 _ rfl) e4' rfl e5'' e6'',?_⟩
     have hM:Z1f s=.err (cur l i').pos 20:=by
      unfold Z1f
      rw [hK]
      simp only [hR]
      rw [if_neg hk0]
     rw [hM]
     exact .mk ⟨rfl,hS.own hT (own3 (by simp))⟩
theorem Zac (X:List Nat) (s:Str) (er:Value) (m:Int) (w:World) (hX:∀ c∈X,c<w.heap.size) (hLG:Z0b w) (hm:w.cell? ⟨2,0,none⟩=some (.int .i64 m)) (hv4:w.cell? ⟨5,0,none⟩=some er) (hev:er=.nilIface∨∃ te pe,er=.iface te pe) (hl:s.length≤1000000) :
 CC 23 #[str s] w fun r w'=>ZjF X w' r (Z1f s)∧Stp [] w w':=by
 refine cW1 10 Tryz.func23 ?_
 refine W ?_
 refine Z0 Z8 rfl ?_
 rintro _ w1 ⟨b2,rfl,hb2,k2,hS⟩
 have hXb:∀ c∈b2 :: X,c<w1.heap.size:=fun c hc=>by
  rcases Xd.1 hc with rfl|hc
  exact k2.lt
  exact Xb (hX c hc) hS.size
 refine W ?_
 refine CL rfl (Zb rfl rfl) rfl (Z8N (b2 :: X) s er m w1 hXb (hLG.up hS) (hS.cell (by simp) hm) (hS.cell (by simp) hv4) hev hl) ?_
 rintro r w2 ⟨hr,hT⟩
 replace k2:=k2.up hT
 replace hS:=hS.trans hT
 clear hT
 cases hK:Z1f s with
 | err a c=>
   rw [hK] at hr
   have hr':r=.tuple #[.agg zC.toArray,.int .i64 a,.int .i64 c]:=hr
   subst hr'
   refine W ?_
   refine Z1 (Z2 (us:=zC) rfl rfl rfl rfl Z8M k2 rfl) ?_
   rintro _ w3 ⟨hT,k2⟩
   refine W ?_
   refine Z69 rfl rfl rfl k2 rfl rfl rfl ?_
   exact .mk ⟨rfl,hS.own hT (fun c hc=>.inr (by simp at hc;omega))⟩
 | ok x=>
   rw [hK] at hr
   obtain ⟨kv,rfl,hkv⟩:=hr
   refine W ?_
   refine Z1 (Z2 (us:=ndC x kv) rfl rfl rfl rfl (ZD hkv) k2 rfl) ?_
   rintro _ w3 ⟨hT,k2⟩
   refine W ?_
   refine Z69 rfl rfl rfl k2 rfl rfl rfl ?_
   exact .mk ⟨⟨kv,rfl,hkv.ext hT (by simp) (fun c hc=>.inl (by simp [hc]))⟩,hS.own hT (fun c hc=>.inr (by simp at hc;omega))⟩
end Go.Proofs.YtjdjdoefppebkaaGreatDoor
namespace Go.Eng
open Go
end Go.Eng
namespace Go.Proofs.YtjdjdoefppebkaaGreatDoor
open Go Go.Eng Go.RowKit
def JK (x:Ins):List Int×List Int×List Int×Bool:=
 if x.op=1 then ([],[],[1],decide (-2147483647≤x.n∧x.n≤2147483647))
 else if x.op=2 then ([],[],[2],decide (x.n=0∨x.n=1))
 else if x.op=3 then ([],[],[3],decide (0≤x.n∧x.n≤3652058))
 else if x.op=4 then ([],[],[if x.n=0∨x.n=1 then 3 else 1],decide (0≤x.n∧x.n<7))
 else if x.op=13 then ([],[],[],true)
 else if x.op=14 then ([2],[],[],true)
 else if x.op=5∨x.op=6∨x.op=7 then ([1,1],[],[1],decide (x.n=0))
 else if x.op=8 then ([1],[],[1],decide (x.n=0))
 else if x.op=9∨x.op=10∨x.op=11 then ([1,1],[3,3],[2],decide (x.n=0))
 else if x.op=12 then ([2],[],[2],decide (x.n=0))
 else if x.op=15∨x.op=16∨x.op=17∨x.op=18 then ([3,1],[],[3],decide (x.n=0))
 else if x.op=19∨x.op=20 then ([3],[],[3],decide (x.n=0))
 else if x.op=21∨x.op=22 then ([3,3],[],[3],decide (x.n=0))
 else if x.op=23 then ([3,3],[],[1],decide (x.n=0))
 else if x.op=24 then ([],[],[],decide (x.n=0))
 else ([],[],[],false)
abbrev Shp:=List Int
def Z2d (x:Ins) (s:Shp):Option Shp:=
 let e:=JK x
 let k:=s.length - e.1.length
 if e.2.2.2=true∧e.1.length≤s.length∧(s.drop k=e.1∨e.2.1≠[]∧s.drop k=e.2.1)∧(s.take k++e.2.2.1).length≤16 then some (s.take k++e.2.2.1) else none
open Go Go.Eng Go.RowKit Go.Proofs Go.ChangeShapes Go.WideShapes Go.Deep
theorem ZkN:ownKnob Tryz.prog.godebug=none:=by kernel_rfl
theorem ZjG:laidOutB Tryz.prog=true:=by kernel_rfl
section
variable {H:Type} {enc:TypeId×Value→H} {w:World} {base:Nat} {spare:Nat→Bool} {held:Bool}
set_option maxRecDepth 100000 in
theorem ZjH {r:Reach} {b0:Nat} {v:Value} {d:DataW H} {p:List MemPlace} (hv:Value.okWide Tryz.prog w r b0 3 v) (h:DataW.Trod enc Tryz.prog w base spare held 3 v d p):∃ z:Int,v=.int .i64 z∧I64 z:=by
 obtain ⟨z,rfl,_,_,hw⟩:=open_int Tryz.underlying3 hv h
 exact ⟨z,rfl,by simpa [I64,Lit.wf,IntKind.min,IntKind.max,IntKind.signed,IntKind.bits] using hw⟩
end
end Go.Proofs.YtjdjdoefppebkaaGreatDoor
namespace Go.Eng
open Go Go.RowKit
variable {X:List Nat} {w w':World} {base T:Nat} {v:Value} {zs ys:List Int}
def ZbT (w:World) (base T:Nat) (v:Value) (zs:List Int):Prop:=(v=.slice none 0 0∧zs=[])∨∃ g cap cur,v=.slice (some ⟨g,0,none⟩) zs.length cap∧base≤g∧w.heap[g]?=some (.cells cur T (0,0))∧zs.length≤cap∧cap≤maxLen∧cur.size=cap∧cur.toList.take zs.length=zs.map (Value.int .i64)
theorem Row.toI (h:Row X w base T v zs):ZbT w base T v zs:=by
 obtain ⟨css,hl,hr,hx,ho⟩:=h
 have hc:css=zs.map (fun x=>[Value.int .i64 x]):=by
  apply Yaq (by simpa using hl)
  intro i h1 h2
  have:css[i]=[Value.int .i64 zs[i]]:=hr i (by omega) h1
  simp [this]
 rcases ho with ⟨rfl,hn⟩|⟨g,cap,cur,rfl,hb,hg,hnc,hcm,hcs,ht⟩
 exact .inl ⟨rfl,Xx.1 hn⟩
 · refine .inr ⟨g,cap,cur,rfl,hb,hg,hnc,hcm,by simpa [Z4.k,Z5.k] using hcs,?_⟩
   have h2:cur.toList.take (zs.length * 1)=css.flatten:=ht
   rw [Nat.mul_one] at h2
   rw [h2,hc]
   clear h2 ht hx hr hl hc hnc hg hcs
   induction zs with
   | nil=>rfl
   | cons a l ih=>simp at ih ⊢;exact ih
theorem ZbT.toRow (h:ZbT w base T v zs):Row X w base T v zs:=by
 rcases h with ⟨rfl,rfl⟩|⟨g,cap,cur,rfl,hb,hg,hnc,hcm,hcs,ht⟩
 exact Row.nil
 · refine ⟨zs.map (fun x=>[Value.int .i64 x]),by simp,fun i h1 h2=>by simp;rfl,?_⟩
   have hf:(zs.map (fun x=>[Value.int .i64 x])).flatten=zs.map (Value.int .i64):=by
    clear ht hnc
    induction zs with
    | nil=>rfl
    | cons a l ih=>simp at ih ⊢;exact ih
   rw [hf]
   refine ⟨by simp [Z4.k,Z5.k],.inr ⟨g,cap,cur,rfl,hb,hg,hnc,hcm,by simpa [Z4.k,Z5.k] using hcs,by simpa [Z4.k,Z5.k] using ht⟩⟩
theorem Z6V {zs:List Int} (hs:zs.Pairwise (·≤·)):(Lib.compact zs).Pairwise (· < ·)∧∀ y,y∈Lib.compact zs↔y∈zs:=by
 have hd:∀ i j,i≤j→j<zs.length→zs.toArray[i]!≤zs.toArray[j]!:=by
  intro i j hij hj
  rcases Nat.lt_or_eq_of_le hij with h|rfl
  have:=Yae.1 hs i j (by omega) hj h
  simpa [getElem!_pos,hj,show i<zs.length by omega] using this
  exact Yac _
 have key:∀ m,m≤zs.length→(Lib.compactUpTo zs.toArray m).Pairwise (· < ·)∧∀ y,y∈Lib.compactUpTo zs.toArray m↔∃ i,i<m∧y=zs.toArray[i]!:=by
  intro m
  induction m with
  | zero=>intro _;refine ⟨by simp [Lib.compactUpTo],fun y=>by simp [Lib.compactUpTo]⟩
  | succ m ih=>
    intro hm
    obtain ⟨i1,i2⟩:=ih (by omega)
    rw [Lib.compactUpTo_succ]
    by_cases hk:Lib.keeps zs.toArray m=true
    rw [if_pos hk]
    refine ⟨Yad.2 ⟨i1,List.pairwise_singleton _ _,fun a ha b hb=>?_⟩,fun y=>?_⟩
    obtain ⟨i,hi,rfl⟩:=(i2 a).1 ha
    rw [Xp.1 hb]
    have hk':m=0∨zs.toArray[m]!≠zs.toArray[m - 1]!:=by simpa [Lib.keeps] using hk
    have h1:=hd i (m - 1) (by omega) (by omega)
    have h2:=hd (m - 1) m (by omega) (by omega)
    have h3:=hk'.resolve_left (by omega)
    omega
    rw [Xt,i2,Xp]
    constructor
    rintro (⟨i,hi,rfl⟩|rfl)
    exact ⟨i,by omega,rfl⟩
    exact ⟨m,by omega,rfl⟩
    rintro ⟨i,hi,rfl⟩
    by_cases hi':i<m
    exact .inl ⟨i,hi',rfl⟩
    exact .inr (by rw [show i=m by omega])
    rw [if_neg hk,XL]
    have hk':¬ (m=0∨zs.toArray[m]!≠zs.toArray[m - 1]!):=by simpa [Lib.keeps] using hk
    have hm0:m≠0:=fun h=>hk' (.inl h)
    have he:zs.toArray[m]! = zs.toArray[m - 1]!:=Decidable.byContradiction fun h=>hk' (.inr h)
    refine ⟨i1,fun y=>?_⟩
    rw [i2]
    constructor
    rintro ⟨i,hi,rfl⟩
    exact ⟨i,by omega,rfl⟩
    rintro ⟨i,hi,rfl⟩
    by_cases hi':i<m
    exact ⟨i,hi',rfl⟩
    exact ⟨m - 1,by omega,by rw [show i=m by omega,he]⟩
 obtain ⟨h1,h2⟩:=key zs.length (Xk _)
 refine ⟨h1,fun y=>?_⟩
 show y∈Lib.compactUpTo zs.toArray zs.length↔_
 rw [h2]
 constructor
 rintro ⟨i,hi,rfl⟩
 simp [getElem!_pos,hi]
 intro h
 obtain ⟨i,hi,rfl⟩:=Xj h
 exact ⟨i,hi,by simp [getElem!_pos,hi]⟩
def Z5n (zs:List Int):List Int:=Lib.compact (zs.mergeSort fun x y=>decide (x≤y))
theorem Z8O (zs:List Int):(Z5n zs).Pairwise (· < ·)∧∀ y,y∈Z5n zs↔y∈zs:=by
 have hp:(zs.mergeSort fun x y=>decide (x≤y)).Pairwise (·≤·):=by
  have:=List.pairwise_mergeSort (le:=fun (x y:Int)=>decide (x≤y)) (fun a b c h1 h2=>by simp at *;omega) (fun a b=>by simp;omega) zs
  exact this.imp (fun h=>by simpa using h)
 obtain ⟨h1,h2⟩:=Z6V hp
 exact ⟨h1,fun y=>by unfold Z5n;rw [h2];exact (List.mergeSort_perm zs _).mem_iff⟩
theorem Z7Z {g q:Nat} {cur:Array Value} (os:Array Obj) (h:w.heap[g]?=some (.cells cur T (0,0))) (hl:ys.length≤cur.size) :
 Stp [g] w (Go.Sort.grow (Go.Sort.putRow (Value.int .i64) (Go.Sort.ahead w q) g 0 ys.toArray) os)∧
 ∃ cur',(Go.Sort.grow (Go.Sort.putRow (Value.int .i64) (Go.Sort.ahead w q) g 0 ys.toArray) os).heap[g]?=some (.cells cur' T (0,0))∧cur'.size=cur.size∧cur'.toList.take ys.length=ys.map (Value.int .i64):=by
 have hlt:g<w.heap.size:=(Array.getElem?_eq_some_iff.1 h).1
 have hh:(Go.Sort.grow (Go.Sort.putRow (Value.int .i64) (Go.Sort.ahead w q) g 0 ys.toArray) os).heap=w.heap.modify g (Go.Sort.onCells (Go.Sort.putCells (Value.int .i64) 0 ys.toArray))++os:=rfl
 refine ⟨⟨rfl,rfl,rfl,by rw [hh];simp,fun b hb hn=>?_⟩,Go.Sort.putCells (Value.int .i64) 0 ys.toArray cur,?_,by simp [Go.Sort.putCells],?_⟩
 rw [hh,Array.getElem?_append_left (by simpa using hb),Array.getElem?_modify,if_neg (by simp at hn;exact fun e=>hn e.symm)]
 rw [hh,Array.getElem?_append_left (by simpa using hlt),Array.getElem?_modify,if_pos rfl,h]
 rfl
 apply Yaq
 simp [Go.Sort.putCells];omega
 intro i h1 h2
 have hi:i<ys.length:=by simpa using h2
 simp [Go.Sort.putCells,hi]
theorem Z6a {g:Nat} {cur:Array Value} (h:w.heap[g]?=some (.cells cur T (0,0))) (ht:cur.toList.take zs.length=zs.map (Value.int .i64)):Go.Sort.Holds (Value.int .i64) w g 0 zs.toArray:=by
 intro j hj
 have hj':j<zs.length:=by simpa using hj
 have hc:cur[j]?=some (.int .i64 zs[j]):=by
  have h1:(cur.toList.take zs.length)[j]?=some (.int .i64 zs[j]):=by rw [ht];simp [hj']
  rw [List.getElem?_take,if_pos hj'] at h1
  simpa using h1
 constructor
 simp [World.cell?,h,hc,hj']
 simp [World.frozen?,h]
end Go.Eng
namespace Go.Proofs.YtjdjdoefppebkaaGreatDoor
open Go Go.Eng Go.RowKit
theorem ZbU {X:List Nat} {base T:Nat} {v:Value} {zs:List Int} (w:World) (h:Row X w base T v zs) (hsz:zs.length<4611686018427387904) :
 CC 82 #[v] w fun r w'=>r=.tuple #[]∧Row X w' base T v (zs.mergeSort fun x y=>decide (x≤y))∧Stp (ob v) w w':=by
 rcases h.toI with ⟨rfl,rfl⟩|⟨g,cap,cur,rfl,hb,hg,hnc,hcm,hcs,ht⟩
 refine (Tryz.slices_Sort_int_none none 0 w).mono ?_
 rintro _ _ ⟨rfl,rfl⟩
 exact .mk ⟨rfl,by simpa using Row.nil,Stp.refl _ _⟩
 have hlt:g<w.heap.size:=(Array.getElem?_eq_some_iff.1 hg).1
 refine (Tryz.slices_Sort_int g 0 cap zs w (Z6a hg ht) hlt hsz).mono ?_
 rintro _ _ ⟨rfl,q,os,rfl⟩
 have hl:(zs.mergeSort fun x y=>decide (x≤y)).length=zs.length:=List.length_mergeSort zs
 obtain ⟨hS,cur',h1,h2,h3⟩:=Z7Z (q:=q) os hg (ys:=zs.mergeSort fun x y=>decide (x≤y)) (by omega)
 refine .mk ⟨rfl,ZbT.toRow (.inr ⟨g,cap,cur',by rw [hl],hb,h1,by omega,hcm,by omega,h3⟩),hS⟩
theorem Z80 {X:List Nat} {base T:Nat} {v:Value} {zs:List Int} (w:World) (h:Row X w base T v zs) (hsz:zs.length≤9223372036854775807) :
 CC 83 #[v] w fun r w'=>Row X w' base T r (Lib.compact zs)∧Stp (ob v) w w'∧ob r=ob v:=by
 rcases h.toI with ⟨rfl,rfl⟩|⟨g,cap,cur,rfl,hb,hg,hnc,hcm,hcs,ht⟩
 refine (Tryz.slices_Compact_int_empty none 0 w).mono ?_
 rintro _ _ ⟨rfl,rfl⟩
 exact .mk ⟨by rw [show Lib.compact ([]:List Int)=[] from rfl];exact Row.nil,Stp.refl _ _,rfl⟩
 refine (Tryz.slices_Compact_int g 0 cap zs w (Z6a hg ht) hsz hnc).mono ?_
 rintro _ _ ⟨rfl,q,rfl⟩
 have hcl:(Lib.compact zs).length≤zs.length:=by
  unfold Lib.compact Lib.compactUpTo
  rw [Yaw]
  exact Xg (X0 _ _) (by simp)
 have e:∀ W:World,W=Go.Sort.grow W #[]:=fun W=>by simp [Go.Sort.grow]
 rw [e (Go.Sort.putRow _ _ _ _ _)]
 obtain ⟨hS,cur',h1,h2,h3⟩:=Z7Z (q:=q) #[] hg (ys:=Lib.compact zs++List.replicate (zs.length - (Lib.compact zs).length) 0) (by simp;omega)
 refine .mk ⟨ZbT.toRow (.inr ⟨g,cap,cur',rfl,hb,h1,by omega,hcm,by omega,?_⟩),hS,rfl⟩
 have h4:=congrArg (List.take (Lib.compact zs).length) h3
 rw [XR,XO (by simp)] at h4
 rw [h4]
 simp
theorem Z8P (s:Str) (y:Int):((ZZ s).2.2=true∧y=(ZZ s).1)↔∃ i,i<7∧s=Zj.getD i []∧y=(i:Int):=by
 by_cases h0:s=[100,97,121]
 subst h0
 have e:ZZ [100,97,121]=(0,3,true):=by decide +kernel
 have u:∀ i,i<7→[100,97,121]=Zj.getD i []→i=0:=by decide +kernel
 rw [e]
 constructor
 rintro ⟨-,rfl⟩;exact ⟨0,by decide,by decide +kernel,rfl⟩
 rintro ⟨i,hi,he,rfl⟩;rw [u i hi he];exact ⟨rfl,rfl⟩
 by_cases h1:s=[115,101,114,118,101,100]
 subst h1
 have e:ZZ [115,101,114,118,101,100]=(1,3,true):=by decide +kernel
 have u:∀ i,i<7→[115,101,114,118,101,100]=Zj.getD i []→i=1:=by decide +kernel
 rw [e]
 constructor
 rintro ⟨-,rfl⟩;exact ⟨1,by decide,by decide +kernel,rfl⟩
 rintro ⟨i,hi,he,rfl⟩;rw [u i hi he];exact ⟨rfl,rfl⟩
 by_cases h2:s=[101,120,116,114,97]
 subst h2
 have e:ZZ [101,120,116,114,97]=(2,1,true):=by decide +kernel
 have u:∀ i,i<7→[101,120,116,114,97]=Zj.getD i []→i=2:=by decide +kernel
 rw [e]
 constructor
 rintro ⟨-,rfl⟩;exact ⟨2,by decide,by decide +kernel,rfl⟩
 rintro ⟨i,hi,he,rfl⟩;rw [u i hi he];exact ⟨rfl,rfl⟩
 by_cases h3:s=[98,121]
 subst h3
 have e:ZZ [98,121]=(3,1,true):=by decide +kernel
 have u:∀ i,i<7→[98,121]=Zj.getD i []→i=3:=by decide +kernel
 rw [e]
 constructor
 rintro ⟨-,rfl⟩;exact ⟨3,by decide,by decide +kernel,rfl⟩
 rintro ⟨i,hi,he,rfl⟩;rw [u i hi he];exact ⟨rfl,rfl⟩
 by_cases h4:s=[116,111]
 subst h4
 have e:ZZ [116,111]=(4,1,true):=by decide +kernel
 have u:∀ i,i<7→[116,111]=Zj.getD i []→i=4:=by decide +kernel
 rw [e]
 constructor
 rintro ⟨-,rfl⟩;exact ⟨4,by decide,by decide +kernel,rfl⟩
 rintro ⟨i,hi,he,rfl⟩;rw [u i hi he];exact ⟨rfl,rfl⟩
 by_cases h5:s=[99,111,117,114,116]
 subst h5
 have e:ZZ [99,111,117,114,116]=(5,1,true):=by decide +kernel
 have u:∀ i,i<7→[99,111,117,114,116]=Zj.getD i []→i=5:=by decide +kernel
 rw [e]
 constructor
 rintro ⟨-,rfl⟩;exact ⟨5,by decide,by decide +kernel,rfl⟩
 rintro ⟨i,hi,he,rfl⟩;rw [u i hi he];exact ⟨rfl,rfl⟩
 by_cases h6:s=[97,109,111,117,110,116]
 subst h6
 have e:ZZ [97,109,111,117,110,116]=(6,1,true):=by decide +kernel
 have u:∀ i,i<7→[97,109,111,117,110,116]=Zj.getD i []→i=6:=by decide +kernel
 rw [e]
 constructor
 rintro ⟨-,rfl⟩;exact ⟨6,by decide,by decide +kernel,rfl⟩
 rintro ⟨i,hi,he,rfl⟩;rw [u i hi he];exact ⟨rfl,rfl⟩
 constructor
 rintro ⟨h,-⟩
 exfalso
 have hn:Zj.findIdx? (isS s)=none:=List.findIdx?_eq_none_iff.2 fun x hx=>by
  simp only [Zj,Xd,Xv,or_false] at hx
  rcases hx with rfl|rfl|rfl|rfl|rfl|rfl|rfl<;>simp only [isS,decide_eq_false_iff_not]<;>intro e<;>first|exact (absurd e h0)|exact (absurd e.symm h0)|exact (absurd e h1)|exact (absurd e.symm h1)|exact (absurd e h2)|exact (absurd e.symm h2)|exact (absurd e h3)|exact (absurd e.symm h3)|exact (absurd e h4)|exact (absurd e.symm h4)|exact (absurd e h5)|exact (absurd e.symm h5)|exact (absurd e h6)|exact (absurd e.symm h6)|skip
 simp [ZZ,idx,hn] at h
 · rintro ⟨i,hi,he,-⟩
   exfalso
   match i,hi with
   | 0,_=>exact h0 he
   | 1,_=>exact h1 he
   | 2,_=>exact h2 he
   | 3,_=>exact h3 he
   | 4,_=>exact h4 he
   | 5,_=>exact h5 he
   | 6,_=>exact h6 he
theorem Z6b {x y:Nd} (h:Zr x≠0) (hy:y∈x.kids):Zr y≠0:=by
 intro h0
 apply h
 rw [Z4W]
 unfold Z12
 split
 rfl
 rw [if_pos (by rw [← h0];exact Yag hy)]
def Z4m (b:Nat):List Ins→Shp→Option Shp
 | [],s=>some s
 | x :: r, s => match Z2d x s with
   | none=>none
   | some s'=>if s'.length≤b then Z4m b r s' else none
theorem Z8Q {x:Ins} {ts r s:Shp} (h:Z2d x ts=some r) (hl:s.length+r.length≤16):Z2d x (s++ts)=some (s++r):=by
 unfold Z2d at h ⊢
 dsimp only at h ⊢
 split at h
 rename_i hc
 obtain ⟨c1,c2,c3,c4⟩:=hc
 simp only [Xc] at h
 have e1:(s++ts).length - (JK x).1.length=s.length+(ts.length - (JK x).1.length):=by rw [Xh];omega
 have e2:(s++ts).drop (s.length+(ts.length - (JK x).1.length))=ts.drop (ts.length - (JK x).1.length):=by
  rw [List.drop_append,List.drop_of_length_le (by omega),XK]
  congr 1
  omega
 have e3:(s++ts).take (s.length+(ts.length - (JK x).1.length))=s++ts.take (ts.length - (JK x).1.length):=by
  rw [X6,Xn (by omega),show s.length+(ts.length - (JK x).1.length) - s.length=ts.length - (JK x).1.length by omega]
 rw [e1,e2,e3]
 have e4:s++ts.take (ts.length - (JK x).1.length)++(JK x).2.2.1=s++r:=by rw [Xr,h]
 rw [e4,if_pos ⟨c1,by rw [Xh];omega,c3,by rw [Xh];omega⟩]
 cases h
theorem ZdE {x:Sig} (h:Z3G x≠0):(x,Value.int .i64 (Z3G x))∈Z3b:=by
 have hs:=Zbd x
 unfold Z3G Zbb Z3E at *
 cases hf:Z3b.find? (fun p=>decide (p.1=x)) with
 | none=>rw [hf] at h;simp at h
 | some p=>
   have h1:=List.mem_of_find?_eq_some hf
   have h2:=List.find?_some hf
   simp only [decide_eq_true_eq] at h2
   rw [hf] at hs
   simp only at hs ⊢
   rw [← hs,← h2]
   exact h1
theorem Zad {x:Sig} (h:Z3G x≠0):∃ e∈Z3b,x=e.1∧e.2=.int .i64 (Z3G x):=⟨_,ZdE h,rfl,rfl⟩
theorem Ze7 {ts:List Int} (h0:(0:Int)∉ts) (h3:ts.length≤3) (hn:ts≠[]) (h2:ts.getD 2 0=0):(ts.getD 1 0=0∧ts=[ts.getD 0 0])∨(ts.getD 1 0≠0∧ts=[ts.getD 0 0,ts.getD 1 0]):=by
 match ts,h3 with
 | [],_=>exact absurd rfl hn
 | [a],_=>left;exact ⟨rfl,rfl⟩
 | [a,b],_=>right;refine ⟨fun hb=>h0 ?_,rfl⟩;simp at hb;simp [hb]
 | [a,b,c],_=>exact absurd (by simp at h2;simp [h2]) h0
theorem Z81 {k n:Int} {s:Str} {ts:List Int} (h:Z12 k n s ts≠0) :
 (ts=[]∧Z12 k n s ts=Z48 k n s)∨
 ((0:Int)∉ts∧ts.length≤3∧ts≠[]∧((k=9∧ts=[2,Z12 k n s ts,Z12 k n s ts])∨(k=6∧ts.getD 2 0=0∧Z12 k n s ts=Zbc s (ts.getD 0 0) (ts.getD 1 0))∨(Z12 k n s ts=Z3G ⟨k,s,ts.getD 0 0,ts.getD 1 0,ts.getD 2 0⟩))):=by
 unfold Z12 at h ⊢
 split at h
 exact absurd rfl h
 rename_i h3
 split at h
 exact absurd rfl h
 rename_i h0
 rw [if_neg h3,if_neg h0]
 split at h
 rename_i he
 left
 exact ⟨he,by rw [if_pos he]⟩
 rename_i he
 right
 rw [if_neg he]
 refine ⟨h0,by omega,he,?_⟩
 split at h
 exact absurd rfl h
 rename_i hn
 rw [if_neg hn]
 split at h
 · rename_i h9
   left
   rw [if_pos h9]
   refine ⟨h9.1,?_⟩
   obtain ⟨_,_,e2,e3⟩:=h9
   match ts,h3 with
   | [],_=>exact absurd rfl he
   | [a],_=>simp at e2 e3 h
   | [a,b],_=>simp at e2 e3 h;exact absurd e3 h
   | [a,b,c],_=>simp at e2 e3 ⊢;exact ⟨e2,e3.symm⟩
   | a :: b :: c :: d :: r,h3=>simp at h3
 rename_i h9
 rw [if_neg h9]
 split at h
 rename_i h6
 right;left
 rw [if_pos h6]
 exact ⟨h6.1,h6.2,rfl⟩
 rename_i h6
 right;right
 rw [if_neg h6]
theorem Z9v {α:Type} {l:List α} (h:l.length=2):∃ a b,l=[a,b]:=by
 match l,h with
 | [a,b],_=>exact ⟨a,b,rfl⟩
theorem ZdF {α:Type} {l:List α} (h:l.length=3):∃ a b c,l=[a,b,c]:=by
 match l,h with
 | [a,b,c],_=>exact ⟨a,b,c,rfl⟩
def Zhz (k:Int) (s:Str):List Ins:=(if k=8∨k=5∧s=[45] then [⟨8,0⟩] else [])++ZlB (opF s)
def okL (L:List Ins) (ts:List Int) (t:Int):Bool:=decide (L≠[]) && L.all (fun x=>decide (x.op≠24∧x.op≠13∧x.op≠14)) && decide (Z4m 2 L ts=some [t])
theorem ZbV {L:List Ins} {ts:List Int} {t:Int} (h:okL L ts t=true):L≠[]∧(∀ x∈L,x.op≠24∧x.op≠13∧x.op≠14)∧Z4m 2 L ts=some [t]:=by
 unfold okL at h
 simp only [Xf,decide_eq_true_eq,XC] at h
 exact ⟨h.1.1,h.1.2,h.2⟩
end Go.Proofs.YtjdjdoefppebkaaGreatDoor
namespace Go.Eng
open Go Go.RowKit Go.Proofs
def Z0c (y:Int):Int:=365 * (y - 1)+(y - 1) / 4 - (y - 1) / 100+(y - 1) / 400
def Z0X (y:Int):Nat→Int
 | 0=>0
 | k+1=>Z0X y k+Zs y ((k:Int)+1)
theorem Z6c (y:Int):JY y=true↔(y % 4=0∧(¬ y % 100=0∨y % 400=0)):=by
 unfold JY
 simp
theorem Z4n (y:Int):Z0c (y+1)=Z0c y+(if JY y=true then 366 else 365):=by
 unfold Z0c
 have h:=Z6c y
 by_cases hl:JY y=true
 rw [if_pos hl]
 have:=h.1 hl
 omega
 rw [if_neg hl]
 have:¬ (y % 4=0∧(¬ y % 100=0∨y % 400=0)):=fun h'=>hl (h.2 h')
 omega
theorem Z2e {a b:Int} (h:a≤b):Z0c a≤Z0c b:=by
 unfold Z0c;omega
theorem Z17 {y:Int} {k:Nat} (hk:k<12):28≤Zs y ((k:Int)+1):=by
 unfold Zs
 rw [if_neg (by omega)]
 repeat' split
 all_goals omega
theorem ZdG (y:Int):∀ k:Nat,k≤11→Z0X y k=(if k<2 then 31 * (k:Int) else (if JY y=true then 1 else 0)+(153 * ((k:Int) - 2)+2) / 5+59):=by
 intro k hk
 have:k=0∨k=1∨k=2∨k=3∨k=4∨k=5∨k=6∨k=7∨k=8∨k=9∨k=10∨k=11:=by omega
 rcases this with rfl|rfl|rfl|rfl|rfl|rfl|rfl|rfl|rfl|rfl|rfl|rfl<;>simp [Z0X,Zs]<;>cases JY y<;>simp
theorem ZjI (y:Int):Z0X y 12=if JY y=true then 366 else 365:=by
 simp [Z0X,Zs]
 cases JY y<;>simp
theorem Z1o (y d:Int) (k:Nat) (hk:k≤11):Jc y ((k:Int)+1) d=Z0c y+Z0X y k+d - 1:=by
 rw [ZdG y k hk]
 unfold Jc
 by_cases h2:k<2
 rw [if_pos h2,if_pos (by omega)]
 simp only
 unfold Z0c
 omega
 rw [if_neg h2,if_neg (by omega)]
 simp only
 have h:=Z4n y
 have hl:=Z6c y
 have e:(153 * ((k:Int)+1 - 3)+2) / 5=(153 * ((k:Int) - 2)+2) / 5:=by congr 2;omega
 rw [e]
 generalize (153 * ((k:Int) - 2)+2) / 5=z
 have e2:Z0c (y+1)=365 * y+y / 4 - y / 100+y / 400:=by unfold Z0c;omega
 rw [e2] at h
 by_cases hl':JY y=true
 rw [if_pos hl'] at h ⊢;omega
 rw [if_neg hl'] at h ⊢;omega
theorem Z2w {y:Int}:∀ {a b:Nat},a≤b→b≤12→Z0X y a≤Z0X y b
 | a, 0, h, _ => by obtain rfl : a = 0 := by omega
                    exact Yac _
 | a, b + 1, h, h2 => by
   by_cases e:a=b+1
   subst e;exact Yac _
   have:=Z2w (y:=y) (a:=a) (b:=b) (by omega) (by omega)
   have:=Z17 (y:=y) (k:=b) (by omega)
   simp only [Z0X];omega
end Go.Eng
namespace Go.Proofs.YtjdjdoefppebkaaGreatDoor
open Go Go.Eng Go.RowKit
structure Hol where
 kind:Int
 month:Int
 day:Int
 wd:Int
 nth:Int
 off:Int
 move:Int
 first:Int
 last:Int
structure Clo where
 lo:Int
 hi:Int
 known:Int
structure Cal where
 week:List Bool
 hols:List Hol
 clos:List Clo
def Zv (d:Int):Bool:=decide (0≤d∧d≤3652058)
def Z1R (y:Int):Int:=
 let a:=y % 19
 let b:=y / 100
 let c:=y % 100
 let g:=(b - (b+8) / 25+1) / 3
 let h:=(19 * a+b - b / 4 - g+15) % 30
 let l:=(32+2 * (b % 4)+2 * (c / 4) - h - c % 4) % 7
 h+l - 7 * ((a+11 * h+22 * l) / 451)+114
def Z3p (y:Int):Int:=Jc y (Z1R y / 31) (Z1R y % 31+1)
def Z2f (y m wd:Int):Int:=Jc y m 1+(wd - Jc y m 1 % 7+7) % 7
def ZdH (h:Hol) (y:Int):Option Int:=
 if y<h.first∨h.last<y then none
 else if h.kind=1 then (if Z0W y h.month h.day then none else some (Jc y h.month h.day))
 else if h.kind=2 then (if Z2f y h.month h.wd+7 * (h.nth - 1)<Jc y h.month 1+Zs y h.month then some (Z2f y h.month h.wd+7 * (h.nth - 1)) else none)
 else if h.kind=3 then some (Z2f y h.month h.wd+(Jc y h.month 1+Zs y h.month - 1 - Z2f y h.month h.wd) / 7 * 7)
 else if y<1583∨9999<y then none else some (Z3p y+h.off)
def Z2g (m d:Int):Int:=if m=1∧d % 7=5 then d+2 else if m=2∧d % 7=5 then d - 1 else if (m=1∨m=2)∧d % 7=6 then d+1 else d
def Z18 (h:Hol) (y:Int):Option Int:=(ZdH h y).bind fun d=>if Zv (Z2g h.move d) then some (Z2g h.move d) else none
structure Z4o (h:Hol):Prop where
 k1:1≤h.kind
 k2:h.kind≤4
 m1:0≤h.move
 m2:h.move≤2
 f1:1≤h.first
 l1:h.last≤9999
 month:h.kind≠4→1≤h.month∧h.month≤12
 day:h.kind=1→1≤h.day∧h.day≤31
 wd:h.kind=2∨h.kind=3→0≤h.wd∧h.wd≤6
 nth:h.kind=2→1≤h.nth∧h.nth≤5
 off:h.kind=4→-100≤h.off∧h.off≤100
def Z5o (l:List Hol) (d:Int):Bool:=
 Zv d && [(ofM d).y - 1,(ofM d).y,(ofM d).y+1].any fun y=>l.any fun h=>decide (Z18 h y=some d)
def Z82 (l:List Clo) (known d:Int):Bool:=l.any fun x=>decide (x.known≤known∧x.lo≤d∧d≤x.hi)
def Z9w (c:Cal) (known d:Int):Bool:=c.week.getD (d % 7).toNat false || Z82 c.clos known d || Z5o c.hols d
def Zo (c:Cal) (known d:Int):Bool:=Zv d && !Z9w c known d
structure Ze8 (c:Cal):Prop where
 week:c.week.length=7
 hols:∀ h∈c.hols,Z4o h
 few:c.hols.length≤6
def Z2h (opn:Int→Bool) (step:Int):Nat→Int→Int×Int
 | 0,_=>(0,31)
 | k+1,d=>if Zv d=true then (if opn d=true then (d,0) else Z2h opn step k (d+step)) else (0,31)
def ZV (opn:Int→Bool) (step d:Int):Int×Int:=if Zv d=true then Z2h opn step 1001 d else (0,5)
def Z3Y (opn:Int→Bool) (step:Int):Nat→Int→Int×Int
 | 0,d=>(d,0)
 | k+1,d=>if (ZV opn step (d+step)).2=0 then Z3Y opn step k (ZV opn step (d+step)).1 else (0,31)
def Z3Z (opn:Int→Bool) (d n:Int):Int×Int:=
 if Zv d=true then (if n < -1000∨1000<n then (0,2) else Z3Y opn (if n<0 then -1 else 1) n.natAbs d) else (0,5)
def Z83 (d n:Int):Int×Int:=
 if n < -200000∨200000<n then (0,2) else if Zv d=true then
  (let m:=12 * (ofM d).y+(ofM d).m - 1+n
   if m<12∨120000≤m then (0,5) else (Jc (m / 12) (m % 12+1) (min (ofM d).d (Zs (m / 12) (m % 12+1))),0))
 else (0,5)
def ZQ (b:Bool):Int:=if b=true then 1 else 0
def Z1N (n:Int):Int×Int:=if n < -2147483647∨2147483647<n then (0,5) else (n,0)
def Z5E (n:Int):Int×Int:=if n<0∨3652058<n then (0,5) else (n,0)
def Z40 (ev:List Int) (n:Int):Int×Int:=if n=1∧ev.getD 1 0=-1 then (0,32) else (ev.getD n.toNat 0,0)
def Z1p (opn:Int→Bool) (op b:Int):Int×Int:=
 if op=8 then (-b,0) else if op=19 then ZV opn 1 b else if op=20 then ZV opn (-1) b else (1 - b,0)
def ZI (opn:Int→Bool) (op a b:Int):Int×Int:=
 if op=5 then Z1N (a+b) else if op=6 then Z1N (a - b) else if op=7 then Z1N (a * b)
 else if op=9 then (ZQ (decide (a<b)),0) else if op=10 then (ZQ (decide (a≤b)),0) else if op=11 then (ZQ (decide (a=b)),0)
 else if op=15 then Z5E (a+b) else if op=16 then Z5E (a+7 * b) else if op=17 then Z83 a b else if op=18 then Z3Z opn a b
 else if op=21 then (max a b,0) else if op=22 then (min a b,0) else (b - a,0)
def arM (op:Int):Nat:=if op=1∨op=2∨op=3∨op=4 then 0 else if op=8∨op=12∨op=19∨op=20 then 1 else 2
def ZY (opn:Int→Bool) (ev:List Int) (x:Ins) (a b:Int):Int×Int:=
 if x.op=4 then Z40 ev x.n else if arM x.op=0 then (x.n,0) else if arM x.op=1 then Z1p opn x.op b else ZI opn x.op a b
abbrev Spn:=Int×Int
def JI (op a b r:Int):List Spn:=
 if op=19 then [(b,r)] else if op=20 then [(r,b)] else if op=18 then (if 0<b then [(a+1,r)] else if b<0 then [(r,a - 1)] else []) else []
def JQ (st:List Int) (k:Nat):Int:=if k<st.length then st.getD (st.length - 1 - k) 0 else 0
def Ze9 (s:Str):Int:=if s=[100,97,121,115] then 15 else if s=[119,101,101,107,115] then 16 else if s=[109,111,110,116,104,115] then 17 else 18
def ZjJ (s:Str):Int:=if s=[110,101,120,116] then 19 else if s=[112,114,101,118] then 20 else if s=[108,97,116,101,114] then 21 else if s=[101,97,114,108,105,101,114] then 22 else 23
def ZlD (s:Str) (a b:Int):Int×Int:=
 if s=[43] then Z1N (a+b) else if s=[45] then Z1N (a - b) else if s=[42] then Z1N (a * b)
 else if s=[60] then (ZQ (decide (a<b)),0) else if s=[60,61] then (ZQ (decide (a≤b)),0) else if s=[61] then (ZQ (decide (a=b)),0)
 else if s=[33,61] then (ZQ (decide (¬ a=b)),0) else if s=[62] then (ZQ (decide (b<a)),0) else if s=[62,61] then (ZQ (decide (b≤a)),0) else (b,0)
def Zf (opn:Int→Bool) (ev:List Int) (k n:Int) (s:Str) (rs:List (Int×Int)):Int×Int:=
 if k=1∨k=2∨k=3 then (n,0) else if k=4 then Z40 ev (ZZ s).1
 else if ¬ (rs.getD 0 (0,0)).2=0 then (0,(rs.getD 0 (0,0)).2)
 else if k=5 then (if s=[110,111,116] then (1 - (rs.getD 0 (0,0)).1,0) else (-(rs.getD 0 (0,0)).1,0))
 else if k=9 then rs.getD (2 - (rs.getD 0 (0,0)).1).toNat (0,0)
 else if rs.length=1 then Z1p opn (ZjJ s) (rs.getD 0 (0,0)).1
 else if k=6∧(s=[97,110,100]∧(rs.getD 0 (0,0)).1=0∨s=[111,114]∧(rs.getD 0 (0,0)).1=1) then ((rs.getD 0 (0,0)).1,0)
 else if ¬ (rs.getD 1 (0,0)).2=0 then (0,(rs.getD 1 (0,0)).2)
 else if k=7 then ZI opn (Ze9 s) (rs.getD 0 (0,0)).1 (rs.getD 1 (0,0)).1
 else if k=8 then ZI opn (Ze9 s) (rs.getD 0 (0,0)).1 (-(rs.getD 1 (0,0)).1)
 else if k=10 then ZI opn (ZjJ s) (rs.getD 0 (0,0)).1 (rs.getD 1 (0,0)).1
 else ZlD s (rs.getD 0 (0,0)).1 (rs.getD 1 (0,0)).1
def Z6 (opn:Int→Bool) (ev:List Int):Nd→Int×Int
 | .mk k n s l=>Zf opn ev k n s (l.map (Z6 opn ev))
theorem Z1q (opn:Int→Bool) (ev:List Int) (x:Nd):Z6 opn ev x=Zf opn ev x.kind x.num x.word (x.kids.map (Z6 opn ev)):=by
 cases x
 rw [Z6]
 rfl
def vOk (t v:Int):Prop:=(t=1∧-2147483647≤v∧v≤2147483647)∨(t=2∧(v=0∨v=1))∨(t=3∧0≤v∧v≤3652058)
structure Z84 (ev:List Int):Prop where
 len:ev.length=7
 day:0≤ev.getD 0 0∧ev.getD 0 0≤3652058
 served:-1≤ev.getD 1 0∧ev.getD 1 0≤3652058
 rest:∀ i,2≤i→i<7→-2147483647≤ev.getD i 0∧ev.getD i 0≤2147483647
def Ja (s:Shp) (st:List Int):Prop:=s.length=st.length∧∀ i (h:i<s.length) (h':i<st.length),vOk s[i] st[i]
theorem Zx {d:Int}:Zv d=true↔0≤d∧d≤3652058:=by unfold Zv;simp
theorem Z85 (opn:Int→Bool) (step:Int):∀ (k:Nat) (d:Int),(Z2h opn step k d).2=0→Zv (Z2h opn step k d).1=true∧opn (Z2h opn step k d).1=true
 | 0,d,h=>by simp [Z2h] at h
 | k + 1, d, h => by
   unfold Z2h at h ⊢
   split at h
   rename_i h1
   rw [if_pos h1]
   split at h
   rename_i h2
   rw [if_pos h2]
   exact ⟨h1,h2⟩
   rename_i h2
   rw [if_neg h2]
   exact Z85 opn step k _ h
   simp at h
theorem Z1r {opn:Int→Bool} {step d:Int} (h:(ZV opn step d).2=0):Zv (ZV opn step d).1=true∧Zv d=true:=by
 unfold ZV at h ⊢
 split at h
 rename_i h1
 rw [if_pos h1]
 exact ⟨(Z85 _ _ _ _ h).1,h1⟩
 simp at h
theorem Z9x (opn:Int→Bool) (step:Int):∀ (k:Nat) (d:Int),Zv d=true→(Z3Y opn step k d).2=0→Zv (Z3Y opn step k d).1=true
 | 0,d,hd,h=>hd
 | k + 1, d, hd, h => by
   unfold Z3Y at h ⊢
   split at h
   rename_i h1
   rw [if_pos h1]
   exact Z9x opn step k _ (Z1r h1).1 h
   simp at h
theorem Z6W {opn:Int→Bool} {d n:Int} (h:(Z3Z opn d n).2=0):Zv (Z3Z opn d n).1=true:=by
 unfold Z3Z at h ⊢
 split at h
 rename_i h1
 rw [if_pos h1]
 split at h
 simp at h
 rename_i h2
 rw [if_neg h2]
 exact Z9x _ _ _ _ h1 h
 simp at h
theorem dayM_range {y m d:Int} (hy:1≤y) (hy2:y≤9999) (hm:1≤m) (hm2:m≤12) (hd:1≤d) (hd2:d≤Zs y m):0≤Jc y m d∧Jc y m d≤3652058:=by
 obtain ⟨k,hk⟩:∃ k:Nat,m=(k:Int)+1:=⟨(m - 1).toNat,by omega⟩
 subst hk
 have hk:k≤11:=by omega
 rw [Z1o y d k hk]
 have h0:Z0c 1=0:=by decide
 have h1:=Z2e hy
 have h2:=Z2e (show y+1≤10000 by omega)
 have h3:Z0c 10000=3652059:=by decide
 have hc0:0≤Z0X y k:=by
  have:=Z2w (y:=y) (Xo k) (by omega)
  simpa [Z0X] using this
 have hc:Z0X y (k+1)=Z0X y k+Zs y ((k:Int)+1):=by simp [Z0X]
 have hc12:=Z2w (y:=y) (show k+1≤12 by omega) (Xk _)
 have hs:=Z4n y
 have h12:=ZjI y
 omega
theorem Z6X {d n:Int} (h:(Z83 d n).2=0):Zv (Z83 d n).1=true:=by
 unfold Z83 at h ⊢
 split at h
 simp at h
 rename_i h0
 rw [if_neg h0]
 split at h
 rename_i h1
 rw [if_pos h1]
 dsimp only at h ⊢
 split at h
 simp at h
 rename_i h2
 rw [if_neg h2]
 rw [Zx] at h1 ⊢
 obtain ⟨a1,a2,a3,a4,a5,a6,a7⟩:=Z6R h1.1 h1.2
 generalize 12 * (ofM d).y+(ofM d).m - 1+n=m at h2
 have hk:(m % 12).toNat<12:=by omega
 have hl:=Z17 (y:=m / 12) hk
 rw [show (((m % 12).toNat:Int))=m % 12 by omega] at hl
 dsimp only
 exact dayM_range (by omega) (by omega) (by omega) (by omega) (by omega) (by omega)
 simp at h
theorem Ja.nil:Ja [] []:=⟨rfl,fun i h=>absurd h (Xs _)⟩
theorem Ja.one {t v:Int} (h:vOk t v):Ja [t] [v]:=⟨rfl,fun i hi _=>by
 have:i=0:=by simpa using hi
 subst this;exact h⟩
theorem Ja.app {s1 s2:Shp} {l1 l2:List Int} (h1:Ja s1 l1) (h2:Ja s2 l2):Ja (s1++s2) (l1++l2):=by
 refine ⟨by simp [h1.1,h2.1],fun i h h'=>?_⟩
 by_cases hi:i<s1.length
 rw [XB hi,XB (by rw [← h1.1];exact hi)]
 exact h1.2 i hi _
 have e:=h1.1
 rw [Xz (by omega),Xz (by omega)]
 have:=h2.2 (i - s1.length) (by simp at h;omega) (by simp at h';omega)
 simpa [e] using this
theorem Ja.take {s:Shp} {l:List Int} (h:Ja s l) (k:Nat):Ja (s.take k) (l.take k):=
 ⟨by simp [h.1],fun i hi hi'=>by simp at hi hi' ⊢;exact h.2 i _ _⟩
theorem Ja.drop {s:Shp} {l:List Int} (h:Ja s l) (k:Nat):Ja (s.drop k) (l.drop k):=
 ⟨by simp [h.1],fun i hi hi'=>by simp at hi hi' ⊢;exact h.2 _ _ _⟩
theorem Ja.one_inv {t:Int} {l:List Int} (h:Ja [t] l):∃ v,l=[v]∧vOk t v:=by
 match l,h with
 | [v],h=>exact ⟨v,rfl,h.2 0 (by simp) (by simp)⟩
 | [],h=>exact absurd h.1 (by simp)
 | _ :: _ :: _,h=>exact absurd h.1 (by simp)
theorem Ja.two_inv {t u:Int} {l:List Int} (h:Ja [t,u] l):∃ a b,l=[a,b]∧vOk t a∧vOk u b:=by
 match l,h with
 | [a,b],h=>exact ⟨a,b,rfl,h.2 0 (by simp) (by simp),h.2 1 (by simp) (by simp)⟩
 | [],h=>exact absurd h.1 (by simp)
 | [_],h=>exact absurd h.1 (by simp)
 | _ :: _ :: _ :: _,h=>exact absurd h.1 (by simp)
theorem Z0n (l:List Int) (v:Int):JQ (l++[v]) 0=v:=by
 unfold JQ
 simp
theorem Zw (l:List Int) (a b:Int):JQ (l++[a,b]) 0=b∧JQ (l++[a,b]) 1=a:=by
 unfold JQ
 constructor<;>simp [List.getD_eq_getElem?_getD,List.getElem?_append_right]
theorem Z4E {n:Int} (h:(Z1N n).2=0):vOk 1 (Z1N n).1:=by
 unfold Z1N at h ⊢
 split at h
 simp at h
 rename_i h1;rw [if_neg h1];left;refine ⟨rfl,?_,?_⟩<;>dsimp only<;>omega
theorem Z3q {n:Int} (h:(Z5E n).2=0):vOk 3 (Z5E n).1:=by
 unfold Z5E at h ⊢
 split at h
 simp at h
 rename_i h1;rw [if_neg h1];right;right;refine ⟨rfl,?_,?_⟩<;>dsimp only<;>omega
theorem Z0o (b:Bool):vOk 2 (ZQ b):=by
 right;left;refine ⟨rfl,?_⟩;unfold ZQ;cases b<;>simp
theorem vOk.days {v:Int} (h:Zv v=true):vOk 3 v:=.inr (.inr ⟨rfl,Zx.1 h⟩)
theorem vOk.n {v:Int} (h:vOk 1 v):-2147483647≤v∧v≤2147483647:=by unfold vOk at h;omega
theorem vOk.b {v:Int} (h:vOk 2 v):v=0∨v=1:=by unfold vOk at h;omega
theorem vOk.d {v:Int} (h:vOk 3 v):0≤v∧v≤3652058:=by unfold vOk at h;omega
theorem Z5p {x:Ins} (h:(JK x).2.2.2=true):1≤x.op∧x.op≤24:=by
 by_cases h1:1≤x.op∧x.op≤24
 exact h1
 · exfalso
   have:JK x=([],[],[],false):=by
    unfold JK
    repeat rw [if_neg (by omega)]
   rw [this] at h
   simp at h
theorem ZhA {opn:Int→Bool} {ev:List Int} (hev:Z84 ev) {x:Ins} {ts vs:List Int} (hx:(JK x).2.2.2=true) (h24:x.op≠24) (h13:x.op≠13) (h14:x.op≠14)
 (ht:ts=(JK x).1∨(JK x).2.1≠[]∧ts=(JK x).2.1) (hs:Ja ts vs) :
 ts.length=arM x.op∧(JK x).1.length=arM x.op∧∀ st,((ZY opn ev x (JQ (st++vs) 1) (JQ (st++vs) 0)).2=0→Ja (JK x).2.2.1 [(ZY opn ev x (JQ (st++vs) 1) (JQ (st++vs) 0)).1]):=by
 have hr:=Z5p hx
 obtain ⟨op,n⟩:=x
 dsimp only at *
 have hop:op=1∨op=2∨op=3∨op=4∨op=5∨op=6∨op=7∨op=8∨op=9∨op=10∨op=11∨op=12∨op=15∨op=16∨op=17∨op=18∨op=19∨op=20∨op=21∨op=22∨op=23:=by omega
 rcases hop with rfl|rfl|rfl|rfl|rfl|rfl|rfl|rfl|rfl|rfl|rfl|rfl|rfl|rfl|rfl|rfl|rfl|rfl|rfl|rfl|rfl
 case inl|inr.inl|inr.inr.inl=>
  simp [JK] at hx ht ⊢
  subst ht
  refine ⟨rfl,rfl,fun st _=>Ja.one ?_⟩
  simp [ZY,arM,vOk]
  omega
 case inr.inr.inr.inl=>
  simp [JK] at hx ht ⊢
  subst ht
  refine ⟨rfl,rfl,fun st h=>Ja.one ?_⟩
  simp only [ZY,if_true] at h ⊢
  unfold Z40 at h ⊢
  split at h
  simp at h
  rename_i h1
  rw [if_neg h1]
  dsimp only
  have h0:=hev.day
  have hs1:=hev.served
  by_cases h01:n=0∨n=1
  rw [if_pos h01]
  right;right
  rcases h01 with rfl|rfl
  exact ⟨rfl,h0.1,h0.2⟩
  refine ⟨rfl,?_,hs1.2⟩
  have:¬ ev.getD 1 0=-1:=fun h=>h1 ⟨rfl,h⟩
  show 0≤ev.getD 1 0
  omega
  rw [if_neg h01]
  left
  exact ⟨rfl,hev.rest n.toNat (by omega) (by omega)⟩
 all_goals
  simp [JK] at hx ht ⊢
  try subst hx
 all_goals
  first
  | (subst ht
     obtain ⟨b,rfl,hb⟩:=hs.one_inv
     refine ⟨rfl,rfl,fun st h=>Ja.one ?_⟩
     simp only [Z0n] at h ⊢
     simp [ZY,arM,Z1p,ZI] at h ⊢
     first
     | exact .days (Z1r h).1
     | (have:=hb.n;unfold vOk;omega)
     | (have:=hb.b;unfold vOk;omega))
  | (rcases ht with rfl | rfl <;>
     (obtain ⟨a,b,rfl,ha,hb⟩:=hs.two_inv
      refine ⟨rfl,rfl,fun st h=>Ja.one ?_⟩
      simp only [Zw] at h ⊢
      simp [ZY,arM,Z1p,ZI] at h ⊢
      exact Z0o _))
  | (subst ht
     obtain ⟨a,b,rfl,ha,hb⟩:=hs.two_inv
     refine ⟨rfl,rfl,fun st h=>Ja.one ?_⟩
     simp only [Zw] at h ⊢
     simp [ZY,arM,Z1p,ZI] at h ⊢
     first
     | exact Z4E h
     | exact Z3q h
     | exact .days (Z6X h)
     | exact .days (Z6W h)
     | (have:=ha.d;have:=hb.d;unfold vOk;omega))
theorem ZbW {opn:Int→Bool} {ev:List Int} (hev:Z84 ev) {x:Ins} {s nx:Shp} {st:List Int} (hn:Z2d x s=some nx) (h24:x.op≠24) (h13:x.op≠13) (h14:x.op≠14) (hs:Ja s st)
 (he:(ZY opn ev x (JQ st 1) (JQ st 0)).2=0):Ja nx (st.take (st.length - arM x.op)++[(ZY opn ev x (JQ st 1) (JQ st 0)).1]):=by
 unfold Z2d at hn
 dsimp only at hn
 split at hn
 rename_i hc
 obtain ⟨c1,c2,c3,c4⟩:=hc
 simp only [Xc] at hn
 subst hn
 have hsp:st=st.take (s.length - (JK x).1.length)++st.drop (s.length - (JK x).1.length):=(Xq _ _).symm
 obtain ⟨v1,v2,v3⟩:=ZhA (opn:=opn) hev c1 h24 h13 h14 c3 (hs.drop _)
 have v4:=v3 (st.take (s.length - (JK x).1.length))
 rw [← hsp] at v4
 rw [← v2,← hs.1]
 exact (hs.take _).app (v4 he)
 cases hn
structure Z86 where
 k:Int
 s:Str
 ts:List Int
 t:Int
 L:List Int
deriving DecidableEq
def Z1s:List Z86:=[⟨5,[45],[1],1,[8]⟩,⟨5,[110,111,116],[2],2,[12]⟩,⟨10,[110,101,120,116],[3],3,[19]⟩,⟨10,[112,114,101,118],[3],3,[20]⟩,⟨10,[108,97,116,101,114],[3,3],3,[21]⟩,⟨10,[101,97,114,108,105,101,114],[3,3],3,[22]⟩,⟨10,[98,101,116,119,101,101,110],[3,3],1,[23]⟩,
 ⟨7,[100,97,121,115],[3,1],3,[15]⟩,⟨7,[119,101,101,107,115],[3,1],3,[16]⟩,⟨7,[109,111,110,116,104,115],[3,1],3,[17]⟩,⟨7,[99,111,117,114,116,100,97,121,115],[3,1],3,[18]⟩,
 ⟨8,[100,97,121,115],[3,1],3,[8,15]⟩,⟨8,[119,101,101,107,115],[3,1],3,[8,16]⟩,⟨8,[109,111,110,116,104,115],[3,1],3,[8,17]⟩,⟨8,[99,111,117,114,116,100,97,121,115],[3,1],3,[8,18]⟩,
 ⟨6,[43],[1,1],1,[5]⟩,⟨6,[45],[1,1],1,[6]⟩,⟨6,[42],[1,1],1,[7]⟩,
 ⟨6,[60],[1,1],2,[9]⟩,⟨6,[60,61],[1,1],2,[10]⟩,⟨6,[61],[1,1],2,[11]⟩,⟨6,[33,61],[1,1],2,[11,12]⟩,⟨6,[62],[1,1],2,[10,12]⟩,⟨6,[62,61],[1,1],2,[9,12]⟩,
 ⟨6,[60],[3,3],2,[9]⟩,⟨6,[60,61],[3,3],2,[10]⟩,⟨6,[61],[3,3],2,[11]⟩,⟨6,[33,61],[3,3],2,[11,12]⟩,⟨6,[62],[3,3],2,[10,12]⟩,⟨6,[62,61],[3,3],2,[9,12]⟩]
theorem ZdI:Z3b.all (fun e=>Z1s.any (fun r=>decide (r.k=e.1.kind∧r.s=e.1.s∧r.ts=(if e.1.b=0 then [e.1.a] else [e.1.a,e.1.b])∧e.1.c=0) && (match e.2 with|.int .i64 t=>decide (t=r.t)|_=>false)))=true:=by decide +kernel
theorem ZjK:Zh9.all (fun s=>Z1s.any (fun r=>decide (r.k=6∧r.s=s∧r.ts=[1,1]∧r.t=1)))=true:=by decide +kernel
theorem ZjL:Zha.all (fun s=>Z1s.any (fun r=>decide (r.k=6∧r.s=s∧r.ts=[1,1]∧r.t=2)) && Z1s.any (fun r=>decide (r.k=6∧r.s=s∧r.ts=[3,3]∧r.t=2)))=true:=by decide +kernel
theorem ZhB:Z1s.all (fun r=>decide (r.k≠9) && decide (r.k≠1∧r.k≠2∧r.k≠3∧r.k≠4) && decide (r.ts≠[]) && !(decide (r.k=6) && (decide (r.s=[97,110,100]) || decide (r.s=[111,114]))) && okL (r.L.map fun o=>⟨o,0⟩) r.ts r.t && decide (Zhz r.k r.s++(if r.k=6∧r.s=[45] then [⟨6,0⟩] else [])=r.L.map fun o=>(⟨o,0⟩:Ins)))=true:=by decide +kernel
def ZhC (k n:Int) (s:Str) (t:Int):Prop:=
 ((k=1∨k=2∨k=3)∧t=k∧vOk k n)∨(k=4∧∃ i:Nat,i<7∧s=Zj.getD i []∧(ZZ s).1=(i:Int)∧t=if i≤1 then 3 else 1)
theorem Zae {k n:Int} {s:Str} (h:Z48 k n s≠0):ZhC k n s (Z48 k n s):=by
 unfold Z48 at h ⊢
 by_cases k4:k=4
 rw [if_pos k4] at h ⊢
 split at h
 · rename_i hn
   rw [if_pos hn]
   have h1:(ZZ s).2.2=true:=by
    cases hb:(ZZ s).2.2 with
    | true=>rfl
    | false=>exact absurd (Z9N hb) h
   obtain ⟨i,hi,hsn,hii⟩:=(Z8P s (ZZ s).1).1 ⟨h1,rfl⟩
   refine .inr ⟨k4,i,hi,hsn,hii,?_⟩
   subst hsn
   match i,hi with
   | 0,_=>decide +kernel
   | 1,_=>decide +kernel
   | 2,_=>decide +kernel
   | 3,_=>decide +kernel
   | 4,_=>decide +kernel
   | 5,_=>decide +kernel
   | 6,_=>decide +kernel
 exact absurd rfl h
 rw [if_neg k4] at h ⊢
 split at h
 exact absurd rfl h
 rename_i hs0
 rw [if_neg hs0]
 left
 unfold vOk
 by_cases k1:k=1
 rw [if_pos k1] at h ⊢
 split at h
 rename_i h2;rw [if_pos h2];subst k1;exact ⟨.inl rfl,rfl,.inl ⟨rfl,by omega,by omega⟩⟩
 exact absurd rfl h
 rw [if_neg k1] at h ⊢
 by_cases k2:k=2
 rw [if_pos k2] at h ⊢
 split at h
 rename_i h2;rw [if_pos h2];subst k2;exact ⟨.inr (.inl rfl),rfl,.inr (.inl ⟨rfl,by omega⟩)⟩
 exact absurd rfl h
 rw [if_neg k2] at h ⊢
 by_cases k3:k=3
 rw [if_pos k3] at h ⊢
 split at h
 rename_i h2;rw [if_pos h2];subst k3;exact ⟨.inr (.inr rfl),rfl,.inr (.inr ⟨rfl,by omega,by omega⟩)⟩
 exact absurd rfl h
 rw [if_neg k3] at h;exact absurd rfl h
theorem Z5q {k n:Int} {s:Str} {l:List Nd} (ht:Zr (.mk k n s l)≠0) :
 (l=[]∧ZhC k n s (Zr (.mk k n s l)))∨(k=9∧∃ a b c,l=[a,b,c]∧Zr a=2∧Zr b=Zr (.mk k n s l)∧Zr c=Zr (.mk k n s l))∨
 (k=6∧(s=[97,110,100]∨s=[111,114])∧∃ a b,l=[a,b]∧Zr a=2∧Zr b=2∧Zr (.mk k n s l)=2)∨
 (∃ r∈Z1s,r.k=k∧r.s=s∧l.map Zr=r.ts∧Zr (.mk k n s l)=r.t):=by
 have hteq:Zr (.mk k n s l)=Z12 k n s (l.map Zr):=Z4W _
 rw [hteq] at ht ⊢
 rcases Z81 ht with ⟨he,hc⟩|⟨h0,h3,hn0,hc⟩
 left
 rw [hc] at ht ⊢
 exact ⟨by simpa using he,Zae ht⟩
 have hlen:l.length≤3:=by simpa using h3
 rcases hc with ⟨h9,hts⟩|⟨h6,hg2,hbt⟩|hsg
 right;left
 have hl3:l.length=3:=by have:=congrArg List.length hts;simpa using this
 obtain ⟨a,b,c,rfl⟩:=ZdF hl3
 simp only [Xy,XQ,Yak,and_true] at hts
 exact ⟨h9,a,b,c,rfl,hts.1,hts.2.1,hts.2.2⟩
 subst h6
 rcases Ze7 h0 h3 hn0 hg2 with ⟨hb0,hts⟩|⟨hb0,hts⟩
 exfalso
 apply ht
 rw [hbt,hb0]
 have ha0:(l.map Zr).getD 0 0≠0:=fun h=>h0 (by rw [hts,h];simp)
 unfold Zbc
 split
 rw [if_neg (by omega)]
 split
 rw [if_neg (by omega)]
 split
 rw [if_neg (by omega)]
 rfl
 have hl2:l.length=2:=by have:=congrArg List.length hts;simpa using this
 obtain ⟨a,b,rfl⟩:=Z9v hl2
 have ra:=Z7q a
 rw [hbt] at ht ⊢
 simp only [Xy,XQ,XV,List.getD_cons_succ] at ht ⊢
 have a0:Zr a≠0:=fun h=>h0 (by simp [h])
 unfold Zbc at ht ⊢
 by_cases hA:s∈Zh9
 rw [if_pos hA] at ht ⊢
 split at ht
 rename_i hab
 rw [if_pos hab]
 right;right;right
 have:=XC.1 ZjK s hA
 obtain ⟨r,hr,hp⟩:=XM.1 this
 obtain ⟨p1,p2,p3,p4⟩:=of_decide_eq_true hp
 exact ⟨r,hr,p1,p2,by rw [p3,← hab.1,hab.2],p4.symm⟩
 exact absurd rfl ht
 rw [if_neg hA] at ht ⊢
 by_cases hC:s∈Zha
 rw [if_pos hC] at ht ⊢
 split at ht
 rename_i hab
 rw [if_pos hab]
 right;right;right
 have:=XC.1 ZjL s hC
 rw [Xf] at this
 have h13:Zr a=1∨Zr a=3:=by omega
 rcases h13 with h1|h1
 obtain ⟨r,hr,hp⟩:=XM.1 this.1
 obtain ⟨p1,p2,p3,p4⟩:=of_decide_eq_true hp
 exact ⟨r,hr,p1,p2,by rw [p3,← hab.1,h1],p4.symm⟩
 obtain ⟨r,hr,hp⟩:=XM.1 this.2
 obtain ⟨p1,p2,p3,p4⟩:=of_decide_eq_true hp
 exact ⟨r,hr,p1,p2,by rw [p3,← hab.1,h1],p4.symm⟩
 exact absurd rfl ht
 rw [if_neg hC] at ht ⊢
 split at ht
 rename_i hL
 rw [if_pos hL]
 split at ht
 rename_i hab
 rw [if_pos hab]
 right;right;left
 have hs:s=[97,110,100]∨s=[111,114]:=by simpa [Zjf] using hL
 exact ⟨trivial,hs,a,b,rfl,hab.2,by rw [← hab.1,hab.2],rfl⟩
 exact absurd rfl ht
 exact absurd rfl ht
 right;right;right
 rw [hsg] at ht ⊢
 obtain ⟨e,he,hx,hv⟩:=Zad ht
 have:=XC.1 ZdI e he
 obtain ⟨r,hr,hp⟩:=XM.1 this
 rw [Xf] at hp
 obtain ⟨p1,p2,p3,p4⟩:=of_decide_eq_true hp.1
 have p5:=hp.2
 rw [hv] at p5
 have p6:=of_decide_eq_true p5
 rw [← hx] at p1 p2 p3 p4
 dsimp only at p1 p2 p3 p4
 refine ⟨r,hr,p1,p2,?_,p6⟩
 rw [p3]
 rcases Ze7 h0 h3 hn0 p4 with ⟨hb0,hts⟩|⟨hb0,hts⟩
 rw [if_pos hb0];exact hts
 rw [if_neg hb0];exact hts
def Z3r (opn:Int→Bool) (ev:List Int):List Int→List Int→Int×List Int
 | [],st=>(0,st)
 | o :: L,st=>if (ZY opn ev ⟨o,0⟩ (JQ st 1) (JQ st 0)).2=0 then Z3r opn ev L (st.take (st.length - arM o)++[(ZY opn ev ⟨o,0⟩ (JQ st 1) (JQ st 0)).1]) else ((ZY opn ev ⟨o,0⟩ (JQ st 1) (JQ st 0)).2,st)
abbrev okv (vs:List Int):List (Int×Int):=vs.map fun v=>(v,0)
def Z1S (opn:Int→Bool) (ev:List Int) (L st0 vs:List Int) (v:Int×Int):Prop:=(Z3r opn ev L (st0++vs)).1=v.2∧(v.2=0→(Z3r opn ev L (st0++vs)).2=st0++[v.1])
theorem ZjM (l:List Int) (a b:Int):(l++[a,b]).take ((l++[a,b]).length - 2)=l:=by rw [Xh];simp
theorem ZlE (l:List Int) (a:Int):(l++[a]).take ((l++[a]).length - 1)=l:=by rw [Xh];simp
theorem ZlF (l:List Int) (a b:Int):(l++[a,b]).take ((l++[a,b]).length - 1)=l++[a]:=by rw [Xh];simp [X6,Xn]
theorem Zea {opn:Int→Bool} {ev:List Int} {o a b:Int} {st0:List Int} (h:arM o=2):Z1S opn ev [o] st0 [a,b] (ZY opn ev ⟨o,0⟩ a b):=by
 unfold Z1S Z3r
 rw [(Zw st0 a b).1,(Zw st0 a b).2,h,ZjM]
 by_cases he:(ZY opn ev ⟨o,0⟩ a b).2=0
 rw [if_pos he]
 exact ⟨by rw [he];rfl,fun _=>rfl⟩
 rw [if_neg he]
 exact ⟨rfl,fun h=>absurd h he⟩
theorem Z87 {opn:Int→Bool} {ev:List Int} {o b:Int} {st0:List Int} (h:arM o=1):Z1S opn ev [o] st0 [b] (Z1p opn o b):=by
 have hv:∀ a,ZY opn ev ⟨o,0⟩ a b=Z1p opn o b:=by
  intro a
  unfold ZY
  have h4:o≠4:=by intro h4;subst h4;simp [arM] at h
  dsimp only
  rw [if_neg h4,if_neg (by omega),if_pos h]
 unfold Z1S Z3r
 rw [Z0n,hv,h,ZlE]
 by_cases he:(Z1p opn o b).2=0
 rw [if_pos he]
 exact ⟨by rw [he];rfl,fun _=>rfl⟩
 rw [if_neg he]
 exact ⟨rfl,fun h=>absurd h he⟩
theorem ZjN {opn:Int→Bool} {ev:List Int} {o a b:Int} {st0:List Int} (h:arM o=2):Z1S opn ev [8,o] st0 [a,b] (ZY opn ev ⟨o,0⟩ a (-b)):=by
 have hl:=Zea (opn:=opn) (ev:=ev) (a:=a) (b:=-b) (st0:=st0) h
 unfold Z1S at hl ⊢
 have e:Z3r opn ev [8,o] (st0++[a,b])=Z3r opn ev [o] (st0++[a,-b]):=by
  rw [Z3r,(Zw st0 a b).1,(Zw st0 a b).2]
  have e1:ZY opn ev ⟨8,0⟩ a b=(-b,0):=rfl
  rw [e1,if_pos rfl]
  have e2:arM 8=1:=rfl
  rw [e2,ZlF,Xr]
  rfl
 rw [e]
 exact hl
theorem ZjO {opn:Int→Bool} {ev:List Int} {o:Int} (h:arM o=2) (a b:Int):ZY opn ev ⟨o,0⟩ a b=ZI opn o a b:=by
 unfold ZY
 have h4:o≠4:=by intro h4;subst h4;simp [arM] at h
 dsimp only
 rw [if_neg h4,if_neg (by omega),if_neg (by omega)]
theorem JL {opn:Int→Bool} {ev:List Int} {o a b:Int} {st0:List Int} (h:arM o=2):Z1S opn ev [o] st0 [a,b] (ZI opn o a b):=ZjO (opn:=opn) (ev:=ev) h a b ▸ Zea h
theorem Z6Y {opn:Int→Bool} {ev:List Int} {o a b:Int} {st0:List Int} (h:arM o=2):Z1S opn ev [8,o] st0 [a,b] (ZI opn o a (-b)):=ZjO (opn:=opn) (ev:=ev) h a (-b) ▸ ZjN h
theorem Z41 {opn:Int→Bool} {ev:List Int} {o a b v:Int} {st0:List Int} (h:arM o=2) (hv:ZY opn ev ⟨o,0⟩ a b=(v,0)):Z1S opn ev [o,12] st0 [a,b] (1 - v,0):=by
 have e:Z3r opn ev [o,12] (st0++[a,b])=Z3r opn ev [12] (st0++[v]):=by
  rw [Z3r,(Zw st0 a b).1,(Zw st0 a b).2,hv,if_pos rfl,h,ZjM]
 have hl:=Z87 (opn:=opn) (ev:=ev) (o:=12) (b:=v) (st0:=st0) rfl
 unfold Z1S at hl ⊢
 rw [e]
 exact hl
theorem Z2x (p q:Prop) [Decidable p] [Decidable q] (h:¬ p↔q):1 - ZQ (decide p)=ZQ (decide q):=by
 by_cases hp:p
 have hq:¬ q:=fun x=>(h.2 x) hp
 rw [decide_eq_true hp,decide_eq_false hq];rfl
 have hq:q:=h.1 hp
 rw [decide_eq_false hp,decide_eq_true hq];rfl
def PL (r:Z86):Prop:=∀ (opn:Int→Bool) (ev:List Int) (n:Int) (st0 vs:List Int),Ja r.ts vs→Z1S opn ev r.L st0 vs (Zf opn ev r.k n r.s (okv vs))
theorem pl0:PL ⟨5,[45],[1],1,[8]⟩:=by
 intro opn ev n st0 vs hv
 dsimp only at hv ⊢
 obtain ⟨b,rfl,hb⟩:=hv.one_inv
 have e:Zf opn ev 5 n [45] (okv [b])=Z1p opn 8 b:=by kernel_rfl
 rw [e]
 exact Z87 rfl
theorem pl1:PL ⟨5,[110,111,116],[2],2,[12]⟩:=by
 intro opn ev n st0 vs hv
 dsimp only at hv ⊢
 obtain ⟨b,rfl,hb⟩:=hv.one_inv
 have e:Zf opn ev 5 n [110,111,116] (okv [b])=Z1p opn 12 b:=by kernel_rfl
 rw [e]
 exact Z87 rfl
theorem pl2:PL ⟨10,[110,101,120,116],[3],3,[19]⟩:=by
 intro opn ev n st0 vs hv
 dsimp only at hv ⊢
 obtain ⟨b,rfl,hb⟩:=hv.one_inv
 have e:Zf opn ev 10 n [110,101,120,116] (okv [b])=Z1p opn 19 b:=by kernel_rfl
 rw [e]
 exact Z87 rfl
theorem pl3:PL ⟨10,[112,114,101,118],[3],3,[20]⟩:=by
 intro opn ev n st0 vs hv
 dsimp only at hv ⊢
 obtain ⟨b,rfl,hb⟩:=hv.one_inv
 have e:Zf opn ev 10 n [112,114,101,118] (okv [b])=Z1p opn 20 b:=by kernel_rfl
 rw [e]
 exact Z87 rfl
theorem pl4:PL ⟨10,[108,97,116,101,114],[3,3],3,[21]⟩:=by
 intro opn ev n st0 vs hv
 dsimp only at hv ⊢
 obtain ⟨a,b,rfl,ha,hb⟩:=hv.two_inv
 have e:Zf opn ev 10 n [108,97,116,101,114] (okv [a,b])=ZI opn 21 a b:=by kernel_rfl
 rw [e]
 exact JL rfl
theorem pl5:PL ⟨10,[101,97,114,108,105,101,114],[3,3],3,[22]⟩:=by
 intro opn ev n st0 vs hv
 dsimp only at hv ⊢
 obtain ⟨a,b,rfl,ha,hb⟩:=hv.two_inv
 have e:Zf opn ev 10 n [101,97,114,108,105,101,114] (okv [a,b])=ZI opn 22 a b:=by kernel_rfl
 rw [e]
 exact JL rfl
theorem pl6:PL ⟨10,[98,101,116,119,101,101,110],[3,3],1,[23]⟩:=by
 intro opn ev n st0 vs hv
 dsimp only at hv ⊢
 obtain ⟨a,b,rfl,ha,hb⟩:=hv.two_inv
 have e:Zf opn ev 10 n [98,101,116,119,101,101,110] (okv [a,b])=ZI opn 23 a b:=by kernel_rfl
 rw [e]
 exact JL rfl
theorem pl7:PL ⟨7,[100,97,121,115],[3,1],3,[15]⟩:=by
 intro opn ev n st0 vs hv
 dsimp only at hv ⊢
 obtain ⟨a,b,rfl,ha,hb⟩:=hv.two_inv
 have e:Zf opn ev 7 n [100,97,121,115] (okv [a,b])=ZI opn 15 a b:=by kernel_rfl
 rw [e]
 exact JL rfl
theorem pl8:PL ⟨7,[119,101,101,107,115],[3,1],3,[16]⟩:=by
 intro opn ev n st0 vs hv
 dsimp only at hv ⊢
 obtain ⟨a,b,rfl,ha,hb⟩:=hv.two_inv
 have e:Zf opn ev 7 n [119,101,101,107,115] (okv [a,b])=ZI opn 16 a b:=by kernel_rfl
 rw [e]
 exact JL rfl
theorem pl9:PL ⟨7,[109,111,110,116,104,115],[3,1],3,[17]⟩:=by
 intro opn ev n st0 vs hv
 dsimp only at hv ⊢
 obtain ⟨a,b,rfl,ha,hb⟩:=hv.two_inv
 have e:Zf opn ev 7 n [109,111,110,116,104,115] (okv [a,b])=ZI opn 17 a b:=by kernel_rfl
 rw [e]
 exact JL rfl
theorem ZlG:PL ⟨7,[99,111,117,114,116,100,97,121,115],[3,1],3,[18]⟩:=by
 intro opn ev n st0 vs hv
 dsimp only at hv ⊢
 obtain ⟨a,b,rfl,ha,hb⟩:=hv.two_inv
 have e:Zf opn ev 7 n [99,111,117,114,116,100,97,121,115] (okv [a,b])=ZI opn 18 a b:=by kernel_rfl
 rw [e]
 exact JL rfl
theorem ZlH:PL ⟨8,[100,97,121,115],[3,1],3,[8,15]⟩:=by
 intro opn ev n st0 vs hv
 dsimp only at hv ⊢
 obtain ⟨a,b,rfl,ha,hb⟩:=hv.two_inv
 have e:Zf opn ev 8 n [100,97,121,115] (okv [a,b])=ZI opn 15 a (-b):=by kernel_rfl
 rw [e]
 exact Z6Y rfl
theorem ZlI:PL ⟨8,[119,101,101,107,115],[3,1],3,[8,16]⟩:=by
 intro opn ev n st0 vs hv
 dsimp only at hv ⊢
 obtain ⟨a,b,rfl,ha,hb⟩:=hv.two_inv
 have e:Zf opn ev 8 n [119,101,101,107,115] (okv [a,b])=ZI opn 16 a (-b):=by kernel_rfl
 rw [e]
 exact Z6Y rfl
theorem ZlJ:PL ⟨8,[109,111,110,116,104,115],[3,1],3,[8,17]⟩:=by
 intro opn ev n st0 vs hv
 dsimp only at hv ⊢
 obtain ⟨a,b,rfl,ha,hb⟩:=hv.two_inv
 have e:Zf opn ev 8 n [109,111,110,116,104,115] (okv [a,b])=ZI opn 17 a (-b):=by kernel_rfl
 rw [e]
 exact Z6Y rfl
theorem ZlK:PL ⟨8,[99,111,117,114,116,100,97,121,115],[3,1],3,[8,18]⟩:=by
 intro opn ev n st0 vs hv
 dsimp only at hv ⊢
 obtain ⟨a,b,rfl,ha,hb⟩:=hv.two_inv
 have e:Zf opn ev 8 n [99,111,117,114,116,100,97,121,115] (okv [a,b])=ZI opn 18 a (-b):=by kernel_rfl
 rw [e]
 exact Z6Y rfl
theorem ZlL:PL ⟨6,[43],[1,1],1,[5]⟩:=by
 intro opn ev n st0 vs hv
 dsimp only at hv ⊢
 obtain ⟨a,b,rfl,ha,hb⟩:=hv.two_inv
 have e:Zf opn ev 6 n [43] (okv [a,b])=ZI opn 5 a b:=by kernel_rfl
 rw [e]
 exact JL rfl
theorem ZlM:PL ⟨6,[45],[1,1],1,[6]⟩:=by
 intro opn ev n st0 vs hv
 dsimp only at hv ⊢
 obtain ⟨a,b,rfl,ha,hb⟩:=hv.two_inv
 have e:Zf opn ev 6 n [45] (okv [a,b])=ZI opn 6 a b:=by kernel_rfl
 rw [e]
 exact JL rfl
theorem ZlN:PL ⟨6,[42],[1,1],1,[7]⟩:=by
 intro opn ev n st0 vs hv
 dsimp only at hv ⊢
 obtain ⟨a,b,rfl,ha,hb⟩:=hv.two_inv
 have e:Zf opn ev 6 n [42] (okv [a,b])=ZI opn 7 a b:=by kernel_rfl
 rw [e]
 exact JL rfl
theorem ZlO:PL ⟨6,[60],[1,1],2,[9]⟩:=by
 intro opn ev n st0 vs hv
 dsimp only at hv ⊢
 obtain ⟨a,b,rfl,ha,hb⟩:=hv.two_inv
 have e:Zf opn ev 6 n [60] (okv [a,b])=ZI opn 9 a b:=by kernel_rfl
 rw [e]
 exact JL rfl
theorem ZlP:PL ⟨6,[60,61],[1,1],2,[10]⟩:=by
 intro opn ev n st0 vs hv
 dsimp only at hv ⊢
 obtain ⟨a,b,rfl,ha,hb⟩:=hv.two_inv
 have e:Zf opn ev 6 n [60,61] (okv [a,b])=ZI opn 10 a b:=by kernel_rfl
 rw [e]
 exact JL rfl
theorem ZlQ:PL ⟨6,[61],[1,1],2,[11]⟩:=by
 intro opn ev n st0 vs hv
 dsimp only at hv ⊢
 obtain ⟨a,b,rfl,ha,hb⟩:=hv.two_inv
 have e:Zf opn ev 6 n [61] (okv [a,b])=ZI opn 11 a b:=by kernel_rfl
 rw [e]
 exact JL rfl
theorem ZlR:PL ⟨6,[33,61],[1,1],2,[11,12]⟩:=by
 intro opn ev n st0 vs hv
 dsimp only at hv ⊢
 obtain ⟨a,b,rfl,ha,hb⟩:=hv.two_inv
 have e:Zf opn ev 6 n [33,61] (okv [a,b])=(ZQ (decide (¬ a=b)),0):=by kernel_rfl
 have hl:=Z41 (opn:=opn) (ev:=ev) (o:=11) (a:=a) (b:=b) (v:=ZQ (decide (a=b))) (st0:=st0) rfl rfl
 rw [Z2x (a=b) (¬ a=b) Iff.rfl] at hl
 rw [e]
 exact hl
theorem ZlS:PL ⟨6,[62],[1,1],2,[10,12]⟩:=by
 intro opn ev n st0 vs hv
 dsimp only at hv ⊢
 obtain ⟨a,b,rfl,ha,hb⟩:=hv.two_inv
 have e:Zf opn ev 6 n [62] (okv [a,b])=(ZQ (decide (b<a)),0):=by kernel_rfl
 have hl:=Z41 (opn:=opn) (ev:=ev) (o:=10) (a:=a) (b:=b) (v:=ZQ (decide (a≤b))) (st0:=st0) rfl rfl
 rw [Z2x (a≤b) (b<a) (by omega)] at hl
 rw [e]
 exact hl
theorem ZlT:PL ⟨6,[62,61],[1,1],2,[9,12]⟩:=by
 intro opn ev n st0 vs hv
 dsimp only at hv ⊢
 obtain ⟨a,b,rfl,ha,hb⟩:=hv.two_inv
 have e:Zf opn ev 6 n [62,61] (okv [a,b])=(ZQ (decide (b≤a)),0):=by kernel_rfl
 have hl:=Z41 (opn:=opn) (ev:=ev) (o:=9) (a:=a) (b:=b) (v:=ZQ (decide (a<b))) (st0:=st0) rfl rfl
 rw [Z2x (a<b) (b≤a) (by omega)] at hl
 rw [e]
 exact hl
theorem ZlU:PL ⟨6,[60],[3,3],2,[9]⟩:=by
 intro opn ev n st0 vs hv
 dsimp only at hv ⊢
 obtain ⟨a,b,rfl,ha,hb⟩:=hv.two_inv
 have e:Zf opn ev 6 n [60] (okv [a,b])=ZI opn 9 a b:=by kernel_rfl
 rw [e]
 exact JL rfl
theorem ZlV:PL ⟨6,[60,61],[3,3],2,[10]⟩:=by
 intro opn ev n st0 vs hv
 dsimp only at hv ⊢
 obtain ⟨a,b,rfl,ha,hb⟩:=hv.two_inv
 have e:Zf opn ev 6 n [60,61] (okv [a,b])=ZI opn 10 a b:=by kernel_rfl
 rw [e]
 exact JL rfl
theorem ZlW:PL ⟨6,[61],[3,3],2,[11]⟩:=by
 intro opn ev n st0 vs hv
 dsimp only at hv ⊢
 obtain ⟨a,b,rfl,ha,hb⟩:=hv.two_inv
 have e:Zf opn ev 6 n [61] (okv [a,b])=ZI opn 11 a b:=by kernel_rfl
 rw [e]
 exact JL rfl
theorem ZlX:PL ⟨6,[33,61],[3,3],2,[11,12]⟩:=by
 intro opn ev n st0 vs hv
 dsimp only at hv ⊢
 obtain ⟨a,b,rfl,ha,hb⟩:=hv.two_inv
 have e:Zf opn ev 6 n [33,61] (okv [a,b])=(ZQ (decide (¬ a=b)),0):=by kernel_rfl
 have hl:=Z41 (opn:=opn) (ev:=ev) (o:=11) (a:=a) (b:=b) (v:=ZQ (decide (a=b))) (st0:=st0) rfl rfl
 rw [Z2x (a=b) (¬ a=b) Iff.rfl] at hl
 rw [e]
 exact hl
theorem ZlY:PL ⟨6,[62],[3,3],2,[10,12]⟩:=by
 intro opn ev n st0 vs hv
 dsimp only at hv ⊢
 obtain ⟨a,b,rfl,ha,hb⟩:=hv.two_inv
 have e:Zf opn ev 6 n [62] (okv [a,b])=(ZQ (decide (b<a)),0):=by kernel_rfl
 have hl:=Z41 (opn:=opn) (ev:=ev) (o:=10) (a:=a) (b:=b) (v:=ZQ (decide (a≤b))) (st0:=st0) rfl rfl
 rw [Z2x (a≤b) (b<a) (by omega)] at hl
 rw [e]
 exact hl
theorem ZlZ:PL ⟨6,[62,61],[3,3],2,[9,12]⟩:=by
 intro opn ev n st0 vs hv
 dsimp only at hv ⊢
 obtain ⟨a,b,rfl,ha,hb⟩:=hv.two_inv
 have e:Zf opn ev 6 n [62,61] (okv [a,b])=(ZQ (decide (b≤a)),0):=by kernel_rfl
 have hl:=Z41 (opn:=opn) (ev:=ev) (o:=9) (a:=a) (b:=b) (v:=ZQ (decide (a<b))) (st0:=st0) rfl rfl
 rw [Z2x (a<b) (b≤a) (by omega)] at hl
 rw [e]
 exact hl
theorem ZhD:∀ r∈Z1s,PL r:=by
 unfold Z1s
 refine Xa.2 ⟨pl0,?_⟩
 refine Xa.2 ⟨pl1,?_⟩
 refine Xa.2 ⟨pl2,?_⟩
 refine Xa.2 ⟨pl3,?_⟩
 refine Xa.2 ⟨pl4,?_⟩
 refine Xa.2 ⟨pl5,?_⟩
 refine Xa.2 ⟨pl6,?_⟩
 refine Xa.2 ⟨pl7,?_⟩
 refine Xa.2 ⟨pl8,?_⟩
 refine Xa.2 ⟨pl9,?_⟩
 refine Xa.2 ⟨ZlG,?_⟩
 refine Xa.2 ⟨ZlH,?_⟩
 refine Xa.2 ⟨ZlI,?_⟩
 refine Xa.2 ⟨ZlJ,?_⟩
 refine Xa.2 ⟨ZlK,?_⟩
 refine Xa.2 ⟨ZlL,?_⟩
 refine Xa.2 ⟨ZlM,?_⟩
 refine Xa.2 ⟨ZlN,?_⟩
 refine Xa.2 ⟨ZlO,?_⟩
 refine Xa.2 ⟨ZlP,?_⟩
 refine Xa.2 ⟨ZlQ,?_⟩
 refine Xa.2 ⟨ZlR,?_⟩
 refine Xa.2 ⟨ZlS,?_⟩
 refine Xa.2 ⟨ZlT,?_⟩
 refine Xa.2 ⟨ZlU,?_⟩
 refine Xa.2 ⟨ZlV,?_⟩
 refine Xa.2 ⟨ZlW,?_⟩
 refine Xa.2 ⟨ZlX,?_⟩
 refine Xa.2 ⟨ZlY,?_⟩
 refine Xa.2 ⟨ZlZ,?_⟩
 intro r h
 cases h
theorem Z8R (opn:Int→Bool) (ev:List Int) (n:Int) (st0 vs:List Int) (r:Z86) (hr:r∈Z1s) (hv:Ja r.ts vs):Z1S opn ev r.L st0 vs (Zf opn ev r.k n r.s (okv vs)):=ZhD r hr opn ev n st0 vs hv
def POv (r:Z86):Prop:=∀ (opn:Int→Bool) (ev:List Int) (hev:Z84 ev) (n:Int) (vs:List Int),Ja r.ts vs→(Zf opn ev r.k n r.s (okv vs)).2=0→vOk r.t (Zf opn ev r.k n r.s (okv vs)).1
theorem po0:POv ⟨5,[45],[1],1,[8]⟩:=by
 intro opn ev hev n vs hv he
 dsimp only at hv he ⊢
 obtain ⟨b,rfl,hb⟩:=hv.one_inv
 have e:Zf opn ev 5 n [45] (okv [b])=Z1p opn 8 b:=by kernel_rfl
 rw [e] at he ⊢
 have h1:=hb.n
 show vOk 1 (-b)
 unfold vOk
 omega
theorem po1:POv ⟨5,[110,111,116],[2],2,[12]⟩:=by
 intro opn ev hev n vs hv he
 dsimp only at hv he ⊢
 obtain ⟨b,rfl,hb⟩:=hv.one_inv
 have e:Zf opn ev 5 n [110,111,116] (okv [b])=Z1p opn 12 b:=by kernel_rfl
 rw [e] at he ⊢
 have h1:=hb.b
 show vOk 2 (1 - b)
 unfold vOk
 omega
theorem po2:POv ⟨10,[110,101,120,116],[3],3,[19]⟩:=by
 intro opn ev hev n vs hv he
 dsimp only at hv he ⊢
 obtain ⟨b,rfl,hb⟩:=hv.one_inv
 have e:Zf opn ev 10 n [110,101,120,116] (okv [b])=Z1p opn 19 b:=by kernel_rfl
 rw [e] at he ⊢
 exact .days (Z1r (opn:=opn) (step:=1) (d:=b) he).1
theorem po3:POv ⟨10,[112,114,101,118],[3],3,[20]⟩:=by
 intro opn ev hev n vs hv he
 dsimp only at hv he ⊢
 obtain ⟨b,rfl,hb⟩:=hv.one_inv
 have e:Zf opn ev 10 n [112,114,101,118] (okv [b])=Z1p opn 20 b:=by kernel_rfl
 rw [e] at he ⊢
 exact .days (Z1r (opn:=opn) (step:=-1) (d:=b) he).1
theorem po4:POv ⟨10,[108,97,116,101,114],[3,3],3,[21]⟩:=by
 intro opn ev hev n vs hv he
 dsimp only at hv he ⊢
 obtain ⟨a,b,rfl,ha,hb⟩:=hv.two_inv
 have e:Zf opn ev 10 n [108,97,116,101,114] (okv [a,b])=ZI opn 21 a b:=by kernel_rfl
 rw [e] at he ⊢
 have h1:=ha.d
 have h2:=hb.d
 show vOk 3 (max a b)
 unfold vOk
 omega
theorem po5:POv ⟨10,[101,97,114,108,105,101,114],[3,3],3,[22]⟩:=by
 intro opn ev hev n vs hv he
 dsimp only at hv he ⊢
 obtain ⟨a,b,rfl,ha,hb⟩:=hv.two_inv
 have e:Zf opn ev 10 n [101,97,114,108,105,101,114] (okv [a,b])=ZI opn 22 a b:=by kernel_rfl
 rw [e] at he ⊢
 have h1:=ha.d
 have h2:=hb.d
 show vOk 3 (min a b)
 unfold vOk
 omega
theorem po6:POv ⟨10,[98,101,116,119,101,101,110],[3,3],1,[23]⟩:=by
 intro opn ev hev n vs hv he
 dsimp only at hv he ⊢
 obtain ⟨a,b,rfl,ha,hb⟩:=hv.two_inv
 have e:Zf opn ev 10 n [98,101,116,119,101,101,110] (okv [a,b])=ZI opn 23 a b:=by kernel_rfl
 rw [e] at he ⊢
 have h1:=ha.d
 have h2:=hb.d
 show vOk 1 (b - a)
 unfold vOk
 omega
theorem po7:POv ⟨7,[100,97,121,115],[3,1],3,[15]⟩:=by
 intro opn ev hev n vs hv he
 dsimp only at hv he ⊢
 obtain ⟨a,b,rfl,ha,hb⟩:=hv.two_inv
 have e:Zf opn ev 7 n [100,97,121,115] (okv [a,b])=ZI opn 15 a b:=by kernel_rfl
 rw [e] at he ⊢
 exact Z3q he
theorem po8:POv ⟨7,[119,101,101,107,115],[3,1],3,[16]⟩:=by
 intro opn ev hev n vs hv he
 dsimp only at hv he ⊢
 obtain ⟨a,b,rfl,ha,hb⟩:=hv.two_inv
 have e:Zf opn ev 7 n [119,101,101,107,115] (okv [a,b])=ZI opn 16 a b:=by kernel_rfl
 rw [e] at he ⊢
 exact Z3q he
theorem po9:POv ⟨7,[109,111,110,116,104,115],[3,1],3,[17]⟩:=by
 intro opn ev hev n vs hv he
 dsimp only at hv he ⊢
 obtain ⟨a,b,rfl,ha,hb⟩:=hv.two_inv
 have e:Zf opn ev 7 n [109,111,110,116,104,115] (okv [a,b])=ZI opn 17 a b:=by kernel_rfl
 rw [e] at he ⊢
 exact .days (Z6X he)
theorem Zm0:POv ⟨7,[99,111,117,114,116,100,97,121,115],[3,1],3,[18]⟩:=by
 intro opn ev hev n vs hv he
 dsimp only at hv he ⊢
 obtain ⟨a,b,rfl,ha,hb⟩:=hv.two_inv
 have e:Zf opn ev 7 n [99,111,117,114,116,100,97,121,115] (okv [a,b])=ZI opn 18 a b:=by kernel_rfl
 rw [e] at he ⊢
 exact .days (Z6W he)
theorem Zm1:POv ⟨8,[100,97,121,115],[3,1],3,[8,15]⟩:=by
 intro opn ev hev n vs hv he
 dsimp only at hv he ⊢
 obtain ⟨a,b,rfl,ha,hb⟩:=hv.two_inv
 have e:Zf opn ev 8 n [100,97,121,115] (okv [a,b])=ZI opn 15 a (-b):=by kernel_rfl
 rw [e] at he ⊢
 exact Z3q he
theorem Zm2:POv ⟨8,[119,101,101,107,115],[3,1],3,[8,16]⟩:=by
 intro opn ev hev n vs hv he
 dsimp only at hv he ⊢
 obtain ⟨a,b,rfl,ha,hb⟩:=hv.two_inv
 have e:Zf opn ev 8 n [119,101,101,107,115] (okv [a,b])=ZI opn 16 a (-b):=by kernel_rfl
 rw [e] at he ⊢
 exact Z3q he
theorem Zm3:POv ⟨8,[109,111,110,116,104,115],[3,1],3,[8,17]⟩:=by
 intro opn ev hev n vs hv he
 dsimp only at hv he ⊢
 obtain ⟨a,b,rfl,ha,hb⟩:=hv.two_inv
 have e:Zf opn ev 8 n [109,111,110,116,104,115] (okv [a,b])=ZI opn 17 a (-b):=by kernel_rfl
 rw [e] at he ⊢
 exact .days (Z6X he)
theorem Zm4:POv ⟨8,[99,111,117,114,116,100,97,121,115],[3,1],3,[8,18]⟩:=by
 intro opn ev hev n vs hv he
 dsimp only at hv he ⊢
 obtain ⟨a,b,rfl,ha,hb⟩:=hv.two_inv
 have e:Zf opn ev 8 n [99,111,117,114,116,100,97,121,115] (okv [a,b])=ZI opn 18 a (-b):=by kernel_rfl
 rw [e] at he ⊢
 exact .days (Z6W he)
theorem Zm5:POv ⟨6,[43],[1,1],1,[5]⟩:=by
 intro opn ev hev n vs hv he
 dsimp only at hv he ⊢
 obtain ⟨a,b,rfl,ha,hb⟩:=hv.two_inv
 have e:Zf opn ev 6 n [43] (okv [a,b])=ZI opn 5 a b:=by kernel_rfl
 rw [e] at he ⊢
 exact Z4E he
theorem Zm6:POv ⟨6,[45],[1,1],1,[6]⟩:=by
 intro opn ev hev n vs hv he
 dsimp only at hv he ⊢
 obtain ⟨a,b,rfl,ha,hb⟩:=hv.two_inv
 have e:Zf opn ev 6 n [45] (okv [a,b])=ZI opn 6 a b:=by kernel_rfl
 rw [e] at he ⊢
 exact Z4E he
theorem Zm7:POv ⟨6,[42],[1,1],1,[7]⟩:=by
 intro opn ev hev n vs hv he
 dsimp only at hv he ⊢
 obtain ⟨a,b,rfl,ha,hb⟩:=hv.two_inv
 have e:Zf opn ev 6 n [42] (okv [a,b])=ZI opn 7 a b:=by kernel_rfl
 rw [e] at he ⊢
 exact Z4E he
theorem Zm8:POv ⟨6,[60],[1,1],2,[9]⟩:=by
 intro opn ev hev n vs hv he
 dsimp only at hv he ⊢
 obtain ⟨a,b,rfl,ha,hb⟩:=hv.two_inv
 have e:Zf opn ev 6 n [60] (okv [a,b])=ZI opn 9 a b:=by kernel_rfl
 rw [e] at he ⊢
 exact Z0o _
theorem Zm9:POv ⟨6,[60,61],[1,1],2,[10]⟩:=by
 intro opn ev hev n vs hv he
 dsimp only at hv he ⊢
 obtain ⟨a,b,rfl,ha,hb⟩:=hv.two_inv
 have e:Zf opn ev 6 n [60,61] (okv [a,b])=ZI opn 10 a b:=by kernel_rfl
 rw [e] at he ⊢
 exact Z0o _
theorem Zma:POv ⟨6,[61],[1,1],2,[11]⟩:=by
 intro opn ev hev n vs hv he
 dsimp only at hv he ⊢
 obtain ⟨a,b,rfl,ha,hb⟩:=hv.two_inv
 have e:Zf opn ev 6 n [61] (okv [a,b])=ZI opn 11 a b:=by kernel_rfl
 rw [e] at he ⊢
 exact Z0o _
theorem Zmb:POv ⟨6,[33,61],[1,1],2,[11,12]⟩:=by
 intro opn ev hev n vs hv he
 dsimp only at hv he ⊢
 obtain ⟨a,b,rfl,ha,hb⟩:=hv.two_inv
 have e:Zf opn ev 6 n [33,61] (okv [a,b])=(ZQ (decide (¬ a=b)),0):=by kernel_rfl
 rw [e]
 exact Z0o _
theorem Zmc:POv ⟨6,[62],[1,1],2,[10,12]⟩:=by
 intro opn ev hev n vs hv he
 dsimp only at hv he ⊢
 obtain ⟨a,b,rfl,ha,hb⟩:=hv.two_inv
 have e:Zf opn ev 6 n [62] (okv [a,b])=(ZQ (decide (b<a)),0):=by kernel_rfl
 rw [e]
 exact Z0o _
theorem Zmd:POv ⟨6,[62,61],[1,1],2,[9,12]⟩:=by
 intro opn ev hev n vs hv he
 dsimp only at hv he ⊢
 obtain ⟨a,b,rfl,ha,hb⟩:=hv.two_inv
 have e:Zf opn ev 6 n [62,61] (okv [a,b])=(ZQ (decide (b≤a)),0):=by kernel_rfl
 rw [e]
 exact Z0o _
theorem Zme:POv ⟨6,[60],[3,3],2,[9]⟩:=by
 intro opn ev hev n vs hv he
 dsimp only at hv he ⊢
 obtain ⟨a,b,rfl,ha,hb⟩:=hv.two_inv
 have e:Zf opn ev 6 n [60] (okv [a,b])=ZI opn 9 a b:=by kernel_rfl
 rw [e] at he ⊢
 exact Z0o _
theorem Zmf:POv ⟨6,[60,61],[3,3],2,[10]⟩:=by
 intro opn ev hev n vs hv he
 dsimp only at hv he ⊢
 obtain ⟨a,b,rfl,ha,hb⟩:=hv.two_inv
 have e:Zf opn ev 6 n [60,61] (okv [a,b])=ZI opn 10 a b:=by kernel_rfl
 rw [e] at he ⊢
 exact Z0o _
theorem Zmg:POv ⟨6,[61],[3,3],2,[11]⟩:=by
 intro opn ev hev n vs hv he
 dsimp only at hv he ⊢
 obtain ⟨a,b,rfl,ha,hb⟩:=hv.two_inv
 have e:Zf opn ev 6 n [61] (okv [a,b])=ZI opn 11 a b:=by kernel_rfl
 rw [e] at he ⊢
 exact Z0o _
theorem Zmh:POv ⟨6,[33,61],[3,3],2,[11,12]⟩:=by
 intro opn ev hev n vs hv he
 dsimp only at hv he ⊢
 obtain ⟨a,b,rfl,ha,hb⟩:=hv.two_inv
 have e:Zf opn ev 6 n [33,61] (okv [a,b])=(ZQ (decide (¬ a=b)),0):=by kernel_rfl
 rw [e]
 exact Z0o _
theorem Zmi:POv ⟨6,[62],[3,3],2,[10,12]⟩:=by
 intro opn ev hev n vs hv he
 dsimp only at hv he ⊢
 obtain ⟨a,b,rfl,ha,hb⟩:=hv.two_inv
 have e:Zf opn ev 6 n [62] (okv [a,b])=(ZQ (decide (b<a)),0):=by kernel_rfl
 rw [e]
 exact Z0o _
theorem Zmj:POv ⟨6,[62,61],[3,3],2,[9,12]⟩:=by
 intro opn ev hev n vs hv he
 dsimp only at hv he ⊢
 obtain ⟨a,b,rfl,ha,hb⟩:=hv.two_inv
 have e:Zf opn ev 6 n [62,61] (okv [a,b])=(ZQ (decide (b≤a)),0):=by kernel_rfl
 rw [e]
 exact Z0o _
theorem ZhE:∀ r∈Z1s,POv r:=by
 unfold Z1s
 refine Xa.2 ⟨po0,?_⟩
 refine Xa.2 ⟨po1,?_⟩
 refine Xa.2 ⟨po2,?_⟩
 refine Xa.2 ⟨po3,?_⟩
 refine Xa.2 ⟨po4,?_⟩
 refine Xa.2 ⟨po5,?_⟩
 refine Xa.2 ⟨po6,?_⟩
 refine Xa.2 ⟨po7,?_⟩
 refine Xa.2 ⟨po8,?_⟩
 refine Xa.2 ⟨po9,?_⟩
 refine Xa.2 ⟨Zm0,?_⟩
 refine Xa.2 ⟨Zm1,?_⟩
 refine Xa.2 ⟨Zm2,?_⟩
 refine Xa.2 ⟨Zm3,?_⟩
 refine Xa.2 ⟨Zm4,?_⟩
 refine Xa.2 ⟨Zm5,?_⟩
 refine Xa.2 ⟨Zm6,?_⟩
 refine Xa.2 ⟨Zm7,?_⟩
 refine Xa.2 ⟨Zm8,?_⟩
 refine Xa.2 ⟨Zm9,?_⟩
 refine Xa.2 ⟨Zma,?_⟩
 refine Xa.2 ⟨Zmb,?_⟩
 refine Xa.2 ⟨Zmc,?_⟩
 refine Xa.2 ⟨Zmd,?_⟩
 refine Xa.2 ⟨Zme,?_⟩
 refine Xa.2 ⟨Zmf,?_⟩
 refine Xa.2 ⟨Zmg,?_⟩
 refine Xa.2 ⟨Zmh,?_⟩
 refine Xa.2 ⟨Zmi,?_⟩
 refine Xa.2 ⟨Zmj,?_⟩
 intro r h
 cases h
theorem ZbX (opn:Int→Bool) (ev:List Int) (hev:Z84 ev) (n:Int) (vs:List Int) (r:Z86) (hr:r∈Z1s) (hv:Ja r.ts vs) (he:(Zf opn ev r.k n r.s (okv vs)).2=0):vOk r.t (Zf opn ev r.k n r.s (okv vs)).1:=ZhE r hr opn ev hev n vs hv he
def JM:List (Int×Int)→Int
 | []=>0
 | r :: l=>if r.2=0 then JM l else r.2
theorem Zeb:∀ r∈Z1s,(¬ (r.k=1∨r.k=2∨r.k=3)∧¬ r.k=4∧¬ r.k=9)∧¬ (r.k=6∧(r.s=[97,110,100]∨r.s=[111,114]))∧(r.ts.length=1∨r.ts.length=2):=by decide +kernel
theorem Z6d (opn:Int→Bool) (ev:List Int) (n:Int) (rs:List (Int×Int)) (r:Z86) (hr:r∈Z1s) (hl:rs.length=r.ts.length) (he:JM rs≠0):Zf opn ev r.k n r.s rs=(0,JM rs):=by
 obtain ⟨⟨h1,h4,h9⟩,hao,hlen⟩:=Zeb r hr
 unfold Zf
 rw [if_neg h1,if_neg h4]
 rcases hlen with h|h
 rw [h] at hl
 obtain ⟨a,rfl⟩:=List.length_eq_one_iff.1 hl
 have ha:¬ a.2=0:=fun h0=>he (by simp [JM,h0])
 have e1:([a]:List (Int×Int)).getD 0 (0,0)=a:=rfl
 rw [e1,if_pos ha]
 simp [JM,ha]
 rw [h] at hl
 obtain ⟨a,b,rfl⟩:=Z9v hl
 have e1:([a,b]:List (Int×Int)).getD 0 (0,0)=a:=rfl
 have e2:([a,b]:List (Int×Int)).getD 1 (0,0)=b:=rfl
 rw [e1,e2]
 by_cases ha:a.2=0
 have hb:¬ b.2=0:=fun h0=>he (by simp [JM,ha,h0])
 have h5:¬ r.k=5:=by
  have:∀ r∈Z1s,r.k=5→r.ts.length=1:=by decide +kernel
  intro h5
  rw [this r hr h5] at h
  cases h
 rw [if_neg (fun h=>h ha),if_neg h5,if_neg h9,if_neg (by simp),if_neg (fun h=>hao ⟨h.1,h.2.elim (fun x=>.inl x.1) (fun x=>.inr x.1)⟩),if_pos hb]
 simp [JM,ha,hb]
 rw [if_pos ha]
 simp [JM,ha]
theorem Z2i (opn:Int→Bool) (ev:List Int) (hev:Z84 ev) (x:Nd):Zr x≠0→(Z6 opn ev x).2=0→vOk (Zr x) (Z6 opn ev x).1:=by
 induction x using Nd.ind with
 | h k n s l ih=>
 intro ht he
 have hkid:∀ y∈l,Zr y≠0:=fun y hy=>Z6b (x:=.mk k n s l) ht hy
 have hev2:Z6 opn ev (.mk k n s l)=Zf opn ev k n s (l.map (Z6 opn ev)):=Z1q _ _ _
 rw [hev2] at he ⊢
 rcases Z5q ht with ⟨rfl,hlf⟩|⟨rfl,a,b,c,rfl,ta,tb,tc⟩|⟨rfl,hs,a,b,rfl,ta,tb,ht2⟩|⟨r,hr,rfl,rfl,hts,htt⟩
 rcases hlf with ⟨hk,ht2,hv⟩|⟨rfl,i,hi,rfl,hf,ht2⟩
 rw [ht2]
 unfold Zf
 rw [if_pos hk]
 exact hv
 have e:Zf opn ev 4 n (Zj.getD i []) (List.map (Z6 opn ev) [])=Z40 ev (i:Int):=by
  unfold Zf
  rw [if_neg (by decide),if_pos rfl,hf]
 rw [e] at he ⊢
 rw [ht2]
 unfold Z40 at he ⊢
 split at he
 simp at he
 rename_i h1
 rw [if_neg h1]
 have h0:=hev.day
 have hs1:=hev.served
 rw [YaB]
 by_cases h01:i≤1
 rw [if_pos h01]
 right;right
 have h01:i=0∨i=1:=by omega
 rcases h01 with rfl|rfl
 exact ⟨rfl,h0.1,h0.2⟩
 refine ⟨rfl,?_,hs1.2⟩
 have:¬ ev.getD 1 0=-1:=fun h=>h1 ⟨rfl,h⟩
 show 0≤ev.getD 1 0
 omega
 rw [if_neg h01]
 left
 exact ⟨rfl,hev.rest i (by omega) (by omega)⟩
 have em:[a,b,c].map (Z6 opn ev)=[Z6 opn ev a,Z6 opn ev b,Z6 opn ev c]:=rfl
 have e0:[Z6 opn ev a,Z6 opn ev b,Z6 opn ev c].getD 0 (0,0)=Z6 opn ev a:=rfl
 rw [em] at he ⊢
 unfold Zf at he ⊢
 rw [if_neg (by decide),if_neg (by decide),e0] at he ⊢
 by_cases ha:(Z6 opn ev a).2=0
 rw [if_neg (fun h=>h ha),if_neg (by decide),if_pos rfl] at he ⊢
 have hva:=(ih a (by simp) (hkid a (by simp)) ha)
 rw [ta] at hva
 rcases hva.b with h0|h1
 rw [h0] at he ⊢
 rw [← tc]
 exact ih c (by simp) (hkid c (by simp)) he
 rw [h1] at he ⊢
 rw [← tb]
 exact ih b (by simp) (hkid b (by simp)) he
 rw [if_pos ha] at he
 exact absurd he ha
 rw [ht2]
 have em:[a,b].map (Z6 opn ev)=[Z6 opn ev a,Z6 opn ev b]:=rfl
 have e0:[Z6 opn ev a,Z6 opn ev b].getD 0 (0,0)=Z6 opn ev a:=rfl
 have e1:[Z6 opn ev a,Z6 opn ev b].getD 1 (0,0)=Z6 opn ev b:=rfl
 rw [em] at he ⊢
 unfold Zf at he ⊢
 rw [if_neg (by decide),if_neg (by decide),e0,e1] at he ⊢
 by_cases ha:(Z6 opn ev a).2=0
 rw [if_neg (fun h=>h ha),if_neg (by decide),if_neg (by decide),if_neg (by simp)] at he ⊢
 have hva:=(ih a (by simp) (hkid a (by simp)) ha)
 rw [ta] at hva
 split at he
 rename_i hc
 rw [if_pos hc]
 exact hva
 rename_i hc
 rw [if_neg hc]
 by_cases hb:(Z6 opn ev b).2=0
 rw [if_neg (fun h=>h hb),if_neg (by decide),if_neg (by decide),if_neg (by decide)] at he ⊢
 have hvb:=(ih b (by simp) (hkid b (by simp)) hb)
 rw [tb] at hvb
 rcases hs with rfl|rfl
 exact hvb
 exact hvb
 rw [if_pos hb] at he
 exact absurd he hb
 rw [if_pos ha] at he
 exact absurd he ha
 rw [htt]
 by_cases hf:JM (l.map (Z6 opn ev))=0
 · have hall:∀ y∈l,(Z6 opn ev y).2=0:=by
    have:∀ (rs:List (Int×Int)),JM rs=0→∀ z∈rs,z.2=0:=by
     intro rs
     induction rs with
     | nil=>intro _ z hz;cases hz
     | cons q r ihr=>
       intro h z hz
       rw [JM] at h
       split at h
       rename_i h0
       rcases Xd.1 hz with rfl|hz
       exact h0
       exact ihr h z hz
       rename_i h0;exact absurd h h0
    intro y hy
    exact this _ hf _ (Yag hy)
   have hmap:l.map (Z6 opn ev)=okv (l.map fun y=>(Z6 opn ev y).1):=by
    unfold okv
    rw [YaI]
    refine List.map_congr_left (fun y hy=>?_)
    have:=hall y hy
    exact Prod.ext rfl this
   have hst:Ja r.ts (l.map fun y=>(Z6 opn ev y).1):=by
    rw [← hts]
    refine ⟨by simp,fun i h h'=>?_⟩
    simp only [YaH]
    have hi:i<l.length:=by simpa using h
    exact ih l[i] (Xm hi) (hkid _ (Xm hi)) (hall _ (Xm hi))
   rw [hmap] at he ⊢
   exact ZbX opn ev hev n _ r hr hst he
 rw [Z6d opn ev n _ r hr (by rw [← hts];simp) hf] at he
 exact absurd he hf
end Go.Proofs.YtjdjdoefppebkaaGreatDoor
namespace Go.Eng
open Go Go.RowKit Go.Proofs
end Go.Eng
namespace Go.Proofs.YtjdjdoefppebkaaGreatDoor
open Go Go.Eng Go.RowKit
instance:Z5 Hol where
 k:=9
 enc:=fun h=>[.int .i64 h.kind,.int .i64 h.month,.int .i64 h.day,.int .i64 h.wd,.int .i64 h.nth,.int .i64 h.off,.int .i64 h.move,.int .i64 h.first,.int .i64 h.last]
 len:=fun _=>rfl
 one:=by intro x u hu;simp at hu;rcases hu with rfl|rfl|rfl|rfl|rfl|rfl|rfl|rfl|rfl<;>rfl
instance:Z5 Clo where
 k:=3
 enc:=fun h=>[.int .i64 h.lo,.int .i64 h.hi,.int .i64 h.known]
 len:=fun _=>rfl
 one:=by intro x u hu;simp at hu;rcases hu with rfl|rfl|rfl<;>rfl
instance:Z5 Spn where
 k:=2
 enc:=fun h=>[.int .i64 h.1,.int .i64 h.2]
 len:=fun _=>rfl
 one:=by intro x u hu;simp at hu;rcases hu with rfl|rfl<;>rfl
def Z42:List Int:=[0,0,0,0,0,0,0,0,0,0,0,0,2,1,0,0,0,0,0,-1,1]
def Z31 (w:World):Prop:=∀ i u,Z42[i]?=some u→w.cell? ⟨3,i,none⟩=some (.int .i64 u)
theorem Z31.ext {S:List Nat} {w w':World} (h:Z31 w) (hS:Stp S w w') (hb:3∉S):Z31 w':=fun i u hu=>hS.cell hb (h i u hu)
theorem Z31.up {w w':World} (h:Z31 w) (hS:Stp [] w w'):Z31 w':=h.ext hS (by simp)
structure MK where
 w0:World
 bm:Nat
 nk:Option Nat
 ev:List Int
 c:Cal
 kn:Int
 hv:Value
 cv:Value
 zo:Value
 zs:Value
 hr:Value
 pr:List (Nat×Obj)
def Z0d (c:Cal) (hv cv zo zs hr:Value):List Value:=
 [.bool (c.week.getD 0 false),.bool (c.week.getD 1 false),.bool (c.week.getD 2 false),.bool (c.week.getD 3 false),.bool (c.week.getD 4 false),.bool (c.week.getD 5 false),.bool (c.week.getD 6 false),hv,cv,zo,zs,hr]
def evC (ev:List Int):List Value:=[.int .i64 (ev.getD 0 0),.int .i64 (ev.getD 1 0),.int .i64 (ev.getD 2 0),.int .i64 (ev.getD 3 0),.int .i64 (ev.getD 4 0),.int .i64 (ev.getD 5 0),.int .i64 (ev.getD 6 0)]
def Zec (nk:Option Nat):Value:=match nk with|none=>.func (.func 57) #[] #[]|some bs=>.func (.func 78) #[] #[.pointer (some ⟨bs,0,none⟩)]
def Z0C (K:MK) (sv:Value) (at_ er:Int) (dn:Bool):List Value:=
 evC K.ev++Z0d K.c K.hv K.cv K.zo K.zs K.hr++[.int .i64 K.kn,sv,.int .i64 at_,.int .i64 er,.bool dn,Zec K.nk]
def MK.own (K:MK):List Nat:=K.bm :: K.nk.toList
structure KOk (K:MK):Prop where
 hols:SlV K.own K.w0 K.hv K.c.hols
 clos:SlV K.own K.w0 K.cv K.c.clos
 ozo:K.zo.oneCell'=true
 ozs:K.zs.oneCell'=true
 ohr:K.hr.oneCell'=true
 len:Z0b K.w0
 mov:Z31 K.w0
 bml:K.bm<K.w0.heap.size
 nkl:∀ b,K.nk=some b→b<K.w0.heap.size∧b≠K.bm
 gl:∀ b∈K.own,b≠1∧b≠3
 cal:Ze8 K.c
 ev:Z84 K.ev
structure Mch (K:MK) (w:World) (sv pv:Value) (st:List Int) (sp:List Spn) (at_ er:Int) (dn:Bool):Prop where
 blk:Blk w K.bm 126 (Z0C K sv at_ er dn)
 row:Row [] w K.w0.heap.size 3 sv st
 nt:∀ bs,K.nk=some bs→Blk w bs 45 [pv]∧Row [] w K.w0.heap.size 111 pv sp
 nt0:K.nk=none→pv=.slice none 0 0
 ap:∀ b∈ob sv,b∉ob pv
 stp:Stp K.own K.w0 w
 prot:∀ p∈K.pr,w.heap[p.1]?=some p.2∧p.1∉K.own∧p.1∉ob sv∧p.1∉ob pv
section
variable {K:MK} {w w':World} {sv pv:Value} {st:List Int} {sp:List Spn} {at_ er:Int} {dn:Bool}
theorem Mch.up (h:Mch K w sv pv st sp at_ er dn) (hS:Stp [] w w'):Mch K w' sv pv st sp at_ er dn:=
 ⟨h.blk.up hS,h.row.up hS,fun bs hb=>⟨(h.nt bs hb).1.up hS,(h.nt bs hb).2.up hS⟩,h.nt0,h.ap,h.stp.trans (hS.mono (by simp)),fun p hp=>let ⟨a,b,c,d⟩:=h.prot p hp;⟨(hS.block p.1 (Array.getElem?_eq_some_iff.1 a).1 (by simp)).trans a,b,c,d⟩⟩
theorem Mch.own_lt (hK:KOk K):∀ b∈K.own,b<K.w0.heap.size:=by
 intro b hb
 rcases Xd.1 hb with rfl|h
 exact hK.bml
 exact (hK.nkl b (by simpa using h)).1
theorem Mch.hols (hK:KOk K) (h:Mch K w sv pv st sp at_ er dn):SlV K.own w K.hv K.c.hols:=hK.hols.ext h.stp (fun b hb=>hb) (fun b hb=>.inl hb)
theorem Mch.clos (hK:KOk K) (h:Mch K w sv pv st sp at_ er dn):SlV K.own w K.cv K.c.clos:=hK.clos.ext h.stp (fun b hb=>hb) (fun b hb=>.inl hb)
theorem Mch.len (hK:KOk K) (h:Mch K w sv pv st sp at_ er dn):Z0b w:=hK.len.ext h.stp (fun hb=>(hK.gl _ hb).1 rfl)
theorem Mch.mov (hK:KOk K) (h:Mch K w sv pv st sp at_ er dn):Z31 w:=hK.mov.ext h.stp (fun hb=>(hK.gl _ hb).2 rfl)
theorem Mch.put (hK:KOk K) (h:Mch K w sv pv st sp at_ er dn) {at' er':Int} {dn':Bool} (hS:Stp [K.bm] w w') (hb:Blk w' K.bm 126 (Z0C K sv at' er' dn')):Mch K w' sv pv st sp at' er' dn':=by
 have hl:∀ v,(∀ b∈ob v,K.w0.heap.size≤b)→∀ b∈[K.bm],b∉ob v:=fun v hv b hb h2=>by
  have:=hK.bml
  have:=hv b h2
  simp at hb
  omega
 refine ⟨hb,h.row.keep hS (hl _ (fun b hb=>(h.row.ob_le b hb).1)),fun bs hbs=>?_,h.nt0,h.ap,h.stp.trans (hS.mono (by simp [MK.own])),fun p hp=>let ⟨a,b,c,d⟩:=h.prot p hp;⟨(hS.block p.1 (Array.getElem?_eq_some_iff.1 a).1 (fun e=>b (by simp at e;rw [e];exact YaA))).trans a,b,c,d⟩⟩
 obtain ⟨h1,h2⟩:=h.nt bs hbs
 exact ⟨h1.ext hS (by have:=(hK.nkl bs hbs).2;simpa using this),h2.keep hS (hl _ (fun b hb=>(h2.ob_le b hb).1))⟩
theorem Mch.stack (hK:KOk K) (h:Mch K w sv pv st sp at_ er dn) {sv':Value} {st':List Int} {w2:World} (hS:Stp (ob sv) w w') (hr:Row [] w' K.w0.heap.size 3 sv' st') (ho:∀ b∈ob sv',b∈ob sv∨w.heap.size≤b)
 (hS2:Stp [K.bm] w' w2) (hb:Blk w2 K.bm 126 (Z0C K sv' at_ er dn)):Mch K w2 sv' pv st' sp at_ er dn:=by
 have hbm:=hK.bml
 have hge:=fun b hb=>(hr.ob_le b hb).1
 have hge0:=fun b hb=>(h.row.ob_le b hb).1
 have hl:=h.stp.size
 refine ⟨hb,hr.keep hS2 (fun b hb h2=>by have:=hge b h2;simp at hb;omega),fun bs hbs=>?_,h.nt0,fun b hb hp=>?_,?_,fun p hp=>?_⟩
 obtain ⟨h1,h2⟩:=h.nt bs hbs
 have hn:=hK.nkl bs hbs
 have hge1:=fun b hb=>(h2.ob_le b hb).1
 refine ⟨(h1.ext hS (fun hx=>by have:=hge0 _ hx;omega)).ext hS2 (by simpa using hn.2),(h2.keep hS (fun b hb=>h.ap b hb)).keep hS2 (fun b hb hx=>by have:=hge1 _ hx;simp at hb;omega)⟩
 · cases hk:K.nk with
   | none=>rw [h.nt0 hk] at hp;simp [ob] at hp
   | some bs=>
     obtain ⟨h1,h2⟩:=h.nt bs hk
     rcases ho b hb with h3|h3
     exact h.ap b h3 hp
     have:=(h2.ob_le b hp).2
     omega
 refine (h.stp.own (S':=ob sv) hS (fun b hb=>.inr (hge0 b hb))).trans (hS2.mono (by simp [MK.own]))
 obtain ⟨a,b,c,d⟩:=h.prot p hp
 have hlt:=(Array.getElem?_eq_some_iff.1 a).1
 have a2:=(hS.block p.1 hlt c).trans a
 have a3:=(hS2.block p.1 (Array.getElem?_eq_some_iff.1 a2).1 (fun e=>b (by simp at e;rw [e];exact YaA))).trans a2
 exact ⟨a3,b,fun h3=>(ho _ h3).elim c (fun h4=>by omega),d⟩
theorem ZbY (hK:KOk K) (h:Mch K w sv pv st sp at_ er dn) (n e:Int) (hl:st.length≤100000) :
 CC 202 #[.pointer (some ⟨K.bm,0,none⟩),.int .i64 n,.int .i64 e] w fun r w'=>r=.tuple #[]∧∃ sv',Mch K w' sv' pv (if e=0 then st++[n] else st) sp at_ (if e=0 then er else e) (if e=0 then dn else true):=by
 have hblk:=h.blk
 have hrow:=h.row
 unfold Z0C at hblk
 refine cW3 25 Tryz.func202 ?_
 by_cases he:e=0
 subst he
 rw [if_pos rfl,if_pos rfl,if_pos rfl]
 focus repeat'(first|refine W1 ?_|omega|refine VG ?_ ?_<;>intro hg|refine VC ?_ ?_<;>intro hc)
 refine Z0 (Z3 (vs:=[(0,.int .i64 n)]) rfl (Z7n _)) rfl ?_
 rintro bv w1 hN
 have hS1:=ZA.stp hN
 have hbv:SlV (ob sv++[]) w1 bv [n]:=hN.slv (fun b hb=>by simp at hb;exact (hrow.ob_le b hb).2) rfl rfl (by simp [maxLen])
 replace h:=h.up hS1
 replace hrow:=hrow.up hS1
 replace hblk:=hblk.up hS1
 refine Z0 (Jn rfl (by decide) rfl rfl hrow hbv (by simp;omega) (by simp [maxLen];omega) (h.stp.size)) rfl ?_
 rintro sv' w2 ⟨hr2,hS2,ho⟩
 have hblk2:=hblk.ext hS2 (fun hx=>by have:=(hrow.ob_le _ hx).1;have:=hK.bml;omega)
 refine W ?_
 have h1:=hr2.slv (X:=[]) (by simp)
 refine Z1 (Zg (u:=sv') rfl rfl h1.cells h1.one hblk2 (by simp [evC,Z0d])) ?_
 rintro _ w3 ⟨hS3,hblk3⟩
 refine W ?_
 refine WR ?_
 refine .mk ⟨rfl,sv',h.stack hK hS2 hr2 ho hS3 hblk3⟩
 rw [if_neg he,if_neg he,if_neg he]
 focus repeat'(first|refine W1 ?_|omega|refine VG ?_ ?_<;>intro hg|refine VC ?_ ?_<;>intro hc)
 refine Z1 (Zg (u:=.int .i64 e) rfl rfl rfl rfl hblk (by simp [evC,Z0d])) ?_
 rintro _ w1 ⟨hS1,hblk1⟩
 refine W ?_
 refine Z1 (Zg (u:=.bool true) rfl rfl rfl rfl hblk1 (by simp [evC,Z0d])) ?_
 rintro _ w2 ⟨hS2,hblk2⟩
 refine W ?_
 refine WR ?_
 exact .mk ⟨rfl,sv,h.put hK (hS1.trans hS2) hblk2⟩
end
def Res (K:MK) (w:World) (st:List Int) (sp:List Spn) (at_:Int) (r:Int×Int):Prop:=
 ∃ sv pv st2 sp2,Mch K w sv pv st2 sp2 at_ r.2 (decide (¬ r.2=0))∧(r.2=0→st2=st++[r.1]∧sp2=sp)
section
variable {K:MK} {w w':World} {sv pv:Value} {st:List Int} {sp:List Spn} {at_ er:Int} {dn:Bool}
abbrev mP (K:MK):Value:=.pointer (some ⟨K.bm,0,none⟩)
theorem Z2j (hK:KOk K) {v:Int} (h:Mch K w sv pv (st++[v]) sp at_ er dn) :
 CC 59 #[mP K] w fun r w'=>r=.int .i64 v∧(∃ sv',Mch K w' sv' pv st sp at_ er dn)∧Stp [K.bm] w w':=by
 have hblk:=h.blk
 have hrow:=h.row
 unfold Z0C at hblk
 have hs:=hrow.slv (X:=[]) (by simp)
 have hz:((st++[v]).length:Int) - 1=(st.length:Int):=by simp
 have hi:st.length<(st++[v]).length:=by simp
 have hm:=hs.max
 refine cW1 28 Tryz.func59 ?_
 refine W ?_
 refine Z7 (Z2M rfl hs rfl hz (by omega)) rfl ?_
 refine W ?_
 have hc:=hrow.cut (r:=st.length) (by omega)
 rw [X1 rfl] at hc
 have h1:=hc.slv (X:=[]) (by simp)
 refine Z1 (Zg (u:=slc sv 0 st.length 1) rfl rfl h1.cells h1.one hblk (by simp [evC,Z0d])) ?_
 rintro _ w1 ⟨hS1,hblk1⟩
 refine W ?_
 refine WR ?_
 exact .mk ⟨by simp,⟨slc sv 0 st.length 1,h.stack hK (Stp.refl _ _) hc (fun b hb=>.inl (by rw [← Z4O sv st.length 1];exact hb)) hS1 hblk1⟩,hS1⟩
theorem Z0s (hK:KOk K) {v:Int} (h:Mch K w sv pv (st++[v]) sp at_ er dn) :
 CC 59 #[mP K] w fun r w'=>r=.int .i64 v∧∃ sv',Mch K w' sv' pv st sp at_ er dn:=
 Go.Eng.Calls.ret (Z2j hK h) (fun _ _ h=>⟨h.1,h.2.1⟩)
theorem Jb (hK:KOk K) {a b:Int} (h:Mch K w sv pv (st++[a,b]) sp at_ er dn) :
 CC 229 #[mP K] w fun r w'=>r=.tuple #[.int .i64 a,.int .i64 b]∧∃ sv',Mch K w' sv' pv st sp at_ er dn:=by
 refine cW1 10 Tryz.func229 ?_
 refine W ?_
 refine CL rfl (Zk rfl) rfl (Z0s (st:=st++[a]) (v:=b) hK (by simpa using h)) ?_
 rintro _ w1 ⟨rfl,sv1,h1⟩
 refine W ?_
 refine CL rfl (Zk rfl) rfl (Z0s hK h1) ?_
 rintro _ w2 ⟨rfl,sv2,h2⟩
 refine W ?_
 refine WR ?_
 exact .mk ⟨rfl,sv2,h2⟩
theorem Js (hK:KOk K) (h:Mch K w sv pv st sp at_ 0 false) (hl:st.length≤100000) (n e:Int) :
 CC 202 #[mP K,.int .i64 n,.int .i64 e] w fun r w'=>r=.tuple #[]∧Res K w' st sp at_ (n,e):=by
 refine Go.Eng.Calls.ret (ZbY hK h n e hl) ?_
 rintro v w' ⟨rfl,sv',h1⟩
 refine ⟨rfl,sv',pv,if e=0 then st++[n] else st,sp,?_,fun he=>⟨if_pos he,rfl⟩⟩
 by_cases he:e=0
 subst he
 simpa using h1
 simpa [he] using h1
theorem Z9y (hK:KOk K) (h:Mch K w sv pv st sp at_ 0 false) (hl:st.length≤100000) (n a b:Int) :
 CC 280 #[mP K,.int .i64 n,.int .i64 a,.int .i64 b] w fun r w'=>r=.tuple #[]∧Res K w' st sp at_ (if n<a∨b<n then (0,5) else (n,0)):=by
 refine cW4 21 Tryz.func280 ?_
 by_cases hc:n<a∨b<n
 · rw [if_pos hc]
   repeat'(first|refine W1 ?_|omega|refine VG ?_ ?_<;>intro hg|refine VC ?_ ?_<;>intro hc)
   all_goals
    refine CL rfl (J7 rfl rfl rfl) rfl (Js hK h hl 0 5) ?_
    rintro _ w1 ⟨rfl,h1⟩
    refine W ?_
    refine WR ?_
    exact .mk ⟨rfl,h1⟩
 rw [if_neg hc]
 focus repeat'(first|refine W1 ?_|omega|refine VG ?_ ?_<;>intro hg|refine VC ?_ ?_<;>intro hc)
 refine CL rfl (J7 rfl rfl rfl) rfl (Js hK h hl n 0) ?_
 rintro _ w1 ⟨rfl,h1⟩
 refine W ?_
 refine WR ?_
 exact .mk ⟨rfl,h1⟩
theorem Z3s (hK:KOk K) (h:Mch K w sv pv st sp at_ 0 false) (hl:st.length≤100000) (n:Int) :
 CC 230 #[mP K,.int .i64 n] w fun r w'=>r=.tuple #[]∧Res K w' st sp at_ (Z1N n):=by
 refine cW2 7 Tryz.func230 ?_
 refine W ?_
 refine CL rfl (Z2z rfl rfl rfl rfl) rfl (Z9y hK h hl n _ _) ?_
 rintro _ w1 ⟨rfl,h1⟩
 refine W ?_
 refine WR ?_
 exact .mk ⟨rfl,h1⟩
theorem ZjP (hK:KOk K) (h:Mch K w sv pv st sp at_ 0 false) (hl:st.length≤100000) (n:Int) :
 CC 232 #[mP K,.int .i64 n] w fun r w'=>r=.tuple #[]∧Res K w' st sp at_ (Z5E n):=by
 refine cW2 7 Tryz.func232 ?_
 refine W ?_
 refine CL rfl (Z2z rfl rfl rfl rfl) rfl (Z9y hK h hl n _ _) ?_
 rintro _ w1 ⟨rfl,h1⟩
 refine W ?_
 refine WR ?_
 exact .mk ⟨rfl,h1⟩
theorem Z6Z (hK:KOk K) (h:Mch K w sv pv st sp at_ 0 false) (hl:st.length≤100000) (b:Bool) :
 CC 231 #[mP K,.bool b] w fun r w'=>r=.tuple #[]∧Res K w' st sp at_ (ZQ b,0):=by
 refine cW2 9 Tryz.func231 ?_
 cases b
 refine W ?_
 refine CL rfl (J7 rfl rfl rfl) rfl (Js hK h hl 0 0) ?_
 rintro _ w1 ⟨rfl,h1⟩
 refine W ?_
 refine WR ?_
 exact .mk ⟨rfl,h1⟩
 refine W ?_
 refine CL rfl (J7 rfl rfl rfl) rfl (Js hK h hl 1 0) ?_
 rintro _ w1 ⟨rfl,h1⟩
 refine W ?_
 refine WR ?_
 exact .mk ⟨rfl,h1⟩
theorem ZbZ (hK:KOk K) (h:Mch K w sv pv st sp at_ 0 false) (hl:st.length≤100000) (n:Int) :
 CC 109 #[mP K,.int .i64 n] w fun r w'=>r=.tuple #[]∧Res K w' st sp at_ (n,0):=by
 refine cW2 7 Tryz.func109 ?_
 refine W ?_
 refine CL rfl (J7 rfl rfl rfl) rfl (Js hK h hl n 0) ?_
 rintro _ w1 ⟨rfl,h1⟩
 refine W ?_
 refine WR ?_
 exact .mk ⟨rfl,h1⟩
theorem Zmk (hK:KOk K) {a b:Int} (h:Mch K w sv pv (st++[a,b]) sp at_ 0 false) (hl:st.length≤100000) (n:Int) (hr:I64 (a+b)) :
 CC 139 #[mP K,.int .i64 n] w fun r w'=>r=.tuple #[]∧Res K w' st sp at_ (Z1N (a+b)):=by
 try unfold I64 at hr
 refine cW2 16 Tryz.func139 ?_
 refine W ?_
 refine CL rfl (Zk rfl) rfl (Jb hK h) ?_
 rintro _ w1 ⟨rfl,sv1,h1⟩
 refine W ?_
 refine CL rfl (Zb rfl rfl) rfl (Z3s hK h1 hl _) ?_
 rintro _ w2 ⟨rfl,h2⟩
 refine W ?_
 refine WR ?_
 exact .mk ⟨rfl,h2⟩
theorem Zml (hK:KOk K) {a b:Int} (h:Mch K w sv pv (st++[a,b]) sp at_ 0 false) (hl:st.length≤100000) (n:Int) (hr:I64 (a - b)) :
 CC 140 #[mP K,.int .i64 n] w fun r w'=>r=.tuple #[]∧Res K w' st sp at_ (Z1N (a - b)):=by
 try unfold I64 at hr
 refine cW2 16 Tryz.func140 ?_
 refine W ?_
 refine CL rfl (Zk rfl) rfl (Jb hK h) ?_
 rintro _ w1 ⟨rfl,sv1,h1⟩
 refine W ?_
 refine CL rfl (Zb rfl rfl) rfl (Z3s hK h1 hl _) ?_
 rintro _ w2 ⟨rfl,h2⟩
 refine W ?_
 refine WR ?_
 exact .mk ⟨rfl,h2⟩
theorem Zmm (hK:KOk K) {a b:Int} (h:Mch K w sv pv (st++[a,b]) sp at_ 0 false) (hl:st.length≤100000) (n:Int) (hr:I64 (a * b)) :
 CC 141 #[mP K,.int .i64 n] w fun r w'=>r=.tuple #[]∧Res K w' st sp at_ (Z1N (a * b)):=by
 try unfold I64 at hr
 refine cW2 16 Tryz.func141 ?_
 refine W ?_
 refine CL rfl (Zk rfl) rfl (Jb hK h) ?_
 rintro _ w1 ⟨rfl,sv1,h1⟩
 refine W ?_
 refine CL rfl (Zb rfl rfl) rfl (Z3s hK h1 hl _) ?_
 rintro _ w2 ⟨rfl,h2⟩
 refine W ?_
 refine WR ?_
 exact .mk ⟨rfl,h2⟩
theorem ltV (hK:KOk K) {a b:Int} (h:Mch K w sv pv (st++[a,b]) sp at_ 0 false) (hl:st.length≤100000) (n:Int) (hr:True) :
 CC 143 #[mP K,.int .i64 n] w fun r w'=>r=.tuple #[]∧Res K w' st sp at_ ((ZQ (decide (a<b)),0)):=by
 try unfold I64 at hr
 refine cW2 16 Tryz.func143 ?_
 refine W ?_
 refine CL rfl (Zk rfl) rfl (Jb hK h) ?_
 rintro _ w1 ⟨rfl,sv1,h1⟩
 refine W ?_
 refine CL rfl (Zb rfl rfl) rfl (Z6Z hK h1 hl _) ?_
 rintro _ w2 ⟨rfl,h2⟩
 refine W ?_
 refine WR ?_
 exact .mk ⟨rfl,h2⟩
theorem leV (hK:KOk K) {a b:Int} (h:Mch K w sv pv (st++[a,b]) sp at_ 0 false) (hl:st.length≤100000) (n:Int) (hr:True) :
 CC 144 #[mP K,.int .i64 n] w fun r w'=>r=.tuple #[]∧Res K w' st sp at_ ((ZQ (decide (a≤b)),0)):=by
 try unfold I64 at hr
 refine cW2 16 Tryz.func144 ?_
 refine W ?_
 refine CL rfl (Zk rfl) rfl (Jb hK h) ?_
 rintro _ w1 ⟨rfl,sv1,h1⟩
 refine W ?_
 refine CL rfl (Zb rfl rfl) rfl (Z6Z hK h1 hl _) ?_
 rintro _ w2 ⟨rfl,h2⟩
 refine W ?_
 refine WR ?_
 exact .mk ⟨rfl,h2⟩
theorem eqV (hK:KOk K) {a b:Int} (h:Mch K w sv pv (st++[a,b]) sp at_ 0 false) (hl:st.length≤100000) (n:Int) (hr:True) :
 CC 145 #[mP K,.int .i64 n] w fun r w'=>r=.tuple #[]∧Res K w' st sp at_ ((ZQ (decide (a=b)),0)):=by
 try unfold I64 at hr
 refine cW2 16 Tryz.func145 ?_
 refine W ?_
 refine CL rfl (Zk rfl) rfl (Jb hK h) ?_
 rintro _ w1 ⟨rfl,sv1,h1⟩
 refine W ?_
 refine CL rfl (Zb rfl rfl) rfl (Z6Z hK h1 hl _) ?_
 rintro _ w2 ⟨rfl,h2⟩
 refine W ?_
 refine WR ?_
 exact .mk ⟨rfl,h2⟩
theorem ZjQ (hK:KOk K) {a b:Int} (h:Mch K w sv pv (st++[a,b]) sp at_ 0 false) (hl:st.length≤100000) (n:Int) (hr:I64 (a+b)) :
 CC 149 #[mP K,.int .i64 n] w fun r w'=>r=.tuple #[]∧Res K w' st sp at_ (Z5E (a+b)):=by
 try unfold I64 at hr
 refine cW2 16 Tryz.func149 ?_
 refine W ?_
 refine CL rfl (Zk rfl) rfl (Jb hK h) ?_
 rintro _ w1 ⟨rfl,sv1,h1⟩
 refine W ?_
 refine CL rfl (Zb rfl rfl) rfl (ZjP hK h1 hl _) ?_
 rintro _ w2 ⟨rfl,h2⟩
 refine W ?_
 refine WR ?_
 exact .mk ⟨rfl,h2⟩
theorem ZhF (hK:KOk K) {a b:Int} (h:Mch K w sv pv (st++[a,b]) sp at_ 0 false) (hl:st.length≤100000) (n:Int) (hr:I64 (7 * b)∧I64 (a+7 * b)) :
 CC 150 #[mP K,.int .i64 n] w fun r w'=>r=.tuple #[]∧Res K w' st sp at_ (Z5E (a+7 * b)):=by
 try unfold I64 at hr
 refine cW2 17 Tryz.func150 ?_
 refine W ?_
 refine CL rfl (Zk rfl) rfl (Jb hK h) ?_
 rintro _ w1 ⟨rfl,sv1,h1⟩
 refine W ?_
 refine CL rfl (Zb rfl rfl) rfl (ZjP hK h1 hl _) ?_
 rintro _ w2 ⟨rfl,h2⟩
 refine W ?_
 refine WR ?_
 exact .mk ⟨rfl,h2⟩
theorem ZhG (hK:KOk K) {a b:Int} (h:Mch K w sv pv (st++[a,b]) sp at_ 0 false) (hl:st.length≤100000) (n:Int) (hr:True) :
 CC 155 #[mP K,.int .i64 n] w fun r w'=>r=.tuple #[]∧Res K w' st sp at_ ((max a b,0)):=by
 try unfold I64 at hr
 refine cW2 16 Tryz.func155 ?_
 refine W ?_
 refine CL rfl (Zk rfl) rfl (Jb hK h) ?_
 rintro _ w1 ⟨rfl,sv1,h1⟩
 refine W ?_
 refine CL rfl (J7 rfl rfl rfl) rfl (Js hK h1 hl _ 0) ?_
 rintro _ w2 ⟨rfl,h2⟩
 refine W ?_
 refine WR ?_
 exact .mk ⟨rfl,h2⟩
theorem Zc0 (hK:KOk K) {a b:Int} (h:Mch K w sv pv (st++[a,b]) sp at_ 0 false) (hl:st.length≤100000) (n:Int) (hr:True) :
 CC 156 #[mP K,.int .i64 n] w fun r w'=>r=.tuple #[]∧Res K w' st sp at_ ((min a b,0)):=by
 try unfold I64 at hr
 refine cW2 16 Tryz.func156 ?_
 refine W ?_
 refine CL rfl (Zk rfl) rfl (Jb hK h) ?_
 rintro _ w1 ⟨rfl,sv1,h1⟩
 refine W ?_
 refine CL rfl (J7 rfl rfl rfl) rfl (Js hK h1 hl _ 0) ?_
 rintro _ w2 ⟨rfl,h2⟩
 refine W ?_
 refine WR ?_
 exact .mk ⟨rfl,h2⟩
theorem Zc1 (hK:KOk K) {a b:Int} (h:Mch K w sv pv (st++[a,b]) sp at_ 0 false) (hl:st.length≤100000) (n:Int) (hr:I64 (b - a)) :
 CC 157 #[mP K,.int .i64 n] w fun r w'=>r=.tuple #[]∧Res K w' st sp at_ (Z1N (b - a)):=by
 try unfold I64 at hr
 refine cW2 16 Tryz.func157 ?_
 refine W ?_
 refine CL rfl (Zk rfl) rfl (Jb hK h) ?_
 rintro _ w1 ⟨rfl,sv1,h1⟩
 refine W ?_
 refine CL rfl (Zb rfl rfl) rfl (Z3s hK h1 hl _) ?_
 rintro _ w2 ⟨rfl,h2⟩
 refine W ?_
 refine WR ?_
 exact .mk ⟨rfl,h2⟩
end
section
variable {K:MK} {w w':World} {sv pv:Value} {st:List Int} {sp:List Spn} {at_ er:Int} {dn:Bool}
theorem Zmn (hK:KOk K) {b:Int} (h:Mch K w sv pv (st++[b]) sp at_ 0 false) (hl:st.length≤100000) (n:Int) (hr:I64 (-b)) :
 CC 142 #[mP K,.int .i64 n] w fun r w'=>r=.tuple #[]∧Res K w' st sp at_ (Z1N (-b)):=by
 unfold I64 at hr
 refine cW2 9 Tryz.func142 ?_
 refine W ?_
 refine CL rfl (Zk rfl) rfl (Z0s hK h) ?_
 rintro _ w1 ⟨rfl,sv1,h1⟩
 refine W ?_
 refine CL rfl (Zb rfl rfl) rfl (Z3s hK h1 hl _) ?_
 rintro _ w2 ⟨rfl,h2⟩
 refine W ?_
 refine WR ?_
 exact .mk ⟨rfl,h2⟩
theorem Zmo (hK:KOk K) {b:Int} (h:Mch K w sv pv (st++[b]) sp at_ 0 false) (hl:st.length≤100000) (n:Int) :
 CC 146 #[mP K,.int .i64 n] w fun r w'=>r=.tuple #[]∧Res K w' st sp at_ (ZQ (decide (b=0)),0):=by
 refine cW2 9 Tryz.func146 ?_
 refine W ?_
 refine CL rfl (Zk rfl) rfl (Z0s hK h) ?_
 rintro _ w1 ⟨rfl,sv1,h1⟩
 refine W ?_
 refine CL rfl (Zb rfl rfl) rfl (Z6Z hK h1 hl _) ?_
 rintro _ w2 ⟨rfl,h2⟩
 refine W ?_
 refine WR ?_
 exact .mk ⟨rfl,h2⟩
theorem ZjR (hK:KOk K) (h:Mch K w sv pv st sp at_ er dn) (n:Int) :
 CC 147 #[mP K,.int .i64 n] w fun r w'=>r=.tuple #[]∧Mch K w' sv pv st sp n er dn:=by
 have hblk:=h.blk
 unfold Z0C at hblk
 refine cW2 8 Tryz.func147 ?_
 refine W ?_
 refine Z1 (Zg (u:=.int .i64 n) rfl rfl rfl rfl hblk (by simp [evC,Z0d])) ?_
 rintro _ w1 ⟨hS1,hblk1⟩
 refine W ?_
 refine WR ?_
 exact .mk ⟨rfl,h.put hK hS1 hblk1⟩
theorem ZjS (hK:KOk K) (h:Mch K w sv pv st sp at_ er dn) (n:Int) :
 CC 158 #[mP K,.int .i64 n] w fun r w'=>r=.tuple #[]∧Mch K w' sv pv st sp at_ er true:=by
 have hblk:=h.blk
 unfold Z0C at hblk
 refine cW2 7 Tryz.func158 ?_
 refine W ?_
 refine Z1 (Zg (u:=.bool true) rfl rfl rfl rfl hblk (by simp [evC,Z0d])) ?_
 rintro _ w1 ⟨hS1,hblk1⟩
 refine W ?_
 refine WR ?_
 exact .mk ⟨rfl,h.put hK hS1 hblk1⟩
theorem ZdJ (hK:KOk K) {b:Int} (h:Mch K w sv pv (st++[b]) sp at_ er dn) (n:Int) :
 CC 148 #[mP K,.int .i64 n] w fun r w'=>r=.tuple #[]∧∃ sv',Mch K w' sv' pv st sp (if b=0 then n else at_) er dn:=by
 refine cW2 11 Tryz.func148 ?_
 refine W ?_
 refine CL rfl (Zk rfl) rfl (Z0s hK h) ?_
 rintro _ w1 ⟨rfl,sv1,h1⟩
 have hblk:=h1.blk
 unfold Z0C at hblk
 by_cases hb:b=0
 rw [if_pos hb]
 focus repeat'(first|refine W1 ?_|omega|refine VG ?_ ?_<;>intro hg|refine VC ?_ ?_<;>intro hc)
 refine Z1 (Zg (u:=.int .i64 n) rfl rfl rfl rfl hblk (by simp [evC,Z0d])) ?_
 rintro _ w2 ⟨hS1,hblk1⟩
 refine W ?_
 refine WR ?_
 exact .mk ⟨rfl,sv1,h1.put hK hS1 hblk1⟩
 rw [if_neg hb]
 focus repeat'(first|refine W1 ?_|omega|refine VG ?_ ?_<;>intro hg|refine VC ?_ ?_<;>intro hc)
 refine WR ?_
 exact .mk ⟨rfl,sv1,h1⟩
theorem ZdK (a b c d e f g:Int) (w:World):(Instr.build 83 #[(0,.int .i64 a),(1,.int .i64 b),(2,.int .i64 c),(3,.int .i64 d),(4,.int .i64 e),(5,.int .i64 f),(6,.int .i64 g)]).run Tryz.prog w=.ok (.agg #[.int .i64 a,.int .i64 b,.int .i64 c,.int .i64 d,.int .i64 e,.int .i64 f,.int .i64 g]) w:=by kernel_rfl
theorem Zc2 (hK:KOk K) (h:Mch K w sv pv st sp at_ 0 false) (hl:st.length≤100000) (n:Int) (h0:0≤n) (h7:n<7) :
 CC 110 #[mP K,.int .i64 n] w fun r w'=>r=.tuple #[]∧Res K w' st sp at_ (Z40 K.ev n):=by
 have hblk:=h.blk
 unfold Z0C evC Z0d at hblk
 have hbl:=hK.bml
 have hev:=hK.ev.served
 refine cW2 56 Tryz.func110 ?_
 refine W ?_
 refine ZDr 38 [] [37] [(0,0),(1,0),(2,0),(3,0),(4,1),(5,0),(6,0),(7,0),(8,0),(9,1),(10,0),(11,0),(12,0),(13,0),(14,1),(15,0),(16,0),(17,0),(18,0),(19,1),(20,0),(21,0),(22,0),(23,0),(24,1),(25,0),(26,0),(27,0),(28,0),(29,1),(30,0),(31,0),(32,0),(33,0),(34,1),(35,0),(36,2),(37,2)] (fun w1 hS1=>?_)
 replace h:=h.up hS1
 replace hblk:=hblk.up hS1
 refine D ?_
 refine Z38 rfl trivial rfl (ZdK _ _ _ _ _ _ _) rfl ?_
 refine ZC rfl trivial Z8 (fun _ _ ⟨_,_,_,_,h⟩=>h) rfl ?_
 rintro _ w2 ⟨b2,rfl,hb2,e2,hS2⟩
 refine ZU rfl trivial (Z2 (us:=evC K.ev) rfl rfl rfl rfl (by intro u hu;simp [evC] at hu;rcases hu with rfl|rfl|rfl|rfl|rfl|rfl|rfl<;>rfl) e2 rfl) rfl ?_
 rintro _ w3 ⟨hT,e3⟩
 have hS3:=hS2.own hT (fun c hc=>.inr (by simp at hc;omega))
 replace h:=h.up hS3
 unfold evC at e3
 refine D ?_
 clear hblk hS1 e2 hT hS2 hS3
 have fin:∀ (v e:Int),(v,e)=Z40 K.ev n→∀ w',Res K w' st sp at_ (v,e)→Ret (fun r w'=>r=.tuple #[]∧Res K w' st sp at_ (Z40 K.ev n)) (.returned (.tuple #[])) w':=by
  intro v e he w' hr
  rw [← he]
  exact .mk ⟨rfl,hr⟩
 have hn:n=0∨n=1∨n=2∨n=3∨n=4∨n=5∨n=6:=by omega
 rcases hn with rfl|rfl|rfl|rfl|rfl|rfl|rfl
 case inr.inl=>
  by_cases hs:K.ev.getD 1 0<0
  focus repeat'(first|refine W1 ?_|omega|refine VG ?_ ?_<;>intro hg|refine VC ?_ ?_<;>intro hc)
  focus repeat'(first|refine W1 ?_|omega|refine VG ?_ ?_<;>intro hg|refine VC ?_ ?_<;>intro hc)
  refine CL rfl (J7 rfl rfl rfl) rfl (Js hK h hl 0 32) ?_
  rintro _ w4 ⟨rfl,h1⟩
  refine W ?_
  refine WR ?_
  refine fin _ _ ?_ _ h1
  unfold Z40
  rw [if_pos ⟨rfl,by omega⟩]
  focus repeat'(first|refine W1 ?_|omega|refine VG ?_ ?_<;>intro hg|refine VC ?_ ?_<;>intro hc)
  focus repeat'(first|refine W1 ?_|omega|refine VG ?_ ?_<;>intro hg|refine VC ?_ ?_<;>intro hc)
  focus repeat'(first|refine W1 ?_|omega|refine VG ?_ ?_<;>intro hg|refine VC ?_ ?_<;>intro hc)
  refine CL rfl (J7 rfl rfl rfl) rfl (Js hK h hl _ 0) ?_
  rintro _ w4 ⟨rfl,h1⟩
  refine W ?_
  refine WR ?_
  refine fin _ _ ?_ _ h1
  unfold Z40
  rw [if_neg (by rintro ⟨-,h⟩;omega)]
  rfl
 case inl=>
  repeat'(first|refine W1 ?_|omega|refine VG ?_ ?_<;>intro hg|refine VC ?_ ?_<;>intro hc)
  repeat'(first|refine W1 ?_|omega|refine VG ?_ ?_<;>intro hg|refine VC ?_ ?_<;>intro hc)
  refine CL rfl (J7 rfl rfl rfl) rfl (Js hK h hl _ 0) ?_
  rintro _ w4 ⟨rfl,h1⟩
  refine W ?_
  refine WR ?_
  exact fin _ _ rfl _ h1
 case inr.inr.inl=>
  repeat'(first|refine W1 ?_|omega|refine VG ?_ ?_<;>intro hg|refine VC ?_ ?_<;>intro hc)
  repeat'(first|refine W1 ?_|omega|refine VG ?_ ?_<;>intro hg|refine VC ?_ ?_<;>intro hc)
  refine CL rfl (J7 rfl rfl rfl) rfl (Js hK h hl _ 0) ?_
  rintro _ w4 ⟨rfl,h1⟩
  refine W ?_
  refine WR ?_
  exact fin _ _ rfl _ h1
 case inr.inr.inr.inl=>
  repeat'(first|refine W1 ?_|omega|refine VG ?_ ?_<;>intro hg|refine VC ?_ ?_<;>intro hc)
  refine Z0J (len:=7) (i:=3) rfl rfl rfl (by decide) rfl ?_
  repeat'(first|refine W1 ?_|omega|refine VG ?_ ?_<;>intro hg|refine VC ?_ ?_<;>intro hc)
  refine CL rfl (J7 rfl rfl rfl) rfl (Js hK h hl _ 0) ?_
  rintro _ w4 ⟨rfl,h1⟩
  refine W ?_
  refine WR ?_
  exact fin _ _ rfl _ h1
 case inr.inr.inr.inr.inl=>
  repeat'(first|refine W1 ?_|omega|refine VG ?_ ?_<;>intro hg|refine VC ?_ ?_<;>intro hc)
  refine Z0J (len:=7) (i:=4) rfl rfl rfl (by decide) rfl ?_
  repeat'(first|refine W1 ?_|omega|refine VG ?_ ?_<;>intro hg|refine VC ?_ ?_<;>intro hc)
  refine CL rfl (J7 rfl rfl rfl) rfl (Js hK h hl _ 0) ?_
  rintro _ w4 ⟨rfl,h1⟩
  refine W ?_
  refine WR ?_
  exact fin _ _ rfl _ h1
 case inr.inr.inr.inr.inr.inl=>
  repeat'(first|refine W1 ?_|omega|refine VG ?_ ?_<;>intro hg|refine VC ?_ ?_<;>intro hc)
  refine Z0J (len:=7) (i:=5) rfl rfl rfl (by decide) rfl ?_
  repeat'(first|refine W1 ?_|omega|refine VG ?_ ?_<;>intro hg|refine VC ?_ ?_<;>intro hc)
  refine CL rfl (J7 rfl rfl rfl) rfl (Js hK h hl _ 0) ?_
  rintro _ w4 ⟨rfl,h1⟩
  refine W ?_
  refine WR ?_
  exact fin _ _ rfl _ h1
 case inr.inr.inr.inr.inr.inr=>
  repeat'(first|refine W1 ?_|omega|refine VG ?_ ?_<;>intro hg|refine VC ?_ ?_<;>intro hc)
  refine Z0J (len:=7) (i:=6) rfl rfl rfl (by decide) rfl ?_
  repeat'(first|refine W1 ?_|omega|refine VG ?_ ?_<;>intro hg|refine VC ?_ ?_<;>intro hc)
  refine CL rfl (J7 rfl rfl rfl) rfl (Js hK h hl _ 0) ?_
  rintro _ w4 ⟨rfl,h1⟩
  refine W ?_
  refine WR ?_
  exact fin _ _ rfl _ h1
end
def Z19 (y:Nat):Nat:=
 let a:=y % 19
 let b:=y / 100
 let c:=y % 100
 let g:=(b - (b+8) / 25+1) / 3
 let h:=(19 * a+b - b / 4 - g+15) % 30
 let l:=(32+2 * (b % 4)+2 * (c / 4) - h - c % 4) % 7
 h+l+114 - 7 * ((a+11 * h+22 * l) / 451)
def ZjT (y:Nat):Nat:=(11 * (y % 19+1)+20+((8 * (y / 100+1)+5) / 25 - 5)+60 - (3 * (y / 100+1) / 4 - 12)) % 30
def ZjU (e g:Nat):Nat:=bif Nat.beq e 24 || (Nat.beq e 25 && Nat.blt 11 g) then e+1 else e
def ZjV (e d:Nat):Nat:=let n:=(bif Nat.blt (44 - e) 21 then 44 - e+30 else 44 - e);n+7 - (d+n) % 7
def Zc3 (y:Nat):Nat:=ZjV (ZjU (ZjT y) (y % 19+1)) (5 * y / 4 - (3 * (y / 100+1) / 4 - 12) - 10)
def Z9z (y:Nat):Bool:=Nat.beq (Z19 y) (Zc3 y+92) && (Nat.ble 114 (Z19 y) && Nat.ble (Z19 y) 148)
def Zaf:Nat→Nat→Bool
 | 0,lo=>Z9z lo
 | k+1,lo=>Zaf k lo && Zaf k (lo+2 ^ k)
theorem Z2y:∀ (k lo d:Nat),Zaf k lo=true→lo≤d→d<lo+2 ^ k→Z9z d=true
 | 0, lo, d, h, h1, h2 => by
   have:d=lo:=by simp at h2;omega
   subst this;exact h
 | k + 1, lo, d, h, h1, h2 => by
   simp only [Zaf,Xf] at h
   rcases X2 d (lo+2 ^ k) with h3|h3
   exact Z2y k lo d h.1 h1 h3
   exact Z2y k _ d h.2 h3 (by rw [Nat.pow_succ] at h2;omega)
theorem Zag:Zaf 13 1583=true:=by kernel_rfl
theorem Zah:Zaf 8 9775=true:=by kernel_rfl
theorem ZdL {y:Nat} (h1:1583≤y) (h2:y≤9999):Z19 y=Zc3 y+92∧114≤Z19 y∧Z19 y≤148:=by
 have h:Z9z y=true:=by
  rcases X2 y 9775 with h3|h3
  exact Z2y 13 1583 y Zag h1 (by omega)
  exact Z2y 8 9775 y Zah h3 (by omega)
 unfold Z9z at h
 simp only [Xf] at h
 exact ⟨XP h.1,XD h.2.1,XD h.2.2⟩
theorem Zai {y:Nat} (h1:1583≤y) (h2:y≤9999):Z1R (y:Int)=(Z19 y:Int):=by
 unfold Z1R Z19
 dsimp only
 have e1:(y:Int) % 19=((y % 19:Nat):Int):=by omega
 have e2:(y:Int) / 100=((y / 100:Nat):Int):=by omega
 have e3:(y:Int) % 100=((y % 100:Nat):Int):=by omega
 rw [e1,e2,e3]
 have ha:y % 19≤18:=by omega
 have hb:15≤y / 100∧y / 100≤99:=by omega
 have hc:y % 100≤99:=by omega
 generalize y % 19=a at *
 generalize y / 100=b at *
 generalize y % 100=c at *
 have e4:((b:Int) - ((b:Int)+8) / 25+1) / 3=(((b - (b+8) / 25+1) / 3:Nat):Int):=by omega
 have hg:(b - (b+8) / 25+1) / 3+b / 4≤b:=by omega
 rw [e4]
 generalize (b - (b+8) / 25+1) / 3=g at *
 have e5:(19 * (a:Int)+(b:Int) - (b:Int) / 4 - (g:Int)+15) % 30=(((19 * a+b - b / 4 - g+15) % 30:Nat):Int):=by omega
 rw [e5]
 have hh:(19 * a+b - b / 4 - g+15) % 30≤29:=by omega
 generalize (19 * a+b - b / 4 - g+15) % 30=h at *
 have e6:(32+2 * ((b:Int) % 4)+2 * ((c:Int) / 4) - (h:Int) - (c:Int) % 4) % 7=(((32+2 * (b % 4)+2 * (c / 4) - h - c % 4) % 7:Nat):Int):=by omega
 rw [e6]
 have hl:(32+2 * (b % 4)+2 * (c / 4) - h - c % 4) % 7≤6:=by omega
 generalize (32+2 * (b % 4)+2 * (c / 4) - h - c % 4) % 7=l at *
 omega
theorem Z4p {y:Int} (h1:1583≤y) (h2:y≤9999):114≤Z1R y∧Z1R y≤148:=by
 obtain ⟨k,rfl⟩:∃ k:Nat,y=(k:Int):=⟨y.toNat,by omega⟩
 have:=ZdL (y:=k) (by omega) (by omega)
 rw [Zai (by omega) (by omega)]
 omega
theorem Z8S (y d:Int):Jc y 3 d=Jc y 3 1+d - 1∧Jc y 4 d=Jc y 3 1+31+d - 1:=by
 constructor
 rw [show (3:Int)=((2:Nat):Int)+1 by rfl,Z1o y d 2 (by omega),Z1o y 1 2 (by omega)];omega
 rw [show (4:Int)=((3:Nat):Int)+1 by rfl,show (3:Int)=((2:Nat):Int)+1 by rfl,Z1o y d 3 (by omega),Z1o y 1 2 (by omega)]
 have:Z0X y 3=Z0X y 2+31:=by
  have:Z0X y 3=Z0X y 2+Zs y 3:=by simp [Z0X]
  rw [this];rfl
 omega
theorem Z1a (n a b:Int) (w:World):CC 285 #[.int .i64 n,.int .i64 a,.int .i64 b] w fun r w'=>r=.bool (decide (a≤n∧n≤b))∧w'=w:=by
 refine cW3 15 Tryz.func285 ?_
 by_cases h1:n≥a
 by_cases h2:n≤b
 rw [decide_eq_true ⟨h1,h2⟩]
 focus repeat'(first|refine W1 ?_|omega|refine VG ?_ ?_<;>intro hg|refine VC ?_ ?_<;>intro hc)
 refine WR ?_
 exact .mk ⟨by simp [h2],rfl⟩
 rw [decide_eq_false (fun h=>h2 h.2)]
 focus repeat'(first|refine W1 ?_|omega|refine VG ?_ ?_<;>intro hg|refine VC ?_ ?_<;>intro hc)
 refine WR ?_
 exact .mk ⟨by simp [h2],rfl⟩
 rw [decide_eq_false (fun h=>h1 h.1)]
 focus repeat'(first|refine W1 ?_|omega|refine VG ?_ ?_<;>intro hg|refine VC ?_ ?_<;>intro hc)
 refine WR ?_
 exact .mk ⟨rfl,rfl⟩
theorem Z2k (d:Int) (w:World) (h0:0≤d) (h1:d≤9000000000):CC 238 #[.int .i64 d] w fun r w'=>r=.int .i64 (d % 7)∧w'=w:=by
 refine cW1 7 Tryz.func238 ?_
 refine W ?_
 refine WR ?_
 exact .mk ⟨by congr 1;omega,rfl⟩
theorem Z8T (y:Int) (w:World):CC 347 #[.int .i64 y] w fun r w'=>r=.tuple #[.int .i64 (if y<1583∨9999<y then 0 else Z3p y),.int .i64 (if y<1583∨9999<y then 5 else 0)]∧Stp [] w w':=by
 refine cW1 77 Tryz.func347 ?_
 by_cases hy:y<1583∨9999<y
 · rw [if_pos hy,if_pos hy]
   repeat'(first|refine W1 ?_|omega|refine VG ?_ ?_<;>intro hg|refine VC ?_ ?_<;>intro hc)
   all_goals refine WR ?_
   all_goals exact .mk ⟨rfl,Stp.refl _ _⟩
 rw [if_neg hy,if_neg hy]
 have hb:=Z4p (y:=y) (by omega) (by omega)
 have he:Z5w (Z1R y=(19 * (y % 19)+y / 100 - y / 100 / 4 - (y / 100 - (y / 100+8) / 25+1) / 3+15) % 30 +
  (32+2 * (y / 100 % 4)+2 * (y % 100 / 4) - (19 * (y % 19)+y / 100 - y / 100 / 4 - (y / 100 - (y / 100+8) / 25+1) / 3+15) % 30 - y % 100 % 4) % 7 -
  7 * ((y % 19+11 * ((19 * (y % 19)+y / 100 - y / 100 / 4 - (y / 100 - (y / 100+8) / 25+1) / 3+15) % 30)+22 * ((32+2 * (y / 100 % 4)+2 * (y % 100 / 4) - (19 * (y % 19)+y / 100 - y / 100 / 4 - (y / 100 - (y / 100+8) / 25+1) / 3+15) % 30 - y % 100 % 4) % 7)) / 451)+114):=⟨rfl⟩
 have g1:0≤y % 19∧y % 19≤18:=by omega
 have g2:15≤y / 100∧y / 100≤99:=by omega
 have g3:0≤y % 100∧y % 100≤99:=by omega
 focus repeat'(first|refine W1 ?_|omega|refine VG ?_ ?_<;>intro hg|refine VC ?_ ?_<;>intro hc)
 have g4:0≤(19 * (y % 19)+y / 100 - y / 100 / 4 - (y / 100 - (y / 100+8) / 25+1) / 3+15) % 30∧(19 * (y % 19)+y / 100 - y / 100 / 4 - (y / 100 - (y / 100+8) / 25+1) / 3+15) % 30≤29:=by omega
 generalize (19 * (y % 19)+y / 100 - y / 100 / 4 - (y / 100 - (y / 100+8) / 25+1) / 3+15) % 30=H at he g4 ⊢
 have g5:0≤(32+2 * (y / 100 % 4)+2 * (y % 100 / 4) - H - y % 100 % 4) % 7∧(32+2 * (y / 100 % 4)+2 * (y % 100 / 4) - H - y % 100 % 4) % 7≤6:=by omega
 refine W ?_
 generalize (32+2 * (y / 100 % 4)+2 * (y % 100 / 4) - H - y % 100 % 4) % 7=L at he g5 ⊢
 rw [← he.h]
 refine Za (vs:=[(0,.int .i64 y),(1,.int .i64 (Z1R y / 31)),(2,.int .i64 (Z1R y % 31+1))]) rfl (Z3o _ _ _) rfl ?_
 refine CL rfl (Zk rfl) rfl (Z2Z y _ _ _ (by omega) (by omega) (by omega) (by omega) (by omega) (by omega) (by omega)) ?_
 rintro _ w1 ⟨rfl,hS⟩
 refine W ?_
 refine WR ?_
 exact .mk ⟨rfl,hS⟩
theorem Z1t {y m:Int} (hy:1≤y) (hy2:y≤9999) (hm:1≤m) (hm2:m≤12):¬ Z0W y m 1∧0≤Jc y m 1∧Jc y m 1≤3652058∧28≤Zs y m∧Zs y m≤31:=by
 have hl:=Z17 (y:=y) (k:=(m - 1).toNat) (by omega)
 rw [show (((m - 1).toNat:Int))+1=m by omega] at hl
 have h31:=Z1I y m
 have:=dayM_range hy hy2 hm hm2 (d:=1) (by omega) (by omega)
 exact ⟨by unfold Z0W;omega,this.1,this.2,hl,h31⟩
theorem Z5r (h:Hol) (y:Int) (w:World) (hL:Z0b w) (hy:1≤y) (hy2:y≤9999) (hm:1≤h.month) (hm2:h.month≤12) (hw:0≤h.wd) (hw2:h.wd≤6) :
 CC 342 #[agg h,.int .i64 y] w fun r w'=>r=.tuple #[.int .i64 (Jc y h.month 1),.int .i64 (Z2f y h.month h.wd)]∧Stp [] w w':=by
 obtain ⟨f1,f2,f3,f4,f5⟩:=Z1t hy hy2 hm hm2
 refine cW2 26 Tryz.func342 ?_
 refine W ?_
 refine Z0 (Zl rfl) rfl ?_
 rintro _ w1 ⟨b,rfl,hb,hblk,hS⟩
 replace hblk:Blk w1 b 187 (Z5.enc h):=hblk
 replace hL:=hL.up hS
 refine W ?_
 refine Za (vs:=[(0,.int .i64 y),(1,.int .i64 h.month),(2,.int .i64 1)]) rfl (Z3o _ _ _) rfl ?_
 refine CL rfl (Zk rfl) rfl (Z5f y _ _ _ hL) ?_
 rintro _ w2 ⟨rfl,hT⟩
 rw [if_neg f1,if_neg f1]
 replace hblk:=hblk.up hT
 replace hS:=hS.trans hT
 clear hT
 refine W ?_
 refine ZDr 12 [] [] [(0,0),(1,0),(2,0),(3,1),(4,0),(5,2),(6,0),(7,0),(8,0),(9,0),(10,0),(11,0)] (fun w1 hS1=>?_)
 replace hblk:=hblk.up hS1
 replace hS:=hS.trans hS1
 clear hS1
 refine D ?_
 refine ZC rfl trivial (Ze rfl (Zk rfl) (Z2k _ _ f2 (by omega))) (fun _ _ h=>by rw [h.2];exact Stp.refl _ _) rfl ?_
 rintro _ w3 ⟨rfl,rfl⟩
 refine D ?_
 refine W ?_
 refine WR ?_
 refine .mk ⟨?_,hS⟩
 unfold Z2f
 rfl
def Z0O (h:Hol) (y:Int):Int×Bool:=
 if h.kind=1 then (if Z0W y h.month h.day then 0 else Jc y h.month h.day,!decide (Z0W y h.month h.day))
 else if h.kind=2 then (Z2f y h.month h.wd+7 * (h.nth - 1),decide (Z2f y h.month h.wd+7 * (h.nth - 1)<Jc y h.month 1+Zs y h.month))
 else if h.kind=3 then (Z2f y h.month h.wd+(Jc y h.month 1+Zs y h.month - 1 - Z2f y h.month h.wd) / 7 * 7,true)
 else ((if y<1583∨9999<y then 0 else Z3p y)+h.off,!decide (y<1583∨9999<y))
theorem ZhH {h:Hol} {y:Int} (h1:h.first≤y) (h2:y≤h.last):ZdH h y=if (Z0O h y).2=true then some (Z0O h y).1 else none:=by
 unfold ZdH Z0O
 rw [if_neg (by omega)]
 by_cases k1:h.kind=1
 rw [if_pos k1,if_pos k1]
 by_cases hb:Z0W y h.month h.day
 simp [hb]
 simp [hb]
 rw [if_neg k1,if_neg k1]
 by_cases k2:h.kind=2
 rw [if_pos k2,if_pos k2]
 simp
 rw [if_neg k2,if_neg k2]
 by_cases k3:h.kind=3
 rw [if_pos k3,if_pos k3]
 rfl
 rw [if_neg k3,if_neg k3]
 by_cases hy:y<1583∨9999<y
 simp [hy]
 simp [hy]
abbrev Z88 (h:Hol) (y:Int):Value:=.tuple #[.int .i64 (Z0O h y).1,.bool (Z0O h y).2]
theorem Z4q {y:Int} (h1:1583≤y) (h2:y≤9999):1000≤Z3p y∧Z3p y≤3652058:=by
 have hb:=Z4p h1 h2
 have e3:Zs y 3=31:=rfl
 have e4:Zs y 4=30:=rfl
 have hs:=Z2e h1
 have hs1:500000≤Z0c 1583:=by decide
 have hm3:=Z8S y (Z1R y % 31+1)
 have hd3:Jc y 3 1=Z0c y+Z0X y 2:=by
  have:=Z1o y 1 2 (by omega)
  rw [show ((2:Nat):Int)+1=3 by rfl] at this
  omega
 have hc:0≤Z0X y 2:=by
  have:=Z2w (y:=y) (Xo 2) (by omega)
  simpa [Z0X] using this
 unfold Z3p
 have hm:Z1R y / 31=3∨Z1R y / 31=4:=by omega
 rcases hm with hm|hm
 rw [hm];exact ⟨by omega,(dayM_range (by omega) h2 (by omega) (by omega) (by omega) (by omega)).2⟩
 rw [hm];exact ⟨by omega,(dayM_range (by omega) h2 (by omega) (by omega) (by omega) (by omega)).2⟩
theorem Z1O {y m wd:Int} (hy:1≤y) (hy2:y≤9999) (hm:1≤m) (hm2:m≤12):Jc y m 1≤Z2f y m wd∧Z2f y m wd≤Jc y m 1+6:=by
 unfold Z2f
 omega
theorem Z8U {h:Hol} {y:Int} (ho:Z4o h) (h1:h.first≤y) (h2:y≤h.last) (hp:(Z0O h y).2=true):0≤(Z0O h y).1∧(Z0O h y).1≤3653000:=by
 have hy:=ho.f1
 have hy2:=ho.l1
 have hk1:=ho.k1
 have hk2:=ho.k2
 unfold Z0O at hp ⊢
 by_cases k1:h.kind=1
 rw [if_pos k1] at hp ⊢
 obtain ⟨m1,m2⟩:=ho.month (by omega)
 by_cases hb:Z0W y h.month h.day
 simp [hb] at hp
 dsimp only
 rw [if_neg hb]
 unfold Z0W at hb
 have:=dayM_range (y:=y) (m:=h.month) (d:=h.day) (by omega) (by omega) (by omega) (by omega) (by omega) (by omega)
 omega
 rw [if_neg k1] at hp ⊢
 by_cases k2:h.kind=2
 rw [if_pos k2] at hp ⊢
 obtain ⟨m1,m2⟩:=ho.month (by omega)
 obtain ⟨n1,n2⟩:=ho.nth k2
 obtain ⟨f1,f2,f3,f4,f5⟩:=Z1t (y:=y) (by omega) (by omega) m1 m2
 obtain ⟨f6,f7⟩:=Z1O (y:=y) (wd:=h.wd) (by omega) (by omega) m1 m2
 dsimp only
 omega
 rw [if_neg k2] at hp ⊢
 by_cases k3:h.kind=3
 rw [if_pos k3] at hp ⊢
 obtain ⟨m1,m2⟩:=ho.month (by omega)
 obtain ⟨f1,f2,f3,f4,f5⟩:=Z1t (y:=y) (by omega) (by omega) m1 m2
 obtain ⟨f6,f7⟩:=Z1O (y:=y) (wd:=h.wd) (by omega) (by omega) m1 m2
 dsimp only
 omega
 rw [if_neg k3] at hp ⊢
 obtain ⟨o1,o2⟩:=ho.off (by omega)
 by_cases hy:y<1583∨9999<y
 simp [hy] at hp
 dsimp only
 rw [if_neg hy]
 have:=Z4q (y:=y) (by omega) (by omega)
 omega
theorem Zaj (h:Hol) (y:Int) (w:World) (hL:Z0b w) (hk:h.kind=1) :
 CC 339 #[agg h,.int .i64 y] w fun r w'=>r=Z88 h y∧Stp [] w w':=by
 have e:Z0O h y=(if Z0W y h.month h.day then 0 else Jc y h.month h.day,!decide (Z0W y h.month h.day)):=by unfold Z0O;rw [if_pos hk]
 unfold Z88
 rw [e]
 refine cW2 21 Tryz.func339 ?_
 refine W ?_
 refine Z0 (Zl rfl) rfl ?_
 rintro _ w1 ⟨b,rfl,hb,hblk,hS⟩
 replace hblk:Blk w1 b 187 (Z5.enc h):=hblk
 replace hL:=hL.up hS
 refine W ?_
 refine Za (vs:=[(0,.int .i64 y),(1,.int .i64 h.month),(2,.int .i64 h.day)]) rfl (Z3o _ _ _) rfl ?_
 refine CL rfl (Zk rfl) rfl (Z5f y _ _ _ hL) ?_
 rintro _ w2 ⟨rfl,hT⟩
 refine W ?_
 refine WR ?_
 refine .mk ⟨?_,hS.trans hT⟩
 by_cases hb:Z0W y h.month h.day<;>simp [hb]
theorem Zak (h:Hol) (y:Int) (w:World) (hL:Z0b w) (hy:1≤y) (hy2:y≤9999) (hk:h.kind=2) (ho:Z4o h) :
 CC 341 #[agg h,.int .i64 y] w fun r w'=>r=Z88 h y∧Stp [] w w':=by
 have e:Z0O h y=(Z2f y h.month h.wd+7 * (h.nth - 1),decide (Z2f y h.month h.wd+7 * (h.nth - 1)<Jc y h.month 1+Zs y h.month)):=by unfold Z0O;rw [if_neg (by omega),if_pos hk]
 obtain ⟨m1,m2⟩:=ho.month (by omega)
 obtain ⟨d1,d2⟩:=ho.wd (.inl hk)
 obtain ⟨n1,n2⟩:=ho.nth hk
 obtain ⟨f1,f2,f3,f4,f5⟩:=Z1t hy hy2 m1 m2
 obtain ⟨f6,f7⟩:=Z1O (wd:=h.wd) hy hy2 m1 m2
 unfold Z88
 rw [e]
 refine cW2 29 Tryz.func341 ?_
 refine W ?_
 refine Z0 (Zl rfl) rfl ?_
 rintro _ w1 ⟨b,rfl,hb,hblk,hS⟩
 replace hblk:Blk w1 b 187 (Z5.enc h):=hblk
 replace hL:=hL.up hS
 refine W ?_
 refine CL rfl (Zb rfl rfl) rfl (Z5r h y _ hL hy hy2 m1 m2 d1 d2) ?_
 rintro _ w2 ⟨rfl,hT⟩
 replace hblk:=hblk.up hT
 replace hL:=hL.up hT
 replace hS:=hS.trans hT
 refine W ?_
 refine CL rfl (Zb rfl rfl) rfl (Z1L y _ _ hL (by omega) (by omega)) ?_
 rintro _ _ ⟨rfl,rfl⟩
 refine W ?_
 refine WR ?_
 exact .mk ⟨rfl,hS⟩
theorem Zal (h:Hol) (y:Int) (w:World) (hL:Z0b w) (hy:1≤y) (hy2:y≤9999) (hk:h.kind=3) (ho:Z4o h) :
 CC 344 #[agg h,.int .i64 y] w fun r w'=>r=Z88 h y∧Stp [] w w':=by
 have e:Z0O h y=(Z2f y h.month h.wd+(Jc y h.month 1+Zs y h.month - 1 - Z2f y h.month h.wd) / 7 * 7,true):=by unfold Z0O;rw [if_neg (by omega),if_neg (by omega),if_pos hk]
 obtain ⟨m1,m2⟩:=ho.month (by omega)
 obtain ⟨d1,d2⟩:=ho.wd (.inr hk)
 obtain ⟨f1,f2,f3,f4,f5⟩:=Z1t hy hy2 m1 m2
 obtain ⟨f6,f7⟩:=Z1O (wd:=h.wd) hy hy2 m1 m2
 unfold Z88
 rw [e]
 refine cW2 29 Tryz.func344 ?_
 refine W ?_
 refine Z0 (Zl rfl) rfl ?_
 rintro _ w1 ⟨b,rfl,hb,hblk,hS⟩
 replace hblk:Blk w1 b 187 (Z5.enc h):=hblk
 replace hL:=hL.up hS
 refine W ?_
 refine CL rfl (Zb rfl rfl) rfl (Z5r h y _ hL hy hy2 m1 m2 d1 d2) ?_
 rintro _ w2 ⟨rfl,hT⟩
 replace hblk:=hblk.up hT
 replace hL:=hL.up hT
 replace hS:=hS.trans hT
 refine W ?_
 refine CL rfl (Zb rfl rfl) rfl (Z1L y _ _ hL (by omega) (by omega)) ?_
 rintro _ _ ⟨rfl,rfl⟩
 refine W ?_
 refine WR ?_
 exact .mk ⟨rfl,hS⟩
theorem Zam (h:Hol) (y:Int) (w:World) (hk:h.kind=4) (ho:Z4o h) :
 CC 346 #[agg h,.int .i64 y] w fun r w'=>r=Z88 h y∧Stp [] w w':=by
 have e:Z0O h y=((if y<1583∨9999<y then 0 else Z3p y)+h.off,!decide (y<1583∨9999<y)):=by unfold Z0O;rw [if_neg (by omega),if_neg (by omega),if_neg (by omega)]
 obtain ⟨o1,o2⟩:=ho.off hk
 have hr:0≤(if y<1583∨9999<y then 0 else Z3p y)∧(if y<1583∨9999<y then 0 else Z3p y)≤3652058:=by
  split
  omega
  have:=Z4q (y:=y) (by omega) (by omega)
  omega
 unfold Z88
 rw [e]
 refine cW2 19 Tryz.func346 ?_
 refine W ?_
 refine Z0 (Zl rfl) rfl ?_
 rintro _ w1 ⟨b,rfl,hb,hblk,hS⟩
 replace hblk:Blk w1 b 187 (Z5.enc h):=hblk
 refine W ?_
 refine CL rfl (Zk rfl) rfl (Z8T y _) ?_
 rintro _ w2 ⟨rfl,hT⟩
 replace hblk:=hblk.up hT
 replace hS:=hS.trans hT
 refine W ?_
 refine WR ?_
 refine .mk ⟨?_,hS⟩
 by_cases hy:y<1583∨9999<y<;>simp [hy]
theorem Z8V (g:Nat) (fn:Func) [Fun Tryz.prog g fn] (lb:Array Value) (c:Spn→Spn→Int) (ho:Ord c) (X:List Nat) (base:Nat) (v:Value) (xs:List Spn) (w:World) (hX:∀ b∈X,b<base) (hbase:base≤w.heap.size) (hrow:Row X w base 329 v xs) (hp:Z4s Tryz.prog (ob v) g lb c w) (hlen:xs.length≤1000) :
 CC 354 #[v,.int .i64 0,.int .i64 xs.length,.func (.func g) #[] lb] w fun r w'=>∃ ys,JX c xs ys∧Row X w' base 329 v ys∧Stp (ob v) w w':=by
 refine cW4 53 Tryz.func354 ?_
 refine W ?_
 refine Zh (σ:=Nat) (fun i=>[(0,v),(1,.int .i64 0),(2,.int .i64 xs.length),(3,.func (.func g) #[] lb),(8,.int .i64 (i+1))])
  (fun i w'=>Stp (ob v) w w'∧∃ ys,ys.Perm xs∧Row X w' base 329 v ys∧(ys.take (i+1)).Pairwise (fun a b=>¬ c b a<0)) (fun i=>xs.length - i) 0 ⟨rfl,rfl,rfl,rfl,rfl,trivial⟩
  ⟨Stp.refl _ _,xs,YaM _,hrow,?_⟩ ?_
 · cases xs with
   | nil=>simp
   | cons x r=>simp
 rintro i w1 ⟨hS,ys,hperm,hrow,hsort⟩
 have hyl:=hperm.length_eq
 by_cases hit:i+1<xs.length
 · repeat'(first|refine W1 ?_|refine VG ?_ ?_<;>intro hg|refine VC ?_ ?_<;>intro hc)
   rotate_left
   omega
   obtain ⟨pre,x,rest,hpl,rfl⟩:∃ pre x rest,pre.length=i+1∧ys=put pre rest x pre.length:=by
    refine ⟨ys.take (i+1),ys[i+1],ys.drop (i+2),by simp;omega,?_⟩
    unfold put
    have hl:(ys.take (i+1)).length=i+1:=by simp;omega
    rw [hl,XR,Nat.min_self,XX (by omega)]
    conv=>lhs;rw [← Xq (i+1) ys,XA (by omega)]
    simp
   have hpre:pre.Pairwise (fun a b=>¬ c b a<0):=by
    have:(put pre rest x pre.length).take (i+1)=pre:=by
     unfold put
     rw [Xw,X7,Xr,← hpl,X1]
     rfl
    rwa [this] at hsort
   have hpl2:pre.length+1+rest.length=xs.length:=by rw [← hyl,Z0K]
   have fin:∀ j (w':World),j≤pre.length→Stp (ob v) w w'→Row X w' base 329 v (put pre rest x j)→(∀ q (h:q<pre.length),j≤q→c x pre[q]<0)→(∀ h:j - 1<pre.length,0<j→¬ c x pre[j - 1]<0)→
    Stp (ob v) w w'∧∃ ys,ys.Perm xs∧Row X w' base 329 v ys∧(ys.take (i+1+1)).Pairwise (fun a b=>¬ c b a<0):=by
    intro j w' hj hS hrow h1 h2
    refine ⟨hS,put pre rest x j,?_,hrow,?_⟩
    refine List.Perm.trans ?_ hperm
    unfold put
    rw [Xw,X7]
    refine XN _ ?_
    refine List.Perm.trans Yar ?_
    rw [Xq]
    exact (XY x pre).symm
    have e:(put pre rest x j).take (i+1+1)=pre.take j++x :: pre.drop j:=by
     have hl:(pre.take j++x :: pre.drop j).length=i+1+1:=by
      have:=congrArg List.length (Xq j pre)
      simp only [Xh] at this
      simp only [Xh,Xe];omega
     unfold put
     rw [← hl,X1]
     rfl
    rw [e]
    exact Z2R ho hj hpre h1 h2
   refine Zh (σ:=Nat) (fun j=>[(0,v),(1,.int .i64 0),(2,.int .i64 xs.length),(3,.func (.func g) #[] lb),(8,.int .i64 (i+1)),(9,.int .i64 (j:Int))])
    (fun j w'=>j≤pre.length∧Stp (ob v) w w'∧Row X w' base 329 v (put pre rest x j)∧(∀ q (h:q<pre.length),j≤q→c x pre[q]<0)) (fun j=>j) (i+1) ⟨rfl,rfl,rfl,rfl,rfl,rfl,trivial⟩
    ⟨by omega,hS,by rw [hpl] at hrow;exact hrow,fun q h hq=>by omega⟩ ?_
   clear hrow hS
   rintro j w2 ⟨hj,hS,hrow,hlt⟩
   have hs:=hrow.slv hX
   cases j with
   | zero=>
     refine W ?_
     refine ZDr 17 [] [] [(0,0),(1,0),(2,0),(3,0),(4,0),(5,0),(6,0),(7,0),(8,1),(9,0),(10,0),(11,0),(12,0),(13,1),(14,2),(15,0),(16,0)] (fun w1 hS1=>?_)
     replace hS:=hS.trans (hS1.mono (by simp))
     replace hrow:=hrow.up hS1;replace hs:=hs.up hS1
     refine D ?_
     refine W ?_
     exact Zd (i+1) ⟨rfl,rfl,rfl,rfl,rfl,trivial⟩ (fin 0 _ (Xo _) hS hrow hlt (fun _ h=>absurd h (Nat.lt_irrefl _))) (by omega)
   | succ j=>
     have hz:((j+1:Nat):Int) - 1=(j:Int):=by omega
     have hi1:j+1<(put pre rest x (j+1)).length:=by rw [Z0K];omega
     have hi0:j<(put pre rest x (j+1)).length:=by rw [Z0K];omega
     have a1:=Z8w (rest:=rest) (x:=x) hj hi1
     have a0:=Z2Q (rest:=rest) (x:=x) (X3 hj) hi0
     refine W ?_
     refine ZDr 17 [] [] [(0,0),(1,0),(2,0),(3,0),(4,0),(5,0),(6,0),(7,0),(8,1),(9,0),(10,0),(11,0),(12,0),(13,1),(14,2),(15,0),(16,0)] (fun w1 hS1=>?_)
     replace hS:=hS.trans (hS1.mono (by simp))
     replace hrow:=hrow.up hS1;replace hs:=hs.up hS1
     repeat'(first|refine D1 ?_|omega|refine Zm rfl rfl rfl rfl (fun hg=>?_) (fun hg=>?_)|(refine Zi rfl rfl rfl rfl (fun hg=>?_) (fun hg=>?_)<;>refine D1 ?_)|fail)
     refine ZC rfl (by first|exact trivial|exact rfl) (ZK (f:=g) rfl (Zb rfl rfl) rfl (hp _ _ _ hS)) (fun _ _ h=>h.2) rfl ?_
     rintro _ w3 ⟨rfl,hS3⟩
     rw [a1,a0]
     replace hS:=hS.trans (hS3.mono (by simp))
     replace hrow:=hrow.up hS3;replace hs:=hs.up hS3
     refine D ?_
     repeat'(first|refine W1 ?_|refine VG ?_ ?_<;>intro hg|refine VC ?_ ?_<;>intro hc)
     rename_i hc
     refine ZDr 18 [] [15,17] [(0,0),(1,0),(2,0),(3,0),(4,0),(5,0),(6,0),(7,0),(8,0),(9,1),(10,0),(11,0),(12,0),(13,1),(14,0),(15,2),(16,0),(17,2)] (fun w1 hS1=>?_)
     replace hS:=hS.trans (hS1.mono (by simp))
     replace hrow:=hrow.up hS1;replace hs:=hs.up hS1
     refine D ?_
     rw [a1,a0]
     refine ZU rfl trivial (Ju (i:=j+1) (y':=pre[j]) rfl rfl rfl rfl hrow hX hi1) rfl ?_
     rintro _ w4 ⟨hrow,hS4⟩
     replace hS:=hS.trans hS4
     refine D ?_
     refine ZU rfl trivial (Ju (i:=j) (y':=x) rfl rfl rfl rfl hrow hX (by rw [Yaj];exact hi0)) rfl ?_
     rintro _ w5 ⟨hrow,hS5⟩
     replace hS:=hS.trans hS5
     rw [Z50 (X3 hj)] at hrow
     refine D ?_
     refine W ?_
     refine Zd j ⟨rfl,rfl,rfl,rfl,rfl,(by rw [← hz];rfl),trivial⟩ ⟨by omega,hS,hrow,fun q h hq=>?_⟩ (by omega)
     by_cases e:q=j
     subst e;exact hc
     exact hlt q h (by omega)
     exact Zd (i+1) ⟨rfl,rfl,rfl,rfl,rfl,trivial⟩ (fin (j+1) _ hj hS hrow hlt (fun _ _=>by assumption)) (by omega)
 focus repeat'(first|refine W1 ?_|refine VG ?_ ?_<;>intro hg|refine VC ?_ ?_<;>intro hc)
 omega
 refine WR ?_
 refine .mk ⟨ys,⟨hperm,?_⟩,hrow,hS⟩
 rwa [Xn (by omega)] at hsort
theorem ZdM (g:Nat) (fn:Func) [Fun Tryz.prog g fn] (lb:Array Value) (c:Spn→Spn→Int) (ho:Ord c) (X:List Nat) (base:Nat) (v:Value) (xs:List Spn) (w:World) (hX:∀ b∈X,b<base) (hbase:base≤w.heap.size) (hrow:Row X w base 329 v xs) (hp:Z4s Tryz.prog (ob v) g lb c w) (hlen:xs.length<20) :
 CC 348 #[v,.int .i64 xs.length,.func (.func g) #[] lb] w fun r w'=>∃ ys,JX c xs ys∧Row X w' base 329 v ys∧Stp (ob v) w w':=by
 have nl:¬ ((20:Int)≤xs.length):=by omega
 have nl2:¬ ((20:Int)<xs.length):=by omega
 refine cW3 63 Tryz.func348 ?_
 refine W ?_
 refine Zh (σ:=Unit) (fun _=>[(0,v),(1,.int .i64 xs.length),(2,.func (.func g) #[] lb),(6,.int .i64 20),(7,.int .i64 0),(8,.int .i64 20)]) (fun _ w'=>w'=w) (fun _=>0) () ⟨rfl,rfl,rfl,rfl,rfl,rfl,trivial⟩ rfl ?_
 rintro _ w' rfl
 repeat'(first|refine W1 ?_|refine VG ?_ ?_<;>intro hg|refine VC ?_ ?_<;>intro hc)
 exact absurd (by assumption) nl
 refine CL rfl (Z2z rfl rfl rfl rfl) rfl (Z8V g fn lb c ho X base v xs _ hX hbase hrow hp (by omega)) ?_
 rintro r w2 hres
 refine W ?_
 refine Zh (σ:=Unit) (fun _=>[(1,.int .i64 xs.length),(6,.int .i64 20)]) (fun _ w'=>w'=w2) (fun _=>0) () ⟨rfl,rfl,trivial⟩ rfl ?_
 rintro _ w' rfl
 repeat'(first|refine W1 ?_|refine VG ?_ ?_<;>intro hg|refine VC ?_ ?_<;>intro hc)
 exact absurd (by assumption) nl2
 refine WR ?_
 exact .mk hres
theorem Z89 (g:Nat) (fn:Func) [Fun Tryz.prog g fn] (lb:Array Value) (c:Spn→Spn→Int) (ho:Ord c) (X:List Nat) (base:Nat) (v:Value) (xs:List Spn) (w:World) (hX:∀ b∈X,b<base) (hbase:base≤w.heap.size) (hrow:Row X w base 329 v xs) (hp:Z4s Tryz.prog (ob v) g lb c w) (hlen:xs.length<20) :
 CC 330 #[v,.func (.func g) #[] lb] w fun r w'=>∃ ys,JX c xs ys∧Row X w' base 329 v ys∧Stp (ob v) w w':=by
 have hs:=hrow.slv hX
 refine cW2 9 Tryz.func330 ?_
 refine W ?_
 refine CL rfl (J7 rfl rfl rfl) rfl (ZdM g fn lb c ho X base v xs _ hX hbase hrow hp hlen) ?_
 rintro r w2 hres
 refine W ?_
 refine WR ?_
 exact .mk hres
def Z8a (x y:Spn):Int:=Z1A x.1 y.1
theorem Zmp:Ord Z8a where
 asym:=fun a b=>by unfold Z8a;rw [Z0L,Z0L];omega
 trans:=fun a b d=>by unfold Z8a;rw [Z0L,Z0L,Z0L];omega
theorem ZjW (S:List Nat) (w:World):Z4s Tryz.prog S 331 #[] Z8a w:=by
 intro x y w1 hS
 show Calls _ _ #[agg x,agg y] _ _
 refine cW2 10 Tryz.func331 ?_
 refine W ?_
 refine Z0 (Zl rfl) rfl ?_
 rintro _ w2 ⟨c,rfl,hc,hblk,hS2⟩
 replace hblk:Blk w2 c _ (Z5.enc x):=hblk
 refine Z0 (Zl rfl) rfl ?_
 rintro _ w3 ⟨c2,rfl,hc2,hblk2,hS3⟩
 replace hblk2:Blk w3 c2 _ (Z5.enc y):=hblk2
 replace hblk:=hblk.up hS3
 replace hS2:=hS2.trans hS3
 refine W ?_
 refine CL rfl (Zb rfl rfl) rfl (Z0y _ _ _) ?_
 rintro _ w4 ⟨rfl,hS4⟩
 refine W ?_
 refine WR ?_
 exact .mk ⟨rfl,hS2.trans hS4⟩
def ofH (y:Int) (h:Hol) (i:Int):List Spn:=match Z18 h y with|some d=>[(d,i)]|none=>[]
def ofK (y:Int):List Hol→Int→List Spn
 | [],_=>[]
 | h :: r,i=>ofH y h i++ofK y r (i+1)
theorem Z9A (y:Int):∀ (a b:List Hol) (i:Int),ofK y (a++b) i=ofK y a i++ofK y b (i+a.length)
 | [],b,i=>by simp [ofK]
 | h :: a, b, i => by
   simp only [XI,ofK,Z9A y a b (i+1),Xr,Xe]
   congr 3
   omega
theorem Z9B (y d:Int):∀ (l:List Hol) (i:Int),(∃ r,(d,r)∈ofK y l i)↔∃ h∈l,Z18 h y=some d
 | [],i=>by simp [ofK]
 | h :: l, i => by
   simp only [ofK,Xt,Xd,exists_or,exists_eq_or_imp]
   have ih:=Z9B y d l (i+1)
   constructor
   rintro (⟨r,hr⟩|hr)
   · left
     unfold ofH at hr
     cases hk:Z18 h y with
     | none=>rw [hk] at hr;simp at hr
     | some d'=>rw [hk] at hr;simp at hr;rw [hr.1]
   right;exact ih.1 hr
   rintro (hk|hk)
   left;exact ⟨i,by unfold ofH;rw [hk];simp⟩
   right;exact ih.2 hk
theorem Z4F (y:Int):∀ (l:List Hol) (i:Int),(ofK y l i).length≤l.length
 | [],i=>by simp [ofK]
 | h :: l, i => by
   have:=Z4F y l (i+1)
   simp only [ofK,Xh,Xe]
   unfold ofH
   cases Z18 h y<;>simp<;>omega
abbrev fnV (f:Nat):Value:=.func (.func f) #[] #[]
abbrev Z5s:List Value:=[fnV 338,fnV 339,fnV 340,fnV 341,fnV 343,fnV 344,fnV 345,fnV 346]
theorem Z70 (f g:Nat) (w:World):(Instr.build 342 #[(0,fnV f),(1,fnV g)]).run Tryz.prog w=.ok (.agg #[fnV f,fnV g]) w:=by kernel_rfl
theorem ZdN (a b c d e f g h:Nat) (w:World):(Instr.build 343 #[(0,.agg #[fnV a,fnV b]),(1,.agg #[fnV c,fnV d]),(2,.agg #[fnV e,fnV f]),(3,.agg #[fnV g,fnV h])]).run Tryz.prog w=.ok (.agg #[fnV a,fnV b,fnV c,fnV d,fnV e,fnV f,fnV g,fnV h]) w:=by kernel_rfl
theorem Zan (w:World):CC 329 #[] w fun r w'=>r=.agg Z5s.toArray∧Stp [] w w':=by
 refine cW0 6 Tryz.func329 ?_
 refine W ?_
 refine Z0 Z8 rfl ?_
 rintro _ w1 ⟨b,rfl,hb,hblk,hS⟩
 refine W ?_
 refine Za (vs:=[(0,fnV 338),(1,fnV 339)]) rfl (Z70 _ _) rfl ?_
 refine Za (vs:=[(0,fnV 340),(1,fnV 341)]) rfl (Z70 _ _) rfl ?_
 refine Za (vs:=[(0,fnV 343),(1,fnV 344)]) rfl (Z70 _ _) rfl ?_
 refine Za (vs:=[(0,fnV 345),(1,fnV 346)]) rfl (Z70 _ _) rfl ?_
 refine Za (vs:=[(0,.agg #[fnV 338,fnV 339]),(1,.agg #[fnV 340,fnV 341]),(2,.agg #[fnV 343,fnV 344]),(3,.agg #[fnV 345,fnV 346])]) rfl (ZdN _ _ _ _ _ _ _ _) rfl ?_
 refine Z1 (Z2 (us:=Z5s) rfl rfl rfl rfl (by intro u hu;simp [Z5s] at hu;rcases hu with rfl|rfl|rfl|rfl|rfl|rfl|rfl|rfl<;>rfl) hblk rfl) ?_
 rintro _ w2 ⟨hT,hblk2⟩
 refine W ?_
 refine ZW rfl rfl rfl hblk2 rfl ?_
 exact .mk ⟨rfl,hS.own hT (fun c hc=>.inr (by simp at hc;omega))⟩
theorem ZdO {m d:Int} (h0:0≤m) (h2:m≤2) (hd:0≤d):Z42[0+m.toNat * 7+(d % 7).toNat * 1]?=some (Z2g m d - d):=by
 have hm:m=0∨m=1∨m=2:=by omega
 have hw:d % 7=0∨d % 7=1∨d % 7=2∨d % 7=3∨d % 7=4∨d % 7=5∨d % 7=6:=by omega
 unfold Z2g
 rcases hm with rfl|rfl|rfl<;>rcases hw with h|h|h|h|h|h|h<;>rw [h]<;>simp [Z42]<;>omega
theorem Zao (m d:Int):d - 1≤Z2g m d∧Z2g m d≤d+2:=by
 unfold Z2g
 repeat' split
 all_goals omega
theorem ZdP (a b:Int) (w:World):(Instr.build 329 #[(0,.int .i64 a),(1,.int .i64 b)]).run Tryz.prog w=.ok (agg ((a,b):Spn)) w:=by kernel_rfl
theorem Zc4 (d:Spn) (w:World):(Instr.buildSlice 326 1 #[(0,agg d)]).run Tryz.prog w=.ok (.slice (some ⟨w.heap.size,0,none⟩) 1 1) (w.alloc (.cells (Z5.enc d).toArray 329)):=by kernel_rfl
set_option maxHeartbeats 1000000 in
theorem ZdQ (v:Value) (l:List Hol) (y:Int) (w:World) (hs:SlV [] w v l) (hL:Z0b w) (hM:Z31 w) (ho:∀ h∈l,Z4o h) (hl:l.length<20) :
 CC 312 #[v,.int .i64 y] w fun r w'=>∃ ys,JX Z8a (ofK y l 0) ys∧JZ 329 w w' r ys:=by
 refine cW2 61 Tryz.func312 ?_
 refine W ?_
 refine CL rfl ZhN rfl (Zan _) ?_
 rintro _ w1 ⟨rfl,hS⟩
 refine Z0 Z8 rfl ?_
 rintro _ w2 ⟨b6,rfl,hb6,e6,hS2⟩
 refine W ?_
 refine Z1 (Z2 (us:=Z5s) rfl rfl rfl rfl (by intro u hu;simp [Z5s] at hu;rcases hu with rfl|rfl|rfl|rfl|rfl|rfl|rfl|rfl<;>rfl) e6 rfl) ?_
 rintro _ w3 ⟨hT,k6⟩
 replace hS:=hS.trans (hS2.own hT (fun c hc=>.inr (by simp at hc;omega)))
 clear e6 hS2 hT
 replace hs:=hs.up hS
 replace hL:=hL.up hS
 replace hM:=hM.up hS
 refine W ?_
 refine Zh (σ:=Nat×Value) (fun q=>[(0,v),(1,.int .i64 y),(5,q.2),(6,.pointer (some ⟨b6,0,none⟩)),(12,v),(13,.int .i64 (l.length:Int)),(14,.int .i64 (q.1:Int))])
  (fun q w'=>q.1≤l.length∧JZ 329 w3 w' q.2 (ofK y (l.take q.1) 0)) (fun q=>l.length - q.1) (0,.slice none 0 0) ⟨rfl,rfl,rfl,rfl,rfl,rfl,rfl,trivial⟩ ⟨Xo _,JZ.nil⟩ ?_
 rintro ⟨k,ov⟩ w4 ⟨hk,hr⟩
 dsimp only at hk hr ⊢
 have hS4:=hr.2
 replace hs:=hs.up hS4
 replace hL:=hL.up hS4
 replace hM:=hM.up hS4
 replace k6:=k6.up hS4
 by_cases hlt:k<l.length
 have ht:l.take (k+1)=l.take k++[l[k]]:=Xl hlt
 have hko:ofK y (l.take (k+1)) 0=ofK y (l.take k) 0++ofH y l[k] (k:Int):=by
  rw [ht,Z9A]
  simp only [ofK,XL,Xu,XO hk]
  simp
 have hok:=ho l[k] (Xm hlt)
 focus repeat'(first|refine W1 ?_|omega|refine VG ?_ ?_<;>intro hg|refine VC ?_ ?_<;>intro hc)
 refine Z0 Z8 rfl ?_
 rintro _ w5 ⟨b8,rfl,hb8,e8,hS5⟩
 refine W ?_
 refine Z1 (Z2 (us:=Z5.enc l[k]) rfl rfl rfl rfl (Z5.one _) e8 rfl) ?_
 rintro _ w6 ⟨hT,k8⟩
 replace hS5:=hS5.own hT (fun c hc=>.inr (by simp at hc;omega))
 clear e8 hT
 replace hr:=hr.up hS5
 replace hs:=hs.up hS5
 replace hL:=hL.up hS5
 replace hM:=hM.up hS5
 replace k6:=k6.up hS5
 clear hS5
 refine W ?_
 refine CL rfl (J7 rfl rfl rfl) rfl (Z1a y l[k].first l[k].last _) ?_
 rintro _ w6 ⟨rfl,rfl⟩
 have again:∀ (w':World),Z18 l[k] y=none→Stp [] w6 w'→JZ 329 w3 w' ov (ofK y (l.take (k+1)) 0):=by
  intro w' hn hSw
  rw [hko]
  unfold ofH
  rw [hn,XL]
  exact hr.up hSw
 by_cases hin:l[k].first≤y∧y≤l[k].last
 rw [decide_eq_true hin]
 have hnm:=ZhH hin.1 hin.2
 have hy1:=hok.f1
 have hy2:=hok.l1
 refine W ?_
 refine Z33 (σ:=Unit) (fun _=>[(0,v),(1,.int .i64 y),(5,ov),(6,.pointer (some ⟨b6,0,none⟩)),(7,.int .i64 (k:Int)),(8,.pointer (some ⟨b8,0,none⟩)),(9,.int .i64 (Z0O l[k] y).1),(10,.bool (Z0O l[k] y).2),(12,v),(13,.int .i64 (l.length:Int)),(14,.int .i64 (k:Int))])
  (fun _ w'=>Stp [] w6 w') ?_ ?_
 have hkk:l[k].kind=1∨l[k].kind=2∨l[k].kind=3∨l[k].kind=4:=by have:=hok.k1;have:=hok.k2;omega
 rcases hkk with hkk|hkk|hkk|hkk
 refine ZDr 14 [] [] [(0,0),(1,1),(2,0),(3,0),(4,0),(5,1),(6,1),(7,0),(8,2),(9,0),(10,0),(11,0),(12,0),(13,0)] (fun w1 hS1=>?_)
 replace k6:=k6.up hS1
 replace k8:=k8.up hS1
 replace hL:=hL.up hS1
 have hz:l[k].kind - 1=((0:Nat):Int):=by omega
 refine D ?_
 refine Z0w rfl (Z0q (len:=4) (i:=0) trivial rfl rfl hz (by decide) rfl ?_)
 refine D ?_
 refine ZC rfl trivial (Ze rfl (Zb rfl rfl) (Zaj _ _ _ hL hkk)) (fun _ _ h=>h.2) rfl ?_
 rintro _ w7 ⟨rfl,hS7⟩
 refine D ?_
 exact ZJ () ⟨rfl,rfl,rfl,rfl,rfl,rfl,rfl,rfl,rfl,rfl,rfl,trivial⟩ (hS1.trans hS7)
 refine ZDr 14 [] [] [(0,0),(1,1),(2,0),(3,0),(4,0),(5,1),(6,1),(7,0),(8,2),(9,0),(10,0),(11,0),(12,0),(13,0)] (fun w1 hS1=>?_)
 replace k6:=k6.up hS1
 replace k8:=k8.up hS1
 replace hL:=hL.up hS1
 have hz:l[k].kind - 1=((1:Nat):Int):=by omega
 refine D ?_
 refine Z0w rfl (Z0q (len:=4) (i:=1) trivial rfl rfl hz (by decide) rfl ?_)
 refine D ?_
 refine ZC rfl trivial (Ze rfl (Zb rfl rfl) (Zak _ _ _ hL (by omega) (by omega) hkk hok)) (fun _ _ h=>h.2) rfl ?_
 rintro _ w7 ⟨rfl,hS7⟩
 refine D ?_
 exact ZJ () ⟨rfl,rfl,rfl,rfl,rfl,rfl,rfl,rfl,rfl,rfl,rfl,trivial⟩ (hS1.trans hS7)
 refine ZDr 14 [] [] [(0,0),(1,1),(2,0),(3,0),(4,0),(5,1),(6,1),(7,0),(8,2),(9,0),(10,0),(11,0),(12,0),(13,0)] (fun w1 hS1=>?_)
 replace k6:=k6.up hS1
 replace k8:=k8.up hS1
 replace hL:=hL.up hS1
 have hz:l[k].kind - 1=((2:Nat):Int):=by omega
 refine D ?_
 refine Z0w rfl (Z0q (len:=4) (i:=2) trivial rfl rfl hz (by decide) rfl ?_)
 refine D ?_
 refine ZC rfl trivial (Ze rfl (Zb rfl rfl) (Zal _ _ _ hL (by omega) (by omega) hkk hok)) (fun _ _ h=>h.2) rfl ?_
 rintro _ w7 ⟨rfl,hS7⟩
 refine D ?_
 exact ZJ () ⟨rfl,rfl,rfl,rfl,rfl,rfl,rfl,rfl,rfl,rfl,rfl,trivial⟩ (hS1.trans hS7)
 refine ZDr 14 [] [] [(0,0),(1,1),(2,0),(3,0),(4,0),(5,1),(6,1),(7,0),(8,2),(9,0),(10,0),(11,0),(12,0),(13,0)] (fun w1 hS1=>?_)
 replace k6:=k6.up hS1
 replace k8:=k8.up hS1
 replace hL:=hL.up hS1
 have hz:l[k].kind - 1=((3:Nat):Int):=by omega
 refine D ?_
 refine Z0w rfl (Z0q (len:=4) (i:=3) trivial rfl rfl hz (by decide) rfl ?_)
 refine D ?_
 refine ZC rfl trivial (Ze rfl (Zb rfl rfl) (Zam _ _ _ hkk hok)) (fun _ _ h=>h.2) rfl ?_
 rintro _ w7 ⟨rfl,hS7⟩
 refine D ?_
 exact ZJ () ⟨rfl,rfl,rfl,rfl,rfl,rfl,rfl,rfl,rfl,rfl,rfl,trivial⟩ (hS1.trans hS7)
 · rintro _ w7 hS7
   clear k6
   replace k8:=k8.up hS7
   replace hM:=hM.up hS7
   cases hp:(Z0O l[k] y).2 with
   | false=>
     rw [hp] at hnm
     refine W ?_
     exact Zd (k+1,ov) ⟨rfl,rfl,rfl,rfl,rfl,rfl,rfl,trivial⟩ ⟨hlt,again _ (by unfold Z18;rw [hnm];rfl) hS7⟩ (by dsimp only;omega)
   | true=>
     rw [hp] at hnm
     obtain ⟨n1,n2⟩:=Z8U hok hin.1 hin.2 hp
     have hmv1:=hok.m1
     have hmv2:=hok.m2
     have htab:=ZdO hmv1 hmv2 n1
     have hnear:=Zao l[k].move (Z0O l[k] y).1
     have hkd:Z18 l[k] y=if Zv (Z2g l[k].move (Z0O l[k] y).1)=true then some (Z2g l[k].move (Z0O l[k] y).1) else none:=by
      unfold Z18
      rw [hnm]
      rfl
     generalize (Z0O l[k] y).1=d at *
     refine W ?_
     refine ZDr 10 [] [] [(0,0),(1,0),(2,1),(3,0),(5,0),(4,2),(6,0),(7,1),(8,0),(9,0)] (fun w1 hS1=>?_)
     replace k8:=k8.up hS1
     replace hM:=hM.up hS1
     replace hS7:=hS7.trans hS1
     clear hS1
     refine D ?_
     refine Z0w rfl (Z0q (len:=3) (i:=l[k].move.toNat) trivial rfl rfl (by omega) (by omega) rfl ?_)
     refine D ?_
     refine ZC rfl trivial (Ze rfl (Zk rfl) (Z2k _ _ n1 (by omega))) (fun _ _ h=>by rw [h.2];exact Stp.refl _ _) rfl ?_
     rintro _ w8 ⟨rfl,rfl⟩
     refine D ?_
     refine Z0w rfl (Z0q (len:=7) (i:=(d % 7).toNat) trivial rfl rfl (by omega) (by omega) rfl ?_)
     refine D ?_
     refine JR rfl trivial (fun w' hS'=>Z1V rfl rfl (hM.up hS' _ _ htab)) rfl ?_
     refine D ?_
     have ed:d+(Z2g l[k].move d - d)=Z2g l[k].move d:=by omega
     rw [ed]
     refine W ?_
     refine CL rfl (J7 rfl rfl rfl) rfl (Z1a (Z2g l[k].move d) 0 3652058 _) ?_
     rintro _ _ ⟨rfl,rfl⟩
     by_cases h2:0≤Z2g l[k].move d∧Z2g l[k].move d≤3652058
     rw [decide_eq_true h2]
     rw [if_pos (Zx.2 h2)] at hkd
     have hlk:=Z4F y (l.take k) 0
     have hlk2:(l.take k).length≤l.length:=by rw [Xu];omega
     replace hr:=hr.up hS7
     refine W ?_
     refine Za (vs:=[(0,.int .i64 (Z2g l[k].move d)),(1,.int .i64 (k:Int))]) rfl (ZdP _ _) rfl ?_
     refine Z0 (Z3 (vs:=[(0,agg ((Z2g l[k].move d,(k:Int)):Spn))]) rfl (Zc4 _)) rfl ?_
     rintro bv w9 hN
     have hS9:=ZA.stp hN
     have hbv:SlV (ob ov) w9 bv [((Z2g l[k].move d,(k:Int)):Spn)]:=hN.slv (fun b hb=>(hr.1.ob_le b hb).2) rfl rfl (by simp [maxLen])
     replace hr:=hr.up hS9
     refine Z0 (Z1D rfl (by decide) rfl rfl hr hbv (by simp only [Xe,Xi];omega) (by simp only [Xe,Xi,maxLen];omega)) rfl ?_
     rintro ov' w10 ⟨hr2,hS10,ho10⟩
     refine W ?_
     refine Zd (k+1,ov') ⟨rfl,rfl,rfl,rfl,rfl,rfl,rfl,trivial⟩ ⟨hlt,?_⟩ (by dsimp only;omega)
     dsimp only
     rw [hko]
     unfold ofH
     rw [hkd]
     exact hr2
     rw [decide_eq_false h2]
     rw [if_neg (fun h=>h2 (Zx.1 h))] at hkd
     refine W ?_
     exact Zd (k+1,ov) ⟨rfl,rfl,rfl,rfl,rfl,rfl,rfl,trivial⟩ ⟨hlt,again _ hkd hS7⟩ (by dsimp only;omega)
 rw [decide_eq_false hin]
 refine W ?_
 exact Zd (k+1,ov) ⟨rfl,rfl,rfl,rfl,rfl,rfl,rfl,trivial⟩ ⟨hlt,again _ (by unfold Z18 ZdH;rw [if_pos (by omega)];rfl) (Stp.refl _ _)⟩ (by dsimp only;omega)
 have hk2:k=l.length:=by omega
 subst hk2
 rw [Xw] at hr
 have hlen:=Z4F y l 0
 focus repeat'(first|refine W1 ?_|omega|refine VG ?_ ?_<;>intro hg|refine VC ?_ ?_<;>intro hc)
 refine CL rfl (Zb rfl rfl) rfl (Z89 331 _ #[] Z8a Zmp [] w3.heap.size ov _ _ (by simp) hr.2.size hr.1 (ZjW _ _) (by omega)) ?_
 rintro _ w7 ⟨ys,hso,hrow7,hS7⟩
 refine W ?_
 refine WR ?_
 exact .mk ⟨ys,hso,hrow7.lower hS.size,(hS.trans hr.2).own hS7 (fun c hc=>.inr (Xg hS.size (hr.1.ob_le c hc).1))⟩
open Go Go.Eng Go.RowKit Go.Proofs
theorem Z71 (n:Int) (w:World) (h0:0≤n) (h1:n≤3652058):CC 281 #[.int .i64 n] w fun r w'=>r=.tuple #[ZbR (ofM n).y (ofM n).m (ofM n).d,.int .i64 0]∧Stp [] w w':=by
 refine cW1 73 Tryz.func281 ?_
 refine W ?_
 refine Z0 Z8 rfl ?_
 rintro _ w1 ⟨b2,rfl,hb2,e2',hS⟩
 have hw1:=hS.size
 repeat'(first|refine W1 ?_|omega|refine VG ?_ ?_<;>intro hg|refine VC ?_ ?_<;>intro hc)
 unfold ofM
 simp only
 have hr0:=Yat (n+306) (b:=146097) (by decide)
 have hr1:=Yam (n+306) (b:=146097) (by decide)
 have he:(n+306) / 146097≤25∧0≤(n+306) / 146097:=by omega
 generalize (n+306) % 146097=doe at *
 generalize (n+306) / 146097=era at *
 obtain ⟨yoe,doy,e1,e2,hy,hd,-⟩:=ZbP doe hr0 hr1
 simp only [e1,e2]
 have hmb:0≤(5 * (doy:Int)+2) / 153∧(5 * (doy:Int)+2) / 153≤11:=by omega
 repeat'(first|refine W1 ?_|omega|refine VG ?_ ?_<;>intro hg|refine VC ?_ ?_<;>intro hc)
 refine Za (vs:=[(0,.int .i64 _),(1,.int .i64 _),(2,.int .i64 _)]) rfl (Z3o _ _ _) rfl ?_
 refine Z0 Z8 rfl ?_
 rintro _ w2 ⟨b10,rfl,hb10,e10,hT⟩
 have n2:b10≠b2:=by have:=e2'.lt;omega
 replace e2':=e2'.up hT
 replace hS:=hS.trans hT
 refine Z1 (Z2 (us:=[.int .i64 _,.int .i64 _,.int .i64 _]) rfl rfl rfl rfl (by simp;exact ⟨rfl,rfl,rfl⟩) e10 rfl) ?_
 rintro _ w3 ⟨hT,e10'⟩
 replace e2':=e2'.ext hT (by simpa using n2.symm)
 replace hS:=hS.own hT (fun c hc=>.inr (by simp at hc;have:=hS.size;omega))
 clear e10 hT
 repeat'(first|refine W1 ?_|omega|refine VG ?_ ?_<;>intro hg|refine VC ?_ ?_<;>intro hc)
 rename_i hc
 refine Z1 (Zg (u:=.int .i64 ((yoe:Int)+400 * era+1)) rfl rfl rfl rfl e10' (by simp)) ?_
 rintro _ w4 ⟨hT,e10⟩
 replace e10:Blk w4 b10 291 [.int .i64 ((yoe:Int)+400 * era+1),.int .i64 ((5 * (doy:Int)+2) / 153+3),.int .i64 ((doy:Int) - (153 * ((5 * (doy:Int)+2) / 153)+2) / 5+1)]:=e10
 replace e2':=e2'.ext hT (by simpa using n2.symm)
 replace hS:=hS.own hT (fun c hc=>.inr (by simp at hc;omega))
 clear e10' hT
 refine W ?_
 refine Z1 (Zg (u:=.int .i64 ((5 * (doy:Int)+2) / 153 - 9)) rfl rfl rfl rfl e10 (by simp)) ?_
 rintro _ w5 ⟨hT,e10'⟩
 replace e10':Blk w5 b10 291 [.int .i64 ((yoe:Int)+400 * era+1),.int .i64 ((5 * (doy:Int)+2) / 153 - 9),.int .i64 ((doy:Int) - (153 * ((5 * (doy:Int)+2) / 153)+2) / 5+1)]:=e10'
 replace e2':=e2'.ext hT (by simpa using n2.symm)
 replace hS:=hS.own hT (fun c hc=>.inr (by simp at hc;omega))
 clear e10 hT
 refine W ?_
 refine Z1 (Z2 (us:=[.int .i64 _,.int .i64 _,.int .i64 _]) rfl rfl rfl rfl (by simp;exact ⟨rfl,rfl,rfl⟩) e2' rfl) ?_
 rintro _ w6 ⟨hT,e2⟩
 replace hS:=hS.own hT (fun c hc=>.inr (by simp at hc;omega))
 refine W ?_
 refine ZP rfl rfl rfl e2 rfl rfl ?_
 refine .mk ⟨?_,hS⟩
 rw [if_pos (by omega)]
 rename_i hc
 refine Z1 (Z2 (us:=[.int .i64 _,.int .i64 _,.int .i64 _]) rfl rfl rfl rfl (by simp;exact ⟨rfl,rfl,rfl⟩) e2' rfl) ?_
 rintro _ w6 ⟨hT,e2⟩
 replace hS:=hS.own hT (fun c hc=>.inr (by simp at hc;omega))
 refine W ?_
 refine ZP rfl rfl rfl e2 rfl rfl ?_
 refine .mk ⟨?_,hS⟩
 rw [if_neg (by omega)]
end Go.Proofs.YtjdjdoefppebkaaGreatDoor
namespace Go.Eng
open Go Go.RowKit Go.Proofs
variable {P:Program} {n:Nat} {Q:Exit→Act→World→Prop} {e:Env} {w:World}
theorem Z3t {i:Nat} {A B:Exit→Act→World→Prop} (h:∀ ex a w,A ex a w→B ex a w):∀ ex a w,Exit.inBlock i A ex a w→Exit.inBlock i B ex a w:=by
 intro ex a w hq
 cases ex with
 | exit j=>
   simp only [Exit.inBlock] at hq ⊢
   split
   rename_i hj
   rw [if_pos hj] at hq
   exact h _ _ _ hq
   rename_i hj
   rw [if_neg hj] at hq
   exact h _ _ _ hq
 | normal=>exact h _ _ _ hq
 | ret=>exact h _ _ _ hq
 | goto t=>exact h _ _ _ hq
 | panic c=>exact h _ _ _ hq
 | outgrown=>exact h _ _ _ hq
theorem Zc5 {x y:Code} {σ:Type} {i j:Nat} (env:σ→Env) (I:σ→World→Prop)
 (h:WC P n x (Exit.inBlock i (Exit.inBlock j (Exit.then (fun a w=>∃ s,Has n (env s) a∧I s w) Q))) e w) (k:∀ s w,I s w→WC P n y Q (env s) w):WC P n x (Exit.inBlock i (Exit.inBlock j (Exit.then (fun a w=>y.wp P Q a w) Q))) e w:=
 ⟨fun a ha => wp_mono (h.h a ha) (Z3t (Z3t (fun ex a w hq => by
   cases ex with
   | normal=>obtain ⟨s,h1,h2⟩:=hq;exact (k s w h2).h a h1
   | _=>exact hq)))⟩
end Go.Eng
namespace Go.Proofs.YtjdjdoefppebkaaGreatDoor
open Go Go.Eng Go.RowKit
def inR (a b:Int) (zs:List Int):List Int:=zs.filter fun d=>decide (a≤d∧d≤b)
theorem ZdR (a b:Int) (x y:List Int):inR a b (x++y)=inR a b x++inR a b y:=by unfold inR;rw [XG]
theorem Zc6 {y:Int} {l:List Hol} {ys:List Spn} (h:JX Z8a (ofK y l 0) ys) (d:Int):d∈ys.map Prod.fst↔∃ h∈l,Z18 h y=some d:=by
 rw [← Z9B y d l 0,Yao]
 constructor
 rintro ⟨⟨a,r⟩,h1,rfl⟩
 exact ⟨r,h.1.mem_iff.1 h1⟩
 rintro ⟨r,hr⟩
 exact ⟨(d,r),h.1.mem_iff.2 hr,rfl⟩
theorem Zc7 {y:Int} {l:List Hol} {ys:List Spn} (h:JX Z8a (ofK y l 0) ys):ys.length≤l.length:=by
 rw [h.1.length_eq];exact Z4F y l 0
set_option maxHeartbeats 1000000 in
theorem Z8b (v:Value) (l:List Hol) (a b:Int) (w:World) (hs:SlV [] w v l) (hL:Z0b w) (hM:Z31 w) (ho:∀ h∈l,Z4o h) (hl:l.length<20) (ha:0≤a) (hab:a≤b) (hb:b≤3652058) (hyy:(ofM a).y≤(ofM b).y) :
 CC 286 #[v,.int .i64 a,.int .i64 b] w fun r w'=>∃ zs:List Int,(∀ d,d∈zs↔a≤d∧d≤b∧∃ y,(ofM a).y - 1≤y∧y≤(ofM b).y+1∧∃ h∈l,Z18 h y=some d)∧JZ 3 w w' r (Z5n zs):=by
 obtain ⟨ya1,ya2,-⟩:=Z6R ha (by omega)
 obtain ⟨yb1,yb2,-⟩:=Z6R (n:=b) (by omega) hb
 have hmx:max a 0=a:=by omega
 have hmn:min b 3652058=b:=by omega
 refine cW3 65 Tryz.func286 ?_
 refine W ?_
 rw [hmx,hmn]
 repeat'(first|refine W1 ?_|omega|refine VG ?_ ?_<;>intro hg|refine VC ?_ ?_<;>intro hc)
 refine CL rfl (Zk rfl) rfl (Z71 a _ ha (by omega)) ?_
 rintro _ w1 ⟨rfl,hS⟩
 refine W ?_
 refine Z0 Z8 rfl ?_
 rintro _ w2 ⟨b7,rfl,hb7,e7,hS2⟩
 refine W ?_
 refine Z1 (Z2 (us:=[.int .i64 (ofM a).y,.int .i64 (ofM a).m,.int .i64 (ofM a).d]) rfl rfl rfl rfl (by intro u hu;simp at hu;rcases hu with rfl|rfl|rfl<;>rfl) e7 rfl) ?_
 rintro _ w3 ⟨hT,k7⟩
 replace hS:=hS.trans (hS2.own hT (fun c hc=>.inr (by simp at hc;omega)))
 clear e7 hS2 hT
 refine W ?_
 refine CL rfl (Zk rfl) rfl (Z71 b _ (by omega) hb) ?_
 rintro _ w4 ⟨rfl,hS4⟩
 replace k7:=k7.up hS4
 replace hS:=hS.trans hS4
 refine W ?_
 refine Z0 Z8 rfl ?_
 rintro _ w5 ⟨b9,rfl,hb9,e9,hS5⟩
 have n79:b7≠b9:=by have:=k7.lt;omega
 refine W ?_
 refine Z1 (Z2 (us:=[.int .i64 (ofM b).y,.int .i64 (ofM b).m,.int .i64 (ofM b).d]) rfl rfl rfl rfl (by intro u hu;simp at hu;rcases hu with rfl|rfl|rfl<;>rfl) e9 rfl) ?_
 rintro _ w6 ⟨hT,k9⟩
 replace hS5:=hS5.own hT (fun c hc=>.inr (by simp at hc;omega))
 replace k7:=k7.up hS5
 replace hS:=hS.trans hS5
 clear e9 hT hS4 hS5
 replace hs:=hs.up hS
 replace hL:=hL.up hS
 replace hM:=hM.up hS
 refine W ?_
 refine Zh (σ:=Nat×Value×List Int) (fun q=>[(0,v),(1,.int .i64 a),(2,.int .i64 b),(7,.pointer (some ⟨b7,0,none⟩)),(9,.pointer (some ⟨b9,0,none⟩)),(11,q.2.1),(12,.int .i64 ((ofM a).y - 1+(q.1:Int)))])
  (fun q w'=>(ofM a).y - 1+(q.1:Int)≤(ofM b).y+2∧q.2.2.length≤q.1 * 20∧(∀ d,d∈q.2.2↔a≤d∧d≤b∧∃ y,(ofM a).y - 1≤y∧y<(ofM a).y - 1+(q.1:Int)∧∃ h∈l,Z18 h y=some d)∧JZ 3 w6 w' q.2.1 q.2.2)
  (fun q=>20000 - q.1) (0,.slice none 0 0,[]) ⟨rfl,rfl,rfl,rfl,rfl,rfl,(by simp [Z0P]),trivial⟩ ⟨by dsimp only;omega,Xo _,fun d=>by simp;intros;omega,JZ.nil⟩ ?_
 rintro ⟨k,ov,zs⟩ w7 ⟨hk,hzl,hz,hr⟩
 dsimp only at hk hzl hz hr ⊢
 have hS7:=hr.2
 replace k7:=k7.up hS7
 replace k9:=k9.up hS7
 replace hs:=hs.up hS7
 replace hL:=hL.up hS7
 replace hM:=hM.up hS7
 by_cases hlt:(ofM a).y - 1+(k:Int)≤(ofM b).y+1
 focus repeat'(first|refine W1 ?_|omega|refine VG ?_ ?_<;>intro hg|refine VC ?_ ?_<;>intro hc)
 refine CL rfl (Zb rfl rfl) rfl (ZdQ v l _ _ hs hL hM ho hl) ?_
 rintro rv w8 ⟨ys,hso,hrf⟩
 have hyl:=Zc7 hso
 have hmem:=Zc6 hso
 have hS8:=hrf.2
 have hys:=hrf.slv (X:=ob ov) (fun b hb=>(hr.1.ob_le b hb).2)
 have hys0:=hrf.slv (X:=[]) (by simp)
 replace hr:=hr.up hS8
 replace k9:=k9.up hS8
 replace hs:=hs.up hS8
 replace hL:=hL.up hS8
 replace hM:=hM.up hS8
 refine W ?_
 refine Zc5 (σ:=Value×List Int) (fun q=>[(0,v),(1,.int .i64 a),(2,.int .i64 b),(7,.pointer (some ⟨b7,0,none⟩)),(9,.pointer (some ⟨b9,0,none⟩)),(11,q.1),(12,.int .i64 ((ofM a).y - 1+(k:Int)))])
  (fun q w'=>q.2=zs++inR a b (ys.map Prod.fst)∧JZ 3 w6 w' q.1 q.2) ?_ ?_
 refine Zh (σ:=Nat×Value) (fun q=>[(0,v),(1,.int .i64 a),(2,.int .i64 b),(7,.pointer (some ⟨b7,0,none⟩)),(9,.pointer (some ⟨b9,0,none⟩)),(11,q.2),(12,.int .i64 ((ofM a).y - 1+(k:Int))),(44,rv),(45,.int .i64 (ys.length:Int)),(46,.int .i64 (q.1:Int))])
  (fun q w'=>q.1≤ys.length∧JZ 3 w6 w' q.2 (zs++inR a b ((ys.take q.1).map Prod.fst))∧SlV (ob q.2) w' rv ys) (fun q=>ys.length - q.1) (0,ov) ⟨rfl,rfl,rfl,rfl,rfl,rfl,rfl,rfl,rfl,rfl,trivial⟩ ⟨Xo _,by simpa [inR] using hr,hys⟩ ?_
 clear hr hys hys0 hs hL hM k7 k9
 rintro ⟨j,ov'⟩ w9 ⟨hj,hr,hys⟩
 dsimp only at hj hr hys ⊢
 by_cases hjl:j<ys.length
 have htk:inR a b ((ys.take (j+1)).map Prod.fst)=inR a b ((ys.take j).map Prod.fst)++inR a b [ys[j].1]:=by
  rw [Xl hjl,Yal,ZdR]
  rfl
 focus repeat'(first|refine W1 ?_|omega|refine VG ?_ ?_<;>intro hg|refine VC ?_ ?_<;>intro hc)
 refine Z0 Z8 rfl ?_
 rintro _ w10 ⟨b14,rfl,hb14,e14,hS10⟩
 refine W ?_
 refine Z1 (Z2 (us:=Z5.enc ys[j]) rfl rfl rfl rfl (Z5.one _) e14 rfl) ?_
 rintro _ w11 ⟨hT,k14⟩
 replace hS10:=hS10.own hT (fun c hc=>.inr (by simp at hc;omega))
 clear e14 hT
 replace hr:=hr.up hS10
 replace hys:=hys.up hS10
 refine W ?_
 refine CL rfl (J7 rfl rfl rfl) rfl (Z1a ys[j].1 a b _) ?_
 rintro _ _ ⟨rfl,rfl⟩
 by_cases hin:a≤ys[j].1∧ys[j].1≤b
 rw [decide_eq_true hin]
 have hlen:(zs++inR a b ((ys.take j).map Prod.fst)).length≤300000:=by
  have h1:(inR a b ((ys.take j).map Prod.fst)).length≤((ys.take j).map Prod.fst).length:=X0 _ _
  rw [Xh]
  simp only [Yaw,Xu] at h1
  omega
 have e1:inR a b [ys[j].1]=[ys[j].1]:=by unfold inR;simp [hin]
 rw [e1] at htk
 refine W ?_
 refine Z0 (Z3 (vs:=[(0,.int .i64 ys[j].1)]) rfl (Z7n _)) rfl ?_
 rintro bv w12 hN
 have hS12:=ZA.stp hN
 have hbv:SlV (ob ov') w12 bv [ys[j].1]:=hN.slv (fun b hb=>(hr.1.ob_le b hb).2) rfl rfl (by simp [maxLen])
 replace hr:=hr.up hS12
 replace hys:=hys.up hS12
 refine Z0 (Z1D rfl (by decide) rfl rfl hr hbv (by simp only [Xe,Xi];omega) (by simp only [Xe,Xi,maxLen];omega)) rfl ?_
 rintro ov2 w13 ⟨hr2,hS13,ho13⟩
 refine W ?_
 refine Zd (j+1,ov2) ⟨rfl,rfl,rfl,rfl,rfl,rfl,rfl,rfl,rfl,rfl,trivial⟩ ⟨hjl,?_,hys.ext hS13 (fun _ h=>h) ho13⟩ (by dsimp only;omega)
 dsimp only
 rw [htk,← Xr]
 exact hr2
 rw [decide_eq_false hin]
 have e1:inR a b [ys[j].1]=[]:=by unfold inR;simp only [List.filter_cons,decide_eq_false hin,List.filter_nil];rfl
 rw [e1,XL] at htk
 refine W ?_
 refine Zd (j+1,ov') ⟨rfl,rfl,rfl,rfl,rfl,rfl,rfl,rfl,rfl,rfl,trivial⟩ ⟨hjl,?_,hys⟩ (by dsimp only;omega)
 dsimp only
 rw [htk]
 exact hr
 have hjj:j=ys.length:=by omega
 subst hjj
 rw [Xw] at hr
 focus repeat'(first|refine W1 ?_|omega|refine VG ?_ ?_<;>intro hg|refine VC ?_ ?_<;>intro hc)
 exact ZJ (ov',zs++inR a b (ys.map Prod.fst)) ⟨rfl,rfl,rfl,rfl,rfl,rfl,rfl,trivial⟩ ⟨rfl,hr⟩
 rintro ⟨ov',zs'⟩ w9 ⟨hzz,hr⟩
 dsimp only at hzz hr ⊢
 subst hzz
 have e1:(ofM a).y - 1+(k:Int)+1=(ofM a).y - 1+((k+1:Nat):Int):=by omega
 refine W ?_
 rw [e1]
 refine Zd (k+1,ov',zs++inR a b (ys.map Prod.fst)) ⟨rfl,rfl,rfl,rfl,rfl,rfl,rfl,trivial⟩ ⟨by dsimp only;omega,?_,fun d=>?_,hr⟩ (by dsimp only;omega)
 have h1:(inR a b (ys.map Prod.fst)).length≤(ys.map Prod.fst).length:=X0 _ _
 dsimp only
 rw [Xh]
 simp only [Yaw] at h1
 omega
 dsimp only
 rw [Xt,hz,inR,X9,hmem]
 constructor
 rintro (⟨p1,p2,y,p3,p4,p5⟩|⟨p5,p6⟩)
 exact ⟨p1,p2,y,p3,by omega,p5⟩
 have p6:=of_decide_eq_true p6
 exact ⟨p6.1,p6.2,_,by omega,by omega,p5⟩
 rintro ⟨p1,p2,y,p3,p4,p5⟩
 by_cases hy:y<(ofM a).y - 1+(k:Int)
 exact .inl ⟨p1,p2,y,p3,hy,p5⟩
 obtain rfl:y=(ofM a).y - 1+(k:Int):=by omega
 exact .inr ⟨p5,decide_eq_true ⟨p1,p2⟩⟩
 focus repeat'(first|refine W1 ?_|omega|refine VG ?_ ?_<;>intro hg|refine VC ?_ ?_<;>intro hc)
 refine CL rfl (Zk rfl) rfl (ZbU _ hr.1 (by omega)) ?_
 rintro _ w8 ⟨rfl,hrow2,hS8⟩
 refine W ?_
 refine CL rfl (Zk rfl) rfl (Z80 _ hrow2 (by rw [List.length_mergeSort];omega)) ?_
 rintro rv w9 ⟨hrow3,hS9,hob⟩
 refine W ?_
 refine WR ?_
 refine .mk ⟨zs,fun d=>?_,hrow3.lower hS.size,((hS.trans hr.2).own hS8 (fun c hc=>.inr (Xg hS.size (hr.1.ob_le c hc).1))).own hS9 (fun c hc=>.inr (Xg hS.size (hr.1.ob_le c hc).1))⟩
 rw [hz]
 constructor
 rintro ⟨p1,p2,y,p3,p4,p5⟩
 exact ⟨p1,p2,y,p3,by omega,p5⟩
 rintro ⟨p1,p2,y,p3,p4,p5⟩
 exact ⟨p1,p2,y,p3,by omega,p5⟩
theorem Z8W {l:List Hol} {d:Int} (h0:0≤d) (h1:d≤3652058) {zs:List Int} (hz:∀ x,x∈zs↔d≤x∧x≤d∧∃ y,(ofM d).y - 1≤y∧y≤(ofM d).y+1∧∃ h∈l,Z18 h y=some x) :
 decide (((Z5n zs).length:Int) > 0)=Z5o l d:=by
 have hm:=(Z8O zs).2
 have hin:Zv d=true:=Zx.2 ⟨h0,h1⟩
 rw [XU]
 unfold Z5o
 rw [hin,Bool.true_and,decide_eq_true_eq,XM]
 constructor
 intro hl
 obtain ⟨x,hx⟩:=List.exists_mem_of_length_pos (l:=Z5n zs) (by omega)
 obtain ⟨p1,p2,y,p3,p4,h,hh,hk⟩:=(hz x).1 ((hm x).1 hx)
 obtain rfl:x=d:=by omega
 refine ⟨y,?_,XM.2 ⟨h,hh,decide_eq_true hk⟩⟩
 have:y=(ofM x).y - 1∨y=(ofM x).y∨y=(ofM x).y+1:=by omega
 rcases this with rfl|rfl|rfl<;>simp
 rintro ⟨y,hy,hh⟩
 obtain ⟨h,hh,hk⟩:=XM.1 hh
 have hy2:(ofM d).y - 1≤y∧y≤(ofM d).y+1:=by simp at hy;omega
 have:d∈Z5n zs:=(hm d).2 ((hz d).2 ⟨Yac _,Yac _,y,hy2.1,hy2.2,h,hh,of_decide_eq_true hk⟩)
 have:=List.length_pos_of_mem this
 omega
theorem ZhI (v:Value) (l:List Hol) (d:Int) (w:World) (hs:SlV [] w v l) (hL:Z0b w) (hM:Z31 w) (ho:∀ h∈l,Z4o h) (hl:l.length<20) :
 CC 239 #[v,.int .i64 d] w fun r w'=>r=.bool (Z5o l d)∧Stp [] w w':=by
 refine cW2 15 Tryz.func239 ?_
 refine W ?_
 refine CL rfl (J7 rfl rfl rfl) rfl (Z1a d 0 3652058 _) ?_
 rintro _ _ ⟨rfl,rfl⟩
 by_cases hd:0≤d∧d≤3652058
 rw [decide_eq_true hd]
 refine W ?_
 refine CL rfl (J7 rfl rfl rfl) rfl (Z8b v l d d _ hs hL hM ho hl hd.1 (Yac _) hd.2 (Yac _)) ?_
 rintro rv w1 ⟨zs,hz,hr⟩
 have hsv:=hr.slv (X:=[]) (by simp)
 refine W ?_
 refine WR ?_
 exact .mk ⟨by rw [Z8W hd.1 hd.2 hz],hr.2⟩
 rw [decide_eq_false hd]
 refine W ?_
 refine WR ?_
 refine .mk ⟨?_,Stp.refl _ _⟩
 have:Zv d=false:=by unfold Zv;exact decide_eq_false hd
 unfold Z5o
 rw [this]
 rfl
structure Z4v (w:World) (c:Cal) (hv cv zo zs hr:Value):Prop where
 hols:SlV [] w hv c.hols
 clos:SlV [] w cv c.clos
 len:Z0b w
 mov:Z31 w
 ok:Ze8 c
abbrev Z4w (c:Cal) (hv cv zo zs hr:Value):Value:=.agg (Z0d c hv cv zo zs hr).toArray
theorem Z4v.up {w w':World} {c:Cal} {hv cv zo zs hr:Value} (h:Z4v w c hv cv zo zs hr) (hS:Stp [] w w'):Z4v w' c hv cv zo zs hr:=⟨h.hols.up hS,h.clos.up hS,h.len.up hS,h.mov.up hS,h.ok⟩
theorem ZdS (c:Cal) (hv cv zo zs hr:Value) {i:Nat} (hi:i<7):(Z0d c hv cv zo zs hr)[0+i * 1]?=some (.bool (c.week.getD i false)):=by
 have:i=0∨i=1∨i=2∨i=3∨i=4∨i=5∨i=6:=by omega
 rcases this with rfl|rfl|rfl|rfl|rfl|rfl|rfl<;>rfl
theorem Z2l (d:Int) (w:World):CC 159 #[.int .i64 d] w fun r w'=>r=.bool (Zv d)∧w'=w:=by
 refine cW1 9 Tryz.func159 ?_
 unfold Zv
 by_cases h1:d≥0
 by_cases h2:d≤3652058
 rw [decide_eq_true ⟨h1,h2⟩]
 focus repeat'(first|refine W1 ?_|omega|refine VG ?_ ?_<;>intro hg|refine VC ?_ ?_<;>intro hc)
 refine WR ?_
 exact .mk ⟨by simp [h2],rfl⟩
 rw [decide_eq_false (fun h=>h2 h.2)]
 focus repeat'(first|refine W1 ?_|omega|refine VG ?_ ?_<;>intro hg|refine VC ?_ ?_<;>intro hc)
 refine WR ?_
 exact .mk ⟨by simp [h2],rfl⟩
 rw [decide_eq_false (fun h=>h1 h.1)]
 focus repeat'(first|refine W1 ?_|omega|refine VG ?_ ?_<;>intro hg|refine VC ?_ ?_<;>intro hc)
 refine WR ?_
 exact .mk ⟨rfl,rfl⟩
theorem Zap (d kn:Int) (bc bk:Nat) (c:Cal) (hv cv zo zs hr:Value) (w:World) (h:Z4v w c hv cv zo zs hr) (kc:Blk w bc 37 (Z0d c hv cv zo zs hr)) (kk:Blk w bk 3 [.int .i64 kn]) (h0:0≤d) (h1:d≤3652058) :
 CC 237 #[.int .i64 d,.pointer (some ⟨bc,0,none⟩),.pointer (some ⟨bk,0,none⟩)] w fun r w'=>r=.bool (Z9w c kn d)∧Stp [] w w':=by
 have hi7:(d % 7).toNat<7:=by omega
 have hwk:=ZdS c hv cv zo zs hr hi7
 have hcm:=h.clos.max
 have hcl0:=h.clos
 refine cW3 40 Tryz.func237 ?_
 refine W ?_
 refine CL rfl (Zk rfl) rfl (Z2k d _ h0 (by omega)) ?_
 rintro _ w ⟨rfl,rfl⟩
 refine W ?_
 refine Z0J (len:=7) (i:=(d % 7).toNat) rfl rfl (by omega) hi7 rfl ?_
 refine JV rfl rfl kc hwk rfl ?_
 unfold Z9w
 cases hw:c.week.getD (d % 7).toNat false with
 | true=>
   refine W ?_
   refine WR ?_
   exact .mk ⟨by simp,Stp.refl _ _⟩
 | false=>
   rw [YaD]
   refine W ?_
   refine Z6h (σ:=Unit) (fun _=>[(0,.int .i64 d),(1,.pointer (some ⟨bc,0,none⟩))]) (fun _ w'=>Z82 c.clos kn d=false∧Stp [] w w') ?_ ?_
   refine Zh (σ:=Nat) (fun k=>[(0,.int .i64 d),(1,.pointer (some ⟨bc,0,none⟩)),(2,.pointer (some ⟨bk,0,none⟩)),(13,cv),(14,.int .i64 (c.clos.length:Int)),(15,.int .i64 (k:Int))])
    (fun k w'=>k≤c.clos.length∧Z82 (c.clos.take k) kn d=false∧Stp [] w w') (fun k=>c.clos.length - k) 0 ⟨rfl,rfl,rfl,rfl,rfl,rfl,trivial⟩ ⟨Xo _,rfl,Stp.refl _ _⟩ ?_
   rintro k w1 ⟨hk,hn,hS⟩
   have kk:=kk.up hS
   have hcl:=h.clos.up hS
   by_cases hlt:k<c.clos.length
   have ht:Z82 (c.clos.take (k+1)) kn d=(Z82 (c.clos.take k) kn d || decide (c.clos[k].known≤kn∧c.clos[k].lo≤d∧d≤c.clos[k].hi)):=by
    unfold Z82
    rw [Xl hlt,List.any_append]
    simp
   rw [hn,YaD] at ht
   focus repeat'(first|refine W1 ?_|omega|refine VG ?_ ?_<;>intro hg|refine VC ?_ ?_<;>intro hc)
   refine Z0 Z8 rfl ?_
   rintro _ w2 ⟨b6,rfl,hb6,e6,hS2⟩
   refine W ?_
   refine Z1 (Z2 (us:=Z5.enc c.clos[k]) rfl rfl rfl rfl (Z5.one _) e6 rfl) ?_
   rintro _ w3 ⟨hT,k6⟩
   replace hS2:=hS2.own hT (fun c hc=>.inr (by simp at hc;omega))
   clear e6 hT
   replace kk:=kk.up hS2
   replace hcl:=hcl.up hS2
   replace hS:=hS.trans hS2
   by_cases hx:c.clos[k].known≤kn∧c.clos[k].lo≤d∧d≤c.clos[k].hi
   focus repeat'(first|refine W1 ?_|omega|refine VG ?_ ?_<;>intro hg|refine VC ?_ ?_<;>intro hc)
   refine WR ?_
   refine .mk ⟨?_,hS⟩
   have:Z82 c.clos kn d=true:=by
    unfold Z82
    exact XM.2 ⟨c.clos[k],Xm hlt,decide_eq_true hx⟩
   rw [this]
   rfl
   · rw [decide_eq_false hx] at ht
     repeat'(first|refine W1 ?_|omega|refine VG ?_ ?_<;>intro hg|refine VC ?_ ?_<;>intro hc)
     all_goals exact Zd (k+1) ⟨rfl,rfl,rfl,rfl,rfl,rfl,trivial⟩ ⟨hlt,ht,hS⟩ (by omega)
   obtain rfl:k=c.clos.length:=by omega
   rw [Xw] at hn
   focus repeat'(first|refine W1 ?_|omega|refine VG ?_ ?_<;>intro hg|refine VC ?_ ?_<;>intro hc)
   exact ZJ () ⟨rfl,rfl,trivial⟩ ⟨hn,hS⟩
   rintro _ w1 ⟨hn,hS⟩
   have kc:=kc.up hS
   have h:=h.up hS
   rw [hn,YaD]
   refine W ?_
   refine CL rfl (Zb rfl rfl) rfl (ZhI hv c.hols d _ h.hols h.len h.mov h.ok.hols (by have:=h.ok.few;omega)) ?_
   rintro _ w2 ⟨rfl,hS2⟩
   refine W ?_
   refine WR ?_
   exact .mk ⟨rfl,hS.trans hS2⟩
def ZjX (w:World) (f:Value) (c:Cal) (hv cv zo zs hr:Value) (kn:Int):Prop:=∃ b2 b3,f=.func (.func 237) #[] #[.pointer (some ⟨b2,0,none⟩),.pointer (some ⟨b3,0,none⟩)]∧Blk w b2 37 (Z0d c hv cv zo zs hr)∧Blk w b3 3 [.int .i64 kn]
theorem Zc8 (kn:Int) (c:Cal) (hv cv zo zs hr:Value) (w:World):CC 160 #[Z4w c hv cv zo zs hr,.int .i64 kn] w fun r w'=>ZjX w' r c hv cv zo zs hr kn∧Stp [] w w':=by
 refine cW2 6 Tryz.func160 ?_
 refine W ?_
 refine Z0 (Zl rfl) rfl ?_
 rintro _ w1 ⟨b2,rfl,hb2,hblk,hS⟩
 replace hblk:Blk w1 b2 37 (Z0d c hv cv zo zs hr):=hblk
 refine Z0 (Zl rfl) rfl ?_
 rintro _ w2 ⟨b3,rfl,hb3,hblk3,hS2⟩
 replace hblk3:Blk w2 b3 3 [.int .i64 kn]:=hblk3
 replace hblk:=hblk.up hS2
 refine W ?_
 refine WR ?_
 exact .mk ⟨⟨b2,b3,rfl,hblk,hblk3⟩,hS.trans hS2⟩
open Go Go.Eng Go.RowKit Go.Proofs Go.Shelf
attribute [local go_sem] Oper.semAt_some
set_option maxRecDepth 100000 in
set_option maxHeartbeats 2000000 in
theorem Zc9 (n:Nat) (hn:2≤n) (l bd bs:Nat) (d0 st:Int) (hst:st=1∨st=-1) (h00:0≤d0) (h01:d0≤3652058) (J:Nat→World→Prop) (Jx:World→Prop)
 (hJc:∀ k W,J k W→W.cell? ⟨bd,0,none⟩=some (.int .i64 (d0+st * k))∧W.cell? ⟨bs,0,none⟩=some (.int .i64 st))
 (hY : ∀ (k : Nat) W, J k W → k ≤ 1000 → Zv (d0 + st * k) = true → YieldAt Fence.wide (n - 1) Tryz.prog l #[.int .i64 (d0 + st * k)] W fun e W'=>
   (e=.returned (.bool true)∧W'.cell? ⟨bd,0,none⟩=some (.int .i64 (d0+st * k))∧W'.frozen? ⟨bd,0,none⟩=false∧W'.cell? ⟨bs,0,none⟩=some (.int .i64 st)∧J (k+1) (W'.setCell ⟨bd,0,none⟩ (.int .i64 (d0+st * k+st))))∨(e=.returned (.bool false)∧Jx W'))
 (W:World) (h0:J 0 W) :
 CallsIn Fence.wide n Tryz.prog 328 #[.func (.yield l) #[] #[],.pointer (some ⟨bd,0,none⟩),.pointer (some ⟨bs,0,none⟩)] W fun e W'=>(∃ v,e=.returned v)∧
  ((∃ k:Nat,(1000<k∨Zv (d0+st * k)=false)∧J k W')∨Jx W'):=by
 refine callsIn_of_wp Tryz.func328 rfl trivial ?_ rfl
 simp only [Tryz.ntmps328,Yaa,Xe,Xi,Nat.reduceAdd,Nat.reduceSub,Array.replicate_succ,Array.replicate_zero,List.push_toArray,List.append_toArray,XK,XI]
 gi_wp2
 gi_loopw [4] (fun i wr=>∃ k:Nat,k≤1001∧i=.int .i64 (k:Int)∧J k wr) (fun i _=>1002 - (intOf i).toNat)
 case atStart=>exact ⟨0,Xo _,rfl,h0⟩
 case round=>
  obtain ⟨k,hk,rfl,hJk⟩:=hrel
  obtain ⟨c1,c2⟩:=hJc k _ hJk
  have hsk:-1001≤st * (k:Int)∧st * (k:Int)≤1001:=by rcases hst with rfl|rfl<;>omega
  by_cases hlt:k≤1000
  · have hle:(k:Int)≤1000:=by omega
    gi_wp2
    refine ⟨trivial,(fun h=>by cases h),?_⟩
    refine (callsIn_wide.2 (Z2l _ _)).mono ?_
    rintro e w' ⟨v,rfl,rfl,rfl⟩
    cases hin:Zv (d0+st * k) with
    | false=>
      gi_wp2
      go_end0
      exact ⟨⟨_,rfl⟩,.inl ⟨k,.inr hin,hJk⟩⟩
    | true=>
      obtain ⟨fn,tmps,assign,body,hy,hR⟩:=hY k _ hJk hlt hin
      gi_wp2
      refine ⟨(fun h=>by cases h),hR.mono ?_⟩
      rintro e W3 (⟨rfl,a1,a2,a3,a4⟩|⟨rfl,hx⟩)
      have hin2:=Zx.1 hin
      gi_wp2
      exact ⟨⟨k+1,by omega,rfl,a4⟩,by simp [intOf];omega⟩
      gi_wp2
      refine bodyPost_ret (results_none rfl _ _ _) rfl ?_
      exact ⟨⟨_,rfl⟩,.inr hx⟩
  have hgt:¬ (k:Int)≤1000:=by omega
  gi_wp2
  refine ⟨trivial,?_⟩
  gi_wp2
  go_end0
  exact ⟨⟨_,rfl⟩,.inl ⟨k,.inl (by omega),hJk⟩⟩
theorem Z8X {g:Operand} {ps:Array Tmp} {assign body:Code} {Q:Exit→Act→World→Prop} {a:Act} {w:World} {n:Nat} (hn:3≤n) (hps:ps.size=1) {bd bs:Nat} {d0 st:Int}
 (hg:a.eval g=.func (.func 328) #[] #[.pointer (some ⟨bd,0,none⟩),.pointer (some ⟨bs,0,none⟩)]) (hst:st=1∨st=-1) (h00:0≤d0) (h01:d0≤3652058) (hbd:bd<w.heap.size)
 (I I':Nat→World→Prop) (Ix:World→Prop)
 (hI:∀ k W W',I k W→Below w.heap.size W W'→I k W') (hI':∀ k W W',I' k W→Below w.heap.size W W'→I' k W') (hIx:∀ W W',Ix W→Below w.heap.size W W'→Ix W')
 (hc:∀ (k:Nat) W,I k W→W.cell? ⟨bd,0,none⟩=some (.int .i64 (d0+st * k))∧W.cell? ⟨bs,0,none⟩=some (.int .i64 st))
 (hc':∀ (k:Nat) W,I' k W→W.cell? ⟨bd,0,none⟩=some (.int .i64 (d0+st * k))∧W.frozen? ⟨bd,0,none⟩=false∧W.cell? ⟨bs,0,none⟩=some (.int .i64 st))
 (hstep:∀ (k:Nat) W,I' k W→I (k+1) (W.setCell ⟨bd,0,none⟩ (.int .i64 (d0+st * k+st)))) (h0:I 0 w) (a₁:Int→Act)
 (hassign : ∀ (l : Nat) (X : Int) (W : World) (K : Act → World → Prop), K (a₁ X) W→
   assign.wpIn (Fence.wide.inRound l) (n - 1 - 1) Tryz.prog (Exit.then K (fun _ _ _=>False)) { tmps:=(ps.zip #[Value.int .i64 X]).foldl (fun t (p,v)=>t.setIfInBounds p v) a.tmps,defers:=[] } W)
 (hbody : ∀ (l : Nat) (k : Nat) (W : World), I k W → k ≤ 1000 → Zv (d0 + st * k) = true → body.wpIn (Fence.wide.inRound l) (n - 1 - 1) Tryz.prog
   (fun e _ W'=>(∀ b,w.heap.size≤b→b<W.heap.size→W'.heap[b]?=W.heap[b]?)∧match e with|.normal=>I' k W'|.ret=>Ix W'|_=>False) (a₁ (d0+st * k)) W)
 (hdone:∀ (D k:Nat) (W:World),w.heap.size≤D→(1000<k∨Zv (d0+st * k)=false)→I k W→W.heap[D]?=some (.deferred (some []))→Q .normal { a with defers:={ target:=.collected D,args:=#[] } :: a.defers } W)
 (hstop:∀ (D:Nat) (W:World),w.heap.size≤D→Ix W→W.heap[D]?=some (.deferred (some []))→Q .ret { a with defers:={ target:=.collected D,args:=#[] } :: a.defers } W) :
 (Code.rangeFunc g ps assign body).wpIn Fence.wide n Tryz.prog Q a w:=by
 refine wpIn_rangeFunc ?_
 intro fn hfn
 obtain ⟨rec,hrec⟩:∃ rec:LoopState→Option Code→Loop,rec=fun st pe=>{ state:=st,pending:=pe,fn,tmps:=a.tmps,params:=ps,assign,body,defers:=w.heap.size }:=⟨_,rfl⟩
 obtain ⟨W1,hW1⟩:∃ W1,(w.alloc (.deferred (some []))).alloc (.loop (rec .ready none))=W1:=⟨_,rfl⟩
 have hL1:W1.heap[w.heap.size+1]?=some (.loop (rec .ready none)):=by
  rw [← hW1];have:=World.alloc_heap_new (w.alloc (.deferred (some []))) (.loop (rec .ready none));rwa [World.size_alloc] at this
 have hK1:W1.heap[w.heap.size]?=some (.deferred (some [])):=by
  rw [← hW1];exact (Below.heap_alloc _ _ _ (by simp)).trans (World.alloc_heap_new w _)
 have hb1:Below w.heap.size w W1:=by
  rw [← hW1];exact ((Below.refl _ w).alloc (Xk _) _).alloc (by simp) _
 have bput:∀ (W:World) (l:Nat) (o:Obj),w.heap.size≤l→Below w.heap.size W (W.putObj l o):=fun W l o hl=>
  ⟨rfl,rfl,rfl,by simp,fun k hk=>World.putObj_heap_other (by omega)⟩
 refine ⟨w.heap.size+1,[{ target:=.collected w.heap.size,args:=#[] }],W1,{ target:=.fn (.func 328) #[.pointer (some ⟨bd,0,none⟩),.pointer (some ⟨bs,0,none⟩)],args:=#[.func (.yield (w.heap.size+1)) #[] #[]] },W1,328,
  #[.func (.yield (w.heap.size+1)) #[] #[]]++#[.pointer (some ⟨bd,0,none⟩),.pointer (some ⟨bs,0,none⟩)],W1,?_,?_,?_,?_,fun h=>(by cases h),?_⟩
 rw [← hW1,hrec];exact run_enterLoop_outer _ _ _ _ _
 simp only [resolve,hg]
 simp [go_sem]
 intro f' hf';trivial
 have eg:=enters_of Tryz.func328 (by kernel_rfl) rfl
 simp [invoke,go_sem,eg]
 refine (Zc9 (n - 1) (by omega) (w.heap.size+1) bd bs d0 st hst h00 h01
  (fun k W=>I k W∧W.heap[w.heap.size+1]?=some (.loop (rec .ready none))∧W.heap[w.heap.size]?=some (.deferred (some [])))
  (fun W=>Ix W∧W.heap[w.heap.size+1]?=some (.loop (rec .done (some .ret)))∧W.heap[w.heap.size]?=some (.deferred (some [])))
  (fun k W h=>hc k W h.1) ?_ W1 ⟨hI _ _ _ h0 hb1,hL1,hK1⟩).mono ?_
 · rintro k W ⟨hi,hl,hk⟩ hkl hin
   have hlt:w.heap.size+1<W.heap.size:=(Array.getElem?_eq_some_iff.1 hl).1
   have hy:=run_yield (P:=Tryz.prog) (args:=#[Value.int .i64 (d0+st * k)]) hl (by rw [hrec];simp [hps])
   rw [hrec] at hy
   refine ⟨fn,_,assign,body,hy,roundIn_of_wpIn hfn (hassign _ _ W _ ⟨_,run_beginRound hl (by rw [hrec]),?_⟩)⟩
   have hl2:(W.putObj (w.heap.size+1) (.loop { rec .ready none with state:=.busy })).heap[w.heap.size+1]?=some (.loop { rec .ready none with state:=.busy }):=World.putObj_heap_same hlt
   have hk2:(W.putObj (w.heap.size+1) (.loop { rec .ready none with state:=.busy })).heap[w.heap.size]?=some (.deferred (some [])):=(World.putObj_heap_other (by omega)).trans hk
   refine wpIn_mono (hbody _ k _ (hI _ _ _ hi (bput _ _ _ (by omega))) hkl hin) ?_
   have fin:∀ (jump:Option Code) (W3:World),(∀ b,w.heap.size≤b→b<(W.putObj (w.heap.size+1) (.loop { rec .ready none with state:=.busy })).heap.size→W3.heap[b]?=(W.putObj (w.heap.size+1) (.loop { rec .ready none with state:=.busy })).heap[b]?)→
    (Instr.endRound (w.heap.size+1) jump).run Tryz.prog W3=.ok (.bool jump.isNone) (W3.putObj (w.heap.size+1) (.loop (rec (if jump.isNone then .ready else .done) jump)))∧
    (W3.putObj (w.heap.size+1) (.loop (rec (if jump.isNone then .ready else .done) jump))).heap[w.heap.size+1]?=some (.loop (rec (if jump.isNone then .ready else .done) jump))∧
    (W3.putObj (w.heap.size+1) (.loop (rec (if jump.isNone then .ready else .done) jump))).heap[w.heap.size]?=some (.deferred (some [])):=fun jump W3 hk3=>by
    have hl3:=(hk3 (w.heap.size+1) (by omega) (by simp;omega)).trans hl2
    have hk4:=(hk3 w.heap.size (by omega) (by simp;omega)).trans hk2
    have:=run_endRound (P:=Tryz.prog) jump hl3
    rw [hrec] at this ⊢
    exact ⟨this,World.putObj_heap_same (Array.getElem?_eq_some_iff.1 hl3).1,(World.putObj_heap_other (by omega)).trans hk4⟩
   rintro e a3 W3 ⟨hk3,hp⟩
   cases e with
   | normal=>
     obtain ⟨hr,hl4,hk4⟩:=fin none W3 hk3
     have hi4:=hI' _ _ _ hp (bput W3 (w.heap.size+1) (.loop (rec .ready none)) (by omega))
     obtain ⟨p1,p2,p3⟩:=hc' _ _ hi4
     refine ⟨_,_,hr,.inl ⟨rfl,p1,p2,p3,hstep _ _ hi4,?_,?_⟩⟩
     exact (Below.heap_setCell _ ⟨bd,0,none⟩ _ _ (by show w.heap.size+1≠bd;omega)).trans hl4
     exact (Below.heap_setCell _ ⟨bd,0,none⟩ _ _ (by show w.heap.size≠bd;omega)).trans hk4
   | ret=>
     obtain ⟨hr,hl4,hk4⟩:=fin (some .ret) W3 hk3
     exact ⟨_,_,hr,.inr ⟨rfl,hIx _ _ hp (bput W3 (w.heap.size+1) _ (by omega)),hl4,hk4⟩⟩
   | exit id=>exact hp.elim
   | goto t=>exact hp.elim
   | panic ch=>exact hp.elim
   | outgrown=>exact hp.elim
 rintro e W2 ⟨⟨v,rfl⟩,(⟨k,hke,hi,hl,hk⟩|⟨hi,hl,hk⟩)⟩
 exact ⟨none,_,by have:=run_endLoop (P:=Tryz.prog) hl (by rw [hrec];simp);rw [hrec] at this;exact this,hdone _ k _ (Xk _) hke (hI _ _ _ hi (bput _ _ _ (by omega))) ((World.putObj_heap_other (by omega)).trans hk)⟩
 refine ⟨some .ret,_,by have:=run_endLoop (P:=Tryz.prog) hl (by rw [hrec];simp);rw [hrec] at this;exact this,?_⟩
 exact wpIn_ret (hstop _ _ (Xk _) (hIx _ _ hi (bput _ _ _ (by omega))) ((World.putObj_heap_other (by omega)).trans hk))
theorem Zca (d st:Int) (w:World):CC 311 #[.int .i64 d,.int .i64 st] w fun r w'=>∃ b2 b3,r=.func (.func 328) #[] #[.pointer (some ⟨b2,0,none⟩),.pointer (some ⟨b3,0,none⟩)]∧w.heap.size≤b2∧b2<b3∧Blk w' b2 3 [.int .i64 d]∧Blk w' b3 3 [.int .i64 st]∧Stp [] w w':=by
 refine cW2 6 Tryz.func311 ?_
 refine W ?_
 refine Z0 (Zl rfl) rfl ?_
 rintro _ w1 ⟨b2,rfl,hb2,k2,hS⟩
 replace k2:Blk w1 b2 3 [.int .i64 d]:=k2
 refine Z0 (Zl rfl) rfl ?_
 rintro _ w2 ⟨b3,rfl,hb3,k3,hS2⟩
 replace k3:Blk w2 b3 3 [.int .i64 st]:=k3
 have:=k2.lt
 replace k2:=k2.up hS2
 refine W ?_
 refine WR ?_
 exact .mk ⟨b2,b3,rfl,hb2,by omega,k2,k3,hS.trans hS2⟩
theorem Z4r {P:Program} {t b:Nat} {D:TypeDesc} {u:Value} {w:World} [hu:Und P t D] (hA:JA D=false) (hc:w.cell? ⟨b,0,none⟩=some u):(loadVar t ⟨b,0,none⟩).run P w=.ok u w:=by
 simp [loadVar,Und.isAgg,hA,hc]
theorem Z72 (b:Nat) (v:Value) (w:World):Stp [b] w (w.setCell ⟨b,0,none⟩ v):=⟨rfl,rfl,rfl,(KeepsOthers.setCell w ⟨b,0,none⟩ v).size,fun k hk hn=>Below.heap_setCell w ⟨b,0,none⟩ v k (fun e=>hn (by simp [e]))⟩
theorem Z3u (opn:Int→Bool) (st:Int):∀ (m:Nat) (d:Int) (k:Nat),(∀ j:Nat,j<k→opn (d+st * j)=false)→(m≤k∨Zv (d+st * k)=false)→Z2h opn st m d=(0,31)
 | 0,d,k,_,_=>rfl
 | m + 1, d, k, h, hk => by
   unfold Z2h
   cases hd:Zv d with
   | false=>rfl
   | true=>
     rw [if_pos rfl]
     cases k with
     | zero=>
       rcases hk with hk|hk
       omega
       rw [show d+st * ((0:Nat):Int)=d by simp,hd] at hk
       cases hk
     | succ k=>
       have h0:=h 0 (by omega)
       rw [show d+st * ((0:Nat):Int)=d by simp] at h0
       rw [if_neg (by rw [h0];simp)]
       have es:∀ j:Nat,d+st+st * (j:Int)=d+st * ((j+1:Nat):Int):=fun j=>by
        rw [Int.natCast_add,Int.mul_add];simp;omega
       exact Z3u opn st m (d+st) k (fun j hj=>by rw [es];exact h (j+1) (by omega)) (hk.imp (fun h=>by omega) (fun h=>by rw [es];exact h))
theorem Z5t (opn:Int→Bool) (st:Int):∀ (m:Nat) (d:Int) (k:Nat),k<m→(∀ j:Nat,j≤k→Zv (d+st * j)=true)→(∀ j:Nat,j<k→opn (d+st * j)=false)→opn (d+st * k)=true→Z2h opn st m d=(d+st * k,0)
 | 0,d,k,h,_,_,_=>absurd h (Xs _)
 | m + 1, d, k, hkm, hi, h, ho => by
   have hd:=hi 0 (Xo _)
   rw [show d+st * ((0:Nat):Int)=d by simp] at hd
   unfold Z2h
   rw [hd,if_pos rfl]
   cases k with
   | zero=>
     rw [show d+st * ((0:Nat):Int)=d by simp] at ho ⊢
     rw [if_pos ho]
   | succ k=>
     have h0:=h 0 (by omega)
     rw [show d+st * ((0:Nat):Int)=d by simp] at h0
     rw [if_neg (by rw [h0];simp)]
     have es:∀ j:Nat,d+st+st * (j:Int)=d+st * ((j+1:Nat):Int):=fun j=>by
      rw [Int.natCast_add,Int.mul_add];simp;omega
     rw [← es]
     exact Z5t opn st m (d+st) k (by omega) (fun j hj=>by rw [es];exact hi (j+1) (by omega)) (fun j hj=>by rw [es];exact h (j+1) (by omega)) (by rw [es];exact ho)
theorem Z9C {W:World} {b8 b9:Nat} {u v:Value} (c8:W.cell? ⟨b8,0,none⟩=some u) (c9:W.cell? ⟨b9,0,none⟩=some v) (n:b8≠b9) (x y:Value) :
 ((W.setCell ⟨b8,0,none⟩ x).setCell ⟨b9,0,none⟩ y).cell? ⟨b8,0,none⟩=some x∧((W.setCell ⟨b8,0,none⟩ x).setCell ⟨b9,0,none⟩ y).cell? ⟨b9,0,none⟩=some y:=by
 have h1:(W.setCell ⟨b8,0,none⟩ x).cell? ⟨b8,0,none⟩=some x:=World.cell?_setCell_same _ _ _ c8
 have h2:(W.setCell ⟨b8,0,none⟩ x).cell? ⟨b9,0,none⟩=some v:=(World.cell?_setCell_other _ _ _ _ (fun h=>n (by injection h))).trans c9
 exact ⟨(World.cell?_setCell_other _ _ _ _ (fun h=>n (by injection h with h;exact h.symm))).trans h1,World.cell?_setCell_same _ _ _ h2⟩
theorem Z3v (b8 b9:Nat) (x y:Value) (w:World):Stp [b8,b9] w ((w.setCell ⟨b8,0,none⟩ x).setCell ⟨b9,0,none⟩ y):=((Z72 b8 x w).mono (S':=[b8,b9]) (by simp)).trans ((Z72 b9 y _).mono (by simp))
theorem Z8Y {tmps:Array Value} {W:World} {b8 b9:Nat} {x y:Value} (h8:tmps.getD 8 undef=.pointer (some ⟨b8,0,none⟩)) (h9:tmps.getD 9 undef=.pointer (some ⟨b9,0,none⟩)) (c8:W.cell? ⟨b8,0,none⟩=some x) (c9:W.cell? ⟨b9,0,none⟩=some y) :
 (results Tryz.f284 tmps).run Tryz.prog W=.ok (.tuple #[x,y]) W:=by
 rw [Array.getD_eq_getD_getElem?] at h8 h9
 have l8:=Z4r (P:=Tryz.prog) (t:=3) (hu:=(inferInstance:Und Tryz.prog 3 (.int .i64))) rfl c8
 have l9:=Z4r (P:=Tryz.prog) (t:=41) (hu:=(inferInstance:Und Tryz.prog 41 (.int .i64))) rfl c9
 simp [results,h8,h9,asAddr,l8,l9]
set_option maxRecDepth 100000 in
set_option maxHeartbeats 2000000 in
theorem Zcb (d kn st:Int) (hst:st=1∨st=-1) (c:Cal) (hv cv zo zs hr:Value) (w:World) (h:Z4v w c hv cv zo zs hr) :
 CallsIn Fence.wide 5 Tryz.prog 284 #[Z4w c hv cv zo zs hr,.int .i64 d,.int .i64 kn,.int .i64 st] w fun e W'=>e=.returned (.tuple #[.int .i64 (ZV (Zo c kn) st d).1,.int .i64 (ZV (Zo c kn) st d).2])∧Stp [] w W':=by
 refine callsIn_of_wp_marks Tryz.func284 rfl trivial ?_ rfl
 simp only [Tryz.ntmps284,Yaa,Xe,Xi,Nat.reduceAdd,Nat.reduceSub,Array.replicate_succ,Array.replicate_zero,List.push_toArray,List.append_toArray,XK,XI]
 gi_wp2
 obtain ⟨W1,hW1⟩:∃ W1,W1=((w.alloc (.cells (Z0d c hv cv zo zs hr).toArray 37)).alloc (.cells #[.int .i64 0] 3)).alloc (.cells #[.int .i64 0] 41):=⟨_,rfl⟩
 rw [← hW1]
 have kc:Blk W1 w.heap.size 37 (Z0d c hv cv zo zs hr):=by
  rw [hW1]
  exact (Blk.up (World.alloc_heap_new w _) (Stp.alloc _ _ _)).up (Stp.alloc _ _ _)
 have k8:Blk W1 (w.heap.size+1) 3 [.int .i64 0]:=by
  rw [hW1]
  have:=World.alloc_heap_new (w.alloc (.cells (Z0d c hv cv zo zs hr).toArray 37)) (.cells #[.int .i64 0] 3)
  rw [World.size_alloc] at this
  exact Blk.up this (Stp.alloc _ _ _)
 have k9:Blk W1 (w.heap.size+1+1) 41 [.int .i64 0]:=by
  rw [hW1]
  have:=World.alloc_heap_new ((w.alloc (.cells (Z0d c hv cv zo zs hr).toArray 37)).alloc (.cells #[.int .i64 0] 3)) (.cells #[.int .i64 0] 41)
  rw [World.size_alloc,World.size_alloc] at this
  exact this
 have hS1:Stp [] w W1:=by
  rw [hW1]
  exact ((Stp.alloc _ _ _).trans (Stp.alloc _ _ _)).trans (Stp.alloc _ _ _)
 have hB8:w.heap.size≤w.heap.size+1:=by omega
 have hB9:w.heap.size≤w.heap.size+1+1:=by omega
 generalize hb9:w.heap.size+1+1=b9 at *
 generalize hb8:w.heap.size+1=b8 at *
 generalize hb4:w.heap.size=b4 at *
 clear hW1
 have n89:b8≠b9:=by omega
 have c8:=Boxed.cell (show Boxed W1 b8 3 (.int .i64 0) from k8)
 have f8:=Boxed.frozen (show Boxed W1 b8 3 (.int .i64 0) from k8)
 have c9:=Boxed.cell (show Boxed W1 b9 41 (.int .i64 0) from k9)
 have f9:=Boxed.frozen (show Boxed W1 b9 41 (.int .i64 0) from k9)
 refine ⟨trivial,?_⟩
 refine (callsIn_wide.2 (Z2l d W1)).mono ?_
 rintro e w' ⟨v,rfl,rfl,rfl⟩
 cases hd:Zv d with
 | false=>
   gi_wp2
   have hfd:ZV (Zo c kn) st d=(0,5):=by unfold ZV;rw [hd];rfl
   obtain ⟨g8,g9⟩:=Z9C c8 c9 n89 (.int .i64 0) (.int .i64 5)
   refine ⟨_,Z8Y rfl rfl g8 g9,?_,?_⟩
   rw [hfd]
   exact hS1.own (Z3v b8 b9 _ _ _) (fun x hx=>by simp at hx;omega)
 | true=>
   have q:=fun (j:Nat) (u:Value) (hu:(Z0d c hv cv zo zs hr)[j]?=some u)=>kc.cell hu
   have q0:=q 0 _ rfl
   have q1:=q 1 _ rfl
   have q2:=q 2 _ rfl
   have q3:=q 3 _ rfl
   have q4:=q 4 _ rfl
   have q5:=q 5 _ rfl
   have q6:=q 6 _ rfl
   have q7:=q 7 _ rfl
   have q8:=q 8 _ rfl
   have q9:=q 9 _ rfl
   have q10:=q 10 _ rfl
   have q11:=q 11 _ rfl
   gi_wp2
   refine ⟨trivial,?_⟩
   refine (callsIn_wide.2 (Zc8 kn c hv cv zo zs hr w')).mono ?_
   rintro e W2 ⟨v,rfl,⟨b2,b3,rfl,k2,k3⟩,hS2⟩
   have f8':=Boxed.frozen (show Boxed W2 b8 3 (.int .i64 0) from k8.up hS2)
   have f9':=Boxed.frozen (show Boxed W2 b9 41 (.int .i64 0) from k9.up hS2)
   have c8':=Boxed.cell (show Boxed W2 b8 3 (.int .i64 0) from k8.up hS2)
   have c9':=Boxed.cell (show Boxed W2 b9 41 (.int .i64 0) from k9.up hS2)
   have cN:=Boxed.cell (Boxed.new W2 184 .nilFunc)
   have fN:=Boxed.frozen (Boxed.new W2 184 .nilFunc)
   have hstr:(store ⟨W2.heap.size,0,none⟩ (.func (.func 237) #[] #[.pointer (some ⟨b2,0,none⟩),.pointer (some ⟨b3,0,none⟩)])).run Tryz.prog (W2.alloc (.cells #[.nilFunc] 184))=.ok () ((W2.alloc (.cells #[.nilFunc] 184)).setCell ⟨W2.heap.size,0,none⟩ (.func (.func 237) #[] #[.pointer (some ⟨b2,0,none⟩),.pointer (some ⟨b3,0,none⟩)])):=by
    rw [run_store _ _ _ _ _ rfl]
    simp [cN,fN]
   gi_wp2
   refine ⟨trivial,?_⟩
   refine (callsIn_wide.2 (Zca d st _)).mono ?_
   rintro e W3 ⟨v,rfl,bd,bs,rfl,hbd,hbs,kd,ks,hS3⟩
   have hcl:W3.cell? ⟨W2.heap.size,0,none⟩=some (.func (.func 237) #[] #[.pointer (some ⟨b2,0,none⟩),.pointer (some ⟨b3,0,none⟩)]):=hS3.cell (by simp) (Boxed.cell (Boxed.new W2 184 _))
   have hSx:Stp [] W2 W3:=(Stp.alloc [] W2 _).trans hS3
   gi_wp2
   have hSw:Stp [] w' W3:=hS2.trans hSx
   have h3:=(h.up hS1).up hSw
   have hb2l:=(k2.up hSx).lt
   have k2':=k2.up hSx
   have k3':=k3.up hSx
   have k8':=k8.up hSw
   have k9':=k9.up hSw
   have hW2z:=hSx.size
   have hcz:W2.heap.size<W3.heap.size:=by have:=block_lt_of_cell hcl;simpa using this
   have hbdz:W2.heap.size<bd:=by simp at hbd;omega
   have k8l:=(k8.up hS2).lt
   have k9l:=(k9.up hS2).lt
   have k2l:=k2.lt
   have k3l:=k3.lt
   have h00:=(Zx.1 hd).1
   have h01:=(Zx.1 hd).2
   have hbdw:w.heap.size≤bd:=by have:=hS1.size;have:=hSw.size;have:=hS2.size;omega
   have g1:1<w.heap.size:=by have:=block_lt_of_cell (h.len 0 0 rfl);simpa using this
   have g2:3<w.heap.size:=by have:=block_lt_of_cell (h.mov 0 0 rfl);simpa using this
   have hhx:=h.hols.ext (X':=[bd]) (hS1.trans hSw) (by simp) (fun b hb=>.inr (by simp at hb;omega))
   have hcx:=h.clos.ext (X':=[bd]) (hS1.trans hSw) (by simp) (fun b hb=>.inr (by simp at hb;omega))
   have hzw:=(hS1.trans hSw).size
   have cal:∀ W,Stp [bd] W3 W→Z4v W c hv cv zo zs hr:=fun W hS=>⟨hhx.ext (X':=[]) hS (fun b hb=>hb) (by simp),hcx.ext (X':=[]) hS (fun b hb=>hb) (by simp),h3.len.ext hS (by simp;omega),h3.mov.ext hS (by simp;omega),h.ok⟩
   have sb:∀ {S:List Nat} {W W':World},Stp S W3 W→Below W3.heap.size W W'→Stp S W3 W':=fun hS hB=>⟨hB.os.trans hS.os,hB.tape.trans hS.tape,hB.output.trans hS.output,Xg hS.size hB.size,fun i hi hn=>(hB.block i hi).trans (hS.block i hi hn)⟩
   have hkd:=kd.lt
   have hks:=ks.lt
   refine Z8X (by omega) rfl rfl hst h00 h01 kd.lt
    (fun k W=>Stp [bd] W3 W∧Boxed W bd 3 (.int .i64 (d+st * k))∧∀ j:Nat,j<k→Zo c kn (d+st * j)=false)
    (fun k W=>(Stp [bd] W3 W∧Boxed W bd 3 (.int .i64 (d+st * k))∧∀ j:Nat,j<k→Zo c kn (d+st * j)=false)∧Zo c kn (d+st * k)=false)
    (fun W=>Stp [bd,b8,b9] W3 W∧∃ k:Nat,k≤1000∧Zv (d+st * k)=true∧(∀ j:Nat,j<k→Zo c kn (d+st * j)=false)∧Zo c kn (d+st * k)=true∧W.cell? ⟨b8,0,none⟩=some (.int .i64 (d+st * k))∧W.cell? ⟨b9,0,none⟩=some (.int .i64 0))
    ?hI ?hI' ?hIx ?hc ?hc' ?hstep ?h0 (fun X=>{ tmps:=#[Z4w c hv cv zo zs hr,.int .i64 d,.int .i64 kn,.int .i64 st,.pointer (some ⟨b4,0,none⟩),undef,undef,undef,.pointer (some ⟨b8,0,none⟩),.pointer (some ⟨b9,0,none⟩),.pointer (some ⟨W2.heap.size,0,none⟩),.int .i64 X,.int .i64 d,.bool true,.bool false,Z4w c hv cv zo zs hr,.int .i64 kn,.func (.func 237) #[] #[.pointer (some ⟨b2,0,none⟩),.pointer (some ⟨b3,0,none⟩)],.int .i64 d,.int .i64 st,.func (.func 328) #[] #[.pointer (some ⟨bd,0,none⟩),.pointer (some ⟨bs,0,none⟩)],.int .i64 X,undef,undef,undef,undef,undef],defers:=[] }) ?hassign ?hbody ?hdone ?hstop
   case hI=>exact fun k W W' ⟨a,b,e⟩ hB=>⟨sb a hB,(hB.block bd hkd).trans b,e⟩
   case hI'=>exact fun k W W' ⟨⟨a,b,e⟩,f⟩ hB=>⟨⟨sb a hB,(hB.block bd hkd).trans b,e⟩,f⟩
   case hIx=>exact fun W W' ⟨a,k,p1,p2,p3,p4,p5,p6⟩ hB=>⟨sb a hB,k,p1,p2,p3,p4,(World.cell?_of_block (hB.block b8 (by omega))).trans p5,(World.cell?_of_block (hB.block b9 (by omega))).trans p6⟩
   case hc=>exact fun k W ⟨a,b,e⟩=>⟨b.cell,a.cell (by simp;omega) (ks.cell rfl)⟩
   case hc'=>exact fun k W ⟨⟨a,b,e⟩,f⟩=>⟨b.cell,b.frozen,a.cell (by simp;omega) (ks.cell rfl)⟩
   case hstep=>
    rintro k W ⟨⟨a,b,e⟩,f⟩
    have e1:d+st * ((k+1:Nat):Int)=d+st * k+st:=by rcases hst with rfl|rfl<;>omega
    refine ⟨a.trans (Z72 bd _ _),by rw [e1];exact b.set _,fun j hj=>?_⟩
    by_cases hjk:j=k
    subst hjk;exact f
    exact e j (by omega)
   case h0=>exact ⟨Stp.refl _ _,by rw [show d+st * ((0:Nat):Int)=d by simp];exact kd,fun j hj=>absurd hj (Xs _)⟩
   case hassign=>
    intro l X W K hK
    gi_wp2
    exact hK
   case hbody=>
    rintro l k W ⟨a,bx,e⟩ hkl hin
    have hclw:=a.cell (b:=W2.heap.size) (o:=0) (by simp;omega) hcl
    obtain ⟨x0,x1⟩:=Zx.1 hin
    gi_wp2
    refine ⟨trivial,(CallsIn.inRound l (callsIn_wide.2 (Zap (d+st * k) kn b2 b3 c hv cv zo zs hr W (cal W a) (k2'.ext a (by simp;omega)) (k3'.ext a (by simp;omega)) x0 x1))).mono ?_⟩
    rintro e5 W5 ⟨v,rfl,rfl,hS5⟩
    have a5:=a.trans (hS5.mono (by simp))
    cases hsh:Z9w c kn (d+st * k) with
    | true=>
      gi_wp2
      exact ⟨fun b h1 h2=>hS5.block b h2 (by simp),⟨Blk.up (show Blk W bd 3 [.int .i64 (d+st * k)] from bx) hS5,e⟩,by unfold Zo;rw [hin,hsh];rfl⟩
    | false=>
      have f8:=Boxed.frozen (show Boxed W5 b8 3 (.int .i64 0) from k8'.ext a5 (by simp;omega))
      have f9:=Boxed.frozen (show Boxed W5 b9 41 (.int .i64 0) from k9'.ext a5 (by simp;omega))
      have c8:=Boxed.cell (show Boxed W5 b8 3 (.int .i64 0) from k8'.ext a5 (by simp;omega))
      have c9:=Boxed.cell (show Boxed W5 b9 41 (.int .i64 0) from k9'.ext a5 (by simp;omega))
      gi_wp2
      exact ⟨fun b h1 h2=>((Z3v b8 b9 _ _ W5).block b (Xb h2 hS5.size) (by simp;omega)).trans (hS5.block b h2 (by simp)),(a5.mono (by simp)).trans ((Z3v b8 b9 _ _ W5).mono (by simp)),k,hkl,hin,e,by unfold Zo;rw [hin,hsh];rfl,rfl⟩
   case hdone=>
    rintro D k W hD hke ⟨a,bx,e⟩ hdef
    have f8:=Boxed.frozen (show Boxed W b8 3 (.int .i64 0) from k8'.ext a (by simp;omega))
    have f9:=Boxed.frozen (show Boxed W b9 41 (.int .i64 0) from k9'.ext a (by simp;omega))
    have c8:=Boxed.cell (show Boxed W b8 3 (.int .i64 0) from k8'.ext a (by simp;omega))
    have c9:=Boxed.cell (show Boxed W b9 41 (.int .i64 0) from k9'.ext a (by simp;omega))
    gi_wp2
    obtain ⟨y8,y9⟩:=Z9C c8 c9 n89 (.int .i64 0) (.int .i64 31)
    have hdz:D<W.heap.size:=(Array.getElem?_eq_some_iff.1 hdef).1
    have hdef2:=((Z3v b8 b9 (.int .i64 0) (.int .i64 31) W).block D hdz (by simp;omega)).trans hdef
    have hfd:ZV (Zo c kn) st d=(0,31):=by
     unfold ZV
     rw [hd,if_pos rfl]
     exact Z3u _ _ _ _ k e (hke.imp (fun h=>by omega) id)
    refine ⟨by simp,.inl ⟨_,_,rfl,run_takeDeferred hdef2,_,Z8Y rfl rfl ((World.cell?_of_block (World.putObj_heap_other (by show b8≠D;omega))).trans y8) ((World.cell?_of_block (World.putObj_heap_other (by show b9≠D;omega))).trans y9),?_,?_⟩⟩
    rw [hfd]
    have t1:=((hS1.trans hSw).own a (fun x hx=>.inr (by simp at hx;omega))).own (Z3v b8 b9 (.int .i64 0) (.int .i64 31) W) (fun x hx=>.inr (by simp at hx;omega))
    refine ⟨t1.os,t1.tape,t1.output,by simpa using t1.size,fun q hq hn=>(World.putObj_heap_other (by omega)).trans (t1.block q hq hn)⟩
   case hstop=>
    rintro D W hD ⟨a,k,p1,p2,p3,p4,p5,p6⟩ hdef
    gi_wp2
    obtain ⟨x0,x1⟩:=Zx.1 p2
    have hfd:ZV (Zo c kn) st d=(d+st * k,0):=by
     unfold ZV
     rw [hd,if_pos rfl]
     refine Z5t _ _ _ _ k (by omega) (fun j hj=>Zx.2 ?_) p3 p4
     rcases hst with rfl|rfl<;>omega
    refine ⟨by simp,.inl ⟨_,_,rfl,run_takeDeferred hdef,_,Z8Y rfl rfl ((World.cell?_of_block (World.putObj_heap_other (by show b8≠D;omega))).trans p5) ((World.cell?_of_block (World.putObj_heap_other (by show b9≠D;omega))).trans p6),?_,?_⟩⟩
    rw [hfd]
    have t1:=(hS1.trans hSw).own a (fun x hx=>.inr (by simp at hx;omega))
    exact ⟨t1.os,t1.tape,t1.output,by simpa using t1.size,fun q hq hn=>(World.putObj_heap_other (by omega)).trans (t1.block q hq hn)⟩
theorem Z1P (d kn st:Int) (c:Cal) (hv cv zo zs hr:Value) (w:World) (h:Z4v w c hv cv zo zs hr) (hst:st=1∨st=-1) :
 CC 284 #[Z4w c hv cv zo zs hr,.int .i64 d,.int .i64 kn,.int .i64 st] w fun r w'=>r=.tuple #[.int .i64 (ZV (Zo c kn) st d).1,.int .i64 (ZV (Zo c kn) st d).2]∧Stp [] w w':=by
 refine Calls.mono (callsIn_wide.1 (Zcb d kn st hst c hv cv zo zs hr w h)) ?_
 rintro e W' ⟨rfl,hS⟩
 exact .mk ⟨rfl,hS⟩
theorem Zaq (d kn:Int) (c:Cal) (hv cv zo zs hr:Value) (w:World) (h:Z4v w c hv cv zo zs hr) :
 CC 235 #[Z4w c hv cv zo zs hr,.int .i64 d,.int .i64 kn] w fun r w'=>r=.tuple #[.int .i64 (ZV (Zo c kn) (1) d).1,.int .i64 (ZV (Zo c kn) (1) d).2]∧Stp [] w w':=by
 refine cW3 14 Tryz.func235 ?_
 refine W ?_
 refine Z0 (Zl rfl) rfl ?_
 rintro _ w1 ⟨b3,rfl,hb3,hblk,hS⟩
 replace hblk:Blk w1 b3 37 (Z0d c hv cv zo zs hr):=hblk
 replace h:=h.up hS
 refine W ?_
 refine CL rfl (Z2z rfl rfl rfl rfl) rfl (Z1P d kn (1) c hv cv zo zs hr _ h (by omega)) ?_
 rintro _ w2 ⟨rfl,hS2⟩
 refine W ?_
 refine WR ?_
 exact .mk ⟨rfl,hS.trans hS2⟩
theorem Z5F (d kn:Int) (c:Cal) (hv cv zo zs hr:Value) (w:World) (h:Z4v w c hv cv zo zs hr) :
 CC 236 #[Z4w c hv cv zo zs hr,.int .i64 d,.int .i64 kn] w fun r w'=>r=.tuple #[.int .i64 (ZV (Zo c kn) (-1) d).1,.int .i64 (ZV (Zo c kn) (-1) d).2]∧Stp [] w w':=by
 refine cW3 14 Tryz.func236 ?_
 refine W ?_
 refine Z0 (Zl rfl) rfl ?_
 rintro _ w1 ⟨b3,rfl,hb3,hblk,hS⟩
 replace hblk:Blk w1 b3 37 (Z0d c hv cv zo zs hr):=hblk
 replace h:=h.up hS
 refine W ?_
 refine CL rfl (Z2z rfl rfl rfl rfl) rfl (Z1P d kn (-1) c hv cv zo zs hr _ h (by omega)) ?_
 rintro _ w2 ⟨rfl,hS2⟩
 refine W ?_
 refine WR ?_
 exact .mk ⟨rfl,hS.trans hS2⟩
theorem ZdT (d n kn:Int) (c:Cal) (hv cv zo zs hr:Value) (w:World) (h:Z4v w c hv cv zo zs hr) :
 CC 234 #[Z4w c hv cv zo zs hr,.int .i64 d,.int .i64 n,.int .i64 kn] w fun r w'=>r=.tuple #[.int .i64 (Z3Z (Zo c kn) d n).1,.int .i64 (Z3Z (Zo c kn) d n).2]∧Stp [] w w':=by
 refine cW4 46 Tryz.func234 ?_
 refine W ?_
 refine Z0 (Zl rfl) rfl ?_
 rintro _ w1 ⟨b4,rfl,hb4,hblk,hS⟩
 replace hblk:Blk w1 b4 37 (Z0d c hv cv zo zs hr):=hblk
 replace h:=h.up hS
 refine W ?_
 refine CL rfl (Zk rfl) rfl (Z2l d _) ?_
 rintro _ w1 ⟨rfl,rfl⟩
 unfold Z3Z
 cases hd:Zv d with
 | false=>
   rw [if_neg (by simp)]
   refine W ?_
   refine WR ?_
   exact .mk ⟨rfl,hS⟩
 | true=>
   rw [if_pos rfl]
   by_cases hn:n < -1000∨1000<n
   · rw [if_pos hn]
     repeat'(first|refine W1 ?_|omega|refine VG ?_ ?_<;>intro hg|refine VC ?_ ?_<;>intro hc)
     all_goals refine WR ?_
     all_goals exact .mk ⟨rfl,hS⟩
   rw [if_neg hn]
   by_cases hneg:n<0
   have hna:(n.natAbs:Int)=(-n):=by omega
   have hif:(if n<0 then (-1:Int) else 1)=-1:=by split<;>omega
   rw [hif]
   focus repeat'(first|refine W1 ?_|omega|refine VG ?_ ?_<;>intro hg|refine VC ?_ ?_<;>intro hc)
   refine Zh (σ:=Nat×Int) (fun q=>[(1,.int .i64 q.2),(3,.int .i64 kn),(4,.pointer (some ⟨b4,0,none⟩)),(10,.int .i64 (-1)),(28,.int .i64 (-n)),(29,.int .i64 (q.1:Int))])
    (fun q w'=>q.1≤n.natAbs∧Zv q.2=true∧Z3Y (Zo c kn) (-1) (n.natAbs - q.1) q.2=Z3Y (Zo c kn) (-1) n.natAbs d∧Stp [] w1 w') (fun q=>n.natAbs - q.1) (0,d) ⟨rfl,rfl,rfl,rfl,rfl,rfl,trivial⟩ ⟨Xo _,hd,rfl,Stp.refl _ _⟩ ?_
   rintro ⟨k,q⟩ w2 ⟨hk,hq,hfg,hS2⟩
   dsimp only at hk hq hfg ⊢
   have hblk2:=hblk.up hS2
   have h2:=h.up hS2
   have hqr:=Zx.1 hq
   by_cases hlt:k<n.natAbs
   have e1:n.natAbs - k=(n.natAbs - (k+1))+1:=by omega
   rw [e1,Z3Y] at hfg
   focus repeat'(first|refine W1 ?_|omega|refine VG ?_ ?_<;>intro hg|refine VC ?_ ?_<;>intro hc)
   refine CL rfl (Z2z rfl rfl rfl rfl) rfl (Z1P (q+(-1)) kn (-1) c hv cv zo zs hr _ h2 (by omega)) ?_
   rintro _ w3 ⟨rfl,hS3⟩
   by_cases he:(ZV (Zo c kn) (-1) (q+(-1))).2=0
   rw [if_pos he] at hfg
   rw [he]
   refine W ?_
   exact Zd (k+1,(ZV (Zo c kn) (-1) (q+(-1))).1) ⟨rfl,rfl,rfl,rfl,rfl,rfl,trivial⟩ ⟨by dsimp only;omega,(Z1r he).1,hfg,hS2.trans hS3⟩ (by dsimp only;omega)
   rw [if_neg he] at hfg
   focus repeat'(first|refine W1 ?_|omega|refine VG ?_ ?_<;>intro hg|refine VC ?_ ?_<;>intro hc)
   refine WR ?_
   rw [← hfg]
   exact .mk ⟨rfl,(hS.trans hS2).trans hS3⟩
   have e1:n.natAbs - k=0:=by omega
   rw [e1,Z3Y] at hfg
   focus repeat'(first|refine W1 ?_|omega|refine VG ?_ ?_<;>intro hg|refine VC ?_ ?_<;>intro hc)
   refine WR ?_
   rw [← hfg]
   exact .mk ⟨rfl,hS.trans hS2⟩
   have hna:(n.natAbs:Int)=n:=by omega
   have hif:(if n<0 then (-1:Int) else 1)=1:=by split<;>omega
   rw [hif]
   focus repeat'(first|refine W1 ?_|omega|refine VG ?_ ?_<;>intro hg|refine VC ?_ ?_<;>intro hc)
   refine Zh (σ:=Nat×Int) (fun q=>[(1,.int .i64 q.2),(3,.int .i64 kn),(4,.pointer (some ⟨b4,0,none⟩)),(10,.int .i64 (1)),(28,.int .i64 n),(29,.int .i64 (q.1:Int))])
    (fun q w'=>q.1≤n.natAbs∧Zv q.2=true∧Z3Y (Zo c kn) (1) (n.natAbs - q.1) q.2=Z3Y (Zo c kn) (1) n.natAbs d∧Stp [] w1 w') (fun q=>n.natAbs - q.1) (0,d) ⟨rfl,rfl,rfl,rfl,rfl,rfl,trivial⟩ ⟨Xo _,hd,rfl,Stp.refl _ _⟩ ?_
   rintro ⟨k,q⟩ w2 ⟨hk,hq,hfg,hS2⟩
   dsimp only at hk hq hfg ⊢
   have hblk2:=hblk.up hS2
   have h2:=h.up hS2
   have hqr:=Zx.1 hq
   by_cases hlt:k<n.natAbs
   have e1:n.natAbs - k=(n.natAbs - (k+1))+1:=by omega
   rw [e1,Z3Y] at hfg
   focus repeat'(first|refine W1 ?_|omega|refine VG ?_ ?_<;>intro hg|refine VC ?_ ?_<;>intro hc)
   refine CL rfl (Z2z rfl rfl rfl rfl) rfl (Z1P (q+(1)) kn (1) c hv cv zo zs hr _ h2 (by omega)) ?_
   rintro _ w3 ⟨rfl,hS3⟩
   by_cases he:(ZV (Zo c kn) (1) (q+(1))).2=0
   rw [if_pos he] at hfg
   rw [he]
   refine W ?_
   exact Zd (k+1,(ZV (Zo c kn) (1) (q+(1))).1) ⟨rfl,rfl,rfl,rfl,rfl,rfl,trivial⟩ ⟨by dsimp only;omega,(Z1r he).1,hfg,hS2.trans hS3⟩ (by dsimp only;omega)
   rw [if_neg he] at hfg
   focus repeat'(first|refine W1 ?_|omega|refine VG ?_ ?_<;>intro hg|refine VC ?_ ?_<;>intro hc)
   refine WR ?_
   rw [← hfg]
   exact .mk ⟨rfl,(hS.trans hS2).trans hS3⟩
   have e1:n.natAbs - k=0:=by omega
   rw [e1,Z3Y] at hfg
   focus repeat'(first|refine W1 ?_|omega|refine VG ?_ ?_<;>intro hg|refine VC ?_ ?_<;>intro hc)
   refine WR ?_
   rw [← hfg]
   exact .mk ⟨rfl,hS.trans hS2⟩
theorem Z5G (d n:Int) (w:World) (hL:Z0b w) (h0:0≤d) (h1:d≤3652058) :
 CC 233 #[.int .i64 d,.int .i64 n] w fun r w'=>r=.tuple #[.int .i64 (Z83 d n).1,.int .i64 (Z83 d n).2]∧Stp [] w w':=by
 obtain ⟨y1,y2,m1,m2,d1,d2,hday⟩:=Z6R h0 h1
 have hin:Zv d=true:=Zx.2 ⟨h0,h1⟩
 have g1:1<w.heap.size:=by have:=block_lt_of_cell (hL 0 0 rfl);simpa using this
 unfold Z83
 refine cW2 56 Tryz.func233 ?_
 by_cases hn:n < -200000∨200000<n
 · rw [if_pos hn]
   repeat'(first|refine W1 ?_|omega|refine VG ?_ ?_<;>intro hg|refine VC ?_ ?_<;>intro hc)
   all_goals refine WR ?_
   all_goals exact .mk ⟨rfl,Stp.refl _ _⟩
 rw [if_neg hn,if_pos hin]
 repeat'(first|refine W1 ?_|omega|refine VG ?_ ?_<;>intro hg|refine VC ?_ ?_<;>intro hc)
 refine CL rfl (Zk rfl) rfl (Z71 d _ h0 h1) ?_
 rintro _ w1 ⟨rfl,hS⟩
 replace hL:=hL.up hS
 refine W ?_
 refine Z0 Z8 rfl ?_
 rintro _ w2 ⟨b6,rfl,hb6,e6,hS2⟩
 refine W ?_
 refine Z1 (Z2 (us:=[.int .i64 (ofM d).y,.int .i64 (ofM d).m,.int .i64 (ofM d).d]) rfl rfl rfl rfl (by intro u hu;simp at hu;rcases hu with rfl|rfl|rfl<;>rfl) e6 rfl) ?_
 rintro _ w3 ⟨hT,k6⟩
 have hb6w:w.heap.size≤b6:=by have:=hS.size;omega
 replace hS:=hS.trans (hS2.own hT (fun c hc=>.inr (by simp at hc;omega)))
 replace hL:=hL.up (hS2.own hT (fun c hc=>.inr (by simp at hc;omega)))
 clear e6 hT hS2
 generalize hM:12 * (ofM d).y+(ofM d).m - 1+n=M
 by_cases hr:M<12∨120000≤M
 · rw [if_pos hr]
   refine W ?_
   rw [hM]
   repeat'(first|refine W1 ?_|omega|refine VG ?_ ?_<;>intro hg|refine VC ?_ ?_<;>intro hc)
   all_goals refine WR ?_
   all_goals exact .mk ⟨rfl,hS⟩
 rw [if_neg hr]
 have hl1:=Z1I (M / 12) (M % 12+1)
 have hl0:=Z17 (y:=M / 12) (k:=(M % 12).toNat) (by omega)
 rw [show (((M % 12).toNat:Int))=M % 12 by omega] at hl0
 refine W ?_
 rw [hM]
 repeat'(first|refine W1 ?_|omega|refine VG ?_ ?_<;>intro hg|refine VC ?_ ?_<;>intro hc)
 refine Z1 (Zg (u:=.int .i64 (M / 12)) rfl rfl rfl rfl k6 (by simp)) ?_
 rintro _ w4 ⟨hS4,k6⟩
 refine W ?_
 refine Z1 (Zg (u:=.int .i64 (M % 12+1)) rfl rfl rfl rfl k6 (by simp)) ?_
 rintro _ w5 ⟨hS5,k6⟩
 replace hL:=(hL.ext hS4 (by simp;omega)).ext hS5 (by simp;omega)
 replace hS:=(hS.own hS4 (fun c hc=>.inr (by simp at hc;omega))).own hS5 (fun c hc=>.inr (by simp at hc;omega))
 clear hS4 hS5
 refine W ?_
 refine ZDr 10 [] [9] [(0,0),(1,1),(2,0),(3,1),(4,0),(5,1),(6,2),(7,0),(8,0),(9,2)] (fun w1 hS1=>?_)
 replace hL:=hL.up hS1
 replace k6:=k6.up hS1
 replace hS:=hS.trans hS1
 clear hS1
 refine D ?_
 refine ZC rfl trivial (Ze rfl (Zb rfl rfl) (Z1L (M / 12) (M % 12+1) _ hL (by omega) (by omega))) (fun _ _ h=>by rw [h.2];exact Stp.refl _ _) rfl ?_
 rintro _ _ ⟨rfl,rfl⟩
 refine D ?_
 refine ZU rfl trivial (Zg (u:=.int .i64 (min (ofM d).d (Zs (M / 12) (M % 12+1)))) rfl rfl rfl rfl k6 (by simp)) rfl ?_
 rintro _ w6 ⟨hS6,k6⟩
 replace hS:=hS.own hS6 (fun c hc=>.inr (by simp at hc;omega))
 refine D ?_
 refine W ?_
 refine CL rfl (Zk rfl) rfl (Z2Z (M / 12) (M % 12+1) (min (ofM d).d (Zs (M / 12) (M % 12+1))) _ (by omega) (by omega) (by omega) (by omega) (by omega) (by omega) (by omega)) ?_
 rintro _ w7 ⟨rfl,hS7⟩
 refine W ?_
 refine WR ?_
 exact .mk ⟨rfl,hS.trans hS7⟩
end Go.Proofs.YtjdjdoefppebkaaGreatDoor
