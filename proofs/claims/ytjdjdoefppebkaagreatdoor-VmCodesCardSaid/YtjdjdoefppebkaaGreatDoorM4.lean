/-
Merged by program out of own texts: Psr4, Psr5, Psr6, Psr7, Eng26, Eng27, Dat2, Eng20, Lex2, Lex3, Lex4, Lex5, Psr10, Psr11, Pxn1, Vmw1, Vmw2, Vmw3, Sor0, Est1, Hol1.
-/
import Derived.Test.YtjdjdoefppebkaaGreatDoorM3
import Derived.Recover
import Derived.Scope
import Derived.Laws.Runes
import Derived.Lib.IndexLaws
import Derived.Lib.AtoiAll
import Derived.WideLaws
set_option linter.unusedVariables false
set_option linter.unusedSimpArgs false
namespace Go.Proofs.YtjdjdoefppebkaaGreatDoor
open Go Go.Eng Go.RowKit Go.Proofs
theorem Z7b:([]:Str)∉Z72:=by decide
theorem Zcp:Z9p.length≤1000000:=by decide
theorem Z9r (t:Str) (m:Int) (w:World) (hm:w.cell? ⟨2,0,none⟩=some (.int .i64 m)) (htl:t.length≤4000) (hsp:∀ c∈t,c≠32) :
 CC 215 #[str Z9p,str t] w fun r w'=>r=.bool (decide (t∈Z72))∧Stp [] w w':=
 Z3V Z9p Z72 Z7b t m w hm Zcp htl (fun h=>Zex h hsp)
set_option maxHeartbeats 2000000 in
theorem ZnK (f:Nat) (IH:∀ f'≤f,Z7a f') (l:List Tkn) (hL:Z32 l) (m:Int) (k i o:Nat) (r:Out Nd) (hk1:1≤k) (hk:k≤7) (hsp:¬ ((k=3∧(cur l i).text=[110,111,116])∨(k=7∧(cur l i).text=[45])))
 (h : (match ZJ l f (.expr (k + 1)) i o with
   | none=>none
   | some (.err a c)=>some (.err a c)
   | some (.ok x i' o')=>ZJ l f (.loop k x) i' o')=some r) (X:List Nat) (b:Nat) (tv:Value) (w:World) (hb1:b≠2) (hbX:b∈X) (hX:∀ c∈X,c<w.heap.size) (hm:w.cell? ⟨2,0,none⟩=some (.int .i64 m)) (hp:Pd w b tv l i o) :
 Calls Tryz.prog 120 #[.pointer (some ⟨b,0,none⟩),.int .i64 (k:Int)] w (PC b w tv l r (fun x v w'=>NdV X w' v x)):=by
 have hs0:=hp.2.1
 refine cW2 98 Tryz.func120 ?_
 refine W ?_
 refine Z1 Z7 rfl ?_
 rintro _ w1 ⟨b4,rfl,hb4,e4,hS⟩
 have n4:b4≠b:=by have:=hp.lt;omega
 replace hm:=hS.cell (by simp) hm
 replace hp:=hp.up hS
 have hX1:∀ c∈X,c<w1.heap.size:=fun c hc=>Xb (hX c hc) hS.size
 refine Z2j ?_
 refine Z3g ?_
 refine Zhu (σ:=Unit) (fun _=>[(0,.pointer (some ⟨b,0,none⟩)),(1,.int .i64 (k:Int)),(4,.pointer (some ⟨b4,0,none⟩))])
  (fun _ w'=>Pd w' b tv l i o∧(∃ cs:List Value,cs.length=4∧Blk w' b4 27 cs)∧w'.cell? ⟨2,0,none⟩=some (.int .i64 m)∧Stp [] w w') ?_ ?_
 by_cases k3:k=3
 · subst k3
   have ht:¬ (cur l i).text=[110,111,116]:=fun e=>hsp (.inl ⟨rfl,e⟩)
   refine W ?_
   refine CL rfl (Zm rfl) rfl (JZ b tv l i o _ hp) ?_
   rintro _ w2 ⟨rfl,hT⟩
   replace hp:=hp.up hT;replace e4:=e4.up hT
   replace hm:=hT.cell (by simp) hm
   replace hS:=hS.trans hT
   repeat'(first|refine W1 ?_|omega|refine VG ?_ ?_<;>intro hg|refine VC ?_ ?_<;>intro hc)
   all_goals try exact absurd (by assumption) ht
   exact ZO () ⟨rfl,rfl,rfl,trivial⟩ ⟨hp,⟨_,rfl,e4⟩,hm,hS⟩
 by_cases k7:k=7
 · subst k7
   have ht:¬ (cur l i).text=[45]:=fun e=>hsp (.inr ⟨rfl,e⟩)
   refine W ?_
   refine CL rfl (Zm rfl) rfl (JZ b tv l i o _ hp) ?_
   rintro _ w2 ⟨rfl,hT⟩
   replace hp:=hp.up hT;replace e4:=e4.up hT
   replace hm:=hT.cell (by simp) hm
   replace hS:=hS.trans hT
   repeat'(first|refine W1 ?_|omega|refine VG ?_ ?_<;>intro hg|refine VC ?_ ?_<;>intro hc)
   all_goals try exact absurd (by assumption) ht
   exact ZO () ⟨rfl,rfl,rfl,trivial⟩ ⟨hp,⟨_,rfl,e4⟩,hm,hS⟩
 focus repeat'(first|refine W1 ?_|omega|refine VG ?_ ?_<;>intro hg|refine VC ?_ ?_<;>intro hc)
 exact ZO () ⟨rfl,rfl,rfl,trivial⟩ ⟨hp,⟨_,rfl,e4⟩,hm,hS⟩
 clear hp e4 hm hS
 rintro _ w2 ⟨hp,⟨cs4,hc4,e4⟩,hm,hS⟩
 have l4:=e4.lt
 have hX2:∀ c∈b4 :: X,c<w2.heap.size:=fun c hc=>by
  rcases Xe.1 hc with rfl|h
  exact l4
  exact Xb (hX c h) hS.size
 refine W ?_
 cases hE:ZJ l f (.expr (k+1)) i o with
 | none=>rw [hE] at h;simp at h
 | some r1=>
   rw [hE] at h
   have hsub:=IH f (Xl _) l hL m (.expr (k+1)) i o r1 hE (b4 :: X) b tv w2 hb1 (XV _ hbX) hX2 hm hp (by omega) (by omega)
   cases r1 with
   | err a c=>
     simp only [Xh] at h
     subst h
     refine ZM rfl (Zb rfl rfl) (PC.falls hsub rfl (hS.mono (by simp))) rfl ?_
     intro w3 hw3
     repeat'(first|refine Zk ?_|refine Zi ?_)
     refine ZG ?_
     exact PC.err hw3
   | ok x i1 o1=>
     simp only at h
     refine CL rfl (Zb rfl rfl) rfl (PC.goes hsub rfl) ?_
     rintro _ w3 ⟨⟨kx,rfl,hx⟩,hp3,hT⟩
     replace e4:=e4.ext hT (by simpa using n4)
     replace hm:=Ju hm hb1 hT
     have hX3:∀ c∈b4 :: X,c<w3.heap.size:=fun c hc=>Xb (hX2 c hc) hT.size
     have hS3:=(hS.mono (S':=[b]) (by simp)).trans hT
     clear hT hS hp hX2 hsub
     refine Z1 Z7 rfl ?_
     rintro _ w4 ⟨b7,rfl,hb7,e7,hT⟩
     have n74:b7≠b4:=by have:=e4.lt;omega
     have n7b:b7≠b:=by have:=hp3.lt;omega
     have n71:b7≠2:=by have:=block_lt_of_cell hm;simp at this;omega
     refine Z2 (Z3 (us:=ndC x kx) rfl rfl rfl rfl (Zh hx) e7 rfl) ?_
     rintro _ w5 ⟨hT2,e7'⟩
     replace hT:=hT.own hT2 (fun c hc=>.inr (by simp at hc;omega))
     clear hT2 e7
     have hb7w:w.heap.size≤b7:=Xj hS3.size hb7
     have hb4w:w.heap.size≤b4:=hb4
     replace e4:=e4.up hT;replace hp3:=hp3.up hT
     replace hm:=hT.cell (by simp) hm
     replace hx:SlV (b7 :: b4 :: X) w5 kx x.kids:=hx.ext hT (by simp) (fun c hc=>by
      rcases Xe.1 hc with rfl|h
      exact .inr hb7
      exact .inl h)
     have hS5:=hS3.trans (hT.mono (by simp))
     clear hT hS3
     have l7:=e7'.lt
     have hX5:∀ c∈b7 :: b4 :: X,c<w5.heap.size:=fun c hc=>by
      rcases Xe.1 hc with rfl|h
      exact l7
      have:=hX3 c h;omega
     refine W ?_
     clear hX3 hE
     refine Zr (σ:=Nat×Nd×Value×Nat×Nat) (fun q=>[(0,.pointer (some ⟨b,0,none⟩)),(1,.int .i64 (k:Int)),(4,.pointer (some ⟨b4,0,none⟩)),(7,.pointer (some ⟨b7,0,none⟩))])
      (fun q w'=>ZJ l q.1 (.loop k q.2.1) q.2.2.2.1 q.2.2.2.2=some r∧q.1≤f∧Pd w' b tv l q.2.2.2.1 q.2.2.2.2∧Blk w' b7 27 (ndC q.2.1 q.2.2.1)∧SlV (b7 :: b4 :: X) w' q.2.2.1 q.2.1.kids∧(∃ cs:List Value,cs.length=4∧Blk w' b4 27 cs)∧w'.cell? ⟨2,0,none⟩=some (.int .i64 m)∧Stp [b] w w'∧w5.heap.size≤w'.heap.size)
      (fun q=>q.1) (f,x,kx,i1,o1) ⟨rfl,rfl,rfl,rfl,trivial⟩ ⟨h,Xl _,hp3,e7',hx,⟨cs4,hc4,e4⟩,hm,hS5,Xl _⟩ ?_
     clear h hp3 e7' hx e4 hm hS5 l4 l7 hc4 cs4
     rintro ⟨f1,y,ky,i2,o2⟩ w6 ⟨h,hf1,hp,e7,hy,⟨cs4,hc4,e4⟩,hm,hS,h56⟩
     dsimp only at h hf1 hp e7 hy ⊢
     match cs4,hc4 with
     | [q0,q1,q2,q3],_=>
     cases f1 with
     | zero=>simp [ZJ] at h
     | succ f1=>
     rw [ZJ] at h
     refine W ?_
     refine CL rfl (Zm rfl) rfl (JZ b tv l i2 o2 _ hp) ?_
     rintro _ w7 ⟨rfl,hT⟩
     replace hp:=hp.up hT;replace e4:=e4.up hT;replace e7:=e7.up hT;replace hy:=hy.up hT
     replace hm:=hT.cell (by simp) hm
     replace hS:=hS.trans (hT.mono (by simp))
     replace h56:=Xj h56 hT.size
     clear hT
     refine W ?_
     refine CL rfl (Zm rfl) rfl (Z9q _ _) ?_
     rintro _ _ ⟨rfl,rfl⟩
     by_cases hlv:Z4P (cur l i2).text=k
     · rw [if_pos hlv] at h
       have hi1:=hL.end_of hp.i_lt (Z65 hlv hk1)
       repeat'(first|refine W1 ?_|omega|refine VG ?_ ?_<;>intro hg|refine VC ?_ ?_<;>intro hc)
       refine CL rfl (Zm rfl) rfl (JZ b tv l i2 o2 _ hp) ?_
       rintro _ w8 ⟨rfl,hT⟩
       replace hp:=hp.up hT;replace e4:=e4.up hT;replace e7:=e7.up hT;replace hy:=hy.up hT
       replace hm:=hT.cell (by simp) hm
       replace hS:=hS.trans (hT.mono (by simp))
       replace h56:=Xj h56 hT.size
       clear hT
       obtain ⟨hpb,hps,hpi,hpl,hpo⟩:=id hp
       refine W ?_
       refine Z2 (Ze (u:=.int .i64 ((i2+1:Nat):Int)) rfl (by show some _=some _;simp) rfl rfl hpb (by simp)) ?_
       rintro _ w9 ⟨hT,hpb9⟩
       replace hps:=hps.ext (X':=[b]) hT (fun c hc=>hc) (fun c hc=>.inl hc)
       replace e4:=e4.ext hT (by simpa using n4)
       replace e7:=e7.ext hT (by simpa using n7b)
       replace hy:=hy.ext (X':=b7 :: b4 :: X) hT (fun c hc=>by simp at hc;subst hc;simp [hbX]) (fun c hc=>.inl hc)
       replace hm:=Ju hm hb1 hT
       replace hS:=hS.trans hT
       replace h56:=Xj h56 hT.size
       replace hp:Pd w9 b tv l (i2+1) o2:=⟨hpb9,hps,hi1,hpl,hpo⟩
       clear hT hpb9 hps hpi hpl hpo hpb
       refine W ?_
       have hX9:∀ c∈b7 :: b4 :: X,c<w9.heap.size:=fun c hc=>Xb (hX5 c hc) h56
       cases hE:ZJ l f1 (.expr (k+1)) (i2+1) o2 with
       | none=>rw [hE] at h;simp at h
       | some r2=>
         rw [hE] at h
         cases r2 with
         | err a c=>
           simp only [Xh] at h
           subst h
           refine Z3o 9 ([b]) [8] [(0,0),(1,1),(2,0),(3,0),(4,0),(5,2),(6,2),(7,0),(8,2)] rfl mixed (by kernel_rfl) (by kernel_rfl) (by kernel_rfl) (fun w1 hS1=>?_)
           replace hp:=hp.up hS1;replace e7:=e7.up hS1
           replace hm:=hS1.cell (by simp) hm
           replace hS:=hS.trans (hS1.mono (by simp))
           have hsub:=IH f1 (by omega) l hL m (.expr (k+1)) (i2+1) o2 _ hE (b7 :: b4 :: X) b tv w1 hb1 (by simp [hbX]) (fun c hc=>Xb (hX9 c hc) hS1.size) hm hp (by omega) (by omega)
           refine Jb rfl trivial (fun _=>ZQ rfl) rfl ?_
           refine Z29 rfl trivial (fun w' hw=>J2 rfl rfl (e7.ext hw (by simpa using n7b)) rfl) rfl ?_
           refine Jb rfl trivial (fun _=>ZQ rfl) rfl ?_
           refine Jb rfl trivial (fun _=>ZQ rfl) rfl ?_
           refine Jb rfl trivial (fun _=>Z9W rfl rfl (by unfold I64;omega)) rfl ?_
           refine Z50 rfl trivial rfl (Zb rfl rfl) (PC.falls hsub rfl hS) rfl ?_
           intro wz hwz
           repeat'(first|refine Zk ?_|refine Zi ?_)
           refine ZG ?_
           exact PC.err hwz
         | ok z i3 o3=>
           simp only at h
           refine ZDr 9 ([b]) [8] [(0,0),(1,1),(2,0),(3,0),(4,0),(5,2),(6,2),(7,0),(8,2)] (fun w1 hS1=>?_)
           replace hp:=hp.up hS1;replace e7:=e7.up hS1;replace hy:=hy.up hS1;replace e4:=e4.up hS1
           replace hm:=hS1.cell (by simp) hm
           replace hS:=hS.trans (hS1.mono (by simp))
           have h5x:=Xj h56 hS1.size
           have hX1:∀ c∈b7 :: b4 :: X,c<w1.heap.size:=fun c hc=>Xb (hX9 c hc) hS1.size
           have hsub:=IH f1 (by omega) l hL m (.expr (k+1)) (i2+1) o2 _ hE (b7 :: b4 :: X) b tv w1 hb1 (by simp [hbX]) hX1 hm hp (by omega) (by omega)
           clear hS1 hX9 h56
           refine D ?_
           refine Za rfl trivial (Z4 rfl (Zb rfl rfl) (PC.goes hsub rfl)) (fun _ _ h=>h.2.2) rfl ?_
           rintro _ w10 ⟨⟨kz,rfl,hz⟩,hp10,hT⟩
           replace e4:=e4.ext hT (by simpa using n4)
           replace e7:=e7.ext hT (by simpa using n7b)
           replace hy:=hy.ext (X':=b7 :: b4 :: X) hT (fun c hc=>by simp at hc;subst hc;simp [hbX]) (fun c hc=>.inl hc)
           replace hm:=Ju hm hb1 hT
           replace hS:=hS.trans hT
           have h510:=Xj h5x hT.size
           have hX10:∀ c∈b7 :: b4 :: X,c<w10.heap.size:=fun c hc=>Xb (hX1 c hc) hT.size
           clear hT hp hX1 h5x hsub
           obtain ⟨py,cy,rfl,-⟩:=id hy
           obtain ⟨pz,cz,rfl,-⟩:=id hz
           refine Za rfl trivial (Z0 (vs:=[(0,.agg (ndC y (.slice py y.kids.length cy)).toArray),(1,.agg (ndC z (.slice pz z.kids.length cz)).toArray)]) rfl (Jk _ _ _ _ _ _ _ _ _ _ _ _)) (fun _ _ h=>(Z5.stp h).mono (by simp)) rfl ?_
           intro bv w11 hN
           have hbv:SlV (b7 :: b4 :: X) w11 bv [y,z]:=hN.slvG (css:=[ndC y _,ndC z _]) hX10 rfl rfl rfl (Z1i hy hz) (by simp [maxLen])
           obtain ⟨bn,rfl,hbn,-,hT⟩:=id hN
           replace hp10:=hp10.up hT;replace e4:=e4.up hT;replace e7:=e7.up hT
           replace hm:=hT.cell (by simp) hm
           replace hS:=hS.trans (hT.mono (by simp))
           have h511:=Xj h510 hT.size
           clear hT hN hX10 h510 hy hz
           refine Z5N rfl trivial (vs:=[(0,.int .i64 6),(2,str (cur l i2).text),(3,.slice (some ⟨bn,0,none⟩) 2 2)]) rfl (Zl7 _ _ _ _) rfl ?_
           refine Js rfl trivial (Z3 (us:=ndC (.mk 6 0 (cur l i2).text [y,z]) (.slice (some ⟨bn,0,none⟩) 2 2)) rfl rfl rfl rfl (Zh hbv) e7 rfl) rfl ?_
           rintro _ w12 ⟨hT,e7'⟩
           have hb7x:∀ S:List Nat,S=[b7]→∀ c∈S,w.heap.size≤c:=fun S hS c hc=>by subst hS;simp at hc;subst hc;exact hb7w
           replace e4:=e4.ext hT (by simpa using n74.symm)
           replace hp10:Pd w12 b tv l i3 o3:=by
            obtain ⟨g1,g2,g3,g4,g5⟩:=hp10
            have hSx:=hS.own hT (fun c hc=>.inr (hb7x _ rfl c hc))
            exact ⟨g1.ext hT (by simpa using n7b.symm),hs0.ext hSx (fun c hc=>hc) (fun c hc=>.inl hc),g3,g4,g5⟩
           replace hbv:=hbv.ext (X':=b7 :: b4 :: X) hT (fun c hc=>by simp at hc;simp [hc]) (fun c hc=>.inl hc)
           replace hm:=hT.cell (by simpa using n71.symm) hm
           replace hS:=hS.own hT (fun c hc=>.inr (hb7x _ rfl c hc))
           have h512:=Xj h511 hT.size
           clear hT h511
           refine D ?_
           by_cases k5:k=5
           subst k5
           refine W ?_
           refine CL rfl (Zm rfl) rfl (JZ b tv l i3 o3 _ hp10) ?_
           rintro _ w13 ⟨rfl,hT⟩
           replace hp10:=hp10.up hT;replace e4:=e4.up hT;replace e7':=e7'.up hT;replace hbv:=hbv.up hT
           replace hm:=hT.cell (by simp) hm
           replace hS:=hS.trans (hT.mono (by simp))
           replace h512:=Xj h512 hT.size
           clear hT
           refine W ?_
           refine CL rfl (Zb rfl rfl) rfl (Z9r (cur l i3).text m _ hm (hL.tl i3) (hL.sp i3)) ?_
           rintro _ w14 ⟨rfl,hT⟩
           replace hp10:=hp10.up hT;replace e4:=e4.up hT;replace e7':=e7'.up hT;replace hbv:=hbv.up hT
           replace hm:=hT.cell (by simp) hm
           replace hS:=hS.trans (hT.mono (by simp))
           replace h512:=Xj h512 hT.size
           clear hT
           by_cases hu:(cur l i3).text∈Z72
           rw [if_pos ⟨rfl,hu⟩] at h
           rw [decide_eq_true hu]
           have hi3:=hL.end_of hp10.i_lt (fun e=>Z7b (e ▸ hu))
           refine W ?_
           refine CL rfl (Zm rfl) rfl (JZ b tv l i3 o3 _ hp10) ?_
           rintro _ w15 ⟨rfl,hT⟩
           replace hp10:=hp10.up hT;replace e4:=e4.up hT;replace e7':=e7'.up hT;replace hbv:=hbv.up hT
           replace hm:=hT.cell (by simp) hm
           replace hS:=hS.trans (hT.mono (by simp))
           replace h512:=Xj h512 hT.size
           clear hT
           refine W ?_
           refine Z2 (Ze (u:=.int .i64 7) rfl rfl rfl rfl e7' (by simp)) ?_
           rintro _ w16 ⟨hT,e7''⟩
           refine W ?_
           refine Z2 (Ze (u:=str (cur l i3).text) rfl rfl rfl rfl e7'' (by simp)) ?_
           rintro _ w17 ⟨hT',e7q⟩
           replace hT:=hT.trans hT'
           replace e7q:Blk w17 b7 27 (ndC (.mk 7 0 (cur l i3).text [y,z]) (.slice (some ⟨bn,0,none⟩) 2 2)):=e7q
           clear hT' e7' e7''
           replace e4:=e4.ext hT (by simpa using n74.symm)
           replace hp10:Pd w17 b tv l i3 o3:=by
            obtain ⟨g1,g2,g3,g4,g5⟩:=hp10
            have hSx:=hS.own hT (fun c hc=>.inr (hb7x _ rfl c hc))
            exact ⟨g1.ext hT (by simpa using n7b.symm),hs0.ext hSx (fun c hc=>hc) (fun c hc=>.inl hc),g3,g4,g5⟩
           replace hbv:=hbv.ext (X':=b7 :: b4 :: X) hT (fun c hc=>by simp at hc;simp [hc]) (fun c hc=>.inl hc)
           replace hm:=hT.cell (by simpa using n71.symm) hm
           replace hS:=hS.own hT (fun c hc=>.inr (hb7x _ rfl c hc))
           replace h512:=Xj h512 hT.size
           clear hT
           refine W ?_
           refine Z2k (σ:=Unit) (fun _=>[(0,.pointer (some ⟨b,0,none⟩)),(1,.int .i64 (5:Int)),(4,.pointer (some ⟨b4,0,none⟩)),(7,.pointer (some ⟨b7,0,none⟩))])
            (fun _ w'=>Blk w' b7 27 (ndC (.mk (if (cur l i2).text=[45] then 8 else 7) 0 (cur l i3).text [y,z]) (.slice (some ⟨bn,0,none⟩) 2 2))∧Stp [b7] w17 w') ?_ ?_
           by_cases hm8:(cur l i2).text=[45]
           rw [if_pos hm8]
           focus repeat'(first|refine W1 ?_|omega|refine VG ?_ ?_<;>intro hg|refine VC ?_ ?_<;>intro hc)
           refine Z2 (Ze (u:=.int .i64 8) rfl rfl rfl rfl e7q (by simp)) ?_
           rintro _ w18 ⟨hT,e8⟩
           refine W ?_
           exact ZO () ⟨rfl,rfl,rfl,rfl,trivial⟩ ⟨e8,hT⟩
           exact absurd hm8 (by assumption)
           rw [if_neg hm8]
           focus repeat'(first|refine W1 ?_|omega|refine VG ?_ ?_<;>intro hg|refine VC ?_ ?_<;>intro hc)
           exact absurd (by assumption) hm8
           exact ZO () ⟨rfl,rfl,rfl,rfl,trivial⟩ ⟨e7q,Stp.refl _ _⟩
           rintro _ w18 ⟨e8,hT⟩
           replace e4:=e4.ext hT (by simpa using n74.symm)
           replace hp10:Pd w18 b tv l i3 o3:=by
            obtain ⟨g1,g2,g3,g4,g5⟩:=hp10
            have hSx:=hS.own hT (fun c hc=>.inr (hb7x _ rfl c hc))
            exact ⟨g1.ext hT (by simpa using n7b.symm),hs0.ext hSx (fun c hc=>hc) (fun c hc=>.inl hc),g3,g4,g5⟩
           replace hbv:=hbv.ext (X':=b7 :: b4 :: X) hT (fun c hc=>by simp at hc;simp [hc]) (fun c hc=>.inl hc)
           replace hm:=hT.cell (by simpa using n71.symm) hm
           replace hS:=hS.own hT (fun c hc=>.inr (hb7x _ rfl c hc))
           replace h512:=Xj h512 hT.size
           clear hT e7q
           obtain ⟨hpb,hps,hpi,hpl,hpo⟩:=id hp10
           refine W ?_
           refine Z2 (Ze (u:=.int .i64 ((i3+1:Nat):Int)) rfl (by show some _=some _;simp) rfl rfl hpb (by simp)) ?_
           rintro _ w19 ⟨hT,hpb9⟩
           replace hps:=hps.ext (X':=[b]) hT (fun c hc=>hc) (fun c hc=>.inl hc)
           replace e4:=e4.ext hT (by simpa using n4)
           replace e8:=e8.ext hT (by simpa using n7b)
           replace hbv:=hbv.ext (X':=b7 :: b4 :: X) hT (fun c hc=>by simp at hc;subst hc;simp [hbX]) (fun c hc=>.inl hc)
           replace hm:=Ju hm hb1 hT
           replace hS:=hS.trans hT
           replace h512:=Xj h512 hT.size
           refine W ?_
           exact Zg (f1,.mk (if (cur l i2).text=[45] then 8 else 7) 0 (cur l i3).text [y,z],.slice (some ⟨bn,0,none⟩) 2 2,i3+1,o3) ⟨rfl,rfl,rfl,rfl,trivial⟩ ⟨h,by omega,⟨hpb9,hps,hi3,hpl,hpo⟩,e8,hbv,⟨_,rfl,e4⟩,hm,hS,h512⟩ (by omega)
           rw [if_neg (fun h=>hu h.2),if_neg (by omega)] at h
           rw [decide_eq_false hu]
           refine W ?_
           exact Zg (f1,.mk 6 0 (cur l i2).text [y,z],.slice (some ⟨bn,0,none⟩) 2 2,i3,o3) ⟨rfl,rfl,rfl,rfl,trivial⟩ ⟨h,by omega,hp10,e7',hbv,⟨_,rfl,e4⟩,hm,hS,h512⟩ (by omega)
           rw [if_neg (fun h=>k5 h.1)] at h
           by_cases k4:k=4
           rw [if_pos k4] at h
           subst k4
           simp only [Xh] at h
           subst h
           have e7:=e7'
           replace hp:=hp10
           skip
           refine W ?_
           refine Z2 (Z3 (us:=ndC (.mk 6 0 (cur l i2).text [y,z]) (.slice (some ⟨bn,0,none⟩) 2 2)) rfl rfl rfl rfl (Zh hbv) e4 rfl) ?_
           rintro _ wz ⟨hT,e4'⟩
           refine W ?_
           refine Zl rfl rfl rfl e4' rfl ?_
           obtain ⟨hpb,hps,hpi,hpl,hpo⟩:=id hp
           have hSx:=hS.own hT (fun c hc=>by simp at hc;subst hc;exact .inr hb4w)
           refine PC.ok ⟨_,rfl,?_⟩ ⟨hpb.ext hT (by simpa using n4.symm),hs0.ext hSx (fun c hc=>hc) (fun c hc=>.inl hc),hpi,hpl,hpo⟩ hSx
           exact (hbv.ext (X':=b7 :: b4 :: X) hT (fun c hc=>by simp at hc;simp [hc]) (fun c hc=>.inl hc)).wk (fun c hc=>by simp [hc])
           rw [if_neg k4] at h
           focus repeat'(first|refine W1 ?_|omega|refine VG ?_ ?_<;>intro hg|refine VC ?_ ?_<;>intro hc)
           exact Zg (f1,.mk 6 0 (cur l i2).text [y,z],.slice (some ⟨bn,0,none⟩) 2 2,i3,o3) ⟨rfl,rfl,rfl,rfl,trivial⟩ ⟨h,by omega,hp10,e7',hbv,⟨_,rfl,e4⟩,hm,hS,h512⟩ (by omega)
     rw [if_neg hlv] at h
     simp only [Xh] at h
     subst h
     focus repeat'(first|refine W1 ?_|omega|refine VG ?_ ?_<;>intro hg|refine VC ?_ ?_<;>intro hc)
     skip
     refine W ?_
     refine Z2 (Z3 (us:=ndC y ky) rfl rfl rfl rfl (Zh hy) e4 rfl) ?_
     rintro _ wz ⟨hT,e4'⟩
     refine W ?_
     refine Zl rfl rfl rfl e4' rfl ?_
     obtain ⟨hpb,hps,hpi,hpl,hpo⟩:=id hp
     have hSx:=hS.own hT (fun c hc=>by simp at hc;subst hc;exact .inr hb4w)
     refine PC.ok ⟨_,rfl,?_⟩ ⟨hpb.ext hT (by simpa using n4.symm),hs0.ext hSx (fun c hc=>hc) (fun c hc=>.inl hc),hpi,hpl,hpo⟩ hSx
     exact (hy.ext (X':=b7 :: b4 :: X) hT (fun c hc=>by simp at hc;simp [hc]) (fun c hc=>.inl hc)).wk (fun c hc=>by simp [hc])
end Go.Proofs.YtjdjdoefppebkaaGreatDoor
namespace Go.Eng
open Go Go.RowKit Go.Proofs
theorem Z4o {k:Nat}:∀ (l:List (List Value)),(∀ c∈l,c.length=k)→l.flatten.length=l.length * k
 | [],_=>by simp
 | c :: r, h => by
   simp only [XZ,Xg,Xc,XU]
   rw [Z4o r (fun c hc=>h c (by simp [hc])),h c (by simp)]
   omega
theorem Z5.rowG {α:Type} [Z8 α] {w w':World} {X:List Nat} {T len base:Nat} {cs:List Value} {v:Value} {ys:List α} {css:List (List Value)} (h:Z5 w T len cs v w') (hX:∀ b∈X,b<w.heap.size) (hbase:base≤w.heap.size) (hl:len=ys.length) (hcl:css.length=ys.length)
 (hc:cs=css.flatten) (hr:∀ i (hi:i<ys.length) (hi':i<css.length),Z8.rep X w ys[i] css[i]) (hm:ys.length≤maxLen):Row X w' base T v ys:=by
 obtain ⟨b,rfl,hb,hblk,hS⟩:=h
 subst hl
 subst hc
 have hk:∀ c∈css,c.length=Z8.k α:=by
  intro c hc
  obtain ⟨i,hi,rfl⟩:=Xr hc
  exact Z8.len (hr i (by omega) hi)
 have hfl:css.flatten.length=ys.length * Z8.k α:=by rw [Z4o css hk,hcl]
 refine ⟨css,hcl,fun i hi hi'=>Z8.ext (hr i hi hi') hS (by simp) (fun c hc=>?_),hfl,.inr ⟨b,ys.length,css.flatten.toArray,rfl,by omega,hblk,Xl _,hm,by rw [Yaa];exact hfl,?_⟩⟩
 rcases Xs.1 hc with hc|hc
 simp only [ob,Xp] at hc
 exact .inr (by omega)
 exact .inl hc
 exact Xu (by show css.flatten.length≤_;rw [hfl];exact Xl _)
theorem Row.slvN {α:Type} [Z8 α] {X:List Nat} {w:World} {base T:Nat} {v:Value} {xs:List α} (h:Row X w base T v xs) (hX:∀ b∈X,b∉ob v):SlV X w v xs:=by
 obtain ⟨css,hl,hr,ho⟩:=h
 have hk:∀ c∈css,c.length=Z8.k α:=by
  intro c hc
  obtain ⟨i,hi,rfl⟩:=Xr hc
  exact Z8.len (hr i (by omega) hi)
 rcases ho.2 with ⟨rfl,hn⟩|⟨q,cap,cur,rfl,hb,hg,hnc,hcm,hcs,ht⟩
 exact ⟨none,0,by rw [hn],by omega,by simp [maxLen],fun _=>rfl,fun i hi=>by omega⟩
 refine ⟨some ⟨q,0,none⟩,cap,rfl,hnc,hcm,fun h=>by simp at h,fun i hi=>?_⟩
 refine ⟨q,0,css[i]'(by omega),rfl,(Xk.1 hg).1,fun hx=>hX q hx (by simp [ob]),?_,fun j u hu=>?_⟩
 exact Z8.ext (hr i hi (by omega)) (Stp.refl [] w) (by simp) (fun b hb=>.inl (by simp [hb]))
 have h1:=Z0Y css hk i (by omega) j u hu
 rw [← ht,X7] at h1
 split at h1
 have h2:cur[i * Z8.k α+j]?=some u:=by simpa using h1
 rw [X0,cell_of_row w q _ cur T (0,0) hg]
 exact h2
 cases h1
end Go.Eng
namespace Go.Proofs.YtjdjdoefppebkaaGreatDoor
open Go Go.Eng Go.RowKit Go.Proofs
theorem Z2z {α:Type} [Z8 α] (X:List Nat) (w:World):SlV (α:=α) X w (.slice none 0 0) []:=⟨none,0,rfl,Xl _,by simp [maxLen],fun _=>rfl,fun i hi=>absurd hi (Xy _)⟩
theorem Zl8 (s:Str) (w:World):(Instr.build 27 #[(0,.int .i64 10),(2,str s)]).run Tryz.prog w=.ok (.agg #[.int .i64 10,.int .i64 0,str s,.slice none 0 0]) w:=by kernel_rfl
theorem Zgt (p:Option Addr) (l c:Nat) (w:World):(Instr.build 27 #[(0,.int .i64 9),(3,.slice p l c)]).run Tryz.prog w=.ok (.agg #[.int .i64 9,.int .i64 0,str [],.slice p l c]) w:=by kernel_rfl
theorem Zgu (a b:Str) (w:World):(Instr.buildSlice 119 2 #[(0,str a),(1,str b)]).run Tryz.prog w=.ok (.slice (some ⟨w.heap.size,0,none⟩) 2 2) (w.alloc (.cells #[str a,str b] 9)):=by kernel_rfl
theorem Zcq:([]:Str)∉Z73:=by decide
theorem ZeA (s:Str):Z0W s≤2:=by unfold Z0W;split<;>omega
theorem Blk.slv2 {w:World} {bw T:Nat} {a c:Str} (h:Blk w bw T [str a,str c]):SlV (α:=Str) [] w (.slice (some ⟨bw,0,none⟩) 2 2) [a,c]:=by
 refine ⟨some ⟨bw,0,none⟩,2,rfl,Xl _,by simp [maxLen],fun h=>by simp at h,fun i hi=>⟨bw,0,[str ([a,c][i])],rfl,h.lt,by simp,rfl,fun j u hu=>h.cell ?_⟩⟩
 have hi2:i<2:=hi
 rcases (by omega:i=0∨i=1) with rfl|rfl
 · cases j with
   | zero=>exact hu
   | succ j=>simp at hu
 · cases j with
   | zero=>exact hu
   | succ j=>simp at hu
theorem Z7c {α:Type} [Z8 α] {X:List Nat} {w:World} {base T:Nat} {v:Value} {xs:List α} (h:Row X w base T v xs):v.cells.toList=[v]:=by
 obtain ⟨css,_,_,ho⟩:=h
 rcases ho.2 with ⟨rfl,hn⟩|⟨q,cap,cur,rfl,_⟩<;>rfl
theorem Zbs {α:Type} [Z8 α] {X:List Nat} {w:World} {base T:Nat} {v:Value} {xs:List α} (h:Row X w base T v xs):v.oneCell'=true:=by
 obtain ⟨css,_,_,ho⟩:=h
 rcases ho.2 with ⟨rfl,hn⟩|⟨q,cap,cur,rfl,_⟩<;>rfl
set_option maxHeartbeats 2000000 in
theorem ZnL (f:Nat) (IH:Z7a f) (l:List Tkn) (hL:Z32 l) (m:Int) (i o:Nat) (r:Out Nd) (hf:(cur l i).text∈Z73)
 (h : (match Z3P l 1 i o with
   | .err a c=>some (.err a c)
   | .ok _ i1 o1=>
     match Z0p l [40] i1 o1 with
     | .err a c=>some (.err a c)
     | .ok _ i' o'=>
       match Z0m (ZJ l f (.expr 1)) (Z1p l) (Z0W (cur l i).text) 0 [] i' o' with
       | none=>none
       | some (.err a c)=>some (.err a c)
       | some (.ok ks i3 o3)=>
         match Z0D l [41] i3 o3 with
         | .err a c=>some (.err a c)
         | .ok _ i4 o4=>some (.ok (.mk 10 0 (cur l i).text ks) i4 o4))=some r) (X:List Nat) (b:Nat) (tv:Value) (w:World) (hb1:b≠2) (hbX:b∈X) (hX:∀ c∈X,c<w.heap.size) (hm:w.cell? ⟨2,0,none⟩=some (.int .i64 m)) (hp:Pd w b tv l i o) :
 Calls Tryz.prog 275 #[.pointer (some ⟨b,0,none⟩)] w (PC b w tv l r (fun x v w'=>NdV X w' v x)):=by
 have hs0:=hp.2.1
 have hm0:=hm
 have hbw:=hp.lt
 have hargs:=ZeA (cur l i).text
 have htx:=hL.tl i
 refine cW1 32 Tryz.func275 ?_
 refine W ?_
 refine Z1 Z7 rfl ?_
 rintro _ w1 ⟨b2,rfl,hb2,e2,hS⟩
 have n2b:b2≠b:=by have:=hp.lt;omega
 have hb2w:w.heap.size≤b2:=hb2
 replace hm:=hS.cell (by simp) hm
 replace hp:=hp.up hS
 refine W ?_
 cases hK:Z3P l 1 i o with
 | err a c=>
   rw [hK] at h
   simp only [Xh] at h
   subst h
   refine ZM rfl (Zb rfl rfl) (PC.falls (Z79 b tv l hL 1 (by decide) i o _ hp) hK (hS.mono (by simp))) rfl ?_
   intro wz hwz
   repeat'(first|refine Zk ?_|refine Zi ?_)
   refine ZG ?_
   exact PC.err hwz
 | ok t i1 o1=>
   obtain ⟨ho1,hi1,ht,hkind⟩:=Z1R hK
   subst o1;subst i1;subst t
   rw [hK] at h
   simp only at h
   refine CL rfl (Zb rfl rfl) rfl (PC.goes (Z79 b tv l hL 1 (by decide) i o _ hp) hK) ?_
   rintro _ w2 ⟨rfl,hp2,hT⟩
   replace e2:=e2.ext hT (by simpa using n2b)
   replace hm:=Ju hm hb1 hT
   replace hS:=(hS.mono (S':=[b]) (by simp)).trans hT
   clear hT hp
   refine Zd (Zek rfl (Zgs _)) rfl ?_
   apply Z6 (vs:=[(0,.int .i64 10),(2,str (cur l i).text)]) rfl (Zl8 _) rfl
   refine Z1 Z7 rfl ?_
   rintro _ w3 ⟨b3,rfl,hb3,e3,hT⟩
   have n23:b2≠b3:=by have:=e2.lt;omega
   have n3b:b3≠b:=by have:=hp2.lt;omega
   have n31:b3≠2:=by have:=block_lt_of_cell hm;simp at this;omega
   have hb3w:w.heap.size≤b3:=Xj hS.size hb3
   refine Z2 (Z3 (us:=ndC (.mk 10 0 (cur l i).text []) (.slice none 0 0)) rfl rfl rfl rfl (Zh (x:=.mk 10 0 (cur l i).text []) (Z2z [] w)) e3 rfl) ?_
   rintro _ w4 ⟨hT2,e3'⟩
   replace hT:=hT.own hT2 (fun c hc=>.inr (by simp at hc;omega))
   clear hT2 e3
   replace hp2:=hp2.up hT;replace e2:=e2.up hT
   replace hm:=hT.cell (by simp) hm
   replace hS:=hS.trans (hT.mono (by simp))
   clear hT
   refine W ?_
   cases hO:Z0p l [40] (i+1) o with
   | err a c=>
     rw [hO] at h
     simp only [Xh] at h
     subst h
     refine ZM rfl (Zb rfl rfl) (PC.falls (Z02 b tv l hL [40] (by decide) _ _ _ hp2) hO hS) rfl ?_
     intro wz hwz
     repeat'(first|refine Zk ?_|refine Zi ?_)
     refine ZG ?_
     exact PC.err hwz
   | ok u iA oA=>
     obtain ⟨hoo,hoi,hopt⟩:=ZL hO
     subst oA;subst iA
     rw [hO] at h
     simp only at h
     refine CL rfl (Zb rfl rfl) rfl (PC.goes (Z02 b tv l hL [40] (by decide) _ _ _ hp2) hO) ?_
     rintro _ wB ⟨rfl,hp,hT⟩
     replace e2:=e2.ext hT (by simpa using n2b)
     replace e3:=e3'.ext hT (by simpa using n3b)
     replace hm:=Ju hm hb1 hT
     replace hS:=hS.trans hT
     clear hT hp2 e3'
     have l2:=e2.lt
     have l3:=e3.lt
     have hwB:wB.heap.size≤wB.heap.size:=Xl _
     have hwBw:=hS.size
     have hXb:∀ c∈b3 :: b2 :: X,c<wB.heap.size:=fun c hc=>by
      rcases Xe.1 hc with rfl|hc
      exact l3
      rcases Xe.1 hc with rfl|hc
      exact l2
      have:=hX c hc;have:=hS.size;omega
     refine W ?_
     refine CL rfl (Zm rfl) rfl (Z6J _ _) ?_
     rintro _ wB2 ⟨rfl,hww⟩
     subst wB2
     refine W ?_
     cases hM:Z0m (ZJ l f (.expr 1)) (Z1p l) (Z0W (cur l i).text) 0 [] (i+1+1) (o+1) with
     | none=>rw [hM] at h;simp at h
     | some r3=>
     rw [hM] at h
     refine Zr (σ:=Nat×List Nd×Value×Nat×Nat) (fun q=>[(0,.pointer (some ⟨b,0,none⟩)),(2,.pointer (some ⟨b2,0,none⟩)),(3,.pointer (some ⟨b3,0,none⟩)),(13,.int .i64 (Z0W (cur l i).text:Int)),(14,.int .i64 (q.1:Int))])
      (fun q w'=>Z0m (ZJ l f (.expr 1)) (Z1p l) (Z0W (cur l i).text - q.1) q.1 q.2.1 q.2.2.2.1 q.2.2.2.2=some r3∧q.1≤Z0W (cur l i).text∧q.2.1.length=q.1∧q.2.2.2.2=o+1∧Pd w' b tv l q.2.2.2.1 q.2.2.2.2∧Blk w' b3 27 (ndC (.mk 10 0 (cur l i).text q.2.1) q.2.2.1)∧Row (b3 :: b2 :: X) w' wB.heap.size 27 q.2.2.1 q.2.1∧b3∉ob q.2.2.1∧(∃ cs:List Value,cs.length=4∧Blk w' b2 27 cs)∧w'.cell? ⟨2,0,none⟩=some (.int .i64 m)∧Stp [b] w w'∧wB.heap.size≤w'.heap.size)
      (fun q=>Z0W (cur l i).text - q.1) (0,[],.slice none 0 0,i+1+1,o+1) ⟨rfl,rfl,rfl,rfl,rfl,trivial⟩ ⟨hM,Xo _,rfl,rfl,hp,e3,Row.nil,by simp [ob],⟨_,rfl,e2⟩,hm,hS,Xl _⟩ ?_
     clear hM hp e3 e2 hm hS
     rintro ⟨k,ks,kv,i2,o2⟩ w6 ⟨hM,hka,hkl,ho2',hp,e3,hrow,hn3,⟨cs2,hc2,e2⟩,hm,hS,hsz⟩
     dsimp only at hM hka hkl ho2' hp e3 hrow hn3 hsz ⊢
     match cs2,hc2 with
     | [q0,q1,q2,q3],_=>
     by_cases hlt:k<Z0W (cur l i).text
     obtain ⟨n',hn'⟩:∃ n',Z0W (cur l i).text - k=n'+1:=⟨Z0W (cur l i).text - k - 1,by omega⟩
     rw [hn'] at hM
     simp only [Z0m] at hM
     refine W ?_
     refine VC ?_ ?_<;>intro hg
     refine W ?_
     refine Z2k (σ:=Nat×Nat) (fun _=>[(0,.pointer (some ⟨b,0,none⟩)),(2,.pointer (some ⟨b2,0,none⟩)),(3,.pointer (some ⟨b3,0,none⟩)),(13,.int .i64 (Z0W (cur l i).text:Int)),(14,.int .i64 (k:Int))])
      (fun q w'=>Z1p l k i2 o2=.ok () q.1 q.2∧q.2=o+1∧Pd w' b tv l q.1 q.2∧Blk w' b3 27 (ndC (.mk 10 0 (cur l i).text ks) kv)∧Row (b3 :: b2 :: X) w' wB.heap.size 27 kv ks∧Blk w' b2 27 [q0,q1,q2,q3]∧w'.cell? ⟨2,0,none⟩=some (.int .i64 m)∧Stp [b] w w'∧wB.heap.size≤w'.heap.size) ?_ ?_
     · repeat'(first|refine W1 ?_|omega|refine VG ?_ ?_<;>intro hg|refine VC ?_ ?_<;>intro hc)
       ·
         have hk0:0<k:=by omega
         have hcm:Z1p l k i2 o2=Z1q l [44] i2 o2:=by unfold Z1p;rw [if_pos hk0]
         rw [hcm] at hM
         cases hU:Z1q l [44] i2 o2 with
         | err a c=>
           rw [hU] at hM
           simp only [Xh] at hM
           subst hM
           simp only [Xh] at h
           subst h
           refine ZM rfl (Zb rfl rfl) (PC.falls (Z1y b tv l hL _ (by decide) i2 o2 _ hp) hU hS) rfl ?_
           intro wz hwz
           repeat'(first|refine Zk ?_|refine Zi ?_)
           refine ZG ?_
           exact PC.err hwz
         | ok u iC oC=>
           rw [hU] at hM
           simp only at hM
           have hoC:=Z1G hU
           refine CL rfl (Zb rfl rfl) rfl (PC.goes (Z1y b tv l hL _ (by decide) i2 o2 _ hp) hU) ?_
           rintro _ wC ⟨rfl,hpC,hT⟩
           have hbk:∀ c∈[b],c∈b3 :: b2 :: X∧c∉ob kv:=fun c hc=>by
            simp only [Xp] at hc
            subst hc
            exact ⟨by simp [hbX],fun h=>by have:=(hrow.ob_le c h).1;have:=hp.lt;omega⟩
           replace hrow:=hrow.ext (X':=b3 :: b2 :: X) hT hbk (fun c hc=>.inl hc)
           replace e2:=e2.ext hT (by simpa using n2b)
           replace e3:=e3.ext hT (by simpa using n3b)
           replace hm:=Ju hm hb1 hT
           replace hS:=hS.trans hT
           replace hsz:=Xj hsz hT.size
           refine W ?_
           exact ZO (iC,oC) ⟨rfl,rfl,rfl,rfl,rfl,trivial⟩ ⟨hcm.trans hU,by dsimp only;omega,hpC,e3,hrow,e2,hm,hS,hsz⟩
       exact ZO (i2,o2) ⟨rfl,rfl,rfl,rfl,rfl,trivial⟩ ⟨by unfold Z1p;rw [if_neg (by omega)],ho2',hp,e3,hrow,e2,hm,hS,hsz⟩
     · rintro ⟨iC,oC⟩ wC ⟨hcm,hoC,hp,e3,hrow,e2,hm,hS,hsz⟩
       dsimp only at hcm hoC hp
       rw [hcm] at hM
       simp only at hM
       refine W ?_
       cases hE:ZJ l f (.expr 1) iC oC with
       | none=>rw [hE] at hM;simp at hM
       | some r2=>
         rw [hE] at hM
         obtain ⟨hpb,hps,hpi,hpl,hpo⟩:=id hp
         have hlb:=hpb.lt
         have hlk:=hrow.ob_le
         have hXk:∀ c∈ob kv++(b3 :: b2 :: X),c<wC.heap.size:=fun c hc=>by
          rcases Xs.1 hc with h|h
          exact (hlk c h).2
          exact Xb (hXb c h) hsz
         cases r2 with
         | err a c=>
           simp only [Xh] at hM
           subst hM
           simp only [Xh] at h
           subst h
           refine Z3o 8 (b :: ob kv) [7] [(0,0),(1,1),(2,0),(3,2),(4,2),(5,2),(6,0),(7,2)] rfl mixed (by kernel_rfl) (by kernel_rfl) (by kernel_rfl) (fun w1 hS1=>?_)
           replace hp:=hp.up hS1;replace e3:=e3.up hS1
           replace hm:=hS1.cell (by simp) hm
           replace hS:=hS.trans (hS1.mono (by simp))
           have hsub:=IH l hL m (.expr 1) iC oC _ hE (ob kv++(b3 :: b2 :: X)) b tv w1 hb1 (by simp [hbX]) (fun c hc=>Xb (hXk c hc) hS1.size) hm hp (by omega) (by omega)
           refine Jb rfl trivial (fun _=>Jy rfl) rfl ?_
           refine Z29 rfl trivial (fun w' hw=>Jq rfl rfl (e3.ext hw (by simp only [Xe,not_or];exact ⟨n3b,hn3⟩)) rfl) rfl ?_
           refine Jb rfl trivial (fun _=>ZQ rfl) rfl ?_
           refine Z50 rfl trivial rfl (Zb rfl rfl) (PC.falls hsub rfl hS) rfl ?_
           intro wz hwz
           repeat'(first|refine Zk ?_|refine Zi ?_)
           refine ZG ?_
           exact PC.err hwz
         | ok x i3 o3=>
           simp only at hM
           refine Z45 8 (b :: ob kv) [7] [(0,0),(1,1),(2,0),(3,2),(4,2),(5,2),(6,0),(7,2)] rfl mixed (by kernel_rfl) (by kernel_rfl) (by kernel_rfl) (fun w1 hS1=>?_)
           replace hp:=hp.up hS1;replace e3:=e3.up hS1;replace e2:=e2.up hS1;replace hrow:=hrow.up hS1
           replace hm:=hS1.cell (by simp) hm
           replace hS:=hS.trans (hS1.mono (by simp))
           have hsz1:=Xj hsz hS1.size
           have hXk1:∀ c∈ob kv++(b3 :: b2 :: X),c<w1.heap.size:=fun c hc=>Xb (hXk c hc) hS1.size
           have hsub:=IH l hL m (.expr 1) iC oC _ hE (ob kv++(b3 :: b2 :: X)) b tv w1 hb1 (by simp [hbX]) hXk1 hm hp (by omega) (by omega)
           clear hS1 hXk hpb hps hlk
           refine JR rfl trivial rfl rfl ?_
           refine Z09 rfl trivial rfl rfl e3 (by simp only [Xe,not_or];exact ⟨n3b,hn3⟩) rfl rfl ?_
           refine Z7x rfl trivial rfl rfl ?_
           refine Za rfl trivial (Z4 rfl (Zb rfl rfl) (PC.goes hsub rfl)) (fun _ _ h=>h.2.2.mono (by simp)) rfl ?_
           rintro _ w7 ⟨⟨kx,rfl,hx⟩,hp7,hT⟩
           have hbk:∀ c∈[b],c∈b3 :: b2 :: X∧c∉ob kv:=fun c hc=>by
            simp only [Xp] at hc
            subst hc
            exact ⟨by simp [hbX],fun h=>by have:=(hrow.ob_le c h).1;omega⟩
           replace hrow:=hrow.ext (X':=b3 :: b2 :: X) hT hbk (fun c hc=>.inl hc)
           replace e2:=e2.ext hT (by simpa using n2b)
           replace e3:=e3.ext hT (by simpa using n3b)
           replace hm:=Ju hm hb1 hT
           replace hS:=hS.trans hT
           have hsz7:=Xj hsz1 hT.size
           have hXk7:∀ c∈ob kv++(b3 :: b2 :: X),c<w7.heap.size:=fun c hc=>Xb (hXk1 c hc) hT.size
           clear hT hXk1 hsz1 hsub hp
           obtain ⟨px,cx,rfl,-⟩:=id hx
           refine Za rfl trivial (Z0 (vs:=[(0,.agg (ndC x (.slice px x.kids.length cx)).toArray)]) rfl (Z0e _ _ _ _ _ _)) (fun _ _ h=>(Z5.stp h).mono (by simp)) rfl ?_
           intro bv w8 hN
           have hbv:SlV (ob kv++(b3 :: b2 :: X)) w8 bv [x]:=hN.slvG (css:=[ndC x _]) hXk7 rfl rfl rfl (Z2X hx) (by simp [maxLen])
           have hT:=Z5.stp hN
           replace hp7:=hp7.up hT;replace e3:=e3.up hT;replace e2:=e2.up hT;replace hrow:=hrow.up hT
           replace hm:=hT.cell (by simp) hm
           replace hS:=hS.trans (hT.mono (by simp))
           have hsz8:=Xj hsz7 hT.size
           have hXk8:∀ c∈ob kv++(b3 :: b2 :: X),c<w8.heap.size:=fun c hc=>Xb (hXk7 c hc) hT.size
           clear hT hN hXk7 hsz7 hx
           have hbase:wB.heap.size≤w8.heap.size:=Xj hwB hsz8
           refine Za rfl trivial (Jw (X:=b3 :: b2 :: X) (base:=wB.heap.size) rfl (by decide) rfl rfl hrow hbv (by simp only [Xc,Xd];omega) (by simp only [Xc,Xd,maxLen];omega) hbase) (fun _ _ h=>h.2.1.mono (fun c hc=>XV _ hc)) rfl ?_
           rintro kv' w9 ⟨hrow',hT,hown⟩
           have hown1:∀ c∈ob kv,w.heap.size≤c:=fun c hc=>by have:=(hrow.ob_le c hc).1;omega
           have hn3':b3∉ob kv':=fun h=>by
            rcases hown _ h with h|h
            exact hn3 h
            have:=hXk8 b3 (by simp);omega
           have hn2':b2∉ob kv:=fun h=>by have:=(hrow.ob_le _ h).1;omega
           have hn1:(2:Nat)∉ob kv:=fun h=>by have:=(hrow.ob_le _ h).1;have:=block_lt_of_cell hm0;simp at this;omega
           have hnX:∀ c∈X,c∉ob kv':=fun c hc h=>by
            have:=(hrow'.ob_le _ h).1
            have:=hX c hc
            omega
           replace e2:=e2.ext hT hn2'
           replace e3:=e3.ext hT hn3
           replace hm:=hT.cell hn1 hm
           replace hS:=hS.own hT (fun c hc=>.inr (hown1 c hc))
           replace hp7:Pd w9 b tv l i3 o3:=by
            obtain ⟨g1,g2,g3,g4,g5⟩:=hp7
            exact ⟨g1.ext hT (fun h=>by have:=hown1 b h;omega),hs0.ext hS (fun c hc=>hc) (fun c hc=>.inl hc),g3,g4,g5⟩
           have hsz9:=Xj hsz8 hT.size
           clear hT hbv hXk8 hrow
           refine JR rfl trivial rfl rfl ?_
           refine Js rfl trivial (Ze (u:=kv') rfl rfl (Z7c hrow') (Zbs hrow') e3 (by simp)) rfl ?_
           rintro _ w10 ⟨hT,e3'⟩
           replace e3':Blk w10 b3 27 (ndC (.mk 10 0 (cur l i).text (ks++[x])) kv'):=e3'
           replace e2:=e2.ext hT (by simpa using n23)
           replace hm:=hT.cell (by simpa using n31.symm) hm
           replace hS:=hS.own hT (fun c hc=>by simp at hc;subst hc;exact .inr hb3w)
           replace hp7:Pd w10 b tv l i3 o3:=by
            obtain ⟨g1,g2,g3,g4,g5⟩:=hp7
            exact ⟨g1.ext hT (by simpa using n3b.symm),hs0.ext hS (fun c hc=>hc) (fun c hc=>.inl hc),g3,g4,g5⟩
           replace hrow':=hrow'.ext (X':=b3 :: b2 :: X) hT (fun c hc=>by simp at hc;subst hc;exact ⟨by simp,hn3'⟩) (fun c hc=>.inl hc)
           have hsz10:=Xj hsz9 hT.size
           refine D ?_
           refine W ?_
           exact Zg (k+1,ks++[x],kv',i3,o3) ⟨rfl,rfl,rfl,rfl,rfl,trivial⟩ ⟨by rw [show Z0W (cur l i).text - (k+1)=n' by omega];exact hM,by omega,by simp;omega,by show o3=o+1;have:=JV l _ _ _ _ _ _ _ hE;omega,hp7,e3',hrow',hn3',⟨_,rfl,e2⟩,hm,hS,hsz10⟩ (by dsimp only;omega)
     exfalso
     omega
     · have hk:k=Z0W (cur l i).text:=by omega
       rw [show Z0W (cur l i).text - k=0 by omega] at hM
       simp only [Z0m,Xh] at hM
       subst hM
       simp only at h
       have ho2:0<o2:=by omega
       repeat'(first|refine W1 ?_|omega|refine VG ?_ ?_<;>intro hg|refine VC ?_ ?_<;>intro hc)
       cases hC:Z0D l [41] i2 o2 with
       | err a c=>
         rw [hC] at h
         simp only [Xh] at h
         subst h
         refine ZM rfl (Zb rfl rfl) (PC.falls (Z13 b tv l hL _ (by decide) i2 o2 ho2 _ hp) hC hS) rfl ?_
         intro wz hwz
         repeat'(first|refine Zk ?_|refine Zi ?_)
         refine ZG ?_
         exact PC.err hwz
       | ok u i3 o3=>
         rw [hC] at h
         simp only [Xh] at h
         subst h
         refine CL rfl (Zb rfl rfl) rfl (PC.goes (Z13 b tv l hL _ (by decide) i2 o2 ho2 _ hp) hC) ?_
         rintro _ w7 ⟨rfl,hp7,hT⟩
         have hbk:∀ c∈[b],c∈b3 :: b2 :: X∧c∉ob kv:=fun c hc=>by
          simp only [Xp] at hc
          subst hc
          exact ⟨by simp [hbX],fun h=>by have:=(hrow.ob_le c h).1;have:=hp.lt;omega⟩
         have hnX:∀ c∈b3 :: b2 :: X,c∉ob kv:=fun c hc h=>by
          have h1:=(hrow.ob_le _ h).1
          rcases Xe.1 hc with rfl|hc
          exact hn3 h
          rcases Xe.1 hc with rfl|hc
          omega
          have:=hX c hc;omega
         replace hrow:=hrow.ext (X':=b3 :: b2 :: X) hT hbk (fun c hc=>.inl hc)
         replace e2:=e2.ext hT (by simpa using n2b)
         replace e3:=e3.ext hT (by simpa using n3b)
         replace hS:=hS.trans hT
         have hsl:=hrow.slvN hnX
         refine W ?_
         refine Z2 (Z3 (us:=ndC (.mk 10 0 (cur l i).text ks) kv) rfl rfl rfl rfl (Zh hsl) e2 rfl) ?_
         rintro _ wz ⟨hT,e2'⟩
         refine W ?_
         refine Zl rfl rfl rfl e2' rfl ?_
         obtain ⟨hpb,hps,hpi,hpl,hpo⟩:=id hp7
         have hSx:=hS.own hT (fun c hc=>by simp at hc;subst hc;exact .inr hb2w)
         refine PC.ok ⟨_,rfl,?_⟩ ⟨hpb.ext hT (by simpa using n2b.symm),hs0.ext hSx (fun c hc=>hc) (fun c hc=>.inl hc),hpi,hpl,hpo⟩ hSx
         exact (hsl.ext (X':=b3 :: b2 :: X) hT (fun c hc=>by simp at hc;simp [hc]) (fun c hc=>.inl hc)).wk (fun c hc=>by simp [hc])
set_option maxHeartbeats 2000000 in
theorem Zgv (f:Nat) (IH:Z7a f) (l:List Tkn) (hL:Z32 l) (m:Int) (i o:Nat) (r:Out Nd)
 (h : (match Z0p l [105, 102] i o with
   | .err a c=>some (.err a c)
   | .ok _ i' o'=>
     match ZJ l f (.expr 1) i' o' with
     | none=>none
     | some (.err a c)=>some (.err a c)
     | some (.ok x i'' o'')=>
       match Z0m (ZJ l f (.expr 1)) (Z63 l) 2 0 [x] i'' o'' with
       | none=>none
       | some (.err a c)=>some (.err a c)
       | some (.ok ks i3 o3)=>
         match Z0D l [101,110,100] i3 o3 with
         | .err a c=>some (.err a c)
         | .ok _ i4 o4=>some (.ok (.mk 9 0 [] ks) i4 o4))=some r) (X:List Nat) (b:Nat) (tv:Value) (w:World) (hb1:b≠2) (hbX:b∈X) (hX:∀ c∈X,c<w.heap.size) (hm:w.cell? ⟨2,0,none⟩=some (.int .i64 m)) (hp:Pd w b tv l i o) :
 Calls Tryz.prog 274 #[.pointer (some ⟨b,0,none⟩)] w (PC b w tv l r (fun x v w'=>NdV X w' v x)):=by
 have hs0:=hp.2.1
 have hm0:=hm
 have hbw:=hp.lt
 refine cW1 32 Tryz.func274 ?_
 refine W ?_
 refine Z1 Z7 rfl ?_
 rintro _ w1 ⟨b2,rfl,hb2,e2,hS⟩
 have n2b:b2≠b:=by have:=hp.lt;omega
 have hb2w:w.heap.size≤b2:=hb2
 replace hm:=hS.cell (by simp) hm
 replace hp:=hp.up hS
 refine W ?_
 cases hO:Z0p l [105,102] i o with
 | err a c=>
   rw [hO] at h
   simp only [Xh] at h
   subst h
   refine ZM rfl (Zb rfl rfl) (PC.falls (Z02 b tv l hL _ (by decide) i o _ hp) hO (hS.mono (by simp))) rfl ?_
   intro wz hwz
   repeat'(first|refine Zk ?_|refine Zi ?_)
   refine ZG ?_
   exact PC.err hwz
 | ok t i1 o1=>
   obtain ⟨hoo,hoi,hopt⟩:=ZL hO
   subst o1;subst i1
   rw [hO] at h
   simp only at h
   refine CL rfl (Zb rfl rfl) rfl (PC.goes (Z02 b tv l hL _ (by decide) i o _ hp) hO) ?_
   rintro _ wA ⟨rfl,hp2,hT⟩
   replace e2:=e2.ext hT (by simpa using n2b)
   replace hm:=Ju hm hb1 hT
   replace hS:=(hS.mono (S':=[b]) (by simp)).trans hT
   clear hT hp
   have l2:=e2.lt
   have hXa:∀ c∈b2 :: X,c<wA.heap.size:=fun c hc=>by
    rcases Xe.1 hc with rfl|hc
    exact l2
    have:=hX c hc;have:=hS.size;omega
   refine W ?_
   cases hE0:ZJ l f (.expr 1) (i+1) (o+1) with
   | none=>rw [hE0] at h;simp at h
   | some r1=>
   rw [hE0] at h
   have hsub:=IH l hL m (.expr 1) (i+1) (o+1) r1 hE0 (b2 :: X) b tv wA hb1 (by simp [hbX]) hXa hm hp2 (by omega) (by omega)
   cases r1 with
   | err a c=>
     simp only [Xh] at h
     subst h
     refine ZM rfl (Zb rfl rfl) (PC.falls hsub rfl hS) rfl ?_
     intro wz hwz
     repeat'(first|refine Zk ?_|refine Zi ?_)
     refine ZG ?_
     exact PC.err hwz
   | ok x0 iA oA=>
     have hoA:=JV l _ _ _ _ _ _ _ hE0
     simp only at h
     refine CL rfl (Zb rfl rfl) rfl (PC.goes hsub rfl) ?_
     rintro _ wB ⟨⟨kx0,rfl,hx0⟩,hp,hT⟩
     replace e2:=e2.ext hT (by simpa using n2b)
     replace hm:=Ju hm hb1 hT
     replace hS:=hS.trans hT
     have hXB:∀ c∈b2 :: X,c<wB.heap.size:=fun c hc=>Xb (hXa c hc) hT.size
     clear hT hp2 hsub hXa l2
     obtain ⟨p0,c0,rfl,-⟩:=id hx0
     refine Z1 (Z0 (vs:=[(0,.agg (ndC x0 (.slice p0 x0.kids.length c0)).toArray)]) rfl (Z0e _ _ _ _ _ _)) rfl ?_
     intro kv0 wD hN
     have hr0:Row (b2 :: X) wD wB.heap.size 27 kv0 [x0]:=hN.rowG (css:=[ndC x0 _]) hXB (Xl _) rfl rfl rfl (Z2X hx0) (by simp [maxLen])
     obtain ⟨bn,rfl,hbn,-,hT⟩:=id hN
     replace hp:=hp.up hT;replace e2:=e2.up hT
     replace hm:=hT.cell (by simp) hm
     replace hS:=hS.trans (hT.mono (by simp))
     have hBD:=hT.size
     clear hT hN hx0
     apply Z6 (vs:=[(0,.int .i64 9),(3,.slice (some ⟨bn,0,none⟩) 1 1)]) rfl (Zgt _ _ _) rfl
     refine Z1 Z7 rfl ?_
     rintro _ w3 ⟨b3,rfl,hb3,e3,hT⟩
     have n23:b2≠b3:=by have:=e2.lt;omega
     have n3b:b3≠b:=by have:=hp.lt;omega
     have n31:b3≠2:=by have:=block_lt_of_cell hm;simp at this;omega
     have n3n:b3≠bn:=by have:=(hr0.ob_le bn (by simp [ob])).2;omega
     have hb3w:w.heap.size≤b3:=Xj hS.size hb3
     refine Z2 (Z3 (us:=ndC (.mk 9 0 [] [x0]) (.slice (some ⟨bn,0,none⟩) 1 1)) rfl rfl rfl rfl (by intro c hc;simp [ndC] at hc;rcases hc with rfl|rfl|rfl|rfl<;>rfl) e3 rfl) ?_
     rintro _ w4 ⟨hT2,e3'⟩
     replace hT:=hT.own hT2 (fun c hc=>.inr (by simp at hc;omega))
     clear hT2 e3
     replace hp:=hp.up hT;replace e2:=e2.up hT
     replace hr0:Row (b3 :: b2 :: X) w4 wB.heap.size 27 (.slice (some ⟨bn,0,none⟩) 1 1) [x0]:=hr0.ext hT (by simp) (fun c hc=>by
      rcases Xe.1 hc with rfl|hc
      exact .inr hb3
      exact .inl hc)
     replace hm:=hT.cell (by simp) hm
     replace hS:=hS.trans (hT.mono (by simp))
     have hB4:=Xj hBD hT.size
     clear hT
     refine W ?_
     refine Z1 (Z0 (vs:=[(0,str [116,104,101,110]),(1,str [101,108,115,101])]) rfl (Zgu _ _)) rfl ?_
     intro wv w5 hN
     obtain ⟨bw,rfl,hbw5,ew,hT⟩:=id hN
     have nwb:bw≠b:=by have:=hp.lt;omega
     have nw3:bw≠b3:=by have:=e3'.lt;omega
     have nwn:bw≠bn:=by have:=(hr0.ob_le bn (by simp [ob])).2;omega
     replace hp:=hp.up hT;replace e2:=e2.up hT;replace e3':=e3'.up hT;replace hr0:=hr0.up hT
     replace hm:=hT.cell (by simp) hm
     replace hS:=hS.trans (hT.mono (by simp))
     have hwB:=Xj hB4 hT.size
     have l2:=hXB b2 (by simp)
     have hXb:∀ c∈b3 :: b2 :: X,c<w5.heap.size:=fun c hc=>by
      rcases Xe.1 hc with rfl|hc
      exact e3'.lt
      exact Xb (hXB c hc) hwB
     clear hT hN hbw5
     have hwv:=Blk.slv2 ew
     have hwv2:(0:Nat)<([[116,104,101,110],[101,108,115,101]]:List Str).length:=by simp
     refine W ?_
     cases hM:Z0m (ZJ l f (.expr 1)) (Z63 l) 2 0 [x0] iA oA with
     | none=>rw [hM] at h;simp at h
     | some r3=>
     rw [hM] at h
     refine Zr (σ:=Nat×List Nd×Value×Nat×Nat) (fun q=>[(0,.pointer (some ⟨b,0,none⟩)),(2,.pointer (some ⟨b2,0,none⟩)),(3,.pointer (some ⟨b3,0,none⟩)),(12,.slice (some ⟨bw,0,none⟩) 2 2),(13,.int .i64 2),(14,.int .i64 (q.1:Int))])
      (fun q w'=>Z0m (ZJ l f (.expr 1)) (Z63 l) (2 - q.1) q.1 q.2.1 q.2.2.2.1 q.2.2.2.2=some r3∧q.1≤2∧q.2.1.length=q.1+1∧q.2.2.2.2=o+1∧Pd w' b tv l q.2.2.2.1 q.2.2.2.2∧Blk w' b3 27 (ndC (.mk 9 0 [] q.2.1) q.2.2.1)∧Row (b3 :: b2 :: X) w' wB.heap.size 27 q.2.2.1 q.2.1∧b3∉ob q.2.2.1∧bw∉ob q.2.2.1∧Blk w' bw 9 [str [116,104,101,110],str [101,108,115,101]]∧(∃ cs:List Value,cs.length=4∧Blk w' b2 27 cs)∧w'.cell? ⟨2,0,none⟩=some (.int .i64 m)∧Stp [b] w w'∧w5.heap.size≤w'.heap.size)
      (fun q=>2 - q.1) (0,[x0],.slice (some ⟨bn,0,none⟩) 1 1,iA,oA) ⟨rfl,rfl,rfl,rfl,rfl,rfl,trivial⟩ ⟨hM,by simp,rfl,hoA,hp,e3',hr0,by simpa [ob] using n3n,by simpa [ob] using nwn,ew,⟨_,rfl,e2⟩,hm,hS,Xl _⟩ ?_
     have hwBw:w.heap.size≤wB.heap.size:=by omega
     clear hM hp e3' e2 hm hS hwv hr0 ew
     rintro ⟨k,ks,kv,i2,o2⟩ w6 ⟨hM,hka,hkl,ho2',hp,e3,hrow,hn3,hnw,ew,⟨cs2,hc2,e2⟩,hm,hS,hsz⟩
     dsimp only at hM hka hkl ho2' hp e3 hrow hn3 hnw hsz ⊢
     match cs2,hc2 with
     | [q0,q1,q2,q3],_=>
     have hwv:=Blk.slv2 ew
     by_cases hlt:k<2
     · obtain ⟨n',hn'⟩:∃ n',2 - k=n'+1:=⟨2 - k - 1,by omega⟩
       rw [hn'] at hM
       simp only [Z0m] at hM
       have hk2:k<([[116,104,101,110],[101,108,115,101]]:List Str).length:=hlt
       have hth:Z63 l k i2 o2=Z1q l (([[116,104,101,110],[101,108,115,101]]:List Str)[k]) i2 o2:=by
        rcases (by omega:k=0∨k=1) with rfl|rfl<;>rfl
       have hne:([[116,104,101,110],[101,108,115,101]]:List Str)[k]≠[]:=by
        rcases (by omega:k=0∨k=1) with rfl|rfl
        show ([116,104,101,110]:Str)≠[];decide
        show ([101,108,115,101]:Str)≠[];decide
       rw [hth] at hM
       repeat'(first|refine W1 ?_|omega|refine VG ?_ ?_<;>intro hg|refine VC ?_ ?_<;>intro hc)
       cases hU:Z1q l (([[116,104,101,110],[101,108,115,101]]:List Str)[k]) i2 o2 with
       | err a c=>
         rw [hU] at hM
         simp only [Xh] at hM
         subst hM
         simp only [Xh] at h
         subst h
         refine ZM rfl (Zb rfl rfl) (PC.falls (Z1y b tv l hL _ hne i2 o2 _ hp) hU hS) rfl ?_
         intro wz hwz
         repeat'(first|refine Zk ?_|refine Zi ?_)
         refine ZG ?_
         exact PC.err hwz
       | ok u iC oC=>
         rw [hU] at hM
         simp only at hM
         have hoC:=Z1G hU
         refine CL rfl (Zb rfl rfl) rfl (PC.goes (Z1y b tv l hL _ hne i2 o2 _ hp) hU) ?_
         rintro _ wC ⟨rfl,hpC,hT⟩
         have hbk:∀ c∈[b],c∈b3 :: b2 :: X∧c∉ob kv:=fun c hc=>by
          simp only [Xp] at hc
          subst hc
          exact ⟨by simp [hbX],fun h=>by have:=(hrow.ob_le c h).1;have:=hp.lt;omega⟩
         replace hrow:=hrow.ext (X':=b3 :: b2 :: X) hT hbk (fun c hc=>.inl hc)
         replace e2:=e2.ext hT (by simpa using n2b)
         replace ew:=ew.ext hT (by simpa using nwb)
         replace e3:=e3.ext hT (by simpa using n3b)
         replace hm:=Ju hm hb1 hT
         replace hS:=hS.trans hT
         replace hsz:=Xj hsz hT.size
         clear hT hp hU hwv hth
         refine W ?_
         have hp:=hpC
         cases hE:ZJ l f (.expr 1) iC oC with
         | none=>rw [hE] at hM;simp at hM
         | some r2=>
           rw [hE] at hM
           obtain ⟨hpb,hps,hpi,hpl,hpo⟩:=id hp
           have hlb:=hpb.lt
           have hlk:=hrow.ob_le
           have hXk:∀ c∈ob kv++(b3 :: b2 :: X),c<wC.heap.size:=fun c hc=>by
            rcases Xs.1 hc with h|h
            exact (hlk c h).2
            exact Xb (hXb c h) hsz
           cases r2 with
           | err a c=>
             simp only [Xh] at hM
             subst hM
             simp only [Xh] at h
             subst h
             refine Z3o 8 (b :: ob kv) [7] [(0,0),(1,1),(2,0),(3,2),(4,2),(5,2),(6,0),(7,2)] rfl mixed (by kernel_rfl) (by kernel_rfl) (by kernel_rfl) (fun w1 hS1=>?_)
             replace hp:=hp.up hS1;replace e3:=e3.up hS1
             replace hm:=hS1.cell (by simp) hm
             replace hS:=hS.trans (hS1.mono (by simp))
             have hsub:=IH l hL m (.expr 1) iC oC _ hE (ob kv++(b3 :: b2 :: X)) b tv w1 hb1 (by simp [hbX]) (fun c hc=>Xb (hXk c hc) hS1.size) hm hp (by omega) (by omega)
             refine Jb rfl trivial (fun _=>Jy rfl) rfl ?_
             refine Z29 rfl trivial (fun w' hw=>Jq rfl rfl (e3.ext hw (by simp only [Xe,not_or];exact ⟨n3b,hn3⟩)) rfl) rfl ?_
             refine Jb rfl trivial (fun _=>ZQ rfl) rfl ?_
             refine Z50 rfl trivial rfl (Zb rfl rfl) (PC.falls hsub rfl hS) rfl ?_
             intro wz hwz
             repeat'(first|refine Zk ?_|refine Zi ?_)
             refine ZG ?_
             exact PC.err hwz
           | ok x i3 o3=>
             simp only at hM
             refine Z45 8 (b :: ob kv) [7] [(0,0),(1,1),(2,0),(3,2),(4,2),(5,2),(6,0),(7,2)] rfl mixed (by kernel_rfl) (by kernel_rfl) (by kernel_rfl) (fun w1 hS1=>?_)
             replace hp:=hp.up hS1;replace e3:=e3.up hS1;replace e2:=e2.up hS1;replace ew:=ew.up hS1;replace hrow:=hrow.up hS1
             replace hm:=hS1.cell (by simp) hm
             replace hS:=hS.trans (hS1.mono (by simp))
             have hsz1:=Xj hsz hS1.size
             have hXk1:∀ c∈ob kv++(b3 :: b2 :: X),c<w1.heap.size:=fun c hc=>Xb (hXk c hc) hS1.size
             have hsub:=IH l hL m (.expr 1) iC oC _ hE (ob kv++(b3 :: b2 :: X)) b tv w1 hb1 (by simp [hbX]) hXk1 hm hp (by omega) (by omega)
             clear hS1 hXk hpb hps hlk
             refine JR rfl trivial rfl rfl ?_
             refine Z09 rfl trivial rfl rfl e3 (by simp only [Xe,not_or];exact ⟨n3b,hn3⟩) rfl rfl ?_
             refine Z7x rfl trivial rfl rfl ?_
             refine Za rfl trivial (Z4 rfl (Zb rfl rfl) (PC.goes hsub rfl)) (fun _ _ h=>h.2.2.mono (by simp)) rfl ?_
             rintro _ w7 ⟨⟨kx,rfl,hx⟩,hp7,hT⟩
             have hbk:∀ c∈[b],c∈b3 :: b2 :: X∧c∉ob kv:=fun c hc=>by
              simp only [Xp] at hc
              subst hc
              exact ⟨by simp [hbX],fun h=>by have:=(hrow.ob_le c h).1;omega⟩
             replace hrow:=hrow.ext (X':=b3 :: b2 :: X) hT hbk (fun c hc=>.inl hc)
             replace e2:=e2.ext hT (by simpa using n2b)
             replace ew:=ew.ext hT (by simpa using nwb)
             replace e3:=e3.ext hT (by simpa using n3b)
             replace hm:=Ju hm hb1 hT
             replace hS:=hS.trans hT
             have hsz7:=Xj hsz1 hT.size
             have hXk7:∀ c∈ob kv++(b3 :: b2 :: X),c<w7.heap.size:=fun c hc=>Xb (hXk1 c hc) hT.size
             clear hT hXk1 hsz1 hsub hp
             obtain ⟨px,cx,rfl,-⟩:=id hx
             refine Za rfl trivial (Z0 (vs:=[(0,.agg (ndC x (.slice px x.kids.length cx)).toArray)]) rfl (Z0e _ _ _ _ _ _)) (fun _ _ h=>(Z5.stp h).mono (by simp)) rfl ?_
             intro bv w8 hN
             have hbv:SlV (ob kv++(b3 :: b2 :: X)) w8 bv [x]:=hN.slvG (css:=[ndC x _]) hXk7 rfl rfl rfl (Z2X hx) (by simp [maxLen])
             have hT:=Z5.stp hN
             replace hp7:=hp7.up hT;replace e3:=e3.up hT;replace e2:=e2.up hT;replace ew:=ew.up hT;replace hrow:=hrow.up hT
             replace hm:=hT.cell (by simp) hm
             replace hS:=hS.trans (hT.mono (by simp))
             have hsz8:=Xj hsz7 hT.size
             have hXk8:∀ c∈ob kv++(b3 :: b2 :: X),c<w8.heap.size:=fun c hc=>Xb (hXk7 c hc) hT.size
             clear hT hN hXk7 hsz7 hx
             have hbase:wB.heap.size≤w8.heap.size:=Xj hwB hsz8
             refine Za rfl trivial (Jw (X:=b3 :: b2 :: X) (base:=wB.heap.size) rfl (by decide) rfl rfl hrow hbv (by simp only [Xc,Xd];omega) (by simp only [Xc,Xd,maxLen];omega) hbase) (fun _ _ h=>h.2.1.mono (fun c hc=>XV _ hc)) rfl ?_
             rintro kv' w9 ⟨hrow',hT,hown⟩
             have hown1:∀ c∈ob kv,w.heap.size≤c:=fun c hc=>by have:=(hrow.ob_le c hc).1;omega
             have hn3':b3∉ob kv':=fun h=>by
              rcases hown _ h with h|h
              exact hn3 h
              have:=hXk8 b3 (by simp);omega
             have hnw':bw∉ob kv':=fun h=>by
              rcases hown _ h with h|h
              exact hnw h
              have:=ew.lt;omega
             have hn2':b2∉ob kv:=fun h=>by have:=(hrow.ob_le _ h).1;omega
             have hn1:(2:Nat)∉ob kv:=fun h=>by have:=(hrow.ob_le _ h).1;have:=block_lt_of_cell hm0;simp at this;omega
             have hnX:∀ c∈X,c∉ob kv':=fun c hc h=>by
              have:=(hrow'.ob_le _ h).1
              have:=hX c hc
              omega
             replace e2:=e2.ext hT hn2'
             replace ew:=ew.ext hT hnw
             replace e3:=e3.ext hT hn3
             replace hm:=hT.cell hn1 hm
             replace hS:=hS.own hT (fun c hc=>.inr (hown1 c hc))
             replace hp7:Pd w9 b tv l i3 o3:=by
              obtain ⟨g1,g2,g3,g4,g5⟩:=hp7
              exact ⟨g1.ext hT (fun h=>by have:=hown1 b h;omega),hs0.ext hS (fun c hc=>hc) (fun c hc=>.inl hc),g3,g4,g5⟩
             have hsz9:=Xj hsz8 hT.size
             clear hT hbv hXk8 hrow
             refine JR rfl trivial rfl rfl ?_
             refine Js rfl trivial (Ze (u:=kv') rfl rfl (Z7c hrow') (Zbs hrow') e3 (by simp)) rfl ?_
             rintro _ w10 ⟨hT,e3'⟩
             replace e3':Blk w10 b3 27 (ndC (.mk 9 0 [] (ks++[x])) kv'):=e3'
             replace e2:=e2.ext hT (by simpa using n23)
             replace ew:=ew.ext hT (by simpa using nw3)
             replace hm:=hT.cell (by simpa using n31.symm) hm
             replace hS:=hS.own hT (fun c hc=>by simp at hc;subst hc;exact .inr hb3w)
             replace hp7:Pd w10 b tv l i3 o3:=by
              obtain ⟨g1,g2,g3,g4,g5⟩:=hp7
              exact ⟨g1.ext hT (by simpa using n3b.symm),hs0.ext hS (fun c hc=>hc) (fun c hc=>.inl hc),g3,g4,g5⟩
             replace hrow':=hrow'.ext (X':=b3 :: b2 :: X) hT (fun c hc=>by simp at hc;subst hc;exact ⟨by simp,hn3'⟩) (fun c hc=>.inl hc)
             have hsz10:=Xj hsz9 hT.size
             refine D ?_
             refine W ?_
             exact Zg (k+1,ks++[x],kv',i3,o3) ⟨rfl,rfl,rfl,rfl,rfl,rfl,trivial⟩ ⟨by rw [show 2 - (k+1)=n' by omega];exact hM,by omega,by simp;omega,by show o3=o+1;have:=JV l _ _ _ _ _ _ _ hE;omega,hp7,e3',hrow',hn3',hnw',ew,⟨_,rfl,e2⟩,hm,hS,hsz10⟩ (by dsimp only;omega)
     · have hk:k=2:=by omega
       subst hk
       simp only [Ya6,Z0m,Xh] at hM
       subst hM
       simp only at h
       have ho2:0<o2:=by omega
       repeat'(first|refine W1 ?_|omega|refine VG ?_ ?_<;>intro hg|refine VC ?_ ?_<;>intro hc)
       cases hC:Z0D l [101,110,100] i2 o2 with
       | err a c=>
         rw [hC] at h
         simp only [Xh] at h
         subst h
         refine ZM rfl (Zb rfl rfl) (PC.falls (Z13 b tv l hL _ (by decide) i2 o2 ho2 _ hp) hC hS) rfl ?_
         intro wz hwz
         repeat'(first|refine Zk ?_|refine Zi ?_)
         refine ZG ?_
         exact PC.err hwz
       | ok u i3 o3=>
         rw [hC] at h
         simp only [Xh] at h
         subst h
         refine CL rfl (Zb rfl rfl) rfl (PC.goes (Z13 b tv l hL _ (by decide) i2 o2 ho2 _ hp) hC) ?_
         rintro _ w7 ⟨rfl,hp7,hT⟩
         have hbk:∀ c∈[b],c∈b3 :: b2 :: X∧c∉ob kv:=fun c hc=>by
          simp only [Xp] at hc
          subst hc
          exact ⟨by simp [hbX],fun h=>by have:=(hrow.ob_le c h).1;have:=hp.lt;omega⟩
         have hnX:∀ c∈b3 :: b2 :: X,c∉ob kv:=fun c hc h=>by
          have h1:=(hrow.ob_le _ h).1
          rcases Xe.1 hc with rfl|hc
          exact hn3 h
          rcases Xe.1 hc with rfl|hc
          omega
          have:=hX c hc;omega
         replace hrow:=hrow.ext (X':=b3 :: b2 :: X) hT hbk (fun c hc=>.inl hc)
         replace e2:=e2.ext hT (by simpa using n2b)
         replace e3:=e3.ext hT (by simpa using n3b)
         replace hS:=hS.trans hT
         have hsl:=hrow.slvN hnX
         refine W ?_
         refine Z2 (Z3 (us:=ndC (.mk 9 0 [] ks) kv) rfl rfl rfl rfl (Zh hsl) e2 rfl) ?_
         rintro _ wz ⟨hT,e2'⟩
         refine W ?_
         refine Zl rfl rfl rfl e2' rfl ?_
         obtain ⟨hpb,hps,hpi,hpl,hpo⟩:=id hp7
         have hSx:=hS.own hT (fun c hc=>by simp at hc;subst hc;exact .inr hb2w)
         refine PC.ok ⟨_,rfl,?_⟩ ⟨hpb.ext hT (by simpa using n2b.symm),hs0.ext hSx (fun c hc=>hc) (fun c hc=>.inl hc),hpi,hpl,hpo⟩ hSx
         exact (hsl.ext (X':=b3 :: b2 :: X) hT (fun c hc=>by simp at hc;simp [hc]) (fun c hc=>.inl hc)).wk (fun c hc=>by simp [hc])
theorem Z89 (k n:Int) (w:World):(Instr.build 27 #[(0,.int .i64 k),(1,.int .i64 n)]).run Tryz.prog w=.ok (.agg #[.int .i64 k,.int .i64 n,str [],.slice none 0 0]) w:=by kernel_rfl
theorem Zgw (k:Int) (w:World):(Instr.build 27 #[(0,.int .i64 k)]).run Tryz.prog w=.ok (.agg #[.int .i64 k,.int .i64 0,str [],.slice none 0 0]) w:=by kernel_rfl
theorem Zgx (k:Int) (s:Str) (w:World):(Instr.build 27 #[(0,.int .i64 k),(2,str s)]).run Tryz.prog w=.ok (.agg #[.int .i64 k,.int .i64 0,str s,.slice none 0 0]) w:=by kernel_rfl
theorem Zax:Z88.length≤1000000:=by decide
theorem Zcr:Zbr.length≤1000000:=by decide
theorem Z6f:([]:Str)∉Z62:=by decide
set_option maxHeartbeats 4000000 in
theorem ZnM (f:Nat) (IH:Z7a f) (l:List Tkn) (hL:Z32 l) (m:Int) (i o:Nat) (r:Out Nd) (h:ZJ l (f+1) .prim i o=some r) (X:List Nat) (b:Nat) (tv:Value) (w:World) (hb1:b≠2) (hbX:b∈X) (hX:∀ c∈X,c<w.heap.size) (hm:w.cell? ⟨2,0,none⟩=some (.int .i64 m)) (hp:Pd w b tv l i o) :
 Calls Tryz.prog 213 #[.pointer (some ⟨b,0,none⟩)] w (PC b w tv l r (fun x v w'=>NdV X w' v x)):=by
 have hs0:=hp.2.1
 have hi:=hp.i_lt
 have hcur:=Z4Y hi
 rw [ZJ] at h
 refine cW1 91 Tryz.func213 ?_
 refine W ?_
 refine Z1 Z7 rfl ?_
 rintro _ w0 ⟨b2,rfl,hb2,e2,hS⟩
 have n2:b2≠b:=by have:=hp.lt;omega
 have hb2w:w.heap.size≤b2:=hb2
 obtain ⟨hpb,hps,hpi,hpl,hpo⟩:=id hp
 replace hpb:=hpb.up hS
 replace hps:=hps.up hS
 replace hm:=hS.cell (by simp) hm
 refine W ?_
 refine ZDr 12 [] [11] [(0,0),(1,0),(2,0),(3,1),(4,0),(5,0),(6,0),(7,1),(8,0),(9,1),(10,2),(11,2)] (fun w1 hS1=>?_)
 replace hpb:=hpb.up hS1
 replace hps:=hps.up hS1
 replace e2:=e2.up hS1
 replace hm:=hS1.cell (by simp) hm
 replace hS:=hS.trans hS1
 clear hS1
 refine D ?_
 refine Za rfl trivial Z7 (fun _ _ ⟨_,_,_,_,h⟩=>h) rfl ?_
 rintro _ w2 ⟨b3,rfl,hb3,e3,hS2⟩
 have n3:b3≠b:=by have:=hpb.lt;omega
 have n32:b3≠b2:=by have:=e2.lt;omega
 have n31:b3≠2:=by have:=block_lt_of_cell hm;simp at this;omega
 have hb3w:w.heap.size≤b3:=Xj hS.size hb3
 refine Js rfl trivial (Z3 (us:=Z9.enc l[i]) rfl rfl rfl rfl (Z9.one _) e3 rfl) rfl ?_
 rintro _ w3 ⟨hT,e3⟩
 have hT0:=hS2.own hT (fun c hc=>.inr (by simp at hc;omega))
 clear hT hS2
 replace hpb:=hpb.up hT0
 replace hps:=hps.up hT0
 replace e2:=e2.up hT0
 replace hm:=hT0.cell (by simp) hm
 replace hS:=hS.trans hT0
 clear hT0 hb3
 refine D ?_
 rw [← hcur] at e3
 clear hp
 have hp:Pd w3 b tv l i o:=⟨hpb,hps,hpi,hpl,hpo⟩
 have fin:∀ (nd:Nd) (i' o':Nat) (w4 w5:World) (kv:Value),nd.kids=[]→kv=.slice none 0 0→Pd w4 b tv l i' o'→Stp [b] w w4→Stp [b2] w4 w5→PC b w tv l (.ok nd i' o') (fun x v w'=>NdV X w' v x) (.returned (.agg (ndC nd kv).toArray)) w5:=by
  intro nd i' o' w4 w5 kv hk hkv hp4 h1 h2
  subst hkv
  obtain ⟨g1,g2,g3,g4,g5⟩:=hp4
  have hSx:=h1.own h2 (fun c hc=>by simp at hc;subst hc;exact .inr hb2w)
  refine PC.ok ⟨_,rfl,?_⟩ ⟨g1.ext h2 (by simpa using n2.symm),hs0.ext hSx (fun c hc=>hc) (fun c hc=>.inl hc),g3,g4,g5⟩ hSx
  rw [hk]
  exact Z2z _ _
 by_cases c1:(cur l i).kind=2
 · rw [if_pos c1] at h
   simp only [Xh] at h
   subst h
   repeat'(first|refine W1 ?_|omega|refine VG ?_ ?_<;>intro hg|refine VC ?_ ?_<;>intro hc)
   all_goals try exact absurd c1 (by assumption)
   obtain ⟨hpb,hps,hpi,hpl,hpo⟩:=id hp
   have hi1:=hL.end_of_kind hp.i_lt (by rw [c1];decide)
   refine W ?_
   refine Z2 (Ze (u:=.int .i64 ((i+1:Nat):Int)) rfl (by show some _=some _;simp) rfl rfl hpb (by simp)) ?_
   rintro _ w4 ⟨hT,hpb9⟩
   replace hps:=hps.ext (X':=[b]) hT (fun c hc=>hc) (fun c hc=>.inl hc)
   replace e2:=e2.ext hT (by simpa using n2)
   replace e3:=e3.ext hT (by simpa using n3)
   replace hS:=(hS.mono (S':=[b]) (by simp)).trans hT
   replace hp:Pd w4 b tv l (i+1) o:=⟨hpb9,hps,hi1,hpl,hpo⟩
   clear hT hpb9 hpb hps
   refine W ?_
   apply Z6 (vs:=[(0,.int .i64 1),(1,.int .i64 (cur l i).num)]) rfl (Z89 _ _) rfl
   refine Z2 (Z3 (us:=ndC (.mk 1 (cur l i).num [] []) (.slice none 0 0)) rfl rfl rfl rfl (Zh (x:=(.mk 1 (cur l i).num [] [])) (Z2z [] w)) e2 rfl) ?_
   rintro _ w5 ⟨hT,e2'⟩
   refine W ?_
   refine Zl rfl rfl rfl e2' rfl ?_
   exact fin _ _ _ _ _ _ rfl rfl hp hS hT
 rw [if_neg c1] at h
 by_cases c2:(cur l i).kind=3
 · rw [if_pos c2] at h
   simp only [Xh] at h
   subst h
   repeat'(first|refine W1 ?_|omega|refine VG ?_ ?_<;>intro hg|refine VC ?_ ?_<;>intro hc)
   all_goals try exact absurd (by assumption) c1
   all_goals try exact absurd c2 (by assumption)
   obtain ⟨hpb,hps,hpi,hpl,hpo⟩:=id hp
   have hi1:=hL.end_of_kind hp.i_lt (by rw [c2];decide)
   refine W ?_
   refine Z2 (Ze (u:=.int .i64 ((i+1:Nat):Int)) rfl (by show some _=some _;simp) rfl rfl hpb (by simp)) ?_
   rintro _ w4 ⟨hT,hpb9⟩
   replace hps:=hps.ext (X':=[b]) hT (fun c hc=>hc) (fun c hc=>.inl hc)
   replace e2:=e2.ext hT (by simpa using n2)
   replace e3:=e3.ext hT (by simpa using n3)
   replace hS:=(hS.mono (S':=[b]) (by simp)).trans hT
   replace hp:Pd w4 b tv l (i+1) o:=⟨hpb9,hps,hi1,hpl,hpo⟩
   clear hT hpb9 hpb hps
   refine W ?_
   apply Z6 (vs:=[(0,.int .i64 3),(1,.int .i64 (cur l i).num)]) rfl (Z89 _ _) rfl
   refine Z2 (Z3 (us:=ndC (.mk 3 (cur l i).num [] []) (.slice none 0 0)) rfl rfl rfl rfl (Zh (x:=(.mk 3 (cur l i).num [] [])) (Z2z [] w)) e2 rfl) ?_
   rintro _ w5 ⟨hT,e2'⟩
   refine W ?_
   refine Zl rfl rfl rfl e2' rfl ?_
   exact fin _ _ _ _ _ _ rfl rfl hp hS hT
 rw [if_neg c2] at h
 repeat'(first|refine W1 ?_|omega|refine VG ?_ ?_<;>intro hg|refine VC ?_ ?_<;>intro hc)
 all_goals try exact absurd (by assumption) c1
 all_goals try exact absurd (by assumption) c2
 refine CL rfl (Zb rfl rfl) rfl (Z6e b tv l [116,114,117,101] i o _ hp (fun h=>hL.end_of hp.i_lt (by rw [h];decide))) ?_
 rintro _ w4 ⟨rfl,hp4,hT⟩
 replace e2:=e2.ext hT (by simpa using n2)
 replace e3:=e3.ext hT (by simpa using n3)
 replace hm:=Ju hm hb1 hT
 replace hS:=(hS.mono (S':=[b]) (by simp)).trans hT
 clear hT hp
 by_cases c3:(cur l i).text=[116,114,117,101]
 rw [if_pos c3] at h
 simp only [Xh] at h
 subst h
 rw [if_pos c3] at hp4
 rw [decide_eq_true c3]
 have hp:=hp4
 refine W ?_
 apply Z6 (vs:=[(0,.int .i64 2),(1,.int .i64 1)]) rfl (Z89 _ _) rfl
 refine Z2 (Z3 (us:=ndC (.mk 2 1 [] []) (.slice none 0 0)) rfl rfl rfl rfl (Zh (x:=(.mk 2 1 [] [])) (Z2z [] w)) e2 rfl) ?_
 rintro _ w5 ⟨hT,e2'⟩
 refine W ?_
 refine Zl rfl rfl rfl e2' rfl ?_
 exact fin _ _ _ _ _ _ rfl rfl hp hS hT
 rw [if_neg c3] at h hp4
 rw [decide_eq_false c3]
 refine W ?_
 refine CL rfl (Zb rfl rfl) rfl (Z6e b tv l [102,97,108,115,101] i o _ hp4 (fun h=>hL.end_of hp4.i_lt (by rw [h];decide))) ?_
 rintro _ w5 ⟨rfl,hp5,hT⟩
 replace e2:=e2.ext hT (by simpa using n2)
 replace e3:=e3.ext hT (by simpa using n3)
 replace hm:=Ju hm hb1 hT
 replace hS:=hS.trans hT
 clear hT hp4
 by_cases c4:(cur l i).text=[102,97,108,115,101]
 rw [if_pos c4] at h
 simp only [Xh] at h
 subst h
 rw [if_pos c4] at hp5
 rw [decide_eq_true c4]
 have hp:=hp5
 refine W ?_
 apply Z6 (vs:=[(0,.int .i64 2)]) rfl (Zgw _) rfl
 refine Z2 (Z3 (us:=ndC (.mk 2 0 [] []) (.slice none 0 0)) rfl rfl rfl rfl (Zh (x:=(.mk 2 0 [] [])) (Z2z [] w)) e2 rfl) ?_
 rintro _ w6 ⟨hT,e2'⟩
 refine W ?_
 refine Zl rfl rfl rfl e2' rfl ?_
 exact fin _ _ _ _ _ _ rfl rfl hp hS hT
 rw [if_neg c4] at h hp5
 rw [decide_eq_false c4]
 have hp:=hp5
 clear hp5
 by_cases c5:(cur l i).text=[40]
 · rw [if_pos c5] at h
   repeat'(first|refine W1 ?_|omega|refine VG ?_ ?_<;>intro hg|refine VC ?_ ?_<;>intro hc)
   all_goals try exact absurd c5 (by assumption)
   cases hO:Z0p l [40] i o with
   | err a c=>
     rw [hO] at h
     simp only [Xh] at h
     subst h
     refine ZM rfl (Zb rfl rfl) (PC.falls (Z02 b tv l hL _ (by decide) i o _ hp) hO hS) rfl ?_
     intro wz hwz
     repeat'(first|refine Zk ?_|refine Zi ?_)
     refine ZG ?_
     exact PC.err hwz
   | ok t i1 o1=>
     obtain ⟨hoo,hoi,hopt⟩:=ZL hO
     subst o1;subst i1
     rw [hO] at h
     simp only at h
     refine CL rfl (Zb rfl rfl) rfl (PC.goes (Z02 b tv l hL _ (by decide) i o _ hp) hO) ?_
     rintro _ wA ⟨rfl,hp2,hT⟩
     replace e2:=e2.ext hT (by simpa using n2)
     replace hm:=Ju hm hb1 hT
     replace hS:=hS.trans hT
     clear hT hp e3
     have l2:=e2.lt
     have hXa:∀ c∈b2 :: X,c<wA.heap.size:=fun c hc=>by
      rcases Xe.1 hc with rfl|hc
      exact l2
      have:=hX c hc;have:=hS.size;omega
     refine W ?_
     cases hE0:ZJ l f (.expr 1) (i+1) (o+1) with
     | none=>rw [hE0] at h;simp at h
     | some r1=>
     rw [hE0] at h
     have hsub:=IH l hL m (.expr 1) (i+1) (o+1) r1 hE0 (b2 :: X) b tv wA hb1 (by simp [hbX]) hXa hm hp2 (by omega) (by omega)
     cases r1 with
     | err a c=>
       simp only [Xh] at h
       subst h
       refine ZM rfl (Zb rfl rfl) (PC.falls hsub rfl hS) rfl ?_
       intro wz hwz
       repeat'(first|refine Zk ?_|refine Zi ?_)
       refine ZG ?_
       exact PC.err hwz
     | ok x iA oA=>
       have hoA:=JV l _ _ _ _ _ _ _ hE0
       simp only at h
       refine CL rfl (Zb rfl rfl) rfl (PC.goes hsub rfl) ?_
       rintro _ wB ⟨⟨kx,rfl,hx⟩,hp,hT⟩
       replace e2:=e2.ext hT (by simpa using n2)
       replace hm:=Ju hm hb1 hT
       replace hS:=hS.trans hT
       clear hT hp2 hsub
       refine Z1 Z7 rfl ?_
       rintro _ wC ⟨b4,rfl,hb4,e4,hT⟩
       have n42:b4≠b2:=by have:=e2.lt;omega
       have n4:b4≠b:=by have:=hp.lt;omega
       refine Z2 (Z3 (us:=ndC x kx) rfl rfl rfl rfl (Zh hx) e4 rfl) ?_
       rintro _ wD ⟨hT2,e4'⟩
       replace hT:=hT.own hT2 (fun c hc=>.inr (by simp at hc;omega))
       clear hT2 e4
       replace hp:=hp.up hT;replace e2:=e2.up hT;replace hx:=hx.up hT
       replace hS:=hS.trans (hT.mono (by simp))
       clear hT
       refine W ?_
       cases hC:Z0D l [41] iA oA with
       | err a c=>
         rw [hC] at h
         simp only [Xh] at h
         subst h
         refine ZM rfl (Zb rfl rfl) (PC.falls (Z13 b tv l hL _ (by decide) iA oA (by omega) _ hp) hC hS) rfl ?_
         intro wz hwz
         repeat'(first|refine Zk ?_|refine Zi ?_)
         refine ZG ?_
         exact PC.err hwz
       | ok u i3 o3=>
         rw [hC] at h
         simp only [Xh] at h
         subst h
         refine CL rfl (Zb rfl rfl) rfl (PC.goes (Z13 b tv l hL _ (by decide) iA oA (by omega) _ hp) hC) ?_
         rintro _ wE ⟨rfl,hp7,hT⟩
         replace e2:=e2.ext hT (by simpa using n2)
         replace e4':=e4'.ext hT (by simpa using n4)
         replace hx:=hx.ext (X':=b2 :: X) hT (fun c hc=>by simp at hc;subst hc;simp [hbX]) (fun c hc=>.inl hc)
         replace hS:=hS.trans hT
         clear hT hp
         refine W ?_
         refine Z2 (Z3 (us:=ndC x kx) rfl rfl rfl rfl (Zh hx) e2 rfl) ?_
         rintro _ wz ⟨hT,e2'⟩
         refine W ?_
         refine Zl rfl rfl rfl e2' rfl ?_
         obtain ⟨g1,g2,g3,g4,g5⟩:=hp7
         have hSx:=hS.own hT (fun c hc=>by simp at hc;subst hc;exact .inr hb2w)
         refine PC.ok ⟨_,rfl,?_⟩ ⟨g1.ext hT (by simpa using n2.symm),hs0.ext hSx (fun c hc=>hc) (fun c hc=>.inl hc),g3,g4,g5⟩ hSx
         exact (hx.ext (X':=b2 :: X) hT (fun c hc=>by simp at hc;simp [hc]) (fun c hc=>.inl hc)).wk (fun c hc=>by simp [hc])
 rw [if_neg c5] at h
 by_cases c6:(cur l i).text=[105,102]
 · rw [if_pos c6] at h
   repeat'(first|refine W1 ?_|omega|refine VG ?_ ?_<;>intro hg|refine VC ?_ ?_<;>intro hc)
   all_goals try exact absurd (by assumption) c5
   all_goals try exact absurd c6 (by assumption)
   have l2:=e2.lt
   have hXa:∀ c∈b2 :: X,c<w5.heap.size:=fun c hc=>by
    rcases Xe.1 hc with rfl|hc
    exact l2
    have:=hX c hc;have:=hS.size;omega
   have hsub:=Zgv f IH l hL m i o r h (b2 :: X) b tv _ hb1 (by simp [hbX]) hXa hm hp
   cases r with
   | err a c=>
     refine ZM rfl (Zm rfl) (PC.falls hsub rfl hS) rfl ?_
     intro wz hwz
     repeat'(first|refine Zk ?_|refine Zi ?_)
     refine ZG ?_
     exact PC.err hwz
   | ok x i3 o3=>
     refine CL rfl (Zm rfl) rfl (PC.goes hsub rfl) ?_
     rintro _ wE ⟨⟨kx,rfl,hx⟩,hp7,hT⟩
     replace e2:=e2.ext hT (by simpa using n2)
     replace hS:=hS.trans hT
     clear hT hp
     refine Z2 (Z3 (us:=ndC x kx) rfl rfl rfl rfl (Zh hx) e2 rfl) ?_
     rintro _ wz ⟨hT,e2'⟩
     refine W ?_
     refine Zl rfl rfl rfl e2' rfl ?_
     obtain ⟨g1,g2,g3,g4,g5⟩:=hp7
     have hSx:=hS.own hT (fun c hc=>by simp at hc;subst hc;exact .inr hb2w)
     refine PC.ok ⟨_,rfl,?_⟩ ⟨g1.ext hT (by simpa using n2.symm),hs0.ext hSx (fun c hc=>hc) (fun c hc=>.inl hc),g3,g4,g5⟩ hSx
     exact (hx.ext (X':=b2 :: X) hT (fun c hc=>by simp at hc;simp [hc]) (fun c hc=>.inl hc)).wk (fun c hc=>by simp [hc])
 rw [if_neg c6] at h
 repeat'(first|refine W1 ?_|omega|refine VG ?_ ?_<;>intro hg|refine VC ?_ ?_<;>intro hc)
 all_goals try exact absurd (by assumption) c5
 all_goals try exact absurd (by assumption) c6
 refine CL rfl (Zb rfl rfl) rfl (Z3V Zbr Z73 Zcq (cur l i).text m _ hm Zcr (hL.tl i) (fun h=>Zey h (hL.sp i))) ?_
 rintro _ w6 ⟨rfl,hT⟩
 replace hp:=hp.up hT;replace e2:=e2.up hT;replace e3:=e3.up hT
 replace hm:=hT.cell (by simp) hm
 replace hS:=hS.trans (hT.mono (by simp))
 clear hT
 by_cases c7:(cur l i).text∈Z73
 · rw [if_pos c7] at h
   rw [decide_eq_true c7]
   refine W ?_
   have l2:=e2.lt
   have hXa:∀ c∈b2 :: X,c<w6.heap.size:=fun c hc=>by
    rcases Xe.1 hc with rfl|hc
    exact l2
    have:=hX c hc;have:=hS.size;omega
   have hsub:=ZnL f IH l hL m i o r c7 h (b2 :: X) b tv _ hb1 (by simp [hbX]) hXa hm hp
   cases r with
   | err a c=>
     refine ZM rfl (Zm rfl) (PC.falls hsub rfl hS) rfl ?_
     intro wz hwz
     repeat'(first|refine Zk ?_|refine Zi ?_)
     refine ZG ?_
     exact PC.err hwz
   | ok x i3 o3=>
     refine CL rfl (Zm rfl) rfl (PC.goes hsub rfl) ?_
     rintro _ wE ⟨⟨kx,rfl,hx⟩,hp7,hT⟩
     replace e2:=e2.ext hT (by simpa using n2)
     replace hS:=hS.trans hT
     clear hT hp
     refine Z2 (Z3 (us:=ndC x kx) rfl rfl rfl rfl (Zh hx) e2 rfl) ?_
     rintro _ wz ⟨hT,e2'⟩
     refine W ?_
     refine Zl rfl rfl rfl e2' rfl ?_
     obtain ⟨g1,g2,g3,g4,g5⟩:=hp7
     have hSx:=hS.own hT (fun c hc=>by simp at hc;subst hc;exact .inr hb2w)
     refine PC.ok ⟨_,rfl,?_⟩ ⟨g1.ext hT (by simpa using n2.symm),hs0.ext hSx (fun c hc=>hc) (fun c hc=>.inl hc),g3,g4,g5⟩ hSx
     exact (hx.ext (X':=b2 :: X) hT (fun c hc=>by simp at hc;simp [hc]) (fun c hc=>.inl hc)).wk (fun c hc=>by simp [hc])
 rw [if_neg c7] at h
 rw [decide_eq_false c7]
 refine W ?_
 refine CL rfl (Zb rfl rfl) rfl (Z3V Z88 Z62 Z6f (cur l i).text m _ hm Zax (hL.tl i) (fun h=>Zco h (hL.sp i))) ?_
 rintro _ w7 ⟨rfl,hT⟩
 replace hp:=hp.up hT;replace e2:=e2.up hT;replace e3:=e3.up hT
 replace hm:=hT.cell (by simp) hm
 replace hS:=hS.trans (hT.mono (by simp))
 clear hT
 by_cases c8:(cur l i).text∈Z62
 rw [if_pos c8] at h
 simp only [Xh] at h
 subst h
 rw [decide_eq_true c8]
 obtain ⟨hpb,hps,hpi,hpl,hpo⟩:=id hp
 have hi1:=hL.end_of hp.i_lt (fun e=>Z6f (e ▸ c8))
 refine W ?_
 refine Z2 (Ze (u:=.int .i64 ((i+1:Nat):Int)) rfl (by show some _=some _;simp) rfl rfl hpb (by simp)) ?_
 rintro _ w8 ⟨hT,hpb9⟩
 replace hps:=hps.ext (X':=[b]) hT (fun c hc=>hc) (fun c hc=>.inl hc)
 replace e2:=e2.ext hT (by simpa using n2)
 replace e3:=e3.ext hT (by simpa using n3)
 replace hS:=hS.trans hT
 replace hp:Pd w8 b tv l (i+1) o:=⟨hpb9,hps,hi1,hpl,hpo⟩
 clear hT hpb9 hpb hps
 refine W ?_
 apply Z6 (vs:=[(0,.int .i64 4),(2,str (cur l i).text)]) rfl (Zgx _ _) rfl
 refine Z2 (Z3 (us:=ndC (.mk 4 0 (cur l i).text []) (.slice none 0 0)) rfl rfl rfl rfl (Zh (x:=(.mk 4 0 (cur l i).text [])) (Z2z [] w)) e2 rfl) ?_
 rintro _ w9 ⟨hT,e2'⟩
 refine W ?_
 refine Zl rfl rfl rfl e2' rfl ?_
 exact fin _ _ _ _ _ _ rfl rfl hp hS hT
 rw [if_neg c8] at h
 simp only [Xh] at h
 subst h
 rw [decide_eq_false c8]
 refine W ?_
 refine ZM rfl (Zb rfl rfl) (Z9o b tv l i o 20 _ w hp hS) rfl ?_
 intro wz hwz
 repeat'(first|refine Zk ?_|refine Zi ?_)
 refine ZG ?_
 exact PC.fail hwz
theorem ZnN {l:List Tkn} {m:Int} {i o:Nat} {r:Out Nd} (IH:∀ (X:List Nat) (b:Nat) (tv:Value) (w:World),b≠2→b∈X→(∀ c∈X,c<w.heap.size)→w.cell? ⟨2,0,none⟩=some (.int .i64 m)→Pd w b tv l i o→
 Calls Tryz.prog 213 #[.pointer (some ⟨b,0,none⟩)] w (PC b w tv l r (fun x v w'=>NdV X w' v x))) (X:List Nat) (b:Nat) (tv:Value) (w:World) (hb1:b≠2) (hbX:b∈X) (hX:∀ c∈X,c<w.heap.size) (hm:w.cell? ⟨2,0,none⟩=some (.int .i64 m)) (hp:Pd w b tv l i o) :
 Calls Tryz.prog 120 #[.pointer (some ⟨b,0,none⟩),.int .i64 ((8:Nat):Int)] w (PC b w tv l r (fun x v w'=>NdV X w' v x)):=by
 have hs0:=hp.2.1
 refine cW2 98 Tryz.func120 ?_
 refine W ?_
 refine Z1 Z7 rfl ?_
 rintro _ w1 ⟨b4,rfl,hb4,e4,hS⟩
 have n4:b4≠b:=by have:=hp.lt;omega
 have hb4w:w.heap.size≤b4:=hb4
 replace hm:=hS.cell (by simp) hm
 replace hp:=hp.up hS
 have l4:=e4.lt
 have hX1:∀ c∈b4 :: X,c<w1.heap.size:=fun c hc=>by
  rcases Xe.1 hc with rfl|hc
  exact l4
  have:=hX c hc;have:=hS.size;omega
 repeat'(first|refine W1 ?_|omega|refine VG ?_ ?_<;>intro hg|refine VC ?_ ?_<;>intro hc)
 have hsub:=IH (b4 :: X) b tv _ hb1 (by simp [hbX]) hX1 hm hp
 cases r with
 | err a c=>
   refine ZM rfl (Zm rfl) (PC.falls hsub rfl (hS.mono (by simp))) rfl ?_
   intro wz hwz
   repeat'(first|refine Zk ?_|refine Zi ?_)
   refine ZG ?_
   exact PC.err hwz
 | ok x i3 o3=>
   refine CL rfl (Zm rfl) rfl (PC.goes hsub rfl) ?_
   rintro _ wE ⟨⟨kx,rfl,hx⟩,hp7,hT⟩
   replace e4:=e4.ext hT (by simpa using n4)
   replace hS:=(hS.mono (S':=[b]) (by simp)).trans hT
   clear hT hp
   refine Z2 (Z3 (us:=ndC x kx) rfl rfl rfl rfl (Zh hx) e4 rfl) ?_
   rintro _ wz ⟨hT,e4'⟩
   refine W ?_
   refine Zl rfl rfl rfl e4' rfl ?_
   obtain ⟨g1,g2,g3,g4,g5⟩:=hp7
   have hSx:=hS.own hT (fun c hc=>by simp at hc;subst hc;exact .inr hb4w)
   refine PC.ok ⟨_,rfl,?_⟩ ⟨g1.ext hT (by simpa using n4.symm),hs0.ext hSx (fun c hc=>hc) (fun c hc=>.inl hc),g3,g4,g5⟩ hSx
   exact (hx.ext (X':=b4 :: X) hT (fun c hc=>by simp at hc;simp [hc]) (fun c hc=>.inl hc)).wk (fun c hc=>by simp [hc])
theorem Zcs:∀ f,Z7a f:=by
 intro f
 induction f using Nat.strongRecOn with
 | _ f ih=>
   intro l hL m c i o r h X b tv w hb1 hbX hX hm hp
   cases f with
   | zero=>simp [ZJ] at h
   | succ f=>
     have IH:=ih f (Yas f)
     cases c with
     | loop k x=>trivial
     | prim=>exact ZnM f IH l hL m i o r h X b tv w hb1 hbX hX hm hp
     | expr k=>
       intro hk1 hk8
       rw [ZJ] at h
       split at h
       rename_i hsp
       exact ZnJ f IH l hL m k i o r hk8 hsp h X b tv w hb1 hbX hX hm hp
       rename_i hsp
       split at h
       rename_i h8
       subst h8
       exact ZnN (IH l hL m .prim i o r h) X b tv w hb1 hbX hX hm hp
       exact ZnK f (fun f' hf'=>ih f' (by omega)) l hL m k i o r hk1 (by omega) hsp h X b tv w hb1 hbX hX hm hp
end Go.Proofs.YtjdjdoefppebkaaGreatDoor
namespace Go.Eng
open Go Go.RowKit Go.Proofs
section
variable {P:Program} {n:Nat} {Q:Exit→Act→World→Prop} {e:Env} {w:World} {ops:Array Oper} {rest:List Oper} {ty:TypeId} {pos:String} {af:Array Edge}
end
end Go.Eng
namespace Go.Proofs.YtjdjdoefppebkaaGreatDoor
open Go Go.Eng Go.RowKit Go.Proofs
theorem Zct (X:List Nat) (b:Nat) (tv:Value) (l:List Tkn) (hL:Z32 l) (m:Int) (i o:Nat) (w:World) (hb1:b≠2) (hbX:b∈X) (hX:∀ c∈X,c<w.heap.size) (hm:w.cell? ⟨2,0,none⟩=some (.int .i64 m)) (hp:Pd w b tv l i o) :
 Calls Tryz.prog 64 #[.pointer (some ⟨b,0,none⟩)] w (PC b w tv l (Z4Q l i o) (fun x v w'=>NdV X w' v x)):=by
 have hs0:=hp.2.1
 have hE:=Zci l i o
 generalize Z4Q l i o=r at *
 refine cW1 5 Tryz.func64 ?_
 refine W ?_
 refine Z1 Z7 rfl ?_
 rintro _ w1 ⟨b2,rfl,hb2,e2,hS⟩
 have n2:b2≠b:=by have:=hp.lt;omega
 have hb2w:w.heap.size≤b2:=hb2
 replace hm:=hS.cell (by simp) hm
 replace hp:=hp.up hS
 have l2:=e2.lt
 have hX1:∀ c∈b2 :: X,c<w1.heap.size:=fun c hc=>by
  rcases Xe.1 hc with rfl|hc
  exact l2
  have:=hX c hc;have:=hS.size;omega
 refine W ?_
 have hsub:=Zcs _ l hL m (.expr 1) i o r hE (b2 :: X) b tv _ hb1 (by simp [hbX]) hX1 hm hp (by omega) (by omega)
 cases r with
 | err a c=>
   refine ZM rfl (Zb rfl rfl) (PC.falls hsub rfl (hS.mono (by simp))) rfl ?_
   intro wz hwz
   repeat'(first|refine Zk ?_|refine Zi ?_)
   refine ZG ?_
   exact PC.err hwz
 | ok x i3 o3=>
   refine CL rfl (Zb rfl rfl) rfl (PC.goes hsub rfl) ?_
   rintro _ wE ⟨⟨kx,rfl,hx⟩,hp7,hT⟩
   replace e2:=e2.ext hT (by simpa using n2)
   replace hS:=(hS.mono (S':=[b]) (by simp)).trans hT
   clear hT hp
   refine Z2 (Z3 (us:=ndC x kx) rfl rfl rfl rfl (Zh hx) e2 rfl) ?_
   rintro _ wz ⟨hT,e2'⟩
   refine W ?_
   refine Zl rfl rfl rfl e2' rfl ?_
   obtain ⟨g1,g2,g3,g4,g5⟩:=hp7
   have hSx:=hS.own hT (fun c hc=>by simp at hc;subst hc;exact .inr hb2w)
   refine PC.ok ⟨_,rfl,?_⟩ ⟨g1.ext hT (by simpa using n2.symm),hs0.ext hSx (fun c hc=>hc) (fun c hc=>.inl hc),g3,g4,g5⟩ hSx
   exact (hx.ext (X':=b2 :: X) hT (fun c hc=>by simp at hc;simp [hc]) (fun c hc=>.inl hc)).wk (fun c hc=>by simp [hc])
end Go.Proofs.YtjdjdoefppebkaaGreatDoor
namespace Go.Eng
open Go Go.RowKit Go.Proofs
def Z2f (ds:List Deferred) (a:Act):Act:={ a with defers:=a.defers++ds }
def Z8a (ds:List Deferred) (Q:Exit→Act→World→Prop):Exit→Act→World→Prop:=fun x a w=>Q x (Z2f ds a) w
theorem Z1J (ds:List Deferred) (a:Act) (d:Option Nat) (v:Value):Z2f ds (a.put d v)=(Z2f ds a).put d v:=by cases d<;>rfl
theorem Z51 (ds:List Deferred) (a:Act):(Z2f ds a).eval=a.eval:=by funext x;cases x<;>rfl
theorem Z36 {ds:List Deferred} {Q:Exit→Act→World→Prop} (h:LetsOut (Z8a ds Q)):LetsOut Q:=let ⟨a,w,h⟩:=h;⟨_,w,h⟩
theorem Z9s {P:Program} {ds:List Deferred} {Q:Exit→Act→World→Prop} {o:Oper} {a:Act} {w:World} {K K':Act→World→Prop} (hK:∀ a w,K' a w→K (Z2f ds a) w) (h:o.wp P a w K' (Z8a ds Q)):o.wp P (Z2f ds a) w K Q:=by
 unfold Oper.wp at *
 rw [Z51]
 generalize (execOp a.eval o).run P w=r at *
 cases r with
 | ok x w'=>
   cases x<;>simp only [Oper.upon] at h ⊢
   case value v=>have:=hK _ _ h;rw [Z1J] at this;exact this
   case skip=>have:=hK _ _ h;rw [Z1J] at this;exact this
   case defer d=>have:=hK _ _ h;rw [Z1J] at this;exact this
   case enter f args=>
    refine Calls.mono h fun e w'' he=>?_
    cases e with
    | returned v=>have:=hK _ _ he;rw [Z1J] at this;exact this
    | panicked c=>exact he
    | outgrown=>exact Z36 he
   case row row args=>exact Rows.mono h fun v w'' he=>by have:=hK _ _ he;rw [Z1J] at this;exact this
 | halt x w'=>cases x<;>simp only [Oper.upon] at h ⊢;exact h
theorem Z9t {P:Program} {ds:List Deferred} {o:Oper} {a:Act} {w:World} (h:o.asks P a w):o.asks P (Z2f ds a) w:=by
 unfold Oper.asks at *
 rw [Z51]
 exact h
theorem Z3W {P:Program} {ds:List Deferred} {Q:Exit→Act→World→Prop} {ops:Array Oper}:∀ (l:List Oper) (a:Act) (w:World),wpList P ops (Z8a ds Q) l a w→wpList P ops Q l (Z2f ds a) w
 | [],a,w,h=>h
 | o :: rest, a, w, h => by
   unfold wpList at *
   split at h
   rename_i hw
   rw [if_pos (show Region.wanted o (yielded ops (Z2f ds a).tmps)=true from hw)]
   rcases h with h|⟨h1,h2⟩
   exact .inl (Z9s (fun a w h=>Z3W rest a w h) h)
   exact .inr ⟨Z9t h1,Z36 h2⟩
   rename_i hw
   rw [if_neg (show ¬ Region.wanted o (yielded ops (Z2f ds a).tmps)=true from hw)]
   rw [← Z1J]
   exact Z3W rest _ w h
theorem ZeB {P:Program} {ds:List Deferred} {Q:Exit→Act→World→Prop} {ops:Array Oper} {i:Nat} {a:Act} {w:World} {K K':Act→World→Prop} (hK:∀ a w,K' a w→K (Z2f ds a) w) (h:wpOp P ops (Z8a ds Q) i K' a w):wpOp P ops Q i K (Z2f ds a) w:=by
 unfold wpOp at *
 cases ho:ops[i]? with
 | none=>simp only [ho] at h ⊢;exact hK _ _ h
 | some o=>
   simp only [ho] at h ⊢
   split at h
   rename_i hw
   rw [if_pos (show Region.wanted o (yielded ops (Z2f ds a).tmps)=true from hw)]
   rcases h with h|⟨h1,h2⟩
   exact .inl (Z9s hK h)
   exact .inr ⟨Z9t h1,Z36 h2⟩
   rename_i hw
   rw [if_neg (show ¬ Region.wanted o (yielded ops (Z2f ds a).tmps)=true from hw)]
   rw [← Z1J]
   exact hK _ _ h
theorem Z7d {P:Program} {ds:List Deferred} {Q:Exit→Act→World→Prop} {ops:Array Oper} {md:Region.Mode}:∀ (fuel:Nat) (listed:Array Bool) (a:Act) (w:World),wpAny P md ops (Z8a ds Q) fuel listed a w→wpAny P md ops Q fuel listed (Z2f ds a) w
 | 0,_,_,_,h=>h
 | fuel+1,_,_,_,h=>⟨h.1,fun i hi=>ZeB (fun a w h=>Z7d fuel _ a w h) (h.2 i hi)⟩
structure WQD (ds:List Deferred) (n:Nat) (Q:Exit→Act→World→Prop) (x:Exit) (e:Env) (w:World):Prop where
 h:∀ a,Has n e a→Q x (Z2f ds a) w
structure WCD (ds:List Deferred) (P:Program) (n:Nat) (c:Code) (Q:Exit→Act→World→Prop) (e:Env) (w:World):Prop where
 h:∀ a,Has n e a→c.wp P Q (Z2f ds a) w
section rules
variable {P:Program} {n:Nat} {ds:List Deferred} {Q:Exit→Act→World→Prop} {e:Env} {w:World}
theorem Z52 {x:Exit} (h:WQD ds n Q x e w):WQ n (Z8a ds Q) x e w:=⟨fun a ha=>h.h a ha⟩
theorem Z4p {x y:Code} (h:WCD ds P n x (Exit.then (fun a w=>y.wp P Q a w) Q) e w):WCD ds P n (x.seq y) Q e w:=⟨fun a ha=>wp_seq (h.h a ha)⟩
theorem Z37 {y:Code} (h:WCD ds P n y Q e w):WQD ds n (Exit.then (fun a w=>y.wp P Q a w) Q) .normal e w:=⟨fun a ha=>h.h a ha⟩
theorem Z38 {N:Act→World→Prop} {ch:List PanicEntry} (h:WQD ds n Q (.panic ch) e w):WQD ds n (Exit.then N Q) (.panic ch) e w:=⟨fun a ha=>h.h a ha⟩
theorem ZeC (h:WQD ds n Q .normal e w):WCD ds P n .skip Q e w:=⟨fun a ha=>wp_skip (h.h a ha)⟩
theorem Zgy (h:WQD ds n Q .ret e w):WCD ds P n .ret Q e w:=⟨fun a ha=>wp_ret (h.h a ha)⟩
theorem HasD.ev {a:Act} (ha:Has n e a) {x:Operand} {v:Value} (hx:ev e x=some v):(Z2f ds a).eval x=v:=by rw [Z51];exact ha.ev hx
theorem Z6K {c:Operand} {x y:Code} (hc:ev e c=some (.bool true)) (h:WCD ds P n x Q e w):WCD ds P n (.cond c x y) Q e w:=⟨fun a ha=>wp_cond_true (HasD.ev ha hc) (h.h a ha)⟩
theorem Z6g {c:Operand} {x y:Code} (hc:ev e c=some (.bool false)) (h:WCD ds P n y Q e w):WCD ds P n (.cond c x y) Q e w:=⟨fun a ha=>wp_cond_false (HasD.ev ha hc) (h.h a ha)⟩
theorem Z2A {id:Nat} {l:List Oper} (h:WL P n l.toArray (Z8a ds Q) l e w):WCD ds P n (.region id l.toArray false) Q e w:=⟨fun a ha=>wp_region_lit (Z3W _ _ _ (h.h a ha))⟩
theorem Zcu {id:Nat} {l:List Oper} (m:Nat) (S:List Nat) (Lt:List Nat) (ord:List (Nat×Nat)) (hlm:l.length=m) (hm:P.follows .mixedOrders=true) (hs:Region.noSelect l.toArray=true) (hl:Nat.beq (wt ord) l.length=true)
 (hB:JQ l.toArray Lt ord (Array.replicate m false)=true)
 (h:∀ w',Stp [] w w'→WD P n l.toArray S Lt (Z8a ds Q) ord e w'):WCD ds P n (.region id l.toArray true) Q e w:=by
 subst hlm
 refine ⟨fun a ha=>wp_region_any hm (Z7d _ _ _ _ ?_)⟩
 have h1:=(h { w with drawn:=w.drawn+1 } (Stp.drew [] w)).h _ hs hB a ha
 have h2:=Z2n (Q:=Z8a ds Q) (fun a w hz=>hz) _ _ _ _ h1
 rw [X5 hl] at h2
 simpa using h2
end rules
theorem Z5l:∀ {e:Env} {t:Nat} {v:Value},look e t=some v→(t,v)∈e
 | (k, u) :: r, t, v, h => by
   rw [Jh] at h
   by_cases hk:k=t
   subst hk;simp at h;subst h;simp
   rw [if_neg hk] at h;exact XV _ (Z5l h)
theorem Has.of {n:Nat} {e:Env} {a:Act} (h1:a.defers=[]) (h2:a.tmps.size=n) (h3:∀ p∈e,a.tmps.getD p.1 undef=p.2):Has n e a:=⟨h1,h2,fun t v h=>h3 (t,v) (Z5l h)⟩
section
variable {P:Program} {n:Nat} {Q:Exit→Act→World→Prop} {e:Env} {w:World} {ops:Array Oper} {rest:List Oper} {ty:TypeId} {pos:String} {af:Array Edge} {ds:List Deferred}
theorem Z7e {fn:Func} {c₀:Frame} {cs:List Frame} {u':FrameMode} {R:Ending→FrameMode→World→Prop} {c:Code} {a:Act} (ha:Has n e a) (h:WC P n c (bodyPost P fn (fun x w=>R x u' w)) e w) :
 c.wpS P (bodyPostS P fn c₀ cs R) a ({ c₀ with mode:=u' } :: cs) w:=by
 refine wpS_of_wp (wp_mono (h.h a ha) fun ex a' w' hq=>?_)
 cases ex with
 | normal=>obtain ⟨hd,v,hr,hR⟩:=hq;exact ⟨hd,u',rfl,v,hr,hR⟩
 | ret=>obtain ⟨hd,v,hr,hR⟩:=hq;exact ⟨hd,u',rfl,v,hr,hR⟩
 | panic ch=>obtain ⟨hd,hR⟩:=hq;exact ⟨hd,u',rfl,hR⟩
 | exit i=>exact hq.elim
 | goto l=>exact hq.elim
 | outgrown=>exact ⟨u',hq⟩
theorem Z8b {f:FuncId} {fn:Func} {c:Code} {args:Array Value} {w:World} {R:Ending→World→Prop} {n:Nat} (hf:P.funcs[f]?=some fn) (hb:fn.body=some c)
 (hn:fn.ntmps=n) (hs:Nat.ble args.size n=true) (h:WC P n c (bodyPostD P fn R) (Z4D args.toList 0) w):Calls P f args w R:=by
 refine calls_of_wp_defers hf hb (h.h _ ?_)
 rw [hn]
 have hle:args.size≤n:=XS hs
 refine ⟨rfl,by simp;omega,fun t v hv=>?_⟩
 obtain ⟨_,h2⟩:=Z58 _ _ _ _ hv
 simp only [Nat.sub_zero] at h2
 have hlt:t<args.size:=by
  have:=(XF.1 h2).1
  simpa using this
 have:args[t]?=some v:=by simpa using h2
 have h3:(args++Array.replicate (n - args.size) undef)[t]?=some v:=by
  rw [Yag hlt];exact this
 simp [Xv,h3]
theorem Z6L {f:FuncId} {fn:Func} {c:Code} {a0 a1:Value} {w:World} {R:Ending→World→Prop} {n:Nat} (hf:P.funcs[f]?=some fn) (hb:fn.body=some c)
 (hn:fn.ntmps=n) (hs:Nat.ble 2 n=true) (h:WC P n c (bodyPostD P fn R) [(0,a0),(1,a1)] w):Calls P f #[a0,a1] w R:=Z8b hf hb hn hs h
theorem ZeD {y:Code} {t:Operand} {fv:Fn} {cap:Array Value} (hc:ev e t=some (.func fv #[] cap)) {ts:Array TypeId}
 (h:WCD [{ target:=.fn fv cap,args:=#[] }] P n y Q e w) :
 WL P n ops (Exit.then (fun a w=>y.wp P Q a w) Q) [⟨none,.defer { callee:=.value t,args:=#[],argTypes:=ts },ty,pos,af,none⟩] e w:=by
 refine ⟨fun a ha=>?_⟩
 refine wpList_plain rfl (fun K hK=>?_)
 unfold Oper.wp
 have he:(execOp a.eval ⟨none,.defer { callee:=.value t,args:=#[],argTypes:=ts },ty,pos,af,none⟩).run P w=.ok (.defer { target:=.fn fv cap,args:=#[] }) w:=by
  simp [execOp,resolve,ha.ev hc,Deferred.ofValue]
 rw [he]
 simp only [Oper.upon]
 refine hK _ _ ?_
 have hd:({ a with defers:={ target:=.fn fv cap,args:=#[] } :: a.defers }:Act)=Z2f [{ target:=.fn fv cap,args:=#[] }] a:=by
  unfold Z2f
  rw [ha.defers]
  rfl
 show wpList P ops _ [] (Act.put { a with defers:=_ } none undef) w
 rw [hd]
 exact wpList_nil (h.h a ha)
theorem Z7f {d:Nat} {f:Nat} {fn:Func} {xs:Array Operand} {ts:Array TypeId} {vs:Array Value} {c:Operand} {ch:List PanicEntry} {F:World→Prop} [hf:Fun P f fn]
 (hc:ev e c=some (.func (.func f) #[] #[])) (hv:∀ a,Has n e a→xs.map a.eval=vs) (h:Calls P f vs w (fun e w'=>e=.panicked ch∧F w')) (hd:Nat.blt d n=true) (k:∀ w',F w'→WQ n Q (.panic ch) e w') :
 WL P n ops Q (⟨some d,.call { callee:=.value c,args:=xs,argTypes:=ts },ty,pos,af,none⟩ :: rest) e w:=
 Zbl (G:=fun _ _=>False) (F:=fun ch' w'=>ch'=ch∧F w') (Z61 hc hv (h.mono fun e w' ⟨h1,h2⟩=>by rw [h1];exact .pan ⟨rfl,h2⟩)) hd (fun ch' w' ⟨h1,h2⟩=>by subst h1;exact k w' h2) (fun _ _ h=>h.elim)
theorem Z7g {t b T:Nat} {D:TypeDesc} {v:Value} [hu:Und P t D] (hA:Z06 D=false) (hb:Blk w b T [v]):(loadVar t ⟨b,0,none⟩).run P w=.ok v w:=by
 have:=hb.cell (j:=0) rfl
 simp [loadVar,Und.isAgg,hA,this]
theorem Z3X {fn fn':Func} {tmps:Array Value} {R:Ending→World→Prop} {f:FuncId} {cap:Array Value} {u:FrameMode} (hu:u≠.run) [hf:Fun P f fn'] {G:Value→FrameMode→World→Prop}
 (h:CallsD P f cap u w fun e u' w'=>∃ v,e=.returned v∧G v u' w') (hk:∀ v u' w',G v u' w'→settle u'=.returning∧∃ r,(results fn tmps).run P w'=.ok r w'∧R (.returned r) w') :
 Leaves P fn tmps R [{ target:=.fn (.func f) cap,args:=#[] }] u w:=by
 refine leaves_cons (f:=f) (args:=cap) hu ?_ (h.mono fun e u' w' ⟨v,h1,h2⟩=>?_)
 simp [invoke]
 exact hf.enters cap w
 subst h1
 obtain ⟨h3,r,h4,h5⟩:=hk v u' w' h2
 show Leaves P fn tmps R [] (settle u') w'
 rw [h3]
 exact ⟨r,h4,h5⟩
theorem Z3D {d:Option Nat} {g:Option (Nat×Bool)} {x:Operand} {t s:TypeId} {u v:Value} (hx:ev e x=some u) (hb:∀ w,(Instr.typeAssert u t s true).run P w=.ok v w):PR P n ⟨d,.typeAssert x t s true,ty,pos,af,g⟩ e w v:=
 ⟨fun a ha=>by simp [execOp,ha.ev hx,hb]⟩
theorem Z8c {d:Option Nat} {g:Option (Nat×Bool)} {f:Nat} {x y z r:Operand} {v u s q:Value} (hx:ev e x=some v) (hy:ev e y=some u) (hz:ev e z=some s) (hr:ev e r=some q):PR P n ⟨d,.makeFunc (.func f) #[] #[x,y,z,r],ty,pos,af,g⟩ e w (.func (.func f) #[] #[v,u,s,q]):=
 ⟨fun a ha=>by simp [execOp,Instr.makeFunc,ha.ev hx,ha.ev hy,ha.ev hz,ha.ev hr]⟩
end
def Z3Y (s:Str):Int:=s.foldl (fun n c=>10 * n+(c.toNat:Int) - 48) 0
theorem Z6h (a:Str) (c:UInt8):Z3Y (a++[c])=10 * Z3Y a+(c.toNat:Int) - 48:=by simp [Z3Y,List.foldl_append]
theorem Z6i {s:Str} (h:s.all J0=true):Z3Y s=(Z1v s:Int):=by
 have key:∀ (s:Str) (z:Int) (n:Nat),z=(n:Int)→s.all J0=true→s.foldl (fun n c=>10 * n+(c.toNat:Int) - 48) z=((s.foldl (fun n c=>10 * n+(c.toNat - 48)) n:Nat):Int):=by
  intro s
  induction s with
  | nil=>intro z n hz _;exact hz
  | cons c r ih=>
    intro z n hz h
    simp only [YaI,Xi] at h
    have hc:48≤c.toNat∧c.toNat≤57:=by simpa [J0] using h.1
    exact ih _ _ (by dsimp only;omega) h.2
 exact key s 0 0 rfl h
def Zcv:Nat→Int
 | 0=>0
 | k+1=>10 * Zcv k+300
theorem Z9u:∀ (k:Nat) (s:Str),s.length=k→-Zcv k≤Z3Y s∧Z3Y s≤Zcv k
 | 0, s, h => by
   have:s=[]:=XD.1 h
   subst this
   simp [Z3Y,Zcv]
 | k + 1, s, h => by
   have hne:s≠[]:=by rintro rfl;simp at h
   obtain ⟨a,c,rfl⟩:∃ a c,s=a++[c]:=⟨s.dropLast,s.getLast hne,(List.dropLast_concat_getLast hne).symm⟩
   have ih:=Z9u k a (by simpa using h)
   have hc:=c.toNat_lt
   rw [Z6h]
   simp only [Zcv]
   omega
theorem Zgz {k:Nat} (h:k≤4):Zcv k≤400000:=by
 have:k=0∨k=1∨k=2∨k=3∨k=4:=by omega
 rcases this with rfl|rfl|rfl|rfl|rfl<;>decide
end Go.Eng
namespace Go.Proofs.YtjdjdoefppebkaaGreatDoor
open Go Go.Eng Go.RowKit Go.Proofs
theorem Z6j (s:Str) (f u bs be:Nat) (e0:Int) (w:World) (hfu:f≤u) (hu:u≤s.length) (h4:u≤f+4) (hne:bs≠be) (hs:Blk w bs 9 [str s]) (he:Blk w be 41 [.int .i64 e0]) :
 CC 305 #[.int .i64 (f:Int),.int .i64 (u:Int),.pointer (some ⟨bs,0,none⟩),.pointer (some ⟨be,0,none⟩)] w
  fun r w'=>r=.int .i64 (Z3Y ((s.take u).drop f))∧Blk w' bs 9 [str s]∧Blk w' be 41 [.int .i64 (if ((s.take u).drop f).all J0 then e0 else 7)]∧Stp [be] w w':=by
 refine cW4 34 Tryz.func305 ?_
 refine W ?_
 refine Z49 rfl rfl rfl rfl rfl hfu hu rfl ?_
 have hlen:((s.take u).drop f).length=u - f:=by simp;omega
 generalize (s.take u).drop f=t at *
 refine Z1 (ZdJ rfl (by omega)) rfl ?_
 rintro bv w1 ⟨hb,hS⟩
 have hlb:be<w.heap.size:=he.lt
 have hbv:=hb [be] (by simpa using hlb)
 clear hb
 replace hs:=hs.up hS
 replace he:=he.up hS
 replace hS:=hS.mono (S':=[be]) (by simp)
 refine W ?_
 refine Zr (σ:=Nat) (fun q=>[(2,.pointer (some ⟨bs,0,none⟩)),(3,.pointer (some ⟨be,0,none⟩)),(7,.int .i64 (Z3Y (t.take q))),(14,bv),(15,.int .i64 (t.length:Int)),(16,.int .i64 (q:Int))])
  (fun q w'=>q≤t.length∧SlV [be] w' bv t∧Blk w' bs 9 [str s]∧Blk w' be 41 [.int .i64 (if (t.take q).all J0 then e0 else 7)]∧Stp [be] w w')
  (fun q=>t.length - q) 0 ⟨rfl,rfl,rfl,rfl,rfl,rfl,trivial⟩ ⟨Xo _,hbv,hs,he,hS⟩ ?_
 clear hbv hs he hS
 rintro q w2 ⟨hq,hbv,hs,he,hS⟩
 have hbn:=Z9u q (t.take q) (by simp;omega)
 have hb4:=Zgz (k:=q) (by omega)
 by_cases hlt:q<t.length
 have htk:t.take (q+1)=t.take q++[t[q]]:=(List.take_append_getElem hlt).symm
 have hc:=(t[q]).toNat_lt
 have hdg:J0 t[q]=true↔48≤(t[q]).toNat∧(t[q]).toNat≤57:=by simp [J0]
 have fin:∀ w3,SlV [be] w3 bv t→Blk w3 bs 9 [str s]→Blk w3 be 41 [.int .i64 (if J0 t[q]=true then (if (t.take q).all J0 then e0 else 7) else 7)]→Stp [be] w w3→
  (q+1≤t.length∧SlV [be] w3 bv t∧Blk w3 bs 9 [str s]∧Blk w3 be 41 [.int .i64 (if (t.take (q+1)).all J0 then e0 else 7)]∧Stp [be] w w3):=by
  intro w3 h1 h2 h3 h4
  refine ⟨hlt,h1,h2,?_,h4⟩
  rw [htk]
  have:((t.take q++[t[q]]).all J0)=((t.take q).all J0 && J0 t[q]):=by rw [List.all_append];simp only [YaI,List.all_nil,Bool.and_true]
  rw [this]
  by_cases hd:J0 t[q]=true
  rw [if_pos hd] at h3
  rw [hd,Bool.and_true]
  exact h3
  rw [if_neg hd] at h3
  rw [Bool.not_eq_true] at hd
  rw [hd,Bool.and_false]
  exact h3
 by_cases hd:J0 t[q]=true
 have hd':=hdg.1 hd
 focus repeat'(first|refine W1 ?_|omega|refine VG ?_ ?_<;>intro hg|refine VC ?_ ?_<;>intro hc)
 refine Zd (Z3l (b:=((t[q]).toNat:Int)) rfl (JO (by unfold I64;omega))) rfl ?_
 refine W ?_
 refine Zg (q+1) ⟨rfl,rfl,?_,rfl,rfl,rfl,trivial⟩ (fin _ hbv hs (by rw [if_pos hd];exact he) hS) (by omega)
 rw [htk,Z6h]
 rfl
 · have hd':(t[q]).toNat<48∨57<(t[q]).toNat:=by
    rcases Yae (t[q]).toNat 48 with h|h
    exact .inl h
    rcases Yae 57 (t[q]).toNat with h'|h'
    exact .inr h'
    exact absurd (hdg.2 ⟨h,h'⟩) hd
   repeat'(first|refine W1 ?_|omega|refine VG ?_ ?_<;>intro hg|refine VC ?_ ?_<;>intro hc)
   all_goals
    refine Z2 (Z3 (us:=[.int .i64 7]) rfl rfl rfl rfl (by simp;rfl) he rfl) ?_
    rintro _ w3 ⟨hT,he3⟩
    refine W ?_
    refine Zd (Z3l (b:=((t[q]).toNat:Int)) rfl (JO (by unfold I64;omega))) rfl ?_
    refine W ?_
    refine Zg (q+1) ⟨rfl,rfl,?_,rfl,rfl,rfl,trivial⟩ (fin _ (hbv.ext hT (fun _ h=>h) (fun _ h=>.inl h)) (hs.ext hT (by simpa using hne)) (by rw [if_neg hd];exact he3) (hS.trans hT)) (by omega)
    rw [htk,Z6h]
    rfl
 have:q=t.length:=by omega
 subst this
 rw [XC] at *
 focus repeat'(first|refine W1 ?_|omega|refine VG ?_ ?_<;>intro hg|refine VC ?_ ?_<;>intro hc)
 refine WR ?_
 exact .mk ⟨rfl,hs,he,hS⟩
theorem Z1T (y m d:Int) (w:World):(Instr.build 291 #[(0,.int .i64 y),(1,.int .i64 m),(2,.int .i64 d)]).run Tryz.prog w=.ok (Z82 y m d) w:=by kernel_rfl
theorem Zay (s:Str) (w:World) (hL:Z0q w) (hl:s.length=10):CC 272 #[str s] w fun r w'=>r=.tuple #[.int .i64 (Z1r s).1,.int .i64 (Z1r s).2]∧Stp [] w w':=by
 have h5:1<w.heap.size:=by have:=block_lt_of_cell (hL 0 0 rfl);simpa using this
 refine cW1 35 Tryz.func272 ?_
 refine W ?_
 refine Z1 (Zo rfl) rfl ?_
 rintro _ w1 ⟨bs,rfl,hbs,es,hS⟩
 replace es:Blk w1 bs 9 [str s]:=es
 replace hL:=hL.up hS
 have b45:∀ i,i<10→(Z0o s i=45↔s.getD i 0=45):=fun i hi=>by
  unfold Z0o
  constructor
  intro h
  have h45:(45:UInt8).toNat=45:=rfl
  have:(s.getD i 0).toNat=(45:UInt8).toNat:=by omega
  exact UInt8.toNat_inj.1 this
  intro h
  rw [h]
  rfl
 by_cases h45:Z0o s 4=45∧Z0o s 7=45
 obtain ⟨h4,h7⟩:=h45
 focus repeat'(first|refine W1 ?_|omega|refine VG ?_ ?_<;>intro hg|refine VC ?_ ?_<;>intro hc)
 refine Z01 (i:=4) rfl rfl rfl (by omega) rfl ?_
 focus repeat'(first|refine W1 ?_|omega|refine VG ?_ ?_<;>intro hg|refine VC ?_ ?_<;>intro hc)
 refine Z01 (i:=7) rfl rfl rfl (by omega) rfl ?_
 focus repeat'(first|refine W1 ?_|omega|refine VG ?_ ?_<;>intro hg|refine VC ?_ ?_<;>intro hc)
 refine Z1 Z7 rfl ?_
 rintro _ w2 ⟨be,rfl,hbe,ee,hT⟩
 have nbe:bs≠be:=by have:=es.lt;omega
 replace es:=es.up hT
 refine Z2 (Z3 (us:=[.int .i64 0]) rfl rfl rfl rfl (by simp;rfl) ee rfl) ?_
 rintro _ w3 ⟨hT2,ee'⟩
 have hbew:w.heap.size≤be:=Xj hS.size hbe
 replace es:=es.ext hT2 (by simpa using nbe)
 replace hT:=hT.own hT2 (fun c hc=>.inr (by simp at hc;omega))
 replace hL:=hL.up hT
 replace hS:=hS.trans hT
 clear hT hT2 ee hbe
 refine W ?_
 refine Z1 (Z2N rfl (Zb rfl rfl) rfl (Z6j s 0 4 bs be 0 _ (by omega) (by omega) (by omega) nbe es ee')) rfl ?_
 rintro _ w4 ⟨rfl,es4,ee4,hT⟩
 replace hL:=hL.ext hT (by simp only [Xp];omega)
 replace hS:=hS.own hT (fun c hc=>.inr (by simp at hc;omega))
 clear hT
 refine W ?_
 refine Z1 (Z2N rfl (Zb rfl rfl) rfl (Z6j s 5 7 bs be _ _ (by omega) (by omega) (by omega) nbe es4 ee4)) rfl ?_
 rintro _ w5 ⟨rfl,es5,ee5,hT⟩
 replace hL:=hL.ext hT (by simp only [Xp];omega)
 replace hS:=hS.own hT (fun c hc=>.inr (by simp at hc;omega))
 clear hT es4 ee4
 refine W ?_
 refine Z1 (Z2N rfl (Zb rfl rfl) rfl (Z6j s 8 10 bs be _ _ (by omega) (by omega) (by omega) nbe es5 ee5)) rfl ?_
 rintro _ w6 ⟨rfl,es6,ee6,hT⟩
 replace hL:=hL.ext hT (by simp only [Xp];omega)
 replace hS:=hS.own hT (fun c hc=>.inr (by simp at hc;omega))
 clear hT es5 ee5
 have e0:(s.take 4).drop 0=s.take 4:=rfl
 have e1:(s.take 7).drop 5=(s.drop 5).take 2:=by rw [YaY]
 have e2:(s.take 10).drop 8=s.drop 8:=by rw [Xu (by omega)]
 rw [e0,e1,e2] at ee6
 rw [e0,e1,e2]
 refine Z6 (vs:=[(0,.int .i64 (Z3Y (s.take 4))),(1,.int .i64 (Z3Y ((s.drop 5).take 2))),(2,.int .i64 (Z3Y (s.drop 8)))]) rfl (Z1T _ _ _) rfl ?_
 refine Z1 Z7 rfl ?_
 rintro _ w7 ⟨bd,rfl,hbd,ed,hT⟩
 have nbd:be≠bd:=by have:=ee6.lt;omega
 replace ee6:=ee6.up hT
 refine Z2 (Z3 (us:=[.int .i64 (Z3Y (s.take 4)),.int .i64 (Z3Y ((s.drop 5).take 2)),.int .i64 (Z3Y (s.drop 8))]) rfl rfl rfl rfl (by intro c hc;simp at hc;rcases hc with rfl|rfl|rfl<;>rfl) ed rfl) ?_
 rintro _ w8 ⟨hT2,ed'⟩
 replace ee6:=ee6.ext hT2 (by simpa using nbd)
 replace hT:=hT.own hT2 (fun c hc=>.inr (by simp at hc;omega))
 replace hL:=hL.up hT
 replace hS:=hS.trans hT
 clear hT hT2 ed hbd es6
 by_cases hall:(s.take 4).all J0=true∧((s.drop 5).take 2).all J0=true∧(s.drop 8).all J0=true
 obtain ⟨a1,a2,a3⟩:=hall
 have hP:Z1r s=(let y:Int:=Z1v (s.take 4);let m:Int:=Z1v ((s.drop 5).take 2);let d:Int:=Z1v (s.drop 8);if Z0i y m d then (0,5) else (Jn y m d,0)):=by
  unfold Z1r
  rw [if_pos ⟨hl,(b45 4 (by omega)).1 h4,(b45 7 (by omega)).1 h7,a1,a2,a3⟩]
  rfl
 rw [if_pos a1,if_pos a2,if_pos a3] at ee6
 rw [Z6i a1,Z6i a2,Z6i a3] at ed'
 refine W ?_
 refine CL rfl (Zm rfl) rfl (Z69 _ _ _ _ hL) ?_
 rintro _ w9 ⟨rfl,hT⟩
 replace hS:=hS.trans hT
 refine W ?_
 refine WR ?_
 refine .mk ⟨?_,hS⟩
 rw [hP]
 dsimp only
 split<;>rfl
 have hP:Z1r s=(0,7):=by
  unfold Z1r
  rw [if_neg (fun h=>hall h.2.2.2)]
 have hE:(if (s.drop 8).all J0=true then (if ((s.drop 5).take 2).all J0=true then (if (s.take 4).all J0=true then (0:Int) else 7) else 7) else 7)=7:=by
  by_cases g3:(s.drop 8).all J0=true
  rw [if_pos g3]
  by_cases g2:((s.drop 5).take 2).all J0=true
  rw [if_pos g2]
  by_cases g1:(s.take 4).all J0=true
  exact absurd ⟨g1,g2,g3⟩ hall
  rw [if_neg g1]
  rw [if_neg g2]
  rw [if_neg g3]
 rw [hE] at ee6
 refine W ?_
 refine ZDr 3 [] [] [(0,1),(1,0),(2,0)] (fun w1 hS1=>?_)
 replace ee6:=ee6.up hS1
 replace hS:=hS.trans hS1
 refine D ?_
 refine W ?_
 refine WR ?_
 rw [hP]
 exact .mk ⟨rfl,hS⟩
 have hP:Z1r s=(0,7):=by
  unfold Z1r
  rw [if_neg (fun h=>h45 ⟨(b45 4 (by omega)).2 h.2.1,(b45 7 (by omega)).2 h.2.2.1⟩)]
 by_cases h4:Z0o s 4=45
 have h7:¬ Z0o s 7=45:=fun h=>h45 ⟨h4,h⟩
 focus repeat'(first|refine W1 ?_|omega|refine VG ?_ ?_<;>intro hg|refine VC ?_ ?_<;>intro hc)
 refine Z01 (i:=4) rfl rfl rfl (by omega) rfl ?_
 focus repeat'(first|refine W1 ?_|omega|refine VG ?_ ?_<;>intro hg|refine VC ?_ ?_<;>intro hc)
 refine Z01 (i:=7) rfl rfl rfl (by omega) rfl ?_
 focus repeat'(first|refine W1 ?_|omega|refine VG ?_ ?_<;>intro hg|refine VC ?_ ?_<;>intro hc)
 refine WR ?_
 rw [hP]
 exact .mk ⟨rfl,hS⟩
 focus repeat'(first|refine W1 ?_|omega|refine VG ?_ ?_<;>intro hg|refine VC ?_ ?_<;>intro hc)
 refine Z01 (i:=4) rfl rfl rfl (by omega) rfl ?_
 focus repeat'(first|refine W1 ?_|omega|refine VG ?_ ?_<;>intro hg|refine VC ?_ ?_<;>intro hc)
 refine WR ?_
 rw [hP]
 exact .mk ⟨rfl,hS⟩
end Go.Proofs.YtjdjdoefppebkaaGreatDoor
namespace Go.Eng
open Go Go.RowKit Go.Proofs
section
variable {P:Program} {n:Nat} {Q:Exit→Act→World→Prop} {e:Env} {w:World}
theorem Z6k {c:Code} (h:WC P n c (Exit.noGoto Q) e w):WC P n (.scope c) Q e w:=⟨fun a ha=>wp_scope_straight (h.h a ha)⟩
theorem ZeE {l:Nat} (h:WQ n Q .normal e w):WC P n (.label l) Q e w:=⟨fun a ha=>wp_label (h.h a ha)⟩
theorem JG (h:WQ n Q .ret e w):WQ n (Exit.noGoto Q) .ret e w:=⟨fun a ha=>h.h a ha⟩
theorem JL {i:Nat} (h:WQ n Q (.exit i) e w):WQ n (Exit.noGoto Q) (.exit i) e w:=⟨fun a ha=>h.h a ha⟩
end
def JX:Str:=[9,10,13,32]
theorem Z6l (c:UInt8):Z4R c=decide (c∈JX):=by
 unfold Z4R JX
 rw [X2]
 simp [or_assoc]
theorem Z6m (l:Str) (c:UInt8):decide (0≤Lib.indexByte l c)=decide (c∈l):=by
 rw [decide_eq_decide]
 induction l with
 | nil=>simp [Lib.indexByte]
 | cons a r ih=>
   unfold Lib.indexByte
   by_cases h:a=c
   subst h;simp
   have hb:(a == c)=false:=by simpa using h
   rw [hb]
   simp only [XE,if_false,Xe]
   have hge:=Lib.indexByte_ge r c
   have h':¬ c=a:=fun e=>h e.symm
   split
   rename_i h1
   have:Lib.indexByte r c=-1:=by simpa using h1
   rw [← ih]
   simp [h']
   omega
   rename_i h1
   have h2:¬ Lib.indexByte r c=-1:=by simpa using h1
   have:0≤Lib.indexByte r c:=by omega
   simp [h',ih.1 this]
   omega
theorem ZnO (s:Str) (a b:UInt8):Lib.hasPrefix s [a,b]=decide (s.take 2=[a,b]):=by
 unfold Lib.hasPrefix
 match s with
 | []=>rfl
 | [x]=>simp [List.isPrefixOf]
 | x :: y :: r=>
   rw [X2]
   simp only [List.isPrefixOf,Bool.and_true,Xi,beq_iff_eq,decide_eq_true_eq,YaG,List.take_zero,Yaw,and_true]
   constructor
   rintro ⟨rfl,rfl⟩;exact ⟨rfl,rfl⟩
   rintro ⟨rfl,rfl⟩;exact ⟨rfl,rfl⟩
theorem Z9v {s:Str} (hne:s≠[]) (h:s.all J0=true):Lib.atoiAll s=if Z1v s≤9223372036854775807 then .ok (Z1v s:Int) else .range:=by
 have key:∀ (s:Str) (acc N:Nat),acc<18446744073709551616→s.all J0=true→s.foldl (fun n c=>10 * n+(c.toNat - 48)) acc=N→Lib.parseUint10 acc s=if N<18446744073709551616 then .ok N else .range:=by
  intro s
  induction s with
  | nil=>
    intro acc N ha _ hN
    have:acc=N:=hN
    subst this
    rw [if_pos ha]
    rfl
  | cons c r ih=>
    intro acc N ha h hN
    simp only [YaI,Xi] at h
    have hc:48≤c.toNat∧c.toNat≤57:=by simpa [J0] using h.1
    have hmono:∀ (r:Str) (a:Nat),a≤r.foldl (fun n c=>10 * n+(c.toNat - 48)) a:=by
     intro r
     induction r with
     | nil=>intro a;exact Xl _
     | cons x q ihq=>intro a;have:=ihq (10 * a+(x.toNat - 48));simp only [Yba];omega
    have h1:=hmono r (10 * acc+(c.toNat - 48))
    have hN':r.foldl (fun n c=>10 * n+(c.toNat - 48)) (10 * acc+(c.toNat - 48))=N:=hN
    rw [hN'] at h1
    simp only [Lib.parseUint10]
    rw [if_pos hc]
    split
    rw [if_neg (by omega)]
    split
    rw [if_neg (by omega)]
    rw [show acc * 10+(c.toNat - 48)=10 * acc+(c.toNat - 48) by omega]
    exact ih _ _ (by omega) h.2 hN'
 obtain ⟨c,r,rfl⟩:∃ c r,s=c :: r:=by cases s with|nil=>exact absurd rfl hne|cons c r=>exact ⟨c,r,rfl⟩
 have hk:=key (c :: r) 0 (Z1v (c :: r)) (by omega) h rfl
 have hcc:48≤c.toNat∧c.toNat≤57:=by
  simp only [YaI,Xi] at h
  simpa [J0] using h.1
 unfold Lib.atoiAll
 simp only
 rw [if_neg (by omega)]
 unfold Lib.parseMag
 rw [if_neg (by simp),hk]
 by_cases h1:Z1v (c :: r)<18446744073709551616
 rw [if_pos h1]
 simp only
 by_cases h2:Z1v (c :: r)≤9223372036854775807
 rw [if_pos h2,if_neg (by omega),if_neg (by omega),if_neg (by omega)]
 rw [if_neg h2,if_pos (by omega)]
 rw [if_neg h1,if_neg (by omega)]
end Go.Eng
namespace Go.Proofs.YtjdjdoefppebkaaGreatDoor
open Go Go.Eng Go.RowKit Go.Proofs
theorem Z9w (c:UInt8):((c.toNat:Int)).toNat.toUInt8=c:=by
 rw [Yal]
 exact UInt8.ofNat_toNat
theorem Z5m (s:Str) (c:UInt8) (w:World):CC 268 #[str s,.int .u8 (c.toNat:Int)] w fun r w'=>r=.int .i64 (Lib.indexByte s c)∧w'=w:=by
 refine (Tryz.strings_IndexByte ⟨s.toArray⟩ (c.toNat:Int) w).mono ?_
 rintro e w' ⟨rfl,rfl⟩
 refine .mk ⟨?_,rfl⟩
 rw [Z9w]
theorem Z21 (s:Str) (a b:UInt8) (w:World):CC 267 #[str s,str [a,b]] w fun r w'=>r=.bool (decide (s.take 2=[a,b]))∧w'=w:=by
 refine (Tryz.strings_HasPrefix ⟨s.toArray⟩ ⟨([a,b]:Str).toArray⟩ w).mono ?_
 rintro e w' ⟨rfl,rfl⟩
 refine .mk ⟨?_,rfl⟩
 rw [← ZnO]
theorem Z9x {P:Program} {n:Nat} {Q:Exit→Act→World→Prop} {e:Env} {w:World} {ops:Array Oper} {rest:List Oper} {d₀:Nat} {ty:TypeId} {pos:String} {af:Array Edge} {src dst:TypeId} {x:Operand} {k:IntKind} {z:Int} {D:TypeDesc} [hs:Und P src D] [hd:Und P dst .string]
 (hx:ev e x=some (.int k z)) (hdn:Nat.blt d₀ n=true) (kk:WL P n ops Q rest ((d₀,str (Utf8.encode z).data.toList) :: e) w):WL P n ops Q (⟨some d₀,.convert src dst x,ty,pos,af,none⟩ :: rest) e w:=by
 refine Zd (v:=str (Utf8.encode z).data.toList) ⟨fun a ha=>?_⟩ hdn kk
 have:=run_convert_int_string (P:=P) w src dst k z (by rw [hs.h];rfl) hd.h
 simp [execOp,ha.ev hx,this]
theorem Zqz (c:Nat) (h1:128≤c) (h2:c<256):(Utf8.encode (c:Int)).data.toList=[UInt8.ofNat (192+c / 64),UInt8.ofNat (128+c % 64)]:=by
 have hv:Utf8.valid (c:Int)=true:=by
  unfold Utf8.valid
  simp only [Ya8,Xi,decide_eq_true_eq]
  omega
 unfold Utf8.encode
 simp only [hv,if_true,Yal]
 rw [if_neg (by omega),if_pos (by omega)]
theorem Zhm:∀ c∈JX,c.toNat<128:=by decide
set_option maxRecDepth 20000 in
theorem Z8d (c:Nat) (w:World) (h1:128≤c) (h2:c<256):CC 269 #[str JX,.int .i32 (c:Int)] w fun r w'=>r=.int .i64 (-1)∧Stp [] w w':=by
 have he:=Zqz c h1 h2
 have hb:128≤(UInt8.ofNat (128+c % 64)).toNat:=by simp;omega
 generalize UInt8.ofNat (192+c / 64)=b0 at he
 generalize UInt8.ofNat (128+c % 64)=b1 at he hb
 have hvr:Lib.validRune (c:Int)=true:=decide_eq_true (by omega)
 refine cW2 187 Tryz.func269 ?_
 repeat'(first|refine W1 ?_|omega|refine VG ?_ ?_<;>intro hg|refine VC ?_ ?_<;>intro hc)
 refine Z1 (Z4 rfl (Zm rfl) ((Tryz.utf8_ValidRune (c:Int) _).mono (fun e w' h=>(show Ret (fun r w'=>r=.bool true∧w'=_) e w' from by
  obtain ⟨rfl,rfl⟩:=h
  exact .mk ⟨by rw [hvr],rfl⟩)))) rfl ?_
 rintro _ wv ⟨rfl,hwv⟩
 subst wv
 refine W ?_
 refine Z6k ?_
 refine W ?_
 refine Z9x rfl rfl ?_
 rw [he]
 have hl2:([b0,b1]:Str).length=2:=rfl
 have hls:JX.length=4:=rfl
 refine W ?_
 refine Zr (σ:=Unit) (fun _=>[(0,str JX),(7,str [b0,b1]),(8,.int .i64 ((([b0,b1]:Str).length:Int) - 1)),(9,.int .i64 ((([b0,b1]:Str).length:Int) - 1))]) (fun _ w'=>Stp [] w w') (fun _=>0) () ⟨rfl,rfl,rfl,rfl,trivial⟩ (Stp.refl _ _) ?_
 rintro _ w1 hS
 repeat'(first|refine W1 ?_|omega|refine VG ?_ ?_<;>intro hg|refine VC ?_ ?_<;>intro hc)
 refine Z6k ?_
 repeat'(first|refine W1 ?_|omega|refine VG ?_ ?_<;>intro hg|refine VC ?_ ?_<;>intro hc)
 refine ZDr 7 [] [] [(0,0),(1,0),(2,0),(3,0),(4,0),(5,0),(6,0)] (fun w1 hS1=>?_)
 replace hS:=hS.trans hS1
 clear hS1
 refine D ?_
 have hx:¬ Z0o JX (([b0,b1]:Str).length - Nat.succ 0)=Z0o [b0,b1] (([b0,b1]:Str).length - Nat.succ 0):=by
  show ¬ (10:Int)=(b1.toNat:Int)
  omega
 repeat'(first|refine W1 ?_|omega|refine VG ?_ ?_<;>intro hg|refine VC ?_ ?_<;>intro hc)
 rotate_left
 exact absurd hx (by assumption)
 have hx1:Z0o [b0,b1] (([b0,b1]:Str).length - Nat.succ 0)=(b1.toNat:Int):=rfl
 have hnm:b1∉(JX.drop 2):=fun h=>by
  have:=Zhm b1 (YaV h)
  omega
 have hidx:Lib.indexByte (JX.drop 2) b1<0:=by
  have:=Z6m (JX.drop 2) b1
  rw [decide_eq_decide] at this
  have h0:¬ 0≤Lib.indexByte (JX.drop 2) b1:=fun h=>hnm (this.1 h)
  omega
 refine ZDr 9 [] [] [(0,0),(1,0),(2,0),(3,0),(4,0),(5,0),(6,0),(7,2),(8,0)] (fun w1 hS1=>?_)
 replace hS:=hS.trans hS1
 clear hS1
 refine D ?_
 refine Z5d (l:=2) rfl trivial rfl rfl (by omega) (by omega) rfl ?_
 refine D ?_
 rw [hx1]
 refine Za rfl trivial (Z4 rfl (Zb rfl rfl) (Z5m (JX.drop 2) b1 _)) (fun _ _ h=>by rw [h.2];exact Stp.refl _ _) rfl ?_
 rintro _ w5 ⟨rfl,hw5⟩
 subst w5
 refine D ?_
 repeat'(first|refine W1 ?_|omega|refine VG ?_ ?_<;>intro hg|refine VC ?_ ?_<;>intro hc)
 repeat (first|refine JG ?_|refine W1 ?_)
 refine WR ?_
 exact .mk ⟨rfl,hS⟩
theorem Z8e (c:UInt8) (w:World):CC 204 #[str JX,.int .i32 (c.toNat:Int)] w fun r w'=>r=.bool (Z4R c)∧Stp [] w w':=by
 by_cases h:c.toNat<128
 refine (Tryz.strings_ContainsRune_ascii ⟨JX.toArray⟩ (c.toNat:Int) w (by omega) (by omega)).mono ?_
 rintro e w' ⟨rfl,rfl⟩
 refine .mk ⟨?_,Stp.refl _ _⟩
 rw [Z9w,Z6l]
 exact congrArg Value.bool (Z6m JX c)
 have hc:=c.toNat_lt
 have hsp:Z4R c=false:=by
  rw [Z6l,decide_eq_false_iff_not]
  intro hm
  exact h (Zhm c hm)
 refine cW2 9 Tryz.func204 ?_
 refine W ?_
 refine CL rfl (Zb rfl rfl) rfl (Z8d c.toNat _ (by omega) (by omega)) ?_
 rintro _ w1 ⟨rfl,hS⟩
 refine W ?_
 refine WR ?_
 exact .mk ⟨by rw [hsp];rfl,hS⟩
def lxV:Lx→Value
 | .err c=>.tuple #[.agg (Z9.enc (⟨0,0,[],0⟩:Tkn)).toArray,.int .i64 c]
 | .ok t=>.tuple #[.agg (Z9.enc t).toArray,.int .i64 0]
theorem tk0 (w:World):(Instr.build 167 #[]).run Tryz.prog w=.ok (.agg (Z9.enc (⟨0,0,[],0⟩:Tkn)).toArray) w:=by kernel_rfl
theorem tk2 (k:Int) (s:Str) (w:World):(Instr.build 167 #[(0,.int .i64 k),(2,str s)]).run Tryz.prog w=.ok (.agg (Z9.enc (⟨k,0,s,0⟩:Tkn)).toArray) w:=by kernel_rfl
theorem tk3 (k n:Int) (s:Str) (w:World):(Instr.build 167 #[(0,.int .i64 k),(2,str s),(3,.int .i64 n)]).run Tryz.prog w=.ok (.agg (Z9.enc (⟨k,0,s,n⟩:Tkn)).toArray) w:=by kernel_rfl
theorem tk1 (k n:Int) (w:World):(Instr.build 167 #[(0,.int .i64 k),(1,.int .i64 n)]).run Tryz.prog w=.ok (.agg (Z9.enc (⟨k,n,[],0⟩:Tkn)).toArray) w:=by kernel_rfl
theorem Zl9 {s:Str} {a b:UInt8} (h:s.take 2=[a,b]):2≤s.length:=by
 have:=congrArg List.length h
 simp at this
 omega
theorem Z6n (s:Str) (w:World) (hne:s≠[]):CC 203 #[str s] w fun r w'=>r=lxV (JW s)∧Stp [] w w':=by
 have hl:s.length≠0:=fun h=>hne (XD.1 h)
 have hget:Z0o s 0=((s.getD 0 0).toNat:Int):=rfl
 refine cW1 22 Tryz.func203 ?_
 refine W ?_
 refine Z1 Z7 rfl ?_
 rintro _ w1 ⟨b2,rfl,hb2,e2,hS⟩
 refine W ?_
 refine CL rfl (Zb rfl rfl) rfl (Z21 s 60 61 _) ?_
 rintro _ wv ⟨rfl,hwv⟩
 subst wv
 by_cases a1:s.take 2=[60,61]
 have h2:=Zl9 a1
 have hv:JW s=.ok ⟨4,0,s.take 2,0⟩:=by unfold JW;rw [if_pos (.inl a1)]
 rw [decide_eq_true a1]
 refine W ?_
 refine Z0b (r:=2) rfl rfl rfl (by omega) rfl ?_
 refine Z6 (vs:=[(0,.int .i64 4),(2,str (s.take 2))]) rfl (tk2 _ _) rfl ?_
 refine Z2 (Z3 (us:=Z9.enc (⟨4,0,s.take 2,0⟩:Tkn)) rfl rfl rfl rfl (Z9.one _) e2 rfl) ?_
 rintro _ wz ⟨hT,e2'⟩
 refine W ?_
 refine J9 rfl rfl rfl e2' rfl rfl ?_
 exact .mk ⟨by rw [hv];rfl,hS.own hT (fun c hc=>.inr (by simp at hc;omega))⟩
 rw [decide_eq_false a1]
 refine W ?_
 refine CL rfl (Zb rfl rfl) rfl (Z21 s 33 61 _) ?_
 rintro _ wv ⟨rfl,hwv⟩
 subst wv
 by_cases a2:s.take 2=[33,61]
 have h2:=Zl9 a2
 have hv:JW s=.ok ⟨4,0,s.take 2,0⟩:=by unfold JW;rw [if_pos (.inr (.inl a2))]
 rw [decide_eq_true a2]
 refine W ?_
 refine Z0b (r:=2) rfl rfl rfl (by omega) rfl ?_
 refine Z6 (vs:=[(0,.int .i64 4),(2,str (s.take 2))]) rfl (tk2 _ _) rfl ?_
 refine Z2 (Z3 (us:=Z9.enc (⟨4,0,s.take 2,0⟩:Tkn)) rfl rfl rfl rfl (Z9.one _) e2 rfl) ?_
 rintro _ wz ⟨hT,e2'⟩
 refine W ?_
 refine J9 rfl rfl rfl e2' rfl rfl ?_
 exact .mk ⟨by rw [hv];rfl,hS.own hT (fun c hc=>.inr (by simp at hc;omega))⟩
 rw [decide_eq_false a2]
 refine W ?_
 refine CL rfl (Zb rfl rfl) rfl (Z21 s 62 61 _) ?_
 rintro _ wv ⟨rfl,hwv⟩
 subst wv
 by_cases a3:s.take 2=[62,61]
 have h2:=Zl9 a3
 have hv:JW s=.ok ⟨4,0,s.take 2,0⟩:=by unfold JW;rw [if_pos (.inr (.inr a3))]
 rw [decide_eq_true a3]
 refine W ?_
 refine Z0b (r:=2) rfl rfl rfl (by omega) rfl ?_
 refine Z6 (vs:=[(0,.int .i64 4),(2,str (s.take 2))]) rfl (tk2 _ _) rfl ?_
 refine Z2 (Z3 (us:=Z9.enc (⟨4,0,s.take 2,0⟩:Tkn)) rfl rfl rfl rfl (Z9.one _) e2 rfl) ?_
 rintro _ wz ⟨hT,e2'⟩
 refine W ?_
 refine J9 rfl rfl rfl e2' rfl rfl ?_
 exact .mk ⟨by rw [hv];rfl,hS.own hT (fun c hc=>.inr (by simp at hc;omega))⟩
 rw [decide_eq_false a3]
 have hno:¬ (s.take 2=[60,61]∨s.take 2=[33,61]∨s.take 2=[62,61]):=by
  rintro (h|h|h)
  exact a1 h
  exact a2 h
  exact a3 h
 repeat'(first|refine W1 ?_|omega|refine VG ?_ ?_<;>intro hg|refine VC ?_ ?_<;>intro hc)
 refine Z01 (i:=0) rfl rfl rfl (by omega) rfl ?_
 repeat'(first|refine W1 ?_|omega|refine VG ?_ ?_<;>intro hg|refine VC ?_ ?_<;>intro hc)
 rw [hget]
 refine CL rfl (Zb rfl rfl) rfl (Z5m Z9i (s.getD 0 0) _) ?_
 rintro _ wv ⟨rfl,hwv⟩
 subst wv
 have him:=Z6m Z9i (s.getD 0 0)
 rw [decide_eq_decide] at him
 by_cases a4:s.getD 0 0∈Z9i
 have hv:JW s=.ok ⟨4,0,s.take 1,0⟩:=by unfold JW;rw [if_neg hno,if_pos a4]
 have h0:=him.2 a4
 focus repeat'(first|refine W1 ?_|omega|refine VG ?_ ?_<;>intro hg|refine VC ?_ ?_<;>intro hc)
 refine W ?_
 refine Z0b (r:=1) rfl rfl rfl (by omega) rfl ?_
 refine Z6 (vs:=[(0,.int .i64 4),(2,str (s.take 1))]) rfl (tk2 _ _) rfl ?_
 refine Z2 (Z3 (us:=Z9.enc (⟨4,0,s.take 1,0⟩:Tkn)) rfl rfl rfl rfl (Z9.one _) e2 rfl) ?_
 rintro _ wz ⟨hT,e2'⟩
 refine W ?_
 refine J9 rfl rfl rfl e2' rfl rfl ?_
 exact .mk ⟨by rw [hv];rfl,hS.own hT (fun c hc=>.inr (by simp at hc;omega))⟩
 have hv:JW s=.err 20:=by unfold JW;rw [if_neg hno,if_neg a4]
 have h0:¬ 0≤Lib.indexByte Z9i (s.getD 0 0):=fun h=>a4 (him.1 h)
 focus repeat'(first|refine W1 ?_|omega|refine VG ?_ ?_<;>intro hg|refine VC ?_ ?_<;>intro hc)
 refine Z6 (vs:=[]) rfl tk0 rfl ?_
 refine Z2 (Z3 (us:=Z9.enc (⟨0,0,[],0⟩:Tkn)) rfl rfl rfl rfl (Z9.one _) e2 rfl) ?_
 rintro _ wz ⟨hT,e2'⟩
 refine W ?_
 refine J9 rfl rfl rfl e2' rfl rfl ?_
 exact .mk ⟨by rw [hv];rfl,hS.own hT (fun c hc=>.inr (by simp at hc;omega))⟩
theorem Z7h (s:Str) (w:World) (hl:s.length≤1000000):CC 208 #[str s] w fun r w'=>r=lxV (Z4i s)∧Stp [] w w':=by
 have hle:(s.takeWhile ldB).length≤s.length:=by
  have:=congrArg List.length (JJ (p:=ldB) s)
  simp at this
  omega
 refine cW1 14 Tryz.func208 ?_
 refine W ?_
 refine Z1 Z7 rfl ?_
 rintro _ w1 ⟨b2,rfl,hb2,e2,hS⟩
 refine W ?_
 refine CL rfl (Zb rfl rfl) rfl (Z4T (fun n=>Z81 n || Z4S n) ZkZ s _ hl) ?_
 rintro _ w2 ⟨rfl,hT⟩
 rw [Zen]
 replace e2:=e2.up hT
 replace hS:=hS.trans hT
 clear hT
 by_cases h12:12<(s.takeWhile ldB).length
 have hv:Z4i s=.err 2:=by unfold Z4i;simp only;rw [if_pos h12]
 focus repeat'(first|refine W1 ?_|omega|refine VG ?_ ?_<;>intro hg|refine VC ?_ ?_<;>intro hc)
 refine Z6 (vs:=[]) rfl tk0 rfl ?_
 refine Z2 (Z3 (us:=Z9.enc (⟨0,0,[],0⟩:Tkn)) rfl rfl rfl rfl (Z9.one _) e2 rfl) ?_
 rintro _ wz ⟨hT,e2'⟩
 refine W ?_
 refine J9 rfl rfl rfl e2' rfl rfl ?_
 exact .mk ⟨by rw [hv];rfl,hS.own hT (fun c hc=>.inr (by simp at hc;omega))⟩
 have hv:Z4i s=.ok ⟨1,0,s.take (s.takeWhile ldB).length,0⟩:=by unfold Z4i;simp only;rw [if_neg h12]
 generalize (s.takeWhile ldB).length=q at *
 focus repeat'(first|refine W1 ?_|omega|refine VG ?_ ?_<;>intro hg|refine VC ?_ ?_<;>intro hc)
 refine Z0b (r:=q) rfl rfl rfl hle rfl ?_
 refine Z6 (vs:=[(0,.int .i64 1),(2,str (s.take q))]) rfl (tk2 _ _) rfl ?_
 refine Z2 (Z3 (us:=Z9.enc (⟨1,0,s.take q,0⟩:Tkn)) rfl rfl rfl rfl (Z9.one _) e2 rfl) ?_
 rintro _ wz ⟨hT,e2'⟩
 refine W ?_
 refine J9 rfl rfl rfl e2' rfl rfl ?_
 exact .mk ⟨by rw [hv];rfl,hS.own hT (fun c hc=>.inr (by simp at hc;omega))⟩
theorem ZnP {P:Program} {n:Nat} {Q:Exit→Act→World→Prop} {e:Env} {w:World} {ops:Array Oper} {rest:List Oper} {d₀:Nat} {ty:TypeId} {pos:String} {af:Array Edge} {t u p:Nat} {x y:Operand} {v:Value} {ds:TypeDesc} [hu:Und P t ds] (hds:∃ l,ds=.interface l) (hx:ev e x=some (.iface p v)) (hy:ev e y=some .nilIface) (hdn:Nat.blt d₀ n=true) (kk:WL P n ops Q rest ((d₀,.bool true) :: e) w) :
 WL P n ops Q (⟨some d₀,.binOp .neq t x y u,ty,pos,af,none⟩ :: rest) e w:=by
 refine Zd (v:=.bool true) ⟨fun a ha=>?_⟩ hdn kk
 obtain ⟨l,rfl⟩:=hds
 simp only [execOp,ha.ev hx,ha.ev hy]
 have:=run_equal_held_nil (P:=P) (w:=w) t p v (by rw [hu.h,Program.methodsAt,hu.h])
 simp [go_sem,binOp,this]
theorem Zhn {P:Program} {n:Nat} {Q:Exit→Act→World→Prop} {e:Env} {w:World} {ops:Array Oper} {rest:List Oper} {d₀:Nat} {ty:TypeId} {pos:String} {af:Array Edge} {t u:Nat} {x:Operand} {ds:TypeDesc} [hu:Und P t ds] (hds:∃ l,ds=.interface l) (hx:ev e x=some .nilIface) (hdn:Nat.blt d₀ n=true) (kk:WL P n ops Q rest ((d₀,.bool false) :: e) w) :
 WL P n ops Q (⟨some d₀,.binOp .neq t x (.const .nilIface) u,ty,pos,af,none⟩ :: rest) e w:=by
 refine Zd (v:=.bool false) ⟨fun a ha=>?_⟩ hdn kk
 obtain ⟨l,rfl⟩:=hds
 have hy:a.eval (.const .nilIface)=.nilIface:=rfl
 simp only [execOp,ha.ev hx,hy]
 have:=run_equal_nil_nil (P:=P) (w:=w) t (by rw [hu.h,Program.methodsAt,hu.h])
 simp [go_sem,binOp,eqGuard,this]
theorem Zcw (w:World) (el:TypeId) (t:ByteArray):Stp [] w (Lib.bytesWorld w el t):=by
 refine ⟨rfl,rfl,rfl,?_,fun b hb _=>Lib.bytesWorld_at_old w el _ b hb⟩
 rw [Lib.bytesWorld_size]
 omega
theorem Zcx (t:Str) (ev:Value) (w:World) (ht:t.all J0=true) (hne:t≠[]) (hl:t.length≤1000000) (hv4:w.cell? ⟨5,0,none⟩=some ev) (hev:ev=.nilIface∨∃ te pe,ev=.iface te pe) :
 CC 271 #[str t] w fun r w'=>(if Z1v t≤9223372036854775807 then r=.tuple #[.int .i64 (Z1v t:Int),.nilIface] else ∃ z p v,r=.tuple #[.int .i64 z,.iface p v])∧Stp [] w w':=by
 have ha:=Z9v hne ht
 by_cases h:Z1v t≤9223372036854775807
 rw [if_pos h] at ha
 refine (Tryz.strconv_Atoi_ok ⟨t.toArray⟩ (by rw [Z0a];omega) (Z1v t:Int) (by simpa using ha) w).mono ?_
 rintro e w' ⟨rfl,hw⟩
 refine .mk ⟨by rw [if_pos h],?_⟩
 rcases hw with rfl|⟨x,rfl⟩
 exact Stp.refl _ _
 exact Zcw _ _ _
 rw [if_neg h] at ha
 refine (Tryz.strconv_Atoi_range ⟨t.toArray⟩ (by rw [Z0a];omega) (by simpa using ha) ev w hv4 hev).mono ?_
 rintro e w' ⟨N,rfl,_,_,hw⟩
 exact .mk ⟨by rw [if_neg h];exact ⟨_,_,_,rfl⟩,Stp.of_below hw⟩
theorem Z5n (s:Str) (ev:Value) (w:World) (hl:s.length≤1000000) (hd:J0 (s.getD 0 0)=true) (hne:s≠[]) (hv4:w.cell? ⟨5,0,none⟩=some ev) (hev:ev=.nilIface∨∃ te pe,ev=.iface te pe):CC 210 #[str s] w fun r w'=>r=lxV (Z3q s)∧Stp [] w w':=by
 have hle:(s.takeWhile J0).length≤s.length:=by
  have:=congrArg List.length (JJ (p:=J0) s)
  simp at this
  omega
 have hall:(s.takeWhile J0).all J0=true:=XH.2 fun c hc=>Z0z hc
 have htk:=JJ (p:=J0) s
 have hpos:s.takeWhile J0≠[]:=by
  cases s with
  | nil=>exact absurd rfl hne
  | cons a r=>simp only [Xz] at hd;simp [hd]
 have hp0:(s.takeWhile J0).length≠0:=fun h=>hpos (XD.1 h)
 have hnl:Z3q s=if 1<(s.takeWhile J0).length∧(s.takeWhile J0).getD 0 0=48 then .err 20 else if 2147483647<Z1v (s.takeWhile J0) then .err 5 else .ok ⟨2,0,s.takeWhile J0,Z1v (s.takeWhile J0)⟩:=rfl
 rw [hnl]
 have hfd:=Zck s
 refine cW1 35 Tryz.func210 ?_
 refine W ?_
 refine Z1 Z7 rfl ?_
 rintro _ w1 ⟨b2,rfl,hb2,e2,hS⟩
 refine W ?_
 refine CL rfl (Zb rfl rfl) rfl (Z4T Z4S Z3r s _ hl) ?_
 rintro _ w2 ⟨rfl,hT⟩
 rw [hfd]
 replace e2:=e2.up hT
 replace hS:=hS.trans hT
 clear hT
 refine Z0b (r:=(s.takeWhile J0).length) rfl rfl rfl hle rfl ?_
 rw [htk]
 have hl2:(s.takeWhile J0).length≤1000000:=Xj hle hl
 clear hnl htk hle hfd
 generalize s.takeWhile J0=t at *
 have hget:Z0o t 0=((t.getD 0 0).toNat:Int):=rfl
 have h48:Z0o t 0=48↔t.getD 0 0=48:=by
  rw [hget]
  constructor
  intro h
  have h48:(48:UInt8).toNat=48:=rfl
  exact UInt8.toNat_inj.1 (by omega)
  intro h;rw [h];rfl
 by_cases hz:1<t.length∧t.getD 0 0=48
 rw [if_pos hz]
 have hz1:=hz.1
 have hz2:=h48.2 hz.2
 focus repeat'(first|refine W1 ?_|omega|refine VG ?_ ?_<;>intro hg|refine VC ?_ ?_<;>intro hc)
 refine Z01 (i:=0) rfl rfl rfl (by omega) rfl ?_
 focus repeat'(first|refine W1 ?_|omega|refine VG ?_ ?_<;>intro hg|refine VC ?_ ?_<;>intro hc)
 refine Z6 (vs:=[]) rfl tk0 rfl ?_
 refine Z2 (Z3 (us:=Z9.enc (⟨0,0,[],0⟩:Tkn)) rfl rfl rfl rfl (Z9.one _) e2 rfl) ?_
 rintro _ wz ⟨hT,e2'⟩
 refine W ?_
 refine J9 rfl rfl rfl e2' rfl rfl ?_
 exact .mk ⟨rfl,hS.own hT (fun c hc=>.inr (by simp at hc;omega))⟩
 rw [if_neg hz]
 refine W ?_
 refine Z7I (σ:=Unit) (fun _=>[(0,str s),(2,.pointer (some ⟨b2,0,none⟩)),(4,str t),(18,.bool false)]) (fun _ w'=>w'=w2) ?_ ?_
 by_cases h1:1<t.length
 have h0:¬ Z0o t 0=48:=fun h=>hz ⟨h1,h48.1 h⟩
 focus repeat'(first|refine W1 ?_|omega|refine VG ?_ ?_<;>intro hg|refine VC ?_ ?_<;>intro hc)
 refine Z01 (i:=0) rfl rfl rfl (by omega) rfl ?_
 focus repeat'(first|refine W1 ?_|omega|refine VG ?_ ?_<;>intro hg|refine VC ?_ ?_<;>intro hc)
 rw [decide_eq_false h0]
 exact ZO () ⟨rfl,rfl,rfl,rfl,trivial⟩ rfl
 focus repeat'(first|refine W1 ?_|omega|refine VG ?_ ?_<;>intro hg|refine VC ?_ ?_<;>intro hc)
 exact ZO () ⟨rfl,rfl,rfl,rfl,trivial⟩ rfl
 rintro _ wv hwv
 subst wv
 refine W ?_
 refine CL rfl (Zm rfl) rfl (Zcx t ev _ hall hpos hl2 (hS.cell (by simp) hv4) hev) ?_
 rintro _ w3 ⟨hr,hT⟩
 replace e2:=e2.up hT
 replace hS:=hS.trans hT
 clear hT
 by_cases hmax:Z1v t≤9223372036854775807
 rw [if_pos hmax] at hr
 subst hr
 refine W ?_
 refine Zhn ⟨_,rfl⟩ rfl rfl ?_
 by_cases hbig:2147483647<Z1v t
 rw [if_pos hbig]
 focus repeat'(first|refine W1 ?_|omega|refine VG ?_ ?_<;>intro hg|refine VC ?_ ?_<;>intro hc)
 refine Z6 (vs:=[]) rfl tk0 rfl ?_
 refine Z2 (Z3 (us:=Z9.enc (⟨0,0,[],0⟩:Tkn)) rfl rfl rfl rfl (Z9.one _) e2 rfl) ?_
 rintro _ wz ⟨hT,e2'⟩
 refine W ?_
 refine J9 rfl rfl rfl e2' rfl rfl ?_
 exact .mk ⟨rfl,hS.own hT (fun c hc=>.inr (by simp at hc;omega))⟩
 rw [if_neg hbig]
 focus repeat'(first|refine W1 ?_|omega|refine VG ?_ ?_<;>intro hg|refine VC ?_ ?_<;>intro hc)
 refine Z6 (vs:=[(0,.int .i64 2),(2,str t),(3,.int .i64 (Z1v t:Int))]) rfl (tk3 _ _ _) rfl ?_
 refine Z2 (Z3 (us:=Z9.enc (⟨2,0,t,Z1v t⟩:Tkn)) rfl rfl rfl rfl (Z9.one _) e2 rfl) ?_
 rintro _ wz ⟨hT,e2'⟩
 refine W ?_
 refine J9 rfl rfl rfl e2' rfl rfl ?_
 exact .mk ⟨rfl,hS.own hT (fun c hc=>.inr (by simp at hc;omega))⟩
 rw [if_neg hmax] at hr
 obtain ⟨z,p,v,rfl⟩:=hr
 rw [if_pos (by omega)]
 refine W ?_
 refine ZnP ⟨_,rfl⟩ rfl rfl rfl ?_
 focus repeat'(first|refine W1 ?_|omega|refine VG ?_ ?_<;>intro hg|refine VC ?_ ?_<;>intro hc)
 refine Z6 (vs:=[]) rfl tk0 rfl ?_
 refine Z2 (Z3 (us:=Z9.enc (⟨0,0,[],0⟩:Tkn)) rfl rfl rfl rfl (Z9.one _) e2 rfl) ?_
 rintro _ wz ⟨hT,e2'⟩
 refine W ?_
 refine J9 rfl rfl rfl e2' rfl rfl ?_
 exact .mk ⟨rfl,hS.own hT (fun c hc=>.inr (by simp at hc;omega))⟩
theorem Z5o {z:Int} (h0:0≤z) (h1:z<2147483648):IntKind.i32.wrap z=z:=by
 rw [IntKind.wrap_i32]
 omega
theorem ZgA:∀ i,i<Je.length→(Je.getD i 0).toNat<128:=by decide
theorem ZgB {s:Str} (h:11≤s.length) (hf:∀ j,j<11→Z4j (Je.getD j 0) (s.getD j 0)=true):((Je.zip s).all fun p=>Z4j p.1 p.2)=true:=by
 rw [XH]
 intro p hp
 obtain ⟨i,hi,rfl⟩:=Xr hp
 have h1:i<11:=by
  have:Je.length=11:=rfl
  simp at hi
  omega
 have:=hf i h1
 rw [List.getElem_zip]
 have e1:Je.getD i 0=Je[i]'(by show i<11;omega):=by
  have:i<Je.length:=h1
  simp [List.getD,this]
 have e2:s.getD i 0=s[i]'(by omega):=by
  have:i<s.length:=by omega
  simp [List.getD,this]
 rw [e1,e2] at this
 exact this
theorem Z7i {s:Str} {j:Nat} (h:11≤s.length) (hj:j<11) (hf:Z4j (Je.getD j 0) (s.getD j 0)=false):((Je.zip s).all fun p=>Z4j p.1 p.2)=false:=by
 cases hb:((Je.zip s).all fun p=>Z4j p.1 p.2) with
 | false=>rfl
 | true=>
   rw [XH] at hb
   have hl:j<(Je.zip s).length:=by
    have:Je.length=11:=rfl
    simp
    omega
   have:=hb _ (Xf hl)
   rw [List.getElem_zip] at this
   have e1:Je.getD j 0=Je[j]'(by show j<11;omega):=by
    have:j<Je.length:=hj
    simp [List.getD,this]
   have e2:s.getD j 0=s[j]'(by omega):=by
    have:j<s.length:=by omega
    simp [List.getD,this]
   rw [e1,e2] at hf
   rw [hf] at this
   cases this
set_option maxHeartbeats 1000000 in
theorem Zbt (s:Str) (w:World) (hLG:Z0q w) (hl:s.length≤1000000):CC 211 #[str s] w fun r w'=>r=lxV (Z80 s)∧Stp [] w w':=by
 have h5w:1<w.heap.size:=by have:=block_lt_of_cell (hLG 0 0 rfl);simpa using this
 refine cW1 52 Tryz.func211 ?_
 refine W ?_
 refine Z1 Z7 rfl ?_
 rintro _ w1 ⟨b2,rfl,hb2,e2,hS⟩
 by_cases h11:s.length<11
 have hv:Z80 s=.err 20:=by unfold Z80;rw [if_pos h11]
 rw [hv]
 focus repeat'(first|refine W1 ?_|omega|refine VG ?_ ?_<;>intro hg|refine VC ?_ ?_<;>intro hc)
 refine Z6 (vs:=[]) rfl tk0 rfl ?_
 refine Z2 (Z3 (us:=Z9.enc (⟨0,0,[],0⟩:Tkn)) rfl rfl rfl rfl (Z9.one _) e2 rfl) ?_
 rintro _ wz ⟨hT,e2'⟩
 refine W ?_
 refine J9 rfl rfl rfl e2' rfl rfl ?_
 exact .mk ⟨rfl,hS.own hT (fun c hc=>.inr (by simp at hc;omega))⟩
 · have hv0:Z80 s=if ((Je.zip s).all fun p=>Z4j p.1 p.2) then (let d:=Z1r ((s.take 11).drop 1);if d.2=0 then .ok ⟨3,0,s.take 11,d.1⟩ else .err 5) else .err 20:=by unfold Z80;rw [if_neg h11]
   rw [hv0]
   replace hLG:=hLG.up hS
   repeat'(first|refine W1 ?_|omega|refine VG ?_ ?_<;>intro hg|refine VC ?_ ?_<;>intro hc)
   refine Z1 (Z9h (s:=Je) rfl) rfl ?_
   rintro _ w2 ⟨bi,rfl,hbi,hI,hT⟩
   have hbiw:w.heap.size≤bi:=Xj hS.size hbi
   have ni2:b2≠bi:=by have:=e2.lt;omega
   have h5i:(1:Nat)≠bi:=by omega
   replace e2:=e2.up hT
   replace hLG:=hLG.up hT
   replace hS:=hS.trans hT
   clear hT
   refine W ?_
   refine Zr (σ:=Nat) (fun q=>[(0,str s),(2,.pointer (some ⟨b2,0,none⟩)),(13,.pointer (some ⟨bi,0,none⟩))])
    (fun q w'=>q≤11∧Itr w' bi Je q∧(∀ j,j<q→Z4j (Je.getD j 0) (s.getD j 0)=true)∧(∃ cs:List Value,cs.length=4∧Blk w' b2 167 cs)∧Z0q w'∧Stp [] w w')
    (fun q=>11 - q) 0 ⟨rfl,rfl,rfl,trivial⟩ ⟨Xo _,hI,fun j h=>absurd h (Xy _),⟨_,rfl,e2⟩,hLG,hS⟩ ?_
   clear hI e2 hLG hS
   rintro q w3 ⟨hq,hI,hfit,⟨cs2,hc2,e2⟩,hLG,hS⟩
   match cs2,hc2 with
   | [q0,q1,q2,q3],_=>
   have hfl:Je.length=11:=rfl
   by_cases hlt:q<11
   have hqf:q<Je.length:=by omega
   have hlo:=ZgA q hqf
   have hdec:dec Je q=((Je.getD q 0).toNat,1):=by
    have e1:Je.getD q 0=Je[q]'hqf:=by simp [List.getD,hqf]
    rw [e1] at hlo ⊢
    exact Z3p hqf hlo
   refine W ?_
   refine Z1 (Zbm rfl hI hqf) rfl ?_
   rintro _ w4 ⟨rfl,hI4,hT⟩
   rw [hdec] at hI4 ⊢
   dsimp only at hI4 ⊢
   replace e2:=e2.ext hT (by simpa using ni2)
   replace hLG:=hLG.ext hT (by simpa using h5i)
   replace hS:=hS.own hT (fun c hc=>.inr (by simp at hc;omega))
   clear hT hI
   have hbr:=Z5O s q
   focus repeat'(first|refine W1 ?_|omega|refine VG ?_ ?_<;>intro hg|refine VC ?_ ?_<;>intro hc)
   refine Zd (Z3l (b:=Z0o s q) rfl (Z5o hbr.1 (by omega))) rfl ?_
   have hby:Z0o s q=((s.getD q 0).toNat:Int):=rfl
   by_cases hc100:Je.getD q 0=100
   rw [hc100]
   have h100:(((100:UInt8).toNat:Nat):Int)=100:=rfl
   rw [h100]
   have hfq:Z4j (Je.getD q 0) (s.getD q 0)=J0 (s.getD q 0):=by unfold Z4j;rw [if_pos hc100]
   focus repeat'(first|refine W1 ?_|omega|refine VG ?_ ?_<;>intro hg|refine VC ?_ ?_<;>intro hc)
   rw [hby]
   refine CL rfl (Zm rfl) rfl (Z3r (s.getD q 0).toNat _) ?_
   rintro _ wv ⟨rfl,hwv⟩
   subst wv
   have hdg:Z4S (s.getD q 0).toNat=J0 (s.getD q 0):=rfl
   rw [hdg]
   cases hd:J0 (s.getD q 0)
   have hz:=Z7i (s:=s) (by omega) hlt (by rw [hfq];exact hd)
   rw [if_neg (by rw [hz];decide)]
   focus repeat'(first|refine W1 ?_|omega|refine VG ?_ ?_<;>intro hg|refine VC ?_ ?_<;>intro hc)
   refine Z6 (vs:=[]) rfl tk0 rfl ?_
   refine Z2 (Z3 (us:=Z9.enc (⟨0,0,[],0⟩:Tkn)) rfl rfl rfl rfl (Z9.one _) e2 rfl) ?_
   rintro _ wz ⟨hT,e2'⟩
   refine W ?_
   refine J9 rfl rfl rfl e2' rfl rfl ?_
   exact .mk ⟨rfl,hS.own hT (fun c hc=>.inr (by simp at hc;omega))⟩
   focus repeat'(first|refine W1 ?_|omega|refine VG ?_ ?_<;>intro hg|refine VC ?_ ?_<;>intro hc)
   refine Zg (q+1) ⟨rfl,rfl,rfl,trivial⟩ ⟨hlt,hI4,fun j hj=>?_,⟨_,rfl,e2⟩,hLG,hS⟩ (by omega)
   rcases Yae j q with h|h
   exact hfit j h
   obtain rfl:j=q:=by omega
   rw [hfq];exact hd
   have hne:¬ ((Je.getD q 0).toNat:Int)=100:=fun h=>hc100 (by
    have h100:(100:UInt8).toNat=100:=rfl
    exact UInt8.toNat_inj.1 (by omega))
   have hfq:Z4j (Je.getD q 0) (s.getD q 0)=decide (s.getD q 0=Je.getD q 0):=by unfold Z4j;rw [if_neg hc100]
   have heq:Z0o s q=((Je.getD q 0).toNat:Int)↔s.getD q 0=Je.getD q 0:=by
    rw [hby]
    constructor
    intro h;exact UInt8.toNat_inj.1 (by omega)
    intro h;rw [h]
   by_cases hx:Z0o s q=((Je.getD q 0).toNat:Int)
   focus repeat'(first|refine W1 ?_|omega|refine VG ?_ ?_<;>intro hg|refine VC ?_ ?_<;>intro hc)
   refine Zg (q+1) ⟨rfl,rfl,rfl,trivial⟩ ⟨hlt,hI4,fun j hj=>?_,⟨_,rfl,e2⟩,hLG,hS⟩ (by omega)
   rcases Yae j q with h|h
   exact hfit j h
   obtain rfl:j=q:=by omega
   rw [hfq];exact decide_eq_true (heq.1 hx)
   have hz:=Z7i (s:=s) (by omega) hlt (by rw [hfq];exact decide_eq_false (fun h=>hx (heq.2 h)))
   rw [if_neg (by rw [hz];decide)]
   focus repeat'(first|refine W1 ?_|omega|refine VG ?_ ?_<;>intro hg|refine VC ?_ ?_<;>intro hc)
   refine Z6 (vs:=[]) rfl tk0 rfl ?_
   refine Z2 (Z3 (us:=Z9.enc (⟨0,0,[],0⟩:Tkn)) rfl rfl rfl rfl (Z9.one _) e2 rfl) ?_
   rintro _ wz ⟨hT,e2'⟩
   refine W ?_
   refine J9 rfl rfl rfl e2' rfl rfl ?_
   exact .mk ⟨rfl,hS.own hT (fun c hc=>.inr (by simp at hc;omega))⟩
   have hq11:q=11:=by omega
   subst hq11
   have hz:=ZgB (s:=s) (by omega) hfit
   rw [if_pos hz]
   refine W ?_
   refine Z1 (Z66 rfl hI (by omega)) rfl ?_
   rintro _ wv ⟨rfl,hwv⟩
   subst wv
   refine W ?_
   refine Z49 (l:=1) (r:=11) rfl rfl rfl rfl rfl (by omega) (by omega) rfl ?_
   refine CL rfl (Zm rfl) rfl (Zay _ _ hLG (by simp;omega)) ?_
   rintro _ w5 ⟨rfl,hT⟩
   replace e2:=e2.up hT
   replace hS:=hS.trans hT
   clear hT
   dsimp only
   by_cases h0:(Z1r ((s.take 11).drop 1)).2=0
   rw [if_pos h0]
   focus repeat'(first|refine W1 ?_|omega|refine VG ?_ ?_<;>intro hg|refine VC ?_ ?_<;>intro hc)
   refine Z0b (r:=11) rfl rfl rfl (by omega) rfl ?_
   refine W ?_
   refine Z6 (vs:=[(0,.int .i64 3),(2,str (s.take 11)),(3,.int .i64 (Z1r ((s.take 11).drop 1)).1)]) rfl (tk3 _ _ _) rfl ?_
   refine Z2 (Z3 (us:=Z9.enc (⟨3,0,s.take 11,(Z1r ((s.take 11).drop 1)).1⟩:Tkn)) rfl rfl rfl rfl (Z9.one _) e2 rfl) ?_
   rintro _ wz ⟨hT,e2'⟩
   refine W ?_
   refine J9 rfl rfl rfl e2' rfl rfl ?_
   exact .mk ⟨rfl,hS.own hT (fun c hc=>.inr (by simp at hc;omega))⟩
   rw [if_neg h0]
   focus repeat'(first|refine W1 ?_|omega|refine VG ?_ ?_<;>intro hg|refine VC ?_ ?_<;>intro hc)
   refine Z6 (vs:=[]) rfl tk0 rfl ?_
   refine Z2 (Z3 (us:=Z9.enc (⟨0,0,[],0⟩:Tkn)) rfl rfl rfl rfl (Z9.one _) e2 rfl) ?_
   rintro _ wz ⟨hT,e2'⟩
   refine W ?_
   refine J9 rfl rfl rfl e2' rfl rfl ?_
   exact .mk ⟨rfl,hS.own hT (fun c hc=>.inr (by simp at hc;omega))⟩
end Go.Proofs.YtjdjdoefppebkaaGreatDoor
namespace Go.Eng
open Go Go.RowKit Go.Proofs
theorem Z2g {s:Str} {e:Int} (h:Z0R s=.err e):e≠0:=by
 unfold Z0R at h
 simp only at h
 split at h
 unfold Z4i at h
 simp only at h
 split at h<;>simp at h
 omega
 split at h
 unfold Z3q at h
 simp only at h
 split at h
 simp at h;omega
 split at h<;>simp at h
 omega
 split at h
 unfold Z80 at h
 split at h
 simp at h;omega
 split at h
 simp only at h
 split at h<;>simp at h
 omega
 simp at h;omega
 unfold JW at h
 split at h
 simp at h
 split at h<;>simp at h
 omega
theorem ZgC {s:Str} (h:s.getD 0 0=35):1≤nlM s:=by
 cases s with
 | nil=>simp at h
 | cons a r=>
   simp only [Xz] at h
   subst h
   unfold nlM
   have h0:0<(35 :: r:Str).length:=by simp
   have hl:(35 :: r:Str).length=r.length+1:=by simp
   rw [hl]
   unfold JF
   rw [if_pos h0,Z3p h0 (by show (35:UInt8).toNat<128;decide)]
   simp only
   have hn:Z67 ((35 :: r:Str)[0]).toNat=true:=by show Z67 (35:UInt8).toNat=true;decide
   rw [if_pos hn]
   exact Z76 _ _ _ _ (by simp)
end Go.Eng
namespace Go.Proofs.YtjdjdoefppebkaaGreatDoor
open Go Go.Eng Go.RowKit Go.Proofs
theorem Z39 (t:Tkn) (w:World):(Instr.buildSlice 168 1 #[(0,.agg (Z9.enc t).toArray)]).run Tryz.prog w=.ok (.slice (some ⟨w.heap.size,0,none⟩) 1 1) (w.alloc (.cells (Z9.enc t).toArray 167)):=by kernel_rfl
def TkV (w w':World) (r:Value):Tks→Prop
 | .err a c=>r=.tuple #[.slice none 0 0,.int .i64 a,.int .i64 c]
 | .ok l=>∃ tv,r=.tuple #[tv,.int .i64 0,.int .i64 0]∧J8 167 w w' tv l
set_option maxHeartbeats 4000000 in
theorem Zaz (s:Str) (ev:Value) (w:World) (hLG:Z0q w) (hv4:w.cell? ⟨5,0,none⟩=some ev) (hev:ev=.nilIface∨∃ te pe,ev=.iface te pe) (hl:s.length≤1000000) :
 CC 117 #[str s] w fun r w'=>TkV w w' r (Z1S s)∧Stp [] w w':=by
 unfold Z1S
 refine cW1 72 Tryz.func117 ?_
 refine W ?_
 refine Z6k ?_
 by_cases h4:4000<s.length
 · rw [if_pos h4]
   repeat'(first|refine W1 ?_|omega|refine VG ?_ ?_<;>intro hg|refine VC ?_ ?_<;>intro hc)
   repeat (first|refine JG ?_|refine W1 ?_)
   refine WR ?_
   exact .mk ⟨rfl,Stp.refl _ _⟩
 rw [if_neg h4]
 generalize hR:Z0l nlM s (s.length+1) 0 []=R
 repeat'(first|refine W1 ?_|omega|refine VG ?_ ?_<;>intro hg|refine VC ?_ ?_<;>intro hc)
 refine ZeE ?_
 repeat'(first|refine W1 ?_|omega|refine VG ?_ ?_<;>intro hg|refine VC ?_ ?_<;>intro hc)
 refine Zr (σ:=Nat×Nat×List Tkn×Value) (fun q=>[(0,str s),(5,q.2.2.2),(6,.int .i64 (q.2.1:Int))])
  (fun q w'=>Z0l nlM s q.1 q.2.1 q.2.2.1=R∧s.length<q.2.1+q.1∧q.2.1≤s.length∧q.2.2.1.length≤q.2.1∧J8 167 w w' q.2.2.2 q.2.2.1)
  (fun q=>q.1) (s.length+1,0,[],.slice none 0 0) ⟨rfl,rfl,rfl,trivial⟩ ⟨hR,by dsimp only;omega,Xo _,Xl _,J8.nil⟩ ?_
 clear hR
 rintro ⟨f,q,l,lv⟩ w1 ⟨hR,hf,hq,hll,hrow⟩
 dsimp only at hR hf hq hll hrow ⊢
 have hrow0:=hrow
 cases f with
 | zero=>omega
 | succ f=>
 simp only [Z0l] at hR
 by_cases hlt:q<s.length
 rotate_left
 · rw [if_neg hlt] at hR
   subst hR
   repeat'(first|refine W1 ?_|omega|refine VG ?_ ?_<;>intro hg|refine VC ?_ ?_<;>intro hc)
   refine Z6 (vs:=[(0,.int .i64 0),(1,.int .i64 (q:Int))]) rfl (tk1 _ _) rfl ?_
   refine Z1 (Z0 (vs:=[(0,.agg (Z9.enc (⟨0,(q:Int),[],0⟩:Tkn)).toArray)]) rfl (Z39 _)) rfl ?_
   intro bv w3 hN
   have hbv:SlV (ob lv) w3 bv [(⟨0,(q:Int),[],0⟩:Tkn)]:=hN.slv (fun b hb=>(hrow.ob_le b hb).2) rfl rfl (by simp [maxLen])
   replace hrow:=hrow.up (Z5.stp hN)
   clear hN
   refine Z1 (Jp rfl (by decide) rfl rfl hrow hbv (by simp only [Xc,Xd];omega) (by simp only [Xc,Xd,maxLen];omega)) rfl ?_
   rintro lv' w4 ⟨hrow',hT,hown⟩
   repeat'(first|refine W1 ?_|omega|refine VG ?_ ?_<;>intro hg|refine VC ?_ ?_<;>intro hc)
   repeat (first|refine JG ?_|refine W1 ?_)
   refine WR ?_
   exact .mk ⟨⟨lv',rfl,hrow'⟩,hrow'.2⟩
 rw [if_pos hlt] at hR
 have hne:s.drop q≠[]:=fun h=>by have:=congrArg List.length h;simp at this;omega
 have hdl:(s.drop q).length≠0:=fun h=>hne (XD.1 h)
 have hdl2:(s.drop q).length≤1000000:=by simp;omega
 have hLG1:=hLG.up hrow.2
 have hv41:=hrow.2.cell (by simp) hv4
 repeat'(first|refine W1 ?_|omega|refine VG ?_ ?_<;>intro hg|refine VC ?_ ?_<;>intro hc)
 refine Z8L (l:=q) rfl rfl rfl (by omega) rfl ?_
 repeat'(first|refine W1 ?_|omega|refine VG ?_ ?_<;>intro hg|refine VC ?_ ?_<;>intro hc)
 have hby:Z0o (s.drop q) 0=(((s.drop q).getD 0 0).toNat:Int):=rfl
 have hbr:=Z5O (s.drop q) 0
 refine Z01 (i:=0) rfl rfl rfl (by omega) rfl ?_
 refine Zd (Z3l (b:=Z0o (s.drop q) 0) rfl (Z5o hbr.1 (by omega))) rfl ?_
 rw [hby]
 repeat'(first|refine W1 ?_|omega|refine VG ?_ ?_<;>intro hg|refine VC ?_ ?_<;>intro hc)
 refine CL rfl (Zb rfl rfl) rfl (Z8e ((s.drop q).getD 0 0) _) ?_
 rintro _ w2 ⟨rfl,hT⟩
 replace hrow:=hrow.up hT
 replace hLG1:=hLG1.up hT
 replace hv41:=hT.cell (by simp) hv41
 have hrow0:=hrow
 clear hT
 cases hsp:Z4R ((s.drop q).getD 0 0)
 rotate_left
 · rw [if_pos hsp] at hR
   repeat'(first|refine W1 ?_|omega|refine VG ?_ ?_<;>intro hg|refine VC ?_ ?_<;>intro hc)
   repeat (first|refine JL ?_|refine W1 ?_)
   exact Zg (f,q+1,l,lv) ⟨rfl,rfl,rfl,trivial⟩ ⟨hR,by dsimp only;omega,by dsimp only;omega,by dsimp only;omega,hrow⟩ (by dsimp only;omega)
 rw [if_neg (by rw [hsp];decide)] at hR
 have hns:(s.drop q).getD 0 0≠32:=fun h=>by rw [h] at hsp;exact absurd hsp (by decide)
 by_cases h35:(s.drop q).getD 0 0=35
 · rw [if_pos h35] at hR
   have hnp:=ZgC h35
   have hnl:nlM (s.drop q)≤(s.drop q).length:=Z75 _ _ _ _
   have hnl2:(s.drop q).length=s.length - q:=by simp
   rw [h35]
   have h35':(((35:UInt8).toNat:Nat):Int)=35:=rfl
   rw [h35']
   repeat'(first|refine W1 ?_|omega|refine VG ?_ ?_<;>intro hg|refine VC ?_ ?_<;>intro hc)
   refine CL rfl (Zb rfl rfl) rfl (Z4T Z67 ZkY (s.drop q) _ hdl2) ?_
   rintro _ w3 ⟨rfl,hT⟩
   replace hrow:=hrow.up hT
   have hnlm:JF (s.drop q) Z67 (s.drop q).length 0=nlM (s.drop q):=rfl
   rw [hnlm]
   repeat'(first|refine W1 ?_|omega|refine VG ?_ ?_<;>intro hg|refine VC ?_ ?_<;>intro hc)
   repeat (first|refine JL ?_|refine W1 ?_)
   exact Zg (f,q+nlM (s.drop q),l,lv) ⟨rfl,rfl,rfl,trivial⟩ ⟨hR,by dsimp only;omega,by dsimp only;omega,by dsimp only;omega,hrow⟩ (by dsimp only;omega)
 rw [if_neg h35] at hR
 have hn35:¬ ((((s.drop q).getD 0 0).toNat:Nat):Int)=35:=fun h=>h35 (by
  have h35':(35:UInt8).toNat=35:=rfl
  exact UInt8.toNat_inj.1 (by omega))
 repeat'(first|refine W1 ?_|omega|refine VG ?_ ?_<;>intro hg|refine VC ?_ ?_<;>intro hc)
 refine CL rfl (Zm rfl) rfl (Z68 ((s.drop q).getD 0 0).toNat _) ?_
 rintro _ wv ⟨rfl,hwv⟩
 subst wv
 have hlb:Z81 ((s.drop q).getD 0 0).toNat=Zcj ((s.drop q).getD 0 0):=rfl
 rw [hlb]
 cases hlt1:Zcj ((s.drop q).getD 0 0)
 rotate_left
 · have hrd:Z0R (s.drop q)=Z4i (s.drop q):=by unfold Z0R;simp only [hlt1,if_true]
   repeat'(first|refine W1 ?_|omega|refine VG ?_ ?_<;>intro hg|refine VC ?_ ?_<;>intro hc)
   cases hr:Z0R (s.drop q) with
   | err e=>
     rw [hr] at hR
     subst hR
     have he:=Z2g hr
     refine CL rfl (Zm rfl) rfl (Z7h (s.drop q) _ hdl2) ?_
     rintro _ w4 ⟨rfl,hT⟩
     rw [← hrd,hr]
     simp only [lxV]
     repeat'(first|refine W1 ?_|omega|refine VG ?_ ?_<;>intro hg|refine VC ?_ ?_<;>intro hc)
     refine Z1 Z7 rfl ?_
     rintro _ w5 ⟨b10,rfl,hb10,e10,hT2⟩
     refine Z2 (Z3 (us:=Z9.enc (⟨0,0,[],0⟩:Tkn)) rfl rfl rfl rfl (Z9.one _) e10 rfl) ?_
     rintro _ w6 ⟨hT3,e10'⟩
     have hSS:=(hrow.2.trans hT).trans (hT2.own hT3 (fun c hc=>.inr (by simp at hc;omega)))
     repeat'(first|refine W1 ?_|omega|refine VG ?_ ?_<;>intro hg|refine VC ?_ ?_<;>intro hc)
     repeat (first|refine JG ?_|refine W1 ?_)
     refine WR ?_
     exact .mk ⟨rfl,hSS⟩
   | ok t=>
     rw [hr] at hR
     simp only at hR
     have hrok:=Z33 hne hns hr
     have htpos:t.text.length≠0:=fun h=>hrok.1.text (XD.1 h)
     have htle:t.text.length≤s.length - q:=by have:=hrok.2.1;simpa using this
     refine CL rfl (Zm rfl) rfl (Z7h (s.drop q) _ hdl2) ?_
     rintro _ w4 ⟨rfl,hT⟩
     rw [← hrd,hr]
     simp only [lxV]
     replace hrow:=hrow.up hT
     clear hT
     repeat'(first|refine W1 ?_|omega|refine VG ?_ ?_<;>intro hg|refine VC ?_ ?_<;>intro hc)
     refine Z1 Z7 rfl ?_
     rintro _ w5 ⟨b10,rfl,hb10,e10,hT⟩
     refine Z2 (Z3 (us:=Z9.enc t) rfl rfl rfl rfl (Z9.one _) e10 rfl) ?_
     rintro _ w6 ⟨hT2,e10'⟩
     have hTT:=hT.own hT2 (fun c hc=>.inr (by simp at hc;omega))
     have hn10:b10∉ob lv:=fun h=>by have:=(hrow.ob_le b10 h).2;omega
     clear hT hT2 e10
     repeat'(first|refine W1 ?_|omega|refine VG ?_ ?_<;>intro hg|refine VC ?_ ?_<;>intro hc)
     refine Z2 (Ze (u:=.int .i64 (q:Int)) rfl rfl rfl rfl e10' (by simp [Z9.enc])) ?_
     rintro _ w7 ⟨hT,e11⟩
     replace e11:Blk w7 b10 167 (Z9.enc ({ t with pos:=(q:Int) }:Tkn)):=e11
     replace hrow:J8 167 w w7 lv l:=hrow.up (hTT.own hT (fun c hc=>.inr (by simp at hc;omega)))
     clear hT e10'
     repeat'(first|refine W1 ?_|omega|refine VG ?_ ?_<;>intro hg|refine VC ?_ ?_<;>intro hc)
     refine Z1 (Z0 (vs:=[(0,.agg (Z9.enc ({ t with pos:=(q:Int) }:Tkn)).toArray)]) rfl (Z39 _)) rfl ?_
     intro bv w8 hN
     have hbv:SlV (ob lv) w8 bv [({ t with pos:=(q:Int) }:Tkn)]:=hN.slv (fun b hb=>(hrow.ob_le b hb).2) rfl rfl (by simp [maxLen])
     replace hrow:=hrow.up (Z5.stp hN)
     replace e11:=e11.up (Z5.stp hN)
     clear hN
     refine Z1 (Jp rfl (by decide) rfl rfl hrow hbv (by simp only [Xc,Xd];omega) (by simp only [Xc,Xd,maxLen];omega)) rfl ?_
     rintro lv' w9 ⟨hrow',hT,hown⟩
     replace e11:=e11.ext hT hn10
     clear hT
     have htx:({ t with pos:=(q:Int) }:Tkn).text.length=t.text.length:=rfl
     repeat'(first|refine W1 ?_|omega|refine VG ?_ ?_<;>intro hg|refine VC ?_ ?_<;>intro hc)
     repeat (first|refine JL ?_|refine W1 ?_)
     exact Zg (f,q+t.text.length,l++[{ t with pos:=(q:Int) }],lv') ⟨rfl,rfl,rfl,trivial⟩ ⟨hR,by dsimp only;omega,by dsimp only;omega,by simp;omega,hrow'⟩ (by dsimp only;omega)
 repeat'(first|refine W1 ?_|omega|refine VG ?_ ?_<;>intro hg|refine VC ?_ ?_<;>intro hc)
 refine CL rfl (Zm rfl) rfl (Z3r ((s.drop q).getD 0 0).toNat _) ?_
 rintro _ wv ⟨rfl,hwv⟩
 subst wv
 have hdb:Z4S ((s.drop q).getD 0 0).toNat=J0 ((s.drop q).getD 0 0):=rfl
 rw [hdb]
 cases hdg:J0 ((s.drop q).getD 0 0)
 rotate_left
 · have hrd:Z0R (s.drop q)=Z3q (s.drop q):=by unfold Z0R;simp only [hlt1,hdg,if_true,XE,if_false]
   repeat'(first|refine W1 ?_|omega|refine VG ?_ ?_<;>intro hg|refine VC ?_ ?_<;>intro hc)
   cases hr:Z0R (s.drop q) with
   | err e=>
     rw [hr] at hR
     subst hR
     have he:=Z2g hr
     refine CL rfl (Zm rfl) rfl (Z5n (s.drop q) ev _ hdl2 hdg hne hv41 hev) ?_
     rintro _ w4 ⟨rfl,hT⟩
     rw [← hrd,hr]
     simp only [lxV]
     repeat'(first|refine W1 ?_|omega|refine VG ?_ ?_<;>intro hg|refine VC ?_ ?_<;>intro hc)
     refine Z1 Z7 rfl ?_
     rintro _ w5 ⟨b10,rfl,hb10,e10,hT2⟩
     refine Z2 (Z3 (us:=Z9.enc (⟨0,0,[],0⟩:Tkn)) rfl rfl rfl rfl (Z9.one _) e10 rfl) ?_
     rintro _ w6 ⟨hT3,e10'⟩
     have hSS:=(hrow.2.trans hT).trans (hT2.own hT3 (fun c hc=>.inr (by simp at hc;omega)))
     repeat'(first|refine W1 ?_|omega|refine VG ?_ ?_<;>intro hg|refine VC ?_ ?_<;>intro hc)
     repeat (first|refine JG ?_|refine W1 ?_)
     refine WR ?_
     exact .mk ⟨rfl,hSS⟩
   | ok t=>
     rw [hr] at hR
     simp only at hR
     have hrok:=Z33 hne hns hr
     have htpos:t.text.length≠0:=fun h=>hrok.1.text (XD.1 h)
     have htle:t.text.length≤s.length - q:=by have:=hrok.2.1;simpa using this
     refine CL rfl (Zm rfl) rfl (Z5n (s.drop q) ev _ hdl2 hdg hne hv41 hev) ?_
     rintro _ w4 ⟨rfl,hT⟩
     rw [← hrd,hr]
     simp only [lxV]
     replace hrow:=hrow.up hT
     clear hT
     repeat'(first|refine W1 ?_|omega|refine VG ?_ ?_<;>intro hg|refine VC ?_ ?_<;>intro hc)
     refine Z1 Z7 rfl ?_
     rintro _ w5 ⟨b10,rfl,hb10,e10,hT⟩
     refine Z2 (Z3 (us:=Z9.enc t) rfl rfl rfl rfl (Z9.one _) e10 rfl) ?_
     rintro _ w6 ⟨hT2,e10'⟩
     have hTT:=hT.own hT2 (fun c hc=>.inr (by simp at hc;omega))
     have hn10:b10∉ob lv:=fun h=>by have:=(hrow.ob_le b10 h).2;omega
     clear hT hT2 e10
     repeat'(first|refine W1 ?_|omega|refine VG ?_ ?_<;>intro hg|refine VC ?_ ?_<;>intro hc)
     refine Z2 (Ze (u:=.int .i64 (q:Int)) rfl rfl rfl rfl e10' (by simp [Z9.enc])) ?_
     rintro _ w7 ⟨hT,e11⟩
     replace e11:Blk w7 b10 167 (Z9.enc ({ t with pos:=(q:Int) }:Tkn)):=e11
     replace hrow:J8 167 w w7 lv l:=hrow.up (hTT.own hT (fun c hc=>.inr (by simp at hc;omega)))
     clear hT e10'
     repeat'(first|refine W1 ?_|omega|refine VG ?_ ?_<;>intro hg|refine VC ?_ ?_<;>intro hc)
     refine Z1 (Z0 (vs:=[(0,.agg (Z9.enc ({ t with pos:=(q:Int) }:Tkn)).toArray)]) rfl (Z39 _)) rfl ?_
     intro bv w8 hN
     have hbv:SlV (ob lv) w8 bv [({ t with pos:=(q:Int) }:Tkn)]:=hN.slv (fun b hb=>(hrow.ob_le b hb).2) rfl rfl (by simp [maxLen])
     replace hrow:=hrow.up (Z5.stp hN)
     replace e11:=e11.up (Z5.stp hN)
     clear hN
     refine Z1 (Jp rfl (by decide) rfl rfl hrow hbv (by simp only [Xc,Xd];omega) (by simp only [Xc,Xd,maxLen];omega)) rfl ?_
     rintro lv' w9 ⟨hrow',hT,hown⟩
     replace e11:=e11.ext hT hn10
     clear hT
     have htx:({ t with pos:=(q:Int) }:Tkn).text.length=t.text.length:=rfl
     repeat'(first|refine W1 ?_|omega|refine VG ?_ ?_<;>intro hg|refine VC ?_ ?_<;>intro hc)
     repeat (first|refine JL ?_|refine W1 ?_)
     exact Zg (f,q+t.text.length,l++[{ t with pos:=(q:Int) }],lv') ⟨rfl,rfl,rfl,trivial⟩ ⟨hR,by dsimp only;omega,by dsimp only;omega,by simp;omega,hrow'⟩ (by dsimp only;omega)
 by_cases h64:(s.drop q).getD 0 0=64
 · have hrd:Z0R (s.drop q)=Z80 (s.drop q):=by
    unfold Z0R
    simp only [hlt1,hdg,XE,if_false]
    rw [if_pos h64]
   rw [h64]
   have h64':(((64:UInt8).toNat:Nat):Int)=64:=rfl
   rw [h64']
   repeat'(first|refine W1 ?_|omega|refine VG ?_ ?_<;>intro hg|refine VC ?_ ?_<;>intro hc)
   cases hr:Z0R (s.drop q) with
   | err e=>
     rw [hr] at hR
     subst hR
     have he:=Z2g hr
     refine CL rfl (Zm rfl) rfl (Zbt (s.drop q) _ hLG1 hdl2) ?_
     rintro _ w4 ⟨rfl,hT⟩
     rw [← hrd,hr]
     simp only [lxV]
     repeat'(first|refine W1 ?_|omega|refine VG ?_ ?_<;>intro hg|refine VC ?_ ?_<;>intro hc)
     refine Z1 Z7 rfl ?_
     rintro _ w5 ⟨b10,rfl,hb10,e10,hT2⟩
     refine Z2 (Z3 (us:=Z9.enc (⟨0,0,[],0⟩:Tkn)) rfl rfl rfl rfl (Z9.one _) e10 rfl) ?_
     rintro _ w6 ⟨hT3,e10'⟩
     have hSS:=(hrow.2.trans hT).trans (hT2.own hT3 (fun c hc=>.inr (by simp at hc;omega)))
     repeat'(first|refine W1 ?_|omega|refine VG ?_ ?_<;>intro hg|refine VC ?_ ?_<;>intro hc)
     repeat (first|refine JG ?_|refine W1 ?_)
     refine WR ?_
     exact .mk ⟨rfl,hSS⟩
   | ok t=>
     rw [hr] at hR
     simp only at hR
     have hrok:=Z33 hne hns hr
     have htpos:t.text.length≠0:=fun h=>hrok.1.text (XD.1 h)
     have htle:t.text.length≤s.length - q:=by have:=hrok.2.1;simpa using this
     refine CL rfl (Zm rfl) rfl (Zbt (s.drop q) _ hLG1 hdl2) ?_
     rintro _ w4 ⟨rfl,hT⟩
     rw [← hrd,hr]
     simp only [lxV]
     replace hrow:=hrow.up hT
     clear hT
     repeat'(first|refine W1 ?_|omega|refine VG ?_ ?_<;>intro hg|refine VC ?_ ?_<;>intro hc)
     refine Z1 Z7 rfl ?_
     rintro _ w5 ⟨b10,rfl,hb10,e10,hT⟩
     refine Z2 (Z3 (us:=Z9.enc t) rfl rfl rfl rfl (Z9.one _) e10 rfl) ?_
     rintro _ w6 ⟨hT2,e10'⟩
     have hTT:=hT.own hT2 (fun c hc=>.inr (by simp at hc;omega))
     have hn10:b10∉ob lv:=fun h=>by have:=(hrow.ob_le b10 h).2;omega
     clear hT hT2 e10
     repeat'(first|refine W1 ?_|omega|refine VG ?_ ?_<;>intro hg|refine VC ?_ ?_<;>intro hc)
     refine Z2 (Ze (u:=.int .i64 (q:Int)) rfl rfl rfl rfl e10' (by simp [Z9.enc])) ?_
     rintro _ w7 ⟨hT,e11⟩
     replace e11:Blk w7 b10 167 (Z9.enc ({ t with pos:=(q:Int) }:Tkn)):=e11
     replace hrow:J8 167 w w7 lv l:=hrow.up (hTT.own hT (fun c hc=>.inr (by simp at hc;omega)))
     clear hT e10'
     repeat'(first|refine W1 ?_|omega|refine VG ?_ ?_<;>intro hg|refine VC ?_ ?_<;>intro hc)
     refine Z1 (Z0 (vs:=[(0,.agg (Z9.enc ({ t with pos:=(q:Int) }:Tkn)).toArray)]) rfl (Z39 _)) rfl ?_
     intro bv w8 hN
     have hbv:SlV (ob lv) w8 bv [({ t with pos:=(q:Int) }:Tkn)]:=hN.slv (fun b hb=>(hrow.ob_le b hb).2) rfl rfl (by simp [maxLen])
     replace hrow:=hrow.up (Z5.stp hN)
     replace e11:=e11.up (Z5.stp hN)
     clear hN
     refine Z1 (Jp rfl (by decide) rfl rfl hrow hbv (by simp only [Xc,Xd];omega) (by simp only [Xc,Xd,maxLen];omega)) rfl ?_
     rintro lv' w9 ⟨hrow',hT,hown⟩
     replace e11:=e11.ext hT hn10
     clear hT
     have htx:({ t with pos:=(q:Int) }:Tkn).text.length=t.text.length:=rfl
     repeat'(first|refine W1 ?_|omega|refine VG ?_ ?_<;>intro hg|refine VC ?_ ?_<;>intro hc)
     repeat (first|refine JL ?_|refine W1 ?_)
     exact Zg (f,q+t.text.length,l++[{ t with pos:=(q:Int) }],lv') ⟨rfl,rfl,rfl,trivial⟩ ⟨hR,by dsimp only;omega,by dsimp only;omega,by simp;omega,hrow'⟩ (by dsimp only;omega)
 have hrd:Z0R (s.drop q)=JW (s.drop q):=by
  unfold Z0R
  simp only [hlt1,hdg,XE,if_false]
  rw [if_neg h64]
 have hn64:¬ ((((s.drop q).getD 0 0).toNat:Nat):Int)=64:=fun h=>h64 (by
  have h64':(64:UInt8).toNat=64:=rfl
  exact UInt8.toNat_inj.1 (by omega))
 repeat'(first|refine W1 ?_|omega|refine VG ?_ ?_<;>intro hg|refine VC ?_ ?_<;>intro hc)
 cases hr:Z0R (s.drop q) with
 | err e=>
   rw [hr] at hR
   subst hR
   have he:=Z2g hr
   refine CL rfl (Zm rfl) rfl (Z6n (s.drop q) _ hne) ?_
   rintro _ w4 ⟨rfl,hT⟩
   rw [← hrd,hr]
   simp only [lxV]
   repeat'(first|refine W1 ?_|omega|refine VG ?_ ?_<;>intro hg|refine VC ?_ ?_<;>intro hc)
   refine Z1 Z7 rfl ?_
   rintro _ w5 ⟨b10,rfl,hb10,e10,hT2⟩
   refine Z2 (Z3 (us:=Z9.enc (⟨0,0,[],0⟩:Tkn)) rfl rfl rfl rfl (Z9.one _) e10 rfl) ?_
   rintro _ w6 ⟨hT3,e10'⟩
   have hSS:=(hrow.2.trans hT).trans (hT2.own hT3 (fun c hc=>.inr (by simp at hc;omega)))
   repeat'(first|refine W1 ?_|omega|refine VG ?_ ?_<;>intro hg|refine VC ?_ ?_<;>intro hc)
   repeat (first|refine JG ?_|refine W1 ?_)
   refine WR ?_
   exact .mk ⟨rfl,hSS⟩
 | ok t=>
   rw [hr] at hR
   simp only at hR
   have hrok:=Z33 hne hns hr
   have htpos:t.text.length≠0:=fun h=>hrok.1.text (XD.1 h)
   have htle:t.text.length≤s.length - q:=by have:=hrok.2.1;simpa using this
   refine CL rfl (Zm rfl) rfl (Z6n (s.drop q) _ hne) ?_
   rintro _ w4 ⟨rfl,hT⟩
   rw [← hrd,hr]
   simp only [lxV]
   replace hrow:=hrow.up hT
   clear hT
   repeat'(first|refine W1 ?_|omega|refine VG ?_ ?_<;>intro hg|refine VC ?_ ?_<;>intro hc)
   refine Z1 Z7 rfl ?_
   rintro _ w5 ⟨b10,rfl,hb10,e10,hT⟩
   refine Z2 (Z3 (us:=Z9.enc t) rfl rfl rfl rfl (Z9.one _) e10 rfl) ?_
   rintro _ w6 ⟨hT2,e10'⟩
   have hTT:=hT.own hT2 (fun c hc=>.inr (by simp at hc;omega))
   have hn10:b10∉ob lv:=fun h=>by have:=(hrow.ob_le b10 h).2;omega
   clear hT hT2 e10
   repeat'(first|refine W1 ?_|omega|refine VG ?_ ?_<;>intro hg|refine VC ?_ ?_<;>intro hc)
   refine Z2 (Ze (u:=.int .i64 (q:Int)) rfl rfl rfl rfl e10' (by simp [Z9.enc])) ?_
   rintro _ w7 ⟨hT,e11⟩
   replace e11:Blk w7 b10 167 (Z9.enc ({ t with pos:=(q:Int) }:Tkn)):=e11
   replace hrow:J8 167 w w7 lv l:=hrow.up (hTT.own hT (fun c hc=>.inr (by simp at hc;omega)))
   clear hT e10'
   repeat'(first|refine W1 ?_|omega|refine VG ?_ ?_<;>intro hg|refine VC ?_ ?_<;>intro hc)
   refine Z1 (Z0 (vs:=[(0,.agg (Z9.enc ({ t with pos:=(q:Int) }:Tkn)).toArray)]) rfl (Z39 _)) rfl ?_
   intro bv w8 hN
   have hbv:SlV (ob lv) w8 bv [({ t with pos:=(q:Int) }:Tkn)]:=hN.slv (fun b hb=>(hrow.ob_le b hb).2) rfl rfl (by simp [maxLen])
   replace hrow:=hrow.up (Z5.stp hN)
   replace e11:=e11.up (Z5.stp hN)
   clear hN
   refine Z1 (Jp rfl (by decide) rfl rfl hrow hbv (by simp only [Xc,Xd];omega) (by simp only [Xc,Xd,maxLen];omega)) rfl ?_
   rintro lv' w9 ⟨hrow',hT,hown⟩
   replace e11:=e11.ext hT hn10
   clear hT
   have htx:({ t with pos:=(q:Int) }:Tkn).text.length=t.text.length:=rfl
   repeat'(first|refine W1 ?_|omega|refine VG ?_ ?_<;>intro hg|refine VC ?_ ?_<;>intro hc)
   repeat (first|refine JL ?_|refine W1 ?_)
   exact Zg (f,q+t.text.length,l++[{ t with pos:=(q:Int) }],lv') ⟨rfl,rfl,rfl,trivial⟩ ⟨hR,by dsimp only;omega,by dsimp only;omega,by simp;omega,hrow'⟩ (by dsimp only;omega)
end Go.Proofs.YtjdjdoefppebkaaGreatDoor
namespace Go.Eng
open Go Go.RowKit Go.Proofs
theorem Z1U {nl:Str→Nat} {s:Str}:∀ (f at_:Nat) (l:List Tkn) (a c:Int),Z0l nl s f at_ l=.err a c→c≠0
 | 0,at_,l,a,c,h=>by simp [Z0l] at h
 | f + 1, at_, l, a, c, h => by
   simp only [Z0l] at h
   split at h
   split at h
   exact Z1U f _ _ _ _ h
   split at h
   exact Z1U f _ _ _ _ h
   · cases hr:Z0R (s.drop at_) with
     | err e=>
       rw [hr] at h
       simp only [Tks.err.injEq] at h
       obtain ⟨_,rfl⟩:=h
       exact Z2g hr
     | ok t=>
       rw [hr] at h
       exact Z1U f _ _ _ _ h
   simp at h
theorem Z9y {s:Str} {a c:Int} (h:Z1S s=.err a c):c≠0:=by
 unfold Z1S at h
 split at h
 simp only [Tks.err.injEq] at h;omega
 exact Z1U _ _ _ _ _ h
theorem Z8f {s:Str} {l:List Tkn} (h:Z1S s=.ok l):Z32 l∧∃ l1 p,l=l1++[⟨0,p,[],0⟩]∧∀ t∈l1,Zel t:=by
 unfold Z1S at h
 split at h
 cases h
 rename_i hl
 obtain ⟨l1,p,rfl,h1,h2,h3⟩:=Z2w (nl:=nlM) (s:=s) (by omega) (s.length+1) 0 [] l (by simp) (by simp) (by simp) (by simp) h
 exact ⟨Zgp h1 h2 (by omega),l1,p,rfl,h1⟩
end Go.Eng
namespace Go.Proofs.YtjdjdoefppebkaaGreatDoor
open Go Go.Eng Go.RowKit Go.Proofs
theorem ZgD (a c:Int) (w:World):(Instr.typeAssert (Z3C a c) 20 210 true).run Tryz.prog w=.ok (.tuple #[.agg #[.int .i64 a,.int .i64 c],.bool true]) w:=by kernel_rfl
theorem ZgE (w:World):(Instr.typeAssert .nilIface 20 210 true).run Tryz.prog w=.ok (.tuple #[.agg #[.int .i64 0,.int .i64 0],.bool false]) w:=by kernel_rfl
theorem Z3a {w w':World} {b T:Nat} {cs:List Value} (hS:Stp [b] w w') (h:Blk w b T cs) (h':Blk w' b T cs):Stp [] w w':=
 ⟨hS.os, hS.tape, hS.output, hS.size, fun k hk _ => by
   by_cases hb:k=b
   subst hb
   rw [h,h']
   exact hS.block k hk (by simpa using hb)⟩
theorem ZgF (p:Option Addr) (l c:Nat) (w:World):(Instr.build 170 #[(0,.slice p l c)]).run Tryz.prog w=.ok (.agg #[.slice p l c,.int .i64 0,.int .i64 0]) w:=by kernel_rfl
end Go.Proofs.YtjdjdoefppebkaaGreatDoor
namespace Go.Eng
open Go Go.RowKit Go.Proofs
inductive PsE where
 | err (a c:Int)
 | ok (x:Nd)
def Z0I (s:Str):PsE:=
 match Z1S s with
 | .err a c=>.err a c
 | .ok l => match Z4Q l 0 0 with
   | .err a c=>.err a c
   | .ok x i _=>if (cur l i).kind=0 then .ok x else .err (cur l i).pos 20
def zC:List Value:=[.int .i64 0,.int .i64 0,str [],.slice none 0 0]
theorem ZaA:∀ c∈zC,c.oneCell'=true:=by
 intro c hc
 simp only [zC,Xe,Xm,or_false] at hc
 rcases hc with rfl|rfl|rfl|rfl<;>rfl
theorem Z2B {P:Program} {w:World} {fn:Func} {a:Act} {t1 t2 t3 T1 T2 T3 b1 b2 b3 S1 S2 S3 m:Nat} {D1 D2 D3:TypeDesc} {c1:List Value} {v2 v3:Value} (hr:fn.results=#[.cell t1 T1,.cell t2 T2,.cell t3 T3]) [hu1:Und P T1 D1] [hs1:Siz P T1 m] [hu2:Und P T2 D2] [hu3:Und P T3 D3] (hA1:Z06 D1=true) (hA2:Z06 D2=false) (hA3:Z06 D3=false)
 (h1:a.tmps.getD t1 undef=.pointer (some ⟨b1,0,none⟩)) (h2:a.tmps.getD t2 undef=.pointer (some ⟨b2,0,none⟩)) (h3:a.tmps.getD t3 undef=.pointer (some ⟨b3,0,none⟩))
 (e1:Blk w b1 S1 c1) (hl1:c1.length=m) (e2:Blk w b2 S2 [v2]) (e3:Blk w b3 S3 [v3]):(results fn a.tmps).run P w=.ok (.tuple #[.agg c1.toArray,v2,v3]) w:=by
 rw [Xv] at h1 h2 h3
 simp [results,hr,h1,h2,h3,asAddr,Z08 hA1 e1 hl1,Z7g hA2 e2,Z7g hA3 e3]
theorem Z7j {P:Program} {n:Nat} {fn:Func} {R:Ending→World→Prop} {e:Env} {w:World} {t b T T' m s s2:Nat} {D:TypeDesc} {cs:List Value} {v v2:Value} (hr:fn.results=#[.cell t T',.tmp s,.tmp s2]) [hu:Und P T' D] (hA:Z06 D=true) [hs:Siz P T' m] (ht:look e t=some (.pointer (some ⟨b,0,none⟩))) (hb:Blk w b T cs) (hl:cs.length=m)
 (hv:look e s=some v) (hv2:look e s2=some v2) (h:R (.returned (.tuple #[.agg cs.toArray,v,v2])) w):WQ n (bodyPost P fn R) .ret e w:=
 ⟨fun a ha => ⟨ha.defers, .tuple #[.agg cs.toArray, v, v2], by
   have h1:=ha.vals _ _ ht
   have h2:=ha.vals _ _ hv
   have h3:=ha.vals _ _ hv2
   rw [Xv] at h1 h2 h3
   simp [results,hr,h1,h2,h3,asAddr,Z08 hA hb hl],h⟩⟩
end Go.Eng
namespace Go.Proofs.YtjdjdoefppebkaaGreatDoor
open Go Go.Eng Go.RowKit Go.Proofs
def ZnQ (X:List Nat) (w':World) (r:Value):PsE→Prop
 | .err a c=>r=.tuple #[.agg zC.toArray,.int .i64 a,.int .i64 c]
 | .ok x=>∃ kv,r=.tuple #[.agg (ndC x kv).toArray,.int .i64 0,.int .i64 0]∧SlV X w' kv x.kids
theorem Z5p (a c:Int) (b7 b4 b5 b6:Nat) (c4:List Value) (v5 v6:Value) (w:World) (e7:Blk w b7 27 zC) (e4:Blk w b4 27 c4) (e5:Blk w b5 3 [v5]) (e6:Blk w b6 41 [v6])
 (h4:c4.length=4) (n74:b7≠b4) (n75:b7≠b5) (n76:b7≠b6) (n45:b4≠b5) (n46:b4≠b6) (n56:b5≠b6) :
 CallsD Tryz.prog 118 #[.pointer (some ⟨b7,0,none⟩),.pointer (some ⟨b4,0,none⟩),.pointer (some ⟨b5,0,none⟩),.pointer (some ⟨b6,0,none⟩)] (.panicking [⟨Z3C a c,false,false⟩]) w
  (fun e u' w'=>∃ v,e=.returned v∧(u'=.panicking [⟨Z3C a c,true,false⟩]∧Blk w' b4 27 zC∧Blk w' b5 3 [.int .i64 a]∧Blk w' b6 41 [.int .i64 c]∧Stp [b4,b5,b6] w w')):=by
 refine callsD_of_wpS Tryz.func118 rfl fun c₀ cs hu=>?_
 apply wpS_seq
 apply wpS_region
 simp [wpOpsS,go_sem,recoverD,hu,Tryz.ntmps118,Exit.thenS]
 refine Z7e (n:=22) (e:=[(0,.pointer (some ⟨b7,0,none⟩)),(1,.pointer (some ⟨b4,0,none⟩)),(2,.pointer (some ⟨b5,0,none⟩)),(3,.pointer (some ⟨b6,0,none⟩)),(4,Z3C a c)]) (Has.of rfl (by simp) (by
  intro p hp
  simp only [Xe,Xm,or_false] at hp
  rcases hp with rfl|rfl|rfl|rfl|rfl<;>kernel_rfl)) ?_
 refine W ?_
 refine Zd (Z3D rfl (ZgD a c)) rfl ?_
 refine W ?_
 refine Z1 Z7 rfl ?_
 rintro _ w1 ⟨bf,rfl,hbf,ef,hT⟩
 refine Z2 (Z3 (us:=[.int .i64 a,.int .i64 c]) rfl rfl rfl rfl (by intro u hu;simp at hu;rcases hu with rfl|rfl<;>rfl) ef rfl) ?_
 rintro _ w2 ⟨hT2,ef'⟩
 have nf7:=e7.lt
 have nf4:=e4.lt
 have nf5:=e5.lt
 have nf6:=e6.lt
 have hS:=hT.own hT2 (fun c hc=>.inr (by simp at hc;omega))
 clear hT hT2 ef
 replace e7:=e7.up hS;replace e4:=e4.up hS;replace e5:=e5.up hS;replace e6:=e6.up hS
 refine W ?_
 refine ZDr 8 ([b4,b5,b6]) [] [(0,1),(1,0),(2,1),(3,0),(4,1),(5,2),(6,2),(7,2)] (fun w1 hS1=>?_)
 replace e7:=e7.up hS1;replace e4:=e4.up hS1;replace e5:=e5.up hS1;replace e6:=e6.up hS1
 replace ef':=ef'.up hS1
 replace hS:=hS.trans hS1
 clear hS1
 have m7:b7∉[b4,b5,b6]:=by simp;exact ⟨n74,n75,n76⟩
 have mf:bf∉[b4,b5,b6]:=by simp;omega
 refine Z2p rfl trivial rfl rfl e7 m7 rfl rfl ?_
 refine JR rfl trivial rfl rfl ?_
 refine Z09 rfl trivial rfl rfl ef' mf rfl rfl ?_
 refine JR rfl trivial rfl rfl ?_
 refine Z09 rfl trivial rfl rfl ef' mf rfl rfl ?_
 refine ZD rfl trivial (Z3 (us:=zC) rfl rfl rfl rfl ZaA e4 h4.symm) (fun _ _ h=>h.1.mono (by simp)) ?_
 rintro _ w3 ⟨hT,e4'⟩
 replace e5:=e5.ext hT (by simpa using n45.symm)
 replace e6:=e6.ext hT (by simpa using n46.symm)
 replace hS:=(hS.mono (S':=[b4,b5,b6]) (by simp)).trans (hT.mono (by simp))
 clear hT
 refine ZD rfl trivial (Z3 (us:=[.int .i64 a]) rfl rfl rfl rfl (by simp;rfl) e5 rfl) (fun _ _ h=>h.1.mono (by simp)) ?_
 rintro _ w4 ⟨hT,e5'⟩
 replace e4':=e4'.ext hT (by simpa using n45)
 replace e6:=e6.ext hT (by simpa using n56.symm)
 replace hS:=hS.trans (hT.mono (by simp))
 clear hT
 refine ZD rfl trivial (Z3 (us:=[.int .i64 c]) rfl rfl rfl rfl (by simp;rfl) e6 rfl) (fun _ _ h=>h.1.mono (by simp)) ?_
 rintro _ w5 ⟨hT,e6'⟩
 replace e4':=e4'.ext hT (by simpa using n46)
 replace e5':=e5'.ext hT (by simpa using n56)
 replace hS:=hS.trans (hT.mono (by simp))
 refine Z3G ?_
 refine W ?_
 first|refine Z5x rfl ?_|refine Z5y rfl ?_
 exact ⟨⟨_,rfl⟩,rfl,e4',e5',e6',hS⟩
theorem Z9z (b7 b4 b5 b6:Nat) (w:World) :
 CallsD Tryz.prog 118 #[.pointer (some ⟨b7,0,none⟩),.pointer (some ⟨b4,0,none⟩),.pointer (some ⟨b5,0,none⟩),.pointer (some ⟨b6,0,none⟩)] .returning w
  (fun e u' w'=>∃ v,e=.returned v∧(u'=.returning∧Stp [] w w')):=by
 refine callsD_of_wpS Tryz.func118 rfl fun c₀ cs hu=>?_
 have hc:c₀={ c₀ with mode:=.returning }:=by rw [← hu]
 apply wpS_seq
 apply wpS_region
 simp [wpOpsS,go_sem,recoverD,hu,Tryz.ntmps118,Exit.thenS]
 rw [hc]
 refine Z7e (n:=22) (e:=[(0,.pointer (some ⟨b7,0,none⟩)),(1,.pointer (some ⟨b4,0,none⟩)),(2,.pointer (some ⟨b5,0,none⟩)),(3,.pointer (some ⟨b6,0,none⟩)),(4,.nilIface)]) (Has.of rfl (by simp) (by
  intro p hp
  simp only [Xe,Xm,or_false] at hp
  rcases hp with rfl|rfl|rfl|rfl|rfl<;>kernel_rfl)) ?_
 refine W ?_
 refine Zd (Z3D rfl ZgE) rfl ?_
 refine W ?_
 refine Z1 Z7 rfl ?_
 rintro _ w1 ⟨bf,rfl,hbf,ef,hT⟩
 refine Z2 (Z3 (us:=[.int .i64 0,.int .i64 0]) rfl rfl rfl rfl (by intro u hu;simp at hu;rcases hu with rfl|rfl<;>rfl) ef rfl) ?_
 rintro _ w2 ⟨hT2,ef'⟩
 have hS:=hT.own hT2 (fun c hc=>.inr (by simp at hc;omega))
 refine W ?_
 refine Zhn ⟨_,rfl⟩ rfl rfl ?_
 refine W ?_
 first|refine Z5x rfl ?_|refine Z5y rfl ?_
 exact ⟨⟨_,rfl⟩,rfl,hS⟩
set_option maxHeartbeats 2000000 in
theorem ZaB (X:List Nat) (s:Str) (er:Value) (m:Int) (w:World) (hX:∀ c∈X,c<w.heap.size) (hLG:Z0q w) (hm:w.cell? ⟨2,0,none⟩=some (.int .i64 m)) (hv4:w.cell? ⟨5,0,none⟩=some er) (hev:er=.nilIface∨∃ te pe,er=.iface te pe) (hl:s.length≤1000000) :
 CC 63 #[str s,.func (.func 64) #[] #[]] w fun r w'=>ZnQ X w' r (Z0I s)∧Stp [] w w':=by
 have h1w:2<w.heap.size:=by have:=block_lt_of_cell hm;simpa using this
 refine Z6L (n:=43) Tryz.func63 rfl rfl rfl ?_
 refine W ?_
 refine Z1 Z7 rfl ?_
 rintro _ w1 ⟨b4,rfl,hb4,e4,hS⟩
 refine W ?_
 refine Z1 Z7 rfl ?_
 rintro _ w2 ⟨b5,rfl,hb5,e5,hT⟩
 have n45:b4≠b5:=by have:=e4.lt;omega
 have g5:w.heap.size≤b5:=Xj hS.size hb5
 replace e4:=e4.up hT
 replace hS:=hS.trans hT
 refine W ?_
 refine Z1 Z7 rfl ?_
 rintro _ w3 ⟨b6,rfl,hb6,e6,hT⟩
 have n46:b4≠b6:=by have:=e4.lt;omega
 have n56:b5≠b6:=by have:=e5.lt;omega
 have g6:w.heap.size≤b6:=Xj hS.size hb6
 replace e4:=e4.up hT;replace e5:=e5.up hT
 replace hS:=hS.trans hT
 refine W ?_
 refine Z1 Z7 rfl ?_
 rintro _ w4 ⟨b7,rfl,hb7,e7,hT⟩
 have n74:b7≠b4:=by have:=e4.lt;omega
 have n75:b7≠b5:=by have:=e5.lt;omega
 have n76:b7≠b6:=by have:=e6.lt;omega
 replace e4:=e4.up hT;replace e5:=e5.up hT;replace e6:=e6.up hT
 replace hS:=hS.trans hT
 clear hT
 have g4:w.heap.size≤b4:=hb4
 have hlt4:∀ c∈[b4,b5,b6,b7],c<w4.heap.size:=fun c hc=>by
  simp only [Xe,Xm,or_false] at hc
  rcases hc with rfl|rfl|rfl|rfl
  exact e4.lt
  exact e5.lt
  exact e6.lt
  exact e7.lt
 refine W ?_
 refine CL rfl (Zm rfl) rfl (Zaz s er _ (hLG.up hS) (hS.cell (by simp) hv4) hev hl) ?_
 rintro r w5 ⟨hr,hT⟩
 replace e4:=e4.up hT;replace e5:=e5.up hT;replace e6:=e6.up hT;replace e7:=e7.up hT
 have hSo:=hS
 replace hS:=hS.trans hT
 clear hT
 have own3:∀ {S:List Nat},(∀ c∈S,c=b4∨c=b5∨c=b6)→∀ c∈S,c∈([]:List Nat)∨w.heap.size≤c:=fun h c hc=>by
  rcases h c hc with rfl|rfl|rfl
  exact .inr g4
  exact .inr g5
  exact .inr g6
 cases hK:Z1S s with
 | err a c=>
   rw [hK] at hr
   have hr':r=.tuple #[.slice none 0 0,.int .i64 a,.int .i64 c]:=hr
   subst hr'
   have hc0:=Z9y hK
   refine W ?_
   refine Z2 (Z3 (us:=[.int .i64 a]) rfl rfl rfl rfl (by simp;rfl) e5 rfl) ?_
   rintro _ w6 ⟨hT,e5'⟩
   replace e4:=e4.ext hT (by simpa using n45)
   replace e6:=e6.ext hT (by simpa using n56.symm)
   replace e7:=e7.ext hT (by simpa using n75)
   replace hS:=hS.own hT (own3 (by simp))
   refine W ?_
   refine Z2 (Z3 (us:=[.int .i64 c]) rfl rfl rfl rfl (by simp;rfl) e6 rfl) ?_
   rintro _ w7 ⟨hT2,e6'⟩
   replace e4:=e4.ext hT2 (by simpa using n46)
   replace e5':=e5'.ext hT2 (by simpa using n56)
   replace e7:=e7.ext hT2 (by simpa using n76)
   replace hS:=hS.own hT2 (own3 (by simp))
   clear hT hT2 e5 e6
   repeat'(first|refine W1 ?_|omega|refine VG ?_ ?_<;>intro hg|refine VC ?_ ?_<;>intro hc)
   refine ZDr 6 ([b4]) [] [(0,1),(1,1),(2,1),(3,2),(4,2),(5,2)] (fun w8 hS1=>?_)
   replace e7:=e7.up hS1;replace e4:=e4.up hS1;replace e5':=e5'.up hS1;replace e6':=e6'.up hS1
   replace hS:=hS.trans hS1
   clear hS1
   refine Z2p rfl trivial rfl rfl e7 (by simpa using n74) rfl rfl ?_
   refine Z09 rfl trivial rfl rfl e5' (by simpa using n45.symm) rfl rfl ?_
   refine Z09 rfl trivial rfl rfl e6' (by simpa using n46.symm) rfl rfl ?_
   refine ZD rfl trivial (Z3 (us:=zC) rfl rfl rfl rfl ZaA e4 rfl) (fun _ _ h=>h.1) ?_
   rintro _ w9 ⟨hT,e4'⟩
   replace e5':=e5'.ext hT (by simpa using n45.symm)
   replace e6':=e6'.ext hT (by simpa using n46.symm)
   replace hS:=hS.own hT (own3 (by simp))
   clear hT e4 e7
   refine ZD (G:=fun _ w'=>Stp [] w9 w') rfl trivial ((Z3 (us:=[.int .i64 a]) rfl rfl rfl rfl (by simp;rfl) e5' rfl).mono (fun _ _ h=>Z3a h.1 e5' h.2)) (fun _ _ h=>h.mono (by simp)) ?_
   intro _ w10 hT
   replace e4':=e4'.up hT;replace e5':=e5'.up hT;replace e6':=e6'.up hT
   replace hS:=hS.trans hT
   clear hT
   refine ZD (G:=fun _ w'=>Stp [] w10 w') rfl trivial ((Z3 (us:=[.int .i64 c]) rfl rfl rfl rfl (by simp;rfl) e6' rfl).mono (fun _ _ h=>Z3a h.1 e6' h.2)) (fun _ _ h=>h.mono (by simp)) ?_
   intro _ w11 hT
   replace e4':=e4'.up hT;replace e5':=e5'.up hT;replace e6':=e6'.up hT
   replace hS:=hS.trans hT
   clear hT
   refine Z3G ?_
   refine W ?_
   refine ⟨fun act ha=>?_⟩
   show Leaves _ _ act.tmps _ act.defers .returning _
   rw [ha.defers]
   refine ⟨_,Z2B rfl rfl rfl rfl (ha.vals 4 _ rfl) (ha.vals 5 _ rfl) (ha.vals 6 _ rfl) e4' rfl e5' e6',?_⟩
   refine .mk ⟨?_,hS⟩
   unfold Z0I
   rw [hK]
   rfl
 | ok l=>
   rw [hK] at hr
   obtain ⟨tv,rfl,hrow⟩:∃ tv,r=.tuple #[tv,.int .i64 0,.int .i64 0]∧J8 167 w4 w5 tv l:=hr
   obtain ⟨hL,-⟩:=Z8f hK
   have hts:SlV (α:=Tkn) [b4,b5,b6,b7] w5 tv l:=hrow.slv hlt4
   have hlp:=hL.pos
   have hll:l.length≤1000000:=by have:=hL.len;omega
   refine W ?_
   refine Z2 (Z3 (us:=[.int .i64 0]) rfl rfl rfl rfl (by simp;rfl) e5 rfl) ?_
   rintro _ w6 ⟨hT,e5'⟩
   replace e4:=e4.ext hT (by simpa using n45)
   replace e6:=e6.ext hT (by simpa using n56.symm)
   replace e7:=e7.ext hT (by simpa using n75)
   replace hts:=hts.ext (X':=[b4,b5,b6,b7]) hT (by simp) (fun _ h=>.inl h)
   replace hS:=hS.own hT (own3 (by simp))
   refine W ?_
   refine Z2 (Z3 (us:=[.int .i64 0]) rfl rfl rfl rfl (by simp;rfl) e6 rfl) ?_
   rintro _ w7 ⟨hT2,e6'⟩
   replace e4:=e4.ext hT2 (by simpa using n46)
   replace e5':=e5'.ext hT2 (by simpa using n56)
   replace e7:=e7.ext hT2 (by simpa using n76)
   replace hts:=hts.ext (X':=[b4,b5,b6,b7]) hT2 (by simp) (fun _ h=>.inl h)
   replace hS:=hS.own hT2 (own3 (by simp))
   clear hT hT2 e5 e6
   repeat'(first|refine W1 ?_|omega|refine VG ?_ ?_<;>intro hg|refine VC ?_ ?_<;>intro hc)
   refine Zd (Z8c rfl rfl rfl rfl) rfl ?_
   refine ZeD rfl ?_
   refine Z4p (Z2A ?_)
   refine W ?_
   obtain ⟨tp,tc,htv⟩:=hts.len
   refine Zd (Z0v (vs:=[(0,tv)]) rfl (by rw [htv];exact fun w=>ZgF _ _ _ w)) rfl ?_
   refine Z1 (Zo rfl) rfl ?_
   rintro _ w8 ⟨bp,rfl,hbp,ep,hT⟩
   have l4:=e4.lt
   have l5:=e5'.lt
   have l6:=e6'.lt
   have l7:=e7.lt
   have hXp:∀ c∈bp :: b4 :: b5 :: b6 :: b7 :: X,c<w8.heap.size:=fun c hc=>by
    have h8:=hT.size
    have hp:=ep.lt
    have h0:=hS.size
    simp only [Xe] at hc
    rcases hc with rfl|rfl|rfl|rfl|rfl|hc
    exact hp
    omega
    omega
    omega
    omega
    have:=hX c hc;omega
   have hpd:Pd w8 bp tv l 0 0:=⟨by rw [htv];exact ep,hts.ext hT (by simp) (fun c hc=>by simp at hc;subst hc;exact .inr hbp),hlp,hll,by omega⟩
   replace hts:=hts.ext (X':=[bp,b4,b5,b6,b7]) hT (by simp) (fun c hc=>by
    rcases Xe.1 hc with rfl|hc
    exact .inr hbp
    exact .inl hc)
   replace e4:=e4.up hT;replace e5':=e5'.up hT;replace e6':=e6'.up hT;replace e7:=e7.up hT
   replace hS:=hS.trans hT
   have gp:w.heap.size≤bp:=by have:=hS.size;omega
   have np4:b4≠bp:=by omega
   have np5:b5≠bp:=by omega
   have np6:b6≠bp:=by omega
   have np7:b7≠bp:=by omega
   clear hT
   refine Zd (Z4E rfl) rfl ?_
   refine Z2j ?_
   refine Z52 (Z37 ?_)
   refine Z4p (Z2A ?_)
   refine Zd (ZQ rfl) rfl ?_
   refine Zd (ZQ rfl) rfl ?_
   have hP:=Zct (bp :: b4 :: b5 :: b6 :: b7 :: X) bp tv l hL m 0 0 w8 (by omega) (by simp) hXp (hS.cell (by simp) hm) hpd
   cases hR:Z4Q l 0 0 with
   | err a c=>
     rw [hR] at hP
     refine Z7f rfl (Zm rfl) hP rfl ?_
     intro w9 hT
     replace e4:=e4.ext hT (by simpa using np4)
     replace e5':=e5'.ext hT (by simpa using np5)
     replace e6':=e6'.ext hT (by simpa using np6)
     replace e7:=e7.ext hT (by simpa using np7)
     replace hS:=hS.own hT (fun c hc=>.inr (by simp at hc;omega))
     refine Z52 (Z38 ?_)
     refine ⟨fun act ha=>?_⟩
     show Leaves _ _ act.tmps _ (act.defers++_) (.panicking _) _
     rw [ha.defers]
     refine Z3X (f:=118) (by simp) (Z5p a c b7 b4 b5 b6 _ _ _ w9 e7 e4 e5' e6' rfl n74 n75 n76 n45 n46 n56) ?_
     rintro v u' w10 ⟨rfl,e4',e5'',e6'',hT⟩
     refine ⟨rfl,_,Z2B rfl rfl rfl rfl (ha.vals 4 _ rfl) (ha.vals 5 _ rfl) (ha.vals 6 _ rfl) e4' rfl e5'' e6'',?_⟩
     refine .mk ⟨?_,hS.own hT (own3 (by simp))⟩
     unfold Z0I
     rw [hK]
     simp only [hR]
     rfl
   | ok x i' o'=>
     rw [hR] at hP
     refine CL rfl (Zm rfl) rfl hP ?_
     rintro rv w9 ⟨⟨kv,rfl,hkv⟩,hpd',hT⟩
     replace e4:=e4.ext hT (by simpa using np4)
     replace e5':=e5'.ext hT (by simpa using np5)
     replace e6':=e6'.ext hT (by simpa using np6)
     replace e7:=e7.ext hT (by simpa using np7)
     replace hts:=hts.ext (X':=[bp,b4,b5,b6,b7]) hT (by simp) (fun _ h=>.inl h)
     replace hS:=hS.own hT (fun c hc=>.inr (by simp at hc;omega))
     obtain ⟨ep',-,hil,-,ho'⟩:=hpd'
     refine Z2 (Z3 (us:=ndC x kv) rfl rfl rfl rfl (Zh hkv) e4 rfl) ?_
     rintro _ w10 ⟨hT,e4'⟩
     replace ep':=ep'.ext hT (by simpa using np4.symm)
     replace e5':=e5'.ext hT (by simpa using n45.symm)
     replace e6':=e6'.ext hT (by simpa using n46.symm)
     replace e7:=e7.ext hT (by simpa using n74)
     replace hts:=hts.ext (X':=[bp,b4,b5,b6,b7]) hT (by simp) (fun _ h=>.inl h)
     replace hkv:=hkv.ext (X':=bp :: b4 :: b5 :: b6 :: b7 :: X) hT (by simp) (fun _ h=>.inl h)
     replace hS:=hS.own hT (own3 (by simp))
     clear hT
     refine Z2j ?_
     refine Z52 (Z37 ?_)
     refine Z4p (Z4p ?_)
     refine Zcu 12 [] [] [(0,0),(1,0),(2,0),(3,1),(4,0),(5,0),(6,0),(7,1),(8,0),(9,0),(10,1),(11,0)] rfl mixed (by kernel_rfl) (by kernel_rfl) (by kernel_rfl) (fun w1 hS1=>?_)
     replace e4':=e4'.up hS1;replace e5':=e5'.up hS1;replace e6':=e6'.up hS1;replace ep':=ep'.up hS1;replace e7:=e7.up hS1
     replace hts:=hts.up hS1
     replace hkv:=hkv.up hS1
     replace hS:=hS.trans hS1
     clear hS1
     refine D ?_
     refine W ?_
     refine Z52 (Z37 ?_)
     by_cases hk0:(cur l i').kind=0
     have hk0':=hk0
     rw [Z4Y hil] at hk0'
     refine Z6g (by simp [ev,hk0'];rfl) (ZeC (Z37 (Z4p ?_)))
     refine Z2A ?_
     refine Zd (J2 rfl rfl e4' rfl) rfl ?_
     refine Z2 (G:=fun _ w'=>Stp [] w1 w') ((Z3 (us:=ndC x kv) rfl rfl rfl rfl (Zh hkv) e4' rfl).mono (fun _ _ h=>Z3a h.1 e4' h.2)) ?_
     intro _ w12 hT
     replace e4':=e4'.up hT;replace e5':=e5'.up hT;replace e6':=e6'.up hT;replace hkv:=hkv.up hT
     replace hS:=hS.trans hT
     clear hT
     refine Z2 (G:=fun _ w'=>Stp [] w12 w') ((Z3 (us:=[.int .i64 0]) rfl rfl rfl rfl (by simp;rfl) e5' rfl).mono (fun _ _ h=>Z3a h.1 e5' h.2)) ?_
     intro _ w13 hT
     replace e4':=e4'.up hT;replace e5':=e5'.up hT;replace e6':=e6'.up hT;replace hkv:=hkv.up hT
     replace hS:=hS.trans hT
     clear hT
     refine Z2 (G:=fun _ w'=>Stp [] w13 w') ((Z3 (us:=[.int .i64 0]) rfl rfl rfl rfl (by simp;rfl) e6' rfl).mono (fun _ _ h=>Z3a h.1 e6' h.2)) ?_
     intro _ w14 hT
     replace e4':=e4'.up hT;replace e5':=e5'.up hT;replace e6':=e6'.up hT;replace hkv:=hkv.up hT
     replace hS:=hS.trans hT
     clear hT
     refine Z2j ?_
     refine Z52 (Z37 (Zgy ?_))
     refine ⟨fun act ha=>?_⟩
     show Leaves _ _ act.tmps _ (act.defers++_) .returning _
     rw [ha.defers]
     refine Z3X (f:=118) (by simp) (Z9z b7 b4 b5 b6 w14) ?_
     rintro v u' w15 ⟨rfl,hT⟩
     refine ⟨rfl,_,Z2B rfl rfl rfl rfl (ha.vals 4 _ rfl) (ha.vals 5 _ rfl) (ha.vals 6 _ rfl) (e4'.up hT) rfl (e5'.up hT) (e6'.up hT),?_⟩
     have hM:Z0I s=.ok x:=by
      unfold Z0I
      rw [hK]
      simp only [hR]
      rw [if_pos hk0]
     rw [hM]
     exact .mk ⟨⟨kv,rfl,(hkv.up hT).ext (Stp.refl [] _) (by simp) (fun c hc=>.inl (by simp [hc]))⟩,hS.trans hT⟩
     have hk0':=hk0
     rw [Z4Y hil] at hk0'
     have hpd2:Pd w1 bp tv l i' o':=⟨ep',hts.wk (by simp),hil,hll,ho'⟩
     refine Z6K (by simp [ev,hk0'];rfl) (Z2A ?_)
     refine Zd (ZQ rfl) rfl ?_
     refine Z7f rfl (Zb rfl rfl) (Z9n bp tv l i' o' 20 _ hpd2) rfl ?_
     intro w12 hT
     replace e4':=e4'.up hT;replace e5':=e5'.up hT;replace e6':=e6'.up hT;replace e7:=e7.up hT
     replace hS:=hS.trans hT
     refine Z52 (Z38 ?_)
     refine ⟨fun act ha=>?_⟩
     show Leaves _ _ act.tmps _ (act.defers++_) (.panicking _) _
     rw [ha.defers]
     refine Z3X (f:=118) (by simp) (Z5p _ 20 b7 b4 b5 b6 _ _ _ w12 e7 e4' e5' e6' rfl n74 n75 n76 n45 n46 n56) ?_
     rintro v u' w13 ⟨rfl,e4',e5'',e6'',hT⟩
     refine ⟨rfl,_,Z2B rfl rfl rfl rfl (ha.vals 4 _ rfl) (ha.vals 5 _ rfl) (ha.vals 6 _ rfl) e4' rfl e5'' e6'',?_⟩
     have hM:Z0I s=.err (cur l i').pos 20:=by
      unfold Z0I
      rw [hK]
      simp only [hR]
      rw [if_neg hk0]
     rw [hM]
     exact .mk ⟨rfl,hS.own hT (own3 (by simp))⟩
theorem Zcy (X:List Nat) (s:Str) (er:Value) (m:Int) (w:World) (hX:∀ c∈X,c<w.heap.size) (hLG:Z0q w) (hm:w.cell? ⟨2,0,none⟩=some (.int .i64 m)) (hv4:w.cell? ⟨5,0,none⟩=some er) (hev:er=.nilIface∨∃ te pe,er=.iface te pe) (hl:s.length≤1000000) :
 CC 23 #[str s] w fun r w'=>ZnQ X w' r (Z0I s)∧Stp [] w w':=by
 refine cW1 10 Tryz.func23 ?_
 refine W ?_
 refine Z1 Z7 rfl ?_
 rintro _ w1 ⟨b2,rfl,hb2,k2,hS⟩
 have hXb:∀ c∈b2 :: X,c<w1.heap.size:=fun c hc=>by
  rcases Xe.1 hc with rfl|hc
  exact k2.lt
  exact Xb (hX c hc) hS.size
 refine W ?_
 refine CL rfl (Zb rfl rfl) rfl (ZaB (b2 :: X) s er m w1 hXb (hLG.up hS) (hS.cell (by simp) hm) (hS.cell (by simp) hv4) hev hl) ?_
 rintro r w2 ⟨hr,hT⟩
 replace k2:=k2.up hT
 replace hS:=hS.trans hT
 clear hT
 cases hK:Z0I s with
 | err a c=>
   rw [hK] at hr
   have hr':r=.tuple #[.agg zC.toArray,.int .i64 a,.int .i64 c]:=hr
   subst hr'
   refine W ?_
   refine Z2 (Z3 (us:=zC) rfl rfl rfl rfl ZaA k2 rfl) ?_
   rintro _ w3 ⟨hT,k2⟩
   refine W ?_
   refine Z7j rfl rfl rfl k2 rfl rfl rfl ?_
   exact .mk ⟨rfl,hS.own hT (fun c hc=>.inr (by simp at hc;omega))⟩
 | ok x=>
   rw [hK] at hr
   obtain ⟨kv,rfl,hkv⟩:=hr
   refine W ?_
   refine Z2 (Z3 (us:=ndC x kv) rfl rfl rfl rfl (Zh hkv) k2 rfl) ?_
   rintro _ w3 ⟨hT,k2⟩
   refine W ?_
   refine Z7j rfl rfl rfl k2 rfl rfl rfl ?_
   exact .mk ⟨⟨kv,rfl,hkv.ext hT (by simp) (fun c hc=>.inl (by simp [hc]))⟩,hS.own hT (fun c hc=>.inr (by simp at hc;omega))⟩
end Go.Proofs.YtjdjdoefppebkaaGreatDoor
namespace Go.Eng
open Go Go.RowKit Go.Proofs
end Go.Eng
namespace Go.Proofs.YtjdjdoefppebkaaGreatDoor
open Go Go.Eng Go.RowKit
instance:Z9 Hol where
 k:=9
 enc:=fun h=>[.int .i64 h.kind,.int .i64 h.month,.int .i64 h.day,.int .i64 h.wd,.int .i64 h.nth,.int .i64 h.off,.int .i64 h.move,.int .i64 h.first,.int .i64 h.last]
 len:=fun _=>rfl
 one:=by intro x u hu;simp at hu;rcases hu with rfl|rfl|rfl|rfl|rfl|rfl|rfl|rfl|rfl<;>rfl
instance:Z9 Clo where
 k:=3
 enc:=fun h=>[.int .i64 h.lo,.int .i64 h.hi,.int .i64 h.known]
 len:=fun _=>rfl
 one:=by intro x u hu;simp at hu;rcases hu with rfl|rfl|rfl<;>rfl
instance:Z9 Spn where
 k:=2
 enc:=fun h=>[.int .i64 h.1,.int .i64 h.2]
 len:=fun _=>rfl
 one:=by intro x u hu;simp at hu;rcases hu with rfl|rfl<;>rfl
def Z53:List Int:=[0,0,0,0,0,0,0,0,0,0,0,0,2,1,0,0,0,0,0,-1,1]
def Z2C (w:World):Prop:=∀ i u,Z53[i]?=some u→w.cell? ⟨3,i,none⟩=some (.int .i64 u)
theorem Z2C.ext {S:List Nat} {w w':World} (h:Z2C w) (hS:Stp S w w') (hb:3∉S):Z2C w':=fun i u hu=>hS.cell hb (h i u hu)
theorem Z2C.up {w w':World} (h:Z2C w) (hS:Stp [] w w'):Z2C w':=h.ext hS (by simp)
structure MK where
 w0:World
 bm:Nat
 nk:Option Nat
 ev:List Int
 c:Cal
 kn:Int
 hv:Value
 cv:Value
 zo:Value
 zs:Value
 hr:Value
 pr:List (Nat×Obj)
def Jm (c:Cal) (hv cv zo zs hr:Value):List Value:=
 [.bool (c.week.getD 0 false),.bool (c.week.getD 1 false),.bool (c.week.getD 2 false),.bool (c.week.getD 3 false),.bool (c.week.getD 4 false),.bool (c.week.getD 5 false),.bool (c.week.getD 6 false),hv,cv,zo,zs,hr]
def evC (ev:List Int):List Value:=[.int .i64 (ev.getD 0 0),.int .i64 (ev.getD 1 0),.int .i64 (ev.getD 2 0),.int .i64 (ev.getD 3 0),.int .i64 (ev.getD 4 0),.int .i64 (ev.getD 5 0),.int .i64 (ev.getD 6 0)]
def Zho (nk:Option Nat):Value:=match nk with|none=>.func (.func 57) #[] #[]|some bs=>.func (.func 78) #[] #[.pointer (some ⟨bs,0,none⟩)]
def Z14 (K:MK) (sv:Value) (at_ er:Int) (dn:Bool):List Value:=
 evC K.ev++Jm K.c K.hv K.cv K.zo K.zs K.hr++[.int .i64 K.kn,sv,.int .i64 at_,.int .i64 er,.bool dn,Zho K.nk]
def MK.own (K:MK):List Nat:=K.bm :: K.nk.toList
structure KOk (K:MK):Prop where
 hols:SlV K.own K.w0 K.hv K.c.hols
 clos:SlV K.own K.w0 K.cv K.c.clos
 ozo:K.zo.oneCell'=true
 ozs:K.zs.oneCell'=true
 ohr:K.hr.oneCell'=true
 len:Z0q K.w0
 mov:Z2C K.w0
 bml:K.bm<K.w0.heap.size
 nkl:∀ b,K.nk=some b→b<K.w0.heap.size∧b≠K.bm
 gl:∀ b∈K.own,b≠1∧b≠3
 cal:Zbp K.c
 ev:Z3x K.ev
structure Mch (K:MK) (w:World) (sv pv:Value) (st:List Int) (sp:List Spn) (at_ er:Int) (dn:Bool):Prop where
 blk:Blk w K.bm 126 (Z14 K sv at_ er dn)
 row:Row [] w K.w0.heap.size 3 sv st
 nt:∀ bs,K.nk=some bs→Blk w bs 45 [pv]∧Row [] w K.w0.heap.size 111 pv sp
 nt0:K.nk=none→pv=.slice none 0 0
 ap:∀ b∈ob sv,b∉ob pv
 stp:Stp K.own K.w0 w
 prot:∀ p∈K.pr,w.heap[p.1]?=some p.2∧p.1∉K.own∧p.1∉ob sv∧p.1∉ob pv
section
variable {K:MK} {w w':World} {sv pv:Value} {st:List Int} {sp:List Spn} {at_ er:Int} {dn:Bool}
theorem Mch.up (h:Mch K w sv pv st sp at_ er dn) (hS:Stp [] w w'):Mch K w' sv pv st sp at_ er dn:=
 ⟨h.blk.up hS,h.row.up hS,fun bs hb=>⟨(h.nt bs hb).1.up hS,(h.nt bs hb).2.up hS⟩,h.nt0,h.ap,h.stp.trans (hS.mono (by simp)),fun p hp=>let ⟨a,b,c,d⟩:=h.prot p hp;⟨(hS.block p.1 (Xk.1 a).1 (by simp)).trans a,b,c,d⟩⟩
theorem Mch.own_lt (hK:KOk K):∀ b∈K.own,b<K.w0.heap.size:=by
 intro b hb
 rcases Xe.1 hb with rfl|h
 exact hK.bml
 exact (hK.nkl b (by simpa using h)).1
theorem Mch.hols (hK:KOk K) (h:Mch K w sv pv st sp at_ er dn):SlV K.own w K.hv K.c.hols:=hK.hols.ext h.stp (fun b hb=>hb) (fun b hb=>.inl hb)
theorem Mch.clos (hK:KOk K) (h:Mch K w sv pv st sp at_ er dn):SlV K.own w K.cv K.c.clos:=hK.clos.ext h.stp (fun b hb=>hb) (fun b hb=>.inl hb)
theorem Mch.len (hK:KOk K) (h:Mch K w sv pv st sp at_ er dn):Z0q w:=hK.len.ext h.stp (fun hb=>(hK.gl _ hb).1 rfl)
theorem Mch.mov (hK:KOk K) (h:Mch K w sv pv st sp at_ er dn):Z2C w:=hK.mov.ext h.stp (fun hb=>(hK.gl _ hb).2 rfl)
theorem Mch.put (hK:KOk K) (h:Mch K w sv pv st sp at_ er dn) {at' er':Int} {dn':Bool} (hS:Stp [K.bm] w w') (hb:Blk w' K.bm 126 (Z14 K sv at' er' dn')):Mch K w' sv pv st sp at' er' dn':=by
 have hl:∀ v,(∀ b∈ob v,K.w0.heap.size≤b)→∀ b∈[K.bm],b∉ob v:=fun v hv b hb h2=>by
  have:=hK.bml
  have:=hv b h2
  simp at hb
  omega
 refine ⟨hb,h.row.keep hS (hl _ (fun b hb=>(h.row.ob_le b hb).1)),fun bs hbs=>?_,h.nt0,h.ap,h.stp.trans (hS.mono (by simp [MK.own])),fun p hp=>let ⟨a,b,c,d⟩:=h.prot p hp;⟨(hS.block p.1 (Xk.1 a).1 (fun e=>b (by simp at e;rw [e];exact YaZ))).trans a,b,c,d⟩⟩
 obtain ⟨h1,h2⟩:=h.nt bs hbs
 exact ⟨h1.ext hS (by have:=(hK.nkl bs hbs).2;simpa using this),h2.keep hS (hl _ (fun b hb=>(h2.ob_le b hb).1))⟩
theorem Mch.stack (hK:KOk K) (h:Mch K w sv pv st sp at_ er dn) {sv':Value} {st':List Int} {w2:World} (hS:Stp (ob sv) w w') (hr:Row [] w' K.w0.heap.size 3 sv' st') (ho:∀ b∈ob sv',b∈ob sv∨w.heap.size≤b)
 (hS2:Stp [K.bm] w' w2) (hb:Blk w2 K.bm 126 (Z14 K sv' at_ er dn)):Mch K w2 sv' pv st' sp at_ er dn:=by
 have hbm:=hK.bml
 have hge:=fun b hb=>(hr.ob_le b hb).1
 have hge0:=fun b hb=>(h.row.ob_le b hb).1
 have hl:=h.stp.size
 refine ⟨hb,hr.keep hS2 (fun b hb h2=>by have:=hge b h2;simp at hb;omega),fun bs hbs=>?_,h.nt0,fun b hb hp=>?_,?_,fun p hp=>?_⟩
 obtain ⟨h1,h2⟩:=h.nt bs hbs
 have hn:=hK.nkl bs hbs
 have hge1:=fun b hb=>(h2.ob_le b hb).1
 refine ⟨(h1.ext hS (fun hx=>by have:=hge0 _ hx;omega)).ext hS2 (by simpa using hn.2),(h2.keep hS (fun b hb=>h.ap b hb)).keep hS2 (fun b hb hx=>by have:=hge1 _ hx;simp at hb;omega)⟩
 · cases hk:K.nk with
   | none=>rw [h.nt0 hk] at hp;simp [ob] at hp
   | some bs=>
     obtain ⟨h1,h2⟩:=h.nt bs hk
     rcases ho b hb with h3|h3
     exact h.ap b h3 hp
     have:=(h2.ob_le b hp).2
     omega
 refine (h.stp.own (S':=ob sv) hS (fun b hb=>.inr (hge0 b hb))).trans (hS2.mono (by simp [MK.own]))
 obtain ⟨a,b,c,d⟩:=h.prot p hp
 have hlt:=(Xk.1 a).1
 have a2:=(hS.block p.1 hlt c).trans a
 have a3:=(hS2.block p.1 (Xk.1 a2).1 (fun e=>b (by simp at e;rw [e];exact YaZ))).trans a2
 exact ⟨a3,b,fun h3=>(ho _ h3).elim c (fun h4=>by omega),d⟩
theorem ZeF (hK:KOk K) (h:Mch K w sv pv st sp at_ er dn) (n e:Int) (hl:st.length≤100000) :
 CC 202 #[.pointer (some ⟨K.bm,0,none⟩),.int .i64 n,.int .i64 e] w fun r w'=>r=.tuple #[]∧∃ sv',Mch K w' sv' pv (if e=0 then st++[n] else st) sp at_ (if e=0 then er else e) (if e=0 then dn else true):=by
 have hblk:=h.blk
 have hrow:=h.row
 unfold Z14 at hblk
 refine cW3 25 Tryz.func202 ?_
 by_cases he:e=0
 subst he
 rw [if_pos rfl,if_pos rfl,if_pos rfl]
 focus repeat'(first|refine W1 ?_|omega|refine VG ?_ ?_<;>intro hg|refine VC ?_ ?_<;>intro hc)
 refine Z1 (Z0 (vs:=[(0,.int .i64 n)]) rfl (Jg _)) rfl ?_
 rintro bv w1 hN
 have hS1:=Z5.stp hN
 have hbv:SlV (ob sv++[]) w1 bv [n]:=hN.slv (fun b hb=>by simp at hb;exact (hrow.ob_le b hb).2) rfl rfl (by simp [maxLen])
 replace h:=h.up hS1
 replace hrow:=hrow.up hS1
 replace hblk:=hblk.up hS1
 refine Z1 (Jw rfl (by decide) rfl rfl hrow hbv (by simp;omega) (by simp [maxLen];omega) (h.stp.size)) rfl ?_
 rintro sv' w2 ⟨hr2,hS2,ho⟩
 have hblk2:=hblk.ext hS2 (fun hx=>by have:=(hrow.ob_le _ hx).1;have:=hK.bml;omega)
 refine W ?_
 have h1:=hr2.slv (X:=[]) (by simp)
 refine Z2 (Ze (u:=sv') rfl rfl h1.cells h1.one hblk2 (by simp [evC,Jm])) ?_
 rintro _ w3 ⟨hS3,hblk3⟩
 refine W ?_
 refine WR ?_
 refine .mk ⟨rfl,sv',h.stack hK hS2 hr2 ho hS3 hblk3⟩
 rw [if_neg he,if_neg he,if_neg he]
 focus repeat'(first|refine W1 ?_|omega|refine VG ?_ ?_<;>intro hg|refine VC ?_ ?_<;>intro hc)
 refine Z2 (Ze (u:=.int .i64 e) rfl rfl rfl rfl hblk (by simp [evC,Jm])) ?_
 rintro _ w1 ⟨hS1,hblk1⟩
 refine W ?_
 refine Z2 (Ze (u:=.bool true) rfl rfl rfl rfl hblk1 (by simp [evC,Jm])) ?_
 rintro _ w2 ⟨hS2,hblk2⟩
 refine W ?_
 refine WR ?_
 exact .mk ⟨rfl,sv,h.put hK (hS1.trans hS2) hblk2⟩
end
def Res (K:MK) (w:World) (st:List Int) (sp:List Spn) (at_:Int) (r:Int×Int):Prop:=
 ∃ sv pv st2 sp2,Mch K w sv pv st2 sp2 at_ r.2 (decide (¬ r.2=0))∧(r.2=0→st2=st++[r.1]∧sp2=sp)
section
variable {K:MK} {w w':World} {sv pv:Value} {st:List Int} {sp:List Spn} {at_ er:Int} {dn:Bool}
abbrev mP (K:MK):Value:=.pointer (some ⟨K.bm,0,none⟩)
theorem Z2h (hK:KOk K) {v:Int} (h:Mch K w sv pv (st++[v]) sp at_ er dn) :
 CC 59 #[mP K] w fun r w'=>r=.int .i64 v∧(∃ sv',Mch K w' sv' pv st sp at_ er dn)∧Stp [K.bm] w w':=by
 have hblk:=h.blk
 have hrow:=h.row
 unfold Z14 at hblk
 have hs:=hrow.slv (X:=[]) (by simp)
 have hz:((st++[v]).length:Int) - 1=(st.length:Int):=by simp
 have hi:st.length<(st++[v]).length:=by simp
 have hm:=hs.max
 refine cW1 28 Tryz.func59 ?_
 refine W ?_
 refine Zd (Z3J rfl hs rfl hz (by omega)) rfl ?_
 refine W ?_
 have hc:=hrow.cut (r:=st.length) (by omega)
 rw [Ybc rfl] at hc
 have h1:=hc.slv (X:=[]) (by simp)
 refine Z2 (Ze (u:=slc sv 0 st.length 1) rfl rfl h1.cells h1.one hblk (by simp [evC,Jm])) ?_
 rintro _ w1 ⟨hS1,hblk1⟩
 refine W ?_
 refine WR ?_
 exact .mk ⟨by simp,⟨slc sv 0 st.length 1,h.stack hK (Stp.refl _ _) hc (fun b hb=>.inl (by rw [← Z7w sv st.length 1];exact hb)) hS1 hblk1⟩,hS1⟩
theorem Z1a (hK:KOk K) {v:Int} (h:Mch K w sv pv (st++[v]) sp at_ er dn) :
 CC 59 #[mP K] w fun r w'=>r=.int .i64 v∧∃ sv',Mch K w' sv' pv st sp at_ er dn:=
 Go.Eng.Calls.ret (Z2h hK h) (fun _ _ h=>⟨h.1,h.2.1⟩)
theorem JM (hK:KOk K) {a b:Int} (h:Mch K w sv pv (st++[a,b]) sp at_ er dn) :
 CC 229 #[mP K] w fun r w'=>r=.tuple #[.int .i64 a,.int .i64 b]∧∃ sv',Mch K w' sv' pv st sp at_ er dn:=by
 refine cW1 10 Tryz.func229 ?_
 refine W ?_
 refine CL rfl (Zm rfl) rfl (Z1a (st:=st++[a]) (v:=b) hK (by simpa using h)) ?_
 rintro _ w1 ⟨rfl,sv1,h1⟩
 refine W ?_
 refine CL rfl (Zm rfl) rfl (Z1a hK h1) ?_
 rintro _ w2 ⟨rfl,sv2,h2⟩
 refine W ?_
 refine WR ?_
 exact .mk ⟨rfl,sv2,h2⟩
theorem Z05 (hK:KOk K) (h:Mch K w sv pv st sp at_ 0 false) (hl:st.length≤100000) (n e:Int) :
 CC 202 #[mP K,.int .i64 n,.int .i64 e] w fun r w'=>r=.tuple #[]∧Res K w' st sp at_ (n,e):=by
 refine Go.Eng.Calls.ret (ZeF hK h n e hl) ?_
 rintro v w' ⟨rfl,sv',h1⟩
 refine ⟨rfl,sv',pv,if e=0 then st++[n] else st,sp,?_,fun he=>⟨if_pos he,rfl⟩⟩
 by_cases he:e=0
 subst he
 simpa using h1
 simpa [he] using h1
theorem Zbu (hK:KOk K) (h:Mch K w sv pv st sp at_ 0 false) (hl:st.length≤100000) (n a b:Int) :
 CC 280 #[mP K,.int .i64 n,.int .i64 a,.int .i64 b] w fun r w'=>r=.tuple #[]∧Res K w' st sp at_ (if n<a∨b<n then (0,5) else (n,0)):=by
 refine cW4 21 Tryz.func280 ?_
 by_cases hc:n<a∨b<n
 · rw [if_pos hc]
   repeat'(first|refine W1 ?_|omega|refine VG ?_ ?_<;>intro hg|refine VC ?_ ?_<;>intro hc)
   all_goals
    refine CL rfl (ZE rfl rfl rfl) rfl (Z05 hK h hl 0 5) ?_
    rintro _ w1 ⟨rfl,h1⟩
    refine W ?_
    refine WR ?_
    exact .mk ⟨rfl,h1⟩
 rw [if_neg hc]
 focus repeat'(first|refine W1 ?_|omega|refine VG ?_ ?_<;>intro hg|refine VC ?_ ?_<;>intro hc)
 refine CL rfl (ZE rfl rfl rfl) rfl (Z05 hK h hl n 0) ?_
 rintro _ w1 ⟨rfl,h1⟩
 refine W ?_
 refine WR ?_
 exact .mk ⟨rfl,h1⟩
theorem Z4q (hK:KOk K) (h:Mch K w sv pv st sp at_ 0 false) (hl:st.length≤100000) (n:Int) :
 CC 230 #[mP K,.int .i64 n] w fun r w'=>r=.tuple #[]∧Res K w' st sp at_ (Z20 n):=by
 refine cW2 7 Tryz.func230 ?_
 refine W ?_
 refine CL rfl (Z1e rfl rfl rfl rfl) rfl (Zbu hK h hl n _ _) ?_
 rintro _ w1 ⟨rfl,h1⟩
 refine W ?_
 refine WR ?_
 exact .mk ⟨rfl,h1⟩
theorem ZnR (hK:KOk K) (h:Mch K w sv pv st sp at_ 0 false) (hl:st.length≤100000) (n:Int) :
 CC 232 #[mP K,.int .i64 n] w fun r w'=>r=.tuple #[]∧Res K w' st sp at_ (Z6I n):=by
 refine cW2 7 Tryz.func232 ?_
 refine W ?_
 refine CL rfl (Z1e rfl rfl rfl rfl) rfl (Zbu hK h hl n _ _) ?_
 rintro _ w1 ⟨rfl,h1⟩
 refine W ?_
 refine WR ?_
 exact .mk ⟨rfl,h1⟩
theorem Z8g (hK:KOk K) (h:Mch K w sv pv st sp at_ 0 false) (hl:st.length≤100000) (b:Bool) :
 CC 231 #[mP K,.bool b] w fun r w'=>r=.tuple #[]∧Res K w' st sp at_ (Jf b,0):=by
 refine cW2 9 Tryz.func231 ?_
 cases b
 refine W ?_
 refine CL rfl (ZE rfl rfl rfl) rfl (Z05 hK h hl 0 0) ?_
 rintro _ w1 ⟨rfl,h1⟩
 refine W ?_
 refine WR ?_
 exact .mk ⟨rfl,h1⟩
 refine W ?_
 refine CL rfl (ZE rfl rfl rfl) rfl (Z05 hK h hl 1 0) ?_
 rintro _ w1 ⟨rfl,h1⟩
 refine W ?_
 refine WR ?_
 exact .mk ⟨rfl,h1⟩
theorem ZeG (hK:KOk K) (h:Mch K w sv pv st sp at_ 0 false) (hl:st.length≤100000) (n:Int) :
 CC 109 #[mP K,.int .i64 n] w fun r w'=>r=.tuple #[]∧Res K w' st sp at_ (n,0):=by
 refine cW2 7 Tryz.func109 ?_
 refine W ?_
 refine CL rfl (ZE rfl rfl rfl) rfl (Z05 hK h hl n 0) ?_
 rintro _ w1 ⟨rfl,h1⟩
 refine W ?_
 refine WR ?_
 exact .mk ⟨rfl,h1⟩
theorem ZqA (hK:KOk K) {a b:Int} (h:Mch K w sv pv (st++[a,b]) sp at_ 0 false) (hl:st.length≤100000) (n:Int) (hr:I64 (a+b)) :
 CC 139 #[mP K,.int .i64 n] w fun r w'=>r=.tuple #[]∧Res K w' st sp at_ (Z20 (a+b)):=by
 try unfold I64 at hr
 refine cW2 16 Tryz.func139 ?_
 refine W ?_
 refine CL rfl (Zm rfl) rfl (JM hK h) ?_
 rintro _ w1 ⟨rfl,sv1,h1⟩
 refine W ?_
 refine CL rfl (Zb rfl rfl) rfl (Z4q hK h1 hl _) ?_
 rintro _ w2 ⟨rfl,h2⟩
 refine W ?_
 refine WR ?_
 exact .mk ⟨rfl,h2⟩
theorem ZqB (hK:KOk K) {a b:Int} (h:Mch K w sv pv (st++[a,b]) sp at_ 0 false) (hl:st.length≤100000) (n:Int) (hr:I64 (a - b)) :
 CC 140 #[mP K,.int .i64 n] w fun r w'=>r=.tuple #[]∧Res K w' st sp at_ (Z20 (a - b)):=by
 try unfold I64 at hr
 refine cW2 16 Tryz.func140 ?_
 refine W ?_
 refine CL rfl (Zm rfl) rfl (JM hK h) ?_
 rintro _ w1 ⟨rfl,sv1,h1⟩
 refine W ?_
 refine CL rfl (Zb rfl rfl) rfl (Z4q hK h1 hl _) ?_
 rintro _ w2 ⟨rfl,h2⟩
 refine W ?_
 refine WR ?_
 exact .mk ⟨rfl,h2⟩
theorem ZqC (hK:KOk K) {a b:Int} (h:Mch K w sv pv (st++[a,b]) sp at_ 0 false) (hl:st.length≤100000) (n:Int) (hr:I64 (a * b)) :
 CC 141 #[mP K,.int .i64 n] w fun r w'=>r=.tuple #[]∧Res K w' st sp at_ (Z20 (a * b)):=by
 try unfold I64 at hr
 refine cW2 16 Tryz.func141 ?_
 refine W ?_
 refine CL rfl (Zm rfl) rfl (JM hK h) ?_
 rintro _ w1 ⟨rfl,sv1,h1⟩
 refine W ?_
 refine CL rfl (Zb rfl rfl) rfl (Z4q hK h1 hl _) ?_
 rintro _ w2 ⟨rfl,h2⟩
 refine W ?_
 refine WR ?_
 exact .mk ⟨rfl,h2⟩
theorem ltV (hK:KOk K) {a b:Int} (h:Mch K w sv pv (st++[a,b]) sp at_ 0 false) (hl:st.length≤100000) (n:Int) (hr:True) :
 CC 143 #[mP K,.int .i64 n] w fun r w'=>r=.tuple #[]∧Res K w' st sp at_ ((Jf (decide (a<b)),0)):=by
 try unfold I64 at hr
 refine cW2 16 Tryz.func143 ?_
 refine W ?_
 refine CL rfl (Zm rfl) rfl (JM hK h) ?_
 rintro _ w1 ⟨rfl,sv1,h1⟩
 refine W ?_
 refine CL rfl (Zb rfl rfl) rfl (Z8g hK h1 hl _) ?_
 rintro _ w2 ⟨rfl,h2⟩
 refine W ?_
 refine WR ?_
 exact .mk ⟨rfl,h2⟩
theorem leV (hK:KOk K) {a b:Int} (h:Mch K w sv pv (st++[a,b]) sp at_ 0 false) (hl:st.length≤100000) (n:Int) (hr:True) :
 CC 144 #[mP K,.int .i64 n] w fun r w'=>r=.tuple #[]∧Res K w' st sp at_ ((Jf (decide (a≤b)),0)):=by
 try unfold I64 at hr
 refine cW2 16 Tryz.func144 ?_
 refine W ?_
 refine CL rfl (Zm rfl) rfl (JM hK h) ?_
 rintro _ w1 ⟨rfl,sv1,h1⟩
 refine W ?_
 refine CL rfl (Zb rfl rfl) rfl (Z8g hK h1 hl _) ?_
 rintro _ w2 ⟨rfl,h2⟩
 refine W ?_
 refine WR ?_
 exact .mk ⟨rfl,h2⟩
theorem eqV (hK:KOk K) {a b:Int} (h:Mch K w sv pv (st++[a,b]) sp at_ 0 false) (hl:st.length≤100000) (n:Int) (hr:True) :
 CC 145 #[mP K,.int .i64 n] w fun r w'=>r=.tuple #[]∧Res K w' st sp at_ ((Jf (decide (a=b)),0)):=by
 try unfold I64 at hr
 refine cW2 16 Tryz.func145 ?_
 refine W ?_
 refine CL rfl (Zm rfl) rfl (JM hK h) ?_
 rintro _ w1 ⟨rfl,sv1,h1⟩
 refine W ?_
 refine CL rfl (Zb rfl rfl) rfl (Z8g hK h1 hl _) ?_
 rintro _ w2 ⟨rfl,h2⟩
 refine W ?_
 refine WR ?_
 exact .mk ⟨rfl,h2⟩
theorem ZnS (hK:KOk K) {a b:Int} (h:Mch K w sv pv (st++[a,b]) sp at_ 0 false) (hl:st.length≤100000) (n:Int) (hr:I64 (a+b)) :
 CC 149 #[mP K,.int .i64 n] w fun r w'=>r=.tuple #[]∧Res K w' st sp at_ (Z6I (a+b)):=by
 try unfold I64 at hr
 refine cW2 16 Tryz.func149 ?_
 refine W ?_
 refine CL rfl (Zm rfl) rfl (JM hK h) ?_
 rintro _ w1 ⟨rfl,sv1,h1⟩
 refine W ?_
 refine CL rfl (Zb rfl rfl) rfl (ZnR hK h1 hl _) ?_
 rintro _ w2 ⟨rfl,h2⟩
 refine W ?_
 refine WR ?_
 exact .mk ⟨rfl,h2⟩
theorem Zla (hK:KOk K) {a b:Int} (h:Mch K w sv pv (st++[a,b]) sp at_ 0 false) (hl:st.length≤100000) (n:Int) (hr:I64 (7 * b)∧I64 (a+7 * b)) :
 CC 150 #[mP K,.int .i64 n] w fun r w'=>r=.tuple #[]∧Res K w' st sp at_ (Z6I (a+7 * b)):=by
 try unfold I64 at hr
 refine cW2 17 Tryz.func150 ?_
 refine W ?_
 refine CL rfl (Zm rfl) rfl (JM hK h) ?_
 rintro _ w1 ⟨rfl,sv1,h1⟩
 refine W ?_
 refine CL rfl (Zb rfl rfl) rfl (ZnR hK h1 hl _) ?_
 rintro _ w2 ⟨rfl,h2⟩
 refine W ?_
 refine WR ?_
 exact .mk ⟨rfl,h2⟩
theorem Zlb (hK:KOk K) {a b:Int} (h:Mch K w sv pv (st++[a,b]) sp at_ 0 false) (hl:st.length≤100000) (n:Int) (hr:True) :
 CC 155 #[mP K,.int .i64 n] w fun r w'=>r=.tuple #[]∧Res K w' st sp at_ ((max a b,0)):=by
 try unfold I64 at hr
 refine cW2 16 Tryz.func155 ?_
 refine W ?_
 refine CL rfl (Zm rfl) rfl (JM hK h) ?_
 rintro _ w1 ⟨rfl,sv1,h1⟩
 refine W ?_
 refine CL rfl (ZE rfl rfl rfl) rfl (Z05 hK h1 hl _ 0) ?_
 rintro _ w2 ⟨rfl,h2⟩
 refine W ?_
 refine WR ?_
 exact .mk ⟨rfl,h2⟩
theorem ZeH (hK:KOk K) {a b:Int} (h:Mch K w sv pv (st++[a,b]) sp at_ 0 false) (hl:st.length≤100000) (n:Int) (hr:True) :
 CC 156 #[mP K,.int .i64 n] w fun r w'=>r=.tuple #[]∧Res K w' st sp at_ ((min a b,0)):=by
 try unfold I64 at hr
 refine cW2 16 Tryz.func156 ?_
 refine W ?_
 refine CL rfl (Zm rfl) rfl (JM hK h) ?_
 rintro _ w1 ⟨rfl,sv1,h1⟩
 refine W ?_
 refine CL rfl (ZE rfl rfl rfl) rfl (Z05 hK h1 hl _ 0) ?_
 rintro _ w2 ⟨rfl,h2⟩
 refine W ?_
 refine WR ?_
 exact .mk ⟨rfl,h2⟩
theorem ZeI (hK:KOk K) {a b:Int} (h:Mch K w sv pv (st++[a,b]) sp at_ 0 false) (hl:st.length≤100000) (n:Int) (hr:I64 (b - a)) :
 CC 157 #[mP K,.int .i64 n] w fun r w'=>r=.tuple #[]∧Res K w' st sp at_ (Z20 (b - a)):=by
 try unfold I64 at hr
 refine cW2 16 Tryz.func157 ?_
 refine W ?_
 refine CL rfl (Zm rfl) rfl (JM hK h) ?_
 rintro _ w1 ⟨rfl,sv1,h1⟩
 refine W ?_
 refine CL rfl (Zb rfl rfl) rfl (Z4q hK h1 hl _) ?_
 rintro _ w2 ⟨rfl,h2⟩
 refine W ?_
 refine WR ?_
 exact .mk ⟨rfl,h2⟩
end
section
variable {K:MK} {w w':World} {sv pv:Value} {st:List Int} {sp:List Spn} {at_ er:Int} {dn:Bool}
theorem ZqD (hK:KOk K) {b:Int} (h:Mch K w sv pv (st++[b]) sp at_ 0 false) (hl:st.length≤100000) (n:Int) (hr:I64 (-b)) :
 CC 142 #[mP K,.int .i64 n] w fun r w'=>r=.tuple #[]∧Res K w' st sp at_ (Z20 (-b)):=by
 unfold I64 at hr
 refine cW2 9 Tryz.func142 ?_
 refine W ?_
 refine CL rfl (Zm rfl) rfl (Z1a hK h) ?_
 rintro _ w1 ⟨rfl,sv1,h1⟩
 refine W ?_
 refine CL rfl (Zb rfl rfl) rfl (Z4q hK h1 hl _) ?_
 rintro _ w2 ⟨rfl,h2⟩
 refine W ?_
 refine WR ?_
 exact .mk ⟨rfl,h2⟩
theorem ZqE (hK:KOk K) {b:Int} (h:Mch K w sv pv (st++[b]) sp at_ 0 false) (hl:st.length≤100000) (n:Int) :
 CC 146 #[mP K,.int .i64 n] w fun r w'=>r=.tuple #[]∧Res K w' st sp at_ (Jf (decide (b=0)),0):=by
 refine cW2 9 Tryz.func146 ?_
 refine W ?_
 refine CL rfl (Zm rfl) rfl (Z1a hK h) ?_
 rintro _ w1 ⟨rfl,sv1,h1⟩
 refine W ?_
 refine CL rfl (Zb rfl rfl) rfl (Z8g hK h1 hl _) ?_
 rintro _ w2 ⟨rfl,h2⟩
 refine W ?_
 refine WR ?_
 exact .mk ⟨rfl,h2⟩
theorem ZnT (hK:KOk K) (h:Mch K w sv pv st sp at_ er dn) (n:Int) :
 CC 147 #[mP K,.int .i64 n] w fun r w'=>r=.tuple #[]∧Mch K w' sv pv st sp n er dn:=by
 have hblk:=h.blk
 unfold Z14 at hblk
 refine cW2 8 Tryz.func147 ?_
 refine W ?_
 refine Z2 (Ze (u:=.int .i64 n) rfl rfl rfl rfl hblk (by simp [evC,Jm])) ?_
 rintro _ w1 ⟨hS1,hblk1⟩
 refine W ?_
 refine WR ?_
 exact .mk ⟨rfl,h.put hK hS1 hblk1⟩
theorem ZnU (hK:KOk K) (h:Mch K w sv pv st sp at_ er dn) (n:Int) :
 CC 158 #[mP K,.int .i64 n] w fun r w'=>r=.tuple #[]∧Mch K w' sv pv st sp at_ er true:=by
 have hblk:=h.blk
 unfold Z14 at hblk
 refine cW2 7 Tryz.func158 ?_
 refine W ?_
 refine Z2 (Ze (u:=.bool true) rfl rfl rfl rfl hblk (by simp [evC,Jm])) ?_
 rintro _ w1 ⟨hS1,hblk1⟩
 refine W ?_
 refine WR ?_
 exact .mk ⟨rfl,h.put hK hS1 hblk1⟩
theorem ZgG (hK:KOk K) {b:Int} (h:Mch K w sv pv (st++[b]) sp at_ er dn) (n:Int) :
 CC 148 #[mP K,.int .i64 n] w fun r w'=>r=.tuple #[]∧∃ sv',Mch K w' sv' pv st sp (if b=0 then n else at_) er dn:=by
 refine cW2 11 Tryz.func148 ?_
 refine W ?_
 refine CL rfl (Zm rfl) rfl (Z1a hK h) ?_
 rintro _ w1 ⟨rfl,sv1,h1⟩
 have hblk:=h1.blk
 unfold Z14 at hblk
 by_cases hb:b=0
 rw [if_pos hb]
 focus repeat'(first|refine W1 ?_|omega|refine VG ?_ ?_<;>intro hg|refine VC ?_ ?_<;>intro hc)
 refine Z2 (Ze (u:=.int .i64 n) rfl rfl rfl rfl hblk (by simp [evC,Jm])) ?_
 rintro _ w2 ⟨hS1,hblk1⟩
 refine W ?_
 refine WR ?_
 exact .mk ⟨rfl,sv1,h1.put hK hS1 hblk1⟩
 rw [if_neg hb]
 focus repeat'(first|refine W1 ?_|omega|refine VG ?_ ?_<;>intro hg|refine VC ?_ ?_<;>intro hc)
 refine WR ?_
 exact .mk ⟨rfl,sv1,h1⟩
theorem Zbv (a b c d e f g:Int) (w:World):(Instr.build 83 #[(0,.int .i64 a),(1,.int .i64 b),(2,.int .i64 c),(3,.int .i64 d),(4,.int .i64 e),(5,.int .i64 f),(6,.int .i64 g)]).run Tryz.prog w=.ok (.agg #[.int .i64 a,.int .i64 b,.int .i64 c,.int .i64 d,.int .i64 e,.int .i64 f,.int .i64 g]) w:=by kernel_rfl
theorem ZeJ (hK:KOk K) (h:Mch K w sv pv st sp at_ 0 false) (hl:st.length≤100000) (n:Int) (h0:0≤n) (h7:n<7) :
 CC 110 #[mP K,.int .i64 n] w fun r w'=>r=.tuple #[]∧Res K w' st sp at_ (Z4W K.ev n):=by
 have hblk:=h.blk
 unfold Z14 evC Jm at hblk
 have hbl:=hK.bml
 have hev:=hK.ev.served
 refine cW2 56 Tryz.func110 ?_
 refine W ?_
 refine ZDr 38 [] [37] [(0,0),(1,0),(2,0),(3,0),(4,1),(5,0),(6,0),(7,0),(8,0),(9,1),(10,0),(11,0),(12,0),(13,0),(14,1),(15,0),(16,0),(17,0),(18,0),(19,1),(20,0),(21,0),(22,0),(23,0),(24,1),(25,0),(26,0),(27,0),(28,0),(29,1),(30,0),(31,0),(32,0),(33,0),(34,1),(35,0),(36,2),(37,2)] (fun w1 hS1=>?_)
 replace h:=h.up hS1
 replace hblk:=hblk.up hS1
 refine D ?_
 refine Z5N rfl trivial rfl (Zbv _ _ _ _ _ _ _) rfl ?_
 refine Za rfl trivial Z7 (fun _ _ ⟨_,_,_,_,h⟩=>h) rfl ?_
 rintro _ w2 ⟨b2,rfl,hb2,e2,hS2⟩
 refine Js rfl trivial (Z3 (us:=evC K.ev) rfl rfl rfl rfl (by intro u hu;simp [evC] at hu;rcases hu with rfl|rfl|rfl|rfl|rfl|rfl|rfl<;>rfl) e2 rfl) rfl ?_
 rintro _ w3 ⟨hT,e3⟩
 have hS3:=hS2.own hT (fun c hc=>.inr (by simp at hc;omega))
 replace h:=h.up hS3
 unfold evC at e3
 refine D ?_
 clear hblk hS1 e2 hT hS2 hS3
 have fin:∀ (v e:Int),(v,e)=Z4W K.ev n→∀ w',Res K w' st sp at_ (v,e)→Ret (fun r w'=>r=.tuple #[]∧Res K w' st sp at_ (Z4W K.ev n)) (.returned (.tuple #[])) w':=by
  intro v e he w' hr
  rw [← he]
  exact .mk ⟨rfl,hr⟩
 have hn:n=0∨n=1∨n=2∨n=3∨n=4∨n=5∨n=6:=by omega
 rcases hn with rfl|rfl|rfl|rfl|rfl|rfl|rfl
 case inr.inl=>
  by_cases hs:K.ev.getD 1 0<0
  focus repeat'(first|refine W1 ?_|omega|refine VG ?_ ?_<;>intro hg|refine VC ?_ ?_<;>intro hc)
  focus repeat'(first|refine W1 ?_|omega|refine VG ?_ ?_<;>intro hg|refine VC ?_ ?_<;>intro hc)
  refine CL rfl (ZE rfl rfl rfl) rfl (Z05 hK h hl 0 32) ?_
  rintro _ w4 ⟨rfl,h1⟩
  refine W ?_
  refine WR ?_
  refine fin _ _ ?_ _ h1
  unfold Z4W
  rw [if_pos ⟨rfl,by omega⟩]
  focus repeat'(first|refine W1 ?_|omega|refine VG ?_ ?_<;>intro hg|refine VC ?_ ?_<;>intro hc)
  focus repeat'(first|refine W1 ?_|omega|refine VG ?_ ?_<;>intro hg|refine VC ?_ ?_<;>intro hc)
  focus repeat'(first|refine W1 ?_|omega|refine VG ?_ ?_<;>intro hg|refine VC ?_ ?_<;>intro hc)
  refine CL rfl (ZE rfl rfl rfl) rfl (Z05 hK h hl _ 0) ?_
  rintro _ w4 ⟨rfl,h1⟩
  refine W ?_
  refine WR ?_
  refine fin _ _ ?_ _ h1
  unfold Z4W
  rw [if_neg (by rintro ⟨-,h⟩;omega)]
  rfl
 case inl=>
  repeat'(first|refine W1 ?_|omega|refine VG ?_ ?_<;>intro hg|refine VC ?_ ?_<;>intro hc)
  repeat'(first|refine W1 ?_|omega|refine VG ?_ ?_<;>intro hg|refine VC ?_ ?_<;>intro hc)
  refine CL rfl (ZE rfl rfl rfl) rfl (Z05 hK h hl _ 0) ?_
  rintro _ w4 ⟨rfl,h1⟩
  refine W ?_
  refine WR ?_
  exact fin _ _ rfl _ h1
 case inr.inr.inl=>
  repeat'(first|refine W1 ?_|omega|refine VG ?_ ?_<;>intro hg|refine VC ?_ ?_<;>intro hc)
  repeat'(first|refine W1 ?_|omega|refine VG ?_ ?_<;>intro hg|refine VC ?_ ?_<;>intro hc)
  refine CL rfl (ZE rfl rfl rfl) rfl (Z05 hK h hl _ 0) ?_
  rintro _ w4 ⟨rfl,h1⟩
  refine W ?_
  refine WR ?_
  exact fin _ _ rfl _ h1
 case inr.inr.inr.inl=>
  repeat'(first|refine W1 ?_|omega|refine VG ?_ ?_<;>intro hg|refine VC ?_ ?_<;>intro hc)
  refine Ji (len:=7) (i:=3) rfl rfl rfl (by decide) rfl ?_
  repeat'(first|refine W1 ?_|omega|refine VG ?_ ?_<;>intro hg|refine VC ?_ ?_<;>intro hc)
  refine CL rfl (ZE rfl rfl rfl) rfl (Z05 hK h hl _ 0) ?_
  rintro _ w4 ⟨rfl,h1⟩
  refine W ?_
  refine WR ?_
  exact fin _ _ rfl _ h1
 case inr.inr.inr.inr.inl=>
  repeat'(first|refine W1 ?_|omega|refine VG ?_ ?_<;>intro hg|refine VC ?_ ?_<;>intro hc)
  refine Ji (len:=7) (i:=4) rfl rfl rfl (by decide) rfl ?_
  repeat'(first|refine W1 ?_|omega|refine VG ?_ ?_<;>intro hg|refine VC ?_ ?_<;>intro hc)
  refine CL rfl (ZE rfl rfl rfl) rfl (Z05 hK h hl _ 0) ?_
  rintro _ w4 ⟨rfl,h1⟩
  refine W ?_
  refine WR ?_
  exact fin _ _ rfl _ h1
 case inr.inr.inr.inr.inr.inl=>
  repeat'(first|refine W1 ?_|omega|refine VG ?_ ?_<;>intro hg|refine VC ?_ ?_<;>intro hc)
  refine Ji (len:=7) (i:=5) rfl rfl rfl (by decide) rfl ?_
  repeat'(first|refine W1 ?_|omega|refine VG ?_ ?_<;>intro hg|refine VC ?_ ?_<;>intro hc)
  refine CL rfl (ZE rfl rfl rfl) rfl (Z05 hK h hl _ 0) ?_
  rintro _ w4 ⟨rfl,h1⟩
  refine W ?_
  refine WR ?_
  exact fin _ _ rfl _ h1
 case inr.inr.inr.inr.inr.inr=>
  repeat'(first|refine W1 ?_|omega|refine VG ?_ ?_<;>intro hg|refine VC ?_ ?_<;>intro hc)
  refine Ji (len:=7) (i:=6) rfl rfl rfl (by decide) rfl ?_
  repeat'(first|refine W1 ?_|omega|refine VG ?_ ?_<;>intro hg|refine VC ?_ ?_<;>intro hc)
  refine CL rfl (ZE rfl rfl rfl) rfl (Z05 hK h hl _ 0) ?_
  rintro _ w4 ⟨rfl,h1⟩
  refine W ?_
  refine WR ?_
  exact fin _ _ rfl _ h1
end
def ZgH {α:Type} [Z9 α] (P:Program) (S:List Nat) (g:Nat) (lb:Array Value) (c:α→α→Int) (w:World):Prop:=
 ∀ (x y:α) (w':World),Stp S w w'→Calls P g (#[agg x,agg y]++lb) w' (Ret fun v w''=>v=.int .i64 (c x y)∧Stp [] w' w'')
theorem Zbw (x:Int) (w:World):CC 217 #[.int .i64 x] w fun v w'=>v=.bool false∧Stp [] w w':=by
 refine cW1 6 Tryz.func217 ?_
 repeat'(first|(apply Z24;exact rfl;exact rfl)|apply Z2j|(apply Z47;exact rfl;exact rfl)|(apply Zdz;exact rfl;exact rfl;exact rfl)|(apply Zb3;exact rfl;exact rfl;exact rfl)|apply Z5H|apply Z23|apply Z5I|refine Z3g ?_|refine Z1d ?_)
 refine WR ?_
 exact .mk ⟨by simp,Stp.refl _ _⟩
def ZeK (x y:Int):Int:=if x<y then -1 else if x > y then 1 else 0
theorem Z9A (x y:Int) (w:World):CC 127 #[.int .i64 x,.int .i64 y] w fun v w'=>v=.int .i64 (ZeK x y)∧Stp [] w w':=by
 refine cW2 20 Tryz.func127 ?_
 repeat'(first|(apply Z24;exact rfl;exact rfl)|apply Z2j|(apply Z47;exact rfl;exact rfl)|(apply Z7y;exact rfl;exact rfl;exact rfl)|(apply Z7z;exact rfl;exact rfl;exact rfl)|apply Z5H|apply Z23|apply Z5w|apply Z5I|(apply Z1s;exact rfl)|(apply Z16;exact rfl)|refine Z3g ?_|refine Z1d ?_)
 refine CL rfl (Zm rfl) rfl (Zbw _ _) ?_
 rintro _ w1 ⟨rfl,hS⟩
 repeat'(first|(apply Z24;exact rfl;exact rfl)|apply Z2j|(apply Z47;exact rfl;exact rfl)|(apply Z7y;exact rfl;exact rfl;exact rfl)|(apply Z7z;exact rfl;exact rfl;exact rfl)|apply Z5H|apply Z23|apply Z5w|apply Z5I|(apply Z1s;exact rfl)|(apply Z16;exact rfl)|refine Z3g ?_|refine Z1d ?_)
 refine CL rfl (Zm rfl) rfl (Zbw _ _) ?_
 rintro _ w2 ⟨rfl,hS2⟩
 replace hS:=hS.trans hS2
 repeat'(first|(apply Z24;exact rfl;exact rfl)|apply Z2j|(apply Z47;exact rfl;exact rfl)|(apply Z7y;exact rfl;exact rfl;exact rfl)|(apply Z7z;exact rfl;exact rfl;exact rfl)|apply Z5H|apply Z23|apply Z5w|apply Z5I|(apply Z1s;exact rfl)|(apply Z16;exact rfl)|refine Z3g ?_|refine Z1d ?_|refine Z7r rfl (fun hc=>?_) (fun hc=>?_)|refine Z8A rfl (fun hc=>?_) (fun hc=>?_))
 all_goals (refine WR ?_)
 all_goals exact .mk ⟨by unfold ZeK;(first|(simp_all;done)|(rw [if_neg (by omega),if_neg (by omega)])),hS⟩
def put {α:Type} (pre rest:List α) (x:α) (j:Nat):List α:=pre.take j++x :: pre.drop j++rest
theorem ZeL {α:Type} {pre rest:List α} {x:α} {j:Nat} (hj:j<pre.length):((put pre rest x (j+1)).set (j+1) pre[j]).set j x=put pre rest x j:=by
 have h1:pre.take (j+1)=pre.take j++[pre[j]]:=Xq hj
 have h2:pre.drop j=pre[j] :: pre.drop (j+1):=XG hj
 have hl:(pre.take j).length=j:=by simp;omega
 unfold put
 rw [h1,h2]
 simp only [XK,XN,XL]
 rw [Ya9,if_neg (by omega),hl,show j+1 - j=1 by omega]
 rw [Ya9,if_neg (by omega),hl,Ya6]
 rfl
theorem Zlc {α:Type} {pre rest:List α} {x:α} {j:Nat} (hj:j≤pre.length) (h:j<(put pre rest x j).length):(put pre rest x j)[j]=x:=by
 rw [List.getElem_eq_iff]
 unfold put
 rw [X3 (by simp;omega),YaA (by simp;omega)]
 simp [X1 hj]
theorem ZaC {α:Type} {pre rest:List α} {x:α} {j:Nat} (hj:j<pre.length) (h:j<(put pre rest x (j+1)).length):(put pre rest x (j+1))[j]=pre[j]:=by
 rw [List.getElem_eq_iff]
 unfold put
 rw [X3 (by simp;omega),X3 (by simp;omega)]
 simp [hj]
theorem Z8h {α:Type} {pre rest:List α} {x:α} {j:Nat}:(put pre rest x j).length=pre.length+1+rest.length:=by
 have:=congrArg List.length (XT j pre)
 simp only [Xg] at this
 simp only [put,Xg,Xc];omega
def Z7k {α:Type} (c:α→α→Int) (xs ys:List α):Prop:=ys.Perm xs∧ys.Pairwise (fun a b=>¬ c b a<0)
structure Ord {α:Type} (c:α→α→Int):Prop where
 asym:∀ a b,c a b<0→¬ c b a<0
 trans:∀ a b d,¬ c b a<0→¬ c d b<0→¬ c d a<0
theorem ZaD {α:Type} {c:α→α→Int} (ho:Ord c) {pre:List α} {x:α} {j:Nat} (hj:j≤pre.length) (hp:pre.Pairwise (fun a b=>¬ c b a<0))
 (h1:∀ q (h:q<pre.length),j≤q→c x pre[q]<0) (h2:∀ h:j - 1<pre.length,0<j→¬ c x pre[j - 1]<0):(pre.take j++x :: pre.drop j).Pairwise (fun a b=>¬ c b a<0):=by
 rw [List.pairwise_append]
 have hd:∀ a∈pre.drop j,c x a<0:=by
  intro a ha
  obtain ⟨m,hm,rfl⟩:=Xr ha
  simp only [List.getElem_drop]
  simp at hm
  exact h1 _ _ (by omega)
 have ht:∀ a∈pre.take j,¬ c x a<0:=by
  intro a ha
  obtain ⟨m,hm,rfl⟩:=Xr ha
  simp only [Xw] at hm
  simp only [List.getElem_take]
  by_cases e:m=j - 1
  subst e;exact h2 (by omega) (by omega)
  exact ho.trans _ _ _ (List.pairwise_iff_getElem.1 hp m (j - 1) (by omega) (by omega) (by omega)) (h2 (by omega) (by omega))
 refine ⟨hp.sublist (List.take_sublist _ _),?_,?_⟩
 rw [List.pairwise_cons]
 exact ⟨fun a ha=>ho.asym _ _ (hd a ha),hp.sublist (List.drop_sublist _ _)⟩
 intro a ha b hb
 rcases Xe.1 hb with rfl|hb
 exact ht a ha
 exact fun h=>by
  have h3:=hd b hb
  exact ho.trans a x b (ht a ha) (ho.asym _ _ h3) h
theorem Z4r (x y:Int):ZeK x y<0↔x<y:=by unfold ZeK;split<;>(try split)<;>omega
def Z0S (y:Nat):Nat:=
 let a:=y % 19
 let b:=y / 100
 let c:=y % 100
 let g:=(b - (b+8) / 25+1) / 3
 let h:=(19 * a+b - b / 4 - g+15) % 30
 let l:=(32+2 * (b % 4)+2 * (c / 4) - h - c % 4) % 7
 h+l+114 - 7 * ((a+11 * h+22 * l) / 451)
def Z7l (y:Nat):Nat:=(11 * (y % 19+1)+20+((8 * (y / 100+1)+5) / 25 - 5)+60 - (3 * (y / 100+1) / 4 - 12)) % 30
def Zbx (e g:Nat):Nat:=bif Nat.beq e 24 || (Nat.beq e 25 && Nat.blt 11 g) then e+1 else e
def Zby (e d:Nat):Nat:=let n:=(bif Nat.blt (44 - e) 21 then 44 - e+30 else 44 - e);n+7 - (d+n) % 7
def Z8i (y:Nat):Nat:=Zby (Zbx (Z7l y) (y % 19+1)) (5 * y / 4 - (3 * (y / 100+1) / 4 - 12) - 10)
def Zbz (y:Nat):Bool:=Nat.beq (Z0S y) (Z8i y+92) && (Nat.ble 114 (Z0S y) && Nat.ble (Z0S y) 148)
def Zcz:Nat→Nat→Bool
 | 0,lo=>Zbz lo
 | k+1,lo=>Zcz k lo && Zcz k (lo+2 ^ k)
theorem Z3t:∀ (k lo d:Nat),Zcz k lo=true→lo≤d→d<lo+2 ^ k→Zbz d=true
 | 0, lo, d, h, h1, h2 => by
   have:d=lo:=by simp at h2;omega
   subst this;exact h
 | k + 1, lo, d, h, h1, h2 => by
   simp only [Zcz,Xi] at h
   rcases Yae d (lo+2 ^ k) with h3|h3
   exact Z3t k lo d h.1 h1 h3
   exact Z3t k _ d h.2 h3 (by rw [Nat.pow_succ] at h2;omega)
theorem ZcA:Zcz 13 1583=true:=by kernel_rfl
theorem ZcB:Zcz 8 9775=true:=by kernel_rfl
theorem ZbA {y:Nat} (h1:1583≤y) (h2:y≤9999):Z0S y=Z8i y+92∧114≤Z0S y∧Z0S y≤148:=by
 have h:Zbz y=true:=by
  rcases Yae y 9775 with h3|h3
  exact Z3t 13 1583 y ZcA h1 (by omega)
  exact Z3t 8 9775 y ZcB h3 (by omega)
 unfold Zbz at h
 simp only [Xi] at h
 exact ⟨X5 h.1,XS h.2.1,XS h.2.2⟩
theorem Z7m {y:Nat} (h1:1583≤y) (h2:y≤9999):Z2c (y:Int)=(Z0S y:Int):=by
 unfold Z2c Z0S
 dsimp only
 have e1:(y:Int) % 19=((y % 19:Nat):Int):=by omega
 have e2:(y:Int) / 100=((y / 100:Nat):Int):=by omega
 have e3:(y:Int) % 100=((y % 100:Nat):Int):=by omega
 rw [e1,e2,e3]
 have ha:y % 19≤18:=by omega
 have hb:15≤y / 100∧y / 100≤99:=by omega
 have hc:y % 100≤99:=by omega
 generalize y % 19=a at *
 generalize y / 100=b at *
 generalize y % 100=c at *
 have e4:((b:Int) - ((b:Int)+8) / 25+1) / 3=(((b - (b+8) / 25+1) / 3:Nat):Int):=by omega
 have hg:(b - (b+8) / 25+1) / 3+b / 4≤b:=by omega
 rw [e4]
 generalize (b - (b+8) / 25+1) / 3=g at *
 have e5:(19 * (a:Int)+(b:Int) - (b:Int) / 4 - (g:Int)+15) % 30=(((19 * a+b - b / 4 - g+15) % 30:Nat):Int):=by omega
 rw [e5]
 have hh:(19 * a+b - b / 4 - g+15) % 30≤29:=by omega
 generalize (19 * a+b - b / 4 - g+15) % 30=h at *
 have e6:(32+2 * ((b:Int) % 4)+2 * ((c:Int) / 4) - (h:Int) - (c:Int) % 4) % 7=(((32+2 * (b % 4)+2 * (c / 4) - h - c % 4) % 7:Nat):Int):=by omega
 rw [e6]
 have hl:(32+2 * (b % 4)+2 * (c / 4) - h - c % 4) % 7≤6:=by omega
 generalize (32+2 * (b % 4)+2 * (c / 4) - h - c % 4) % 7=l at *
 omega
theorem Z5q {y:Int} (h1:1583≤y) (h2:y≤9999):114≤Z2c y∧Z2c y≤148:=by
 obtain ⟨k,rfl⟩:∃ k:Nat,y=(k:Int):=⟨y.toNat,by omega⟩
 have:=ZbA (y:=k) (by omega) (by omega)
 rw [Z7m (by omega) (by omega)]
 omega
theorem Z6o (y d:Int):Jn y 3 d=Jn y 3 1+d - 1∧Jn y 4 d=Jn y 3 1+31+d - 1:=by
 constructor
 rw [show (3:Int)=((2:Nat):Int)+1 by rfl,Z1k y d 2 (by omega),Z1k y 1 2 (by omega)];omega
 rw [show (4:Int)=((3:Nat):Int)+1 by rfl,show (3:Int)=((2:Nat):Int)+1 by rfl,Z1k y d 3 (by omega),Z1k y 1 2 (by omega)]
 have:Jv y 3=Jv y 2+31:=by
  have:Jv y 3=Jv y 2+Zs y 3:=by simp [Jv]
  rw [this];rfl
 omega
theorem ZcC {y:Nat} (h1:1583≤y) (h2:y≤9999):Z1H (y:Int)=Jn y 3 1+(Z8i y:Int) - 1:=by
 have h:=ZbA h1 h2
 have hd:=Z6o (y:Int) (Z2c y % 31+1)
 unfold Z1H
 rw [Z7m h1 h2] at hd ⊢
 rcases Yae (Z0S y) 124 with h3|h3
 have:(Z0S y:Int) / 31=3:=by omega
 rw [this,hd.1];omega
 have:(Z0S y:Int) / 31=4:=by omega
 rw [this,hd.2];omega
theorem Z1V (n a b:Int) (w:World):CC 285 #[.int .i64 n,.int .i64 a,.int .i64 b] w fun r w'=>r=.bool (decide (a≤n∧n≤b))∧w'=w:=by
 refine cW3 15 Tryz.func285 ?_
 by_cases h1:n≥a
 by_cases h2:n≤b
 rw [decide_eq_true ⟨h1,h2⟩]
 focus repeat'(first|refine W1 ?_|omega|refine VG ?_ ?_<;>intro hg|refine VC ?_ ?_<;>intro hc)
 refine WR ?_
 exact .mk ⟨by simp [h2],rfl⟩
 rw [decide_eq_false (fun h=>h2 h.2)]
 focus repeat'(first|refine W1 ?_|omega|refine VG ?_ ?_<;>intro hg|refine VC ?_ ?_<;>intro hc)
 refine WR ?_
 exact .mk ⟨by simp [h2],rfl⟩
 rw [decide_eq_false (fun h=>h1 h.1)]
 focus repeat'(first|refine W1 ?_|omega|refine VG ?_ ?_<;>intro hg|refine VC ?_ ?_<;>intro hc)
 refine WR ?_
 exact .mk ⟨rfl,rfl⟩
theorem Z3b (d:Int) (w:World) (h0:0≤d) (h1:d≤9000000000):CC 238 #[.int .i64 d] w fun r w'=>r=.int .i64 (d % 7)∧w'=w:=by
 refine cW1 7 Tryz.func238 ?_
 refine W ?_
 refine WR ?_
 exact .mk ⟨by congr 1;omega,rfl⟩
theorem ZaE (y:Int) (w:World):CC 347 #[.int .i64 y] w fun r w'=>r=.tuple #[.int .i64 (if y<1583∨9999<y then 0 else Z1H y),.int .i64 (if y<1583∨9999<y then 5 else 0)]∧Stp [] w w':=by
 refine cW1 77 Tryz.func347 ?_
 by_cases hy:y<1583∨9999<y
 · rw [if_pos hy,if_pos hy]
   repeat'(first|refine W1 ?_|omega|refine VG ?_ ?_<;>intro hg|refine VC ?_ ?_<;>intro hc)
   all_goals refine WR ?_
   all_goals exact .mk ⟨rfl,Stp.refl _ _⟩
 rw [if_neg hy,if_neg hy]
 have hb:=Z5q (y:=y) (by omega) (by omega)
 have he:Z6D (Z2c y=(19 * (y % 19)+y / 100 - y / 100 / 4 - (y / 100 - (y / 100+8) / 25+1) / 3+15) % 30 +
  (32+2 * (y / 100 % 4)+2 * (y % 100 / 4) - (19 * (y % 19)+y / 100 - y / 100 / 4 - (y / 100 - (y / 100+8) / 25+1) / 3+15) % 30 - y % 100 % 4) % 7 -
  7 * ((y % 19+11 * ((19 * (y % 19)+y / 100 - y / 100 / 4 - (y / 100 - (y / 100+8) / 25+1) / 3+15) % 30)+22 * ((32+2 * (y / 100 % 4)+2 * (y % 100 / 4) - (19 * (y % 19)+y / 100 - y / 100 / 4 - (y / 100 - (y / 100+8) / 25+1) / 3+15) % 30 - y % 100 % 4) % 7)) / 451)+114):=⟨rfl⟩
 have g1:0≤y % 19∧y % 19≤18:=by omega
 have g2:15≤y / 100∧y / 100≤99:=by omega
 have g3:0≤y % 100∧y % 100≤99:=by omega
 focus repeat'(first|refine W1 ?_|omega|refine VG ?_ ?_<;>intro hg|refine VC ?_ ?_<;>intro hc)
 have g4:0≤(19 * (y % 19)+y / 100 - y / 100 / 4 - (y / 100 - (y / 100+8) / 25+1) / 3+15) % 30∧(19 * (y % 19)+y / 100 - y / 100 / 4 - (y / 100 - (y / 100+8) / 25+1) / 3+15) % 30≤29:=by omega
 generalize (19 * (y % 19)+y / 100 - y / 100 / 4 - (y / 100 - (y / 100+8) / 25+1) / 3+15) % 30=H at he g4 ⊢
 have g5:0≤(32+2 * (y / 100 % 4)+2 * (y % 100 / 4) - H - y % 100 % 4) % 7∧(32+2 * (y / 100 % 4)+2 * (y % 100 / 4) - H - y % 100 % 4) % 7≤6:=by omega
 refine W ?_
 generalize (32+2 * (y / 100 % 4)+2 * (y % 100 / 4) - H - y % 100 % 4) % 7=L at he g5 ⊢
 rw [← he.h]
 refine Z6 (vs:=[(0,.int .i64 y),(1,.int .i64 (Z2c y / 31)),(2,.int .i64 (Z2c y % 31+1))]) rfl (Z1T _ _ _) rfl ?_
 refine CL rfl (Zm rfl) rfl (Z3U y _ _ _ (by omega) (by omega) (by omega) (by omega) (by omega) (by omega) (by omega)) ?_
 rintro _ w1 ⟨rfl,hS⟩
 refine W ?_
 refine WR ?_
 exact .mk ⟨rfl,hS⟩
end Go.Proofs.YtjdjdoefppebkaaGreatDoor
