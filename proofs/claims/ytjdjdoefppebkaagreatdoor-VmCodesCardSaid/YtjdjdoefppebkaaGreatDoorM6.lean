/-
Merged by program out of own texts: Gq2, Gq3, Gq4, Dtr2, Dtr3, Gq5, Gq6, Mad4, Spn1, Vev1, Vev2, Vev3, Vev4, Vev5, Vev6, Vev7, Lvx1, Lvx2, Vla0, Vla3.
-/
import Derived.Test.YtjdjdoefppebkaaGreatDoorM5
set_option linter.unusedVariables false
set_option linter.unusedSimpArgs false
namespace Go.Proofs.YtjdjdoefppebkaaGreatDoor
open Go Go.Eng Go.RowKit
set_option maxHeartbeats 1000000
theorem Z4z (d:Nat) (hd6:d≤6) (ih:∀ e,d=e+1→Z22 43 1 e∧Z22 44 2 e∧Z22 45 3 e):Z22 43 1 d:=by
 intro X w bm lv l i z hz hmk hsl hl hi hX
 subst hz
 have hsz:szD (d+1)=1+3 * szD d:=rfl
 refine cW2 88 Tryz.func43 ?_
 refine W ?_
 refine Z1 Z7 rfl ?_
 rintro _ w1 ⟨b4,rfl,hb4,hblk4,hS0⟩
 have gm:G3 (b4 :: bm :: X) w1 w1 bm b4 lv l i:=⟨hmk.up hS0,hsl.up hS0,Stp.refl _ _,⟨_,rfl,hblk4⟩,fun h=>by have:=hmk.lt;omega,fun c hc=>by
  simp only [Xe] at hc
  have h1:=hblk4.lt
  have h2:=hmk.lt
  have h3:=hS0.size
  rcases hc with rfl|rfl|hc
  exact h1
  omega
  have:=hX c hc;omega⟩
 clear hblk4 hX hsl hmk
 refine W ?_
 refine CL rfl (Zb rfl rfl) rfl (ZV bm lv l _ 9 _ (by decide) (by omega) gm.mkr gm.sl hl) ?_
 rintro _ wq ⟨q,rfl,hq,hm,hS⟩
 replace gm:=gm.nxt hm hS
 clear hm hS
 refine W ?_
 refine CL rfl (Zb rfl rfl) rfl (Z54 bm lv l _ d _ _ rfl gm.mkr gm.sl) ?_
 rintro _ wq ⟨dn,rfl,hdn,hT⟩
 replace gm:=gm.up hT
 clear hT
 refine W ?_
 refine Z2k (σ:=Nat) (fun k=>[(0,.pointer (some ⟨bm,0,none⟩)),(1,.int .i64 (d:Int)),(4,.pointer (some ⟨b4,0,none⟩)),(5,.int .i64 (k:Int))]) (fun k w'=>w'=wq∧k<9∧(d=0→k<4)) ?_ ?_
 · cases dn with
   | true=>
     repeat'(first|refine W1 ?_|omega|refine VG ?_ ?_<;>intro hg|refine VC ?_ ?_<;>intro hc)
     exact ZO (q % 4) ⟨rfl,rfl,rfl,rfl,trivial⟩ ⟨rfl,by omega,fun _=>by omega⟩
   | false=>
     repeat'(first|refine W1 ?_|omega|refine VG ?_ ?_<;>intro hg|refine VC ?_ ?_<;>intro hc)
     exact ZO q ⟨rfl,rfl,rfl,rfl,trivial⟩ ⟨rfl,by omega,fun h=>absurd (hdn h) (by decide)⟩
 rintro k w3 ⟨rfl,hkn,hk1⟩
 clear hq hdn
 by_cases k0:k≤2
 · repeat'(first|refine W1 ?_|omega|refine VG ?_ ?_<;>intro hg|refine VC ?_ ?_<;>intro hc)
   all_goals
    refine CL rfl (Zb rfl rfl) rfl (ZV bm lv l _ 25 _ (by decide) (by omega) gm.mkr gm.sl hl) ?_
    rintro _ wq ⟨q',rfl,hq',hm,hS⟩
    replace gm:=gm.nxt hm hS
    clear hm hS
    refine W ?_
    apply Z6 (vs:=[(0,.int .i64 1),(1,.int .i64 _)]) rfl (Z4b _ _) rfl
    have hy:SlV (α:=Nd) (b4 :: bm :: X) _ (.slice none 0 0) []:=Z0P _ wq
    obtain ⟨cs,hcl,hcb⟩:=gm.blk
    refine Z2 (Z3 (us:=ndC (.mk 1 (q':Int) [] []) _) rfl rfl rfl rfl (Zh (x:=(.mk 1 (q':Int) [] [])) hy) hcb hcl.symm) ?_
    rintro _ wz ⟨hz,hbz⟩
    refine W ?_
    refine Zl rfl rfl rfl hbz rfl ?_
    have hf:=gm.fin (y:=(.mk 1 (q':Int) [] [])) hS0 hb4 hy hz
    exact .mk ⟨_,_,hf.1,.num _ _ (by omega),hf.2.1,by omega,hf.2.2⟩
 by_cases k3:k=3
 focus repeat'(first|refine W1 ?_|omega|refine VG ?_ ?_<;>intro hg|refine VC ?_ ?_<;>intro hc)
 refine Z1 (Z0 (vs:=[(0,str [101,120,116,114,97]),(1,str [98,121]),(2,str [116,111]),(3,str [99,111,117,114,116]),(4,str [97,109,111,117,110,116])]) rfl (bS5 _ _ _ _ _)) rfl ?_
 rintro wv wq hN
 have hws:SlV [bm] wq wv Z8o:=hN.slv (fun c hc=>gm.hX c (by simp at hc;subst hc;simp)) rfl rfl (by decide)
 have hT:=Z5.stp hN
 clear hN
 replace gm:=gm.up hT
 clear hT
 refine W ?_
 refine CL rfl (Zb rfl rfl) rfl (ZV bm lv l _ 5 _ (by decide) (by omega) gm.mkr gm.sl hl) ?_
 rintro _ wq ⟨q',rfl,hq',hm,hS⟩
 replace gm:=gm.nxt hm hS
 replace hws:=hws.ext hS (by simp) (fun _ h=>.inl h)
 clear hm hS
 have hqn:q'<Z8o.length:=by show q'<5;omega
 refine W ?_
 refine CL rfl (ZE rfl rfl rfl) rfl (Zw (b4 :: bm :: X) 4 Z8o[q'] (.slice none 0 0) [] _ gm.hX (Z0P _ _)) ?_
 rintro _ wq ⟨⟨ky,rfl,hy⟩,hT⟩
 replace gm:=gm.up hT
 clear hT
 obtain ⟨cs,hcl,hcb⟩:=gm.blk
 refine Z2 (Z3 (us:=ndC (.mk 4 0 Z8o[q'] []) _) rfl rfl rfl rfl (Zh (x:=(.mk 4 0 Z8o[q'] [])) hy) hcb hcl.symm) ?_
 rintro _ wz ⟨hz,hbz⟩
 refine W ?_
 refine Zl rfl rfl rfl hbz rfl ?_
 have hf:=gm.fin (y:=(.mk 4 0 Z8o[q'] [])) hS0 hb4 hy hz
 exact .mk ⟨_,_,hf.1,.fldN _ _ (Xf hqn),hf.2.1,by omega,hf.2.2⟩
 by_cases k4:k=4
 obtain ⟨e,rfl⟩:∃ e,d=e+1:=⟨d - 1,by omega⟩
 replace ih:=ih e rfl
 have hsp:=Z1b e
 focus repeat'(first|refine W1 ?_|omega|refine VG ?_ ?_<;>intro hg|refine VC ?_ ?_<;>intro hc)
 refine W ?_
 refine CL rfl (Zb rfl rfl) rfl ((ih.1) (b4 :: bm :: X) _ bm lv l _ _ (by omega) gm.mkr gm.sl hl (by omega) gm.hX) ?_
 rintro _ wq ⟨y0,i0,⟨k0,rfl,s0⟩,g0,hm,hi0,hS⟩
 obtain ⟨p0,c0,rfl,-⟩:=id s0
 replace gm:=gm.nxt hm hS
 clear hm hS
 refine W ?_
 refine Z1 (Z0 (vs:=[(0,.agg #[.int .i64 y0.kind,.int .i64 y0.num,str y0.word,.slice p0 y0.kids.length c0])]) rfl (Z0e _ _ _ _ _ _)) rfl ?_
 rintro bv wq hN
 have hbv:SlV (b4 :: bm :: X) wq bv [y0]:=hN.slvG (css:=[ndC y0 _]) gm.hX rfl rfl rfl (Z2X s0) (by simp [maxLen])
 have hT:=Z5.stp hN
 clear hN
 replace gm:=gm.up hT
 clear hT
 refine W ?_
 refine CL rfl (ZE rfl rfl rfl) rfl (Zw (b4 :: bm :: X) 5 [45] bv [y0] _ gm.hX hbv) ?_
 rintro _ wq ⟨⟨ky,rfl,hy⟩,hT⟩
 replace gm:=gm.up hT
 clear hT hbv
 refine W ?_
 obtain ⟨cs,hcl,hcb⟩:=gm.blk
 refine Z2 (Z3 (us:=ndC (.mk 5 0 [45] [y0]) _) rfl rfl rfl rfl (Zh (x:=(.mk 5 0 [45] [y0])) hy) hcb hcl.symm) ?_
 rintro _ wz ⟨hz,hbz⟩
 refine W ?_
 refine Zl rfl rfl rfl hbz rfl ?_
 have hf:=gm.fin (y:=(.mk 5 0 [45] [y0])) hS0 hb4 hy hz
 exact .mk ⟨_,_,hf.1,.neg _ _ g0,hf.2.1,by omega,hf.2.2⟩
 by_cases k5:k=5
 obtain ⟨e,rfl⟩:∃ e,d=e+1:=⟨d - 1,by omega⟩
 replace ih:=ih e rfl
 have hsp:=Z1b e
 focus repeat'(first|refine W1 ?_|omega|refine VG ?_ ?_<;>intro hg|refine VC ?_ ?_<;>intro hc)
 refine W ?_
 refine CL rfl (Zb rfl rfl) rfl ((ih.2.2) (b4 :: bm :: X) _ bm lv l _ _ (by omega) gm.mkr gm.sl hl (by omega) gm.hX) ?_
 rintro _ wq ⟨y0,i0,⟨k0,rfl,s0⟩,g0,hm,hi0,hS⟩
 obtain ⟨p0,c0,rfl,-⟩:=id s0
 replace gm:=gm.nxt hm hS
 clear hm hS
 refine Z1 Z7 rfl ?_
 rintro _ wq ⟨b0',rfl,hb0',e0,hT⟩
 refine Z2 (Z3 (us:=ndC y0 _) rfl rfl rfl rfl (Zh s0) e0 rfl) ?_
 rintro _ wq ⟨hT2,e0⟩
 replace hT:=JN hT hb0' hT2
 clear hT2
 have n0:b0'≠bm:=fun h=>by have:=gm.mkr.lt;omega
 have n0':b0'≠b4:=fun h=>by obtain ⟨_,_,hc⟩:=gm.blk;have:=hc.lt;omega
 replace gm:=gm.up hT
 replace s0:=s0.up hT
 clear hT hb0'
 refine W ?_
 refine ZDr 8 ([b4,bm]) [] [(0,1),(1,0),(2,0),(3,0),(4,2),(5,2),(6,2),(7,2)] (fun w1 hS1=>?_)
 have hT:=hS1
 replace gm:=gm.up hT
 replace s0:=s0.up hT
 replace e0:=e0.up hT
 clear hT hS1
 refine ZZ rfl trivial (fun w' hS'=>J2 rfl rfl (e0.ext hS' (by simp;exact ⟨n0',n0⟩)) rfl) rfl ?_
 refine D ?_
 refine Za rfl trivial (Z4 rfl (Zb rfl rfl) ((ih.2.2) (b4 :: bm :: X) _ bm lv l _ _ (by omega) gm.mkr gm.sl hl (by omega) gm.hX)) (fun _ _ h=>by obtain ⟨_,_,_,_,_,_,h⟩:=h;exact h.mono (by simp)) rfl ?_
 rintro _ wq ⟨y1,i1,⟨k1,rfl,s1⟩,g1,hm,hi1,hS⟩
 obtain ⟨p1,c1,rfl,-⟩:=id s1
 replace gm:=gm.nxt hm hS
 replace s0:=s0.ext hS (by simp) (fun _ h=>.inl h)
 replace e0:=e0.ext hS (by simp;exact n0)
 clear hm hS
 refine D ?_
 refine Za rfl trivial (Z0 (vs:=[(0,.agg #[.int .i64 y0.kind,.int .i64 y0.num,str y0.word,.slice p0 y0.kids.length c0]),(1,.agg #[.int .i64 y1.kind,.int .i64 y1.num,str y1.word,.slice p1 y1.kids.length c1])]) rfl (Jk _ _ _ _ _ _ _ _ _ _ _ _)) (fun _ _ h=>(Z5.stp h).mono (by simp)) rfl ?_
 rintro bv wq hN
 have hbv:SlV (b4 :: bm :: X) wq bv [y0,y1]:=hN.slvG (css:=[ndC y0 _,ndC y1 _]) gm.hX rfl rfl rfl (Z1i s0 s1) (by simp [maxLen])
 have hT:=Z5.stp hN
 clear hN
 replace gm:=gm.up hT
 clear hT
 refine D ?_
 refine Za rfl trivial (Z4 rfl (ZE rfl rfl rfl) (Zw (b4 :: bm :: X) 10 [98,101,116,119,101,101,110] bv [y0,y1] _ gm.hX hbv)) (fun _ _ h=>h.2.mono (by simp)) rfl ?_
 rintro _ wq ⟨⟨ky,rfl,hy⟩,hT⟩
 replace gm:=gm.up hT
 clear hT hbv
 refine D ?_
 obtain ⟨cs,hcl,hcb⟩:=gm.blk
 refine ZD rfl trivial (Z3 (us:=ndC (.mk 10 0 [98,101,116,119,101,101,110] [y0,y1]) _) rfl rfl rfl rfl (Zh (x:=(.mk 10 0 [98,101,116,119,101,101,110] [y0,y1])) hy) hcb hcl.symm) (fun _ _ h=>h.1.mono (by simp)) ?_
 rintro _ wz ⟨hz,hbz⟩
 refine D ?_
 refine W ?_
 refine Zl rfl rfl rfl hbz rfl ?_
 have hf:=gm.fin (y:=(.mk 10 0 [98,101,116,119,101,101,110] [y0,y1])) hS0 hb4 hy hz
 exact .mk ⟨_,_,hf.1,.btw _ _ _ g0 g1,hf.2.1,by omega,hf.2.2⟩
 by_cases k6:k=6
 obtain ⟨e,rfl⟩:∃ e,d=e+1:=⟨d - 1,by omega⟩
 replace ih:=ih e rfl
 have hsp:=Z1b e
 focus repeat'(first|refine W1 ?_|omega|refine VG ?_ ?_<;>intro hg|refine VC ?_ ?_<;>intro hc)
 refine W ?_
 refine CL rfl (Zb rfl rfl) rfl ((ih.2.1) (b4 :: bm :: X) _ bm lv l _ _ (by omega) gm.mkr gm.sl hl (by omega) gm.hX) ?_
 rintro _ wq ⟨y0,i0,⟨k0,rfl,s0⟩,g0,hm,hi0,hS⟩
 obtain ⟨p0,c0,rfl,-⟩:=id s0
 replace gm:=gm.nxt hm hS
 clear hm hS
 refine Z1 Z7 rfl ?_
 rintro _ wq ⟨b0',rfl,hb0',e0,hT⟩
 refine Z2 (Z3 (us:=ndC y0 _) rfl rfl rfl rfl (Zh s0) e0 rfl) ?_
 rintro _ wq ⟨hT2,e0⟩
 replace hT:=JN hT hb0' hT2
 clear hT2
 have n0:b0'≠bm:=fun h=>by have:=gm.mkr.lt;omega
 have n0':b0'≠b4:=fun h=>by obtain ⟨_,_,hc⟩:=gm.blk;have:=hc.lt;omega
 replace gm:=gm.up hT
 replace s0:=s0.up hT
 clear hT hb0'
 refine W ?_
 refine CL rfl (Zb rfl rfl) rfl ((ih.1) (b4 :: bm :: X) _ bm lv l _ _ (by omega) gm.mkr gm.sl hl (by omega) gm.hX) ?_
 rintro _ wq ⟨y1,i1,⟨k1,rfl,s1⟩,g1,hm,hi1,hS⟩
 obtain ⟨p1,c1,rfl,-⟩:=id s1
 replace gm:=gm.nxt hm hS
 replace s0:=s0.ext hS (by simp) (fun _ h=>.inl h)
 replace e0:=e0.ext hS (by simp;exact n0)
 clear hm hS
 refine Z1 Z7 rfl ?_
 rintro _ wq ⟨b1',rfl,hb1',e1,hT⟩
 refine Z2 (Z3 (us:=ndC y1 _) rfl rfl rfl rfl (Zh s1) e1 rfl) ?_
 rintro _ wq ⟨hT2,e1⟩
 replace hT:=JN hT hb1' hT2
 clear hT2
 have n1:b1'≠bm:=fun h=>by have:=gm.mkr.lt;omega
 have n1':b1'≠b4:=fun h=>by obtain ⟨_,_,hc⟩:=gm.blk;have:=hc.lt;omega
 replace gm:=gm.up hT
 replace s0:=s0.up hT
 replace e0:=e0.up hT
 replace s1:=s1.up hT
 clear hT hb1'
 refine W ?_
 refine ZDr 9 ([b4,bm]) [] [(0,1),(1,1),(2,0),(3,0),(4,0),(5,2),(6,2),(7,2),(8,2)] (fun w1 hS1=>?_)
 have hT:=hS1
 replace gm:=gm.up hT
 replace s0:=s0.up hT
 replace e0:=e0.up hT
 replace s1:=s1.up hT
 replace e1:=e1.up hT
 clear hT hS1
 refine ZZ rfl trivial (fun w' hS'=>J2 rfl rfl (e0.ext hS' (by simp;exact ⟨n0',n0⟩)) rfl) rfl ?_
 refine ZZ rfl trivial (fun w' hS'=>J2 rfl rfl (e1.ext hS' (by simp;exact ⟨n1',n1⟩)) rfl) rfl ?_
 refine D ?_
 refine Za rfl trivial (Z4 rfl (Zb rfl rfl) ((ih.1) (b4 :: bm :: X) _ bm lv l _ _ (by omega) gm.mkr gm.sl hl (by omega) gm.hX)) (fun _ _ h=>by obtain ⟨_,_,_,_,_,_,h⟩:=h;exact h.mono (by simp)) rfl ?_
 rintro _ wq ⟨y2,i2,⟨k2,rfl,s2⟩,g2,hm,hi2,hS⟩
 obtain ⟨p2,c2,rfl,-⟩:=id s2
 replace gm:=gm.nxt hm hS
 replace s0:=s0.ext hS (by simp) (fun _ h=>.inl h)
 replace e0:=e0.ext hS (by simp;exact n0)
 replace s1:=s1.ext hS (by simp) (fun _ h=>.inl h)
 replace e1:=e1.ext hS (by simp;exact n1)
 clear hm hS
 refine D ?_
 refine Za rfl trivial (Z0 (vs:=[(0,.agg #[.int .i64 y0.kind,.int .i64 y0.num,str y0.word,.slice p0 y0.kids.length c0]),(1,.agg #[.int .i64 y1.kind,.int .i64 y1.num,str y1.word,.slice p1 y1.kids.length c1]),(2,.agg #[.int .i64 y2.kind,.int .i64 y2.num,str y2.word,.slice p2 y2.kids.length c2])]) rfl (Z94 _ _ _ _ _ _ _ _ _ _ _ _ _ _ _ _ _ _)) (fun _ _ h=>(Z5.stp h).mono (by simp)) rfl ?_
 rintro bv wq hN
 have hbv:SlV (b4 :: bm :: X) wq bv [y0,y1,y2]:=hN.slvG (css:=[ndC y0 _,ndC y1 _,ndC y2 _]) gm.hX rfl rfl rfl (Zhh s0 s1 s2) (by simp [maxLen])
 have hT:=Z5.stp hN
 clear hN
 replace gm:=gm.up hT
 clear hT
 refine D ?_
 refine Za rfl trivial (Z4 rfl (ZE rfl rfl rfl) (Zw (b4 :: bm :: X) 9 [] bv [y0,y1,y2] _ gm.hX hbv)) (fun _ _ h=>h.2.mono (by simp)) rfl ?_
 rintro _ wq ⟨⟨ky,rfl,hy⟩,hT⟩
 replace gm:=gm.up hT
 clear hT hbv
 refine D ?_
 obtain ⟨cs,hcl,hcb⟩:=gm.blk
 refine ZD rfl trivial (Z3 (us:=ndC (.mk 9 0 [] [y0,y1,y2]) _) rfl rfl rfl rfl (Zh (x:=(.mk 9 0 [] [y0,y1,y2])) hy) hcb hcl.symm) (fun _ _ h=>h.1.mono (by simp)) ?_
 rintro _ wz ⟨hz,hbz⟩
 refine D ?_
 refine W ?_
 refine Zl rfl rfl rfl hbz rfl ?_
 have hf:=gm.fin (y:=(.mk 9 0 [] [y0,y1,y2])) hS0 hb4 hy hz
 exact .mk ⟨_,_,hf.1,.cond _ _ _ _ _ (by decide) g0 g1 g2,hf.2.1,by omega,hf.2.2⟩
 obtain ⟨e,rfl⟩:∃ e,d=e+1:=⟨d - 1,by omega⟩
 replace ih:=ih e rfl
 have hsp:=Z1b e
 repeat'(first|refine W1 ?_|omega|refine VG ?_ ?_<;>intro hg|refine VC ?_ ?_<;>intro hc)
 refine W ?_
 refine CL rfl (Zb rfl rfl) rfl ((ih.1) (b4 :: bm :: X) _ bm lv l _ _ (by omega) gm.mkr gm.sl hl (by omega) gm.hX) ?_
 rintro _ wq ⟨y0,i0,⟨k0,rfl,s0⟩,g0,hm,hi0,hS⟩
 obtain ⟨p0,c0,rfl,-⟩:=id s0
 replace gm:=gm.nxt hm hS
 clear hm hS
 refine Z1 Z7 rfl ?_
 rintro _ wq ⟨b0',rfl,hb0',e0,hT⟩
 refine Z2 (Z3 (us:=ndC y0 _) rfl rfl rfl rfl (Zh s0) e0 rfl) ?_
 rintro _ wq ⟨hT2,e0⟩
 replace hT:=JN hT hb0' hT2
 clear hT2
 have n0:b0'≠bm:=fun h=>by have:=gm.mkr.lt;omega
 have n0':b0'≠b4:=fun h=>by obtain ⟨_,_,hc⟩:=gm.blk;have:=hc.lt;omega
 replace gm:=gm.up hT
 replace s0:=s0.up hT
 clear hT hb0'
 refine W ?_
 refine Z1A 13 [b4,bm] [] rfl mixed (fun w1 hS1=>?_)
 have hT:=hS1
 replace gm:=gm.up hT
 replace s0:=s0.up hT
 replace e0:=e0.up hT
 clear hT hS1
 refine J7 1 rfl trivial (fun w'=>ZQ rfl) rfl (by kernel_rfl) (by kernel_rfl) ?_
 refine Z8p 5 rfl trivial (fun w' hS'=>J2 rfl rfl (e0.ext hS' (by simp;exact ⟨n0',n0⟩)) rfl) rfl (by kernel_rfl) (by kernel_rfl) ?_
 refine J7 6 rfl trivial (fun w'=>ZQ rfl) rfl (by kernel_rfl) (by kernel_rfl) ?_
 refine J7 7 rfl trivial (fun w'=>ZQ rfl) rfl (by kernel_rfl) (by kernel_rfl) ?_
 refine J7 8 rfl trivial (fun w'=>Z2M rfl rfl (by unfold I64;omega)) rfl (by kernel_rfl) (by kernel_rfl) ?_
 refine Z0U 0 2 (by kernel_rfl) ?_ ?_
 refine ZW rfl trivial (Z0 (vs:=[(0,str [43]),(1,str [45]),(2,str [42])]) rfl (bS3 _ _ _)) (fun _ _ h=>(Z5.stp h).mono (by simp)) rfl ?_
 rintro wv wq hN
 have hws:SlV [b4,bm] wq wv JS:=hN.slv (fun c hc=>gm.hX c (by simp at hc;rcases hc with rfl|rfl<;>simp)) rfl rfl (by decide)
 have hT:=Z5.stp hN
 clear hN
 replace gm:=gm.up hT
 replace s0:=s0.up hT
 replace e0:=e0.up hT
 clear hT
 refine Z2i [(2,2),(3,0),(4,1),(9,2),(10,2),(11,2),(12,2)] (by kernel_rfl) (by kernel_rfl) (by kernel_rfl) ?_
 refine Za rfl trivial (Z4 rfl (Zb rfl rfl) (ZV bm lv l _ 3 _ (by decide) (by omega) gm.mkr gm.sl hl)) (fun _ _ h=>h.choose_spec.2.2.2.mono (by simp)) rfl ?_
 rintro _ wq ⟨q,rfl,hq,hm,hS⟩
 replace gm:=gm.nxt hm hS
 replace s0:=s0.ext hS (by simp) (fun _ h=>.inl h)
 replace e0:=e0.ext hS (by simp;exact n0)
 replace hws:=hws.ext hS (by simp) (fun _ h=>.inl h)
 clear hm hS
 have hqn:q<JS.length:=by show q<3;omega
 refine D ?_
 refine Za rfl trivial (Z4 rfl (Zb rfl rfl) ((ih.1) (b4 :: bm :: X) _ bm lv l _ _ (by omega) gm.mkr gm.sl hl (by omega) gm.hX)) (fun _ _ h=>by obtain ⟨_,_,_,_,_,_,h⟩:=h;exact h.mono (by simp)) rfl ?_
 rintro _ wq ⟨y1,i1,⟨k1,rfl,s1⟩,g1,hm,hi1,hS⟩
 obtain ⟨p1,c1,rfl,-⟩:=id s1
 replace gm:=gm.nxt hm hS
 replace s0:=s0.ext hS (by simp) (fun _ h=>.inl h)
 replace e0:=e0.ext hS (by simp;exact n0)
 replace hws:=hws.ext hS (by simp) (fun _ h=>.inl h)
 clear hm hS
 refine D ?_
 refine Za rfl trivial (Z0 (vs:=[(0,.agg #[.int .i64 y0.kind,.int .i64 y0.num,str y0.word,.slice p0 y0.kids.length c0]),(1,.agg #[.int .i64 y1.kind,.int .i64 y1.num,str y1.word,.slice p1 y1.kids.length c1])]) rfl (Jk _ _ _ _ _ _ _ _ _ _ _ _)) (fun _ _ h=>(Z5.stp h).mono (by simp)) rfl ?_
 rintro bv wq hN
 have hbv:SlV (b4 :: bm :: X) wq bv [y0,y1]:=hN.slvG (css:=[ndC y0 _,ndC y1 _]) gm.hX rfl rfl rfl (Z1i s0 s1) (by simp [maxLen])
 have hT:=Z5.stp hN
 clear hN
 replace gm:=gm.up hT
 replace hws:=hws.up hT
 clear hT
 refine D ?_
 refine Za rfl trivial (Z4 rfl (ZE rfl rfl rfl) (Zw (b4 :: bm :: X) 6 JS[q] bv [y0,y1] _ gm.hX hbv)) (fun _ _ h=>h.2.mono (by simp)) rfl ?_
 rintro _ wq ⟨⟨ky,rfl,hy⟩,hT⟩
 replace gm:=gm.up hT
 clear hT hbv
 refine D ?_
 obtain ⟨cs,hcl,hcb⟩:=gm.blk
 refine ZD rfl trivial (Z3 (us:=ndC (.mk 6 0 JS[q] [y0,y1]) _) rfl rfl rfl rfl (Zh (x:=(.mk 6 0 JS[q] [y0,y1])) hy) hcb hcl.symm) (fun _ _ h=>h.1.mono (by simp)) ?_
 rintro _ wz ⟨hz,hbz⟩
 refine D ?_
 refine W ?_
 refine Zl rfl rfl rfl hbz rfl ?_
 have hf:=gm.fin (y:=(.mk 6 0 JS[q] [y0,y1])) hS0 hb4 hy hz
 exact .mk ⟨_,_,hf.1,.arith _ _ _ _ (Xf hqn) g0 g1,hf.2.1,by omega,hf.2.2⟩
 refine ZW rfl trivial (Z4 rfl (Zb rfl rfl) (ZV bm lv l _ 3 _ (by decide) (by omega) gm.mkr gm.sl hl)) (fun _ _ h=>h.choose_spec.2.2.2.mono (by simp)) rfl ?_
 rintro _ wq ⟨q,rfl,hq,hm,hS⟩
 replace gm:=gm.nxt hm hS
 replace s0:=s0.ext hS (by simp) (fun _ h=>.inl h)
 replace e0:=e0.ext hS (by simp;exact n0)
 clear hm hS
 have hqn:q<JS.length:=by show q<3;omega
 refine Z0U 0 9 (by kernel_rfl) ?_ ?_
 refine ZW rfl trivial (Z0 (vs:=[(0,str [43]),(1,str [45]),(2,str [42])]) rfl (bS3 _ _ _)) (fun _ _ h=>(Z5.stp h).mono (by simp)) rfl ?_
 rintro wv wq hN
 have hws:SlV [b4,bm] wq wv JS:=hN.slv (fun c hc=>gm.hX c (by simp at hc;rcases hc with rfl|rfl<;>simp)) rfl rfl (by decide)
 have hT:=Z5.stp hN
 clear hN
 replace gm:=gm.up hT
 replace s0:=s0.up hT
 replace e0:=e0.up hT
 clear hT
 refine Z2i [(3,0),(4,1),(9,2),(10,2),(11,2),(12,2)] (by kernel_rfl) (by kernel_rfl) (by kernel_rfl) ?_
 refine D ?_
 refine Za rfl trivial (Z4 rfl (Zb rfl rfl) ((ih.1) (b4 :: bm :: X) _ bm lv l _ _ (by omega) gm.mkr gm.sl hl (by omega) gm.hX)) (fun _ _ h=>by obtain ⟨_,_,_,_,_,_,h⟩:=h;exact h.mono (by simp)) rfl ?_
 rintro _ wq ⟨y1,i1,⟨k1,rfl,s1⟩,g1,hm,hi1,hS⟩
 obtain ⟨p1,c1,rfl,-⟩:=id s1
 replace gm:=gm.nxt hm hS
 replace s0:=s0.ext hS (by simp) (fun _ h=>.inl h)
 replace e0:=e0.ext hS (by simp;exact n0)
 replace hws:=hws.ext hS (by simp) (fun _ h=>.inl h)
 clear hm hS
 refine D ?_
 refine Za rfl trivial (Z0 (vs:=[(0,.agg #[.int .i64 y0.kind,.int .i64 y0.num,str y0.word,.slice p0 y0.kids.length c0]),(1,.agg #[.int .i64 y1.kind,.int .i64 y1.num,str y1.word,.slice p1 y1.kids.length c1])]) rfl (Jk _ _ _ _ _ _ _ _ _ _ _ _)) (fun _ _ h=>(Z5.stp h).mono (by simp)) rfl ?_
 rintro bv wq hN
 have hbv:SlV (b4 :: bm :: X) wq bv [y0,y1]:=hN.slvG (css:=[ndC y0 _,ndC y1 _]) gm.hX rfl rfl rfl (Z1i s0 s1) (by simp [maxLen])
 have hT:=Z5.stp hN
 clear hN
 replace gm:=gm.up hT
 replace hws:=hws.up hT
 clear hT
 refine D ?_
 refine Za rfl trivial (Z4 rfl (ZE rfl rfl rfl) (Zw (b4 :: bm :: X) 6 JS[q] bv [y0,y1] _ gm.hX hbv)) (fun _ _ h=>h.2.mono (by simp)) rfl ?_
 rintro _ wq ⟨⟨ky,rfl,hy⟩,hT⟩
 replace gm:=gm.up hT
 clear hT hbv
 refine D ?_
 obtain ⟨cs,hcl,hcb⟩:=gm.blk
 refine ZD rfl trivial (Z3 (us:=ndC (.mk 6 0 JS[q] [y0,y1]) _) rfl rfl rfl rfl (Zh (x:=(.mk 6 0 JS[q] [y0,y1])) hy) hcb hcl.symm) (fun _ _ h=>h.1.mono (by simp)) ?_
 rintro _ wz ⟨hz,hbz⟩
 refine D ?_
 refine W ?_
 refine Zl rfl rfl rfl hbz rfl ?_
 have hf:=gm.fin (y:=(.mk 6 0 JS[q] [y0,y1])) hS0 hb4 hy hz
 exact .mk ⟨_,_,hf.1,.arith _ _ _ _ (Xf hqn) g0 g1,hf.2.1,by omega,hf.2.2⟩
 refine ZW rfl trivial (Z4 rfl (Zb rfl rfl) ((ih.1) (b4 :: bm :: X) _ bm lv l _ _ (by omega) gm.mkr gm.sl hl (by omega) gm.hX)) (fun _ _ h=>by obtain ⟨_,_,_,_,_,_,h⟩:=h;exact h.mono (by simp)) rfl ?_
 rintro _ wq ⟨y1,i1,⟨k1,rfl,s1⟩,g1,hm,hi1,hS⟩
 obtain ⟨p1,c1,rfl,-⟩:=id s1
 replace gm:=gm.nxt hm hS
 replace s0:=s0.ext hS (by simp) (fun _ h=>.inl h)
 replace e0:=e0.ext hS (by simp;exact n0)
 clear hm hS
 refine Z0U 0 10 (by kernel_rfl) ?_ ?_
 refine ZW rfl trivial (Z0 (vs:=[(0,str [43]),(1,str [45]),(2,str [42])]) rfl (bS3 _ _ _)) (fun _ _ h=>(Z5.stp h).mono (by simp)) rfl ?_
 rintro wv wq hN
 have hws:SlV [b4,bm] wq wv JS:=hN.slv (fun c hc=>gm.hX c (by simp at hc;rcases hc with rfl|rfl<;>simp)) rfl rfl (by decide)
 have hT:=Z5.stp hN
 clear hN
 replace gm:=gm.up hT
 replace s0:=s0.up hT
 replace e0:=e0.up hT
 replace s1:=s1.up hT
 clear hT
 refine Z2i [(3,0),(4,1),(10,2),(11,2),(12,2)] (by kernel_rfl) (by kernel_rfl) (by kernel_rfl) ?_
 refine D ?_
 refine D ?_
 refine Za rfl trivial (Z0 (vs:=[(0,.agg #[.int .i64 y0.kind,.int .i64 y0.num,str y0.word,.slice p0 y0.kids.length c0]),(1,.agg #[.int .i64 y1.kind,.int .i64 y1.num,str y1.word,.slice p1 y1.kids.length c1])]) rfl (Jk _ _ _ _ _ _ _ _ _ _ _ _)) (fun _ _ h=>(Z5.stp h).mono (by simp)) rfl ?_
 rintro bv wq hN
 have hbv:SlV (b4 :: bm :: X) wq bv [y0,y1]:=hN.slvG (css:=[ndC y0 _,ndC y1 _]) gm.hX rfl rfl rfl (Z1i s0 s1) (by simp [maxLen])
 have hT:=Z5.stp hN
 clear hN
 replace gm:=gm.up hT
 replace hws:=hws.up hT
 clear hT
 refine D ?_
 refine Za rfl trivial (Z4 rfl (ZE rfl rfl rfl) (Zw (b4 :: bm :: X) 6 JS[q] bv [y0,y1] _ gm.hX hbv)) (fun _ _ h=>h.2.mono (by simp)) rfl ?_
 rintro _ wq ⟨⟨ky,rfl,hy⟩,hT⟩
 replace gm:=gm.up hT
 clear hT hbv
 refine D ?_
 obtain ⟨cs,hcl,hcb⟩:=gm.blk
 refine ZD rfl trivial (Z3 (us:=ndC (.mk 6 0 JS[q] [y0,y1]) _) rfl rfl rfl rfl (Zh (x:=(.mk 6 0 JS[q] [y0,y1])) hy) hcb hcl.symm) (fun _ _ h=>h.1.mono (by simp)) ?_
 rintro _ wz ⟨hz,hbz⟩
 refine D ?_
 refine W ?_
 refine Zl rfl rfl rfl hbz rfl ?_
 have hf:=gm.fin (y:=(.mk 6 0 JS[q] [y0,y1])) hS0 hb4 hy hz
 exact .mk ⟨_,_,hf.1,.arith _ _ _ _ (Xf hqn) g0 g1,hf.2.1,by omega,hf.2.2⟩
 refine ZW rfl trivial (Z0 (vs:=[(0,.agg #[.int .i64 y0.kind,.int .i64 y0.num,str y0.word,.slice p0 y0.kids.length c0]),(1,.agg #[.int .i64 y1.kind,.int .i64 y1.num,str y1.word,.slice p1 y1.kids.length c1])]) rfl (Jk _ _ _ _ _ _ _ _ _ _ _ _)) (fun _ _ h=>(Z5.stp h).mono (by simp)) rfl ?_
 rintro bv wq hN
 have hbv:SlV (b4 :: bm :: X) wq bv [y0,y1]:=hN.slvG (css:=[ndC y0 _,ndC y1 _]) gm.hX rfl rfl rfl (Z1i s0 s1) (by simp [maxLen])
 have hT:=Z5.stp hN
 clear hN
 replace gm:=gm.up hT
 clear hT
 refine Z2i [(0,2),(3,0),(4,1),(11,2),(12,2)] (by kernel_rfl) (by kernel_rfl) (by kernel_rfl) ?_
 refine Za rfl trivial (Z0 (vs:=[(0,str [43]),(1,str [45]),(2,str [42])]) rfl (bS3 _ _ _)) (fun _ _ h=>(Z5.stp h).mono (by simp)) rfl ?_
 rintro wv wq hN
 have hws:SlV [b4,bm] wq wv JS:=hN.slv (fun c hc=>gm.hX c (by simp at hc;rcases hc with rfl|rfl<;>simp)) rfl rfl (by decide)
 have hT:=Z5.stp hN
 clear hN
 replace gm:=gm.up hT
 replace hbv:=hbv.up hT
 clear hT
 refine D ?_
 refine D ?_
 refine D ?_
 refine Za rfl trivial (Z4 rfl (ZE rfl rfl rfl) (Zw (b4 :: bm :: X) 6 JS[q] bv [y0,y1] _ gm.hX hbv)) (fun _ _ h=>h.2.mono (by simp)) rfl ?_
 rintro _ wq ⟨⟨ky,rfl,hy⟩,hT⟩
 replace gm:=gm.up hT
 clear hT hbv
 refine D ?_
 obtain ⟨cs,hcl,hcb⟩:=gm.blk
 refine ZD rfl trivial (Z3 (us:=ndC (.mk 6 0 JS[q] [y0,y1]) _) rfl rfl rfl rfl (Zh (x:=(.mk 6 0 JS[q] [y0,y1])) hy) hcb hcl.symm) (fun _ _ h=>h.1.mono (by simp)) ?_
 rintro _ wz ⟨hz,hbz⟩
 refine D ?_
 refine W ?_
 refine Zl rfl rfl rfl hbz rfl ?_
 have hf:=gm.fin (y:=(.mk 6 0 JS[q] [y0,y1])) hS0 hb4 hy hz
 exact .mk ⟨_,_,hf.1,.arith _ _ _ _ (Xf hqn) g0 g1,hf.2.1,by omega,hf.2.2⟩
set_option maxHeartbeats 1000000
theorem Z6w (d:Nat) (hd6:d≤6) (ih:∀ e,d=e+1→Z22 43 1 e∧Z22 44 2 e∧Z22 45 3 e):Z22 44 2 d:=by
 intro X w bm lv l i z hz hmk hsl hl hi hX
 subst hz
 have hsz:szD (d+1)=1+3 * szD d:=rfl
 refine cW2 80 Tryz.func44 ?_
 refine W ?_
 refine Z1 Z7 rfl ?_
 rintro _ w1 ⟨b4,rfl,hb4,hblk4,hS0⟩
 have gm:G3 (b4 :: bm :: X) w1 w1 bm b4 lv l i:=⟨hmk.up hS0,hsl.up hS0,Stp.refl _ _,⟨_,rfl,hblk4⟩,fun h=>by have:=hmk.lt;omega,fun c hc=>by
  simp only [Xe] at hc
  have h1:=hblk4.lt
  have h2:=hmk.lt
  have h3:=hS0.size
  rcases hc with rfl|rfl|hc
  exact h1
  omega
  have:=hX c hc;omega⟩
 clear hblk4 hX hsl hmk
 refine W ?_
 refine CL rfl (Zb rfl rfl) rfl (ZV bm lv l _ 6 _ (by decide) (by omega) gm.mkr gm.sl hl) ?_
 rintro _ wq ⟨q,rfl,hq,hm,hS⟩
 replace gm:=gm.nxt hm hS
 clear hm hS
 refine W ?_
 refine CL rfl (Zb rfl rfl) rfl (Z54 bm lv l _ d _ _ rfl gm.mkr gm.sl) ?_
 rintro _ wq ⟨dn,rfl,hdn,hT⟩
 replace gm:=gm.up hT
 clear hT
 cases dn with
 | true=>
   repeat'(first|refine W1 ?_|omega|refine VG ?_ ?_<;>intro hg|refine VC ?_ ?_<;>intro hc)
   apply Z6 (vs:=[(0,.int .i64 2),(1,.int .i64 (1 - (q:Int) / 5))]) rfl (Z4b _ _) rfl
   have hy:SlV (α:=Nd) (b4 :: bm :: X) _ (.slice none 0 0) []:=Z0P _ wq
   obtain ⟨cs,hcl,hcb⟩:=gm.blk
   refine Z2 (Z3 (us:=ndC (.mk 2 (1 - (q:Int) / 5) [] []) _) rfl rfl rfl rfl (Zh (x:=(.mk 2 (1 - (q:Int) / 5) [] [])) hy) hcb hcl.symm) ?_
   rintro _ wz ⟨hz,hbz⟩
   refine W ?_
   refine Zl rfl rfl rfl hbz rfl ?_
   have hf:=gm.fin (y:=(.mk 2 (1 - (q:Int) / 5) [] [])) hS0 hb4 hy hz
   exact .mk ⟨_,_,hf.1,.bool _ _ (by omega),hf.2.1,by omega,hf.2.2⟩
 | false=>
   have hd1:d≠0:=fun h=>absurd (hdn h) (by decide)
   obtain ⟨e,rfl⟩:∃ e,d=e+1:=⟨d - 1,by omega⟩
   replace ih:=ih e rfl
   have hsp:=Z1b e
   clear hd1 hdn
   by_cases k0:q=0
   focus repeat'(first|refine W1 ?_|omega|refine VG ?_ ?_<;>intro hg|refine VC ?_ ?_<;>intro hc)
   refine CL rfl (Zb rfl rfl) rfl (ZV bm lv l _ 2 _ (by decide) (by omega) gm.mkr gm.sl hl) ?_
   rintro _ wq ⟨q',rfl,hq',hm,hS⟩
   replace gm:=gm.nxt hm hS
   clear hm hS
   refine W ?_
   apply Z6 (vs:=[(0,.int .i64 2),(1,.int .i64 _)]) rfl (Z4b _ _) rfl
   have hy:SlV (α:=Nd) (b4 :: bm :: X) _ (.slice none 0 0) []:=Z0P _ wq
   obtain ⟨cs,hcl,hcb⟩:=gm.blk
   refine Z2 (Z3 (us:=ndC (.mk 2 (q':Int) [] []) _) rfl rfl rfl rfl (Zh (x:=(.mk 2 (q':Int) [] [])) hy) hcb hcl.symm) ?_
   rintro _ wz ⟨hz,hbz⟩
   refine W ?_
   refine Zl rfl rfl rfl hbz rfl ?_
   have hf:=gm.fin (y:=(.mk 2 (q':Int) [] [])) hS0 hb4 hy hz
   exact .mk ⟨_,_,hf.1,.bool _ _ (by omega),hf.2.1,by omega,hf.2.2⟩
   by_cases k1:q=1
   focus repeat'(first|refine W1 ?_|omega|refine VG ?_ ?_<;>intro hg|refine VC ?_ ?_<;>intro hc)
   refine W ?_
   refine CL rfl (Zb rfl rfl) rfl ((ih.2.1) (b4 :: bm :: X) _ bm lv l _ _ (by omega) gm.mkr gm.sl hl (by omega) gm.hX) ?_
   rintro _ wq ⟨y0,i0,⟨k0,rfl,s0⟩,g0,hm,hi0,hS⟩
   obtain ⟨p0,c0,rfl,-⟩:=id s0
   replace gm:=gm.nxt hm hS
   clear hm hS
   refine W ?_
   refine Z1 (Z0 (vs:=[(0,.agg #[.int .i64 y0.kind,.int .i64 y0.num,str y0.word,.slice p0 y0.kids.length c0])]) rfl (Z0e _ _ _ _ _ _)) rfl ?_
   rintro bv wq hN
   have hbv:SlV (b4 :: bm :: X) wq bv [y0]:=hN.slvG (css:=[ndC y0 _]) gm.hX rfl rfl rfl (Z2X s0) (by simp [maxLen])
   have hT:=Z5.stp hN
   clear hN
   replace gm:=gm.up hT
   clear hT
   refine W ?_
   refine CL rfl (ZE rfl rfl rfl) rfl (Zw (b4 :: bm :: X) 5 [110,111,116] bv [y0] _ gm.hX hbv) ?_
   rintro _ wq ⟨⟨ky,rfl,hy⟩,hT⟩
   replace gm:=gm.up hT
   clear hT hbv
   refine W ?_
   obtain ⟨cs,hcl,hcb⟩:=gm.blk
   refine Z2 (Z3 (us:=ndC (.mk 5 0 [110,111,116] [y0]) _) rfl rfl rfl rfl (Zh (x:=(.mk 5 0 [110,111,116] [y0])) hy) hcb hcl.symm) ?_
   rintro _ wz ⟨hz,hbz⟩
   refine W ?_
   refine Zl rfl rfl rfl hbz rfl ?_
   have hf:=gm.fin (y:=(.mk 5 0 [110,111,116] [y0])) hS0 hb4 hy hz
   exact .mk ⟨_,_,hf.1,.not _ _ g0,hf.2.1,by omega,hf.2.2⟩
   by_cases k2:q=2
   focus repeat'(first|refine W1 ?_|omega|refine VG ?_ ?_<;>intro hg|refine VC ?_ ?_<;>intro hc)
   refine W ?_
   refine CL rfl (Zb rfl rfl) rfl ((ih.2.1) (b4 :: bm :: X) _ bm lv l _ _ (by omega) gm.mkr gm.sl hl (by omega) gm.hX) ?_
   rintro _ wq ⟨y0,i0,⟨k0,rfl,s0⟩,g0,hm,hi0,hS⟩
   obtain ⟨p0,c0,rfl,-⟩:=id s0
   replace gm:=gm.nxt hm hS
   clear hm hS
   refine Z1 Z7 rfl ?_
   rintro _ wq ⟨b0',rfl,hb0',e0,hT⟩
   refine Z2 (Z3 (us:=ndC y0 _) rfl rfl rfl rfl (Zh s0) e0 rfl) ?_
   rintro _ wq ⟨hT2,e0⟩
   replace hT:=JN hT hb0' hT2
   clear hT2
   have n0:b0'≠bm:=fun h=>by have:=gm.mkr.lt;omega
   have n0':b0'≠b4:=fun h=>by obtain ⟨_,_,hc⟩:=gm.blk;have:=hc.lt;omega
   replace gm:=gm.up hT
   replace s0:=s0.up hT
   clear hT hb0'
   refine W ?_
   refine Z1A 13 [b4,bm] [] rfl mixed (fun w1 hS1=>?_)
   have hT:=hS1
   replace gm:=gm.up hT
   replace s0:=s0.up hT
   replace e0:=e0.up hT
   clear hT hS1
   refine J7 1 rfl trivial (fun w'=>ZQ rfl) rfl (by kernel_rfl) (by kernel_rfl) ?_
   refine Z8p 5 rfl trivial (fun w' hS'=>J2 rfl rfl (e0.ext hS' (by simp;exact ⟨n0',n0⟩)) rfl) rfl (by kernel_rfl) (by kernel_rfl) ?_
   refine J7 6 rfl trivial (fun w'=>ZQ rfl) rfl (by kernel_rfl) (by kernel_rfl) ?_
   refine J7 7 rfl trivial (fun w'=>ZQ rfl) rfl (by kernel_rfl) (by kernel_rfl) ?_
   refine J7 8 rfl trivial (fun w'=>Z2M rfl rfl (by unfold I64;omega)) rfl (by kernel_rfl) (by kernel_rfl) ?_
   refine Z0U 0 2 (by kernel_rfl) ?_ ?_
   refine ZW rfl trivial (Z0 (vs:=[(0,str [97,110,100]),(1,str [111,114])]) rfl (bS2 _ _)) (fun _ _ h=>(Z5.stp h).mono (by simp)) rfl ?_
   rintro wv wq hN
   have hws:SlV [b4,bm] wq wv JT:=hN.slv (fun c hc=>gm.hX c (by simp at hc;rcases hc with rfl|rfl<;>simp)) rfl rfl (by decide)
   have hT:=Z5.stp hN
   clear hN
   replace gm:=gm.up hT
   replace s0:=s0.up hT
   replace e0:=e0.up hT
   clear hT
   refine Z2i [(2,2),(3,0),(4,1),(9,2),(10,2),(11,2),(12,2)] (by kernel_rfl) (by kernel_rfl) (by kernel_rfl) ?_
   refine Za rfl trivial (Z4 rfl (Zb rfl rfl) (ZV bm lv l _ 2 _ (by decide) (by omega) gm.mkr gm.sl hl)) (fun _ _ h=>h.choose_spec.2.2.2.mono (by simp)) rfl ?_
   rintro _ wq ⟨q,rfl,hq,hm,hS⟩
   replace gm:=gm.nxt hm hS
   replace s0:=s0.ext hS (by simp) (fun _ h=>.inl h)
   replace e0:=e0.ext hS (by simp;exact n0)
   replace hws:=hws.ext hS (by simp) (fun _ h=>.inl h)
   clear hm hS
   have hqn:q<JT.length:=by show q<2;omega
   refine D ?_
   refine Za rfl trivial (Z4 rfl (Zb rfl rfl) ((ih.2.1) (b4 :: bm :: X) _ bm lv l _ _ (by omega) gm.mkr gm.sl hl (by omega) gm.hX)) (fun _ _ h=>by obtain ⟨_,_,_,_,_,_,h⟩:=h;exact h.mono (by simp)) rfl ?_
   rintro _ wq ⟨y1,i1,⟨k1,rfl,s1⟩,g1,hm,hi1,hS⟩
   obtain ⟨p1,c1,rfl,-⟩:=id s1
   replace gm:=gm.nxt hm hS
   replace s0:=s0.ext hS (by simp) (fun _ h=>.inl h)
   replace e0:=e0.ext hS (by simp;exact n0)
   replace hws:=hws.ext hS (by simp) (fun _ h=>.inl h)
   clear hm hS
   refine D ?_
   refine Za rfl trivial (Z0 (vs:=[(0,.agg #[.int .i64 y0.kind,.int .i64 y0.num,str y0.word,.slice p0 y0.kids.length c0]),(1,.agg #[.int .i64 y1.kind,.int .i64 y1.num,str y1.word,.slice p1 y1.kids.length c1])]) rfl (Jk _ _ _ _ _ _ _ _ _ _ _ _)) (fun _ _ h=>(Z5.stp h).mono (by simp)) rfl ?_
   rintro bv wq hN
   have hbv:SlV (b4 :: bm :: X) wq bv [y0,y1]:=hN.slvG (css:=[ndC y0 _,ndC y1 _]) gm.hX rfl rfl rfl (Z1i s0 s1) (by simp [maxLen])
   have hT:=Z5.stp hN
   clear hN
   replace gm:=gm.up hT
   replace hws:=hws.up hT
   clear hT
   refine D ?_
   refine Za rfl trivial (Z4 rfl (ZE rfl rfl rfl) (Zw (b4 :: bm :: X) 6 JT[q] bv [y0,y1] _ gm.hX hbv)) (fun _ _ h=>h.2.mono (by simp)) rfl ?_
   rintro _ wq ⟨⟨ky,rfl,hy⟩,hT⟩
   replace gm:=gm.up hT
   clear hT hbv
   refine D ?_
   obtain ⟨cs,hcl,hcb⟩:=gm.blk
   refine ZD rfl trivial (Z3 (us:=ndC (.mk 6 0 JT[q] [y0,y1]) _) rfl rfl rfl rfl (Zh (x:=(.mk 6 0 JT[q] [y0,y1])) hy) hcb hcl.symm) (fun _ _ h=>h.1.mono (by simp)) ?_
   rintro _ wz ⟨hz,hbz⟩
   refine D ?_
   refine W ?_
   refine Zl rfl rfl rfl hbz rfl ?_
   have hf:=gm.fin (y:=(.mk 6 0 JT[q] [y0,y1])) hS0 hb4 hy hz
   exact .mk ⟨_,_,hf.1,.logic _ _ _ _ (Xf hqn) g0 g1,hf.2.1,by omega,hf.2.2⟩
   refine ZW rfl trivial (Z4 rfl (Zb rfl rfl) (ZV bm lv l _ 2 _ (by decide) (by omega) gm.mkr gm.sl hl)) (fun _ _ h=>h.choose_spec.2.2.2.mono (by simp)) rfl ?_
   rintro _ wq ⟨q,rfl,hq,hm,hS⟩
   replace gm:=gm.nxt hm hS
   replace s0:=s0.ext hS (by simp) (fun _ h=>.inl h)
   replace e0:=e0.ext hS (by simp;exact n0)
   clear hm hS
   have hqn:q<JT.length:=by show q<2;omega
   refine Z0U 0 9 (by kernel_rfl) ?_ ?_
   refine ZW rfl trivial (Z0 (vs:=[(0,str [97,110,100]),(1,str [111,114])]) rfl (bS2 _ _)) (fun _ _ h=>(Z5.stp h).mono (by simp)) rfl ?_
   rintro wv wq hN
   have hws:SlV [b4,bm] wq wv JT:=hN.slv (fun c hc=>gm.hX c (by simp at hc;rcases hc with rfl|rfl<;>simp)) rfl rfl (by decide)
   have hT:=Z5.stp hN
   clear hN
   replace gm:=gm.up hT
   replace s0:=s0.up hT
   replace e0:=e0.up hT
   clear hT
   refine Z2i [(3,0),(4,1),(9,2),(10,2),(11,2),(12,2)] (by kernel_rfl) (by kernel_rfl) (by kernel_rfl) ?_
   refine D ?_
   refine Za rfl trivial (Z4 rfl (Zb rfl rfl) ((ih.2.1) (b4 :: bm :: X) _ bm lv l _ _ (by omega) gm.mkr gm.sl hl (by omega) gm.hX)) (fun _ _ h=>by obtain ⟨_,_,_,_,_,_,h⟩:=h;exact h.mono (by simp)) rfl ?_
   rintro _ wq ⟨y1,i1,⟨k1,rfl,s1⟩,g1,hm,hi1,hS⟩
   obtain ⟨p1,c1,rfl,-⟩:=id s1
   replace gm:=gm.nxt hm hS
   replace s0:=s0.ext hS (by simp) (fun _ h=>.inl h)
   replace e0:=e0.ext hS (by simp;exact n0)
   replace hws:=hws.ext hS (by simp) (fun _ h=>.inl h)
   clear hm hS
   refine D ?_
   refine Za rfl trivial (Z0 (vs:=[(0,.agg #[.int .i64 y0.kind,.int .i64 y0.num,str y0.word,.slice p0 y0.kids.length c0]),(1,.agg #[.int .i64 y1.kind,.int .i64 y1.num,str y1.word,.slice p1 y1.kids.length c1])]) rfl (Jk _ _ _ _ _ _ _ _ _ _ _ _)) (fun _ _ h=>(Z5.stp h).mono (by simp)) rfl ?_
   rintro bv wq hN
   have hbv:SlV (b4 :: bm :: X) wq bv [y0,y1]:=hN.slvG (css:=[ndC y0 _,ndC y1 _]) gm.hX rfl rfl rfl (Z1i s0 s1) (by simp [maxLen])
   have hT:=Z5.stp hN
   clear hN
   replace gm:=gm.up hT
   replace hws:=hws.up hT
   clear hT
   refine D ?_
   refine Za rfl trivial (Z4 rfl (ZE rfl rfl rfl) (Zw (b4 :: bm :: X) 6 JT[q] bv [y0,y1] _ gm.hX hbv)) (fun _ _ h=>h.2.mono (by simp)) rfl ?_
   rintro _ wq ⟨⟨ky,rfl,hy⟩,hT⟩
   replace gm:=gm.up hT
   clear hT hbv
   refine D ?_
   obtain ⟨cs,hcl,hcb⟩:=gm.blk
   refine ZD rfl trivial (Z3 (us:=ndC (.mk 6 0 JT[q] [y0,y1]) _) rfl rfl rfl rfl (Zh (x:=(.mk 6 0 JT[q] [y0,y1])) hy) hcb hcl.symm) (fun _ _ h=>h.1.mono (by simp)) ?_
   rintro _ wz ⟨hz,hbz⟩
   refine D ?_
   refine W ?_
   refine Zl rfl rfl rfl hbz rfl ?_
   have hf:=gm.fin (y:=(.mk 6 0 JT[q] [y0,y1])) hS0 hb4 hy hz
   exact .mk ⟨_,_,hf.1,.logic _ _ _ _ (Xf hqn) g0 g1,hf.2.1,by omega,hf.2.2⟩
   refine ZW rfl trivial (Z4 rfl (Zb rfl rfl) ((ih.2.1) (b4 :: bm :: X) _ bm lv l _ _ (by omega) gm.mkr gm.sl hl (by omega) gm.hX)) (fun _ _ h=>by obtain ⟨_,_,_,_,_,_,h⟩:=h;exact h.mono (by simp)) rfl ?_
   rintro _ wq ⟨y1,i1,⟨k1,rfl,s1⟩,g1,hm,hi1,hS⟩
   obtain ⟨p1,c1,rfl,-⟩:=id s1
   replace gm:=gm.nxt hm hS
   replace s0:=s0.ext hS (by simp) (fun _ h=>.inl h)
   replace e0:=e0.ext hS (by simp;exact n0)
   clear hm hS
   refine Z0U 0 10 (by kernel_rfl) ?_ ?_
   refine ZW rfl trivial (Z0 (vs:=[(0,str [97,110,100]),(1,str [111,114])]) rfl (bS2 _ _)) (fun _ _ h=>(Z5.stp h).mono (by simp)) rfl ?_
   rintro wv wq hN
   have hws:SlV [b4,bm] wq wv JT:=hN.slv (fun c hc=>gm.hX c (by simp at hc;rcases hc with rfl|rfl<;>simp)) rfl rfl (by decide)
   have hT:=Z5.stp hN
   clear hN
   replace gm:=gm.up hT
   replace s0:=s0.up hT
   replace e0:=e0.up hT
   replace s1:=s1.up hT
   clear hT
   refine Z2i [(3,0),(4,1),(10,2),(11,2),(12,2)] (by kernel_rfl) (by kernel_rfl) (by kernel_rfl) ?_
   refine D ?_
   refine D ?_
   refine Za rfl trivial (Z0 (vs:=[(0,.agg #[.int .i64 y0.kind,.int .i64 y0.num,str y0.word,.slice p0 y0.kids.length c0]),(1,.agg #[.int .i64 y1.kind,.int .i64 y1.num,str y1.word,.slice p1 y1.kids.length c1])]) rfl (Jk _ _ _ _ _ _ _ _ _ _ _ _)) (fun _ _ h=>(Z5.stp h).mono (by simp)) rfl ?_
   rintro bv wq hN
   have hbv:SlV (b4 :: bm :: X) wq bv [y0,y1]:=hN.slvG (css:=[ndC y0 _,ndC y1 _]) gm.hX rfl rfl rfl (Z1i s0 s1) (by simp [maxLen])
   have hT:=Z5.stp hN
   clear hN
   replace gm:=gm.up hT
   replace hws:=hws.up hT
   clear hT
   refine D ?_
   refine Za rfl trivial (Z4 rfl (ZE rfl rfl rfl) (Zw (b4 :: bm :: X) 6 JT[q] bv [y0,y1] _ gm.hX hbv)) (fun _ _ h=>h.2.mono (by simp)) rfl ?_
   rintro _ wq ⟨⟨ky,rfl,hy⟩,hT⟩
   replace gm:=gm.up hT
   clear hT hbv
   refine D ?_
   obtain ⟨cs,hcl,hcb⟩:=gm.blk
   refine ZD rfl trivial (Z3 (us:=ndC (.mk 6 0 JT[q] [y0,y1]) _) rfl rfl rfl rfl (Zh (x:=(.mk 6 0 JT[q] [y0,y1])) hy) hcb hcl.symm) (fun _ _ h=>h.1.mono (by simp)) ?_
   rintro _ wz ⟨hz,hbz⟩
   refine D ?_
   refine W ?_
   refine Zl rfl rfl rfl hbz rfl ?_
   have hf:=gm.fin (y:=(.mk 6 0 JT[q] [y0,y1])) hS0 hb4 hy hz
   exact .mk ⟨_,_,hf.1,.logic _ _ _ _ (Xf hqn) g0 g1,hf.2.1,by omega,hf.2.2⟩
   refine ZW rfl trivial (Z0 (vs:=[(0,.agg #[.int .i64 y0.kind,.int .i64 y0.num,str y0.word,.slice p0 y0.kids.length c0]),(1,.agg #[.int .i64 y1.kind,.int .i64 y1.num,str y1.word,.slice p1 y1.kids.length c1])]) rfl (Jk _ _ _ _ _ _ _ _ _ _ _ _)) (fun _ _ h=>(Z5.stp h).mono (by simp)) rfl ?_
   rintro bv wq hN
   have hbv:SlV (b4 :: bm :: X) wq bv [y0,y1]:=hN.slvG (css:=[ndC y0 _,ndC y1 _]) gm.hX rfl rfl rfl (Z1i s0 s1) (by simp [maxLen])
   have hT:=Z5.stp hN
   clear hN
   replace gm:=gm.up hT
   clear hT
   refine Z2i [(0,2),(3,0),(4,1),(11,2),(12,2)] (by kernel_rfl) (by kernel_rfl) (by kernel_rfl) ?_
   refine Za rfl trivial (Z0 (vs:=[(0,str [97,110,100]),(1,str [111,114])]) rfl (bS2 _ _)) (fun _ _ h=>(Z5.stp h).mono (by simp)) rfl ?_
   rintro wv wq hN
   have hws:SlV [b4,bm] wq wv JT:=hN.slv (fun c hc=>gm.hX c (by simp at hc;rcases hc with rfl|rfl<;>simp)) rfl rfl (by decide)
   have hT:=Z5.stp hN
   clear hN
   replace gm:=gm.up hT
   replace hbv:=hbv.up hT
   clear hT
   refine D ?_
   refine D ?_
   refine D ?_
   refine Za rfl trivial (Z4 rfl (ZE rfl rfl rfl) (Zw (b4 :: bm :: X) 6 JT[q] bv [y0,y1] _ gm.hX hbv)) (fun _ _ h=>h.2.mono (by simp)) rfl ?_
   rintro _ wq ⟨⟨ky,rfl,hy⟩,hT⟩
   replace gm:=gm.up hT
   clear hT hbv
   refine D ?_
   obtain ⟨cs,hcl,hcb⟩:=gm.blk
   refine ZD rfl trivial (Z3 (us:=ndC (.mk 6 0 JT[q] [y0,y1]) _) rfl rfl rfl rfl (Zh (x:=(.mk 6 0 JT[q] [y0,y1])) hy) hcb hcl.symm) (fun _ _ h=>h.1.mono (by simp)) ?_
   rintro _ wz ⟨hz,hbz⟩
   refine D ?_
   refine W ?_
   refine Zl rfl rfl rfl hbz rfl ?_
   have hf:=gm.fin (y:=(.mk 6 0 JT[q] [y0,y1])) hS0 hb4 hy hz
   exact .mk ⟨_,_,hf.1,.logic _ _ _ _ (Xf hqn) g0 g1,hf.2.1,by omega,hf.2.2⟩
   by_cases k3:q=3
   focus repeat'(first|refine W1 ?_|omega|refine VG ?_ ?_<;>intro hg|refine VC ?_ ?_<;>intro hc)
   refine W ?_
   refine CL rfl (Zb rfl rfl) rfl ((ih.2.2) (b4 :: bm :: X) _ bm lv l _ _ (by omega) gm.mkr gm.sl hl (by omega) gm.hX) ?_
   rintro _ wq ⟨y0,i0,⟨k0,rfl,s0⟩,g0,hm,hi0,hS⟩
   obtain ⟨p0,c0,rfl,-⟩:=id s0
   replace gm:=gm.nxt hm hS
   clear hm hS
   refine Z1 Z7 rfl ?_
   rintro _ wq ⟨b0',rfl,hb0',e0,hT⟩
   refine Z2 (Z3 (us:=ndC y0 _) rfl rfl rfl rfl (Zh s0) e0 rfl) ?_
   rintro _ wq ⟨hT2,e0⟩
   replace hT:=JN hT hb0' hT2
   clear hT2
   have n0:b0'≠bm:=fun h=>by have:=gm.mkr.lt;omega
   have n0':b0'≠b4:=fun h=>by obtain ⟨_,_,hc⟩:=gm.blk;have:=hc.lt;omega
   replace gm:=gm.up hT
   replace s0:=s0.up hT
   clear hT hb0'
   refine W ?_
   refine ZDr 11 ([b4,bm]) [] [(0,0),(3,1),(4,0),(5,0),(6,0),(1,2),(2,2),(7,2),(8,2),(9,2),(10,2)] (fun w1 hS1=>?_)
   have hT:=hS1
   replace gm:=gm.up hT
   replace s0:=s0.up hT
   replace e0:=e0.up hT
   clear hT hS1
   refine D ?_
   refine Za rfl trivial (Z4 rfl (Zb rfl rfl) (ZV bm lv l _ 6 _ (by decide) (by omega) gm.mkr gm.sl hl)) (fun _ _ h=>h.choose_spec.2.2.2.mono (by simp)) rfl ?_
   rintro _ wq ⟨q',rfl,hq',hm,hS⟩
   replace gm:=gm.nxt hm hS
   replace s0:=s0.ext hS (by simp) (fun _ h=>.inl h)
   replace e0:=e0.ext hS (by simp;exact n0)
   clear hm hS
   refine D ?_
   refine Za rfl trivial (Z4 rfl (Zm rfl) (Z4y q' _ (by omega))) (fun _ _ h=>h.2.mono (by simp)) rfl ?_
   rintro _ wq ⟨⟨op,hop,rfl⟩,hT⟩
   replace gm:=gm.up hT
   replace s0:=s0.up hT
   replace e0:=e0.up hT
   clear hT
   refine D ?_
   refine Za rfl trivial (Z4 rfl (Zb rfl rfl) ((ih.2.2) (b4 :: bm :: X) _ bm lv l _ _ (by omega) gm.mkr gm.sl hl (by omega) gm.hX)) (fun _ _ h=>by obtain ⟨_,_,_,_,_,_,h⟩:=h;exact h.mono (by simp)) rfl ?_
   rintro _ wq ⟨y1,i1,⟨k1,rfl,s1⟩,g1,hm,hi1,hS⟩
   obtain ⟨p1,c1,rfl,-⟩:=id s1
   replace gm:=gm.nxt hm hS
   replace s0:=s0.ext hS (by simp) (fun _ h=>.inl h)
   replace e0:=e0.ext hS (by simp;exact n0)
   clear hm hS
   refine D ?_
   refine Za rfl trivial (Z0 (vs:=[(0,.agg #[.int .i64 y0.kind,.int .i64 y0.num,str y0.word,.slice p0 y0.kids.length c0]),(1,.agg #[.int .i64 y1.kind,.int .i64 y1.num,str y1.word,.slice p1 y1.kids.length c1])]) rfl (Jk _ _ _ _ _ _ _ _ _ _ _ _)) (fun _ _ h=>(Z5.stp h).mono (by simp)) rfl ?_
   rintro bv wq hN
   have hbv:SlV (b4 :: bm :: X) wq bv [y0,y1]:=hN.slvG (css:=[ndC y0 _,ndC y1 _]) gm.hX rfl rfl rfl (Z1i s0 s1) (by simp [maxLen])
   have hT:=Z5.stp hN
   clear hN
   replace gm:=gm.up hT
   clear hT
   refine D ?_
   refine Za rfl trivial (Z4 rfl (ZE rfl rfl rfl) (Zw (b4 :: bm :: X) 6 op bv [y0,y1] _ gm.hX hbv)) (fun _ _ h=>h.2.mono (by simp)) rfl ?_
   rintro _ wq ⟨⟨ky,rfl,hy⟩,hT⟩
   replace gm:=gm.up hT
   clear hT hbv
   refine D ?_
   obtain ⟨cs,hcl,hcb⟩:=gm.blk
   refine ZD rfl trivial (Z3 (us:=ndC (.mk 6 0 op [y0,y1]) _) rfl rfl rfl rfl (Zh (x:=(.mk 6 0 op [y0,y1])) hy) hcb hcl.symm) (fun _ _ h=>h.1.mono (by simp)) ?_
   rintro _ wz ⟨hz,hbz⟩
   refine D ?_
   refine W ?_
   refine Zl rfl rfl rfl hbz rfl ?_
   have hf:=gm.fin (y:=(.mk 6 0 op [y0,y1])) hS0 hb4 hy hz
   exact .mk ⟨_,_,hf.1,.cmp _ 3 _ _ _ (by decide) hop g0 g1,hf.2.1,by omega,hf.2.2⟩
   repeat'(first|refine W1 ?_|omega|refine VG ?_ ?_<;>intro hg|refine VC ?_ ?_<;>intro hc)
   refine W ?_
   refine CL rfl (Zb rfl rfl) rfl ((ih.1) (b4 :: bm :: X) _ bm lv l _ _ (by omega) gm.mkr gm.sl hl (by omega) gm.hX) ?_
   rintro _ wq ⟨y0,i0,⟨k0,rfl,s0⟩,g0,hm,hi0,hS⟩
   obtain ⟨p0,c0,rfl,-⟩:=id s0
   replace gm:=gm.nxt hm hS
   clear hm hS
   refine Z1 Z7 rfl ?_
   rintro _ wq ⟨b0',rfl,hb0',e0,hT⟩
   refine Z2 (Z3 (us:=ndC y0 _) rfl rfl rfl rfl (Zh s0) e0 rfl) ?_
   rintro _ wq ⟨hT2,e0⟩
   replace hT:=JN hT hb0' hT2
   clear hT2
   have n0:b0'≠bm:=fun h=>by have:=gm.mkr.lt;omega
   have n0':b0'≠b4:=fun h=>by obtain ⟨_,_,hc⟩:=gm.blk;have:=hc.lt;omega
   replace gm:=gm.up hT
   replace s0:=s0.up hT
   clear hT hb0'
   refine W ?_
   refine ZDr 11 ([b4,bm]) [] [(0,0),(3,1),(4,0),(5,0),(6,0),(1,2),(2,2),(7,2),(8,2),(9,2),(10,2)] (fun w1 hS1=>?_)
   have hT:=hS1
   replace gm:=gm.up hT
   replace s0:=s0.up hT
   replace e0:=e0.up hT
   clear hT hS1
   refine D ?_
   refine Za rfl trivial (Z4 rfl (Zb rfl rfl) (ZV bm lv l _ 6 _ (by decide) (by omega) gm.mkr gm.sl hl)) (fun _ _ h=>h.choose_spec.2.2.2.mono (by simp)) rfl ?_
   rintro _ wq ⟨q',rfl,hq',hm,hS⟩
   replace gm:=gm.nxt hm hS
   replace s0:=s0.ext hS (by simp) (fun _ h=>.inl h)
   replace e0:=e0.ext hS (by simp;exact n0)
   clear hm hS
   refine D ?_
   refine Za rfl trivial (Z4 rfl (Zm rfl) (Z4y q' _ (by omega))) (fun _ _ h=>h.2.mono (by simp)) rfl ?_
   rintro _ wq ⟨⟨op,hop,rfl⟩,hT⟩
   replace gm:=gm.up hT
   replace s0:=s0.up hT
   replace e0:=e0.up hT
   clear hT
   refine D ?_
   refine Za rfl trivial (Z4 rfl (Zb rfl rfl) ((ih.1) (b4 :: bm :: X) _ bm lv l _ _ (by omega) gm.mkr gm.sl hl (by omega) gm.hX)) (fun _ _ h=>by obtain ⟨_,_,_,_,_,_,h⟩:=h;exact h.mono (by simp)) rfl ?_
   rintro _ wq ⟨y1,i1,⟨k1,rfl,s1⟩,g1,hm,hi1,hS⟩
   obtain ⟨p1,c1,rfl,-⟩:=id s1
   replace gm:=gm.nxt hm hS
   replace s0:=s0.ext hS (by simp) (fun _ h=>.inl h)
   replace e0:=e0.ext hS (by simp;exact n0)
   clear hm hS
   refine D ?_
   refine Za rfl trivial (Z0 (vs:=[(0,.agg #[.int .i64 y0.kind,.int .i64 y0.num,str y0.word,.slice p0 y0.kids.length c0]),(1,.agg #[.int .i64 y1.kind,.int .i64 y1.num,str y1.word,.slice p1 y1.kids.length c1])]) rfl (Jk _ _ _ _ _ _ _ _ _ _ _ _)) (fun _ _ h=>(Z5.stp h).mono (by simp)) rfl ?_
   rintro bv wq hN
   have hbv:SlV (b4 :: bm :: X) wq bv [y0,y1]:=hN.slvG (css:=[ndC y0 _,ndC y1 _]) gm.hX rfl rfl rfl (Z1i s0 s1) (by simp [maxLen])
   have hT:=Z5.stp hN
   clear hN
   replace gm:=gm.up hT
   clear hT
   refine D ?_
   refine Za rfl trivial (Z4 rfl (ZE rfl rfl rfl) (Zw (b4 :: bm :: X) 6 op bv [y0,y1] _ gm.hX hbv)) (fun _ _ h=>h.2.mono (by simp)) rfl ?_
   rintro _ wq ⟨⟨ky,rfl,hy⟩,hT⟩
   replace gm:=gm.up hT
   clear hT hbv
   refine D ?_
   obtain ⟨cs,hcl,hcb⟩:=gm.blk
   refine ZD rfl trivial (Z3 (us:=ndC (.mk 6 0 op [y0,y1]) _) rfl rfl rfl rfl (Zh (x:=(.mk 6 0 op [y0,y1])) hy) hcb hcl.symm) (fun _ _ h=>h.1.mono (by simp)) ?_
   rintro _ wz ⟨hz,hbz⟩
   refine D ?_
   refine W ?_
   refine Zl rfl rfl rfl hbz rfl ?_
   have hf:=gm.fin (y:=(.mk 6 0 op [y0,y1])) hS0 hb4 hy hz
   exact .mk ⟨_,_,hf.1,.cmp _ 1 _ _ _ (by decide) hop g0 g1,hf.2.1,by omega,hf.2.2⟩
set_option maxHeartbeats 1000000
def Z40:List Str:=[[100,97,121,115],[100,97,121,115],[99,111,117,114,116,100,97,121,115],[119,101,101,107,115],[109,111,110,116,104,115]]
theorem ZaM:∀ s∈Z40,s∈JI:=by decide
theorem Z6x (d:Nat) (hd6:d≤6) (ih:∀ e,d=e+1→Z22 43 1 e∧Z22 44 2 e∧Z22 45 3 e):Z22 45 3 d:=by
 intro X w bm lv l i z hz hmk hsl hl hi hX
 subst hz
 have hsz:szD (d+1)=1+3 * szD d:=rfl
 refine cW2 107 Tryz.func45 ?_
 refine W ?_
 refine Z1 Z7 rfl ?_
 rintro _ w1 ⟨b4,rfl,hb4,hblk4,hS0⟩
 have gm:G3 (b4 :: bm :: X) w1 w1 bm b4 lv l i:=⟨hmk.up hS0,hsl.up hS0,Stp.refl _ _,⟨_,rfl,hblk4⟩,fun h=>by have:=hmk.lt;omega,fun c hc=>by
  simp only [Xe] at hc
  have h1:=hblk4.lt
  have h2:=hmk.lt
  have h3:=hS0.size
  rcases hc with rfl|rfl|hc
  exact h1
  omega
  have:=hX c hc;omega⟩
 clear hblk4 hX hsl hmk
 refine W ?_
 refine CL rfl (Zb rfl rfl) rfl (ZV bm lv l _ 10 _ (by decide) (by omega) gm.mkr gm.sl hl) ?_
 rintro _ wq ⟨q,rfl,hq,hm,hS⟩
 replace gm:=gm.nxt hm hS
 clear hm hS
 refine W ?_
 refine CL rfl (Zb rfl rfl) rfl (Z54 bm lv l _ d _ _ rfl gm.mkr gm.sl) ?_
 rintro _ wq ⟨dn,rfl,hdn,hT⟩
 replace gm:=gm.up hT
 clear hT
 refine W ?_
 refine Z2k (σ:=Nat) (fun k=>[(0,.pointer (some ⟨bm,0,none⟩)),(1,.int .i64 (d:Int)),(4,.pointer (some ⟨b4,0,none⟩)),(5,.int .i64 (k:Int))]) (fun k w'=>w'=wq∧k<10∧(d=0→k<4)) ?_ ?_
 · cases dn with
   | true=>
     repeat'(first|refine W1 ?_|omega|refine VG ?_ ?_<;>intro hg|refine VC ?_ ?_<;>intro hc)
     exact ZO (q % 4) ⟨rfl,rfl,rfl,rfl,trivial⟩ ⟨rfl,by omega,fun _=>by omega⟩
   | false=>
     repeat'(first|refine W1 ?_|omega|refine VG ?_ ?_<;>intro hg|refine VC ?_ ?_<;>intro hc)
     exact ZO q ⟨rfl,rfl,rfl,rfl,trivial⟩ ⟨rfl,by omega,fun h=>absurd (hdn h) (by decide)⟩
 rintro k w3 ⟨rfl,hkn,hk1⟩
 clear hq hdn
 by_cases k0:k≤1
 · repeat'(first|refine W1 ?_|omega|refine VG ?_ ?_<;>intro hg|refine VC ?_ ?_<;>intro hc)
   all_goals
    refine CL rfl (ZE rfl rfl rfl) rfl (Zw (b4 :: bm :: X) 4 [100,97,121] (.slice none 0 0) [] _ gm.hX (Z0P _ _)) ?_
    rintro _ wq ⟨⟨ky,rfl,hy⟩,hT⟩
    replace gm:=gm.up hT
    clear hT
    obtain ⟨cs,hcl,hcb⟩:=gm.blk
    refine Z2 (Z3 (us:=ndC (.mk 4 0 [100,97,121] []) _) rfl rfl rfl rfl (Zh (x:=(.mk 4 0 [100,97,121] [])) hy) hcb hcl.symm) ?_
    rintro _ wz ⟨hz,hbz⟩
    refine W ?_
    refine Zl rfl rfl rfl hbz rfl ?_
    have hf:=gm.fin (y:=(.mk 4 0 [100,97,121] [])) hS0 hb4 hy hz
    exact .mk ⟨_,_,hf.1,.fldD _ _ (by decide),hf.2.1,by omega,hf.2.2⟩
 by_cases k2:k=2
 focus repeat'(first|refine W1 ?_|omega|refine VG ?_ ?_<;>intro hg|refine VC ?_ ?_<;>intro hc)
 refine Z1 (Z0 (vs:=[(0,str [100,97,121]),(1,str [115,101,114,118,101,100])]) rfl (bS2 _ _)) rfl ?_
 rintro wv wq hN
 have hws:SlV [bm] wq wv Z4x:=hN.slv (fun c hc=>gm.hX c (by simp at hc;subst hc;simp)) rfl rfl (by decide)
 have hT:=Z5.stp hN
 clear hN
 replace gm:=gm.up hT
 clear hT
 refine W ?_
 refine CL rfl (Zb rfl rfl) rfl (ZV bm lv l _ 2 _ (by decide) (by omega) gm.mkr gm.sl hl) ?_
 rintro _ wq ⟨q',rfl,hq',hm,hS⟩
 replace gm:=gm.nxt hm hS
 replace hws:=hws.ext hS (by simp) (fun _ h=>.inl h)
 clear hm hS
 have hqn:q'<Z4x.length:=by show q'<2;omega
 refine W ?_
 refine CL rfl (ZE rfl rfl rfl) rfl (Zw (b4 :: bm :: X) 4 Z4x[q'] (.slice none 0 0) [] _ gm.hX (Z0P _ _)) ?_
 rintro _ wq ⟨⟨ky,rfl,hy⟩,hT⟩
 replace gm:=gm.up hT
 clear hT
 obtain ⟨cs,hcl,hcb⟩:=gm.blk
 refine Z2 (Z3 (us:=ndC (.mk 4 0 Z4x[q'] []) _) rfl rfl rfl rfl (Zh (x:=(.mk 4 0 Z4x[q'] [])) hy) hcb hcl.symm) ?_
 rintro _ wz ⟨hz,hbz⟩
 refine W ?_
 refine Zl rfl rfl rfl hbz rfl ?_
 have hf:=gm.fin (y:=(.mk 4 0 Z4x[q'] [])) hS0 hb4 hy hz
 exact .mk ⟨_,_,hf.1,.fldD _ _ (Xf hqn),hf.2.1,by omega,hf.2.2⟩
 by_cases k3:k=3
 focus repeat'(first|refine W1 ?_|omega|refine VG ?_ ?_<;>intro hg|refine VC ?_ ?_<;>intro hc)
 refine CL rfl (Zb rfl rfl) rfl (ZV bm lv l _ 60 _ (by decide) (by omega) gm.mkr gm.sl hl) ?_
 rintro _ wq ⟨q',rfl,hq',hm,hS⟩
 replace gm:=gm.nxt hm hS
 clear hm hS
 refine W ?_
 apply Z6 (vs:=[(0,.int .i64 3),(1,.int .i64 _)]) rfl (Z4b _ _) rfl
 have hy:SlV (α:=Nd) (b4 :: bm :: X) _ (.slice none 0 0) []:=Z0P _ wq
 obtain ⟨cs,hcl,hcb⟩:=gm.blk
 refine Z2 (Z3 (us:=ndC (.mk 3 (739616+(q':Int)) [] []) _) rfl rfl rfl rfl (Zh (x:=(.mk 3 (739616+(q':Int)) [] [])) hy) hcb hcl.symm) ?_
 rintro _ wz ⟨hz,hbz⟩
 refine W ?_
 refine Zl rfl rfl rfl hbz rfl ?_
 have hf:=gm.fin (y:=(.mk 3 (739616+(q':Int)) [] [])) hS0 hb4 hy hz
 exact .mk ⟨_,_,hf.1,.day _ _ (by omega),hf.2.1,by omega,hf.2.2⟩
 by_cases k4:k=4
 obtain ⟨e,rfl⟩:∃ e,d=e+1:=⟨d - 1,by omega⟩
 replace ih:=ih e rfl
 have hsp:=Z1b e
 focus repeat'(first|refine W1 ?_|omega|refine VG ?_ ?_<;>intro hg|refine VC ?_ ?_<;>intro hc)
 refine Z1A 12 [b4,bm] [] rfl mixed (fun w1 hS1=>?_)
 have hT:=hS1
 replace gm:=gm.up hT
 clear hT hS1
 refine J7 1 rfl trivial (fun w'=>ZQ rfl) rfl (by kernel_rfl) (by kernel_rfl) ?_
 refine J7 5 rfl trivial (fun w'=>ZQ rfl) rfl (by kernel_rfl) (by kernel_rfl) ?_
 refine J7 6 rfl trivial (fun w'=>ZQ rfl) rfl (by kernel_rfl) (by kernel_rfl) ?_
 refine J7 7 rfl trivial (fun w'=>Z2M rfl rfl (by unfold I64;omega)) rfl (by kernel_rfl) (by kernel_rfl) ?_
 refine Z0U 0 2 (by kernel_rfl) ?_ ?_
 refine ZW rfl trivial (Z0 (vs:=[(0,str [110,101,120,116]),(1,str [112,114,101,118])]) rfl (bS2 _ _)) (fun _ _ h=>(Z5.stp h).mono (by simp)) rfl ?_
 rintro wv wq hN
 have hws:SlV [b4,bm] wq wv Z0F:=hN.slv (fun c hc=>gm.hX c (by simp at hc;rcases hc with rfl|rfl<;>simp)) rfl rfl (by decide)
 have hT:=Z5.stp hN
 clear hN
 replace gm:=gm.up hT
 clear hT
 refine Z2i [(2,2),(3,0),(4,1),(8,2),(9,2),(10,2),(11,2)] (by kernel_rfl) (by kernel_rfl) (by kernel_rfl) ?_
 refine Za rfl trivial (Z4 rfl (Zb rfl rfl) (ZV bm lv l _ 2 _ (by decide) (by omega) gm.mkr gm.sl hl)) (fun _ _ h=>h.choose_spec.2.2.2.mono (by simp)) rfl ?_
 rintro _ wq ⟨q,rfl,hq,hm,hS⟩
 replace gm:=gm.nxt hm hS
 replace hws:=hws.ext hS (by simp) (fun _ h=>.inl h)
 clear hm hS
 have hqn:q<Z0F.length:=by show q<2;omega
 refine D ?_
 refine Za rfl trivial (Z4 rfl (Zb rfl rfl) ((ih.2.2) (b4 :: bm :: X) _ bm lv l _ _ (by omega) gm.mkr gm.sl hl (by omega) gm.hX)) (fun _ _ h=>by obtain ⟨_,_,_,_,_,_,h⟩:=h;exact h.mono (by simp)) rfl ?_
 rintro _ wq ⟨y0,i0,⟨k0,rfl,s0⟩,g0,hm,hi0,hS⟩
 obtain ⟨p0,c0,rfl,-⟩:=id s0
 replace gm:=gm.nxt hm hS
 replace hws:=hws.ext hS (by simp) (fun _ h=>.inl h)
 clear hm hS
 refine D ?_
 refine Za rfl trivial (Z0 (vs:=[(0,.agg #[.int .i64 y0.kind,.int .i64 y0.num,str y0.word,.slice p0 y0.kids.length c0])]) rfl (Z0e _ _ _ _ _ _)) (fun _ _ h=>(Z5.stp h).mono (by simp)) rfl ?_
 rintro bv wq hN
 have hbv:SlV (b4 :: bm :: X) wq bv [y0]:=hN.slvG (css:=[ndC y0 _]) gm.hX rfl rfl rfl (Z2X s0) (by simp [maxLen])
 have hT:=Z5.stp hN
 clear hN
 replace gm:=gm.up hT
 replace hws:=hws.up hT
 clear hT
 refine D ?_
 refine Za rfl trivial (Z4 rfl (ZE rfl rfl rfl) (Zw (b4 :: bm :: X) 10 Z0F[q] bv [y0] _ gm.hX hbv)) (fun _ _ h=>h.2.mono (by simp)) rfl ?_
 rintro _ wq ⟨⟨ky,rfl,hy⟩,hT⟩
 replace gm:=gm.up hT
 clear hT hbv
 refine D ?_
 obtain ⟨cs,hcl,hcb⟩:=gm.blk
 refine ZD rfl trivial (Z3 (us:=ndC (.mk 10 0 Z0F[q] [y0]) _) rfl rfl rfl rfl (Zh (x:=(.mk 10 0 Z0F[q] [y0])) hy) hcb hcl.symm) (fun _ _ h=>h.1.mono (by simp)) ?_
 rintro _ wz ⟨hz,hbz⟩
 refine D ?_
 refine W ?_
 refine Zl rfl rfl rfl hbz rfl ?_
 have hf:=gm.fin (y:=(.mk 10 0 Z0F[q] [y0])) hS0 hb4 hy hz
 exact .mk ⟨_,_,hf.1,.adj _ _ _ (Xf hqn) g0,hf.2.1,by omega,hf.2.2⟩
 refine ZW rfl trivial (Z4 rfl (Zb rfl rfl) (ZV bm lv l _ 2 _ (by decide) (by omega) gm.mkr gm.sl hl)) (fun _ _ h=>h.choose_spec.2.2.2.mono (by simp)) rfl ?_
 rintro _ wq ⟨q,rfl,hq,hm,hS⟩
 replace gm:=gm.nxt hm hS
 clear hm hS
 have hqn:q<Z0F.length:=by show q<2;omega
 refine Z0U 0 8 (by kernel_rfl) ?_ ?_
 refine ZW rfl trivial (Z0 (vs:=[(0,str [110,101,120,116]),(1,str [112,114,101,118])]) rfl (bS2 _ _)) (fun _ _ h=>(Z5.stp h).mono (by simp)) rfl ?_
 rintro wv wq hN
 have hws:SlV [b4,bm] wq wv Z0F:=hN.slv (fun c hc=>gm.hX c (by simp at hc;rcases hc with rfl|rfl<;>simp)) rfl rfl (by decide)
 have hT:=Z5.stp hN
 clear hN
 replace gm:=gm.up hT
 clear hT
 refine Z2i [(3,0),(4,1),(8,2),(9,2),(10,2),(11,2)] (by kernel_rfl) (by kernel_rfl) (by kernel_rfl) ?_
 refine D ?_
 refine Za rfl trivial (Z4 rfl (Zb rfl rfl) ((ih.2.2) (b4 :: bm :: X) _ bm lv l _ _ (by omega) gm.mkr gm.sl hl (by omega) gm.hX)) (fun _ _ h=>by obtain ⟨_,_,_,_,_,_,h⟩:=h;exact h.mono (by simp)) rfl ?_
 rintro _ wq ⟨y0,i0,⟨k0,rfl,s0⟩,g0,hm,hi0,hS⟩
 obtain ⟨p0,c0,rfl,-⟩:=id s0
 replace gm:=gm.nxt hm hS
 replace hws:=hws.ext hS (by simp) (fun _ h=>.inl h)
 clear hm hS
 refine D ?_
 refine Za rfl trivial (Z0 (vs:=[(0,.agg #[.int .i64 y0.kind,.int .i64 y0.num,str y0.word,.slice p0 y0.kids.length c0])]) rfl (Z0e _ _ _ _ _ _)) (fun _ _ h=>(Z5.stp h).mono (by simp)) rfl ?_
 rintro bv wq hN
 have hbv:SlV (b4 :: bm :: X) wq bv [y0]:=hN.slvG (css:=[ndC y0 _]) gm.hX rfl rfl rfl (Z2X s0) (by simp [maxLen])
 have hT:=Z5.stp hN
 clear hN
 replace gm:=gm.up hT
 replace hws:=hws.up hT
 clear hT
 refine D ?_
 refine Za rfl trivial (Z4 rfl (ZE rfl rfl rfl) (Zw (b4 :: bm :: X) 10 Z0F[q] bv [y0] _ gm.hX hbv)) (fun _ _ h=>h.2.mono (by simp)) rfl ?_
 rintro _ wq ⟨⟨ky,rfl,hy⟩,hT⟩
 replace gm:=gm.up hT
 clear hT hbv
 refine D ?_
 obtain ⟨cs,hcl,hcb⟩:=gm.blk
 refine ZD rfl trivial (Z3 (us:=ndC (.mk 10 0 Z0F[q] [y0]) _) rfl rfl rfl rfl (Zh (x:=(.mk 10 0 Z0F[q] [y0])) hy) hcb hcl.symm) (fun _ _ h=>h.1.mono (by simp)) ?_
 rintro _ wz ⟨hz,hbz⟩
 refine D ?_
 refine W ?_
 refine Zl rfl rfl rfl hbz rfl ?_
 have hf:=gm.fin (y:=(.mk 10 0 Z0F[q] [y0])) hS0 hb4 hy hz
 exact .mk ⟨_,_,hf.1,.adj _ _ _ (Xf hqn) g0,hf.2.1,by omega,hf.2.2⟩
 refine ZW rfl trivial (Z4 rfl (Zb rfl rfl) ((ih.2.2) (b4 :: bm :: X) _ bm lv l _ _ (by omega) gm.mkr gm.sl hl (by omega) gm.hX)) (fun _ _ h=>by obtain ⟨_,_,_,_,_,_,h⟩:=h;exact h.mono (by simp)) rfl ?_
 rintro _ wq ⟨y0,i0,⟨k0,rfl,s0⟩,g0,hm,hi0,hS⟩
 obtain ⟨p0,c0,rfl,-⟩:=id s0
 replace gm:=gm.nxt hm hS
 clear hm hS
 refine Z0U 0 9 (by kernel_rfl) ?_ ?_
 refine ZW rfl trivial (Z0 (vs:=[(0,str [110,101,120,116]),(1,str [112,114,101,118])]) rfl (bS2 _ _)) (fun _ _ h=>(Z5.stp h).mono (by simp)) rfl ?_
 rintro wv wq hN
 have hws:SlV [b4,bm] wq wv Z0F:=hN.slv (fun c hc=>gm.hX c (by simp at hc;rcases hc with rfl|rfl<;>simp)) rfl rfl (by decide)
 have hT:=Z5.stp hN
 clear hN
 replace gm:=gm.up hT
 replace s0:=s0.up hT
 clear hT
 refine Z2i [(3,0),(4,1),(9,2),(10,2),(11,2)] (by kernel_rfl) (by kernel_rfl) (by kernel_rfl) ?_
 refine D ?_
 refine D ?_
 refine Za rfl trivial (Z0 (vs:=[(0,.agg #[.int .i64 y0.kind,.int .i64 y0.num,str y0.word,.slice p0 y0.kids.length c0])]) rfl (Z0e _ _ _ _ _ _)) (fun _ _ h=>(Z5.stp h).mono (by simp)) rfl ?_
 rintro bv wq hN
 have hbv:SlV (b4 :: bm :: X) wq bv [y0]:=hN.slvG (css:=[ndC y0 _]) gm.hX rfl rfl rfl (Z2X s0) (by simp [maxLen])
 have hT:=Z5.stp hN
 clear hN
 replace gm:=gm.up hT
 replace hws:=hws.up hT
 clear hT
 refine D ?_
 refine Za rfl trivial (Z4 rfl (ZE rfl rfl rfl) (Zw (b4 :: bm :: X) 10 Z0F[q] bv [y0] _ gm.hX hbv)) (fun _ _ h=>h.2.mono (by simp)) rfl ?_
 rintro _ wq ⟨⟨ky,rfl,hy⟩,hT⟩
 replace gm:=gm.up hT
 clear hT hbv
 refine D ?_
 obtain ⟨cs,hcl,hcb⟩:=gm.blk
 refine ZD rfl trivial (Z3 (us:=ndC (.mk 10 0 Z0F[q] [y0]) _) rfl rfl rfl rfl (Zh (x:=(.mk 10 0 Z0F[q] [y0])) hy) hcb hcl.symm) (fun _ _ h=>h.1.mono (by simp)) ?_
 rintro _ wz ⟨hz,hbz⟩
 refine D ?_
 refine W ?_
 refine Zl rfl rfl rfl hbz rfl ?_
 have hf:=gm.fin (y:=(.mk 10 0 Z0F[q] [y0])) hS0 hb4 hy hz
 exact .mk ⟨_,_,hf.1,.adj _ _ _ (Xf hqn) g0,hf.2.1,by omega,hf.2.2⟩
 refine ZW rfl trivial (Z0 (vs:=[(0,.agg #[.int .i64 y0.kind,.int .i64 y0.num,str y0.word,.slice p0 y0.kids.length c0])]) rfl (Z0e _ _ _ _ _ _)) (fun _ _ h=>(Z5.stp h).mono (by simp)) rfl ?_
 rintro bv wq hN
 have hbv:SlV (b4 :: bm :: X) wq bv [y0]:=hN.slvG (css:=[ndC y0 _]) gm.hX rfl rfl rfl (Z2X s0) (by simp [maxLen])
 have hT:=Z5.stp hN
 clear hN
 replace gm:=gm.up hT
 clear hT
 refine Z2i [(0,2),(3,0),(4,1),(10,2),(11,2)] (by kernel_rfl) (by kernel_rfl) (by kernel_rfl) ?_
 refine Za rfl trivial (Z0 (vs:=[(0,str [110,101,120,116]),(1,str [112,114,101,118])]) rfl (bS2 _ _)) (fun _ _ h=>(Z5.stp h).mono (by simp)) rfl ?_
 rintro wv wq hN
 have hws:SlV [b4,bm] wq wv Z0F:=hN.slv (fun c hc=>gm.hX c (by simp at hc;rcases hc with rfl|rfl<;>simp)) rfl rfl (by decide)
 have hT:=Z5.stp hN
 clear hN
 replace gm:=gm.up hT
 replace hbv:=hbv.up hT
 clear hT
 refine D ?_
 refine D ?_
 refine D ?_
 refine Za rfl trivial (Z4 rfl (ZE rfl rfl rfl) (Zw (b4 :: bm :: X) 10 Z0F[q] bv [y0] _ gm.hX hbv)) (fun _ _ h=>h.2.mono (by simp)) rfl ?_
 rintro _ wq ⟨⟨ky,rfl,hy⟩,hT⟩
 replace gm:=gm.up hT
 clear hT hbv
 refine D ?_
 obtain ⟨cs,hcl,hcb⟩:=gm.blk
 refine ZD rfl trivial (Z3 (us:=ndC (.mk 10 0 Z0F[q] [y0]) _) rfl rfl rfl rfl (Zh (x:=(.mk 10 0 Z0F[q] [y0])) hy) hcb hcl.symm) (fun _ _ h=>h.1.mono (by simp)) ?_
 rintro _ wz ⟨hz,hbz⟩
 refine D ?_
 refine W ?_
 refine Zl rfl rfl rfl hbz rfl ?_
 have hf:=gm.fin (y:=(.mk 10 0 Z0F[q] [y0])) hS0 hb4 hy hz
 exact .mk ⟨_,_,hf.1,.adj _ _ _ (Xf hqn) g0,hf.2.1,by omega,hf.2.2⟩
 by_cases k5:k=5
 obtain ⟨e,rfl⟩:∃ e,d=e+1:=⟨d - 1,by omega⟩
 replace ih:=ih e rfl
 have hsp:=Z1b e
 focus repeat'(first|refine W1 ?_|omega|refine VG ?_ ?_<;>intro hg|refine VC ?_ ?_<;>intro hc)
 refine W ?_
 refine CL rfl (Zb rfl rfl) rfl ((ih.2.2) (b4 :: bm :: X) _ bm lv l _ _ (by omega) gm.mkr gm.sl hl (by omega) gm.hX) ?_
 rintro _ wq ⟨y0,i0,⟨k0,rfl,s0⟩,g0,hm,hi0,hS⟩
 obtain ⟨p0,c0,rfl,-⟩:=id s0
 replace gm:=gm.nxt hm hS
 clear hm hS
 refine Z1 Z7 rfl ?_
 rintro _ wq ⟨b0',rfl,hb0',e0,hT⟩
 refine Z2 (Z3 (us:=ndC y0 _) rfl rfl rfl rfl (Zh s0) e0 rfl) ?_
 rintro _ wq ⟨hT2,e0⟩
 replace hT:=JN hT hb0' hT2
 clear hT2
 have n0:b0'≠bm:=fun h=>by have:=gm.mkr.lt;omega
 have n0':b0'≠b4:=fun h=>by obtain ⟨_,_,hc⟩:=gm.blk;have:=hc.lt;omega
 replace gm:=gm.up hT
 replace s0:=s0.up hT
 clear hT hb0'
 refine W ?_
 refine Z1A 13 [b4,bm] [] rfl mixed (fun w1 hS1=>?_)
 have hT:=hS1
 replace gm:=gm.up hT
 replace s0:=s0.up hT
 replace e0:=e0.up hT
 clear hT hS1
 refine J7 1 rfl trivial (fun w'=>ZQ rfl) rfl (by kernel_rfl) (by kernel_rfl) ?_
 refine Z8p 5 rfl trivial (fun w' hS'=>J2 rfl rfl (e0.ext hS' (by simp;exact ⟨n0',n0⟩)) rfl) rfl (by kernel_rfl) (by kernel_rfl) ?_
 refine J7 6 rfl trivial (fun w'=>ZQ rfl) rfl (by kernel_rfl) (by kernel_rfl) ?_
 refine J7 7 rfl trivial (fun w'=>ZQ rfl) rfl (by kernel_rfl) (by kernel_rfl) ?_
 refine J7 8 rfl trivial (fun w'=>Z2M rfl rfl (by unfold I64;omega)) rfl (by kernel_rfl) (by kernel_rfl) ?_
 refine Z0U 0 2 (by kernel_rfl) ?_ ?_
 refine ZW rfl trivial (Z0 (vs:=[(0,str [108,97,116,101,114]),(1,str [101,97,114,108,105,101,114])]) rfl (bS2 _ _)) (fun _ _ h=>(Z5.stp h).mono (by simp)) rfl ?_
 rintro wv wq hN
 have hws:SlV [b4,bm] wq wv Z0G:=hN.slv (fun c hc=>gm.hX c (by simp at hc;rcases hc with rfl|rfl<;>simp)) rfl rfl (by decide)
 have hT:=Z5.stp hN
 clear hN
 replace gm:=gm.up hT
 replace s0:=s0.up hT
 replace e0:=e0.up hT
 clear hT
 refine Z2i [(2,2),(3,0),(4,1),(9,2),(10,2),(11,2),(12,2)] (by kernel_rfl) (by kernel_rfl) (by kernel_rfl) ?_
 refine Za rfl trivial (Z4 rfl (Zb rfl rfl) (ZV bm lv l _ 2 _ (by decide) (by omega) gm.mkr gm.sl hl)) (fun _ _ h=>h.choose_spec.2.2.2.mono (by simp)) rfl ?_
 rintro _ wq ⟨q,rfl,hq,hm,hS⟩
 replace gm:=gm.nxt hm hS
 replace s0:=s0.ext hS (by simp) (fun _ h=>.inl h)
 replace e0:=e0.ext hS (by simp;exact n0)
 replace hws:=hws.ext hS (by simp) (fun _ h=>.inl h)
 clear hm hS
 have hqn:q<Z0G.length:=by show q<2;omega
 refine D ?_
 refine Za rfl trivial (Z4 rfl (Zb rfl rfl) ((ih.2.2) (b4 :: bm :: X) _ bm lv l _ _ (by omega) gm.mkr gm.sl hl (by omega) gm.hX)) (fun _ _ h=>by obtain ⟨_,_,_,_,_,_,h⟩:=h;exact h.mono (by simp)) rfl ?_
 rintro _ wq ⟨y1,i1,⟨k1,rfl,s1⟩,g1,hm,hi1,hS⟩
 obtain ⟨p1,c1,rfl,-⟩:=id s1
 replace gm:=gm.nxt hm hS
 replace s0:=s0.ext hS (by simp) (fun _ h=>.inl h)
 replace e0:=e0.ext hS (by simp;exact n0)
 replace hws:=hws.ext hS (by simp) (fun _ h=>.inl h)
 clear hm hS
 refine D ?_
 refine Za rfl trivial (Z0 (vs:=[(0,.agg #[.int .i64 y0.kind,.int .i64 y0.num,str y0.word,.slice p0 y0.kids.length c0]),(1,.agg #[.int .i64 y1.kind,.int .i64 y1.num,str y1.word,.slice p1 y1.kids.length c1])]) rfl (Jk _ _ _ _ _ _ _ _ _ _ _ _)) (fun _ _ h=>(Z5.stp h).mono (by simp)) rfl ?_
 rintro bv wq hN
 have hbv:SlV (b4 :: bm :: X) wq bv [y0,y1]:=hN.slvG (css:=[ndC y0 _,ndC y1 _]) gm.hX rfl rfl rfl (Z1i s0 s1) (by simp [maxLen])
 have hT:=Z5.stp hN
 clear hN
 replace gm:=gm.up hT
 replace hws:=hws.up hT
 clear hT
 refine D ?_
 refine Za rfl trivial (Z4 rfl (ZE rfl rfl rfl) (Zw (b4 :: bm :: X) 10 Z0G[q] bv [y0,y1] _ gm.hX hbv)) (fun _ _ h=>h.2.mono (by simp)) rfl ?_
 rintro _ wq ⟨⟨ky,rfl,hy⟩,hT⟩
 replace gm:=gm.up hT
 clear hT hbv
 refine D ?_
 obtain ⟨cs,hcl,hcb⟩:=gm.blk
 refine ZD rfl trivial (Z3 (us:=ndC (.mk 10 0 Z0G[q] [y0,y1]) _) rfl rfl rfl rfl (Zh (x:=(.mk 10 0 Z0G[q] [y0,y1])) hy) hcb hcl.symm) (fun _ _ h=>h.1.mono (by simp)) ?_
 rintro _ wz ⟨hz,hbz⟩
 refine D ?_
 refine W ?_
 refine Zl rfl rfl rfl hbz rfl ?_
 have hf:=gm.fin (y:=(.mk 10 0 Z0G[q] [y0,y1])) hS0 hb4 hy hz
 exact .mk ⟨_,_,hf.1,.two _ _ _ _ (Xf hqn) g0 g1,hf.2.1,by omega,hf.2.2⟩
 refine ZW rfl trivial (Z4 rfl (Zb rfl rfl) (ZV bm lv l _ 2 _ (by decide) (by omega) gm.mkr gm.sl hl)) (fun _ _ h=>h.choose_spec.2.2.2.mono (by simp)) rfl ?_
 rintro _ wq ⟨q,rfl,hq,hm,hS⟩
 replace gm:=gm.nxt hm hS
 replace s0:=s0.ext hS (by simp) (fun _ h=>.inl h)
 replace e0:=e0.ext hS (by simp;exact n0)
 clear hm hS
 have hqn:q<Z0G.length:=by show q<2;omega
 refine Z0U 0 9 (by kernel_rfl) ?_ ?_
 refine ZW rfl trivial (Z0 (vs:=[(0,str [108,97,116,101,114]),(1,str [101,97,114,108,105,101,114])]) rfl (bS2 _ _)) (fun _ _ h=>(Z5.stp h).mono (by simp)) rfl ?_
 rintro wv wq hN
 have hws:SlV [b4,bm] wq wv Z0G:=hN.slv (fun c hc=>gm.hX c (by simp at hc;rcases hc with rfl|rfl<;>simp)) rfl rfl (by decide)
 have hT:=Z5.stp hN
 clear hN
 replace gm:=gm.up hT
 replace s0:=s0.up hT
 replace e0:=e0.up hT
 clear hT
 refine Z2i [(3,0),(4,1),(9,2),(10,2),(11,2),(12,2)] (by kernel_rfl) (by kernel_rfl) (by kernel_rfl) ?_
 refine D ?_
 refine Za rfl trivial (Z4 rfl (Zb rfl rfl) ((ih.2.2) (b4 :: bm :: X) _ bm lv l _ _ (by omega) gm.mkr gm.sl hl (by omega) gm.hX)) (fun _ _ h=>by obtain ⟨_,_,_,_,_,_,h⟩:=h;exact h.mono (by simp)) rfl ?_
 rintro _ wq ⟨y1,i1,⟨k1,rfl,s1⟩,g1,hm,hi1,hS⟩
 obtain ⟨p1,c1,rfl,-⟩:=id s1
 replace gm:=gm.nxt hm hS
 replace s0:=s0.ext hS (by simp) (fun _ h=>.inl h)
 replace e0:=e0.ext hS (by simp;exact n0)
 replace hws:=hws.ext hS (by simp) (fun _ h=>.inl h)
 clear hm hS
 refine D ?_
 refine Za rfl trivial (Z0 (vs:=[(0,.agg #[.int .i64 y0.kind,.int .i64 y0.num,str y0.word,.slice p0 y0.kids.length c0]),(1,.agg #[.int .i64 y1.kind,.int .i64 y1.num,str y1.word,.slice p1 y1.kids.length c1])]) rfl (Jk _ _ _ _ _ _ _ _ _ _ _ _)) (fun _ _ h=>(Z5.stp h).mono (by simp)) rfl ?_
 rintro bv wq hN
 have hbv:SlV (b4 :: bm :: X) wq bv [y0,y1]:=hN.slvG (css:=[ndC y0 _,ndC y1 _]) gm.hX rfl rfl rfl (Z1i s0 s1) (by simp [maxLen])
 have hT:=Z5.stp hN
 clear hN
 replace gm:=gm.up hT
 replace hws:=hws.up hT
 clear hT
 refine D ?_
 refine Za rfl trivial (Z4 rfl (ZE rfl rfl rfl) (Zw (b4 :: bm :: X) 10 Z0G[q] bv [y0,y1] _ gm.hX hbv)) (fun _ _ h=>h.2.mono (by simp)) rfl ?_
 rintro _ wq ⟨⟨ky,rfl,hy⟩,hT⟩
 replace gm:=gm.up hT
 clear hT hbv
 refine D ?_
 obtain ⟨cs,hcl,hcb⟩:=gm.blk
 refine ZD rfl trivial (Z3 (us:=ndC (.mk 10 0 Z0G[q] [y0,y1]) _) rfl rfl rfl rfl (Zh (x:=(.mk 10 0 Z0G[q] [y0,y1])) hy) hcb hcl.symm) (fun _ _ h=>h.1.mono (by simp)) ?_
 rintro _ wz ⟨hz,hbz⟩
 refine D ?_
 refine W ?_
 refine Zl rfl rfl rfl hbz rfl ?_
 have hf:=gm.fin (y:=(.mk 10 0 Z0G[q] [y0,y1])) hS0 hb4 hy hz
 exact .mk ⟨_,_,hf.1,.two _ _ _ _ (Xf hqn) g0 g1,hf.2.1,by omega,hf.2.2⟩
 refine ZW rfl trivial (Z4 rfl (Zb rfl rfl) ((ih.2.2) (b4 :: bm :: X) _ bm lv l _ _ (by omega) gm.mkr gm.sl hl (by omega) gm.hX)) (fun _ _ h=>by obtain ⟨_,_,_,_,_,_,h⟩:=h;exact h.mono (by simp)) rfl ?_
 rintro _ wq ⟨y1,i1,⟨k1,rfl,s1⟩,g1,hm,hi1,hS⟩
 obtain ⟨p1,c1,rfl,-⟩:=id s1
 replace gm:=gm.nxt hm hS
 replace s0:=s0.ext hS (by simp) (fun _ h=>.inl h)
 replace e0:=e0.ext hS (by simp;exact n0)
 clear hm hS
 refine Z0U 0 10 (by kernel_rfl) ?_ ?_
 refine ZW rfl trivial (Z0 (vs:=[(0,str [108,97,116,101,114]),(1,str [101,97,114,108,105,101,114])]) rfl (bS2 _ _)) (fun _ _ h=>(Z5.stp h).mono (by simp)) rfl ?_
 rintro wv wq hN
 have hws:SlV [b4,bm] wq wv Z0G:=hN.slv (fun c hc=>gm.hX c (by simp at hc;rcases hc with rfl|rfl<;>simp)) rfl rfl (by decide)
 have hT:=Z5.stp hN
 clear hN
 replace gm:=gm.up hT
 replace s0:=s0.up hT
 replace e0:=e0.up hT
 replace s1:=s1.up hT
 clear hT
 refine Z2i [(3,0),(4,1),(10,2),(11,2),(12,2)] (by kernel_rfl) (by kernel_rfl) (by kernel_rfl) ?_
 refine D ?_
 refine D ?_
 refine Za rfl trivial (Z0 (vs:=[(0,.agg #[.int .i64 y0.kind,.int .i64 y0.num,str y0.word,.slice p0 y0.kids.length c0]),(1,.agg #[.int .i64 y1.kind,.int .i64 y1.num,str y1.word,.slice p1 y1.kids.length c1])]) rfl (Jk _ _ _ _ _ _ _ _ _ _ _ _)) (fun _ _ h=>(Z5.stp h).mono (by simp)) rfl ?_
 rintro bv wq hN
 have hbv:SlV (b4 :: bm :: X) wq bv [y0,y1]:=hN.slvG (css:=[ndC y0 _,ndC y1 _]) gm.hX rfl rfl rfl (Z1i s0 s1) (by simp [maxLen])
 have hT:=Z5.stp hN
 clear hN
 replace gm:=gm.up hT
 replace hws:=hws.up hT
 clear hT
 refine D ?_
 refine Za rfl trivial (Z4 rfl (ZE rfl rfl rfl) (Zw (b4 :: bm :: X) 10 Z0G[q] bv [y0,y1] _ gm.hX hbv)) (fun _ _ h=>h.2.mono (by simp)) rfl ?_
 rintro _ wq ⟨⟨ky,rfl,hy⟩,hT⟩
 replace gm:=gm.up hT
 clear hT hbv
 refine D ?_
 obtain ⟨cs,hcl,hcb⟩:=gm.blk
 refine ZD rfl trivial (Z3 (us:=ndC (.mk 10 0 Z0G[q] [y0,y1]) _) rfl rfl rfl rfl (Zh (x:=(.mk 10 0 Z0G[q] [y0,y1])) hy) hcb hcl.symm) (fun _ _ h=>h.1.mono (by simp)) ?_
 rintro _ wz ⟨hz,hbz⟩
 refine D ?_
 refine W ?_
 refine Zl rfl rfl rfl hbz rfl ?_
 have hf:=gm.fin (y:=(.mk 10 0 Z0G[q] [y0,y1])) hS0 hb4 hy hz
 exact .mk ⟨_,_,hf.1,.two _ _ _ _ (Xf hqn) g0 g1,hf.2.1,by omega,hf.2.2⟩
 refine ZW rfl trivial (Z0 (vs:=[(0,.agg #[.int .i64 y0.kind,.int .i64 y0.num,str y0.word,.slice p0 y0.kids.length c0]),(1,.agg #[.int .i64 y1.kind,.int .i64 y1.num,str y1.word,.slice p1 y1.kids.length c1])]) rfl (Jk _ _ _ _ _ _ _ _ _ _ _ _)) (fun _ _ h=>(Z5.stp h).mono (by simp)) rfl ?_
 rintro bv wq hN
 have hbv:SlV (b4 :: bm :: X) wq bv [y0,y1]:=hN.slvG (css:=[ndC y0 _,ndC y1 _]) gm.hX rfl rfl rfl (Z1i s0 s1) (by simp [maxLen])
 have hT:=Z5.stp hN
 clear hN
 replace gm:=gm.up hT
 clear hT
 refine Z2i [(0,2),(3,0),(4,1),(11,2),(12,2)] (by kernel_rfl) (by kernel_rfl) (by kernel_rfl) ?_
 refine Za rfl trivial (Z0 (vs:=[(0,str [108,97,116,101,114]),(1,str [101,97,114,108,105,101,114])]) rfl (bS2 _ _)) (fun _ _ h=>(Z5.stp h).mono (by simp)) rfl ?_
 rintro wv wq hN
 have hws:SlV [b4,bm] wq wv Z0G:=hN.slv (fun c hc=>gm.hX c (by simp at hc;rcases hc with rfl|rfl<;>simp)) rfl rfl (by decide)
 have hT:=Z5.stp hN
 clear hN
 replace gm:=gm.up hT
 replace hbv:=hbv.up hT
 clear hT
 refine D ?_
 refine D ?_
 refine D ?_
 refine Za rfl trivial (Z4 rfl (ZE rfl rfl rfl) (Zw (b4 :: bm :: X) 10 Z0G[q] bv [y0,y1] _ gm.hX hbv)) (fun _ _ h=>h.2.mono (by simp)) rfl ?_
 rintro _ wq ⟨⟨ky,rfl,hy⟩,hT⟩
 replace gm:=gm.up hT
 clear hT hbv
 refine D ?_
 obtain ⟨cs,hcl,hcb⟩:=gm.blk
 refine ZD rfl trivial (Z3 (us:=ndC (.mk 10 0 Z0G[q] [y0,y1]) _) rfl rfl rfl rfl (Zh (x:=(.mk 10 0 Z0G[q] [y0,y1])) hy) hcb hcl.symm) (fun _ _ h=>h.1.mono (by simp)) ?_
 rintro _ wz ⟨hz,hbz⟩
 refine D ?_
 refine W ?_
 refine Zl rfl rfl rfl hbz rfl ?_
 have hf:=gm.fin (y:=(.mk 10 0 Z0G[q] [y0,y1])) hS0 hb4 hy hz
 exact .mk ⟨_,_,hf.1,.two _ _ _ _ (Xf hqn) g0 g1,hf.2.1,by omega,hf.2.2⟩
 by_cases k6:k=6
 obtain ⟨e,rfl⟩:∃ e,d=e+1:=⟨d - 1,by omega⟩
 replace ih:=ih e rfl
 have hsp:=Z1b e
 focus repeat'(first|refine W1 ?_|omega|refine VG ?_ ?_<;>intro hg|refine VC ?_ ?_<;>intro hc)
 refine W ?_
 refine CL rfl (Zb rfl rfl) rfl ((ih.2.1) (b4 :: bm :: X) _ bm lv l _ _ (by omega) gm.mkr gm.sl hl (by omega) gm.hX) ?_
 rintro _ wq ⟨y0,i0,⟨k0,rfl,s0⟩,g0,hm,hi0,hS⟩
 obtain ⟨p0,c0,rfl,-⟩:=id s0
 replace gm:=gm.nxt hm hS
 clear hm hS
 refine Z1 Z7 rfl ?_
 rintro _ wq ⟨b0',rfl,hb0',e0,hT⟩
 refine Z2 (Z3 (us:=ndC y0 _) rfl rfl rfl rfl (Zh s0) e0 rfl) ?_
 rintro _ wq ⟨hT2,e0⟩
 replace hT:=JN hT hb0' hT2
 clear hT2
 have n0:b0'≠bm:=fun h=>by have:=gm.mkr.lt;omega
 have n0':b0'≠b4:=fun h=>by obtain ⟨_,_,hc⟩:=gm.blk;have:=hc.lt;omega
 replace gm:=gm.up hT
 replace s0:=s0.up hT
 clear hT hb0'
 refine W ?_
 refine CL rfl (Zb rfl rfl) rfl ((ih.2.2) (b4 :: bm :: X) _ bm lv l _ _ (by omega) gm.mkr gm.sl hl (by omega) gm.hX) ?_
 rintro _ wq ⟨y1,i1,⟨k1,rfl,s1⟩,g1,hm,hi1,hS⟩
 obtain ⟨p1,c1,rfl,-⟩:=id s1
 replace gm:=gm.nxt hm hS
 replace s0:=s0.ext hS (by simp) (fun _ h=>.inl h)
 replace e0:=e0.ext hS (by simp;exact n0)
 clear hm hS
 refine Z1 Z7 rfl ?_
 rintro _ wq ⟨b1',rfl,hb1',e1,hT⟩
 refine Z2 (Z3 (us:=ndC y1 _) rfl rfl rfl rfl (Zh s1) e1 rfl) ?_
 rintro _ wq ⟨hT2,e1⟩
 replace hT:=JN hT hb1' hT2
 clear hT2
 have n1:b1'≠bm:=fun h=>by have:=gm.mkr.lt;omega
 have n1':b1'≠b4:=fun h=>by obtain ⟨_,_,hc⟩:=gm.blk;have:=hc.lt;omega
 replace gm:=gm.up hT
 replace s0:=s0.up hT
 replace e0:=e0.up hT
 replace s1:=s1.up hT
 clear hT hb1'
 refine W ?_
 refine ZDr 9 ([b4,bm]) [] [(0,1),(1,1),(2,0),(3,0),(4,0),(5,2),(6,2),(7,2),(8,2)] (fun w1 hS1=>?_)
 have hT:=hS1
 replace gm:=gm.up hT
 replace s0:=s0.up hT
 replace e0:=e0.up hT
 replace s1:=s1.up hT
 replace e1:=e1.up hT
 clear hT hS1
 refine ZZ rfl trivial (fun w' hS'=>J2 rfl rfl (e0.ext hS' (by simp;exact ⟨n0',n0⟩)) rfl) rfl ?_
 refine ZZ rfl trivial (fun w' hS'=>J2 rfl rfl (e1.ext hS' (by simp;exact ⟨n1',n1⟩)) rfl) rfl ?_
 refine D ?_
 refine Za rfl trivial (Z4 rfl (Zb rfl rfl) ((ih.2.2) (b4 :: bm :: X) _ bm lv l _ _ (by omega) gm.mkr gm.sl hl (by omega) gm.hX)) (fun _ _ h=>by obtain ⟨_,_,_,_,_,_,h⟩:=h;exact h.mono (by simp)) rfl ?_
 rintro _ wq ⟨y2,i2,⟨k2,rfl,s2⟩,g2,hm,hi2,hS⟩
 obtain ⟨p2,c2,rfl,-⟩:=id s2
 replace gm:=gm.nxt hm hS
 replace s0:=s0.ext hS (by simp) (fun _ h=>.inl h)
 replace e0:=e0.ext hS (by simp;exact n0)
 replace s1:=s1.ext hS (by simp) (fun _ h=>.inl h)
 replace e1:=e1.ext hS (by simp;exact n1)
 clear hm hS
 refine D ?_
 refine Za rfl trivial (Z0 (vs:=[(0,.agg #[.int .i64 y0.kind,.int .i64 y0.num,str y0.word,.slice p0 y0.kids.length c0]),(1,.agg #[.int .i64 y1.kind,.int .i64 y1.num,str y1.word,.slice p1 y1.kids.length c1]),(2,.agg #[.int .i64 y2.kind,.int .i64 y2.num,str y2.word,.slice p2 y2.kids.length c2])]) rfl (Z94 _ _ _ _ _ _ _ _ _ _ _ _ _ _ _ _ _ _)) (fun _ _ h=>(Z5.stp h).mono (by simp)) rfl ?_
 rintro bv wq hN
 have hbv:SlV (b4 :: bm :: X) wq bv [y0,y1,y2]:=hN.slvG (css:=[ndC y0 _,ndC y1 _,ndC y2 _]) gm.hX rfl rfl rfl (Zhh s0 s1 s2) (by simp [maxLen])
 have hT:=Z5.stp hN
 clear hN
 replace gm:=gm.up hT
 clear hT
 refine D ?_
 refine Za rfl trivial (Z4 rfl (ZE rfl rfl rfl) (Zw (b4 :: bm :: X) 9 [] bv [y0,y1,y2] _ gm.hX hbv)) (fun _ _ h=>h.2.mono (by simp)) rfl ?_
 rintro _ wq ⟨⟨ky,rfl,hy⟩,hT⟩
 replace gm:=gm.up hT
 clear hT hbv
 refine D ?_
 obtain ⟨cs,hcl,hcb⟩:=gm.blk
 refine ZD rfl trivial (Z3 (us:=ndC (.mk 9 0 [] [y0,y1,y2]) _) rfl rfl rfl rfl (Zh (x:=(.mk 9 0 [] [y0,y1,y2])) hy) hcb hcl.symm) (fun _ _ h=>h.1.mono (by simp)) ?_
 rintro _ wz ⟨hz,hbz⟩
 refine D ?_
 refine W ?_
 refine Zl rfl rfl rfl hbz rfl ?_
 have hf:=gm.fin (y:=(.mk 9 0 [] [y0,y1,y2])) hS0 hb4 hy hz
 exact .mk ⟨_,_,hf.1,.cond _ _ _ _ _ (by decide) g0 g1 g2,hf.2.1,by omega,hf.2.2⟩
 obtain ⟨e,rfl⟩:∃ e,d=e+1:=⟨d - 1,by omega⟩
 replace ih:=ih e rfl
 have hsp:=Z1b e
 repeat'(first|refine W1 ?_|omega|refine VG ?_ ?_<;>intro hg|refine VC ?_ ?_<;>intro hc)
 refine W ?_
 refine CL rfl (Zb rfl rfl) rfl ((ih.2.2) (b4 :: bm :: X) _ bm lv l _ _ (by omega) gm.mkr gm.sl hl (by omega) gm.hX) ?_
 rintro _ wq ⟨y0,i0,⟨k0,rfl,s0⟩,g0,hm,hi0,hS⟩
 obtain ⟨p0,c0,rfl,-⟩:=id s0
 replace gm:=gm.nxt hm hS
 clear hm hS
 refine Z1 Z7 rfl ?_
 rintro _ wq ⟨b0',rfl,hb0',e0,hT⟩
 refine Z2 (Z3 (us:=ndC y0 _) rfl rfl rfl rfl (Zh s0) e0 rfl) ?_
 rintro _ wq ⟨hT2,e0⟩
 replace hT:=JN hT hb0' hT2
 clear hT2
 have n0:b0'≠bm:=fun h=>by have:=gm.mkr.lt;omega
 have n0':b0'≠b4:=fun h=>by obtain ⟨_,_,hc⟩:=gm.blk;have:=hc.lt;omega
 replace gm:=gm.up hT
 replace s0:=s0.up hT
 clear hT hb0'
 refine W ?_
 refine Z1 (Z0 (vs:=[(0,str [100,97,121,115]),(1,str [100,97,121,115]),(2,str [99,111,117,114,116,100,97,121,115]),(3,str [119,101,101,107,115]),(4,str [109,111,110,116,104,115])]) rfl (bS5 _ _ _ _ _)) rfl ?_
 rintro wv wq hN
 have hws:SlV [b4,bm] wq wv Z40:=hN.slv (fun c hc=>gm.hX c (by simp at hc;rcases hc with rfl|rfl<;>simp)) rfl rfl (by decide)
 have hT:=Z5.stp hN
 clear hN
 replace gm:=gm.up hT
 replace s0:=s0.up hT
 replace e0:=e0.up hT
 clear hT
 refine W ?_
 refine CL rfl (Zb rfl rfl) rfl (ZV bm lv l _ 5 _ (by decide) (by omega) gm.mkr gm.sl hl) ?_
 rintro _ wq ⟨q',rfl,hq',hm,hS⟩
 replace gm:=gm.nxt hm hS
 replace s0:=s0.ext hS (by simp) (fun _ h=>.inl h)
 replace e0:=e0.ext hS (by simp;exact n0)
 replace hws:=hws.ext hS (by simp) (fun _ h=>.inl h)
 clear hm hS
 have hqn:q'<Z40.length:=by show q'<5;omega
 have hu:=ZaM _ (Xf hqn)
 refine W ?_
 clear hws
 refine ZDr 13 ([b4,bm]) [] [(0,0),(4,0),(5,1),(6,0),(7,0),(8,0),(1,2),(2,0),(3,0),(9,2),(10,2),(11,2),(12,2)] (fun w1 hS1=>?_)
 have hT:=hS1
 replace gm:=gm.up hT
 replace s0:=s0.up hT
 replace e0:=e0.up hT
 clear hT hS1
 refine D ?_
 refine Za rfl trivial (Z4 rfl (Zb rfl rfl) (ZV bm lv l _ 4 _ (by decide) (by omega) gm.mkr gm.sl hl)) (fun _ _ h=>h.choose_spec.2.2.2.mono (by simp)) rfl ?_
 rintro _ wq ⟨q4,rfl,hq4,hm,hS⟩
 replace gm:=gm.nxt hm hS
 replace s0:=s0.ext hS (by simp) (fun _ h=>.inl h)
 replace e0:=e0.ext hS (by simp;exact n0)
 clear hm hS
 refine D ?_
 refine Za rfl trivial (Z4 rfl (Zb rfl rfl) ((ih.1) (b4 :: bm :: X) _ bm lv l _ _ (by omega) gm.mkr gm.sl hl (by omega) gm.hX)) (fun _ _ h=>by obtain ⟨_,_,_,_,_,_,h⟩:=h;exact h.mono (by simp)) rfl ?_
 rintro _ wq ⟨y1,i1,⟨k1,rfl,s1⟩,g1,hm,hi1,hS⟩
 obtain ⟨p1,c1,rfl,-⟩:=id s1
 replace gm:=gm.nxt hm hS
 replace s0:=s0.ext hS (by simp) (fun _ h=>.inl h)
 replace e0:=e0.ext hS (by simp;exact n0)
 clear hm hS
 refine D ?_
 refine Za rfl trivial (Z0 (vs:=[(0,.agg #[.int .i64 y0.kind,.int .i64 y0.num,str y0.word,.slice p0 y0.kids.length c0]),(1,.agg #[.int .i64 y1.kind,.int .i64 y1.num,str y1.word,.slice p1 y1.kids.length c1])]) rfl (Jk _ _ _ _ _ _ _ _ _ _ _ _)) (fun _ _ h=>(Z5.stp h).mono (by simp)) rfl ?_
 rintro bv wq hN
 have hbv:SlV (b4 :: bm :: X) wq bv [y0,y1]:=hN.slvG (css:=[ndC y0 _,ndC y1 _]) gm.hX rfl rfl rfl (Z1i s0 s1) (by simp [maxLen])
 have hT:=Z5.stp hN
 clear hN
 replace gm:=gm.up hT
 clear hT
 refine D ?_
 refine Za rfl trivial (Z4 rfl (ZE rfl rfl rfl) (Zw (b4 :: bm :: X) (7+(q4:Int) / 3) Z40[q'] bv [y0,y1] _ gm.hX hbv)) (fun _ _ h=>h.2.mono (by simp)) rfl ?_
 rintro _ wq ⟨⟨ky,rfl,hy⟩,hT⟩
 replace gm:=gm.up hT
 clear hT hbv
 refine D ?_
 obtain ⟨cs,hcl,hcb⟩:=gm.blk
 refine ZD rfl trivial (Z3 (us:=ndC (.mk (7+(q4:Int) / 3) 0 Z40[q'] [y0,y1]) _) rfl rfl rfl rfl (Zh (x:=(.mk (7+(q4:Int) / 3) 0 Z40[q'] [y0,y1])) hy) hcb hcl.symm) (fun _ _ h=>h.1.mono (by simp)) ?_
 rintro _ wz ⟨hz,hbz⟩
 refine D ?_
 refine W ?_
 refine Zl rfl rfl rfl hbz rfl ?_
 have hf:=gm.fin (y:=(.mk (7+(q4:Int) / 3) 0 Z40[q'] [y0,y1])) hS0 hb4 hy hz
 exact .mk ⟨_,_,hf.1,.move _ _ _ _ _ (by omega) hu g0 g1,hf.2.1,by omega,hf.2.2⟩
open Go Go.Eng Go.RowKit Go.Proofs
theorem ZcO (y:Int) (w:World) (h0:0≤y) (h1:y≤100000):CC 297 #[.int .i64 y] w fun r w'=>r=.bool (Z0f y)∧w'=w:=by
 unfold Z0f
 refine cW1 16 Tryz.func297 ?_
 repeat'(first|refine W1 ?_|omega|refine VG ?_ ?_<;>intro hg|refine VC ?_ ?_<;>intro hc)
 all_goals refine WR ?_
 all_goals refine .mk ⟨?_,rfl⟩
 all_goals congr 1
 all_goals (first|done|(rw [X2];simp;omega)|(simp [*]))
theorem Z0K (y m:Int) (w:World) (h0:0≤y) (h1:y≤100000):CC 264 #[.int .i64 y,.int .i64 m] w fun r w'=>r=.int .i64 (Zs y m)∧w'=w:=by
 unfold Zs
 by_cases hm:m<1∨12<m
 · rw [if_pos hm]
   refine cW2 23 Tryz.func264 ?_
   repeat'(first|refine W1 ?_|omega|refine VG ?_ ?_<;>intro hg|refine VC ?_ ?_<;>intro hc)
   all_goals first
    | omega
    | (refine WR ?_
       exact .mk ⟨rfl,rfl⟩)
 rw [if_neg hm]
 by_cases h2:m=2
 subst h2
 rw [if_pos rfl]
 refine cW2 23 Tryz.func264 ?_
 focus repeat'(first|refine W1 ?_|omega|refine VG ?_ ?_<;>intro hg|refine VC ?_ ?_<;>intro hc)
 refine CL rfl (Zm rfl) rfl (ZcO y _ h0 h1) ?_
 rintro _ _ ⟨rfl,rfl⟩
 cases Z0f y
 refine W ?_
 refine WR ?_
 exact .mk ⟨rfl,rfl⟩
 refine W ?_
 refine WR ?_
 exact .mk ⟨rfl,rfl⟩
 rw [if_neg h2]
 by_cases h4:m=4∨m=6∨m=9∨m=11
 · rw [if_pos h4]
   refine cW2 23 Tryz.func264 ?_
   rcases h4 with rfl|rfl|rfl|rfl
   all_goals
    repeat'(first|refine W1 ?_|omega|refine VG ?_ ?_<;>intro hg|refine VC ?_ ?_<;>intro hc)
    refine WR ?_
    exact .mk ⟨rfl,rfl⟩
 · rw [if_neg h4]
   refine cW2 23 Tryz.func264 ?_
   have h5:m=1∨m=3∨m=5∨m=7∨m=8∨m=10∨m=12:=by omega
   rcases h5 with rfl|rfl|rfl|rfl|rfl|rfl|rfl
   all_goals
    repeat'(first|refine W1 ?_|omega|refine VG ?_ ?_<;>intro hg|refine VC ?_ ?_<;>intro hc)
    refine WR ?_
    exact .mk ⟨rfl,rfl⟩
theorem Z41 (y:Int) (w:World) (h0:1≤y) (h1:y≤100000):CC 292 #[.int .i64 y] w fun r w'=>r=.int .i64 (ZT y)∧w'=w:=by
 refine cW1 17 Tryz.func292 ?_
 repeat'(first|refine W1 ?_|omega|refine VG ?_ ?_<;>intro hg|refine VC ?_ ?_<;>intro hc)
 refine WR ?_
 exact .mk ⟨rfl,rfl⟩
abbrev Z8q (y m d:Int):List Value:=[.int .i64 y,.int .i64 m,.int .i64 d]
theorem ZeZ (y m:Int) (w:World):(Instr.build 291 #[(0,.int .i64 y),(1,.int .i64 m)]).run Tryz.prog w=.ok (.agg #[.int .i64 y,.int .i64 m,.int .i64 0]) w:=by kernel_rfl
theorem ZbG (n:Int) (w:World) (h0:0≤n) (h1:n≤3652058):CC 252 #[.int .i64 n] w fun r w'=>r=.tuple #[Z82 (ofM n).y (ofM n).m (ofM n).d,.int .i64 0]∧Stp [] w w':=by
 obtain ⟨K,hK,hm,hy1,hy2,hn,hd1,hd2,hs1,hs2⟩:=Zcm h0 h1
 generalize (ofM n).y=Y at *
 generalize (ofM n).m=M at *
 generalize (ofM n).d=D at *
 subst hm
 refine cW1 54 Tryz.func252 ?_
 refine W ?_
 refine Z1 Z7 rfl ?_
 rintro _ w1 ⟨b2,rfl,hb2,e2,hS⟩
 have hb2w:=hS.size
 repeat'(first|refine W1 ?_|omega|refine VG ?_ ?_<;>intro hg|refine VC ?_ ?_<;>intro hc)
 refine Z6 (vs:=[(0,.int .i64 _),(1,.int .i64 _)]) rfl (ZeZ _ _) rfl ?_
 refine Z1 Z7 rfl ?_
 rintro _ w2 ⟨b4,rfl,hb4,e4',hT⟩
 have n2:b4≠b2:=by have:=e2.lt;omega
 replace e2:=e2.up hT
 replace hS:=hS.trans hT
 refine Z2 (Z3 (us:=Z8q (n / 366+1) 1 0) rfl rfl rfl rfl (by simp;exact ⟨rfl,rfl,rfl⟩) e4' rfl) ?_
 rintro _ w3 ⟨hT,e4⟩
 replace e2:=e2.ext hT (by simpa using n2.symm)
 replace hS:=hS.own hT (fun c hc=>.inr (by simp at hc;omega))
 clear e4' hT
 have hlt4:=e4.lt
 have hY0:n / 366+1≤Y:=by
  have:ZT (Y+1)≤366 * Y:=by unfold ZT;omega
  omega
 have hYs:ZT (n / 366+1)≤n:=Int.le_trans (Z0g hY0) hs1
 refine W ?_
 refine Zr (σ:=Int) (fun y=>[(0,.int .i64 n),(2,.pointer (some ⟨b2,0,none⟩)),(4,.pointer (some ⟨b4,0,none⟩))]) (fun y w'=>n / 366+1≤y∧y≤Y∧Blk w' b4 291 (Z8q y 1 0)∧Blk w' b2 291 (Z8q 0 0 0)∧Stp [] w w') (fun y=>(Y - y).toNat) (n / 366+1) ⟨rfl,rfl,rfl,trivial⟩ ⟨Yak _,hY0,e4,e2,hS⟩ ?_
 clear e4 e2 hS
 rintro y w4 ⟨hy0,hyY,e4,e2,hS⟩
 refine W ?_
 refine CL rfl (Zm rfl) rfl (Z41 (y+1) _ (by omega) (by omega)) ?_
 rintro _ _ ⟨rfl,rfl⟩
 by_cases hgo:ZT (y+1)≤n
 have hlt:y<Y:=by
  by_cases e:y=Y
  subst e;omega
  omega
 focus repeat'(first|refine W1 ?_|omega|refine VG ?_ ?_<;>intro hg|refine VC ?_ ?_<;>intro hc)
 refine Z2 (Ze (u:=.int .i64 (y+1)) rfl rfl rfl rfl e4 (by simp)) ?_
 rintro _ w5 ⟨hT,e4'⟩
 replace e4':Blk w5 b4 291 (Z8q (y+1) 1 0):=e4'
 replace e2:=e2.ext hT (by simpa using n2.symm)
 replace hS:=hS.own hT (fun c hc=>.inr (by simp at hc;omega))
 refine W ?_
 exact Zg (y+1) ⟨rfl,rfl,rfl,trivial⟩ ⟨by omega,by omega,e4',e2,hS⟩ (by omega)
 have hYe:y=Y:=by
  by_cases e:y=Y
  exact e
  have:=Z0g (a:=y+1) (b:=Y) (by omega);omega
 subst hYe
 repeat'(first|refine W1 ?_|omega|refine VG ?_ ?_<;>intro hg|refine VC ?_ ?_<;>intro hc)
 refine CL rfl (Zm rfl) rfl (Z41 y _ (by omega) (by omega)) ?_
 rintro _ _ ⟨rfl,rfl⟩
 have hsb:-1000000≤ZT y∧ZT y≤100000000:=by unfold ZT;omega
 have hcb:∀ k:Nat,k≤11→0≤Jv y k∧Jv y k≤366:=fun k hk=>by
  have:=JK (y:=y) (a:=0) (b:=k) (by omega) (by omega)
  have:=JK (y:=y) (a:=k) (b:=12) (by omega) (by omega)
  have:=Zbo y
  have e0:Jv y 0=0:=rfl
  split at this<;>omega
 refine W ?_
 refine Zr (σ:=Nat) (fun k=>[(0,.int .i64 n),(2,.pointer (some ⟨b2,0,none⟩)),(4,.pointer (some ⟨b4,0,none⟩)),(5,.int .i64 (n - ZT y - Jv y k))]) (fun k w'=>k≤K∧Blk w' b4 291 (Z8q y ((k:Int)+1) 0)∧Blk w' b2 291 (Z8q 0 0 0)∧Stp [] w w') (fun k=>K - k) 0 ⟨rfl,rfl,rfl,by rw [show n - ZT y - Jv y 0=n - ZT y by simp [Jv]];rfl,trivial⟩ ⟨Xo _,e4,e2,hS⟩ ?_
 clear e4 e2 hS
 rintro k w5 ⟨hkK,e4,e2,hS⟩
 have hck:=hcb k (by omega)
 have hcK:=hcb K (by omega)
 have hlp:=Z0h (y:=y) (k:=k) (by omega)
 have hll:=Z0H y ((k:Int)+1)
 refine W ?_
 refine CL rfl (Zb rfl rfl) rfl (Z0K y ((k:Int)+1) _ (by omega) (by omega)) ?_
 rintro _ _ ⟨rfl,rfl⟩
 by_cases hgo:k<K
 have hm1:=JK (y:=y) (a:=k+1) (b:=K) (by omega) (by omega)
 have hm2:Jv y (k+1)=Jv y k+Zs y ((k:Int)+1):=rfl
 focus repeat'(first|refine W1 ?_|omega|refine VG ?_ ?_<;>intro hg|refine VC ?_ ?_<;>intro hc)
 refine CL rfl (Zb rfl rfl) rfl (Z0K y ((k:Int)+1) _ (by omega) (by omega)) ?_
 rintro _ _ ⟨rfl,rfl⟩
 refine W ?_
 refine Z2 (Ze (u:=.int .i64 ((k:Int)+1+1)) rfl rfl rfl rfl e4 (by simp)) ?_
 rintro _ w6 ⟨hT,e4'⟩
 replace e4':Blk w6 b4 291 (Z8q y (((k+1:Nat):Int)+1) 0):=e4'
 replace e2:=e2.ext hT (by simpa using n2.symm)
 replace hS:=hS.own hT (fun c hc=>.inr (by simp at hc;omega))
 refine W ?_
 exact Zg (k+1) ⟨rfl,rfl,rfl,by rw [hm2,show n - ZT y - (Jv y k+Zs y ((k:Int)+1))=n - ZT y - Jv y k - Zs y ((k:Int)+1) by omega];rfl,trivial⟩ ⟨by omega,e4',e2,hS⟩ (by omega)
 obtain rfl:k=K:=by omega
 repeat'(first|refine W1 ?_|omega|refine VG ?_ ?_<;>intro hg|refine VC ?_ ?_<;>intro hc)
 refine Z2 (Ze (u:=.int .i64 (n - ZT y - Jv y k+1)) rfl rfl rfl rfl e4 (by simp)) ?_
 rintro _ w6 ⟨hT,e4'⟩
 replace e4':Blk w6 b4 291 (Z8q y ((k:Int)+1) (n - ZT y - Jv y k+1)):=e4'
 rw [show n - ZT y - Jv y k+1=D by omega] at e4'
 replace e2:=e2.ext hT (by simpa using n2.symm)
 replace hS:=hS.own hT (fun c hc=>.inr (by simp at hc;omega))
 refine W ?_
 refine Z2 (Z3 (us:=Z8q y ((k:Int)+1) D) rfl rfl rfl rfl (by simp;exact ⟨rfl,rfl,rfl⟩) e2 rfl) ?_
 rintro _ w7 ⟨hT,e2'⟩
 replace hS:=hS.own hT (fun c hc=>.inr (by simp at hc;omega))
 refine W ?_
 refine J9 rfl rfl rfl e2' rfl rfl ?_
 exact .mk ⟨rfl,hS⟩
theorem Zf0:∀ d,d≤6→Z22 43 1 d∧Z22 44 2 d∧Z22 45 3 d:=by
 intro d
 induction d with
 | zero=>
   intro h
   have ih':∀ e,0=e+1→Z22 43 1 e∧Z22 44 2 e∧Z22 45 3 e:=fun e he=>by omega
   exact ⟨Z4z _ h ih',Z6w _ h ih',Z6x _ h ih'⟩
 | succ d ih=>
   intro h
   have ih':∀ e,d+1=e+1→Z22 43 1 e∧Z22 44 2 e∧Z22 45 3 e:=fun e he=>by
    obtain rfl:d=e:=by omega
    exact ih (by omega)
   exact ⟨Z4z _ h ih',Z6w _ h ih',Z6x _ h ih'⟩
theorem ZaN (X:List Nat) (v:Value) (l:List Int) (m:Nat) (w:World) (hs:SlV X w v l) (hl:∀ a∈l,I64 a) (hm:m≤100000):CC 40 #[v,.int .i64 (m:Int)] w fun r w'=>J8 3 w w' r (l.take m):=by
 have hmax:=hs.max
 refine cW2 14 Tryz.func40 ?_
 refine W ?_
 have hmin:min (l.length:Int) (m:Int)=((min l.length m:Nat):Int):=by omega
 refine Zd (Z3J (r:=min l.length m) rfl hs rfl (by omega) (Nat.min_le_left _ _)) rfl ?_
 have hsl:SlV X w _ (l.take (min l.length m)):=hs.slc (Xo (min l.length m)) (Nat.min_le_left _ _)
 refine Z1 (Jp rfl (by decide) rfl rfl (J8.nil (w:=w)) (ys:=l.take (min l.length m)) (hsl.wk (by simp [ob])) (by simp;omega) (by simp [maxLen];omega)) rfl ?_
 rintro v' w1 ⟨hrow,-,-⟩
 refine W ?_
 refine WR ?_
 refine .mk ?_
 have e:l.take (min l.length m)=l.take m:=by rw [Nat.min_comm,← Yah,XC]
 rw [XL,e] at hrow
 exact hrow
theorem Zf1 (p:Option Addr) (l c:Nat) (w:World):(Instr.build 103 #[(0,.slice p l c)]).run Tryz.prog w=.ok (.agg #[.slice p l c,.int .i64 0]) w:=by kernel_rfl
end Go.Proofs.YtjdjdoefppebkaaGreatDoor
namespace Go.Eng
open Go Go.RowKit Go.Proofs
section
variable {P:Program} {n:Nat} {fn:Func} {R:Ending→World→Prop} {e:Env} {w:World}
theorem Z55 {t1 t2 t3 b1 b2 b3 T1 T2 T3 S1 S2 S3 m1 m2 m3 s:Nat} {D1 D2 D3:TypeDesc} {c1 c2 c3:List Value} {v:Value} (hr:fn.results=#[.cell t1 S1,.cell t2 S2,.cell t3 S3,.tmp s])
 [hu1:Und P S1 D1] (hA1:Z06 D1=true) [hs1:Siz P S1 m1] (ht1:look e t1=some (.pointer (some ⟨b1,0,none⟩))) (hb1:Blk w b1 T1 c1) (hl1:c1.length=m1)
 [hu2:Und P S2 D2] (hA2:Z06 D2=true) [hs2:Siz P S2 m2] (ht2:look e t2=some (.pointer (some ⟨b2,0,none⟩))) (hb2:Blk w b2 T2 c2) (hl2:c2.length=m2)
 [hu3:Und P S3 D3] (hA3:Z06 D3=true) [hs3:Siz P S3 m3] (ht3:look e t3=some (.pointer (some ⟨b3,0,none⟩))) (hb3:Blk w b3 T3 c3) (hl3:c3.length=m3)
 (hv:look e s=some v) (h:R (.returned (.tuple #[.agg c1.toArray,.agg c2.toArray,.agg c3.toArray,v])) w):WQ n (bodyPost P fn R) .ret e w:=
 ⟨fun a ha => ⟨ha.defers, .tuple #[.agg c1.toArray, .agg c2.toArray, .agg c3.toArray, v], by
   have h1:=ha.vals _ _ ht1
   have h2:=ha.vals _ _ ht2
   have h3:=ha.vals _ _ ht3
   have h4:=ha.vals _ _ hv
   rw [Xv] at h1 h2 h3 h4
   simp [results,hr,h1,h2,h3,h4,asAddr,Z08 hA1 hb1 hl1,Z08 hA2 hb2 hl2,Z08 hA3 hb3 hl3],h⟩⟩
end
end Go.Eng
namespace Go.Proofs.YtjdjdoefppebkaaGreatDoor
open Go Go.Eng Go.RowKit
theorem Z2F {c:Cal} {hv cv zo zs hr:Value} (h1:hv.oneCell'=true) (h2:cv.oneCell'=true) (ho:zo.oneCell'=true∧zs.oneCell'=true∧hr.oneCell'=true):∀ u∈Jm c hv cv zo zs hr,u.oneCell'=true:=by
 obtain ⟨h3,h4,h5⟩:=ho
 intro u hu
 unfold Jm at hu
 simp only [Xe,Xm,or_false] at hu
 rcases hu with rfl|rfl|rfl|rfl|rfl|rfl|rfl|rfl|rfl|rfl|rfl|rfl<;>first|rfl|assumption
theorem Z42 (ev:List Int):∀ u∈evC ev,u.oneCell'=true:=by
 intro u hu
 unfold evC at hu
 simp only [Xe,Xm,or_false] at hu
 rcases hu with rfl|rfl|rfl|rfl|rfl|rfl|rfl<;>rfl
abbrev Zf2 (v0 v1 v2:Value) (kd kz:Int):Value:=.agg #[v0,v1,v2,.int .i64 kd,.int .i64 kz]
theorem ZaO (v0 v1 v2:Value) (l0 l1 l2:List Int) (kd kz:Int) (w:World) (h0:SlV [] w v0 l0) (h1:SlV [] w v1 l1) (h2:SlV [] w v2 l2) (hi0:∀ a∈l0,I64 a) (hi1:∀ a∈l1,I64 a) (hi2:∀ a∈l2,I64 a) (hkd:I64 kd) (hkz:I64 kz) (hL:Z0q w) (hM:Z2C w) :
 CC 12 #[Zf2 v0 v1 v2 kd kz] w fun r w'=>∃ (y:Nd) (t:Int) (ky:Value) (ev:List Int) (c:Cal) (hv cv zo zs hr:Value) (kn:Int),r=.tuple #[.agg (ndC y ky).toArray,Z6O ev,Z15 c hv cv zo zs hr,.int .i64 kn]∧Gn t 4 y∧SlV [] w' ky y.kids∧Z3x ev∧Z1m w' c hv cv zo zs hr∧(zo.oneCell'=true∧zs.oneCell'=true∧hr.oneCell'=true)∧Zhp c∧(739606≤kn∧kn<739686)∧Stp [] w w':=by
 refine cW1 48 Tryz.func12 ?_
 refine W ?_
 refine Z1 (Zo rfl) rfl ?_
 rintro _ w1 ⟨b1,rfl,hb1,k1,hS⟩
 have gw1:=hS.size
 have lt1:=k1.lt
 replace k1:Blk w1 b1 24 [v0,v1,v2,.int .i64 kd,.int .i64 kz]:=k1
 refine Z1 Z7 rfl ?_
 rintro _ w2 ⟨b2,rfl,hb2,k2,hT⟩
 replace k1:=k1.up hT
 replace hS:=hS.trans hT
 clear hT
 have lt2:=k2.lt
 refine Z1 Z7 rfl ?_
 rintro _ w3 ⟨b3,rfl,hb3,k3,hT⟩
 replace k1:=k1.up hT
 replace k2:=k2.up hT
 replace hS:=hS.trans hT
 clear hT
 have lt3:=k3.lt
 refine Z1 Z7 rfl ?_
 rintro _ w4 ⟨b4,rfl,hb4,k4,hT⟩
 replace k1:=k1.up hT
 replace k2:=k2.up hT
 replace k3:=k3.up hT
 replace hS:=hS.trans hT
 clear hT
 have lt4:=k4.lt
 have g1:w.heap.size≤b2∧w.heap.size≤b3∧w.heap.size≤b4:=by omega
 refine W ?_
 refine CL rfl (Zb rfl rfl) rfl (ZaN [] v0 l0 60 _ (h0.up hS) hi0 (by decide)) ?_
 rintro lv w5 hrow0
 have hsl:=hrow0.slv (X:=[]) (by simp)
 have hT:=hrow0.2
 replace k1:=k1.up hT
 replace k2:=k2.up hT
 replace k3:=k3.up hT
 replace k4:=k4.up hT
 replace hS:=hS.trans hT
 clear hT hrow0
 have hl':∀ a∈l0.take 60,I64 a:=fun a ha=>hi0 a (YaB ha)
 generalize l0.take 60=l' at *
 obtain ⟨p,cc,rfl,-⟩:=id hsl
 refine W ?_
 refine Z6 (vs:=[(0,.slice p l'.length cc)]) rfl (Zf1 _ _ _) rfl ?_
 have lt5:=k4.lt
 have g5:=hS.size
 refine Z1 (Zo rfl) rfl ?_
 rintro _ w6 ⟨bm,rfl,hbm,hmk,hT⟩
 replace hmk:Mk3 w6 bm (.slice p l'.length cc) 0:=hmk
 replace hsl:SlV [bm] w6 (.slice p l'.length cc) l':=hsl.ext hT (by simp) (fun b h=>.inr (by simp at h;omega))
 replace k1:=k1.up hT
 replace k2:=k2.up hT
 replace k3:=k3.up hT
 replace k4:=k4.up hT
 replace hS:=hS.trans hT
 have ltm:=hmk.lt
 clear hT
 refine W ?_
 refine CL rfl (Zb rfl rfl) rfl (ZR kz 80 _ (by decide) hkz) ?_
 rintro _ w7 ⟨rfl,hT⟩
 have hrz:=Jj (if kz<0 then -(kz+1) else kz) 80 (by decide)
 generalize (if kz<0 then -(kz+1) else kz) % 80=z at hrz ⊢
 replace k1:=k1.up hT
 replace k2:=k2.up hT
 replace k3:=k3.up hT
 replace k4:=k4.up hT
 replace hmk:=hmk.up hT
 replace hsl:=hsl.up hT
 replace hS:=hS.trans hT
 clear hT
 refine W ?_
 refine CL rfl (Zm rfl) rfl (Z9H v1 l1 _ (h1.up hS) hi1) ?_
 rintro _ w8 ⟨ev,rfl,hev,hT⟩
 replace k1:=k1.up hT
 replace k2:=k2.up hT
 replace k3:=k3.up hT
 replace k4:=k4.up hT
 replace hmk:=hmk.up hT
 replace hsl:=hsl.up hT
 replace hS:=hS.trans hT
 clear hT
 refine W ?_
 have lt8:=hmk.lt
 refine Z1 Z7 rfl ?_
 rintro _ w9 ⟨b8,rfl,hb8,k8,hT⟩
 have hq:=hT
 have hsl8:=hsl
 replace k1:=k1.up hT
 replace k2:=k2.up hT
 replace k3:=k3.up hT
 replace k4:=k4.up hT
 replace hmk:=hmk.up hT
 replace hsl:=hsl.up hT
 replace hS:=hS.trans hT
 clear hT
 refine W ?_
 refine Z2 (Z3 (us:=evC ev) rfl rfl rfl rfl (Z42 _) k8 rfl) ?_
 rintro _ w10 ⟨hT,k8⟩
 have ne8:b1≠b8∧b2≠b8∧b3≠b8∧b4≠b8∧bm≠b8:=by omega
 have gw9:=hS.size
 replace k1:=k1.ext hT (by simpa using ne8.1)
 replace k2:=k2.ext hT (by simpa using ne8.2.1)
 replace k3:=k3.ext hT (by simpa using ne8.2.2.1)
 replace k4:=k4.ext hT (by simpa using ne8.2.2.2.1)
 replace hmk:=hmk.ext hT (by simpa using ne8.2.2.2.2)
 have gb8:w.heap.size≤b8:=by omega
 have lt9:=k8.lt
 replace hS:=hS.own hT (fun c hc=>.inr (by simp at hc;omega))
 replace hsl:=hsl8.up (hq.own hT (fun c hc=>.inr (by simp at hc;omega)))
 clear hT hsl8 hq
 refine W ?_
 refine CL rfl (Zm rfl) rfl (Z6v [bm,b2,b3,b4] v2 l2 _ (by have:=hmk.lt;have:=k2.lt;have:=k3.lt;have:=k4.lt;simp;omega) (h2.up hS) hi2) ?_
 rintro _ w11 ⟨c,hv,cv,zo,zs,hr,rfl,ho,hok,hhv,hcv,hT⟩
 replace k1:=k1.up hT
 replace k2:=k2.up hT
 replace k3:=k3.up hT
 replace k4:=k4.up hT
 replace hmk:=hmk.up hT
 replace hsl:=hsl.up hT
 replace k8:=k8.up hT
 replace hS:=hS.trans hT
 clear hT
 refine W ?_
 have lt11:=hmk.lt
 have lt11b:=k8.lt
 have hsl11:=hsl
 refine Z1 Z7 rfl ?_
 rintro _ w12 ⟨b9,rfl,hb9,k9,hT⟩
 have hq:=hT
 replace k1:=k1.up hT
 replace k2:=k2.up hT
 replace k3:=k3.up hT
 replace k4:=k4.up hT
 replace hmk:=hmk.up hT
 replace k8:=k8.up hT
 replace hS:=hS.trans hT
 clear hT
 refine W ?_
 have gw12:=hS.size
 have ne9:b1≠b9∧b2≠b9∧b3≠b9∧b4≠b9∧bm≠b9∧b8≠b9:=by
  omega
 refine Z2 (Z3 (us:=Jm c hv cv zo zs hr) rfl rfl rfl rfl (Z2F hhv.one hcv.one ho) k9 rfl) ?_
 rintro _ w13 ⟨hT,k9⟩
 replace k1:=k1.ext hT (by simpa using ne9.1)
 replace k2:=k2.ext hT (by simpa using ne9.2.1)
 replace k3:=k3.ext hT (by simpa using ne9.2.2.1)
 replace k4:=k4.ext hT (by simpa using ne9.2.2.2.1)
 replace hmk:=hmk.ext hT (by simpa using ne9.2.2.2.2.1)
 replace k8:=k8.ext hT (by simpa using ne9.2.2.2.2.2)
 have hq2:=hq.own hT (fun c hc=>.inr (by simp at hc;omega))
 have gb9:w.heap.size≤b9:=by have:=hS.size;omega
 replace hS:=hS.own hT (fun c hc=>.inr (by simp at hc;omega))
 replace hsl:=hsl11.up hq2
 replace hhv:=hhv.up hq2
 replace hcv:=hcv.up hq2
 clear hT hsl11 hq hq2
 refine W ?_
 refine CL rfl (Zb rfl rfl) rfl (ZR kd 4 _ (by decide) hkd) ?_
 rintro _ w14 ⟨rfl,hT⟩
 have hrk:=Jj (if kd<0 then -(kd+1) else kd) 4 (by decide)
 generalize (if kd<0 then -(kd+1) else kd) % 4=kk at hrk ⊢
 replace k1:=k1.up hT
 replace k2:=k2.up hT
 replace k3:=k3.up hT
 replace k4:=k4.up hT
 replace hmk:=hmk.up hT
 replace k8:=k8.up hT
 replace k9:=k9.up hT
 replace hsl:=hsl.up hT
 replace hhv:=hhv.up hT
 replace hcv:=hcv.up hT
 replace hS:=hS.trans hT
 clear hT
 have n8:b8∉[bm,b2,b3,b4]:=by simp;omega
 have n9:b9∉[bm,b2,b3,b4]:=by simp;omega
 have e23:b2≠b3∧b2≠b4∧b3≠b4∧b2≠bm∧b3≠bm∧b4≠bm:=by omega
 by_cases hk0:kk=0
 focus repeat'(first|refine W1 ?_|omega|refine VG ?_ ?_<;>intro hg|refine VC ?_ ?_<;>intro hc)
 refine ZDr 9 ([bm,b2,b3,b4]) [] [(0,0),(2,1),(3,1),(4,0),(1,2),(5,2),(6,2),(7,2),(8,0)] (fun w1 hS1=>?_)
 have hT:=hS1
 replace k1:=k1.up hT
 replace k2:=k2.up hT
 replace k3:=k3.up hT
 replace k4:=k4.up hT
 replace hmk:=hmk.up hT
 replace k8:=k8.up hT
 replace k9:=k9.up hT
 replace hsl:=hsl.up hT
 replace hhv:=hhv.up hT
 replace hcv:=hcv.up hT
 replace hS:=hS.trans hT
 clear hT
 clear hS1
 refine D ?_
 refine Za rfl trivial (Z4 rfl (Zb rfl rfl) ((Zf0 4 (by decide)).1 [b2,b3,b4] _ bm _ l' 0 4 rfl hmk hsl hl' (by decide) (by have:=k2.lt;have:=k3.lt;have:=k4.lt;simp;omega))) (fun _ _ h=>(h.choose_spec.choose_spec.2.2.2.2).mono (by simp)) rfl ?_
 rintro _ w15 ⟨y,i',⟨ky,rfl,hky⟩,hgn,-,-,hT⟩
 replace k2:=k2.ext hT (by simp;omega)
 replace k3:=k3.ext hT (by simp;omega)
 replace k4:=k4.ext hT (by simp;omega)
 replace k8:=k8.ext hT (by simp;omega)
 replace k9:=k9.ext hT (by simp;omega)
 replace hhv:=hhv.ext (X':=[bm,b2,b3,b4]) hT (by simp) (fun _ h=>.inl h)
 replace hcv:=hcv.ext (X':=[bm,b2,b3,b4]) hT (by simp) (fun _ h=>.inl h)
 replace hS:=hS.own hT (fun c hc=>.inr (by simp at hc;omega))
 clear hT hmk hsl
 refine D ?_
 refine ZD rfl trivial (Z3 (us:=ndC y ky) rfl rfl rfl rfl (Zh hky) k2 rfl) (fun _ _ h=>h.1.mono (by simp)) ?_
 rintro _ w16 ⟨hT,k2⟩
 replace k3:=k3.ext hT (by simp;omega)
 replace k4:=k4.ext hT (by simp;omega)
 replace k8:=k8.ext hT (by simp;omega)
 replace k9:=k9.ext hT (by simp;omega)
 replace hky:=hky.ext (X':=[b2,b3,b4]) hT (by simp) (fun _ h=>.inl h)
 replace hhv:=hhv.ext (X':=[bm,b2,b3,b4]) hT (by simp) (fun _ h=>.inl h)
 replace hcv:=hcv.ext (X':=[bm,b2,b3,b4]) hT (by simp) (fun _ h=>.inl h)
 replace hS:=hS.own hT (fun c hc=>.inr (by simp at hc;omega))
 clear hT
 refine D ?_
 refine ZD rfl trivial (Z3 (us:=evC ev) rfl rfl rfl rfl (Z42 _) k3 rfl) (fun _ _ h=>h.1.mono (by simp)) ?_
 rintro _ w17 ⟨hT,k3⟩
 replace k2:=k2.ext hT (by simp;omega)
 replace k4:=k4.ext hT (by simp;omega)
 replace k9:=k9.ext hT (by simp;omega)
 replace hky:=hky.ext (X':=[b2,b3,b4]) hT (by simp) (fun _ h=>.inl h)
 replace hhv:=hhv.ext (X':=[bm,b2,b3,b4]) hT (by simp) (fun _ h=>.inl h)
 replace hcv:=hcv.ext (X':=[bm,b2,b3,b4]) hT (by simp) (fun _ h=>.inl h)
 replace hS:=hS.own hT (fun c hc=>.inr (by simp at hc;omega))
 clear hT
 refine D ?_
 refine ZD rfl trivial (Z3 (us:=Jm c hv cv zo zs hr) rfl rfl rfl rfl (Z2F hhv.one hcv.one ho) k4 rfl) (fun _ _ h=>h.1.mono (by simp)) ?_
 rintro _ w18 ⟨hT,k4⟩
 replace k2:=k2.ext hT (by simp;omega)
 replace k3:=k3.ext hT (by simp;omega)
 replace hky:=hky.ext (X':=[b2,b3,b4]) hT (by simp) (fun _ h=>.inl h)
 replace hhv:=hhv.ext (X':=[bm,b2,b3,b4]) hT (by simp) (fun _ h=>.inl h)
 replace hcv:=hcv.ext (X':=[bm,b2,b3,b4]) hT (by simp) (fun _ h=>.inl h)
 replace hS:=hS.own hT (fun c hc=>.inr (by simp at hc;omega))
 clear hT
 refine D ?_
 refine W ?_
 refine Z55 rfl rfl rfl k2 rfl rfl rfl k3 rfl rfl rfl k4 rfl rfl ?_
 exact .mk ⟨y,_,ky,ev,c,hv,cv,zo,zs,hr,_,rfl,hgn,hky.wk (by simp),hev,⟨hhv.wk (by simp),hcv.wk (by simp),hL.up hS,hM.up hS,hok.ok⟩,ho,hok,(by omega),hS⟩
 by_cases hk1:kk=1
 focus repeat'(first|refine W1 ?_|omega|refine VG ?_ ?_<;>intro hg|refine VC ?_ ?_<;>intro hc)
 refine ZDr 9 ([bm,b2,b3,b4]) [] [(0,0),(2,1),(3,1),(4,0),(1,2),(5,2),(6,2),(7,2),(8,0)] (fun w1 hS1=>?_)
 have hT:=hS1
 replace k1:=k1.up hT
 replace k2:=k2.up hT
 replace k3:=k3.up hT
 replace k4:=k4.up hT
 replace hmk:=hmk.up hT
 replace k8:=k8.up hT
 replace k9:=k9.up hT
 replace hsl:=hsl.up hT
 replace hhv:=hhv.up hT
 replace hcv:=hcv.up hT
 replace hS:=hS.trans hT
 clear hT
 clear hS1
 refine D ?_
 refine Za rfl trivial (Z4 rfl (Zb rfl rfl) ((Zf0 4 (by decide)).2.1 [b2,b3,b4] _ bm _ l' 0 4 rfl hmk hsl hl' (by decide) (by have:=k2.lt;have:=k3.lt;have:=k4.lt;simp;omega))) (fun _ _ h=>(h.choose_spec.choose_spec.2.2.2.2).mono (by simp)) rfl ?_
 rintro _ w15 ⟨y,i',⟨ky,rfl,hky⟩,hgn,-,-,hT⟩
 replace k2:=k2.ext hT (by simp;omega)
 replace k3:=k3.ext hT (by simp;omega)
 replace k4:=k4.ext hT (by simp;omega)
 replace k8:=k8.ext hT (by simp;omega)
 replace k9:=k9.ext hT (by simp;omega)
 replace hhv:=hhv.ext (X':=[bm,b2,b3,b4]) hT (by simp) (fun _ h=>.inl h)
 replace hcv:=hcv.ext (X':=[bm,b2,b3,b4]) hT (by simp) (fun _ h=>.inl h)
 replace hS:=hS.own hT (fun c hc=>.inr (by simp at hc;omega))
 clear hT hmk hsl
 refine D ?_
 refine ZD rfl trivial (Z3 (us:=ndC y ky) rfl rfl rfl rfl (Zh hky) k2 rfl) (fun _ _ h=>h.1.mono (by simp)) ?_
 rintro _ w16 ⟨hT,k2⟩
 replace k3:=k3.ext hT (by simp;omega)
 replace k4:=k4.ext hT (by simp;omega)
 replace k8:=k8.ext hT (by simp;omega)
 replace k9:=k9.ext hT (by simp;omega)
 replace hky:=hky.ext (X':=[b2,b3,b4]) hT (by simp) (fun _ h=>.inl h)
 replace hhv:=hhv.ext (X':=[bm,b2,b3,b4]) hT (by simp) (fun _ h=>.inl h)
 replace hcv:=hcv.ext (X':=[bm,b2,b3,b4]) hT (by simp) (fun _ h=>.inl h)
 replace hS:=hS.own hT (fun c hc=>.inr (by simp at hc;omega))
 clear hT
 refine D ?_
 refine ZD rfl trivial (Z3 (us:=evC ev) rfl rfl rfl rfl (Z42 _) k3 rfl) (fun _ _ h=>h.1.mono (by simp)) ?_
 rintro _ w17 ⟨hT,k3⟩
 replace k2:=k2.ext hT (by simp;omega)
 replace k4:=k4.ext hT (by simp;omega)
 replace k9:=k9.ext hT (by simp;omega)
 replace hky:=hky.ext (X':=[b2,b3,b4]) hT (by simp) (fun _ h=>.inl h)
 replace hhv:=hhv.ext (X':=[bm,b2,b3,b4]) hT (by simp) (fun _ h=>.inl h)
 replace hcv:=hcv.ext (X':=[bm,b2,b3,b4]) hT (by simp) (fun _ h=>.inl h)
 replace hS:=hS.own hT (fun c hc=>.inr (by simp at hc;omega))
 clear hT
 refine D ?_
 refine ZD rfl trivial (Z3 (us:=Jm c hv cv zo zs hr) rfl rfl rfl rfl (Z2F hhv.one hcv.one ho) k4 rfl) (fun _ _ h=>h.1.mono (by simp)) ?_
 rintro _ w18 ⟨hT,k4⟩
 replace k2:=k2.ext hT (by simp;omega)
 replace k3:=k3.ext hT (by simp;omega)
 replace hky:=hky.ext (X':=[b2,b3,b4]) hT (by simp) (fun _ h=>.inl h)
 replace hhv:=hhv.ext (X':=[bm,b2,b3,b4]) hT (by simp) (fun _ h=>.inl h)
 replace hcv:=hcv.ext (X':=[bm,b2,b3,b4]) hT (by simp) (fun _ h=>.inl h)
 replace hS:=hS.own hT (fun c hc=>.inr (by simp at hc;omega))
 clear hT
 refine D ?_
 refine W ?_
 refine Z55 rfl rfl rfl k2 rfl rfl rfl k3 rfl rfl rfl k4 rfl rfl ?_
 exact .mk ⟨y,_,ky,ev,c,hv,cv,zo,zs,hr,_,rfl,hgn,hky.wk (by simp),hev,⟨hhv.wk (by simp),hcv.wk (by simp),hL.up hS,hM.up hS,hok.ok⟩,ho,hok,(by omega),hS⟩
 focus repeat'(first|refine W1 ?_|omega|refine VG ?_ ?_<;>intro hg|refine VC ?_ ?_<;>intro hc)
 refine ZDr 9 ([bm,b2,b3,b4]) [] [(0,0),(2,1),(3,1),(4,0),(1,2),(5,2),(6,2),(7,2),(8,0)] (fun w1 hS1=>?_)
 have hT:=hS1
 replace k1:=k1.up hT
 replace k2:=k2.up hT
 replace k3:=k3.up hT
 replace k4:=k4.up hT
 replace hmk:=hmk.up hT
 replace k8:=k8.up hT
 replace k9:=k9.up hT
 replace hsl:=hsl.up hT
 replace hhv:=hhv.up hT
 replace hcv:=hcv.up hT
 replace hS:=hS.trans hT
 clear hT
 clear hS1
 refine D ?_
 refine Za rfl trivial (Z4 rfl (Zb rfl rfl) ((Zf0 4 (by decide)).2.2 [b2,b3,b4] _ bm _ l' 0 4 rfl hmk hsl hl' (by decide) (by have:=k2.lt;have:=k3.lt;have:=k4.lt;simp;omega))) (fun _ _ h=>(h.choose_spec.choose_spec.2.2.2.2).mono (by simp)) rfl ?_
 rintro _ w15 ⟨y,i',⟨ky,rfl,hky⟩,hgn,-,-,hT⟩
 replace k2:=k2.ext hT (by simp;omega)
 replace k3:=k3.ext hT (by simp;omega)
 replace k4:=k4.ext hT (by simp;omega)
 replace k8:=k8.ext hT (by simp;omega)
 replace k9:=k9.ext hT (by simp;omega)
 replace hhv:=hhv.ext (X':=[bm,b2,b3,b4]) hT (by simp) (fun _ h=>.inl h)
 replace hcv:=hcv.ext (X':=[bm,b2,b3,b4]) hT (by simp) (fun _ h=>.inl h)
 replace hS:=hS.own hT (fun c hc=>.inr (by simp at hc;omega))
 clear hT hmk hsl
 refine D ?_
 refine ZD rfl trivial (Z3 (us:=ndC y ky) rfl rfl rfl rfl (Zh hky) k2 rfl) (fun _ _ h=>h.1.mono (by simp)) ?_
 rintro _ w16 ⟨hT,k2⟩
 replace k3:=k3.ext hT (by simp;omega)
 replace k4:=k4.ext hT (by simp;omega)
 replace k8:=k8.ext hT (by simp;omega)
 replace k9:=k9.ext hT (by simp;omega)
 replace hky:=hky.ext (X':=[b2,b3,b4]) hT (by simp) (fun _ h=>.inl h)
 replace hhv:=hhv.ext (X':=[bm,b2,b3,b4]) hT (by simp) (fun _ h=>.inl h)
 replace hcv:=hcv.ext (X':=[bm,b2,b3,b4]) hT (by simp) (fun _ h=>.inl h)
 replace hS:=hS.own hT (fun c hc=>.inr (by simp at hc;omega))
 clear hT
 refine D ?_
 refine ZD rfl trivial (Z3 (us:=evC ev) rfl rfl rfl rfl (Z42 _) k3 rfl) (fun _ _ h=>h.1.mono (by simp)) ?_
 rintro _ w17 ⟨hT,k3⟩
 replace k2:=k2.ext hT (by simp;omega)
 replace k4:=k4.ext hT (by simp;omega)
 replace k9:=k9.ext hT (by simp;omega)
 replace hky:=hky.ext (X':=[b2,b3,b4]) hT (by simp) (fun _ h=>.inl h)
 replace hhv:=hhv.ext (X':=[bm,b2,b3,b4]) hT (by simp) (fun _ h=>.inl h)
 replace hcv:=hcv.ext (X':=[bm,b2,b3,b4]) hT (by simp) (fun _ h=>.inl h)
 replace hS:=hS.own hT (fun c hc=>.inr (by simp at hc;omega))
 clear hT
 refine D ?_
 refine ZD rfl trivial (Z3 (us:=Jm c hv cv zo zs hr) rfl rfl rfl rfl (Z2F hhv.one hcv.one ho) k4 rfl) (fun _ _ h=>h.1.mono (by simp)) ?_
 rintro _ w18 ⟨hT,k4⟩
 replace k2:=k2.ext hT (by simp;omega)
 replace k3:=k3.ext hT (by simp;omega)
 replace hky:=hky.ext (X':=[b2,b3,b4]) hT (by simp) (fun _ h=>.inl h)
 replace hhv:=hhv.ext (X':=[bm,b2,b3,b4]) hT (by simp) (fun _ h=>.inl h)
 replace hcv:=hcv.ext (X':=[bm,b2,b3,b4]) hT (by simp) (fun _ h=>.inl h)
 replace hS:=hS.own hT (fun c hc=>.inr (by simp at hc;omega))
 clear hT
 refine D ?_
 refine W ?_
 refine Z55 rfl rfl rfl k2 rfl rfl rfl k3 rfl rfl rfl k4 rfl rfl ?_
 exact .mk ⟨y,_,ky,ev,c,hv,cv,zo,zs,hr,_,rfl,hgn,hky.wk (by simp),hev,⟨hhv.wk (by simp),hcv.wk (by simp),hL.up hS,hM.up hS,hok.ok⟩,ho,hok,(by omega),hS⟩
theorem Zh1 (op:BinOp) (x y:Operand) (a b:Spn) (w:World):(eqGuard op 111 x y (agg a) (agg b)).run Tryz.prog w=.ok () w:=by
 cases op<;>kernel_rfl
theorem Zo1 (a b:Spn) (w:World):(binOp .neq 111 (agg a) (agg b)).run Tryz.prog w=.ok (.bool (decide (¬ a=b))) w:=by
 have h1:Program.stoodInHeld Tryz.prog 111=false:=by kernel_rfl
 obtain ⟨a1,a2⟩:=a
 obtain ⟨b1,b2⟩:=b
 simp [agg,Z9.enc,run_neq_struct,run_equalIn_struct,h1,Program.fieldsOf,Tryz.underlying111,Op.eqFields,part,Und.isAgg,Z06,run_equalIn_int w _ _ .i64 .i64 _ _ Tryz.underlying3]
 repeat' split
 all_goals simp_all
theorem Z0B (va vb:Value) (xs ys:List Spn) (w:World) (ha:SlV [] w va xs) (hb:SlV [] w vb ys) :
 CC 49 #[va,vb] w fun r w'=>r=.bool (decide (xs=ys))∧Stp [] w w':=by
 have hma:=ha.max
 have hmb:=hb.max
 refine cW2 26 Tryz.func49 ?_
 refine W ?_
 by_cases hl:xs.length=ys.length
 case neg=>
  repeat'(first|refine W1 ?_|omega|refine VG ?_ ?_<;>intro hg|refine VC ?_ ?_<;>intro hc)
  refine WR ?_
  exact .mk ⟨by congr 1;rw [eq_comm,decide_eq_false_iff_not];exact fun h=>hl (by rw [h]),Stp.refl _ _⟩
 repeat'(first|refine W1 ?_|omega|refine VG ?_ ?_<;>intro hg|refine VC ?_ ?_<;>intro hc)
 refine Zr (σ:=Nat) (fun j=>[(0,va),(1,vb),(4,.bool false),(5,.int .i64 (j:Int))]) (fun j w'=>j≤xs.length∧Stp [] w w'∧∀ i (h:i<xs.length),i<j→xs[i]=ys[i]'(by omega)) (fun j=>xs.length - j) 0 ⟨rfl,rfl,rfl,rfl,trivial⟩ ⟨Xo _,Stp.refl _ _,fun i _ h=>absurd h (Xy _)⟩ ?_
 rintro j w2 ⟨hj,hS,heq⟩
 try dsimp only at hj heq ⊢
 replace ha:=ha.up hS
 replace hb:=hb.up hS
 by_cases hlt:j<xs.length
 have hlt':j<ys.length:=by omega
 focus repeat'(first|refine W1 ?_|omega|refine VG ?_ ?_<;>intro hg|refine VC ?_ ?_<;>intro hc)
 refine ZDr 9 [] [] [(0,0),(1,0),(2,0),(3,1),(4,0),(5,0),(6,0),(7,1),(8,0)] (fun w1 hS1=>?_)
 replace ha:=ha.up hS1
 replace hb:=hb.up hS1
 replace hS:=hS.trans hS1
 refine D ?_
 apply Z0J
 exact rfl
 refine ZfZ (c:=xs[j]=ys[j]) trivial rfl rfl (fun w=>Zh1 _ _ _ xs[j] ys[j] w) (by intro w;exact Zo1 xs[j] ys[j] w) rfl ?_
 refine D ?_
 focus repeat'(first|refine W1 ?_|omega|refine VG ?_ ?_<;>intro hg|refine VC ?_ ?_<;>intro hc)
 refine WR ?_
 exact .mk ⟨by congr 1;rw [eq_comm,decide_eq_false_iff_not];exact fun h=>hc (by simp [h]),hS⟩
 have he:xs[j]=ys[j]:=Decidable.byContradiction hc
 have hk:∀ i (h:i<xs.length),i<j+1→xs[i]=ys[i]'(by omega):=fun i h hi=>by
  by_cases hij:i=j
  subst hij;exact he
  exact heq i h (by omega)
 exact Zg (j+1) ⟨rfl,rfl,rfl,rfl,trivial⟩ ⟨hlt,hS,hk⟩ (Yap hlt (Yas j))
 have hje:j=xs.length:=by omega
 subst hje
 focus repeat'(first|refine W1 ?_|omega|refine VG ?_ ?_<;>intro hg|refine VC ?_ ?_<;>intro hc)
 refine WR ?_
 exact .mk ⟨by congr 1;rw [eq_comm,decide_eq_true_eq];exact YaD hl (fun i h h'=>heq i h h),hS⟩
structure FId where
 f:Nat
deriving DecidableEq
instance:Z9 FId where
 k:=1
 enc:=fun x=>[fnV x.f]
 len:=fun _=>rfl
 one:=by intro x u hu;simp at hu;subst hu;rfl
def Z8r {β:Type} [Z9 β] (X:List Nat) (w:World) (r:Nat) (es:List (Str×List β)):Prop:=
 ∃ l:List (Str×Value),Z0N str w r l∧l.length=es.length∧∀ i (h:i<l.length) (h':i<es.length),l[i].1=es[i].1∧SlV (r :: X) w l[i].2 es[i].2
theorem Z8r.up {β:Type} [Z9 β] {X:List Nat} {w w':World} {r:Nat} {es:List (Str×List β)} (h:Z8r X w r es) (hS:Stp [] w w'):Z8r X w' r es:=by
 obtain ⟨l,h1,h2,h3⟩:=h
 exact ⟨l,h1.up hS,h2,fun i h h'=>⟨(h3 i h h').1,(h3 i h h').2.up hS⟩⟩
theorem Jc {β:Type} [Z9 β] {P:Program} {n:Nat} {e:Env} {w:World} {d:Option Nat} {ty:TypeId} {pos:String} {af:Array Edge} {g:Option (Nat×Bool)} {mt kt et r:Nat} {x y z:Operand} [hm:Und P mt (.map kt et)] [hk:Und P kt .string] {X:List Nat} {es:List (Str×List β)} {a:Str} {v:Value} {xs:List β} (hx:ev e x=some (.map (some r))) (hy:ev e y=some (str a)) (hz:ev e z=some v)
 (hr:Z8r X w r es) (hv:SlV (r :: X) w v xs) (hn:∀ p∈es,¬ p.1=a):OE P n ⟨d,.insert mt x y z,ty,pos,af,g⟩ e w (fun _ w'=>Z8r X w' r (es++[(a,xs)])∧Stp [r] w w'):=by
 obtain ⟨l,h1,h2,h3⟩:=hr
 have hfr:∀ p∈l,¬ p.1=a:=by
  intro p hp
  obtain ⟨i,hi,rfl⟩:=Xr hp
  rw [(h3 i hi (by omega)).1]
  exact hn _ (Xf _)
 refine (Zu (K:=inferInstance) hx hy hz h1 hfr).mono ?_
 rintro _ w' ⟨g1,g2⟩
 refine ⟨⟨_,g1,by simp [h2],fun i h h'=>?_⟩,g2⟩
 by_cases hi:i<l.length
 have hi':i<es.length:=by omega
 rw [XQ hi,XQ hi']
 exact ⟨(h3 i hi hi').1,(h3 i hi hi').2.on g2 (by simp)⟩
 have hil:i=l.length:=by simp at h;omega
 subst hil
 rw [XO (Xl _),XO (by omega)]
 simp only [Ya6,h2,List.getElem_cons_zero]
 exact ⟨trivial,hv.on g2 (by simp)⟩
def Zlh {β:Type} (es:List (Str×List β)) (s:Str):List β:=match es.find? (fun p=>decide (p.1=s)) with|some p=>p.2|none=>[]
theorem Z8r.get {β:Type} [Z9 β] {X:List Nat} {w:World} {m:Nat} {es:List (Str×List β)} (h:Z8r X w m es) (s:Str):∃ l:List (Str×Value),Z0N str w m l∧SlV X w (Z4H l s (.slice none 0 0)) (Zlh es s):=by
 obtain ⟨l,h1,h2,h3⟩:=h
 refine ⟨l,h1,?_⟩
 unfold Z4H Zlh
 have hf:(l.find? (fun p=>decide (p.1=s))=none∧es.find? (fun p=>decide (p.1=s))=none)∨∃ i,∃ (h:i<l.length) (h':i<es.length),l.find? (fun p=>decide (p.1=s))=some l[i]∧es.find? (fun p=>decide (p.1=s))=some es[i]:=by
  cases hq:l.find? (fun p=>decide (p.1=s)) with
  | none=>
    left
    refine ⟨rfl,?_⟩
    rw [YaK]
    intro p hp
    obtain ⟨i,hi,rfl⟩:=Xr hp
    have:=YaK.1 hq l[i] (Xf (by omega))
    rwa [(h3 i (by omega) hi).1] at this
  | some p=>
    right
    obtain ⟨hp,i,hi,rfl,hb⟩:=Yar.1 hq
    refine ⟨i,hi,by omega,rfl,?_⟩
    rw [Yar]
    refine ⟨by rw [← (h3 i hi (by omega)).1];exact hp,i,by omega,rfl,fun j hj=>?_⟩
    rw [← (h3 j (by omega) (by omega)).1]
    exact hb j hj
 rcases hf with ⟨e1,e2⟩|⟨i,h,h',e1,e2⟩
 rw [e1,e2]
 exact ⟨none,0,rfl,Xl _,by simp [maxLen],fun _=>rfl,fun i h=>absurd h (Xy _)⟩
 rw [e1,e2]
 exact (h3 i h h').2.ext (Stp.refl [] w) (by simp) (fun b hb=>.inl (XV _ hb))
theorem JC (f:Nat) (w:World):(Instr.buildSlice 204 1 #[(0,fnV f)]).run Tryz.prog w=.ok (.slice (some ⟨w.heap.size,0,none⟩) 1 1) (w.alloc (.cells #[fnV f] 159)):=by kernel_rfl
theorem Z4A (f g:Nat) (w:World):(Instr.buildSlice 204 2 #[(0,fnV f),(1,fnV g)]).run Tryz.prog w=.ok (.slice (some ⟨w.heap.size,0,none⟩) 2 2) (w.alloc (.cells #[fnV f,fnV g] 159)):=by kernel_rfl
def Zo2:List (Str×List FId):=[([43],[⟨139⟩]),([45],[⟨140⟩]),([42],[⟨141⟩]),([60],[⟨143⟩]),([60,61],[⟨144⟩]),([61],[⟨145⟩]),([62],[⟨144⟩,⟨146⟩]),([62,61],[⟨143⟩,⟨146⟩]),([33,61],[⟨145⟩,⟨146⟩]),([110,101,120,116],[⟨153⟩]),([112,114,101,118],[⟨154⟩]),([108,97,116,101,114],[⟨155⟩]),([101,97,114,108,105,101,114],[⟨156⟩]),([98,101,116,119,101,101,110],[⟨157⟩])]
def Zf3:List (Str×Value):=[([100,97,121,115],fnV 149),([119,101,101,107,115],fnV 150),([109,111,110,116,104,115],fnV 151),([99,111,117,114,116,100,97,121,115],fnV 152)]
def Z9K (s:Str):Nat:=if s=[100,97,121,115] then 149 else if s=[119,101,101,107,115] then 150 else if s=[109,111,110,116,104,115] then 151 else 152
theorem Z9L (s:Str) (hs:s∈JI):Z4H Zf3 s .nilFunc=fnV (Z9K s):=by
 simp only [JI,Xe,Xm,or_false] at hs
 rcases hs with rfl|rfl|rfl|rfl<;>rfl
def Z8s (k:Int) (s:Str):List FId:=if k=7∨k=8 then (if k=8 then [⟨142⟩,⟨Z9K s⟩] else [⟨Z9K s⟩]) else if k=5 then [if s=[110,111,116] then ⟨146⟩ else ⟨142⟩] else Zlh Zo2 s
set_option maxHeartbeats 1000000 in
theorem Z6y (X:List Nat) (k n:Int) (s:Str) (kv:Value) (w:World) (hX:∀ b∈X,b<w.heap.size) (hu:k=7∨k=8→s∈JI) :
 CC 112 #[.agg #[.int .i64 k,.int .i64 n,str s,kv]] w fun r w'=>SlV X w' r (Z8s k s)∧Stp [] w w':=by
 refine cW1 47 Tryz.func112 ?_
 refine W ?_
 refine Z1 (Zo rfl) rfl ?_
 rintro _ w1 ⟨b1,rfl,hb1,hblk,hS⟩
 replace hblk:Blk w1 b1 27 [.int .i64 k,.int .i64 n,str s,kv]:=hblk
 unfold Z8s
 by_cases h78:k=7∨k=8
 rw [if_pos h78]
 have hsu:=hu h78
 rcases h78 with rfl|rfl
 rw [(if_neg (by decide))]
 refine W ?_
 refine Z1 (Z2r str) rfl ?_
 rintro _ w2 ⟨m,rfl,hm,hmap,hS2⟩
 have hmb:b1<m:=by have:=hblk.lt;omega
 replace hblk:=hblk.up hS2
 have hmw:w.heap.size≤m:=by have:=hS.size;omega
 replace hS:=hS.trans hS2
 clear hS2
 refine Z2 (Zu (a:=[100,97,121,115]) rfl rfl rfl hmap (by decide)) ?_
 clear hmap
 rintro _ w3 ⟨hmap,hT⟩
 replace hblk:=hblk.ext hT (by simp;omega)
 replace hS:=hS.own hT (fun c hc=>.inr (by simp at hc;omega))
 clear hT
 refine Z2 (Zu (a:=[119,101,101,107,115]) rfl rfl rfl hmap (by decide)) ?_
 clear hmap
 rintro _ w3 ⟨hmap,hT⟩
 replace hblk:=hblk.ext hT (by simp;omega)
 replace hS:=hS.own hT (fun c hc=>.inr (by simp at hc;omega))
 clear hT
 refine Z2 (Zu (a:=[109,111,110,116,104,115]) rfl rfl rfl hmap (by decide)) ?_
 clear hmap
 rintro _ w3 ⟨hmap,hT⟩
 replace hblk:=hblk.ext hT (by simp;omega)
 replace hS:=hS.own hT (fun c hc=>.inr (by simp at hc;omega))
 clear hT
 refine Z2 (Zu (a:=[99,111,117,114,116,100,97,121,115]) rfl rfl rfl hmap (by decide)) ?_
 clear hmap
 rintro _ w3 ⟨hmap,hT⟩
 replace hblk:=hblk.ext hT (by simp;omega)
 replace hS:=hS.own hT (fun c hc=>.inr (by simp at hc;omega))
 clear hT
 have hmap2:Z0N str w3 m Zf3:=hmap
 refine W ?_
 refine Zd (Z3h rfl rfl hmap2) rfl ?_
 rw [Z9L s hsu]
 refine W ?_
 have hz:=hS.size
 refine Z1 (Z0 (vs:=[(0,fnV (Z9K s))]) rfl (JC _)) rfl ?_
 rintro bv w4 hN
 refine W ?_
 refine WR ?_
 exact .mk ⟨hN.slv (fun b hb=>by have:=hX b hb;omega) rfl rfl (by simp [maxLen]),hS.trans (Z5.stp hN)⟩
 rw [(if_pos rfl)]
 refine W ?_
 refine Z1 (Z2r str) rfl ?_
 rintro _ w2 ⟨m,rfl,hm,hmap,hS2⟩
 have hmb:b1<m:=by have:=hblk.lt;omega
 replace hblk:=hblk.up hS2
 have hmw:w.heap.size≤m:=by have:=hS.size;omega
 replace hS:=hS.trans hS2
 clear hS2
 refine Z2 (Zu (a:=[100,97,121,115]) rfl rfl rfl hmap (by decide)) ?_
 clear hmap
 rintro _ w3 ⟨hmap,hT⟩
 replace hblk:=hblk.ext hT (by simp;omega)
 replace hS:=hS.own hT (fun c hc=>.inr (by simp at hc;omega))
 clear hT
 refine Z2 (Zu (a:=[119,101,101,107,115]) rfl rfl rfl hmap (by decide)) ?_
 clear hmap
 rintro _ w3 ⟨hmap,hT⟩
 replace hblk:=hblk.ext hT (by simp;omega)
 replace hS:=hS.own hT (fun c hc=>.inr (by simp at hc;omega))
 clear hT
 refine Z2 (Zu (a:=[109,111,110,116,104,115]) rfl rfl rfl hmap (by decide)) ?_
 clear hmap
 rintro _ w3 ⟨hmap,hT⟩
 replace hblk:=hblk.ext hT (by simp;omega)
 replace hS:=hS.own hT (fun c hc=>.inr (by simp at hc;omega))
 clear hT
 refine Z2 (Zu (a:=[99,111,117,114,116,100,97,121,115]) rfl rfl rfl hmap (by decide)) ?_
 clear hmap
 rintro _ w3 ⟨hmap,hT⟩
 replace hblk:=hblk.ext hT (by simp;omega)
 replace hS:=hS.own hT (fun c hc=>.inr (by simp at hc;omega))
 clear hT
 have hmap2:Z0N str w3 m Zf3:=hmap
 refine W ?_
 refine Zd (Z3h rfl rfl hmap2) rfl ?_
 rw [Z9L s hsu]
 refine W ?_
 have hz:=hS.size
 refine Z1 (Z0 (vs:=[(0,fnV 142),(1,fnV (Z9K s))]) rfl (Z4A _ _)) rfl ?_
 rintro bv w4 hN
 refine W ?_
 refine WR ?_
 exact .mk ⟨hN.slv (fun b hb=>by have:=hX b hb;omega) rfl rfl (by simp [maxLen]),hS.trans (Z5.stp hN)⟩
 rw [if_neg h78]
 by_cases h5:k=5
 rw [if_pos h5]
 subst h5
 have hz:=hS.size
 by_cases hs:s=[110,111,116]
 rw [if_pos hs]
 subst hs
 refine W ?_
 refine Z1 (Z0 (vs:=[(0,fnV 146)]) rfl (JC _)) rfl ?_
 rintro bv w4 hN
 refine W ?_
 refine WR ?_
 exact .mk ⟨hN.slv (fun b hb=>by have:=hX b hb;omega) rfl rfl (by simp [maxLen]),hS.trans (Z5.stp hN)⟩
 rw [if_neg hs]
 have hd:decide (s=[110,111,116])=false:=decide_eq_false hs
 refine W ?_
 rw [hd]
 refine W ?_
 refine Z1 (Z0 (vs:=[(0,fnV 142)]) rfl (JC _)) rfl ?_
 rintro bv w4 hN
 refine W ?_
 refine WR ?_
 exact .mk ⟨hN.slv (fun b hb=>by have:=hX b hb;omega) rfl rfl (by simp [maxLen]),hS.trans (Z5.stp hN)⟩
 rw [if_neg h5]
 repeat'(first|refine W1 ?_|omega|refine VG ?_ ?_<;>intro hg|refine VC ?_ ?_<;>intro hc)
 refine Z1 (Z2r str) rfl ?_
 rintro _ w2 ⟨m,rfl,hm,hmap,hS2⟩
 have hmp:Z8r X w2 m ([]:List (Str×List FId)):=⟨[],hmap,rfl,fun i h=>absurd h (Xy _)⟩
 have hml:=hmap.lt
 have hmb:b1<m:=by have:=hblk.lt;omega
 have hmw:w.heap.size≤m:=by have:=hS.size;omega
 have hXw:∀ b∈m :: X,b≤m:=fun b hb=>(Xe.1 hb).elim (fun h=>by omega) (fun h=>by have:=hX b h;omega)
 clear hmap
 replace hblk:=hblk.up hS2
 replace hS:=hS.trans hS2
 clear hS2
 refine Z1 (Z0 (vs:=[(0,fnV 139)]) rfl (JC _)) rfl ?_
 rintro bv w2 hN
 have hbv:SlV (m :: X) w2 bv [(⟨139⟩:FId)]:=hN.slv (fun b hb=>by have:=hXw b hb;omega) rfl rfl (by simp [maxLen])
 have hS2:=Z5.stp hN
 clear hN
 replace hmp:=hmp.up hS2
 have hml2:=hS2.size
 refine Z2 (Jc (a:=[43]) rfl rfl rfl hmp hbv (by decide)) ?_
 clear hmp
 rintro _ w3 ⟨hmp,hS3⟩
 have hml3:=hS3.size
 replace hml:=Xb (Xb hml hml2) hml3
 replace hblk:=(hblk.up hS2).ext hS3 (by simp;omega)
 replace hS:=(hS.trans hS2).own hS3 (fun b hb=>.inr (by simp at hb;omega))
 clear hS2 hS3 hbv hml2 hml3
 refine Z1 (Z0 (vs:=[(0,fnV 140)]) rfl (JC _)) rfl ?_
 rintro bv w2 hN
 have hbv:SlV (m :: X) w2 bv [(⟨140⟩:FId)]:=hN.slv (fun b hb=>by have:=hXw b hb;omega) rfl rfl (by simp [maxLen])
 have hS2:=Z5.stp hN
 clear hN
 replace hmp:=hmp.up hS2
 have hml2:=hS2.size
 refine Z2 (Jc (a:=[45]) rfl rfl rfl hmp hbv (by decide)) ?_
 clear hmp
 rintro _ w3 ⟨hmp,hS3⟩
 have hml3:=hS3.size
 replace hml:=Xb (Xb hml hml2) hml3
 replace hblk:=(hblk.up hS2).ext hS3 (by simp;omega)
 replace hS:=(hS.trans hS2).own hS3 (fun b hb=>.inr (by simp at hb;omega))
 clear hS2 hS3 hbv hml2 hml3
 refine Z1 (Z0 (vs:=[(0,fnV 141)]) rfl (JC _)) rfl ?_
 rintro bv w2 hN
 have hbv:SlV (m :: X) w2 bv [(⟨141⟩:FId)]:=hN.slv (fun b hb=>by have:=hXw b hb;omega) rfl rfl (by simp [maxLen])
 have hS2:=Z5.stp hN
 clear hN
 replace hmp:=hmp.up hS2
 have hml2:=hS2.size
 refine Z2 (Jc (a:=[42]) rfl rfl rfl hmp hbv (by decide)) ?_
 clear hmp
 rintro _ w3 ⟨hmp,hS3⟩
 have hml3:=hS3.size
 replace hml:=Xb (Xb hml hml2) hml3
 replace hblk:=(hblk.up hS2).ext hS3 (by simp;omega)
 replace hS:=(hS.trans hS2).own hS3 (fun b hb=>.inr (by simp at hb;omega))
 clear hS2 hS3 hbv hml2 hml3
 refine Z1 (Z0 (vs:=[(0,fnV 143)]) rfl (JC _)) rfl ?_
 rintro bv w2 hN
 have hbv:SlV (m :: X) w2 bv [(⟨143⟩:FId)]:=hN.slv (fun b hb=>by have:=hXw b hb;omega) rfl rfl (by simp [maxLen])
 have hS2:=Z5.stp hN
 clear hN
 replace hmp:=hmp.up hS2
 have hml2:=hS2.size
 refine Z2 (Jc (a:=[60]) rfl rfl rfl hmp hbv (by decide)) ?_
 clear hmp
 rintro _ w3 ⟨hmp,hS3⟩
 have hml3:=hS3.size
 replace hml:=Xb (Xb hml hml2) hml3
 replace hblk:=(hblk.up hS2).ext hS3 (by simp;omega)
 replace hS:=(hS.trans hS2).own hS3 (fun b hb=>.inr (by simp at hb;omega))
 clear hS2 hS3 hbv hml2 hml3
 refine Z1 (Z0 (vs:=[(0,fnV 144)]) rfl (JC _)) rfl ?_
 rintro bv w2 hN
 have hbv:SlV (m :: X) w2 bv [(⟨144⟩:FId)]:=hN.slv (fun b hb=>by have:=hXw b hb;omega) rfl rfl (by simp [maxLen])
 have hS2:=Z5.stp hN
 clear hN
 replace hmp:=hmp.up hS2
 have hml2:=hS2.size
 refine Z2 (Jc (a:=[60,61]) rfl rfl rfl hmp hbv (by decide)) ?_
 clear hmp
 rintro _ w3 ⟨hmp,hS3⟩
 have hml3:=hS3.size
 replace hml:=Xb (Xb hml hml2) hml3
 replace hblk:=(hblk.up hS2).ext hS3 (by simp;omega)
 replace hS:=(hS.trans hS2).own hS3 (fun b hb=>.inr (by simp at hb;omega))
 clear hS2 hS3 hbv hml2 hml3
 refine Z1 (Z0 (vs:=[(0,fnV 145)]) rfl (JC _)) rfl ?_
 rintro bv w2 hN
 have hbv:SlV (m :: X) w2 bv [(⟨145⟩:FId)]:=hN.slv (fun b hb=>by have:=hXw b hb;omega) rfl rfl (by simp [maxLen])
 have hS2:=Z5.stp hN
 clear hN
 replace hmp:=hmp.up hS2
 have hml2:=hS2.size
 refine Z2 (Jc (a:=[61]) rfl rfl rfl hmp hbv (by decide)) ?_
 clear hmp
 rintro _ w3 ⟨hmp,hS3⟩
 have hml3:=hS3.size
 replace hml:=Xb (Xb hml hml2) hml3
 replace hblk:=(hblk.up hS2).ext hS3 (by simp;omega)
 replace hS:=(hS.trans hS2).own hS3 (fun b hb=>.inr (by simp at hb;omega))
 clear hS2 hS3 hbv hml2 hml3
 refine Z1 (Z0 (vs:=[(0,fnV 144),(1,fnV 146)]) rfl (Z4A _ _)) rfl ?_
 rintro bv w2 hN
 have hbv:SlV (m :: X) w2 bv [(⟨144⟩:FId),(⟨146⟩:FId)]:=hN.slv (fun b hb=>by have:=hXw b hb;omega) rfl rfl (by simp [maxLen])
 have hS2:=Z5.stp hN
 clear hN
 replace hmp:=hmp.up hS2
 have hml2:=hS2.size
 refine Z2 (Jc (a:=[62]) rfl rfl rfl hmp hbv (by decide)) ?_
 clear hmp
 rintro _ w3 ⟨hmp,hS3⟩
 have hml3:=hS3.size
 replace hml:=Xb (Xb hml hml2) hml3
 replace hblk:=(hblk.up hS2).ext hS3 (by simp;omega)
 replace hS:=(hS.trans hS2).own hS3 (fun b hb=>.inr (by simp at hb;omega))
 clear hS2 hS3 hbv hml2 hml3
 refine Z1 (Z0 (vs:=[(0,fnV 143),(1,fnV 146)]) rfl (Z4A _ _)) rfl ?_
 rintro bv w2 hN
 have hbv:SlV (m :: X) w2 bv [(⟨143⟩:FId),(⟨146⟩:FId)]:=hN.slv (fun b hb=>by have:=hXw b hb;omega) rfl rfl (by simp [maxLen])
 have hS2:=Z5.stp hN
 clear hN
 replace hmp:=hmp.up hS2
 have hml2:=hS2.size
 refine Z2 (Jc (a:=[62,61]) rfl rfl rfl hmp hbv (by decide)) ?_
 clear hmp
 rintro _ w3 ⟨hmp,hS3⟩
 have hml3:=hS3.size
 replace hml:=Xb (Xb hml hml2) hml3
 replace hblk:=(hblk.up hS2).ext hS3 (by simp;omega)
 replace hS:=(hS.trans hS2).own hS3 (fun b hb=>.inr (by simp at hb;omega))
 clear hS2 hS3 hbv hml2 hml3
 refine Z1 (Z0 (vs:=[(0,fnV 145),(1,fnV 146)]) rfl (Z4A _ _)) rfl ?_
 rintro bv w2 hN
 have hbv:SlV (m :: X) w2 bv [(⟨145⟩:FId),(⟨146⟩:FId)]:=hN.slv (fun b hb=>by have:=hXw b hb;omega) rfl rfl (by simp [maxLen])
 have hS2:=Z5.stp hN
 clear hN
 replace hmp:=hmp.up hS2
 have hml2:=hS2.size
 refine Z2 (Jc (a:=[33,61]) rfl rfl rfl hmp hbv (by decide)) ?_
 clear hmp
 rintro _ w3 ⟨hmp,hS3⟩
 have hml3:=hS3.size
 replace hml:=Xb (Xb hml hml2) hml3
 replace hblk:=(hblk.up hS2).ext hS3 (by simp;omega)
 replace hS:=(hS.trans hS2).own hS3 (fun b hb=>.inr (by simp at hb;omega))
 clear hS2 hS3 hbv hml2 hml3
 refine Z1 (Z0 (vs:=[(0,fnV 153)]) rfl (JC _)) rfl ?_
 rintro bv w2 hN
 have hbv:SlV (m :: X) w2 bv [(⟨153⟩:FId)]:=hN.slv (fun b hb=>by have:=hXw b hb;omega) rfl rfl (by simp [maxLen])
 have hS2:=Z5.stp hN
 clear hN
 replace hmp:=hmp.up hS2
 have hml2:=hS2.size
 refine Z2 (Jc (a:=[110,101,120,116]) rfl rfl rfl hmp hbv (by decide)) ?_
 clear hmp
 rintro _ w3 ⟨hmp,hS3⟩
 have hml3:=hS3.size
 replace hml:=Xb (Xb hml hml2) hml3
 replace hblk:=(hblk.up hS2).ext hS3 (by simp;omega)
 replace hS:=(hS.trans hS2).own hS3 (fun b hb=>.inr (by simp at hb;omega))
 clear hS2 hS3 hbv hml2 hml3
 refine Z1 (Z0 (vs:=[(0,fnV 154)]) rfl (JC _)) rfl ?_
 rintro bv w2 hN
 have hbv:SlV (m :: X) w2 bv [(⟨154⟩:FId)]:=hN.slv (fun b hb=>by have:=hXw b hb;omega) rfl rfl (by simp [maxLen])
 have hS2:=Z5.stp hN
 clear hN
 replace hmp:=hmp.up hS2
 have hml2:=hS2.size
 refine Z2 (Jc (a:=[112,114,101,118]) rfl rfl rfl hmp hbv (by decide)) ?_
 clear hmp
 rintro _ w3 ⟨hmp,hS3⟩
 have hml3:=hS3.size
 replace hml:=Xb (Xb hml hml2) hml3
 replace hblk:=(hblk.up hS2).ext hS3 (by simp;omega)
 replace hS:=(hS.trans hS2).own hS3 (fun b hb=>.inr (by simp at hb;omega))
 clear hS2 hS3 hbv hml2 hml3
 refine Z1 (Z0 (vs:=[(0,fnV 155)]) rfl (JC _)) rfl ?_
 rintro bv w2 hN
 have hbv:SlV (m :: X) w2 bv [(⟨155⟩:FId)]:=hN.slv (fun b hb=>by have:=hXw b hb;omega) rfl rfl (by simp [maxLen])
 have hS2:=Z5.stp hN
 clear hN
 replace hmp:=hmp.up hS2
 have hml2:=hS2.size
 refine Z2 (Jc (a:=[108,97,116,101,114]) rfl rfl rfl hmp hbv (by decide)) ?_
 clear hmp
 rintro _ w3 ⟨hmp,hS3⟩
 have hml3:=hS3.size
 replace hml:=Xb (Xb hml hml2) hml3
 replace hblk:=(hblk.up hS2).ext hS3 (by simp;omega)
 replace hS:=(hS.trans hS2).own hS3 (fun b hb=>.inr (by simp at hb;omega))
 clear hS2 hS3 hbv hml2 hml3
 refine Z1 (Z0 (vs:=[(0,fnV 156)]) rfl (JC _)) rfl ?_
 rintro bv w2 hN
 have hbv:SlV (m :: X) w2 bv [(⟨156⟩:FId)]:=hN.slv (fun b hb=>by have:=hXw b hb;omega) rfl rfl (by simp [maxLen])
 have hS2:=Z5.stp hN
 clear hN
 replace hmp:=hmp.up hS2
 have hml2:=hS2.size
 refine Z2 (Jc (a:=[101,97,114,108,105,101,114]) rfl rfl rfl hmp hbv (by decide)) ?_
 clear hmp
 rintro _ w3 ⟨hmp,hS3⟩
 have hml3:=hS3.size
 replace hml:=Xb (Xb hml hml2) hml3
 replace hblk:=(hblk.up hS2).ext hS3 (by simp;omega)
 replace hS:=(hS.trans hS2).own hS3 (fun b hb=>.inr (by simp at hb;omega))
 clear hS2 hS3 hbv hml2 hml3
 refine Z1 (Z0 (vs:=[(0,fnV 157)]) rfl (JC _)) rfl ?_
 rintro bv w2 hN
 have hbv:SlV (m :: X) w2 bv [(⟨157⟩:FId)]:=hN.slv (fun b hb=>by have:=hXw b hb;omega) rfl rfl (by simp [maxLen])
 have hS2:=Z5.stp hN
 clear hN
 replace hmp:=hmp.up hS2
 have hml2:=hS2.size
 refine Z2 (Jc (a:=[98,101,116,119,101,101,110]) rfl rfl rfl hmp hbv (by decide)) ?_
 clear hmp
 rintro _ w3 ⟨hmp,hS3⟩
 have hml3:=hS3.size
 replace hml:=Xb (Xb hml hml2) hml3
 replace hblk:=(hblk.up hS2).ext hS3 (by simp;omega)
 replace hS:=(hS.trans hS2).own hS3 (fun b hb=>.inr (by simp at hb;omega))
 clear hS2 hS3 hbv hml2 hml3
 have hmp2:Z8r X w3 m Zo2:=hmp
 obtain ⟨l,hl,hsl⟩:=hmp2.get s
 refine W ?_
 refine Zd (Z3h rfl rfl hl) rfl ?_
 refine W ?_
 refine WR ?_
 exact .mk ⟨hsl,hS⟩
theorem Zf4 (a b c d e f g:Str) (w:World):(Instr.buildSlice 119 7 #[(0,str a),(1,str b),(2,str c),(3,str d),(4,str e),(5,str f),(6,str g)]).run Tryz.prog w=.ok (.slice (some ⟨w.heap.size,0,none⟩) 7 7) (w.alloc (.cells #[str a,str b,str c,str d,str e,str f,str g] 9)):=by kernel_rfl
theorem Zf5:∀ i,i<7→∀ j,j<i→Zt.getD j []≠Zt.getD i []:=by decide +kernel
theorem Z9M (i:Nat) (hi:i<Zt.length):Zt[i]=Zt.getD i []:=by simp [List.getD,hi]
theorem Z5v (i:Nat) (hi:i<7) (w:World):CC 111 #[str (Zt.getD i [])] w fun r w'=>r=.int .i64 (i:Int)∧Stp [] w w':=by
 have hl7:Zt.length=7:=rfl
 refine cW1 17 Tryz.func111 ?_
 refine W ?_
 refine Z1 (Z0 (vs:=[(0,str [100,97,121]),(1,str [115,101,114,118,101,100]),(2,str [101,120,116,114,97]),(3,str [98,121]),(4,str [116,111]),(5,str [99,111,117,114,116]),(6,str [97,109,111,117,110,116])]) rfl (Zf4 _ _ _ _ _ _ _)) rfl ?_
 rintro sv w1 hN
 have hsv:SlV [] w1 sv Zt:=hN.slv (by simp) rfl rfl (by simp [maxLen,hl7])
 have hS:=Z5.stp hN
 clear hN
 refine W ?_
 refine Zr (σ:=Nat) (fun q=>[(0,str (Zt.getD i [])),(5,sv),(6,.int .i64 (Zt.length:Int)),(7,.int .i64 (q:Int))]) (fun q w'=>q≤i∧w'=w1) (fun q=>7 - q) 0 ⟨rfl,rfl,rfl,rfl,trivial⟩ ⟨Xo _,rfl⟩ ?_
 rintro q _ ⟨hq,rfl⟩
 have hql:q<Zt.length:=by omega
 have hqi:(q:Int)<(Zt.length:Int):=by omega
 by_cases hqe:q=i
 subst hqe
 focus repeat'(first|refine W1 ?_|omega|refine VG ?_ ?_<;>intro hg|refine VC ?_ ?_<;>intro hc)
 refine WR ?_
 exact .mk ⟨rfl,hS⟩
 rename_i hc
 exact absurd (Z9M q hql) hc
 focus repeat'(first|refine W1 ?_|omega|refine VG ?_ ?_<;>intro hg|refine VC ?_ ?_<;>intro hc)
 rename_i hc
 exact absurd ((Z9M q hql).symm.trans hc) (Zf5 i hi q (by omega))
 exact Zg (q+1) ⟨rfl,rfl,rfl,rfl,trivial⟩ ⟨by omega,rfl⟩ (by omega)
theorem Z8t {P:Program} {n:Nat} {o:Oper} {e:Env} {w:World} {v:Value} (hp:PR P n o e w v):OE P n o e w (fun u w'=>u=v∧w'=w):=Z07 (fun a ha=>hp.h a ha) ⟨rfl,rfl⟩
def MK.keep (K:MK) (b:Nat) (o:Obj):MK:={ K with pr:=(b,o) :: K.pr }
section
variable {K:MK} {w w':World} {sv pv:Value} {st:List Int} {sp:List Spn} {at_ er:Int} {dn:Bool} {b:Nat} {o:Obj}
theorem KOk.keep (h:KOk K):KOk (K.keep b o):=⟨h.hols,h.clos,h.ozo,h.ozs,h.ohr,h.len,h.mov,h.bml,h.nkl,h.gl,h.cal,h.ev⟩
theorem Mch.keep (h:Mch K w sv pv st sp at_ er dn) (hb:w.heap[b]?=some o) (h1:b∉K.own) (h2:b∉ob sv) (h3:b∉ob pv):Mch (K.keep b o) w sv pv st sp at_ er dn:=
 ⟨h.blk, h.row, h.nt, h.nt0, h.ap, h.stp, fun p hp => by
   rcases Xe.1 hp with rfl|hp
   exact ⟨hb,h1,h2,h3⟩
   exact h.prot p hp⟩
theorem Mch.unkeep (h:Mch (K.keep b o) w sv pv st sp at_ er dn):Mch K w sv pv st sp at_ er dn:=
 ⟨h.blk,h.row,h.nt,h.nt0,h.ap,h.stp,fun p hp=>h.prot p (XV _ hp)⟩
theorem Mch.kept (h:Mch (K.keep b o) w sv pv st sp at_ er dn):w.heap[b]?=some o:=(h.prot (b,o) YaZ).1
theorem Mch.nosp (hk:K.nk=none) (h:Mch K w sv pv st sp at_ er dn) {sp':List Spn}:Mch K w sv pv st sp' at_ er dn:=
 ⟨h.blk,h.row,(fun bs hb=>by rw [hk] at hb;cases hb),h.nt0,h.ap,h.stp,h.prot⟩
def Z0j (K:MK) (w:World) (st:List Int) (at_:Int) (r:Int×Int):Prop:=∃ sv pv st2,Mch K w sv pv st2 [] at_ r.2 (decide (¬ r.2=0))∧(r.2=0→st2=st++[r.1])
theorem Z0j.un {r:Int×Int} (h:Z0j (K.keep b o) w st at_ r):Z0j K w st at_ r:=by
 obtain ⟨sv,pv,st2,h1,h2⟩:=h
 exact ⟨sv,pv,st2,h1.unkeep,h2⟩
theorem Res.toE {r:Int×Int} (hk:K.nk=none) (h:Res K w st sp at_ r):Z0j K w st at_ r:=by
 obtain ⟨sv,pv,st2,sp2,h1,h2⟩:=h
 exact ⟨sv,pv,st2,h1.nosp hk,fun h0=>(h2 h0).1⟩
theorem Z0j.go {r:Int×Int} (h:Z0j K w st at_ r) (he:r.2=0):∃ sv pv,Mch K w sv pv (st++[r.1]) [] at_ 0 false:=by
 obtain ⟨sv,pv,st2,h1,h2⟩:=h
 have:=h2 he
 subst this
 rw [he] at h1
 exact ⟨sv,pv,h1⟩
theorem Z0j.stop {r:Int×Int} (h:Z0j K w st at_ r) (he:¬ r.2=0):∃ sv pv st2,Mch K w sv pv st2 [] at_ r.2 true:=by
 obtain ⟨sv,pv,st2,h1,h2⟩:=h
 have hd:decide (¬ r.2=0)=true:=decide_eq_true he
 rw [hd] at h1
 exact ⟨sv,pv,st2,h1⟩
theorem Z0j.of {v e:Int} (he:¬ e=0) {st2:List Int} (h:Mch K w sv pv st2 [] at_ e true):Z0j K w st at_ (v,e):=by
 have hd:decide (¬ e=0)=true:=decide_eq_true he
 refine ⟨sv,pv,st2,?_,fun h0=>absurd h0 he⟩
 dsimp only
 rw [hd]
 exact h
end
theorem Zhq {X:List Nat} {w0 w:World} {v:Value} {l:List Nd} {i:Nat} (h:SlV X w0 v l) (hi:i<l.length) (hS:Stp X w0 w) :
 ∃ kv,SlV X w0 kv l[i].kids∧∀ w',Stp X w0 w'→∀ j u,[Value.int .i64 l[i].kind,.int .i64 l[i].num,str l[i].word,kv][j]?=some u→w'.cell? (Zz v i 4 j)=some u:=by
 obtain ⟨kv,h1,h2⟩:=h.nd hi
 refine ⟨kv,h1,fun w' hS' j u hu=>?_⟩
 have hc:=h2 j u hu
 obtain ⟨p,c,rfl,hl,hm,hn,hcell⟩:=id h
 obtain ⟨b,o,cs,rfl,hb,hx,-⟩:=hcell i hi
 exact hS'.cell hx hc
def OVR (r:Z86):Prop:=(Z8s r.k r.s).length=r.L.length∧(r.k=7∨r.k=8→r.s∈JI)∧∀ i,i<r.L.length→((Z8s r.k r.s).map fun x=>fnV x.f)[i]?=some (Z4H Z8m (r.L.getD i 0) .nilFunc)
theorem ZqH:OVR ⟨5,[45],[1],1,[8]⟩:=by
 refine ⟨by kernel_rfl,fun h=>by exfalso;revert h;decide,fun i hi=>?_⟩
 obtain rfl:i=0:=by have:i<1:=hi;omega
 kernel_rfl
theorem ZqI:OVR ⟨5,[110,111,116],[2],2,[12]⟩:=by
 refine ⟨by kernel_rfl,fun h=>by exfalso;revert h;decide,fun i hi=>?_⟩
 obtain rfl:i=0:=by have:i<1:=hi;omega
 kernel_rfl
theorem ZqJ:OVR ⟨10,[110,101,120,116],[3],3,[19]⟩:=by
 refine ⟨by kernel_rfl,fun h=>by exfalso;revert h;decide,fun i hi=>?_⟩
 obtain rfl:i=0:=by have:i<1:=hi;omega
 kernel_rfl
theorem ZqK:OVR ⟨10,[112,114,101,118],[3],3,[20]⟩:=by
 refine ⟨by kernel_rfl,fun h=>by exfalso;revert h;decide,fun i hi=>?_⟩
 obtain rfl:i=0:=by have:i<1:=hi;omega
 kernel_rfl
theorem ZqL:OVR ⟨10,[108,97,116,101,114],[3,3],3,[21]⟩:=by
 refine ⟨by kernel_rfl,fun h=>by exfalso;revert h;decide,fun i hi=>?_⟩
 obtain rfl:i=0:=by have:i<1:=hi;omega
 kernel_rfl
theorem ZqM:OVR ⟨10,[101,97,114,108,105,101,114],[3,3],3,[22]⟩:=by
 refine ⟨by kernel_rfl,fun h=>by exfalso;revert h;decide,fun i hi=>?_⟩
 obtain rfl:i=0:=by have:i<1:=hi;omega
 kernel_rfl
theorem ZqN:OVR ⟨10,[98,101,116,119,101,101,110],[3,3],1,[23]⟩:=by
 refine ⟨by kernel_rfl,fun h=>by exfalso;revert h;decide,fun i hi=>?_⟩
 obtain rfl:i=0:=by have:i<1:=hi;omega
 kernel_rfl
theorem ZqO:OVR ⟨7,[100,97,121,115],[3,1],3,[15]⟩:=by
 refine ⟨by kernel_rfl,fun _=>by decide +kernel,fun i hi=>?_⟩
 obtain rfl:i=0:=by have:i<1:=hi;omega
 kernel_rfl
theorem ZqP:OVR ⟨7,[119,101,101,107,115],[3,1],3,[16]⟩:=by
 refine ⟨by kernel_rfl,fun _=>by decide +kernel,fun i hi=>?_⟩
 obtain rfl:i=0:=by have:i<1:=hi;omega
 kernel_rfl
theorem ZqQ:OVR ⟨7,[109,111,110,116,104,115],[3,1],3,[17]⟩:=by
 refine ⟨by kernel_rfl,fun _=>by decide +kernel,fun i hi=>?_⟩
 obtain rfl:i=0:=by have:i<1:=hi;omega
 kernel_rfl
theorem Zo3:OVR ⟨7,[99,111,117,114,116,100,97,121,115],[3,1],3,[18]⟩:=by
 refine ⟨by kernel_rfl,fun _=>by decide +kernel,fun i hi=>?_⟩
 obtain rfl:i=0:=by have:i<1:=hi;omega
 kernel_rfl
theorem Zo4:OVR ⟨8,[100,97,121,115],[3,1],3,[8,15]⟩:=by
 refine ⟨by kernel_rfl,fun _=>by decide +kernel,fun i hi=>?_⟩
 have hi2:i=0∨i=1:=by have:i<2:=hi;omega
 rcases hi2 with rfl|rfl
 show _=_
 kernel_rfl
 show _=_
 kernel_rfl
theorem Zo5:OVR ⟨8,[119,101,101,107,115],[3,1],3,[8,16]⟩:=by
 refine ⟨by kernel_rfl,fun _=>by decide +kernel,fun i hi=>?_⟩
 have hi2:i=0∨i=1:=by have:i<2:=hi;omega
 rcases hi2 with rfl|rfl
 show _=_
 kernel_rfl
 show _=_
 kernel_rfl
theorem Zo6:OVR ⟨8,[109,111,110,116,104,115],[3,1],3,[8,17]⟩:=by
 refine ⟨by kernel_rfl,fun _=>by decide +kernel,fun i hi=>?_⟩
 have hi2:i=0∨i=1:=by have:i<2:=hi;omega
 rcases hi2 with rfl|rfl
 show _=_
 kernel_rfl
 show _=_
 kernel_rfl
theorem Zo7:OVR ⟨8,[99,111,117,114,116,100,97,121,115],[3,1],3,[8,18]⟩:=by
 refine ⟨by kernel_rfl,fun _=>by decide +kernel,fun i hi=>?_⟩
 have hi2:i=0∨i=1:=by have:i<2:=hi;omega
 rcases hi2 with rfl|rfl
 show _=_
 kernel_rfl
 show _=_
 kernel_rfl
theorem Zo8:OVR ⟨6,[43],[1,1],1,[5]⟩:=by
 refine ⟨by kernel_rfl,fun h=>by exfalso;revert h;decide,fun i hi=>?_⟩
 obtain rfl:i=0:=by have:i<1:=hi;omega
 kernel_rfl
theorem Zo9:OVR ⟨6,[45],[1,1],1,[6]⟩:=by
 refine ⟨by kernel_rfl,fun h=>by exfalso;revert h;decide,fun i hi=>?_⟩
 obtain rfl:i=0:=by have:i<1:=hi;omega
 kernel_rfl
theorem Zoa:OVR ⟨6,[42],[1,1],1,[7]⟩:=by
 refine ⟨by kernel_rfl,fun h=>by exfalso;revert h;decide,fun i hi=>?_⟩
 obtain rfl:i=0:=by have:i<1:=hi;omega
 kernel_rfl
theorem Zob:OVR ⟨6,[60],[1,1],2,[9]⟩:=by
 refine ⟨by kernel_rfl,fun h=>by exfalso;revert h;decide,fun i hi=>?_⟩
 obtain rfl:i=0:=by have:i<1:=hi;omega
 kernel_rfl
theorem Zoc:OVR ⟨6,[60,61],[1,1],2,[10]⟩:=by
 refine ⟨by kernel_rfl,fun h=>by exfalso;revert h;decide,fun i hi=>?_⟩
 obtain rfl:i=0:=by have:i<1:=hi;omega
 kernel_rfl
theorem Zod:OVR ⟨6,[61],[1,1],2,[11]⟩:=by
 refine ⟨by kernel_rfl,fun h=>by exfalso;revert h;decide,fun i hi=>?_⟩
 obtain rfl:i=0:=by have:i<1:=hi;omega
 kernel_rfl
theorem Zoe:OVR ⟨6,[33,61],[1,1],2,[11,12]⟩:=by
 refine ⟨by kernel_rfl,fun h=>by exfalso;revert h;decide,fun i hi=>?_⟩
 have hi2:i=0∨i=1:=by have:i<2:=hi;omega
 rcases hi2 with rfl|rfl
 show _=_
 kernel_rfl
 show _=_
 kernel_rfl
theorem Zof:OVR ⟨6,[62],[1,1],2,[10,12]⟩:=by
 refine ⟨by kernel_rfl,fun h=>by exfalso;revert h;decide,fun i hi=>?_⟩
 have hi2:i=0∨i=1:=by have:i<2:=hi;omega
 rcases hi2 with rfl|rfl
 show _=_
 kernel_rfl
 show _=_
 kernel_rfl
theorem Zog:OVR ⟨6,[62,61],[1,1],2,[9,12]⟩:=by
 refine ⟨by kernel_rfl,fun h=>by exfalso;revert h;decide,fun i hi=>?_⟩
 have hi2:i=0∨i=1:=by have:i<2:=hi;omega
 rcases hi2 with rfl|rfl
 show _=_
 kernel_rfl
 show _=_
 kernel_rfl
theorem Zoh:OVR ⟨6,[60],[3,3],2,[9]⟩:=by
 refine ⟨by kernel_rfl,fun h=>by exfalso;revert h;decide,fun i hi=>?_⟩
 obtain rfl:i=0:=by have:i<1:=hi;omega
 kernel_rfl
theorem Zoi:OVR ⟨6,[60,61],[3,3],2,[10]⟩:=by
 refine ⟨by kernel_rfl,fun h=>by exfalso;revert h;decide,fun i hi=>?_⟩
 obtain rfl:i=0:=by have:i<1:=hi;omega
 kernel_rfl
theorem Zoj:OVR ⟨6,[61],[3,3],2,[11]⟩:=by
 refine ⟨by kernel_rfl,fun h=>by exfalso;revert h;decide,fun i hi=>?_⟩
 obtain rfl:i=0:=by have:i<1:=hi;omega
 kernel_rfl
theorem Zok:OVR ⟨6,[33,61],[3,3],2,[11,12]⟩:=by
 refine ⟨by kernel_rfl,fun h=>by exfalso;revert h;decide,fun i hi=>?_⟩
 have hi2:i=0∨i=1:=by have:i<2:=hi;omega
 rcases hi2 with rfl|rfl
 show _=_
 kernel_rfl
 show _=_
 kernel_rfl
theorem Zol:OVR ⟨6,[62],[3,3],2,[10,12]⟩:=by
 refine ⟨by kernel_rfl,fun h=>by exfalso;revert h;decide,fun i hi=>?_⟩
 have hi2:i=0∨i=1:=by have:i<2:=hi;omega
 rcases hi2 with rfl|rfl
 show _=_
 kernel_rfl
 show _=_
 kernel_rfl
theorem Zom:OVR ⟨6,[62,61],[3,3],2,[9,12]⟩:=by
 refine ⟨by kernel_rfl,fun h=>by exfalso;revert h;decide,fun i hi=>?_⟩
 have hi2:i=0∨i=1:=by have:i<2:=hi;omega
 rcases hi2 with rfl|rfl
 show _=_
 kernel_rfl
 show _=_
 kernel_rfl
theorem Zf6:∀ r∈Z2e,OVR r:=by
 unfold Z2e
 refine Xa.2 ⟨ZqH,?_⟩
 refine Xa.2 ⟨ZqI,?_⟩
 refine Xa.2 ⟨ZqJ,?_⟩
 refine Xa.2 ⟨ZqK,?_⟩
 refine Xa.2 ⟨ZqL,?_⟩
 refine Xa.2 ⟨ZqM,?_⟩
 refine Xa.2 ⟨ZqN,?_⟩
 refine Xa.2 ⟨ZqO,?_⟩
 refine Xa.2 ⟨ZqP,?_⟩
 refine Xa.2 ⟨ZqQ,?_⟩
 refine Xa.2 ⟨Zo3,?_⟩
 refine Xa.2 ⟨Zo4,?_⟩
 refine Xa.2 ⟨Zo5,?_⟩
 refine Xa.2 ⟨Zo6,?_⟩
 refine Xa.2 ⟨Zo7,?_⟩
 refine Xa.2 ⟨Zo8,?_⟩
 refine Xa.2 ⟨Zo9,?_⟩
 refine Xa.2 ⟨Zoa,?_⟩
 refine Xa.2 ⟨Zob,?_⟩
 refine Xa.2 ⟨Zoc,?_⟩
 refine Xa.2 ⟨Zod,?_⟩
 refine Xa.2 ⟨Zoe,?_⟩
 refine Xa.2 ⟨Zof,?_⟩
 refine Xa.2 ⟨Zog,?_⟩
 refine Xa.2 ⟨Zoh,?_⟩
 refine Xa.2 ⟨Zoi,?_⟩
 refine Xa.2 ⟨Zoj,?_⟩
 refine Xa.2 ⟨Zok,?_⟩
 refine Xa.2 ⟨Zol,?_⟩
 refine Xa.2 ⟨Zom,?_⟩
 intro r h
 cases h
def Jl (x:Nd):Prop:=∀ (K:MK) (nv:Value) (w:World) (sv pv:Value) (st:List Int) (s:Shp) (at_:Int),KOk K→K.nk=none→NdV K.own K.w0 nv x→Zf x≠0→Mch K w sv pv st [] at_ 0 false→Jo s st→s.length+Zp x≤16→
 CC 58 #[mP K,nv] w fun r w'=>r=.tuple #[]∧Z0j K w' st at_ (Zc (Zj K.c K.kn) K.ev x)
abbrev ndO (k n:Int) (s:Str) (kv:Value):Obj:=.cells [.int .i64 k,.int .i64 n,str s,kv].toArray 27
theorem Jl.kid {l:List Nd} {K:MK} {kv:Value} (hK:KOk K) (hk:K.nk=none) (hs:SlV K.own K.w0 kv l) {i:Nat} (hi:i<l.length) (ih:Jl l[i]) (ht:Zf l[i]≠0) :
 ∃ kv2 : Value, (∀ w', Stp K.own K.w0 w' → ∀ j u, [Value.int .i64 l[i].kind, .int .i64 l[i].num, str l[i].word, kv2][j]? = some u → w'.cell? (Zz kv i 4 j) = some u)∧
   ∀ (w : World) (sv pv : Value) (st : List Int) (s : Shp) (at_ : Int), Mch K w sv pv st [] at_ 0 false → Jo s st → s.length + Zp l[i] ≤ 16→
     CC 58 #[mP K,.agg #[.int .i64 l[i].kind,.int .i64 l[i].num,str l[i].word,kv2]] w fun r w'=>r=.tuple #[]∧Z0j K w' st at_ (Zc (Zj K.c K.kn) K.ev l[i]):=by
 obtain ⟨kv2,h1,h2⟩:=Zhq hs hi (Stp.refl _ _)
 exact ⟨kv2,h2,fun w sv pv st s at_ hM hst hb=>ih K _ w sv pv st s at_ hK hk ⟨kv2,rfl,h1⟩ ht hM hst hb⟩
set_option maxHeartbeats 1000000 in
theorem ZcP {k n:Int} {s:Str} (hlf:Zl3 k n s (Zf (.mk k n s []))):Jl (.mk k n s []):=by
 intro K nv w sv pv st sh at_ hK hk hx ht hM hst hb
 obtain ⟨kv,rfl,hs⟩:=hx
 have hev2:Zc (Zj K.c K.kn) K.ev (.mk k n s [])=Zq (Zj K.c K.kn) K.ev k n s []:=Z2d _ _ _
 have hl:st.length≤100000:=by rw [← hst.1];omega
 simp only [Nd.kind,Nd.num,Nd.word]
 rw [hev2]
 refine cW2 132 Tryz.func58 ?_
 refine W ?_
 refine Z1 (Zo rfl) rfl ?_
 rintro _ w1 ⟨b3,rfl,hb3,hblk,hS⟩
 replace hblk:Blk w1 b3 27 [.int .i64 k,.int .i64 n,str s,kv]:=hblk
 replace hM:=hM.up hS
 rcases hlf with ⟨hk3,-,hv⟩|⟨rfl,i,hi,rfl,hf,-⟩
 · have e:Zq (Zj K.c K.kn) K.ev k n s []=(n,0):=by unfold Zq;rw [if_pos hk3]
   rw [e]
   rcases hk3 with rfl|rfl|rfl
   all_goals
    refine W ?_
    refine CL rfl (Zb rfl rfl) rfl (ZeG hK hM hl n) ?_
    rintro _ w2 ⟨rfl,hres⟩
    refine W ?_
    refine WR ?_
    exact .mk ⟨rfl,hres.toE hk⟩
 have e:Zq (Zj K.c K.kn) K.ev 4 n (Zt.getD i []) []=Z4W K.ev (i:Int):=by
  unfold Zq
  rw [if_neg (by decide),if_pos rfl,hf]
 rw [e]
 refine W ?_
 refine CL rfl (Zm rfl) rfl (Z5v i hi _) ?_
 rintro _ w2 ⟨rfl,hS2⟩
 replace hM:=hM.up hS2
 refine W ?_
 refine CL rfl (Zb rfl rfl) rfl (ZeJ hK hM hl (i:Int) (by omega) (by omega)) ?_
 rintro _ w3 ⟨rfl,hres⟩
 refine W ?_
 refine WR ?_
 exact .mk ⟨rfl,hres.toE hk⟩
set_option maxHeartbeats 2000000 in
theorem Zh2 {n:Int} {s:Str} {a b c:Nd} (iha:Jl a) (ihb:Jl b) (ihc:Jl c) (ta:Zf a=2) (tb:Zf b≠0) (tc:Zf c≠0):Jl (.mk 9 n s [a,b,c]):=by
 intro K0 nv w sv pv st sh at_ hK0 hk0 hx ht hM hst hb
 obtain ⟨kv,rfl,hs⟩:=hx
 have na:Zp a<Zp (.mk 9 n s [a,b,c]):=Z0y (x:=.mk 9 n s [a,b,c]) (by simp [Nd.kids])
 have nb:Zp b<Zp (.mk 9 n s [a,b,c]):=Z0y (x:=.mk 9 n s [a,b,c]) (by simp [Nd.kids])
 have nc:Zp c<Zp (.mk 9 n s [a,b,c]):=Z0y (x:=.mk 9 n s [a,b,c]) (by simp [Nd.kids])
 have hev2:∀ opn ev,Zc opn ev (.mk 9 n s [a,b,c])=Zq opn ev 9 n s [Zc opn ev a,Zc opn ev b,Zc opn ev c]:=fun opn ev=>Z2d _ _ _
 simp only [Nd.kind,Nd.num,Nd.word,Nd.kids] at hs ⊢
 have hbm:=hM.blk.lt
 have hobs:=fun x hx=>(hM.row.ob_le x hx).2
 have hpv:=hM.nt0 hk0
 have howl:∀ x∈K0.own,x<w.heap.size:=fun x hx=>Xb (Mch.own_lt hK0 x hx) hM.stp.size
 refine cW2 132 Tryz.func58 ?_
 refine W ?_
 refine Z1 (Zo rfl) rfl ?_
 rintro _ w1 ⟨b3,rfl,hb3,hblk,hS⟩
 replace hblk:w1.heap[b3]?=some (ndO 9 n s kv):=hblk
 replace hM:=(hM.up hS).keep hblk (fun h=>by have:=howl _ h;omega) (fun h=>by have:=hobs _ h;omega) (by rw [hpv];simp [ob])
 have hK:=hK0.keep (b:=b3) (o:=ndO 9 n s kv)
 have e0:K0.bm=(K0.keep b3 (ndO 9 n s kv)).bm:=rfl
 rw [show mP K0=mP (K0.keep b3 (ndO 9 n s kv)) from rfl]
 have hs':SlV (K0.keep b3 (ndO 9 n s kv)).own (K0.keep b3 (ndO 9 n s kv)).w0 kv [a,b,c]:=hs
 have hk:(K0.keep b3 (ndO 9 n s kv)).nk=none:=hk0
 have hun:∀ w' r,Z0j (K0.keep b3 (ndO 9 n s kv)) w' st at_ r→Z0j K0 w' st at_ r:=fun w' r h=>h.un
 have hcE:K0.c=(K0.keep b3 (ndO 9 n s kv)).c:=rfl
 have hkE:K0.kn=(K0.keep b3 (ndO 9 n s kv)).kn:=rfl
 have heE:K0.ev=(K0.keep b3 (ndO 9 n s kv)).ev:=rfl
 rw [hcE,hkE,heE]
 have hkept:∀ {w:World} {sv pv:Value} {st:List Int} {sp:List Spn} {at_ er:Int} {dn:Bool},Mch (K0.keep b3 (ndO 9 n s kv)) w sv pv st sp at_ er dn→Blk w b3 27 [.int .i64 9,.int .i64 n,str s,kv]:=fun h=>h.kept
 have hne:b3≠(K0.keep b3 (ndO 9 n s kv)).bm:=by show b3≠K0.bm;omega
 generalize K0.keep b3 (ndO 9 n s kv)=K at *
 clear e0 hs hK0 hk0 howl hcE hkE heE
 generalize hopn:Zj K.c K.kn=opn
 generalize hevv:K.ev=ev
 have l0:0 < [a,b,c].length:=by simp
 have l1:1 < [a,b,c].length:=by simp
 have l2:2 < [a,b,c].length:=by simp
 obtain ⟨ka,ca,da⟩:=Jl.kid hK hk hs' l0 iha (by show Zf a≠0;omega)
 obtain ⟨kb,cb,db⟩:=Jl.kid hK hk hs' l1 ihb tb
 obtain ⟨kc,cc,dc⟩:=Jl.kid hK hk hs' l2 ihc tc
 rw [hopn,hevv] at da db dc
 have hblkN:=hkept hM
 have hsl:=hs'.ext (X':=[]) hM.stp (fun b hb=>hb) (by simp)
 refine W ?_
 apply Zd (ZU rfl rfl hsl l0 (ca _ hM.stp)) rfl
 refine CL rfl (Zb rfl rfl) rfl (da _ _ _ _ _ _ hM hst (by show sh.length+Zp a≤16;omega)) ?_
 rintro _ w2 ⟨rfl,hres⟩
 change Z0j K w2 st at_ (Zc opn ev a) at hres
 have e9:Zq opn ev 9 n s [Zc opn ev a,Zc opn ev b,Zc opn ev c]=if ¬ (Zc opn ev a).2=0 then (0,(Zc opn ev a).2) else [Zc opn ev a,Zc opn ev b,Zc opn ev c].getD (2 - (Zc opn ev a).1).toNat (0,0):=by
  unfold Zq
  rw [if_neg (by decide),if_neg (by decide)]
  simp only [Xz]
  rfl
 rw [hev2,e9]
 by_cases he:(Zc opn ev a).2=0
 rw [if_neg (fun h=>h he)]
 obtain ⟨sv1,pv1,hM1⟩:=hres.go he
 have hva:=Z35 opn ev (by rw [← hevv];exact hK.ev) a (by omega) he
 rw [ta] at hva
 have hblkM:=hM1.blk
 have hblkN1:=hkept hM1
 unfold Z14 at hblkM
 refine W ?_
 generalize (Zc opn ev a).1=v at hva hM1 ⊢
 have hv01:v=0∨v=1:=hva.b
 rcases hv01 with rfl|rfl
 refine Z1A 9 [K.bm] [8] rfl mixed (fun w3 hS3=>?_)
 replace hM1:=hM1.up hS3
 have hblkN3:=hkept hM1
 refine J7 0 rfl trivial (fun w'=>ZQ rfl) rfl (by kernel_rfl) (by kernel_rfl) ?_
 refine J7 1 rfl trivial (fun w'=>Jy rfl) rfl (by kernel_rfl) (by kernel_rfl) ?_
 refine J7 3 rfl trivial (fun w'=>ZQ rfl) rfl (by kernel_rfl) (by kernel_rfl) ?_
 refine Z0U 2 4 (by kernel_rfl) ?_ ?_
 refine ZW rfl trivial (Z8t (Jq rfl rfl hblkN3 rfl)) (fun _ _ h=>by rw [h.2];exact Stp.refl _ _) rfl ?_
 rintro u wx ⟨hu,hw⟩
 rw [hu,hw]
 clear hu hw
 refine Z2i [(4,2),(5,0),(6,0),(7,1),(8,2)] (by kernel_rfl) (by kernel_rfl) (by kernel_rfl) ?_
 refine Za rfl trivial (Z4 rfl (Zm rfl) (Z2h hK hM1)) (fun _ _ h=>h.2.2) rfl ?_
 rintro _ w4 ⟨rfl,⟨sv4,hM4⟩,hS4⟩
 refine Z0J rfl (Za6 trivial rfl rfl (by unfold I64;omega) rfl ?_)
 refine Z0J rfl (Z0M (i:=2) trivial rfl hsl rfl (by rfl) l2 rfl ?_)
 have hT4:∀ w',Stp [K.bm] w4 w'→Stp K.own K.w0 w':=fun w' hS'=>hM4.stp.trans (hS'.mono (by simp [MK.own]))
 refine ZZ rfl trivial (fun w' hS'=>ZU rfl rfl (hs'.ext (X':=[]) (hT4 w' hS') (fun b hb=>hb) (by simp)) l2 (cc _ (hT4 w' hS'))) rfl ?_
 refine Z5B rfl trivial (Z4 rfl (Zb rfl rfl) (dc _ _ _ _ _ _ hM4 hst (by show sh.length+Zp c≤16;omega))) rfl rfl ?_
 rintro _ w6 ⟨rfl,hres6⟩
 refine Z3G ?_
 refine W ?_
 refine WR ?_
 exact .mk ⟨rfl,hun _ _ hres6⟩
 refine ZW rfl trivial (Z4 rfl (Zm rfl) (Z2h hK hM1)) (fun _ _ h=>h.2.2) rfl ?_
 rintro _ w4 ⟨rfl,⟨sv4,hM4⟩,hS4⟩
 have hblkN4:=hkept hM4
 refine J7 5 rfl trivial (fun w'=>Z2M rfl rfl (by unfold I64;omega)) rfl (by kernel_rfl) (by kernel_rfl) ?_
 refine Z2i [(2,2),(6,0),(7,1),(8,2)] (by kernel_rfl) (by kernel_rfl) (by kernel_rfl) ?_
 refine Za rfl trivial (Z8t (Jq rfl rfl hblkN4 rfl)) (fun _ _ h=>by rw [h.2];exact Stp.refl _ _) rfl ?_
 rintro u wx ⟨hu,hw⟩
 rw [hu,hw]
 clear hu hw
 refine Z0J rfl (Z0M (i:=2) trivial rfl hsl rfl (by rfl) l2 rfl ?_)
 have hT4:∀ w',Stp [K.bm] w4 w'→Stp K.own K.w0 w':=fun w' hS'=>hM4.stp.trans (hS'.mono (by simp [MK.own]))
 refine ZZ rfl trivial (fun w' hS'=>ZU rfl rfl (hs'.ext (X':=[]) (hT4 w' hS') (fun b hb=>hb) (by simp)) l2 (cc _ (hT4 w' hS'))) rfl ?_
 refine Z5B rfl trivial (Z4 rfl (Zb rfl rfl) (dc _ _ _ _ _ _ hM4 hst (by show sh.length+Zp c≤16;omega))) rfl rfl ?_
 rintro _ w6 ⟨rfl,hres6⟩
 refine Z3G ?_
 refine W ?_
 refine WR ?_
 exact .mk ⟨rfl,hun _ _ hres6⟩
 refine Z1A 9 [K.bm] [8] rfl mixed (fun w3 hS3=>?_)
 replace hM1:=hM1.up hS3
 have hblkN3:=hkept hM1
 refine J7 0 rfl trivial (fun w'=>ZQ rfl) rfl (by kernel_rfl) (by kernel_rfl) ?_
 refine J7 1 rfl trivial (fun w'=>Jy rfl) rfl (by kernel_rfl) (by kernel_rfl) ?_
 refine J7 3 rfl trivial (fun w'=>ZQ rfl) rfl (by kernel_rfl) (by kernel_rfl) ?_
 refine Z0U 2 4 (by kernel_rfl) ?_ ?_
 refine ZW rfl trivial (Z8t (Jq rfl rfl hblkN3 rfl)) (fun _ _ h=>by rw [h.2];exact Stp.refl _ _) rfl ?_
 rintro u wx ⟨hu,hw⟩
 rw [hu,hw]
 clear hu hw
 refine Z2i [(4,2),(5,0),(6,0),(7,1),(8,2)] (by kernel_rfl) (by kernel_rfl) (by kernel_rfl) ?_
 refine Za rfl trivial (Z4 rfl (Zm rfl) (Z2h hK hM1)) (fun _ _ h=>h.2.2) rfl ?_
 rintro _ w4 ⟨rfl,⟨sv4,hM4⟩,hS4⟩
 refine Z0J rfl (Za6 trivial rfl rfl (by unfold I64;omega) rfl ?_)
 refine Z0J rfl (Z0M (i:=1) trivial rfl hsl rfl (by rfl) l1 rfl ?_)
 have hT4:∀ w',Stp [K.bm] w4 w'→Stp K.own K.w0 w':=fun w' hS'=>hM4.stp.trans (hS'.mono (by simp [MK.own]))
 refine ZZ rfl trivial (fun w' hS'=>ZU rfl rfl (hs'.ext (X':=[]) (hT4 w' hS') (fun b hb=>hb) (by simp)) l1 (cb _ (hT4 w' hS'))) rfl ?_
 refine Z5B rfl trivial (Z4 rfl (Zb rfl rfl) (db _ _ _ _ _ _ hM4 hst (by show sh.length+Zp b≤16;omega))) rfl rfl ?_
 rintro _ w6 ⟨rfl,hres6⟩
 refine Z3G ?_
 refine W ?_
 refine WR ?_
 exact .mk ⟨rfl,hun _ _ hres6⟩
 refine ZW rfl trivial (Z4 rfl (Zm rfl) (Z2h hK hM1)) (fun _ _ h=>h.2.2) rfl ?_
 rintro _ w4 ⟨rfl,⟨sv4,hM4⟩,hS4⟩
 have hblkN4:=hkept hM4
 refine J7 5 rfl trivial (fun w'=>Z2M rfl rfl (by unfold I64;omega)) rfl (by kernel_rfl) (by kernel_rfl) ?_
 refine Z2i [(2,2),(6,0),(7,1),(8,2)] (by kernel_rfl) (by kernel_rfl) (by kernel_rfl) ?_
 refine Za rfl trivial (Z8t (Jq rfl rfl hblkN4 rfl)) (fun _ _ h=>by rw [h.2];exact Stp.refl _ _) rfl ?_
 rintro u wx ⟨hu,hw⟩
 rw [hu,hw]
 clear hu hw
 refine Z0J rfl (Z0M (i:=1) trivial rfl hsl rfl (by rfl) l1 rfl ?_)
 have hT4:∀ w',Stp [K.bm] w4 w'→Stp K.own K.w0 w':=fun w' hS'=>hM4.stp.trans (hS'.mono (by simp [MK.own]))
 refine ZZ rfl trivial (fun w' hS'=>ZU rfl rfl (hs'.ext (X':=[]) (hT4 w' hS') (fun b hb=>hb) (by simp)) l1 (cb _ (hT4 w' hS'))) rfl ?_
 refine Z5B rfl trivial (Z4 rfl (Zb rfl rfl) (db _ _ _ _ _ _ hM4 hst (by show sh.length+Zp b≤16;omega))) rfl rfl ?_
 rintro _ w6 ⟨rfl,hres6⟩
 refine Z3G ?_
 refine W ?_
 refine WR ?_
 exact .mk ⟨rfl,hun _ _ hres6⟩
 rw [if_pos he]
 obtain ⟨sv1,pv1,st1,hM1⟩:=hres.stop he
 have hblkM:=hM1.blk
 unfold Z14 at hblkM
 refine W ?_
 refine WR ?_
 exact .mk ⟨rfl,hun _ _ (Z0j.of he hM1)⟩
set_option maxHeartbeats 2000000 in
theorem Zf7 {n:Int} {a b:Nd} (iha:Jl a) (ihb:Jl b) (ta:Zf a=2) (tb:Zf b=2):Jl (.mk 6 n ([97,110,100]:Str) [a,b]):=by
 intro K0 nv w sv pv st sh at_ hK0 hk0 hx ht hM hst hb
 obtain ⟨kv,rfl,hs⟩:=hx
 have na:Zp a<Zp (.mk 6 n ([97,110,100]:Str) [a,b]):=Z0y (x:=.mk 6 n ([97,110,100]:Str) [a,b]) (by simp [Nd.kids])
 have nb:Zp b<Zp (.mk 6 n ([97,110,100]:Str) [a,b]):=Z0y (x:=.mk 6 n ([97,110,100]:Str) [a,b]) (by simp [Nd.kids])
 have hev2:∀ opn ev,Zc opn ev (.mk 6 n ([97,110,100]:Str) [a,b])=Zq opn ev 6 n ([97,110,100]:Str) [Zc opn ev a,Zc opn ev b]:=fun opn ev=>Z2d _ _ _
 simp only [Nd.kind,Nd.num,Nd.word,Nd.kids] at hs ⊢
 have hbm:=hM.blk.lt
 have hobs:=fun x hx=>(hM.row.ob_le x hx).2
 have hpv:=hM.nt0 hk0
 have howl:∀ x∈K0.own,x<w.heap.size:=fun x hx=>Xb (Mch.own_lt hK0 x hx) hM.stp.size
 refine cW2 132 Tryz.func58 ?_
 refine W ?_
 refine Z1 (Zo rfl) rfl ?_
 rintro _ w1 ⟨b3,rfl,hb3,hblk,hS⟩
 replace hblk:w1.heap[b3]?=some (ndO 6 n ([97,110,100]:Str) kv):=hblk
 replace hM:=(hM.up hS).keep hblk (fun h=>by have:=howl _ h;omega) (fun h=>by have:=hobs _ h;omega) (by rw [hpv];simp [ob])
 have hK:=hK0.keep (b:=b3) (o:=ndO 6 n ([97,110,100]:Str) kv)
 have e0:K0.bm=(K0.keep b3 (ndO 6 n ([97,110,100]:Str) kv)).bm:=rfl
 rw [show mP K0=mP (K0.keep b3 (ndO 6 n ([97,110,100]:Str) kv)) from rfl]
 have hs':SlV (K0.keep b3 (ndO 6 n ([97,110,100]:Str) kv)).own (K0.keep b3 (ndO 6 n ([97,110,100]:Str) kv)).w0 kv [a,b]:=hs
 have hk:(K0.keep b3 (ndO 6 n ([97,110,100]:Str) kv)).nk=none:=hk0
 have hun:∀ w' r,Z0j (K0.keep b3 (ndO 6 n ([97,110,100]:Str) kv)) w' st at_ r→Z0j K0 w' st at_ r:=fun w' r h=>h.un
 have hcE:K0.c=(K0.keep b3 (ndO 6 n ([97,110,100]:Str) kv)).c:=rfl
 have hkE:K0.kn=(K0.keep b3 (ndO 6 n ([97,110,100]:Str) kv)).kn:=rfl
 have heE:K0.ev=(K0.keep b3 (ndO 6 n ([97,110,100]:Str) kv)).ev:=rfl
 rw [hcE,hkE,heE]
 have hkept:∀ {w:World} {sv pv:Value} {st:List Int} {sp:List Spn} {at_ er:Int} {dn:Bool},Mch (K0.keep b3 (ndO 6 n ([97,110,100]:Str) kv)) w sv pv st sp at_ er dn→Blk w b3 27 [.int .i64 6,.int .i64 n,str ([97,110,100]:Str),kv]:=fun h=>h.kept
 have hne:b3≠(K0.keep b3 (ndO 6 n ([97,110,100]:Str) kv)).bm:=by show b3≠K0.bm;omega
 generalize K0.keep b3 (ndO 6 n ([97,110,100]:Str) kv)=K at *
 clear e0 hs hK0 hk0 howl hcE hkE heE
 generalize hopn:Zj K.c K.kn=opn
 generalize hevv:K.ev=ev
 have l0:0 < [a,b].length:=by simp
 have l1:1 < [a,b].length:=by simp
 obtain ⟨ka,ca,da⟩:=Jl.kid hK hk hs' l0 iha (by show Zf a≠0;omega)
 obtain ⟨kb,cb,db⟩:=Jl.kid hK hk hs' l1 ihb (by show Zf b≠0;omega)
 rw [hopn,hevv] at da db
 have hblkN:=hkept hM
 have hsl:=hs'.ext (X':=[]) hM.stp (fun b hb=>hb) (by simp)
 refine W ?_
 apply Zd (ZU rfl rfl hsl l0 (ca _ hM.stp)) rfl
 refine CL rfl (Zb rfl rfl) rfl (da _ _ _ _ _ _ hM hst (by show sh.length+Zp a≤16;omega)) ?_
 rintro _ w2 ⟨rfl,hres⟩
 change Z0j K w2 st at_ (Zc opn ev a) at hres
 have e9:Zq opn ev 6 n ([97,110,100]:Str) [Zc opn ev a,Zc opn ev b]=if ¬ (Zc opn ev a).2=0 then (0,(Zc opn ev a).2) else if (Zc opn ev a).1=0 then ((Zc opn ev a).1,0) else if ¬ (Zc opn ev b).2=0 then (0,(Zc opn ev b).2) else ((Zc opn ev b).1,0):=by
  unfold Zq
  rw [if_neg (by decide),if_neg (by decide)]
  have e0:[Zc opn ev a,Zc opn ev b].getD 0 (0,0)=Zc opn ev a:=rfl
  have e1:[Zc opn ev a,Zc opn ev b].getD 1 (0,0)=Zc opn ev b:=rfl
  rw [e0,e1]
  have hc:((6:Int)=6∧(([97,110,100]:Str)=[97,110,100]∧(Zc opn ev a).1=0∨([97,110,100]:Str)=[111,114]∧(Zc opn ev a).1=1))↔(Zc opn ev a).1=0:=by
   constructor
   rintro ⟨-,(⟨h1,h2⟩|⟨h1,h2⟩)⟩
   first|exact h2|exact absurd h1 (by decide)
   first|exact h2|exact absurd h1 (by decide)
   intro h
   exact ⟨rfl,.inl ⟨rfl,h⟩⟩
  have hl1:¬ [Zc opn ev a,Zc opn ev b].length=1:=by simp
  by_cases h0:(Zc opn ev a).2=0
  have nh0:¬ ¬ (Zc opn ev a).2=0:=fun h=>h h0
  rw [if_neg nh0,if_neg (by decide),if_neg (by decide),if_neg hl1]
  by_cases hv:(Zc opn ev a).1=0
  rw [if_pos (hc.2 hv),if_neg nh0,if_pos hv]
  rw [if_neg (fun h=>hv (hc.1 h))]
  by_cases h1:(Zc opn ev b).2=0
  have nh1:¬ ¬ (Zc opn ev b).2=0:=fun h=>h h1
  rw [if_neg nh1,if_neg (by decide),if_neg (by decide),if_neg (by decide),if_neg nh0,if_neg hv,if_neg nh1]
  rfl
  rw [if_pos h1,if_neg nh0,if_neg hv,if_pos h1]
  rw [if_pos h0,if_pos h0]
 rw [hev2,e9]
 by_cases he:(Zc opn ev a).2=0
 rw [if_neg (fun h=>h he)]
 obtain ⟨sv1,pv1,hM1⟩:=hres.go he
 have hva:=Z35 opn ev (by rw [← hevv];exact hK.ev) a (by omega) he
 rw [ta] at hva
 generalize (Zc opn ev a).1=v at hva hM1 ⊢
 have hv01:v=0∨v=1:=hva.b
 have hlen:(st++[v]).length=st.length+1:=by simp
 have hz:((st++[v]).length:Int) - 1=(st.length:Int):=by rw [hlen];simp
 have hil:st.length<(st++[v]).length:=by rw [hlen];omega
 have hat:(st++[v])[st.length]=v:=by simp
 have hmx:=(hM1.row.slv (X:=[]) (by simp)).max
 rcases hv01 with rfl|rfl
 refine W ?_
 refine ZDr 23 [] [] [(0,0),(1,0),(2,0),(3,1),(4,0),(5,0),(6,0),(7,0),(8,1),(9,0),(10,0),(11,0),(12,1),(13,0),(14,0),(15,0),(16,1),(17,0),(18,0),(19,1),(20,0),(21,0),(22,0)] (fun w1 hS1=>?_)
 replace hM1:=hM1.up hS1
 have hblkM:=hM1.blk
 have hblkN1:=hkept hM1
 have hsv:=hM1.row.slv (X:=[]) (by simp)
 unfold Z14 at hblkM
 refine D ?_
 try refine Z0J rfl (Z0M (i:=st.length) rfl rfl hsv rfl hz hil rfl ?_)
 refine D ?_
 try rw [hat]
 refine D ?_
 refine W ?_
 rw [if_pos rfl]
 refine WR ?_
 exact .mk ⟨rfl,hun _ _ ⟨sv1,pv1,_,hM1,fun _=>rfl⟩⟩
 refine W ?_
 refine ZDr 23 [] [] [(0,0),(1,0),(2,0),(3,1),(4,0),(5,0),(6,0),(7,0),(8,1),(9,0),(10,0),(11,0),(12,1),(13,0),(14,0),(15,0),(16,1),(17,0),(18,0),(19,1),(20,0),(21,0),(22,0)] (fun w1 hS1=>?_)
 replace hM1:=hM1.up hS1
 have hblkM:=hM1.blk
 have hblkN1:=hkept hM1
 have hsv:=hM1.row.slv (X:=[]) (by simp)
 unfold Z14 at hblkM
 refine D ?_
 try refine Z0J rfl (Z0M (i:=st.length) rfl rfl hsv rfl hz hil rfl ?_)
 refine D ?_
 try rw [hat]
 refine D ?_
 refine W ?_
 rw [if_neg (by decide)]
 refine CL rfl (Zm rfl) rfl (Z1a hK hM1) ?_
 rintro _ w4 ⟨rfl,sv4,hM4⟩
 have hblkN4:=hkept hM4
 have hsl4:=hs'.ext (X':=[]) hM4.stp (fun b hb=>hb) (by simp)
 refine W ?_
 apply Zd (ZU rfl rfl hsl4 l1 (cb _ hM4.stp)) rfl
 refine CL rfl (Zb rfl rfl) rfl (db _ _ _ _ _ _ hM4 hst (by show sh.length+Zp b≤16;omega)) ?_
 rintro _ w6 ⟨rfl,hres6⟩
 change Z0j K w6 st at_ (Zc opn ev b) at hres6
 refine W ?_
 refine WR ?_
 refine .mk ⟨rfl,hun _ _ ?_⟩
 by_cases h1:(Zc opn ev b).2=0
 rw [if_neg (fun h=>h h1)]
 obtain ⟨sv6,pv6,hM6⟩:=hres6.go h1
 exact ⟨sv6,pv6,_,hM6,fun _=>rfl⟩
 rw [if_pos h1]
 obtain ⟨sv6,pv6,st6,hM6⟩:=hres6.stop h1
 exact Z0j.of h1 hM6
 rw [if_pos he]
 obtain ⟨sv1,pv1,st1,hM1⟩:=hres.stop he
 refine W ?_
 refine ZDr 23 [] [] [(0,0),(1,0),(2,0),(3,1),(4,0),(5,0),(6,0),(7,0),(8,1),(9,0),(10,0),(11,0),(12,1),(13,0),(14,0),(15,0),(16,1),(17,0),(18,0),(19,1),(20,0),(21,0),(22,0)] (fun w1 hS1=>?_)
 replace hM1:=hM1.up hS1
 have hblkM:=hM1.blk
 have hblkN1:=hkept hM1
 unfold Z14 at hblkM
 refine D ?_
 refine W ?_
 refine WR ?_
 exact .mk ⟨rfl,hun _ _ (Z0j.of he hM1)⟩
set_option maxHeartbeats 2000000 in
theorem Zh3 {n:Int} {a b:Nd} (iha:Jl a) (ihb:Jl b) (ta:Zf a=2) (tb:Zf b=2):Jl (.mk 6 n ([111,114]:Str) [a,b]):=by
 intro K0 nv w sv pv st sh at_ hK0 hk0 hx ht hM hst hb
 obtain ⟨kv,rfl,hs⟩:=hx
 have na:Zp a<Zp (.mk 6 n ([111,114]:Str) [a,b]):=Z0y (x:=.mk 6 n ([111,114]:Str) [a,b]) (by simp [Nd.kids])
 have nb:Zp b<Zp (.mk 6 n ([111,114]:Str) [a,b]):=Z0y (x:=.mk 6 n ([111,114]:Str) [a,b]) (by simp [Nd.kids])
 have hev2:∀ opn ev,Zc opn ev (.mk 6 n ([111,114]:Str) [a,b])=Zq opn ev 6 n ([111,114]:Str) [Zc opn ev a,Zc opn ev b]:=fun opn ev=>Z2d _ _ _
 simp only [Nd.kind,Nd.num,Nd.word,Nd.kids] at hs ⊢
 have hbm:=hM.blk.lt
 have hobs:=fun x hx=>(hM.row.ob_le x hx).2
 have hpv:=hM.nt0 hk0
 have howl:∀ x∈K0.own,x<w.heap.size:=fun x hx=>Xb (Mch.own_lt hK0 x hx) hM.stp.size
 refine cW2 132 Tryz.func58 ?_
 refine W ?_
 refine Z1 (Zo rfl) rfl ?_
 rintro _ w1 ⟨b3,rfl,hb3,hblk,hS⟩
 replace hblk:w1.heap[b3]?=some (ndO 6 n ([111,114]:Str) kv):=hblk
 replace hM:=(hM.up hS).keep hblk (fun h=>by have:=howl _ h;omega) (fun h=>by have:=hobs _ h;omega) (by rw [hpv];simp [ob])
 have hK:=hK0.keep (b:=b3) (o:=ndO 6 n ([111,114]:Str) kv)
 have e0:K0.bm=(K0.keep b3 (ndO 6 n ([111,114]:Str) kv)).bm:=rfl
 rw [show mP K0=mP (K0.keep b3 (ndO 6 n ([111,114]:Str) kv)) from rfl]
 have hs':SlV (K0.keep b3 (ndO 6 n ([111,114]:Str) kv)).own (K0.keep b3 (ndO 6 n ([111,114]:Str) kv)).w0 kv [a,b]:=hs
 have hk:(K0.keep b3 (ndO 6 n ([111,114]:Str) kv)).nk=none:=hk0
 have hun:∀ w' r,Z0j (K0.keep b3 (ndO 6 n ([111,114]:Str) kv)) w' st at_ r→Z0j K0 w' st at_ r:=fun w' r h=>h.un
 have hcE:K0.c=(K0.keep b3 (ndO 6 n ([111,114]:Str) kv)).c:=rfl
 have hkE:K0.kn=(K0.keep b3 (ndO 6 n ([111,114]:Str) kv)).kn:=rfl
 have heE:K0.ev=(K0.keep b3 (ndO 6 n ([111,114]:Str) kv)).ev:=rfl
 rw [hcE,hkE,heE]
 have hkept:∀ {w:World} {sv pv:Value} {st:List Int} {sp:List Spn} {at_ er:Int} {dn:Bool},Mch (K0.keep b3 (ndO 6 n ([111,114]:Str) kv)) w sv pv st sp at_ er dn→Blk w b3 27 [.int .i64 6,.int .i64 n,str ([111,114]:Str),kv]:=fun h=>h.kept
 have hne:b3≠(K0.keep b3 (ndO 6 n ([111,114]:Str) kv)).bm:=by show b3≠K0.bm;omega
 generalize K0.keep b3 (ndO 6 n ([111,114]:Str) kv)=K at *
 clear e0 hs hK0 hk0 howl hcE hkE heE
 generalize hopn:Zj K.c K.kn=opn
 generalize hevv:K.ev=ev
 have l0:0 < [a,b].length:=by simp
 have l1:1 < [a,b].length:=by simp
 obtain ⟨ka,ca,da⟩:=Jl.kid hK hk hs' l0 iha (by show Zf a≠0;omega)
 obtain ⟨kb,cb,db⟩:=Jl.kid hK hk hs' l1 ihb (by show Zf b≠0;omega)
 rw [hopn,hevv] at da db
 have hblkN:=hkept hM
 have hsl:=hs'.ext (X':=[]) hM.stp (fun b hb=>hb) (by simp)
 refine W ?_
 apply Zd (ZU rfl rfl hsl l0 (ca _ hM.stp)) rfl
 refine CL rfl (Zb rfl rfl) rfl (da _ _ _ _ _ _ hM hst (by show sh.length+Zp a≤16;omega)) ?_
 rintro _ w2 ⟨rfl,hres⟩
 change Z0j K w2 st at_ (Zc opn ev a) at hres
 have e9:Zq opn ev 6 n ([111,114]:Str) [Zc opn ev a,Zc opn ev b]=if ¬ (Zc opn ev a).2=0 then (0,(Zc opn ev a).2) else if (Zc opn ev a).1=1 then ((Zc opn ev a).1,0) else if ¬ (Zc opn ev b).2=0 then (0,(Zc opn ev b).2) else ((Zc opn ev b).1,0):=by
  unfold Zq
  rw [if_neg (by decide),if_neg (by decide)]
  have e0:[Zc opn ev a,Zc opn ev b].getD 0 (0,0)=Zc opn ev a:=rfl
  have e1:[Zc opn ev a,Zc opn ev b].getD 1 (0,0)=Zc opn ev b:=rfl
  rw [e0,e1]
  have hc:((6:Int)=6∧(([111,114]:Str)=[97,110,100]∧(Zc opn ev a).1=0∨([111,114]:Str)=[111,114]∧(Zc opn ev a).1=1))↔(Zc opn ev a).1=1:=by
   constructor
   rintro ⟨-,(⟨h1,h2⟩|⟨h1,h2⟩)⟩
   first|exact h2|exact absurd h1 (by decide)
   first|exact h2|exact absurd h1 (by decide)
   intro h
   exact ⟨rfl,.inr ⟨rfl,h⟩⟩
  have hl1:¬ [Zc opn ev a,Zc opn ev b].length=1:=by simp
  by_cases h0:(Zc opn ev a).2=0
  have nh0:¬ ¬ (Zc opn ev a).2=0:=fun h=>h h0
  rw [if_neg nh0,if_neg (by decide),if_neg (by decide),if_neg hl1]
  by_cases hv:(Zc opn ev a).1=1
  rw [if_pos (hc.2 hv),if_neg nh0,if_pos hv]
  rw [if_neg (fun h=>hv (hc.1 h))]
  by_cases h1:(Zc opn ev b).2=0
  have nh1:¬ ¬ (Zc opn ev b).2=0:=fun h=>h h1
  rw [if_neg nh1,if_neg (by decide),if_neg (by decide),if_neg (by decide),if_neg nh0,if_neg hv,if_neg nh1]
  rfl
  rw [if_pos h1,if_neg nh0,if_neg hv,if_pos h1]
  rw [if_pos h0,if_pos h0]
 rw [hev2,e9]
 by_cases he:(Zc opn ev a).2=0
 rw [if_neg (fun h=>h he)]
 obtain ⟨sv1,pv1,hM1⟩:=hres.go he
 have hva:=Z35 opn ev (by rw [← hevv];exact hK.ev) a (by omega) he
 rw [ta] at hva
 generalize (Zc opn ev a).1=v at hva hM1 ⊢
 have hv01:v=0∨v=1:=hva.b
 have hlen:(st++[v]).length=st.length+1:=by simp
 have hz:((st++[v]).length:Int) - 1=(st.length:Int):=by rw [hlen];simp
 have hil:st.length<(st++[v]).length:=by rw [hlen];omega
 have hat:(st++[v])[st.length]=v:=by simp
 have hmx:=(hM1.row.slv (X:=[]) (by simp)).max
 rcases hv01 with rfl|rfl
 refine W ?_
 refine ZDr 23 [] [] [(0,0),(1,0),(2,0),(3,1),(4,0),(5,0),(6,0),(7,0),(8,1),(9,0),(10,0),(11,0),(12,1),(13,0),(14,0),(15,0),(16,1),(17,0),(18,0),(19,1),(20,0),(21,0),(22,0)] (fun w1 hS1=>?_)
 replace hM1:=hM1.up hS1
 have hblkM:=hM1.blk
 have hblkN1:=hkept hM1
 have hsv:=hM1.row.slv (X:=[]) (by simp)
 unfold Z14 at hblkM
 refine D ?_
 try refine Z0J rfl (Z0M (i:=st.length) rfl rfl hsv rfl hz hil rfl ?_)
 refine D ?_
 try rw [hat]
 refine D ?_
 refine W ?_
 rw [if_neg (by decide)]
 refine CL rfl (Zm rfl) rfl (Z1a hK hM1) ?_
 rintro _ w4 ⟨rfl,sv4,hM4⟩
 have hblkN4:=hkept hM4
 have hsl4:=hs'.ext (X':=[]) hM4.stp (fun b hb=>hb) (by simp)
 refine W ?_
 apply Zd (ZU rfl rfl hsl4 l1 (cb _ hM4.stp)) rfl
 refine CL rfl (Zb rfl rfl) rfl (db _ _ _ _ _ _ hM4 hst (by show sh.length+Zp b≤16;omega)) ?_
 rintro _ w6 ⟨rfl,hres6⟩
 change Z0j K w6 st at_ (Zc opn ev b) at hres6
 refine W ?_
 refine WR ?_
 refine .mk ⟨rfl,hun _ _ ?_⟩
 by_cases h1:(Zc opn ev b).2=0
 rw [if_neg (fun h=>h h1)]
 obtain ⟨sv6,pv6,hM6⟩:=hres6.go h1
 exact ⟨sv6,pv6,_,hM6,fun _=>rfl⟩
 rw [if_pos h1]
 obtain ⟨sv6,pv6,st6,hM6⟩:=hres6.stop h1
 exact Z0j.of h1 hM6
 refine W ?_
 refine ZDr 23 [] [] [(0,0),(1,0),(2,0),(3,1),(4,0),(5,0),(6,0),(7,0),(8,1),(9,0),(10,0),(11,0),(12,1),(13,0),(14,0),(15,0),(16,1),(17,0),(18,0),(19,1),(20,0),(21,0),(22,0)] (fun w1 hS1=>?_)
 replace hM1:=hM1.up hS1
 have hblkM:=hM1.blk
 have hblkN1:=hkept hM1
 have hsv:=hM1.row.slv (X:=[]) (by simp)
 unfold Z14 at hblkM
 refine D ?_
 try refine Z0J rfl (Z0M (i:=st.length) rfl rfl hsv rfl hz hil rfl ?_)
 refine D ?_
 try rw [hat]
 refine D ?_
 refine W ?_
 rw [if_pos rfl]
 refine WR ?_
 exact .mk ⟨rfl,hun _ _ ⟨sv1,pv1,_,hM1,fun _=>rfl⟩⟩
 rw [if_pos he]
 obtain ⟨sv1,pv1,st1,hM1⟩:=hres.stop he
 refine W ?_
 refine ZDr 23 [] [] [(0,0),(1,0),(2,0),(3,1),(4,0),(5,0),(6,0),(7,0),(8,1),(9,0),(10,0),(11,0),(12,1),(13,0),(14,0),(15,0),(16,1),(17,0),(18,0),(19,1),(20,0),(21,0),(22,0)] (fun w1 hS1=>?_)
 replace hM1:=hM1.up hS1
 have hblkM:=hM1.blk
 have hblkN1:=hkept hM1
 unfold Z14 at hblkM
 refine D ?_
 refine W ?_
 refine WR ?_
 exact .mk ⟨rfl,hun _ _ (Z0j.of he hM1)⟩
theorem SlV.keepC {α:Type} [Z9 α] {X:List Nat} {w w':World} {v:Value} {xs:List α} (h:SlV X w v xs) (hb:∀ b∈ob v,w'.heap[b]?=w.heap[b]?):SlV [] w' v xs:=by
 obtain ⟨p,c,rfl,hl,hm,hn,hc⟩:=h
 refine ⟨p,c,rfl,hl,hm,hn,fun i hi=>?_⟩
 obtain ⟨b,o,cs,rfl,hbl,hx,hr,hcell⟩:=hc i hi
 have e:=hb b (by simp [ob])
 rw [Yaj hbl] at e
 exact ⟨b,o,cs,rfl,(Xk.1 e).1,by simp,hr,fun j u hu=>(World.cell?_of_block (a:=⟨b,_,none⟩) (hb b (by simp [ob]))).trans (hcell j u hu)⟩
theorem Jl.kid2 {l:List Nd} {K:MK} {kv:Value} (hK:KOk K) (hk:K.nk=none) (hs:SlV K.own K.w0 kv l) {i:Nat} (hi:i<l.length) (ih:Jl l[i]) (ht:Zf l[i]≠0) :
 ∃ kv2 : Value, kv2.oneCell' = true ∧ (∀ w', Stp K.own K.w0 w' → ∀ j u, [Value.int .i64 l[i].kind, .int .i64 l[i].num, str l[i].word, kv2][j]? = some u → w'.cell? (Zz kv i 4 j) = some u)∧
   ∀ (w : World) (sv pv : Value) (st : List Int) (s : Shp) (at_ : Int), Mch K w sv pv st [] at_ 0 false → Jo s st → s.length + Zp l[i] ≤ 16→
     CC 58 #[mP K,.agg #[.int .i64 l[i].kind,.int .i64 l[i].num,str l[i].word,kv2]] w fun r w'=>r=.tuple #[]∧Z0j K w' st at_ (Zc (Zj K.c K.kn) K.ev l[i]):=by
 obtain ⟨kv2,h1,h2⟩:=Zhq hs hi (Stp.refl _ _)
 exact ⟨kv2,h1.one,h2,fun w sv pv st s at_ hM hst hb=>ih K _ w sv pv st s at_ hK hk ⟨kv2,rfl,h1⟩ ht hM hst hb⟩
theorem Zon:∀ r∈Z2e,(r.L.length=1∨(r.L.length=2∧(r.L.getD 0 0=8∨r.L.getD 0 0=9∨r.L.getD 0 0=10∨r.L.getD 0 0=11)))∧(∀ o∈r.L,o≠24∧o≠13∧o≠14):=by decide +kernel
theorem Zf8 (r:Z86) (hr:r∈Z2e):Z28 2 (r.L.map fun o=>⟨o,0⟩) r.ts=some [r.t]:=by
 have hb:=XH.1 Zl2 r hr
 simp only [Xi] at hb
 exact (Z31 hb.1.2).2.2
theorem ZcQ {opn:Int→Bool} {ev:List Int} {o a b:Int} (h:o=8∨o=9∨o=10∨o=11):(Jd opn ev ⟨o,0⟩ a b).2=0:=by
 rcases h with rfl|rfl|rfl|rfl<;>rfl
theorem ZaP {b:Nat} {x:Ins} {L:List Ins} {s r:Shp} (h:Z28 b (x :: L) s=some r):∃ nx,Zv x s=some nx∧nx.length≤b∧Z28 b L nx=some r:=by
 rw [Z28] at h
 cases hx:Zv x s with
 | none=>rw [hx] at h;cases h
 | some s1=>
   rw [hx] at h
   simp only at h
   split at h
   rename_i hl
   exact ⟨s1,rfl,hl,h⟩
   cases h
theorem ZaQ {a b:List (Int×Int)} (ha:∀ x∈a,x.2=0):Z0t (a++b)=Z0t b:=by
 induction a with
 | nil=>rfl
 | cons x r ih=>
   rw [XN,Z0t,if_pos (ha x (by simp))]
   exact ih (fun y hy=>ha y (by simp [hy]))
set_option maxHeartbeats 4000000 in
theorem ZaR {r:Z86} {n:Int} {l:List Nd} (hr:r∈Z2e) (hts:l.map Zf=r.ts) (ih:∀ y∈l,Jl y) (hkid:∀ y∈l,Zf y≠0):Jl (.mk r.k n r.s l):=by
 intro K0 nv w sv pv st sh at_ hK0 hk0 hx ht hM hst hb
 obtain ⟨kv,rfl,hs⟩:=hx
 have hnk:∀ y∈l,Zp y<Zp (.mk r.k n r.s l):=fun y hy=>Z0y (x:=.mk r.k n r.s l) hy
 have hev2:∀ opn ev,Zc opn ev (.mk r.k n r.s l)=Zq opn ev r.k n r.s (l.map (Zc opn ev)):=fun opn ev=>Z2d _ _ _
 obtain ⟨⟨hk123,hk4,hk9⟩,hao,hlen12⟩:=Zhl r hr
 obtain ⟨hL12,hLo⟩:=Zon r hr
 have hfold:=Zf8 r hr
 obtain ⟨ov1,ov2,ov3⟩:=Zf6 r hr
 have hll:l.length=r.ts.length:=by rw [← hts];simp
 simp only [Nd.kind,Nd.num,Nd.word,Nd.kids] at hs ⊢
 have hbm:=hM.blk.lt
 have hobs:=fun x hx=>(hM.row.ob_le x hx).2
 have hpv:=hM.nt0 hk0
 have howl:∀ x∈K0.own,x<w.heap.size:=fun x hx=>Xb (Mch.own_lt hK0 x hx) hM.stp.size
 refine cW2 132 Tryz.func58 ?_
 refine W ?_
 refine Z1 (Zo rfl) rfl ?_
 rintro _ w1 ⟨b3,rfl,hb3,hblk,hS⟩
 replace hblk:w1.heap[b3]?=some (ndO r.k n r.s kv):=hblk
 replace hM:=(hM.up hS).keep hblk (fun h=>by have:=howl _ h;omega) (fun h=>by have:=hobs _ h;omega) (by rw [hpv];simp [ob])
 have hK:=hK0.keep (b:=b3) (o:=ndO r.k n r.s kv)
 have e0:K0.bm=(K0.keep b3 (ndO r.k n r.s kv)).bm:=rfl
 rw [show mP K0=mP (K0.keep b3 (ndO r.k n r.s kv)) from rfl]
 have hs':SlV (K0.keep b3 (ndO r.k n r.s kv)).own (K0.keep b3 (ndO r.k n r.s kv)).w0 kv l:=hs
 have hk:(K0.keep b3 (ndO r.k n r.s kv)).nk=none:=hk0
 have hun:∀ w' (z:Int×Int),Z0j (K0.keep b3 (ndO r.k n r.s kv)) w' st at_ z→Z0j K0 w' st at_ z:=fun w' z h=>h.un
 have hcE:K0.c=(K0.keep b3 (ndO r.k n r.s kv)).c:=rfl
 have hkE:K0.kn=(K0.keep b3 (ndO r.k n r.s kv)).kn:=rfl
 have heE:K0.ev=(K0.keep b3 (ndO r.k n r.s kv)).ev:=rfl
 rw [hcE,hkE,heE]
 have hkept:∀ {w:World} {sv pv:Value} {st:List Int} {sp:List Spn} {at_ er:Int} {dn:Bool},Mch (K0.keep b3 (ndO r.k n r.s kv)) w sv pv st sp at_ er dn→Blk w b3 27 [.int .i64 r.k,.int .i64 n,str r.s,kv]:=fun h=>h.kept
 have hne:b3≠(K0.keep b3 (ndO r.k n r.s kv)).bm:=by show b3≠K0.bm;omega
 generalize K0.keep b3 (ndO r.k n r.s kv)=K at *
 clear e0 hs hK0 hk0 howl hcE hkE heE
 generalize hopn:Zj K.c K.kn=opn
 generalize hevv:K.ev=ev
 have hevo:Z3x ev:=by rw [← hevv];exact hK.ev
 have hblkN:=hkept hM
 have hsl:=hs'.ext (X':=[]) hM.stp (fun b hb=>hb) (by simp)
 have h1:r.k≠1∧r.k≠2∧r.k≠3:=by omega
 have hs1:r.k=6→¬ r.s=[97,110,100]:=fun h6 h=>hao ⟨h6,.inl h⟩
 have hs2:r.k=6→¬ r.s=[111,114]:=fun h6 h=>hao ⟨h6,.inr h⟩
 have hmax:=hsl.max
 have k6:r.k=6∨r.k≠6:=by omega
 rcases k6 with k6|k6
 all_goals repeat'(first|refine W1 ?_|omega|(exfalso;exact hs1 k6 (by assumption))|(exfalso;exact hs2 k6 (by assumption))|refine VG ?_ ?_<;>intro hg|refine VC ?_ ?_<;>intro hc)
 all_goals
  refine Z1t (σ:=Unit) (fun _=>[(0,mP K),(3,.pointer (some ⟨b3,0,none⟩))])
   (fun _ w'=>(∃ sv pv,Mch K w' sv pv (st++l.map fun y=>(Zc opn ev y).1) [] at_ 0 false)∧∀ y∈l,(Zc opn ev y).2=0) ?_ ?_
  refine Zr (σ:=Nat) (fun j=>[(0,mP K),(3,.pointer (some ⟨b3,0,none⟩)),(9,kv),(10,.int .i64 (l.length:Int)),(11,.int .i64 (j:Int))])
   (fun j w'=>j≤l.length∧(∃ sv pv,Mch K w' sv pv (st++(l.take j).map fun y=>(Zc opn ev y).1) [] at_ 0 false)∧∀ y∈l.take j,(Zc opn ev y).2=0) (fun j=>l.length - j) 0 ⟨rfl,rfl,rfl,rfl,rfl,trivial⟩ ⟨Xo _,⟨_,_,by simpa using hM⟩,by simp⟩ ?_
  rintro j w2 ⟨hj,⟨sv1,pv1,hM1⟩,hok⟩
  have hsl1:=hs'.ext (X':=[]) hM1.stp (fun b hb=>hb) (by simp)
  by_cases hlt:j<l.length
  have hmem:=Xf hlt
  obtain ⟨kj,oj,cj,dj⟩:=Jl.kid2 hK hk hs' hlt (ih _ hmem) (hkid _ hmem)
  rw [hopn,hevv] at dj
  have hn1:=hnk _ hmem
  have hstj:Jo (sh++(l.take j).map Zf) (st++(l.take j).map fun y=>(Zc opn ev y).1):=by
   refine hst.app ⟨by simp,fun i h h'=>?_⟩
   simp only [YaT]
   have hi:i<(l.take j).length:=by simpa using h
   have hmi:=Xf hi
   exact Z35 opn ev hevo _ (hkid _ (YaB hmi)) (hok _ hmi)
  have hbj:(sh++(l.take j).map Zf).length+Zp l[j]≤16:=by
   rw [Xg,Yab,Xw]
   omega
  have htk:l.take (j+1)=l.take j++[l[j]]:=Xq hlt
  focus repeat'(first|refine W1 ?_|omega|refine VG ?_ ?_<;>intro hg|refine VC ?_ ?_<;>intro hc)
  apply Zd (ZU rfl rfl hsl1 hlt (cj _ hM1.stp)) rfl
  refine Z1 Z7 rfl ?_
  rintro _ w3 ⟨b5,rfl,hb5,e5,hS3⟩
  refine W ?_
  refine Z2 (Z3 (us:=[.int .i64 l[j].kind,.int .i64 l[j].num,str l[j].word,kj]) rfl rfl rfl rfl (by intro u hu;simp at hu;rcases hu with rfl|rfl|rfl|rfl;exact rfl;exact rfl;exact rfl;exact oj) e5 rfl) ?_
  rintro _ w4 ⟨hT,k5⟩
  replace hM1:=hM1.up (hS3.own hT (fun c hc=>.inr (by simp at hc;omega)))
  clear e5 hT hS3
  refine W ?_
  refine CL rfl (Zb rfl rfl) rfl (dj _ _ _ _ _ _ hM1 hstj hbj) ?_
  rintro _ w5 ⟨rfl,hres⟩
  by_cases he:(Zc opn ev l[j]).2=0
  obtain ⟨sv2,pv2,hM2⟩:=hres.go he
  have hblkM:=hM2.blk
  unfold Z14 at hblkM
  refine W ?_
  refine Zg (j+1) ⟨rfl,rfl,rfl,rfl,rfl,trivial⟩ ⟨hlt,⟨sv2,pv2,?_⟩,?_⟩ (by omega)
  rw [htk,YaJ,← XK]
  exact hM2
  intro y hy
  rw [htk,Xs] at hy
  rcases hy with hy|hy
  exact hok y hy
  obtain rfl:y=l[j]:=by simpa using hy
  exact he
  obtain ⟨sv2,pv2,st2,hM2⟩:=hres.stop he
  have hblkM:=hM2.blk
  unfold Z14 at hblkM
  refine W ?_
  refine WR ?_
  refine .mk ⟨rfl,hun _ _ ?_⟩
  have hfe:Z0t (l.map (Zc opn ev))=(Zc opn ev l[j]).2:=by
   conv=>lhs;rw [← XT j l,YaJ,XG hlt]
   rw [ZaQ (by intro x hx;obtain ⟨y,hy,rfl⟩:=YaM.1 hx;exact hok y hy)]
   rw [Xn,Z0t,if_neg he]
  rw [hev2,Z78 opn ev n _ r hr (by rw [← hll];simp) (by rw [hfe];exact he),hfe]
  exact Z0j.of he hM2
  obtain rfl:j=l.length:=by omega
  rw [XC] at hM1 hok
  focus repeat'(first|refine W1 ?_|omega|refine VG ?_ ?_<;>intro hg|refine VC ?_ ?_<;>intro hc)
  exact ZO () ⟨rfl,rfl,trivial⟩ ⟨⟨sv1,pv1,hM1⟩,hok⟩
  rintro _ w2 ⟨⟨sv1,pv1,hM1⟩,hok⟩
  have hblk2:=hkept hM1
  have hvs:l.map (Zc opn ev)=okv (l.map fun y=>(Zc opn ev y).1):=by
   unfold okv
   rw [Ya5]
   exact List.map_congr_left (fun y hy=>Prod.ext rfl (hok y hy))
  have hstv:Jo r.ts (l.map fun y=>(Zc opn ev y).1):=by
   rw [← hts]
   refine ⟨by simp,fun i h h'=>?_⟩
   simp only [YaT]
   have hi:i<l.length:=by simpa using h
   have hmi:=Xf hi
   exact Z35 opn ev hevo _ (hkid _ hmi) (hok _ hmi)
  have hline:=Zaw opn ev n st (l.map fun y=>(Zc opn ev y).1) r hr hstv
  rw [← hvs] at hline
  rw [hev2]
  generalize Zq opn ev r.k n r.s (l.map (Zc opn ev))=R at hline ⊢
  generalize (l.map fun y=>(Zc opn ev y).1)=vs at hstv hline hM1
  obtain ⟨hl1,hl2⟩:=hline
  have hXlt:∀ b∈K.own++ob sv1++ob pv1,b<w2.heap.size:=by
   intro b hb
   simp only [Xs] at hb
   rcases hb with (hb|hb)|hb
   exact Xb (Mch.own_lt hK b hb) hM1.stp.size
   exact (hM1.row.ob_le b hb).2
   rw [hM1.nt0 hk] at hb;simp [ob] at hb
  refine W ?_
  refine CL rfl (Zm rfl) rfl (Z6y (K.own++ob sv1++ob pv1) r.k n r.s kv _ hXlt ov2) ?_
  rintro rv w3 ⟨hrv,hS3⟩
  replace hM1:=hM1.up hS3
  have hLpos:0<(Z8s r.k r.s).length:=by rw [ov1];omega
  have hrv0:=hrv.ext (X':=[]) (Stp.refl [] _) (by simp) (by simp)
  obtain ⟨bq,oo,hoo,hbq,hq1,hq2,hq3⟩:∃ bq oo,w3.heap[bq]?=some oo∧(∀ b∈ob rv,b=bq)∧bq∉K.own∧bq∉ob sv1∧bq∉ob pv1:=by
   obtain ⟨p,c,rfl,-,-,-,hcell⟩:=id hrv
   obtain ⟨bq,oq,csq,rfl,hbq,hxq,-⟩:=hcell 0 hLpos
   simp only [Xs,not_or] at hxq
   exact ⟨bq,_,Yaj hbq,by simp [ob],hxq.1.1,hxq.1.2,hxq.2⟩
  have hM2:=hM1.keep hoo hq1 hq2 hq3
  have hK2:=hK.keep (b:=bq) (o:=oo)
  have hk2:(K.keep bq oo).nk=none:=hk
  have hrvK:∀ {w:World} {sv pv:Value} {st:List Int} {sp:List Spn} {at_ er:Int} {dn:Bool},Mch (K.keep bq oo) w sv pv st sp at_ er dn→SlV [] w rv (Z8s r.k r.s):=fun h=>SlV.keepC hrv (fun b hb=>by rw [hbq b hb];exact h.kept.trans hoo.symm)
  have hun2:∀ w' (z:Int×Int),Z0j (K.keep bq oo) w' st at_ z→Z0j K0 w' st at_ z:=fun w' z h=>hun w' z h.un
  rw [show mP K=mP (K.keep bq oo) from rfl]
  have ho2:Zj (K.keep bq oo).c (K.keep bq oo).kn=opn:=hopn
  have he2:(K.keep bq oo).ev=ev:=hevv
  generalize K.keep bq oo=K2 at *
  refine W ?_
  refine Zr (σ:=Nat) (fun i=>[(0,mP K2),(24,rv),(25,.int .i64 ((Z8s r.k r.s).length:Int)),(26,.int .i64 (i:Int))])
   (fun i w'=>(i<r.L.length∧∃ sv pv st' ts',ts'.length≤2∧Mch K2 w' sv pv st' [] at_ 0 false∧Jo (sh++ts') st'∧Z28 2 ((r.L.drop i).map fun o=>⟨o,0⟩) ts'=some [r.t]∧Z4n opn ev (r.L.drop i) st'=Z4n opn ev r.L (st++vs))∨(i=r.L.length∧Z0j K2 w' st at_ R)) (fun i=>r.L.length - i) 0 ⟨rfl,rfl,rfl,rfl,trivial⟩
   (.inl ⟨by omega,sv1,pv1,_,r.ts,by omega,hM2,hst.app hstv,hfold,rfl⟩) ?_
  rintro i w4 (⟨hi,sv2,pv2,st',ts',ht2,hM4,hst4,hf4,hr4⟩|⟨rfl,hres⟩)
  have hrv4:=hrvK hM4
  have hio:i<(Z8s r.k r.s).length:=by omega
  have hdrop:r.L.drop i=r.L.getD i 0 :: r.L.drop (i+1):=by
   rw [XG hi]
   congr 1
   simp [List.getD,hi]
  have hop:=hLo (r.L.getD i 0) (by simp [List.getD,hi])
  rw [hdrop,Xn] at hf4
  obtain ⟨nx,hn1,hn2,hn3⟩:=ZaP hf4
  have hx1:1≤Zp (.mk r.k n r.s l):=by rw [Z0d];omega
  have hx2:2≤Zp (.mk r.k n r.s l):=by
   have:0<l.length:=by omega
   have:=hnk _ (Xf this)
   have h9:1≤Zp l[0]:=by rw [Z0d];omega
   omega
  have hnf:=Z10 (s:=sh) hn1 (by omega)
  have hget:=ov3 i hi
  rw [Ya2,XA hio] at hget
  have hget2:fnV (Z8s r.k r.s)[i].f=Z4H Z8m (r.L.getD i 0) .nilFunc:=by simpa using hget
  have hst16:st'.length≤100000:=by
   have h7:=hst4.1
   rw [Xg] at h7
   omega
  focus repeat'(first|refine W1 ?_|omega|refine VG ?_ ?_<;>intro hg|refine VC ?_ ?_<;>intro hc)
  refine Z1 (ZbF (x:=⟨r.L.getD i 0,0⟩) hK2 hM4 hnf hst4 hst16 (by simp) (by show some _=some _;rw [← hget2]) rfl rfl) rfl ?_
  rintro _ w5 ⟨rfl,hstep⟩
  unfold JP at hstep
  rw [if_neg hop.1,if_neg hop.2.1,if_neg hop.2.2,ho2,he2] at hstep
  rw [hdrop,Z4n] at hr4
  obtain ⟨sv6,pv6,st6,sp6,hM6,hok6⟩:=hstep
  replace hM6:=hM6.nosp hk2 (sp':=[])
  by_cases hlast:i+1=r.L.length
  have hd0:r.L.drop (i+1)=[]:=by rw [hlast];simp
  rw [hd0] at hr4
  refine W ?_
  refine Zg (i+1) ⟨rfl,rfl,rfl,rfl,trivial⟩ (.inr ⟨hlast,?_⟩) (by omega)
  by_cases he:(Jd opn ev ⟨r.L.getD i 0,0⟩ (J3 st' 1) (J3 st' 0)).2=0
  rw [if_pos he] at hr4
  rw [← hr4] at hl1 hl2
  obtain ⟨e1,e2⟩:=hok6 he
  rw [he] at hM6
  have hR0:R.2=0:=hl1.symm
  refine ⟨sv6,pv6,st6,by rw [hR0];exact hM6,fun _=>?_⟩
  rw [e1]
  exact hl2 hR0
  rw [if_neg he] at hr4
  rw [← hr4] at hl1 hl2
  have hR0:R.2=(Jd opn ev ⟨r.L.getD i 0,0⟩ (J3 st' 1) (J3 st' 0)).2:=hl1.symm
  refine ⟨sv6,pv6,st6,by rw [hR0];exact hM6,fun h0=>absurd h0 (by rw [hR0];exact he)⟩
  have hi0:i=0∧r.L.length=2:=by omega
  have hfst:(Jd opn ev ⟨r.L.getD i 0,0⟩ (J3 st' 1) (J3 st' 0)).2=0:=by
   rw [hi0.1]
   rcases hL12 with h|⟨-,h⟩
   omega
   exact ZcQ h
  rw [if_pos hfst] at hr4
  obtain ⟨e1,e2⟩:=hok6 hfst
  rw [hfst] at hM6
  have hvs4:=Z6c (opn:=opn) hevo hnf (by exact hop.1) (by exact hop.2.1) (by exact hop.2.2) hst4 hfst
  refine W ?_
  refine Zg (i+1) ⟨rfl,rfl,rfl,rfl,trivial⟩ (.inl ⟨by omega,sv6,pv6,st6,nx,hn2,hM6,?_,hn3,?_⟩) (by omega)
  rw [e1];exact hvs4
  rw [e1];exact hr4
  focus repeat'(first|refine W1 ?_|omega|refine VG ?_ ?_<;>intro hg|refine VC ?_ ?_<;>intro hc)
  refine WR ?_
  exact .mk ⟨rfl,hun2 _ _ hres⟩
theorem Zf9 (x:Nd):Zf x≠0→Jl x:=by
 induction x using Nd.ind with
 | h k n s l ih=>
 intro ht
 have hkid:∀ y∈l,Zf y≠0:=fun y hy=>Z3m (x:=.mk k n s l) ht hy
 rcases Z6d ht with ⟨rfl,hlf⟩|⟨rfl,a,b,c,rfl,ta,tb,tc⟩|⟨rfl,hs,a,b,rfl,ta,tb,ht2⟩|⟨r,hr,rfl,rfl,hts,htt⟩
 exact ZcP hlf
 exact Zh2 (ih a (by simp) (hkid a (by simp))) (ih b (by simp) (hkid b (by simp))) (ih c (by simp) (hkid c (by simp))) ta (hkid b (by simp)) (hkid c (by simp))
 rcases hs with rfl|rfl
 exact Zf7 (ih a (by simp) (hkid a (by simp))) (ih b (by simp) (hkid b (by simp))) ta tb
 exact Zh3 (ih a (by simp) (hkid a (by simp))) (ih b (by simp) (hkid b (by simp))) ta tb
 exact ZaR hr hts (fun y hy=>ih y hy (hkid y hy)) hkid
theorem ZcR (nv:Value) (x:Nd) (kn:Int) (ev:List Int) (c:Cal) (hv cv zo zs hr:Value) (w:World) (hx:NdV [] w nv x) (ht:Zf x≠0) (hnest:Zp x≤16) (hcal:Z1m w c hv cv zo zs hr) (hev:Z3x ev) (ho:zo.oneCell'=true∧zs.oneCell'=true∧hr.oneCell'=true) :
 CC 20 #[nv,Z6O ev,Z15 c hv cv zo zs hr,.int .i64 kn] w fun r w'=>r=.tuple #[.int .i64 (if (Zc (Zj c kn) ev x).2=0 then (Zc (Zj c kn) ev x).1 else 0),.int .i64 (Zc (Zj c kn) ev x).2]∧Stp [] w w':=by
 obtain ⟨kv,rfl,hsk⟩:=hx
 have hone:=hsk.one
 refine cW4 30 Tryz.func20 ?_
 refine W ?_
 refine Z1 (Zo rfl) rfl ?_
 rintro _ w1 ⟨b4,rfl,hb4,k4,hS⟩
 replace k4:Blk w1 b4 27 [.int .i64 x.kind,.int .i64 x.num,str x.word,kv]:=k4
 refine Z1 (Zo rfl) rfl ?_
 rintro _ w2 ⟨b5,rfl,hb5,k5,hS2⟩
 replace k5:Blk w2 b5 29 (evC ev):=k5
 replace k4:=k4.up hS2
 replace hS:=hS.trans hS2
 refine Z1 (Zo rfl) rfl ?_
 rintro _ w3 ⟨b6,rfl,hb6,k6,hS3⟩
 replace k6:Blk w3 b6 37 (Jm c hv cv zo zs hr):=k6
 replace k4:=k4.up hS3
 replace k5:=k5.up hS3
 replace hS:=hS.trans hS3
 clear hS2 hS3
 refine W ?_
 refine Z6 (vs:=[(0,Z6O ev),(1,Z15 c hv cv zo zs hr),(2,.int .i64 kn),(7,.func (.func 57) #[] #[])]) rfl (ZgS ev c hv cv zo zs hr kn) rfl ?_
 refine Z1 (Zo rfl) rfl ?_
 rintro _ w4 ⟨bm,rfl,hbm,km,hS4⟩
 replace km:Blk w4 bm 126 (evC ev++Jm c hv cv zo zs hr++([.int .i64 kn,.slice none 0 0,.int .i64 0,.int .i64 0,.bool false,.func (.func 57) #[] #[]]:List Value)):=km
 have hbmw:w.heap.size≤bm:=Xj hS.size hbm
 replace k4:=k4.up hS4
 replace hS:=hS.trans hS4
 clear k5 k6 hS4
 obtain ⟨K,e1,e2,hk,e4,e5,e6,e7,e8,e9,e10,e11,e12⟩:∃ K:MK,K.w0=w4∧K.bm=bm∧K.nk=none∧K.ev=ev∧K.c=c∧K.kn=kn∧K.hv=hv∧K.cv=cv∧K.zo=zo∧K.zs=zs∧K.hr=hr∧K.pr=[]:=⟨⟨w4,bm,none,ev,c,kn,hv,cv,zo,zs,hr,[]⟩,rfl,rfl,rfl,rfl,rfl,rfl,rfl,rfl,rfl,rfl,rfl,rfl⟩
 subst e1 e2 e4 e5 e6 e7 e8 e9 e10 e11
 have own_eq:K.own=[K.bm]:=by simp [MK.own,hk]
 have own_ge:∀ b∈K.own,w.heap.size≤b:=fun b hb=>by rw [own_eq] at hb;simp at hb;omega
 have hcw:=hcal.up hS
 have g1:1<w.heap.size:=by have:=block_lt_of_cell (hcal.len 0 0 rfl);simpa using this
 have g2:3<w.heap.size:=by have:=block_lt_of_cell (hcal.mov 0 0 rfl);simpa using this
 have hK:KOk K:=
  { hols := hcal.hols.ext hS (by simp) (fun b hb => .inr (own_ge b hb))
    clos:=hcal.clos.ext hS (by simp) (fun b hb=>.inr (own_ge b hb))
    ozo:=ho.1,ozs:=ho.2.1,ohr:=ho.2.2
    len:=hcw.len,mov:=hcw.mov
    bml:=km.lt
    nkl:=fun b hb=>by rw [hk] at hb;cases hb
    gl:=fun b hb=>by have:=own_ge b hb;omega
    cal:=hcal.ok
    ev:=hev }
 have hM:Mch K K.w0 (.slice none 0 0) (.slice none 0 0) [] [] 0 0 false:=
  { blk := by unfold Z14; rw [hk]; exact km
    row:=Row.nil
    nt:=fun b hb=>by rw [hk] at hb;cases hb
    nt0:=fun _=>rfl
    ap:=by simp [ob]
    stp:=Stp.refl _ _
    prot:=fun p hp=>by rw [e12] at hp;cases hp }
 have hx0:SlV K.own K.w0 kv x.kids:=hsk.ext hS (by simp) (fun b hb=>.inr (own_ge b hb))
 refine W ?_
 refine CL rfl (Zb rfl rfl) rfl (Zf9 x ht K _ _ _ _ [] [] 0 hK hk ⟨kv,rfl,hx0⟩ ht hM Jo.nil (by simpa using hnest)) ?_
 rintro _ w5 ⟨rfl,hres⟩
 have fin:∀ w',Stp K.own K.w0 w'→Stp [] w w':=fun w' h=>hS.own h (fun b hb=>.inr (own_ge b hb))
 by_cases he:(Zc (Zj K.c K.kn) K.ev x).2=0
 rw [if_pos he]
 obtain ⟨sv,pv,hM5⟩:=hres.go he
 have hblk:=hM5.blk
 unfold Z14 at hblk
 refine W ?_
 refine CL rfl (Zm rfl) rfl (Z1a hK hM5) ?_
 rintro _ w6 ⟨rfl,sv6,hM6⟩
 refine W ?_
 refine WR ?_
 exact .mk ⟨by rw [he],fin _ hM6.stp⟩
 rw [if_neg he]
 obtain ⟨sv,pv,st2,hM5⟩:=hres.stop he
 have hblk:=hM5.blk
 unfold Z14 at hblk
 focus repeat'(first|refine W1 ?_|omega|refine VG ?_ ?_<;>intro hg|refine VC ?_ ?_<;>intro hc)
 refine ZDr 6 [] [] [(0,0),(1,0),(2,0),(3,1),(4,0),(5,0)] (fun w1 hS1=>?_)
 replace hM5:=hM5.up hS1
 replace hblk:=hblk.up hS1
 refine D ?_
 refine W ?_
 refine WR ?_
 exact .mk ⟨rfl,fin _ hM5.stp⟩
def sr1:Str:=[100,97,121,32,43,32,51,32,100,97,121,115]
def sr2:Str:=[100,97,121,32,45,32,49,32,109,111,110,116,104,115]
def sr3:Str:=[105,102,32,116,114,117,101,32,116,104,101,110,32,100,97,121,32,101,108,115,101,32,115,101,114,118,101,100,32,101,110,100]
def sr4:Str:=[115,101,114,118,101,100]
def sr5:Str:=[50,49,52,55,52,56,51,54,52,55,32,43,32,49]
def xr1:Nd:=.mk 7 0 [100,97,121,115] [.mk 4 0 [100,97,121] [],.mk 1 3 [] []]
def xr2:Nd:=.mk 8 0 [109,111,110,116,104,115] [.mk 4 0 [100,97,121] [],.mk 1 1 [] []]
def xr3:Nd:=.mk 9 0 [] [.mk 2 1 [] [],.mk 4 0 [100,97,121] [],.mk 4 0 [115,101,114,118,101,100] []]
def xr4:Nd:=.mk 4 0 [115,101,114,118,101,100] []
def xr5:Nd:=.mk 6 0 [43] [.mk 1 2147483647 [] [],.mk 1 1 [] []]
theorem Zoo:Z0I sr1=.ok xr1:=by kernel_rfl
theorem Zop:Z0I sr2=.ok xr2:=by kernel_rfl
theorem Zoq:Z0I sr3=.ok xr3:=by kernel_rfl
theorem Zor:Z0I sr4=.ok xr4:=by kernel_rfl
theorem Zos:Z0I sr5=.ok xr5:=by kernel_rfl
def Z0C:Cal:=⟨[false,false,false,false,false,true,true],[],[]⟩
def ev0:List Int:=[739616,-1,0,0,0,0,0]
theorem Zli:Zbp Z0C:=⟨rfl,by simp [Z0C],by decide⟩
theorem ZbH:Z3x ev0:=Z8n (by omega) (by omega) (by omega) (by omega) (by omega) (by omega) (by omega)
theorem Zot:Zc (Zj Z0C 0) ev0 xr1=(739619,0):=by
 simp only [xr1,Zc,Xn,Xx]
 kernel_rfl
theorem Zou:Zc (Zj Z0C 0) ev0 xr2=(739585,0):=by
 simp only [xr2,Zc,Xn,Xx]
 kernel_rfl
theorem Zov:Zc (Zj Z0C 0) ev0 xr3=(739616,0):=by
 simp only [xr3,Zc,Xn,Xx]
 kernel_rfl
theorem Zow:(Zc (Zj Z0C 0) ev0 xr4).2=32:=by
 simp only [xr4,Zc,Xn,Xx]
 kernel_rfl
theorem Zox:(Zc (Zj Z0C 0) ev0 xr5).2=5:=by
 simp only [xr5,Zc,Xn,Xx]
 kernel_rfl
theorem Zh4:Zf xr1=3∧Zp xr1≤16:=by
 simp only [xr1,Zf,Zp,Xn,Xx]
 exact ⟨by kernel_rfl,of_decide_eq_true (by kernel_rfl)⟩
theorem Zh5:Zf xr2=3∧Zp xr2≤16:=by
 simp only [xr2,Zf,Zp,Xn,Xx]
 exact ⟨by kernel_rfl,of_decide_eq_true (by kernel_rfl)⟩
theorem Zh6:Zf xr3=3∧Zp xr3≤16:=by
 simp only [xr3,Zf,Zp,Xn,Xx]
 exact ⟨by kernel_rfl,of_decide_eq_true (by kernel_rfl)⟩
theorem Zh7:Zf xr4=3∧Zp xr4≤16:=by
 simp only [xr4,Zf,Zp,Xn,Xx]
 exact ⟨by kernel_rfl,of_decide_eq_true (by kernel_rfl)⟩
theorem Zh8:Zf xr5=1∧Zp xr5≤16:=by
 simp only [xr5,Zf,Zp,Xn,Xx]
 exact ⟨by kernel_rfl,of_decide_eq_true (by kernel_rfl)⟩
def cd1:List Ins:=[⟨4,0⟩,⟨1,3⟩,⟨15,0⟩,⟨19,0⟩,⟨24,0⟩]
def cd2:List Ins:=[⟨4,0⟩,⟨1,2⟩,⟨18,0⟩,⟨24,0⟩]
theorem ZqR:Z2u cd1=(3,0):=by kernel_rfl
theorem Zoy:Z2u cd2=(3,0):=by kernel_rfl
theorem ZqS:Z0r (Zj Z0C 0) ev0 cd1=(739620,[(739619,739620)],0):=by kernel_rfl
theorem Zoz:Z0r (Zj Z0C 0) ev0 cd2=(739620,[(739617,739620)],0):=by kernel_rfl
open Go Go.Eng Go.RowKit Go.Proofs
abbrev Zhr:Value:=Z15 Z0C (.slice none 0 0) (.slice none 0 0) (.int .i64 0) (.slice none 0 0) (.int .i64 1000)
theorem Zh9 (w:World):(Instr.build 30 #[(5,.bool true),(6,.bool true)]).run Tryz.prog w=.ok (.agg #[.bool false,.bool false,.bool false,.bool false,.bool false,.bool true,.bool true]) w:=by kernel_rfl
theorem Zha (w:World):(Instr.build 37 #[(0,.agg #[.bool false,.bool false,.bool false,.bool false,.bool false,.bool true,.bool true]),(4,.int .i64 1000)]).run Tryz.prog w=.ok Zhr w:=by kernel_rfl
theorem ZbI (w:World):(Instr.build 29 #[(0,.int .i64 739616),(1,.int .i64 (-1))]).run Tryz.prog w=.ok (Z6O ev0) w:=by kernel_rfl
theorem ZbJ {w:World} (hL:Z0q w) (hM:Z2C w):Z1m w Z0C (.slice none 0 0) (.slice none 0 0) (.int .i64 0) (.slice none 0 0) (.int .i64 1000):=
 ⟨Row.slv (X:=[]) (Row.nil (base:=0) (T:=0)) (by simp),Row.slv (X:=[]) (Row.nil (base:=0) (T:=0)) (by simp),hL,hM,Zli⟩
theorem Z2G (w:World):CC 48 #[] w fun r w'=>r=Zhr∧Stp [] w w':=by
 refine cW0 3 Tryz.func48 ?_
 refine W ?_
 refine Z1 Z7 rfl ?_
 rintro _ w1 ⟨b0,rfl,hb0,k0,hS⟩
 refine W ?_
 refine Z6 (vs:=[(5,.bool true),(6,.bool true)]) rfl (Zh9) rfl ?_
 refine Z6 (vs:=[(0,.agg #[.bool false,.bool false,.bool false,.bool false,.bool false,.bool true,.bool true]),(4,.int .i64 1000)]) rfl (Zha) rfl ?_
 refine Z2 (Z3 (us:=Jm Z0C (.slice none 0 0) (.slice none 0 0) (.int .i64 0) (.slice none 0 0) (.int .i64 1000)) rfl rfl rfl rfl (Z2F rfl rfl ⟨rfl,rfl,rfl⟩) k0 rfl) ?_
 rintro _ w2 ⟨hT,k0⟩
 refine W ?_
 refine Zl rfl rfl rfl k0 rfl ?_
 exact .mk ⟨rfl,hS.own hT (fun c hc=>.inr (by simp at hc;omega))⟩
theorem Z03 (s:Str) (x:Nd) (d e:Int) (er:Value) (m:Int) (w:World) (hp:Z0I s=.ok x) (ht:Zf x≠0∧Zp x≤16) (hv:Zc (Zj Z0C 0) ev0 x=(d,e)∨(d=0∧e≠0∧(Zc (Zj Z0C 0) ev0 x).2=e)) (he:d=0∨e=0) (hL:Z0q w) (hM:Z2C w) (hm:w.cell? ⟨2,0,none⟩=some (.int .i64 m)) (hv4:w.cell? ⟨5,0,none⟩=some er) (hev:er=.nilIface∨∃ te pe,er=.iface te pe) (hl:s.length≤1000000) :
 CC 50 #[str s,.int .i64 d,.int .i64 e] w fun r w'=>r=.bool true∧Stp [] w w':=by
 have hd:(if (Zc (Zj Z0C 0) ev0 x).2=0 then (Zc (Zj Z0C 0) ev0 x).1 else 0)=d∧(Zc (Zj Z0C 0) ev0 x).2=e:=by
  rcases hv with h|⟨h1,h2,h3⟩
  rw [h]
  dsimp only
  rcases he with h0|h0
  subst h0
  exact ⟨by split<;>rfl,rfl⟩
  rw [if_pos h0]
  exact ⟨rfl,rfl⟩
  rw [h3,if_neg h2]
  exact ⟨h1.symm,rfl⟩
 refine cW3 35 Tryz.func50 ?_
 refine W ?_
 refine CL rfl (Zm rfl) rfl (Zcy [] s er m _ (by simp) hL hm hv4 hev hl) ?_
 rintro r w1 ⟨hr,hS⟩
 rw [hp] at hr
 obtain ⟨kv,rfl,hkv⟩:=hr
 refine W ?_
 refine Z1 Z7 rfl ?_
 rintro _ w2 ⟨b7,rfl,hb7,k7,hT⟩
 refine W ?_
 refine Z2 (Z3 (us:=ndC x kv) rfl rfl rfl rfl (Zh hkv) k7 rfl) ?_
 rintro _ w3 ⟨hT2,k7⟩
 have hT3:=hT.own hT2 (fun c hc=>.inr (by simp at hc;omega))
 replace hkv:=hkv.up hT3
 replace hS:=hS.trans hT3
 clear hT hT2 hT3
 repeat'(first|refine W1 ?_|omega|refine VG ?_ ?_<;>intro hg|refine VC ?_ ?_<;>intro hc)
 refine ZDr 9 [] [] [(0,1),(1,0),(2,2),(3,2),(4,0),(5,0),(6,0),(7,0),(8,0)] (fun w1 hS1=>?_)
 have hT:=hS1
 replace k7:=k7.up hT
 replace hkv:=hkv.up hT
 replace hS:=hS.trans hT
 clear hT hS1
 refine D ?_
 refine ZC rfl trivial (fun w'=>Z0v (vs:=[(0,.int .i64 739616),(1,.int .i64 (-1))]) rfl (ZbI)) rfl ?_
 refine D ?_
 refine Za rfl trivial (Z4 rfl Z7u (Z2G _)) (fun _ _ h=>h.2) rfl ?_
 rintro _ w5 ⟨rfl,hT⟩
 replace k7:=k7.up hT
 replace hkv:=hkv.up hT
 replace hS:=hS.trans hT
 clear hT
 refine D ?_
 refine Za rfl trivial (Z4 rfl (Z1e rfl rfl rfl rfl) (ZcR _ x 0 ev0 Z0C _ _ _ _ _ _ ⟨kv,rfl,hkv⟩ ht.1 ht.2 (ZbJ (hL.up hS) (hM.up hS)) ZbH ⟨rfl,rfl,rfl⟩)) (fun _ _ h=>h.2) rfl ?_
 rintro _ w6 ⟨rfl,hT⟩
 replace hS:=hS.trans hT
 clear hT
 rw [hd.1,hd.2]
 refine D ?_
 refine W ?_
 simp only [decide_true]
 refine W ?_
 refine WR ?_
 exact .mk ⟨by simp,hS⟩
theorem Z2H (a:Int) (w:World):(Instr.build 51 #[(0,.int .i64 a)]).run Tryz.prog w=.ok (agg (⟨a,0⟩:Ins)) w:=by kernel_rfl
theorem ZbK (a b:Int) (w:World):(Instr.build 51 #[(0,.int .i64 a),(1,.int .i64 b)]).run Tryz.prog w=.ok (agg (⟨a,b⟩:Ins)) w:=by kernel_rfl
theorem Zhb (w:World):(Instr.buildSlice 40 5 #[(0,agg (⟨4,0⟩:Ins)),(1,agg (⟨1,3⟩:Ins)),(2,agg (⟨15,0⟩:Ins)),(3,agg (⟨19,0⟩:Ins)),(4,agg (⟨24,0⟩:Ins))]).run Tryz.prog w=.ok (.slice (some ⟨w.heap.size,0,none⟩) 5 5) (w.alloc (.cells (cd1.flatMap Z9.enc).toArray 51)):=by kernel_rfl
theorem ZbL (w:World):(Instr.buildSlice 40 4 #[(0,agg (⟨4,0⟩:Ins)),(1,agg (⟨1,2⟩:Ins)),(2,agg (⟨18,0⟩:Ins)),(3,agg (⟨24,0⟩:Ins))]).run Tryz.prog w=.ok (.slice (some ⟨w.heap.size,0,none⟩) 4 4) (w.alloc (.cells (cd2.flatMap Z9.enc).toArray 51)):=by kernel_rfl
theorem Z1n (a b:Int) (w:World):(Instr.build 111 #[(0,.int .i64 a),(1,.int .i64 b)]).run Tryz.prog w=.ok (agg ((a,b):Spn)) w:=by kernel_rfl
theorem Z5s (er:Value) (m:Int) (w:World) (hL:Z0q w) (hM:Z2C w) (hm:w.cell? ⟨2,0,none⟩=some (.int .i64 m)) (hv4:w.cell? ⟨5,0,none⟩=some er) (hev:er=.nilIface∨∃ te pe,er=.iface te pe) :
 CC 14 #[] w fun r w'=>r=.bool true∧Stp [] w w':=by
 refine cW0 81 Tryz.func14 ?_
 refine W ?_
 refine Z6 (vs:=[(0,.int .i64 739616),(1,.int .i64 (-1))]) rfl (ZbI) rfl ?_
 refine Z1 Z7 rfl ?_
 rintro _ w1 ⟨b1,rfl,hb1,k1,hS⟩
 refine W ?_
 refine Z2 (Z3 (us:=evC ev0) rfl rfl rfl rfl (Z42 _) k1 rfl) ?_
 rintro _ w2 ⟨hT,k1⟩
 replace hS:=hS.own hT (fun c hc=>.inr (by simp at hc;omega))
 clear hT
 refine W ?_
 refine Z6 (vs:=[(0,.int .i64 4)]) rfl (Z2H _) rfl ?_
 refine Z6 (vs:=[(0,.int .i64 1),(1,.int .i64 3)]) rfl (ZbK _ _) rfl ?_
 refine Z6 (vs:=[(0,.int .i64 15)]) rfl (Z2H _) rfl ?_
 refine Z6 (vs:=[(0,.int .i64 19)]) rfl (Z2H _) rfl ?_
 refine Z6 (vs:=[(0,.int .i64 24)]) rfl (Z2H _) rfl ?_
 refine Z1 (Z0 (vs:=[(0,agg (⟨4,0⟩:Ins)),(1,agg (⟨1,3⟩:Ins)),(2,agg (⟨15,0⟩:Ins)),(3,agg (⟨19,0⟩:Ins)),(4,agg (⟨24,0⟩:Ins))]) rfl (Zhb)) rfl ?_
 rintro cv1 w3 hN
 have hc1:SlV [] w3 cv1 cd1:=hN.slv (by simp) rfl rfl (by simp [maxLen,cd1])
 have hT:=Z5.stp hN
 clear hN
 replace k1:=k1.up hT
 replace hS:=hS.trans hT
 clear hT
 refine W ?_
 refine ZDr 11 [] [] [(0,0),(1,1),(2,2),(3,2),(4,0),(5,0),(6,0),(7,0),(8,0),(9,0),(10,0)] (fun w1 hS1=>?_)
 have hT:=hS1
 replace k1:=k1.up hT
 replace hc1:=hc1.up hT
 replace hS:=hS.trans hT
 clear hT hS1
 refine D ?_
 refine Za rfl trivial (Z4 rfl Z7u (Z2G _)) (fun _ _ h=>h.2) rfl ?_
 rintro _ w5 ⟨rfl,hT⟩
 replace k1:=k1.up hT
 replace hc1:=hc1.up hT
 replace hS:=hS.trans hT
 clear hT
 refine D ?_
 refine Za rfl trivial (Z4 rfl (Z1e rfl rfl rfl rfl) (Z4w cv1 cd1 3 0 ev0 Z0C _ _ _ _ _ _ hc1 ZqR (ZbJ (hL.up hS) (hM.up hS)) ZbH ⟨rfl,rfl,rfl⟩)) (fun _ _ h=>h.choose_spec.2.2) rfl ?_
 rintro _ w6 ⟨pv1,rfl,hp1⟩
 rw [ZqS] at hp1 ⊢
 dsimp only at hp1 ⊢
 have hsp1:=hp1.slv (X:=[]) (by simp)
 replace k1:=k1.up hp1.2
 replace hS:=hS.trans hp1.2
 clear hp1 hc1
 refine D ?_
 refine W ?_
 refine ZDr 15 [] [] [(0,0),(1,0),(2,0),(3,0),(5,1),(4,9),(6,2),(7,2),(8,0),(9,0),(10,0),(11,0),(12,0),(13,0),(14,0)] (fun w1 hS1=>?_)
 have hT:=hS1
 replace k1:=k1.up hT
 replace hsp1:=hsp1.up hT
 replace hS:=hS.trans hT
 clear hT hS1
 refine ZC rfl trivial (fun w'=>Z0v (vs:=[(0,.int .i64 4)]) rfl (Z2H _)) rfl ?_
 refine ZC rfl trivial (fun w'=>Z0v (vs:=[(0,.int .i64 1),(1,.int .i64 2)]) rfl (ZbK _ _)) rfl ?_
 refine ZC rfl trivial (fun w'=>Z0v (vs:=[(0,.int .i64 18)]) rfl (Z2H _)) rfl ?_
 refine ZC rfl trivial (fun w'=>Z0v (vs:=[(0,.int .i64 24)]) rfl (Z2H _)) rfl ?_
 refine D ?_
 apply ZhB rfl
 refine Zb2 rfl trivial (Z0 (vs:=[(0,agg (⟨4,0⟩:Ins)),(1,agg (⟨1,2⟩:Ins)),(2,agg (⟨18,0⟩:Ins)),(3,agg (⟨24,0⟩:Ins))]) rfl (ZbL)) (fun _ _ h=>(Z5.stp h).mono (by simp)) rfl ?_
 rintro cv2 w8 hN
 have hc2:SlV [] w8 cv2 cd2:=hN.slv (by simp) rfl rfl (by simp [maxLen,cd2])
 have hT:=Z5.stp hN
 clear hN
 replace k1:=k1.up hT
 replace hsp1:=hsp1.up hT
 replace hS:=hS.trans hT
 clear hT
 refine Za rfl trivial (Z4 rfl Z7u (Z2G _)) (fun _ _ h=>h.2) rfl ?_
 rintro _ w9 ⟨rfl,hT⟩
 replace k1:=k1.up hT
 replace hsp1:=hsp1.up hT
 replace hc2:=hc2.up hT
 replace hS:=hS.trans hT
 clear hT
 refine D ?_
 refine Za rfl trivial (Z4 rfl (Z1e rfl rfl rfl rfl) (Z4w cv2 cd2 3 0 ev0 Z0C _ _ _ _ _ _ hc2 Zoy (ZbJ (hL.up hS) (hM.up hS)) ZbH ⟨rfl,rfl,rfl⟩)) (fun _ _ h=>h.choose_spec.2.2) rfl ?_
 rintro _ w10 ⟨pv2,rfl,hp2⟩
 rw [Zoz] at hp2 ⊢
 dsimp only at hp2 ⊢
 have hsp2:=hp2.slv (X:=[]) (by simp)
 replace hsp1:=hsp1.up hp2.2
 replace hS:=hS.trans hp2.2
 clear hp2 hc2 k1
 refine D ?_
 refine W ?_
 simp only [eq_self,decide_true]
 refine Z6 (vs:=[(0,.int .i64 739619),(1,.int .i64 739620)]) rfl (Z1n _ _) rfl ?_
 refine Z3y rfl ?_
 refine Z1 (Z0 (vs:=[(0,agg ((739619,739620):Spn))]) rfl (Z0T _)) rfl ?_
 rintro bw w11 hN
 have hbw:SlV [] w11 bw [((739619,739620):Spn)]:=hN.slv (by simp) rfl rfl (by simp [maxLen])
 have hT:=Z5.stp hN
 clear hN
 replace hsp1:=hsp1.up hT
 replace hsp2:=hsp2.up hT
 replace hS:=hS.trans hT
 clear hT
 refine Z3y rfl ?_
 refine CL rfl (Zb rfl rfl) rfl (Z0B _ bw _ _ _ hsp1 hbw) ?_
 rintro _ w12 ⟨rfl,hT⟩
 replace hsp2:=hsp2.up hT
 replace hS:=hS.trans hT
 clear hT
 simp only [eq_self,decide_true]
 refine W ?_
 simp only [eq_self,decide_true]
 refine Z6 (vs:=[(0,.int .i64 739617),(1,.int .i64 739620)]) rfl (Z1n _ _) rfl ?_
 refine Z3y rfl ?_
 refine Z1 (Z0 (vs:=[(0,agg ((739617,739620):Spn))]) rfl (Z0T _)) rfl ?_
 rintro bw w11 hN
 have hbw:SlV [] w11 bw [((739617,739620):Spn)]:=hN.slv (by simp) rfl rfl (by simp [maxLen])
 have hT:=Z5.stp hN
 clear hN
 replace hsp2:=hsp2.up hT
 replace hS:=hS.trans hT
 clear hT
 refine Z3y rfl ?_
 refine CL rfl (Zb rfl rfl) rfl (Z0B _ bw _ _ _ hsp2 hbw) ?_
 rintro _ w12 ⟨rfl,hT⟩
 replace hsp2:=hsp2.up hT
 replace hS:=hS.trans hT
 clear hT
 simp only [eq_self,decide_true]
 refine W ?_
 refine CL rfl (ZE rfl rfl rfl) rfl (Z03 sr1 xr1 739619 0 er m _ Zoo ⟨by rw [Zh4.1];decide,Zh4.2⟩ (.inl Zot) (by decide) (hL.up hS) (hM.up hS) (hS.cell (by simp) hm) (hS.cell (by simp) hv4) hev (by decide)) ?_
 rintro _ wg ⟨rfl,hT⟩
 replace hS:=hS.trans hT
 clear hT
 refine W ?_
 refine CL rfl (ZE rfl rfl rfl) rfl (Z03 sr2 xr2 739585 0 er m _ Zop ⟨by rw [Zh5.1];decide,Zh5.2⟩ (.inl Zou) (by decide) (hL.up hS) (hM.up hS) (hS.cell (by simp) hm) (hS.cell (by simp) hv4) hev (by decide)) ?_
 rintro _ wg ⟨rfl,hT⟩
 replace hS:=hS.trans hT
 clear hT
 refine W ?_
 refine CL rfl (ZE rfl rfl rfl) rfl (Z03 sr3 xr3 739616 0 er m _ Zoq ⟨by rw [Zh6.1];decide,Zh6.2⟩ (.inl Zov) (by decide) (hL.up hS) (hM.up hS) (hS.cell (by simp) hm) (hS.cell (by simp) hv4) hev (by decide)) ?_
 rintro _ wg ⟨rfl,hT⟩
 replace hS:=hS.trans hT
 clear hT
 refine W ?_
 refine CL rfl (ZE rfl rfl rfl) rfl (Z03 sr4 xr4 0 32 er m _ Zor ⟨by rw [Zh7.1];decide,Zh7.2⟩ (.inr ⟨rfl,by decide,Zow⟩) (by decide) (hL.up hS) (hM.up hS) (hS.cell (by simp) hm) (hS.cell (by simp) hv4) hev (by decide)) ?_
 rintro _ wg ⟨rfl,hT⟩
 replace hS:=hS.trans hT
 clear hT
 refine W ?_
 refine CL rfl (ZE rfl rfl rfl) rfl (Z03 sr5 xr5 0 5 er m _ Zos ⟨by rw [Zh8.1];decide,Zh8.2⟩ (.inr ⟨rfl,by decide,Zox⟩) (by decide) (hL.up hS) (hM.up hS) (hS.cell (by simp) hm) (hS.cell (by simp) hv4) hev (by decide)) ?_
 rintro _ wg ⟨rfl,hT⟩
 replace hS:=hS.trans hT
 clear hT
 refine W ?_
 refine WR ?_
 exact .mk ⟨by simp,hS⟩
 refine Zb2 rfl trivial (Z4 rfl Z7u (Z2G _)) (fun _ _ h=>h.2) rfl ?_
 rintro _ w9 ⟨rfl,hT⟩
 replace k1:=k1.up hT
 replace hsp1:=hsp1.up hT
 replace hS:=hS.trans hT
 clear hT
 refine Za rfl trivial (Z0 (vs:=[(0,agg (⟨4,0⟩:Ins)),(1,agg (⟨1,2⟩:Ins)),(2,agg (⟨18,0⟩:Ins)),(3,agg (⟨24,0⟩:Ins))]) rfl (ZbL)) (fun _ _ h=>(Z5.stp h).mono (by simp)) rfl ?_
 rintro cv2 w8 hN
 have hc2:SlV [] w8 cv2 cd2:=hN.slv (by simp) rfl rfl (by simp [maxLen,cd2])
 have hT:=Z5.stp hN
 clear hN
 replace k1:=k1.up hT
 replace hsp1:=hsp1.up hT
 replace hS:=hS.trans hT
 clear hT
 refine D ?_
 refine Za rfl trivial (Z4 rfl (Z1e rfl rfl rfl rfl) (Z4w cv2 cd2 3 0 ev0 Z0C _ _ _ _ _ _ hc2 Zoy (ZbJ (hL.up hS) (hM.up hS)) ZbH ⟨rfl,rfl,rfl⟩)) (fun _ _ h=>h.choose_spec.2.2) rfl ?_
 rintro _ w10 ⟨pv2,rfl,hp2⟩
 rw [Zoz] at hp2 ⊢
 dsimp only at hp2 ⊢
 have hsp2:=hp2.slv (X:=[]) (by simp)
 replace hsp1:=hsp1.up hp2.2
 replace hS:=hS.trans hp2.2
 clear hp2 hc2 k1
 refine D ?_
 refine W ?_
 simp only [eq_self,decide_true]
 refine Z6 (vs:=[(0,.int .i64 739619),(1,.int .i64 739620)]) rfl (Z1n _ _) rfl ?_
 refine Z3y rfl ?_
 refine Z1 (Z0 (vs:=[(0,agg ((739619,739620):Spn))]) rfl (Z0T _)) rfl ?_
 rintro bw w11 hN
 have hbw:SlV [] w11 bw [((739619,739620):Spn)]:=hN.slv (by simp) rfl rfl (by simp [maxLen])
 have hT:=Z5.stp hN
 clear hN
 replace hsp1:=hsp1.up hT
 replace hsp2:=hsp2.up hT
 replace hS:=hS.trans hT
 clear hT
 refine Z3y rfl ?_
 refine CL rfl (Zb rfl rfl) rfl (Z0B _ bw _ _ _ hsp1 hbw) ?_
 rintro _ w12 ⟨rfl,hT⟩
 replace hsp2:=hsp2.up hT
 replace hS:=hS.trans hT
 clear hT
 simp only [eq_self,decide_true]
 refine W ?_
 simp only [eq_self,decide_true]
 refine Z6 (vs:=[(0,.int .i64 739617),(1,.int .i64 739620)]) rfl (Z1n _ _) rfl ?_
 refine Z3y rfl ?_
 refine Z1 (Z0 (vs:=[(0,agg ((739617,739620):Spn))]) rfl (Z0T _)) rfl ?_
 rintro bw w11 hN
 have hbw:SlV [] w11 bw [((739617,739620):Spn)]:=hN.slv (by simp) rfl rfl (by simp [maxLen])
 have hT:=Z5.stp hN
 clear hN
 replace hsp2:=hsp2.up hT
 replace hS:=hS.trans hT
 clear hT
 refine Z3y rfl ?_
 refine CL rfl (Zb rfl rfl) rfl (Z0B _ bw _ _ _ hsp2 hbw) ?_
 rintro _ w12 ⟨rfl,hT⟩
 replace hsp2:=hsp2.up hT
 replace hS:=hS.trans hT
 clear hT
 simp only [eq_self,decide_true]
 refine W ?_
 refine CL rfl (ZE rfl rfl rfl) rfl (Z03 sr1 xr1 739619 0 er m _ Zoo ⟨by rw [Zh4.1];decide,Zh4.2⟩ (.inl Zot) (by decide) (hL.up hS) (hM.up hS) (hS.cell (by simp) hm) (hS.cell (by simp) hv4) hev (by decide)) ?_
 rintro _ wg ⟨rfl,hT⟩
 replace hS:=hS.trans hT
 clear hT
 refine W ?_
 refine CL rfl (ZE rfl rfl rfl) rfl (Z03 sr2 xr2 739585 0 er m _ Zop ⟨by rw [Zh5.1];decide,Zh5.2⟩ (.inl Zou) (by decide) (hL.up hS) (hM.up hS) (hS.cell (by simp) hm) (hS.cell (by simp) hv4) hev (by decide)) ?_
 rintro _ wg ⟨rfl,hT⟩
 replace hS:=hS.trans hT
 clear hT
 refine W ?_
 refine CL rfl (ZE rfl rfl rfl) rfl (Z03 sr3 xr3 739616 0 er m _ Zoq ⟨by rw [Zh6.1];decide,Zh6.2⟩ (.inl Zov) (by decide) (hL.up hS) (hM.up hS) (hS.cell (by simp) hm) (hS.cell (by simp) hv4) hev (by decide)) ?_
 rintro _ wg ⟨rfl,hT⟩
 replace hS:=hS.trans hT
 clear hT
 refine W ?_
 refine CL rfl (ZE rfl rfl rfl) rfl (Z03 sr4 xr4 0 32 er m _ Zor ⟨by rw [Zh7.1];decide,Zh7.2⟩ (.inr ⟨rfl,by decide,Zow⟩) (by decide) (hL.up hS) (hM.up hS) (hS.cell (by simp) hm) (hS.cell (by simp) hv4) hev (by decide)) ?_
 rintro _ wg ⟨rfl,hT⟩
 replace hS:=hS.trans hT
 clear hT
 refine W ?_
 refine CL rfl (ZE rfl rfl rfl) rfl (Z03 sr5 xr5 0 5 er m _ Zos ⟨by rw [Zh8.1];decide,Zh8.2⟩ (.inr ⟨rfl,by decide,Zox⟩) (by decide) (hL.up hS) (hM.up hS) (hS.cell (by simp) hm) (hS.cell (by simp) hv4) hev (by decide)) ?_
 rintro _ wg ⟨rfl,hT⟩
 replace hS:=hS.trans hT
 clear hT
 refine W ?_
 refine WR ?_
 exact .mk ⟨by simp,hS⟩
theorem ZqT {n:Nat} {e:Env} {x1 x2 x3 x4 x5 x6 x7:Operand} {v1 v2 v3 v4 v5 v6 v7:Value} (h1:ev e x1=some v1) (h2:ev e x2=some v2) (h3:ev e x3=some v3) (h4:ev e x4=some v4) (h5:ev e x5=some v5) (h6:ev e x6=some v6) (h7:ev e x7=some v7):∀ a,Has n e a→#[x1,x2,x3,x4,x5,x6,x7].map a.eval=#[v1,v2,v3,v4,v5,v6,v7]:=
 fun a ha=>by simp [ha.ev h1,ha.ev h2,ha.ev h3,ha.ev h4,ha.ev h5,ha.ev h6,ha.ev h7]
theorem Gn.ne {t:Int} {d:Nat} {x:Nd} (h:Gn t d x):t≠0:=by
 induction h with
 | cond d t c a b h _ _ _ _ _ _=>omega
 | _=>decide
theorem ZcS {x:Nd} (h:Z4a x=0):Zp x≤12∧Zf x≠0∧(Z1h x).length≤200:=by
 unfold Z4a at h
 split at h
 rename_i h1
 split at h
 simp at h
 rename_i h2
 split at h
 simp at h
 exact ⟨h1,h2,by omega⟩
 simp at h
theorem Zfa {x:Nd} (h:Z4a x=0):Z2u (Z1h x)=(Zf x,0):=by
 obtain ⟨h1,h2,h3⟩:=ZcS h
 exact Zcc x h2 h1 h3
theorem Zfb (v sv:Value) (code:List Ins) (t kn r e:Int) (sp:List Spn) (ev:List Int) (c:Cal) (hv cv zo zs hr:Value) (w:World) (hs:SlV [] w v code) (hver:Z2u code=(t,0)) (hcal:Z1m w c hv cv zo zs hr) (hev:Z3x ev) (ho:zo.oneCell'=true∧zs.oneCell'=true∧hr.oneCell'=true)
 (hsp:SlV [] w sv sp) (hrun:Z0r (Zj c kn) ev code=(r,sp,e)) :
 CC 16 #[v,Z6O ev,Z15 c hv cv zo zs hr,.int .i64 kn,.int .i64 r,sv,.int .i64 e] w fun q w'=>q=.bool true∧Stp [] w w':=by
 refine cW7 40 Tryz.func16 ?_
 refine W ?_
 refine Z1 (Zo rfl) rfl ?_
 rintro _ w1 ⟨b8,rfl,hb8,k8,hS⟩
 replace k8:Blk w1 b8 29 (evC ev):=k8
 refine Z1 (Zo rfl) rfl ?_
 rintro _ w2 ⟨b9,rfl,hb9,k9,hT⟩
 replace k9:Blk w2 b9 37 (Jm c hv cv zo zs hr):=k9
 replace k8:=k8.up hT
 replace hS:=hS.trans hT
 clear hT
 refine W ?_
 refine CL rfl (Z1e rfl rfl rfl rfl) rfl (Z4w v code t kn ev c hv cv zo zs hr _ (hs.up hS) hver (hcal.up hS) hev ho) ?_
 rintro _ w3 ⟨pv,rfl,hp⟩
 rw [hrun] at hp ⊢
 dsimp only at hp ⊢
 have hps:=hp.slv (X:=[]) (by simp)
 replace hS:=hS.trans hp.2
 refine W ?_
 simp only [eq_self,decide_true]
 refine W ?_
 simp only [eq_self,decide_true]
 refine W ?_
 refine CL rfl (Zb rfl rfl) rfl (Z0B pv sv _ _ _ hps (hsp.up hS)) ?_
 rintro _ w4 ⟨rfl,hT⟩
 refine W ?_
 refine WR ?_
 exact .mk ⟨by simp,hS.trans hT⟩
theorem Z3e (z m:Int) (w:World) (hm:0≤m) (hm2:m≤4611686018427387903) (hz:I64 z):CC 17 #[.int .i64 z,.int .i64 m] w fun r w'=>∃ x:Int,r=.int .i64 x∧-m≤x∧x≤m∧Stp [] w w':=by
 refine cW2 12 Tryz.func17 ?_
 refine W ?_
 refine CL rfl (Zb rfl rfl) rfl (ZR z (2 * m+1) _ (by omega) hz) ?_
 rintro _ w1 ⟨rfl,hT⟩
 have hr:=Jj (if z<0 then -(z+1) else z) (2 * m+1) (by omega)
 generalize (if z<0 then -(z+1) else z) % (2 * m+1)=q at hr ⊢
 refine W ?_
 refine WR ?_
 exact .mk ⟨q - m,rfl,by omega,by omega,hT⟩
end Go.Proofs.YtjdjdoefppebkaaGreatDoor
