/-
Merged by program out of own texts: Gq3, Gq4, Gq5, Gq6, Mad4, Spn1, Vev1, Vev2, Vev3, Vev4, Vev5, Vev6, Vev7, Lvx1, Lvx2, Vla0, Pdy1, Vla2, Arg20, Arg21, Gos1.
-/
import Derived.Test.YtjdjdoefppebkaaGreatDoorM5
import Derived.JoinedOf
set_option linter.unusedVariables false
set_option linter.unusedSimpArgs false
namespace Go.Proofs.YtjdjdoefppebkaaGreatDoor
open Go Go.Eng Go.RowKit
set_option maxHeartbeats 1000000
theorem Z65 (d:Nat) (hd6:d≤6) (ih:∀ e,d=e+1→Z1T 43 1 e∧Z1T 44 2 e∧Z1T 45 3 e):Z1T 44 2 d:=by
 intro X w bm lv l i z hz hmk hsl hl hi hX
 subst hz
 have hsz:szD (d+1)=1+3 * szD d:=rfl
 refine cW2 80 Tryz.func44 ?_
 refine W ?_
 refine Z3 Z6 rfl ?_
 rintro _ w1 ⟨b4,rfl,hb4,hblk4,hS0⟩
 have gm:G3 (b4 :: bm :: X) w1 w1 bm b4 lv l i:=⟨hmk.up hS0,hsl.up hS0,Stp.refl _ _,⟨_,rfl,hblk4⟩,fun h=>by have:=hmk.lt;omega,fun c hc=>by
  simp only [Xf] at hc
  have h1:=hblk4.lt
  have h2:=hmk.lt
  have h3:=hS0.size
  rcases hc with rfl|rfl|hc
  exact h1
  omega
  have:=hX c hc;omega⟩
 clear hblk4 hX hsl hmk
 refine W ?_
 refine CL rfl (Zb rfl rfl) rfl (ZQ bm lv l _ 6 _ (by decide) (by omega) gm.mkr gm.sl hl) ?_
 rintro _ wq ⟨q,rfl,hq,hm,hS⟩
 replace gm:=gm.nxt hm hS
 clear hm hS
 refine W ?_
 refine CL rfl (Zb rfl rfl) rfl (Z4K bm lv l _ d _ _ rfl gm.mkr gm.sl) ?_
 rintro _ wq ⟨dn,rfl,hdn,hT⟩
 replace gm:=gm.up hT
 clear hT
 cases dn with
 | true=>
   repeat'(first|refine W1 ?_|omega|refine VG ?_ ?_<;>intro hg|refine VC ?_ ?_<;>intro hc)
   apply Zf (vs:=[(0,.int .i64 2),(1,.int .i64 (1 - (q:Int) / 5))]) rfl (Z3P _ _) rfl
   have hy:SlV (α:=Nd) (b4 :: bm :: X) _ (.slice none 0 0) []:=Z0Z _ wq
   obtain ⟨cs,hcl,hcb⟩:=gm.blk
   refine Z1 (Z2 (us:=ndC (.mk 2 (1 - (q:Int) / 5) [] []) _) rfl rfl rfl rfl (Zh (x:=(.mk 2 (1 - (q:Int) / 5) [] [])) hy) hcb hcl.symm) ?_
   rintro _ wz ⟨hz,hbz⟩
   refine W ?_
   refine Zk rfl rfl rfl hbz rfl ?_
   have hf:=gm.fin (y:=(.mk 2 (1 - (q:Int) / 5) [] [])) hS0 hb4 hy hz
   exact .mk ⟨_,_,hf.1,.bool _ _ (by omega),hf.2.1,by omega,hf.2.2⟩
 | false=>
   have hd1:d≠0:=fun h=>absurd (hdn h) (by decide)
   obtain ⟨e,rfl⟩:∃ e,d=e+1:=⟨d - 1,by omega⟩
   replace ih:=ih e rfl
   have hsp:=Z0N e
   clear hd1 hdn
   by_cases k0:q=0
   focus repeat'(first|refine W1 ?_|omega|refine VG ?_ ?_<;>intro hg|refine VC ?_ ?_<;>intro hc)
   refine CL rfl (Zb rfl rfl) rfl (ZQ bm lv l _ 2 _ (by decide) (by omega) gm.mkr gm.sl hl) ?_
   rintro _ wq ⟨q',rfl,hq',hm,hS⟩
   replace gm:=gm.nxt hm hS
   clear hm hS
   refine W ?_
   apply Zf (vs:=[(0,.int .i64 2),(1,.int .i64 _)]) rfl (Z3P _ _) rfl
   have hy:SlV (α:=Nd) (b4 :: bm :: X) _ (.slice none 0 0) []:=Z0Z _ wq
   obtain ⟨cs,hcl,hcb⟩:=gm.blk
   refine Z1 (Z2 (us:=ndC (.mk 2 (q':Int) [] []) _) rfl rfl rfl rfl (Zh (x:=(.mk 2 (q':Int) [] [])) hy) hcb hcl.symm) ?_
   rintro _ wz ⟨hz,hbz⟩
   refine W ?_
   refine Zk rfl rfl rfl hbz rfl ?_
   have hf:=gm.fin (y:=(.mk 2 (q':Int) [] [])) hS0 hb4 hy hz
   exact .mk ⟨_,_,hf.1,.bool _ _ (by omega),hf.2.1,by omega,hf.2.2⟩
   by_cases k1:q=1
   focus repeat'(first|refine W1 ?_|omega|refine VG ?_ ?_<;>intro hg|refine VC ?_ ?_<;>intro hc)
   refine W ?_
   refine CL rfl (Zb rfl rfl) rfl ((ih.2.1) (b4 :: bm :: X) _ bm lv l _ _ (by omega) gm.mkr gm.sl hl (by omega) gm.hX) ?_
   rintro _ wq ⟨y0,i0,⟨k0,rfl,s0⟩,g0,hm,hi0,hS⟩
   obtain ⟨p0,c0,rfl,-⟩:=id s0
   replace gm:=gm.nxt hm hS
   clear hm hS
   refine W ?_
   refine Z3 (Z0 (vs:=[(0,.agg #[.int .i64 y0.kind,.int .i64 y0.num,str y0.word,.slice p0 y0.kids.length c0])]) rfl (JW _ _ _ _ _ _)) rfl ?_
   rintro bv wq hN
   have hbv:SlV (b4 :: bm :: X) wq bv [y0]:=hN.slvG (css:=[ndC y0 _]) gm.hX rfl rfl rfl (Z2R s0) (by simp [maxLen])
   have hT:=Z7.stp hN
   clear hN
   replace gm:=gm.up hT
   clear hT
   refine W ?_
   refine CL rfl (Zu rfl rfl rfl) rfl (Zt (b4 :: bm :: X) 5 [110,111,116] bv [y0] _ gm.hX hbv) ?_
   rintro _ wq ⟨⟨ky,rfl,hy⟩,hT⟩
   replace gm:=gm.up hT
   clear hT hbv
   refine W ?_
   obtain ⟨cs,hcl,hcb⟩:=gm.blk
   refine Z1 (Z2 (us:=ndC (.mk 5 0 [110,111,116] [y0]) _) rfl rfl rfl rfl (Zh (x:=(.mk 5 0 [110,111,116] [y0])) hy) hcb hcl.symm) ?_
   rintro _ wz ⟨hz,hbz⟩
   refine W ?_
   refine Zk rfl rfl rfl hbz rfl ?_
   have hf:=gm.fin (y:=(.mk 5 0 [110,111,116] [y0])) hS0 hb4 hy hz
   exact .mk ⟨_,_,hf.1,.not _ _ g0,hf.2.1,by omega,hf.2.2⟩
   by_cases k2:q=2
   focus repeat'(first|refine W1 ?_|omega|refine VG ?_ ?_<;>intro hg|refine VC ?_ ?_<;>intro hc)
   refine W ?_
   refine CL rfl (Zb rfl rfl) rfl ((ih.2.1) (b4 :: bm :: X) _ bm lv l _ _ (by omega) gm.mkr gm.sl hl (by omega) gm.hX) ?_
   rintro _ wq ⟨y0,i0,⟨k0,rfl,s0⟩,g0,hm,hi0,hS⟩
   obtain ⟨p0,c0,rfl,-⟩:=id s0
   replace gm:=gm.nxt hm hS
   clear hm hS
   refine Z3 Z6 rfl ?_
   rintro _ wq ⟨b0',rfl,hb0',e0,hT⟩
   refine Z1 (Z2 (us:=ndC y0 _) rfl rfl rfl rfl (Zh s0) e0 rfl) ?_
   rintro _ wq ⟨hT2,e0⟩
   replace hT:=Je hT hb0' hT2
   clear hT2
   have n0:b0'≠bm:=fun h=>by have:=gm.mkr.lt;omega
   have n0':b0'≠b4:=fun h=>by obtain ⟨_,_,hc⟩:=gm.blk;have:=hc.lt;omega
   replace gm:=gm.up hT
   replace s0:=s0.up hT
   clear hT hb0'
   refine W ?_
   refine Z1e 13 [b4,bm] [] rfl mixed (fun w1 hS1=>?_)
   have hT:=hS1
   replace gm:=gm.up hT
   replace s0:=s0.up hT
   replace e0:=e0.up hT
   clear hT hS1
   refine J3 1 rfl trivial (fun w'=>ZK rfl) rfl (by kernel_rfl) (by kernel_rfl) ?_
   refine Z7U 5 rfl trivial (fun w' hS'=>ZU rfl rfl (e0.ext hS' (by simp;exact ⟨n0',n0⟩)) rfl) rfl (by kernel_rfl) (by kernel_rfl) ?_
   refine J3 6 rfl trivial (fun w'=>ZK rfl) rfl (by kernel_rfl) (by kernel_rfl) ?_
   refine J3 7 rfl trivial (fun w'=>ZK rfl) rfl (by kernel_rfl) (by kernel_rfl) ?_
   refine J3 8 rfl trivial (fun w'=>Z2L rfl rfl (by unfold I64;omega)) rfl (by kernel_rfl) (by kernel_rfl) ?_
   refine Z0w 0 2 (by kernel_rfl) ?_ ?_
   refine ZR rfl trivial (Z0 (vs:=[(0,str [97,110,100]),(1,str [111,114])]) rfl (bS2 _ _)) (fun _ _ h=>(Z7.stp h).mono (by simp)) rfl ?_
   rintro wv wq hN
   have hws:SlV [b4,bm] wq wv JP:=hN.slv (fun c hc=>gm.hX c (by simp at hc;rcases hc with rfl|rfl<;>simp)) rfl rfl (by decide)
   have hT:=Z7.stp hN
   clear hN
   replace gm:=gm.up hT
   replace s0:=s0.up hT
   replace e0:=e0.up hT
   clear hT
   refine Z2d [(2,2),(3,0),(4,1),(9,2),(10,2),(11,2),(12,2)] (by kernel_rfl) (by kernel_rfl) (by kernel_rfl) ?_
   refine WD_eff rfl trivial (Z5 rfl (Zb rfl rfl) (ZQ bm lv l _ 2 _ (by decide) (by omega) gm.mkr gm.sl hl)) (fun _ _ h=>h.choose_spec.2.2.2.mono (by simp)) rfl ?_
   rintro _ wq ⟨q,rfl,hq,hm,hS⟩
   replace gm:=gm.nxt hm hS
   replace s0:=s0.ext hS (by simp) (fun _ h=>.inl h)
   replace e0:=e0.ext hS (by simp;exact n0)
   replace hws:=hws.ext hS (by simp) (fun _ h=>.inl h)
   clear hm hS
   have hqn:q<JP.length:=by show q<2;omega
   refine D ?_
   refine WD_eff rfl trivial (Z5 rfl (Zb rfl rfl) ((ih.2.1) (b4 :: bm :: X) _ bm lv l _ _ (by omega) gm.mkr gm.sl hl (by omega) gm.hX)) (fun _ _ h=>by obtain ⟨_,_,_,_,_,_,h⟩:=h;exact h.mono (by simp)) rfl ?_
   rintro _ wq ⟨y1,i1,⟨k1,rfl,s1⟩,g1,hm,hi1,hS⟩
   obtain ⟨p1,c1,rfl,-⟩:=id s1
   replace gm:=gm.nxt hm hS
   replace s0:=s0.ext hS (by simp) (fun _ h=>.inl h)
   replace e0:=e0.ext hS (by simp;exact n0)
   replace hws:=hws.ext hS (by simp) (fun _ h=>.inl h)
   clear hm hS
   refine D ?_
   refine WD_eff rfl trivial (Z0 (vs:=[(0,.agg #[.int .i64 y0.kind,.int .i64 y0.num,str y0.word,.slice p0 y0.kids.length c0]),(1,.agg #[.int .i64 y1.kind,.int .i64 y1.num,str y1.word,.slice p1 y1.kids.length c1])]) rfl (Jf _ _ _ _ _ _ _ _ _ _ _ _)) (fun _ _ h=>(Z7.stp h).mono (by simp)) rfl ?_
   rintro bv wq hN
   have hbv:SlV (b4 :: bm :: X) wq bv [y0,y1]:=hN.slvG (css:=[ndC y0 _,ndC y1 _]) gm.hX rfl rfl rfl (Z0R s0 s1) (by simp [maxLen])
   have hT:=Z7.stp hN
   clear hN
   replace gm:=gm.up hT
   replace hws:=hws.up hT
   clear hT
   refine D ?_
   refine WD_eff rfl trivial (Z5 rfl (Zu rfl rfl rfl) (Zt (b4 :: bm :: X) 6 JP[q] bv [y0,y1] _ gm.hX hbv)) (fun _ _ h=>h.2.mono (by simp)) rfl ?_
   rintro _ wq ⟨⟨ky,rfl,hy⟩,hT⟩
   replace gm:=gm.up hT
   clear hT hbv
   refine D ?_
   obtain ⟨cs,hcl,hcb⟩:=gm.blk
   refine WD_eff0 rfl trivial (Z2 (us:=ndC (.mk 6 0 JP[q] [y0,y1]) _) rfl rfl rfl rfl (Zh (x:=(.mk 6 0 JP[q] [y0,y1])) hy) hcb hcl.symm) (fun _ _ h=>h.1.mono (by simp)) ?_
   rintro _ wz ⟨hz,hbz⟩
   refine D ?_
   refine W ?_
   refine Zk rfl rfl rfl hbz rfl ?_
   have hf:=gm.fin (y:=(.mk 6 0 JP[q] [y0,y1])) hS0 hb4 hy hz
   exact .mk ⟨_,_,hf.1,.logic _ _ _ _ (Xh hqn) g0 g1,hf.2.1,by omega,hf.2.2⟩
   refine ZR rfl trivial (Z5 rfl (Zb rfl rfl) (ZQ bm lv l _ 2 _ (by decide) (by omega) gm.mkr gm.sl hl)) (fun _ _ h=>h.choose_spec.2.2.2.mono (by simp)) rfl ?_
   rintro _ wq ⟨q,rfl,hq,hm,hS⟩
   replace gm:=gm.nxt hm hS
   replace s0:=s0.ext hS (by simp) (fun _ h=>.inl h)
   replace e0:=e0.ext hS (by simp;exact n0)
   clear hm hS
   have hqn:q<JP.length:=by show q<2;omega
   refine Z0w 0 9 (by kernel_rfl) ?_ ?_
   refine ZR rfl trivial (Z0 (vs:=[(0,str [97,110,100]),(1,str [111,114])]) rfl (bS2 _ _)) (fun _ _ h=>(Z7.stp h).mono (by simp)) rfl ?_
   rintro wv wq hN
   have hws:SlV [b4,bm] wq wv JP:=hN.slv (fun c hc=>gm.hX c (by simp at hc;rcases hc with rfl|rfl<;>simp)) rfl rfl (by decide)
   have hT:=Z7.stp hN
   clear hN
   replace gm:=gm.up hT
   replace s0:=s0.up hT
   replace e0:=e0.up hT
   clear hT
   refine Z2d [(3,0),(4,1),(9,2),(10,2),(11,2),(12,2)] (by kernel_rfl) (by kernel_rfl) (by kernel_rfl) ?_
   refine D ?_
   refine WD_eff rfl trivial (Z5 rfl (Zb rfl rfl) ((ih.2.1) (b4 :: bm :: X) _ bm lv l _ _ (by omega) gm.mkr gm.sl hl (by omega) gm.hX)) (fun _ _ h=>by obtain ⟨_,_,_,_,_,_,h⟩:=h;exact h.mono (by simp)) rfl ?_
   rintro _ wq ⟨y1,i1,⟨k1,rfl,s1⟩,g1,hm,hi1,hS⟩
   obtain ⟨p1,c1,rfl,-⟩:=id s1
   replace gm:=gm.nxt hm hS
   replace s0:=s0.ext hS (by simp) (fun _ h=>.inl h)
   replace e0:=e0.ext hS (by simp;exact n0)
   replace hws:=hws.ext hS (by simp) (fun _ h=>.inl h)
   clear hm hS
   refine D ?_
   refine WD_eff rfl trivial (Z0 (vs:=[(0,.agg #[.int .i64 y0.kind,.int .i64 y0.num,str y0.word,.slice p0 y0.kids.length c0]),(1,.agg #[.int .i64 y1.kind,.int .i64 y1.num,str y1.word,.slice p1 y1.kids.length c1])]) rfl (Jf _ _ _ _ _ _ _ _ _ _ _ _)) (fun _ _ h=>(Z7.stp h).mono (by simp)) rfl ?_
   rintro bv wq hN
   have hbv:SlV (b4 :: bm :: X) wq bv [y0,y1]:=hN.slvG (css:=[ndC y0 _,ndC y1 _]) gm.hX rfl rfl rfl (Z0R s0 s1) (by simp [maxLen])
   have hT:=Z7.stp hN
   clear hN
   replace gm:=gm.up hT
   replace hws:=hws.up hT
   clear hT
   refine D ?_
   refine WD_eff rfl trivial (Z5 rfl (Zu rfl rfl rfl) (Zt (b4 :: bm :: X) 6 JP[q] bv [y0,y1] _ gm.hX hbv)) (fun _ _ h=>h.2.mono (by simp)) rfl ?_
   rintro _ wq ⟨⟨ky,rfl,hy⟩,hT⟩
   replace gm:=gm.up hT
   clear hT hbv
   refine D ?_
   obtain ⟨cs,hcl,hcb⟩:=gm.blk
   refine WD_eff0 rfl trivial (Z2 (us:=ndC (.mk 6 0 JP[q] [y0,y1]) _) rfl rfl rfl rfl (Zh (x:=(.mk 6 0 JP[q] [y0,y1])) hy) hcb hcl.symm) (fun _ _ h=>h.1.mono (by simp)) ?_
   rintro _ wz ⟨hz,hbz⟩
   refine D ?_
   refine W ?_
   refine Zk rfl rfl rfl hbz rfl ?_
   have hf:=gm.fin (y:=(.mk 6 0 JP[q] [y0,y1])) hS0 hb4 hy hz
   exact .mk ⟨_,_,hf.1,.logic _ _ _ _ (Xh hqn) g0 g1,hf.2.1,by omega,hf.2.2⟩
   refine ZR rfl trivial (Z5 rfl (Zb rfl rfl) ((ih.2.1) (b4 :: bm :: X) _ bm lv l _ _ (by omega) gm.mkr gm.sl hl (by omega) gm.hX)) (fun _ _ h=>by obtain ⟨_,_,_,_,_,_,h⟩:=h;exact h.mono (by simp)) rfl ?_
   rintro _ wq ⟨y1,i1,⟨k1,rfl,s1⟩,g1,hm,hi1,hS⟩
   obtain ⟨p1,c1,rfl,-⟩:=id s1
   replace gm:=gm.nxt hm hS
   replace s0:=s0.ext hS (by simp) (fun _ h=>.inl h)
   replace e0:=e0.ext hS (by simp;exact n0)
   clear hm hS
   refine Z0w 0 10 (by kernel_rfl) ?_ ?_
   refine ZR rfl trivial (Z0 (vs:=[(0,str [97,110,100]),(1,str [111,114])]) rfl (bS2 _ _)) (fun _ _ h=>(Z7.stp h).mono (by simp)) rfl ?_
   rintro wv wq hN
   have hws:SlV [b4,bm] wq wv JP:=hN.slv (fun c hc=>gm.hX c (by simp at hc;rcases hc with rfl|rfl<;>simp)) rfl rfl (by decide)
   have hT:=Z7.stp hN
   clear hN
   replace gm:=gm.up hT
   replace s0:=s0.up hT
   replace e0:=e0.up hT
   replace s1:=s1.up hT
   clear hT
   refine Z2d [(3,0),(4,1),(10,2),(11,2),(12,2)] (by kernel_rfl) (by kernel_rfl) (by kernel_rfl) ?_
   refine D ?_
   refine D ?_
   refine WD_eff rfl trivial (Z0 (vs:=[(0,.agg #[.int .i64 y0.kind,.int .i64 y0.num,str y0.word,.slice p0 y0.kids.length c0]),(1,.agg #[.int .i64 y1.kind,.int .i64 y1.num,str y1.word,.slice p1 y1.kids.length c1])]) rfl (Jf _ _ _ _ _ _ _ _ _ _ _ _)) (fun _ _ h=>(Z7.stp h).mono (by simp)) rfl ?_
   rintro bv wq hN
   have hbv:SlV (b4 :: bm :: X) wq bv [y0,y1]:=hN.slvG (css:=[ndC y0 _,ndC y1 _]) gm.hX rfl rfl rfl (Z0R s0 s1) (by simp [maxLen])
   have hT:=Z7.stp hN
   clear hN
   replace gm:=gm.up hT
   replace hws:=hws.up hT
   clear hT
   refine D ?_
   refine WD_eff rfl trivial (Z5 rfl (Zu rfl rfl rfl) (Zt (b4 :: bm :: X) 6 JP[q] bv [y0,y1] _ gm.hX hbv)) (fun _ _ h=>h.2.mono (by simp)) rfl ?_
   rintro _ wq ⟨⟨ky,rfl,hy⟩,hT⟩
   replace gm:=gm.up hT
   clear hT hbv
   refine D ?_
   obtain ⟨cs,hcl,hcb⟩:=gm.blk
   refine WD_eff0 rfl trivial (Z2 (us:=ndC (.mk 6 0 JP[q] [y0,y1]) _) rfl rfl rfl rfl (Zh (x:=(.mk 6 0 JP[q] [y0,y1])) hy) hcb hcl.symm) (fun _ _ h=>h.1.mono (by simp)) ?_
   rintro _ wz ⟨hz,hbz⟩
   refine D ?_
   refine W ?_
   refine Zk rfl rfl rfl hbz rfl ?_
   have hf:=gm.fin (y:=(.mk 6 0 JP[q] [y0,y1])) hS0 hb4 hy hz
   exact .mk ⟨_,_,hf.1,.logic _ _ _ _ (Xh hqn) g0 g1,hf.2.1,by omega,hf.2.2⟩
   refine ZR rfl trivial (Z0 (vs:=[(0,.agg #[.int .i64 y0.kind,.int .i64 y0.num,str y0.word,.slice p0 y0.kids.length c0]),(1,.agg #[.int .i64 y1.kind,.int .i64 y1.num,str y1.word,.slice p1 y1.kids.length c1])]) rfl (Jf _ _ _ _ _ _ _ _ _ _ _ _)) (fun _ _ h=>(Z7.stp h).mono (by simp)) rfl ?_
   rintro bv wq hN
   have hbv:SlV (b4 :: bm :: X) wq bv [y0,y1]:=hN.slvG (css:=[ndC y0 _,ndC y1 _]) gm.hX rfl rfl rfl (Z0R s0 s1) (by simp [maxLen])
   have hT:=Z7.stp hN
   clear hN
   replace gm:=gm.up hT
   clear hT
   refine Z2d [(0,2),(3,0),(4,1),(11,2),(12,2)] (by kernel_rfl) (by kernel_rfl) (by kernel_rfl) ?_
   refine WD_eff rfl trivial (Z0 (vs:=[(0,str [97,110,100]),(1,str [111,114])]) rfl (bS2 _ _)) (fun _ _ h=>(Z7.stp h).mono (by simp)) rfl ?_
   rintro wv wq hN
   have hws:SlV [b4,bm] wq wv JP:=hN.slv (fun c hc=>gm.hX c (by simp at hc;rcases hc with rfl|rfl<;>simp)) rfl rfl (by decide)
   have hT:=Z7.stp hN
   clear hN
   replace gm:=gm.up hT
   replace hbv:=hbv.up hT
   clear hT
   refine D ?_
   refine D ?_
   refine D ?_
   refine WD_eff rfl trivial (Z5 rfl (Zu rfl rfl rfl) (Zt (b4 :: bm :: X) 6 JP[q] bv [y0,y1] _ gm.hX hbv)) (fun _ _ h=>h.2.mono (by simp)) rfl ?_
   rintro _ wq ⟨⟨ky,rfl,hy⟩,hT⟩
   replace gm:=gm.up hT
   clear hT hbv
   refine D ?_
   obtain ⟨cs,hcl,hcb⟩:=gm.blk
   refine WD_eff0 rfl trivial (Z2 (us:=ndC (.mk 6 0 JP[q] [y0,y1]) _) rfl rfl rfl rfl (Zh (x:=(.mk 6 0 JP[q] [y0,y1])) hy) hcb hcl.symm) (fun _ _ h=>h.1.mono (by simp)) ?_
   rintro _ wz ⟨hz,hbz⟩
   refine D ?_
   refine W ?_
   refine Zk rfl rfl rfl hbz rfl ?_
   have hf:=gm.fin (y:=(.mk 6 0 JP[q] [y0,y1])) hS0 hb4 hy hz
   exact .mk ⟨_,_,hf.1,.logic _ _ _ _ (Xh hqn) g0 g1,hf.2.1,by omega,hf.2.2⟩
   by_cases k3:q=3
   focus repeat'(first|refine W1 ?_|omega|refine VG ?_ ?_<;>intro hg|refine VC ?_ ?_<;>intro hc)
   refine W ?_
   refine CL rfl (Zb rfl rfl) rfl ((ih.2.2) (b4 :: bm :: X) _ bm lv l _ _ (by omega) gm.mkr gm.sl hl (by omega) gm.hX) ?_
   rintro _ wq ⟨y0,i0,⟨k0,rfl,s0⟩,g0,hm,hi0,hS⟩
   obtain ⟨p0,c0,rfl,-⟩:=id s0
   replace gm:=gm.nxt hm hS
   clear hm hS
   refine Z3 Z6 rfl ?_
   rintro _ wq ⟨b0',rfl,hb0',e0,hT⟩
   refine Z1 (Z2 (us:=ndC y0 _) rfl rfl rfl rfl (Zh s0) e0 rfl) ?_
   rintro _ wq ⟨hT2,e0⟩
   replace hT:=Je hT hb0' hT2
   clear hT2
   have n0:b0'≠bm:=fun h=>by have:=gm.mkr.lt;omega
   have n0':b0'≠b4:=fun h=>by obtain ⟨_,_,hc⟩:=gm.blk;have:=hc.lt;omega
   replace gm:=gm.up hT
   replace s0:=s0.up hT
   clear hT hb0'
   refine W ?_
   refine ZDr 11 ([b4,bm]) [] [(0,0),(3,1),(4,0),(5,0),(6,0),(1,2),(2,2),(7,2),(8,2),(9,2),(10,2)] (fun w1 hS1=>?_)
   have hT:=hS1
   replace gm:=gm.up hT
   replace s0:=s0.up hT
   replace e0:=e0.up hT
   clear hT hS1
   refine D ?_
   refine WD_eff rfl trivial (Z5 rfl (Zb rfl rfl) (ZQ bm lv l _ 6 _ (by decide) (by omega) gm.mkr gm.sl hl)) (fun _ _ h=>h.choose_spec.2.2.2.mono (by simp)) rfl ?_
   rintro _ wq ⟨q',rfl,hq',hm,hS⟩
   replace gm:=gm.nxt hm hS
   replace s0:=s0.ext hS (by simp) (fun _ h=>.inl h)
   replace e0:=e0.ext hS (by simp;exact n0)
   clear hm hS
   refine D ?_
   refine WD_eff rfl trivial (Z5 rfl (Zr rfl) (Z4g q' _ (by omega))) (fun _ _ h=>h.2.mono (by simp)) rfl ?_
   rintro _ wq ⟨⟨op,hop,rfl⟩,hT⟩
   replace gm:=gm.up hT
   replace s0:=s0.up hT
   replace e0:=e0.up hT
   clear hT
   refine D ?_
   refine WD_eff rfl trivial (Z5 rfl (Zb rfl rfl) ((ih.2.2) (b4 :: bm :: X) _ bm lv l _ _ (by omega) gm.mkr gm.sl hl (by omega) gm.hX)) (fun _ _ h=>by obtain ⟨_,_,_,_,_,_,h⟩:=h;exact h.mono (by simp)) rfl ?_
   rintro _ wq ⟨y1,i1,⟨k1,rfl,s1⟩,g1,hm,hi1,hS⟩
   obtain ⟨p1,c1,rfl,-⟩:=id s1
   replace gm:=gm.nxt hm hS
   replace s0:=s0.ext hS (by simp) (fun _ h=>.inl h)
   replace e0:=e0.ext hS (by simp;exact n0)
   clear hm hS
   refine D ?_
   refine WD_eff rfl trivial (Z0 (vs:=[(0,.agg #[.int .i64 y0.kind,.int .i64 y0.num,str y0.word,.slice p0 y0.kids.length c0]),(1,.agg #[.int .i64 y1.kind,.int .i64 y1.num,str y1.word,.slice p1 y1.kids.length c1])]) rfl (Jf _ _ _ _ _ _ _ _ _ _ _ _)) (fun _ _ h=>(Z7.stp h).mono (by simp)) rfl ?_
   rintro bv wq hN
   have hbv:SlV (b4 :: bm :: X) wq bv [y0,y1]:=hN.slvG (css:=[ndC y0 _,ndC y1 _]) gm.hX rfl rfl rfl (Z0R s0 s1) (by simp [maxLen])
   have hT:=Z7.stp hN
   clear hN
   replace gm:=gm.up hT
   clear hT
   refine D ?_
   refine WD_eff rfl trivial (Z5 rfl (Zu rfl rfl rfl) (Zt (b4 :: bm :: X) 6 op bv [y0,y1] _ gm.hX hbv)) (fun _ _ h=>h.2.mono (by simp)) rfl ?_
   rintro _ wq ⟨⟨ky,rfl,hy⟩,hT⟩
   replace gm:=gm.up hT
   clear hT hbv
   refine D ?_
   obtain ⟨cs,hcl,hcb⟩:=gm.blk
   refine WD_eff0 rfl trivial (Z2 (us:=ndC (.mk 6 0 op [y0,y1]) _) rfl rfl rfl rfl (Zh (x:=(.mk 6 0 op [y0,y1])) hy) hcb hcl.symm) (fun _ _ h=>h.1.mono (by simp)) ?_
   rintro _ wz ⟨hz,hbz⟩
   refine D ?_
   refine W ?_
   refine Zk rfl rfl rfl hbz rfl ?_
   have hf:=gm.fin (y:=(.mk 6 0 op [y0,y1])) hS0 hb4 hy hz
   exact .mk ⟨_,_,hf.1,.cmp _ 3 _ _ _ (by decide) hop g0 g1,hf.2.1,by omega,hf.2.2⟩
   repeat'(first|refine W1 ?_|omega|refine VG ?_ ?_<;>intro hg|refine VC ?_ ?_<;>intro hc)
   refine W ?_
   refine CL rfl (Zb rfl rfl) rfl ((ih.1) (b4 :: bm :: X) _ bm lv l _ _ (by omega) gm.mkr gm.sl hl (by omega) gm.hX) ?_
   rintro _ wq ⟨y0,i0,⟨k0,rfl,s0⟩,g0,hm,hi0,hS⟩
   obtain ⟨p0,c0,rfl,-⟩:=id s0
   replace gm:=gm.nxt hm hS
   clear hm hS
   refine Z3 Z6 rfl ?_
   rintro _ wq ⟨b0',rfl,hb0',e0,hT⟩
   refine Z1 (Z2 (us:=ndC y0 _) rfl rfl rfl rfl (Zh s0) e0 rfl) ?_
   rintro _ wq ⟨hT2,e0⟩
   replace hT:=Je hT hb0' hT2
   clear hT2
   have n0:b0'≠bm:=fun h=>by have:=gm.mkr.lt;omega
   have n0':b0'≠b4:=fun h=>by obtain ⟨_,_,hc⟩:=gm.blk;have:=hc.lt;omega
   replace gm:=gm.up hT
   replace s0:=s0.up hT
   clear hT hb0'
   refine W ?_
   refine ZDr 11 ([b4,bm]) [] [(0,0),(3,1),(4,0),(5,0),(6,0),(1,2),(2,2),(7,2),(8,2),(9,2),(10,2)] (fun w1 hS1=>?_)
   have hT:=hS1
   replace gm:=gm.up hT
   replace s0:=s0.up hT
   replace e0:=e0.up hT
   clear hT hS1
   refine D ?_
   refine WD_eff rfl trivial (Z5 rfl (Zb rfl rfl) (ZQ bm lv l _ 6 _ (by decide) (by omega) gm.mkr gm.sl hl)) (fun _ _ h=>h.choose_spec.2.2.2.mono (by simp)) rfl ?_
   rintro _ wq ⟨q',rfl,hq',hm,hS⟩
   replace gm:=gm.nxt hm hS
   replace s0:=s0.ext hS (by simp) (fun _ h=>.inl h)
   replace e0:=e0.ext hS (by simp;exact n0)
   clear hm hS
   refine D ?_
   refine WD_eff rfl trivial (Z5 rfl (Zr rfl) (Z4g q' _ (by omega))) (fun _ _ h=>h.2.mono (by simp)) rfl ?_
   rintro _ wq ⟨⟨op,hop,rfl⟩,hT⟩
   replace gm:=gm.up hT
   replace s0:=s0.up hT
   replace e0:=e0.up hT
   clear hT
   refine D ?_
   refine WD_eff rfl trivial (Z5 rfl (Zb rfl rfl) ((ih.1) (b4 :: bm :: X) _ bm lv l _ _ (by omega) gm.mkr gm.sl hl (by omega) gm.hX)) (fun _ _ h=>by obtain ⟨_,_,_,_,_,_,h⟩:=h;exact h.mono (by simp)) rfl ?_
   rintro _ wq ⟨y1,i1,⟨k1,rfl,s1⟩,g1,hm,hi1,hS⟩
   obtain ⟨p1,c1,rfl,-⟩:=id s1
   replace gm:=gm.nxt hm hS
   replace s0:=s0.ext hS (by simp) (fun _ h=>.inl h)
   replace e0:=e0.ext hS (by simp;exact n0)
   clear hm hS
   refine D ?_
   refine WD_eff rfl trivial (Z0 (vs:=[(0,.agg #[.int .i64 y0.kind,.int .i64 y0.num,str y0.word,.slice p0 y0.kids.length c0]),(1,.agg #[.int .i64 y1.kind,.int .i64 y1.num,str y1.word,.slice p1 y1.kids.length c1])]) rfl (Jf _ _ _ _ _ _ _ _ _ _ _ _)) (fun _ _ h=>(Z7.stp h).mono (by simp)) rfl ?_
   rintro bv wq hN
   have hbv:SlV (b4 :: bm :: X) wq bv [y0,y1]:=hN.slvG (css:=[ndC y0 _,ndC y1 _]) gm.hX rfl rfl rfl (Z0R s0 s1) (by simp [maxLen])
   have hT:=Z7.stp hN
   clear hN
   replace gm:=gm.up hT
   clear hT
   refine D ?_
   refine WD_eff rfl trivial (Z5 rfl (Zu rfl rfl rfl) (Zt (b4 :: bm :: X) 6 op bv [y0,y1] _ gm.hX hbv)) (fun _ _ h=>h.2.mono (by simp)) rfl ?_
   rintro _ wq ⟨⟨ky,rfl,hy⟩,hT⟩
   replace gm:=gm.up hT
   clear hT hbv
   refine D ?_
   obtain ⟨cs,hcl,hcb⟩:=gm.blk
   refine WD_eff0 rfl trivial (Z2 (us:=ndC (.mk 6 0 op [y0,y1]) _) rfl rfl rfl rfl (Zh (x:=(.mk 6 0 op [y0,y1])) hy) hcb hcl.symm) (fun _ _ h=>h.1.mono (by simp)) ?_
   rintro _ wz ⟨hz,hbz⟩
   refine D ?_
   refine W ?_
   refine Zk rfl rfl rfl hbz rfl ?_
   have hf:=gm.fin (y:=(.mk 6 0 op [y0,y1])) hS0 hb4 hy hz
   exact .mk ⟨_,_,hf.1,.cmp _ 1 _ _ _ (by decide) hop g0 g1,hf.2.1,by omega,hf.2.2⟩
set_option maxHeartbeats 1000000
def Z3E:List Str:=[[100,97,121,115],[100,97,121,115],[99,111,117,114,116,100,97,121,115],[119,101,101,107,115],[109,111,110,116,104,115]]
theorem Zai:∀ s∈Z3E,s∈ZZ:=by decide
theorem Z66 (d:Nat) (hd6:d≤6) (ih:∀ e,d=e+1→Z1T 43 1 e∧Z1T 44 2 e∧Z1T 45 3 e):Z1T 45 3 d:=by
 intro X w bm lv l i z hz hmk hsl hl hi hX
 subst hz
 have hsz:szD (d+1)=1+3 * szD d:=rfl
 refine cW2 107 Tryz.func45 ?_
 refine W ?_
 refine Z3 Z6 rfl ?_
 rintro _ w1 ⟨b4,rfl,hb4,hblk4,hS0⟩
 have gm:G3 (b4 :: bm :: X) w1 w1 bm b4 lv l i:=⟨hmk.up hS0,hsl.up hS0,Stp.refl _ _,⟨_,rfl,hblk4⟩,fun h=>by have:=hmk.lt;omega,fun c hc=>by
  simp only [Xf] at hc
  have h1:=hblk4.lt
  have h2:=hmk.lt
  have h3:=hS0.size
  rcases hc with rfl|rfl|hc
  exact h1
  omega
  have:=hX c hc;omega⟩
 clear hblk4 hX hsl hmk
 refine W ?_
 refine CL rfl (Zb rfl rfl) rfl (ZQ bm lv l _ 10 _ (by decide) (by omega) gm.mkr gm.sl hl) ?_
 rintro _ wq ⟨q,rfl,hq,hm,hS⟩
 replace gm:=gm.nxt hm hS
 clear hm hS
 refine W ?_
 refine CL rfl (Zb rfl rfl) rfl (Z4K bm lv l _ d _ _ rfl gm.mkr gm.sl) ?_
 rintro _ wq ⟨dn,rfl,hdn,hT⟩
 replace gm:=gm.up hT
 clear hT
 refine W ?_
 refine Z1E (σ:=Nat) (fun k=>[(0,.pointer (some ⟨bm,0,none⟩)),(1,.int .i64 (d:Int)),(4,.pointer (some ⟨b4,0,none⟩)),(5,.int .i64 (k:Int))]) (fun k w'=>w'=wq∧k<10∧(d=0→k<4)) ?_ ?_
 · cases dn with
   | true=>
     repeat'(first|refine W1 ?_|omega|refine VG ?_ ?_<;>intro hg|refine VC ?_ ?_<;>intro hc)
     exact ZC (q % 4) ⟨rfl,rfl,rfl,rfl,trivial⟩ ⟨rfl,by omega,fun _=>by omega⟩
   | false=>
     repeat'(first|refine W1 ?_|omega|refine VG ?_ ?_<;>intro hg|refine VC ?_ ?_<;>intro hc)
     exact ZC q ⟨rfl,rfl,rfl,rfl,trivial⟩ ⟨rfl,by omega,fun h=>absurd (hdn h) (by decide)⟩
 rintro k w3 ⟨rfl,hkn,hk1⟩
 clear hq hdn
 by_cases k0:k≤1
 · repeat'(first|refine W1 ?_|omega|refine VG ?_ ?_<;>intro hg|refine VC ?_ ?_<;>intro hc)
   all_goals
    refine CL rfl (Zu rfl rfl rfl) rfl (Zt (b4 :: bm :: X) 4 [100,97,121] (.slice none 0 0) [] _ gm.hX (Z0Z _ _)) ?_
    rintro _ wq ⟨⟨ky,rfl,hy⟩,hT⟩
    replace gm:=gm.up hT
    clear hT
    obtain ⟨cs,hcl,hcb⟩:=gm.blk
    refine Z1 (Z2 (us:=ndC (.mk 4 0 [100,97,121] []) _) rfl rfl rfl rfl (Zh (x:=(.mk 4 0 [100,97,121] [])) hy) hcb hcl.symm) ?_
    rintro _ wz ⟨hz,hbz⟩
    refine W ?_
    refine Zk rfl rfl rfl hbz rfl ?_
    have hf:=gm.fin (y:=(.mk 4 0 [100,97,121] [])) hS0 hb4 hy hz
    exact .mk ⟨_,_,hf.1,.fldD _ _ (by decide),hf.2.1,by omega,hf.2.2⟩
 by_cases k2:k=2
 focus repeat'(first|refine W1 ?_|omega|refine VG ?_ ?_<;>intro hg|refine VC ?_ ?_<;>intro hc)
 refine Z3 (Z0 (vs:=[(0,str [100,97,121]),(1,str [115,101,114,118,101,100])]) rfl (bS2 _ _)) rfl ?_
 rintro wv wq hN
 have hws:SlV [bm] wq wv Z4f:=hN.slv (fun c hc=>gm.hX c (by simp at hc;subst hc;simp)) rfl rfl (by decide)
 have hT:=Z7.stp hN
 clear hN
 replace gm:=gm.up hT
 clear hT
 refine W ?_
 refine CL rfl (Zb rfl rfl) rfl (ZQ bm lv l _ 2 _ (by decide) (by omega) gm.mkr gm.sl hl) ?_
 rintro _ wq ⟨q',rfl,hq',hm,hS⟩
 replace gm:=gm.nxt hm hS
 replace hws:=hws.ext hS (by simp) (fun _ h=>.inl h)
 clear hm hS
 have hqn:q'<Z4f.length:=by show q'<2;omega
 refine W ?_
 refine CL rfl (Zu rfl rfl rfl) rfl (Zt (b4 :: bm :: X) 4 Z4f[q'] (.slice none 0 0) [] _ gm.hX (Z0Z _ _)) ?_
 rintro _ wq ⟨⟨ky,rfl,hy⟩,hT⟩
 replace gm:=gm.up hT
 clear hT
 obtain ⟨cs,hcl,hcb⟩:=gm.blk
 refine Z1 (Z2 (us:=ndC (.mk 4 0 Z4f[q'] []) _) rfl rfl rfl rfl (Zh (x:=(.mk 4 0 Z4f[q'] [])) hy) hcb hcl.symm) ?_
 rintro _ wz ⟨hz,hbz⟩
 refine W ?_
 refine Zk rfl rfl rfl hbz rfl ?_
 have hf:=gm.fin (y:=(.mk 4 0 Z4f[q'] [])) hS0 hb4 hy hz
 exact .mk ⟨_,_,hf.1,.fldD _ _ (Xh hqn),hf.2.1,by omega,hf.2.2⟩
 by_cases k3:k=3
 focus repeat'(first|refine W1 ?_|omega|refine VG ?_ ?_<;>intro hg|refine VC ?_ ?_<;>intro hc)
 refine CL rfl (Zb rfl rfl) rfl (ZQ bm lv l _ 60 _ (by decide) (by omega) gm.mkr gm.sl hl) ?_
 rintro _ wq ⟨q',rfl,hq',hm,hS⟩
 replace gm:=gm.nxt hm hS
 clear hm hS
 refine W ?_
 apply Zf (vs:=[(0,.int .i64 3),(1,.int .i64 _)]) rfl (Z3P _ _) rfl
 have hy:SlV (α:=Nd) (b4 :: bm :: X) _ (.slice none 0 0) []:=Z0Z _ wq
 obtain ⟨cs,hcl,hcb⟩:=gm.blk
 refine Z1 (Z2 (us:=ndC (.mk 3 (739616+(q':Int)) [] []) _) rfl rfl rfl rfl (Zh (x:=(.mk 3 (739616+(q':Int)) [] [])) hy) hcb hcl.symm) ?_
 rintro _ wz ⟨hz,hbz⟩
 refine W ?_
 refine Zk rfl rfl rfl hbz rfl ?_
 have hf:=gm.fin (y:=(.mk 3 (739616+(q':Int)) [] [])) hS0 hb4 hy hz
 exact .mk ⟨_,_,hf.1,.day _ _ (by omega),hf.2.1,by omega,hf.2.2⟩
 by_cases k4:k=4
 obtain ⟨e,rfl⟩:∃ e,d=e+1:=⟨d - 1,by omega⟩
 replace ih:=ih e rfl
 have hsp:=Z0N e
 focus repeat'(first|refine W1 ?_|omega|refine VG ?_ ?_<;>intro hg|refine VC ?_ ?_<;>intro hc)
 refine Z1e 12 [b4,bm] [] rfl mixed (fun w1 hS1=>?_)
 have hT:=hS1
 replace gm:=gm.up hT
 clear hT hS1
 refine J3 1 rfl trivial (fun w'=>ZK rfl) rfl (by kernel_rfl) (by kernel_rfl) ?_
 refine J3 5 rfl trivial (fun w'=>ZK rfl) rfl (by kernel_rfl) (by kernel_rfl) ?_
 refine J3 6 rfl trivial (fun w'=>ZK rfl) rfl (by kernel_rfl) (by kernel_rfl) ?_
 refine J3 7 rfl trivial (fun w'=>Z2L rfl rfl (by unfold I64;omega)) rfl (by kernel_rfl) (by kernel_rfl) ?_
 refine Z0w 0 2 (by kernel_rfl) ?_ ?_
 refine ZR rfl trivial (Z0 (vs:=[(0,str [110,101,120,116]),(1,str [112,114,101,118])]) rfl (bS2 _ _)) (fun _ _ h=>(Z7.stp h).mono (by simp)) rfl ?_
 rintro wv wq hN
 have hws:SlV [b4,bm] wq wv Z0q:=hN.slv (fun c hc=>gm.hX c (by simp at hc;rcases hc with rfl|rfl<;>simp)) rfl rfl (by decide)
 have hT:=Z7.stp hN
 clear hN
 replace gm:=gm.up hT
 clear hT
 refine Z2d [(2,2),(3,0),(4,1),(8,2),(9,2),(10,2),(11,2)] (by kernel_rfl) (by kernel_rfl) (by kernel_rfl) ?_
 refine WD_eff rfl trivial (Z5 rfl (Zb rfl rfl) (ZQ bm lv l _ 2 _ (by decide) (by omega) gm.mkr gm.sl hl)) (fun _ _ h=>h.choose_spec.2.2.2.mono (by simp)) rfl ?_
 rintro _ wq ⟨q,rfl,hq,hm,hS⟩
 replace gm:=gm.nxt hm hS
 replace hws:=hws.ext hS (by simp) (fun _ h=>.inl h)
 clear hm hS
 have hqn:q<Z0q.length:=by show q<2;omega
 refine D ?_
 refine WD_eff rfl trivial (Z5 rfl (Zb rfl rfl) ((ih.2.2) (b4 :: bm :: X) _ bm lv l _ _ (by omega) gm.mkr gm.sl hl (by omega) gm.hX)) (fun _ _ h=>by obtain ⟨_,_,_,_,_,_,h⟩:=h;exact h.mono (by simp)) rfl ?_
 rintro _ wq ⟨y0,i0,⟨k0,rfl,s0⟩,g0,hm,hi0,hS⟩
 obtain ⟨p0,c0,rfl,-⟩:=id s0
 replace gm:=gm.nxt hm hS
 replace hws:=hws.ext hS (by simp) (fun _ h=>.inl h)
 clear hm hS
 refine D ?_
 refine WD_eff rfl trivial (Z0 (vs:=[(0,.agg #[.int .i64 y0.kind,.int .i64 y0.num,str y0.word,.slice p0 y0.kids.length c0])]) rfl (JW _ _ _ _ _ _)) (fun _ _ h=>(Z7.stp h).mono (by simp)) rfl ?_
 rintro bv wq hN
 have hbv:SlV (b4 :: bm :: X) wq bv [y0]:=hN.slvG (css:=[ndC y0 _]) gm.hX rfl rfl rfl (Z2R s0) (by simp [maxLen])
 have hT:=Z7.stp hN
 clear hN
 replace gm:=gm.up hT
 replace hws:=hws.up hT
 clear hT
 refine D ?_
 refine WD_eff rfl trivial (Z5 rfl (Zu rfl rfl rfl) (Zt (b4 :: bm :: X) 10 Z0q[q] bv [y0] _ gm.hX hbv)) (fun _ _ h=>h.2.mono (by simp)) rfl ?_
 rintro _ wq ⟨⟨ky,rfl,hy⟩,hT⟩
 replace gm:=gm.up hT
 clear hT hbv
 refine D ?_
 obtain ⟨cs,hcl,hcb⟩:=gm.blk
 refine WD_eff0 rfl trivial (Z2 (us:=ndC (.mk 10 0 Z0q[q] [y0]) _) rfl rfl rfl rfl (Zh (x:=(.mk 10 0 Z0q[q] [y0])) hy) hcb hcl.symm) (fun _ _ h=>h.1.mono (by simp)) ?_
 rintro _ wz ⟨hz,hbz⟩
 refine D ?_
 refine W ?_
 refine Zk rfl rfl rfl hbz rfl ?_
 have hf:=gm.fin (y:=(.mk 10 0 Z0q[q] [y0])) hS0 hb4 hy hz
 exact .mk ⟨_,_,hf.1,.adj _ _ _ (Xh hqn) g0,hf.2.1,by omega,hf.2.2⟩
 refine ZR rfl trivial (Z5 rfl (Zb rfl rfl) (ZQ bm lv l _ 2 _ (by decide) (by omega) gm.mkr gm.sl hl)) (fun _ _ h=>h.choose_spec.2.2.2.mono (by simp)) rfl ?_
 rintro _ wq ⟨q,rfl,hq,hm,hS⟩
 replace gm:=gm.nxt hm hS
 clear hm hS
 have hqn:q<Z0q.length:=by show q<2;omega
 refine Z0w 0 8 (by kernel_rfl) ?_ ?_
 refine ZR rfl trivial (Z0 (vs:=[(0,str [110,101,120,116]),(1,str [112,114,101,118])]) rfl (bS2 _ _)) (fun _ _ h=>(Z7.stp h).mono (by simp)) rfl ?_
 rintro wv wq hN
 have hws:SlV [b4,bm] wq wv Z0q:=hN.slv (fun c hc=>gm.hX c (by simp at hc;rcases hc with rfl|rfl<;>simp)) rfl rfl (by decide)
 have hT:=Z7.stp hN
 clear hN
 replace gm:=gm.up hT
 clear hT
 refine Z2d [(3,0),(4,1),(8,2),(9,2),(10,2),(11,2)] (by kernel_rfl) (by kernel_rfl) (by kernel_rfl) ?_
 refine D ?_
 refine WD_eff rfl trivial (Z5 rfl (Zb rfl rfl) ((ih.2.2) (b4 :: bm :: X) _ bm lv l _ _ (by omega) gm.mkr gm.sl hl (by omega) gm.hX)) (fun _ _ h=>by obtain ⟨_,_,_,_,_,_,h⟩:=h;exact h.mono (by simp)) rfl ?_
 rintro _ wq ⟨y0,i0,⟨k0,rfl,s0⟩,g0,hm,hi0,hS⟩
 obtain ⟨p0,c0,rfl,-⟩:=id s0
 replace gm:=gm.nxt hm hS
 replace hws:=hws.ext hS (by simp) (fun _ h=>.inl h)
 clear hm hS
 refine D ?_
 refine WD_eff rfl trivial (Z0 (vs:=[(0,.agg #[.int .i64 y0.kind,.int .i64 y0.num,str y0.word,.slice p0 y0.kids.length c0])]) rfl (JW _ _ _ _ _ _)) (fun _ _ h=>(Z7.stp h).mono (by simp)) rfl ?_
 rintro bv wq hN
 have hbv:SlV (b4 :: bm :: X) wq bv [y0]:=hN.slvG (css:=[ndC y0 _]) gm.hX rfl rfl rfl (Z2R s0) (by simp [maxLen])
 have hT:=Z7.stp hN
 clear hN
 replace gm:=gm.up hT
 replace hws:=hws.up hT
 clear hT
 refine D ?_
 refine WD_eff rfl trivial (Z5 rfl (Zu rfl rfl rfl) (Zt (b4 :: bm :: X) 10 Z0q[q] bv [y0] _ gm.hX hbv)) (fun _ _ h=>h.2.mono (by simp)) rfl ?_
 rintro _ wq ⟨⟨ky,rfl,hy⟩,hT⟩
 replace gm:=gm.up hT
 clear hT hbv
 refine D ?_
 obtain ⟨cs,hcl,hcb⟩:=gm.blk
 refine WD_eff0 rfl trivial (Z2 (us:=ndC (.mk 10 0 Z0q[q] [y0]) _) rfl rfl rfl rfl (Zh (x:=(.mk 10 0 Z0q[q] [y0])) hy) hcb hcl.symm) (fun _ _ h=>h.1.mono (by simp)) ?_
 rintro _ wz ⟨hz,hbz⟩
 refine D ?_
 refine W ?_
 refine Zk rfl rfl rfl hbz rfl ?_
 have hf:=gm.fin (y:=(.mk 10 0 Z0q[q] [y0])) hS0 hb4 hy hz
 exact .mk ⟨_,_,hf.1,.adj _ _ _ (Xh hqn) g0,hf.2.1,by omega,hf.2.2⟩
 refine ZR rfl trivial (Z5 rfl (Zb rfl rfl) ((ih.2.2) (b4 :: bm :: X) _ bm lv l _ _ (by omega) gm.mkr gm.sl hl (by omega) gm.hX)) (fun _ _ h=>by obtain ⟨_,_,_,_,_,_,h⟩:=h;exact h.mono (by simp)) rfl ?_
 rintro _ wq ⟨y0,i0,⟨k0,rfl,s0⟩,g0,hm,hi0,hS⟩
 obtain ⟨p0,c0,rfl,-⟩:=id s0
 replace gm:=gm.nxt hm hS
 clear hm hS
 refine Z0w 0 9 (by kernel_rfl) ?_ ?_
 refine ZR rfl trivial (Z0 (vs:=[(0,str [110,101,120,116]),(1,str [112,114,101,118])]) rfl (bS2 _ _)) (fun _ _ h=>(Z7.stp h).mono (by simp)) rfl ?_
 rintro wv wq hN
 have hws:SlV [b4,bm] wq wv Z0q:=hN.slv (fun c hc=>gm.hX c (by simp at hc;rcases hc with rfl|rfl<;>simp)) rfl rfl (by decide)
 have hT:=Z7.stp hN
 clear hN
 replace gm:=gm.up hT
 replace s0:=s0.up hT
 clear hT
 refine Z2d [(3,0),(4,1),(9,2),(10,2),(11,2)] (by kernel_rfl) (by kernel_rfl) (by kernel_rfl) ?_
 refine D ?_
 refine D ?_
 refine WD_eff rfl trivial (Z0 (vs:=[(0,.agg #[.int .i64 y0.kind,.int .i64 y0.num,str y0.word,.slice p0 y0.kids.length c0])]) rfl (JW _ _ _ _ _ _)) (fun _ _ h=>(Z7.stp h).mono (by simp)) rfl ?_
 rintro bv wq hN
 have hbv:SlV (b4 :: bm :: X) wq bv [y0]:=hN.slvG (css:=[ndC y0 _]) gm.hX rfl rfl rfl (Z2R s0) (by simp [maxLen])
 have hT:=Z7.stp hN
 clear hN
 replace gm:=gm.up hT
 replace hws:=hws.up hT
 clear hT
 refine D ?_
 refine WD_eff rfl trivial (Z5 rfl (Zu rfl rfl rfl) (Zt (b4 :: bm :: X) 10 Z0q[q] bv [y0] _ gm.hX hbv)) (fun _ _ h=>h.2.mono (by simp)) rfl ?_
 rintro _ wq ⟨⟨ky,rfl,hy⟩,hT⟩
 replace gm:=gm.up hT
 clear hT hbv
 refine D ?_
 obtain ⟨cs,hcl,hcb⟩:=gm.blk
 refine WD_eff0 rfl trivial (Z2 (us:=ndC (.mk 10 0 Z0q[q] [y0]) _) rfl rfl rfl rfl (Zh (x:=(.mk 10 0 Z0q[q] [y0])) hy) hcb hcl.symm) (fun _ _ h=>h.1.mono (by simp)) ?_
 rintro _ wz ⟨hz,hbz⟩
 refine D ?_
 refine W ?_
 refine Zk rfl rfl rfl hbz rfl ?_
 have hf:=gm.fin (y:=(.mk 10 0 Z0q[q] [y0])) hS0 hb4 hy hz
 exact .mk ⟨_,_,hf.1,.adj _ _ _ (Xh hqn) g0,hf.2.1,by omega,hf.2.2⟩
 refine ZR rfl trivial (Z0 (vs:=[(0,.agg #[.int .i64 y0.kind,.int .i64 y0.num,str y0.word,.slice p0 y0.kids.length c0])]) rfl (JW _ _ _ _ _ _)) (fun _ _ h=>(Z7.stp h).mono (by simp)) rfl ?_
 rintro bv wq hN
 have hbv:SlV (b4 :: bm :: X) wq bv [y0]:=hN.slvG (css:=[ndC y0 _]) gm.hX rfl rfl rfl (Z2R s0) (by simp [maxLen])
 have hT:=Z7.stp hN
 clear hN
 replace gm:=gm.up hT
 clear hT
 refine Z2d [(0,2),(3,0),(4,1),(10,2),(11,2)] (by kernel_rfl) (by kernel_rfl) (by kernel_rfl) ?_
 refine WD_eff rfl trivial (Z0 (vs:=[(0,str [110,101,120,116]),(1,str [112,114,101,118])]) rfl (bS2 _ _)) (fun _ _ h=>(Z7.stp h).mono (by simp)) rfl ?_
 rintro wv wq hN
 have hws:SlV [b4,bm] wq wv Z0q:=hN.slv (fun c hc=>gm.hX c (by simp at hc;rcases hc with rfl|rfl<;>simp)) rfl rfl (by decide)
 have hT:=Z7.stp hN
 clear hN
 replace gm:=gm.up hT
 replace hbv:=hbv.up hT
 clear hT
 refine D ?_
 refine D ?_
 refine D ?_
 refine WD_eff rfl trivial (Z5 rfl (Zu rfl rfl rfl) (Zt (b4 :: bm :: X) 10 Z0q[q] bv [y0] _ gm.hX hbv)) (fun _ _ h=>h.2.mono (by simp)) rfl ?_
 rintro _ wq ⟨⟨ky,rfl,hy⟩,hT⟩
 replace gm:=gm.up hT
 clear hT hbv
 refine D ?_
 obtain ⟨cs,hcl,hcb⟩:=gm.blk
 refine WD_eff0 rfl trivial (Z2 (us:=ndC (.mk 10 0 Z0q[q] [y0]) _) rfl rfl rfl rfl (Zh (x:=(.mk 10 0 Z0q[q] [y0])) hy) hcb hcl.symm) (fun _ _ h=>h.1.mono (by simp)) ?_
 rintro _ wz ⟨hz,hbz⟩
 refine D ?_
 refine W ?_
 refine Zk rfl rfl rfl hbz rfl ?_
 have hf:=gm.fin (y:=(.mk 10 0 Z0q[q] [y0])) hS0 hb4 hy hz
 exact .mk ⟨_,_,hf.1,.adj _ _ _ (Xh hqn) g0,hf.2.1,by omega,hf.2.2⟩
 by_cases k5:k=5
 obtain ⟨e,rfl⟩:∃ e,d=e+1:=⟨d - 1,by omega⟩
 replace ih:=ih e rfl
 have hsp:=Z0N e
 focus repeat'(first|refine W1 ?_|omega|refine VG ?_ ?_<;>intro hg|refine VC ?_ ?_<;>intro hc)
 refine W ?_
 refine CL rfl (Zb rfl rfl) rfl ((ih.2.2) (b4 :: bm :: X) _ bm lv l _ _ (by omega) gm.mkr gm.sl hl (by omega) gm.hX) ?_
 rintro _ wq ⟨y0,i0,⟨k0,rfl,s0⟩,g0,hm,hi0,hS⟩
 obtain ⟨p0,c0,rfl,-⟩:=id s0
 replace gm:=gm.nxt hm hS
 clear hm hS
 refine Z3 Z6 rfl ?_
 rintro _ wq ⟨b0',rfl,hb0',e0,hT⟩
 refine Z1 (Z2 (us:=ndC y0 _) rfl rfl rfl rfl (Zh s0) e0 rfl) ?_
 rintro _ wq ⟨hT2,e0⟩
 replace hT:=Je hT hb0' hT2
 clear hT2
 have n0:b0'≠bm:=fun h=>by have:=gm.mkr.lt;omega
 have n0':b0'≠b4:=fun h=>by obtain ⟨_,_,hc⟩:=gm.blk;have:=hc.lt;omega
 replace gm:=gm.up hT
 replace s0:=s0.up hT
 clear hT hb0'
 refine W ?_
 refine Z1e 13 [b4,bm] [] rfl mixed (fun w1 hS1=>?_)
 have hT:=hS1
 replace gm:=gm.up hT
 replace s0:=s0.up hT
 replace e0:=e0.up hT
 clear hT hS1
 refine J3 1 rfl trivial (fun w'=>ZK rfl) rfl (by kernel_rfl) (by kernel_rfl) ?_
 refine Z7U 5 rfl trivial (fun w' hS'=>ZU rfl rfl (e0.ext hS' (by simp;exact ⟨n0',n0⟩)) rfl) rfl (by kernel_rfl) (by kernel_rfl) ?_
 refine J3 6 rfl trivial (fun w'=>ZK rfl) rfl (by kernel_rfl) (by kernel_rfl) ?_
 refine J3 7 rfl trivial (fun w'=>ZK rfl) rfl (by kernel_rfl) (by kernel_rfl) ?_
 refine J3 8 rfl trivial (fun w'=>Z2L rfl rfl (by unfold I64;omega)) rfl (by kernel_rfl) (by kernel_rfl) ?_
 refine Z0w 0 2 (by kernel_rfl) ?_ ?_
 refine ZR rfl trivial (Z0 (vs:=[(0,str [108,97,116,101,114]),(1,str [101,97,114,108,105,101,114])]) rfl (bS2 _ _)) (fun _ _ h=>(Z7.stp h).mono (by simp)) rfl ?_
 rintro wv wq hN
 have hws:SlV [b4,bm] wq wv Z0r:=hN.slv (fun c hc=>gm.hX c (by simp at hc;rcases hc with rfl|rfl<;>simp)) rfl rfl (by decide)
 have hT:=Z7.stp hN
 clear hN
 replace gm:=gm.up hT
 replace s0:=s0.up hT
 replace e0:=e0.up hT
 clear hT
 refine Z2d [(2,2),(3,0),(4,1),(9,2),(10,2),(11,2),(12,2)] (by kernel_rfl) (by kernel_rfl) (by kernel_rfl) ?_
 refine WD_eff rfl trivial (Z5 rfl (Zb rfl rfl) (ZQ bm lv l _ 2 _ (by decide) (by omega) gm.mkr gm.sl hl)) (fun _ _ h=>h.choose_spec.2.2.2.mono (by simp)) rfl ?_
 rintro _ wq ⟨q,rfl,hq,hm,hS⟩
 replace gm:=gm.nxt hm hS
 replace s0:=s0.ext hS (by simp) (fun _ h=>.inl h)
 replace e0:=e0.ext hS (by simp;exact n0)
 replace hws:=hws.ext hS (by simp) (fun _ h=>.inl h)
 clear hm hS
 have hqn:q<Z0r.length:=by show q<2;omega
 refine D ?_
 refine WD_eff rfl trivial (Z5 rfl (Zb rfl rfl) ((ih.2.2) (b4 :: bm :: X) _ bm lv l _ _ (by omega) gm.mkr gm.sl hl (by omega) gm.hX)) (fun _ _ h=>by obtain ⟨_,_,_,_,_,_,h⟩:=h;exact h.mono (by simp)) rfl ?_
 rintro _ wq ⟨y1,i1,⟨k1,rfl,s1⟩,g1,hm,hi1,hS⟩
 obtain ⟨p1,c1,rfl,-⟩:=id s1
 replace gm:=gm.nxt hm hS
 replace s0:=s0.ext hS (by simp) (fun _ h=>.inl h)
 replace e0:=e0.ext hS (by simp;exact n0)
 replace hws:=hws.ext hS (by simp) (fun _ h=>.inl h)
 clear hm hS
 refine D ?_
 refine WD_eff rfl trivial (Z0 (vs:=[(0,.agg #[.int .i64 y0.kind,.int .i64 y0.num,str y0.word,.slice p0 y0.kids.length c0]),(1,.agg #[.int .i64 y1.kind,.int .i64 y1.num,str y1.word,.slice p1 y1.kids.length c1])]) rfl (Jf _ _ _ _ _ _ _ _ _ _ _ _)) (fun _ _ h=>(Z7.stp h).mono (by simp)) rfl ?_
 rintro bv wq hN
 have hbv:SlV (b4 :: bm :: X) wq bv [y0,y1]:=hN.slvG (css:=[ndC y0 _,ndC y1 _]) gm.hX rfl rfl rfl (Z0R s0 s1) (by simp [maxLen])
 have hT:=Z7.stp hN
 clear hN
 replace gm:=gm.up hT
 replace hws:=hws.up hT
 clear hT
 refine D ?_
 refine WD_eff rfl trivial (Z5 rfl (Zu rfl rfl rfl) (Zt (b4 :: bm :: X) 10 Z0r[q] bv [y0,y1] _ gm.hX hbv)) (fun _ _ h=>h.2.mono (by simp)) rfl ?_
 rintro _ wq ⟨⟨ky,rfl,hy⟩,hT⟩
 replace gm:=gm.up hT
 clear hT hbv
 refine D ?_
 obtain ⟨cs,hcl,hcb⟩:=gm.blk
 refine WD_eff0 rfl trivial (Z2 (us:=ndC (.mk 10 0 Z0r[q] [y0,y1]) _) rfl rfl rfl rfl (Zh (x:=(.mk 10 0 Z0r[q] [y0,y1])) hy) hcb hcl.symm) (fun _ _ h=>h.1.mono (by simp)) ?_
 rintro _ wz ⟨hz,hbz⟩
 refine D ?_
 refine W ?_
 refine Zk rfl rfl rfl hbz rfl ?_
 have hf:=gm.fin (y:=(.mk 10 0 Z0r[q] [y0,y1])) hS0 hb4 hy hz
 exact .mk ⟨_,_,hf.1,.two _ _ _ _ (Xh hqn) g0 g1,hf.2.1,by omega,hf.2.2⟩
 refine ZR rfl trivial (Z5 rfl (Zb rfl rfl) (ZQ bm lv l _ 2 _ (by decide) (by omega) gm.mkr gm.sl hl)) (fun _ _ h=>h.choose_spec.2.2.2.mono (by simp)) rfl ?_
 rintro _ wq ⟨q,rfl,hq,hm,hS⟩
 replace gm:=gm.nxt hm hS
 replace s0:=s0.ext hS (by simp) (fun _ h=>.inl h)
 replace e0:=e0.ext hS (by simp;exact n0)
 clear hm hS
 have hqn:q<Z0r.length:=by show q<2;omega
 refine Z0w 0 9 (by kernel_rfl) ?_ ?_
 refine ZR rfl trivial (Z0 (vs:=[(0,str [108,97,116,101,114]),(1,str [101,97,114,108,105,101,114])]) rfl (bS2 _ _)) (fun _ _ h=>(Z7.stp h).mono (by simp)) rfl ?_
 rintro wv wq hN
 have hws:SlV [b4,bm] wq wv Z0r:=hN.slv (fun c hc=>gm.hX c (by simp at hc;rcases hc with rfl|rfl<;>simp)) rfl rfl (by decide)
 have hT:=Z7.stp hN
 clear hN
 replace gm:=gm.up hT
 replace s0:=s0.up hT
 replace e0:=e0.up hT
 clear hT
 refine Z2d [(3,0),(4,1),(9,2),(10,2),(11,2),(12,2)] (by kernel_rfl) (by kernel_rfl) (by kernel_rfl) ?_
 refine D ?_
 refine WD_eff rfl trivial (Z5 rfl (Zb rfl rfl) ((ih.2.2) (b4 :: bm :: X) _ bm lv l _ _ (by omega) gm.mkr gm.sl hl (by omega) gm.hX)) (fun _ _ h=>by obtain ⟨_,_,_,_,_,_,h⟩:=h;exact h.mono (by simp)) rfl ?_
 rintro _ wq ⟨y1,i1,⟨k1,rfl,s1⟩,g1,hm,hi1,hS⟩
 obtain ⟨p1,c1,rfl,-⟩:=id s1
 replace gm:=gm.nxt hm hS
 replace s0:=s0.ext hS (by simp) (fun _ h=>.inl h)
 replace e0:=e0.ext hS (by simp;exact n0)
 replace hws:=hws.ext hS (by simp) (fun _ h=>.inl h)
 clear hm hS
 refine D ?_
 refine WD_eff rfl trivial (Z0 (vs:=[(0,.agg #[.int .i64 y0.kind,.int .i64 y0.num,str y0.word,.slice p0 y0.kids.length c0]),(1,.agg #[.int .i64 y1.kind,.int .i64 y1.num,str y1.word,.slice p1 y1.kids.length c1])]) rfl (Jf _ _ _ _ _ _ _ _ _ _ _ _)) (fun _ _ h=>(Z7.stp h).mono (by simp)) rfl ?_
 rintro bv wq hN
 have hbv:SlV (b4 :: bm :: X) wq bv [y0,y1]:=hN.slvG (css:=[ndC y0 _,ndC y1 _]) gm.hX rfl rfl rfl (Z0R s0 s1) (by simp [maxLen])
 have hT:=Z7.stp hN
 clear hN
 replace gm:=gm.up hT
 replace hws:=hws.up hT
 clear hT
 refine D ?_
 refine WD_eff rfl trivial (Z5 rfl (Zu rfl rfl rfl) (Zt (b4 :: bm :: X) 10 Z0r[q] bv [y0,y1] _ gm.hX hbv)) (fun _ _ h=>h.2.mono (by simp)) rfl ?_
 rintro _ wq ⟨⟨ky,rfl,hy⟩,hT⟩
 replace gm:=gm.up hT
 clear hT hbv
 refine D ?_
 obtain ⟨cs,hcl,hcb⟩:=gm.blk
 refine WD_eff0 rfl trivial (Z2 (us:=ndC (.mk 10 0 Z0r[q] [y0,y1]) _) rfl rfl rfl rfl (Zh (x:=(.mk 10 0 Z0r[q] [y0,y1])) hy) hcb hcl.symm) (fun _ _ h=>h.1.mono (by simp)) ?_
 rintro _ wz ⟨hz,hbz⟩
 refine D ?_
 refine W ?_
 refine Zk rfl rfl rfl hbz rfl ?_
 have hf:=gm.fin (y:=(.mk 10 0 Z0r[q] [y0,y1])) hS0 hb4 hy hz
 exact .mk ⟨_,_,hf.1,.two _ _ _ _ (Xh hqn) g0 g1,hf.2.1,by omega,hf.2.2⟩
 refine ZR rfl trivial (Z5 rfl (Zb rfl rfl) ((ih.2.2) (b4 :: bm :: X) _ bm lv l _ _ (by omega) gm.mkr gm.sl hl (by omega) gm.hX)) (fun _ _ h=>by obtain ⟨_,_,_,_,_,_,h⟩:=h;exact h.mono (by simp)) rfl ?_
 rintro _ wq ⟨y1,i1,⟨k1,rfl,s1⟩,g1,hm,hi1,hS⟩
 obtain ⟨p1,c1,rfl,-⟩:=id s1
 replace gm:=gm.nxt hm hS
 replace s0:=s0.ext hS (by simp) (fun _ h=>.inl h)
 replace e0:=e0.ext hS (by simp;exact n0)
 clear hm hS
 refine Z0w 0 10 (by kernel_rfl) ?_ ?_
 refine ZR rfl trivial (Z0 (vs:=[(0,str [108,97,116,101,114]),(1,str [101,97,114,108,105,101,114])]) rfl (bS2 _ _)) (fun _ _ h=>(Z7.stp h).mono (by simp)) rfl ?_
 rintro wv wq hN
 have hws:SlV [b4,bm] wq wv Z0r:=hN.slv (fun c hc=>gm.hX c (by simp at hc;rcases hc with rfl|rfl<;>simp)) rfl rfl (by decide)
 have hT:=Z7.stp hN
 clear hN
 replace gm:=gm.up hT
 replace s0:=s0.up hT
 replace e0:=e0.up hT
 replace s1:=s1.up hT
 clear hT
 refine Z2d [(3,0),(4,1),(10,2),(11,2),(12,2)] (by kernel_rfl) (by kernel_rfl) (by kernel_rfl) ?_
 refine D ?_
 refine D ?_
 refine WD_eff rfl trivial (Z0 (vs:=[(0,.agg #[.int .i64 y0.kind,.int .i64 y0.num,str y0.word,.slice p0 y0.kids.length c0]),(1,.agg #[.int .i64 y1.kind,.int .i64 y1.num,str y1.word,.slice p1 y1.kids.length c1])]) rfl (Jf _ _ _ _ _ _ _ _ _ _ _ _)) (fun _ _ h=>(Z7.stp h).mono (by simp)) rfl ?_
 rintro bv wq hN
 have hbv:SlV (b4 :: bm :: X) wq bv [y0,y1]:=hN.slvG (css:=[ndC y0 _,ndC y1 _]) gm.hX rfl rfl rfl (Z0R s0 s1) (by simp [maxLen])
 have hT:=Z7.stp hN
 clear hN
 replace gm:=gm.up hT
 replace hws:=hws.up hT
 clear hT
 refine D ?_
 refine WD_eff rfl trivial (Z5 rfl (Zu rfl rfl rfl) (Zt (b4 :: bm :: X) 10 Z0r[q] bv [y0,y1] _ gm.hX hbv)) (fun _ _ h=>h.2.mono (by simp)) rfl ?_
 rintro _ wq ⟨⟨ky,rfl,hy⟩,hT⟩
 replace gm:=gm.up hT
 clear hT hbv
 refine D ?_
 obtain ⟨cs,hcl,hcb⟩:=gm.blk
 refine WD_eff0 rfl trivial (Z2 (us:=ndC (.mk 10 0 Z0r[q] [y0,y1]) _) rfl rfl rfl rfl (Zh (x:=(.mk 10 0 Z0r[q] [y0,y1])) hy) hcb hcl.symm) (fun _ _ h=>h.1.mono (by simp)) ?_
 rintro _ wz ⟨hz,hbz⟩
 refine D ?_
 refine W ?_
 refine Zk rfl rfl rfl hbz rfl ?_
 have hf:=gm.fin (y:=(.mk 10 0 Z0r[q] [y0,y1])) hS0 hb4 hy hz
 exact .mk ⟨_,_,hf.1,.two _ _ _ _ (Xh hqn) g0 g1,hf.2.1,by omega,hf.2.2⟩
 refine ZR rfl trivial (Z0 (vs:=[(0,.agg #[.int .i64 y0.kind,.int .i64 y0.num,str y0.word,.slice p0 y0.kids.length c0]),(1,.agg #[.int .i64 y1.kind,.int .i64 y1.num,str y1.word,.slice p1 y1.kids.length c1])]) rfl (Jf _ _ _ _ _ _ _ _ _ _ _ _)) (fun _ _ h=>(Z7.stp h).mono (by simp)) rfl ?_
 rintro bv wq hN
 have hbv:SlV (b4 :: bm :: X) wq bv [y0,y1]:=hN.slvG (css:=[ndC y0 _,ndC y1 _]) gm.hX rfl rfl rfl (Z0R s0 s1) (by simp [maxLen])
 have hT:=Z7.stp hN
 clear hN
 replace gm:=gm.up hT
 clear hT
 refine Z2d [(0,2),(3,0),(4,1),(11,2),(12,2)] (by kernel_rfl) (by kernel_rfl) (by kernel_rfl) ?_
 refine WD_eff rfl trivial (Z0 (vs:=[(0,str [108,97,116,101,114]),(1,str [101,97,114,108,105,101,114])]) rfl (bS2 _ _)) (fun _ _ h=>(Z7.stp h).mono (by simp)) rfl ?_
 rintro wv wq hN
 have hws:SlV [b4,bm] wq wv Z0r:=hN.slv (fun c hc=>gm.hX c (by simp at hc;rcases hc with rfl|rfl<;>simp)) rfl rfl (by decide)
 have hT:=Z7.stp hN
 clear hN
 replace gm:=gm.up hT
 replace hbv:=hbv.up hT
 clear hT
 refine D ?_
 refine D ?_
 refine D ?_
 refine WD_eff rfl trivial (Z5 rfl (Zu rfl rfl rfl) (Zt (b4 :: bm :: X) 10 Z0r[q] bv [y0,y1] _ gm.hX hbv)) (fun _ _ h=>h.2.mono (by simp)) rfl ?_
 rintro _ wq ⟨⟨ky,rfl,hy⟩,hT⟩
 replace gm:=gm.up hT
 clear hT hbv
 refine D ?_
 obtain ⟨cs,hcl,hcb⟩:=gm.blk
 refine WD_eff0 rfl trivial (Z2 (us:=ndC (.mk 10 0 Z0r[q] [y0,y1]) _) rfl rfl rfl rfl (Zh (x:=(.mk 10 0 Z0r[q] [y0,y1])) hy) hcb hcl.symm) (fun _ _ h=>h.1.mono (by simp)) ?_
 rintro _ wz ⟨hz,hbz⟩
 refine D ?_
 refine W ?_
 refine Zk rfl rfl rfl hbz rfl ?_
 have hf:=gm.fin (y:=(.mk 10 0 Z0r[q] [y0,y1])) hS0 hb4 hy hz
 exact .mk ⟨_,_,hf.1,.two _ _ _ _ (Xh hqn) g0 g1,hf.2.1,by omega,hf.2.2⟩
 by_cases k6:k=6
 obtain ⟨e,rfl⟩:∃ e,d=e+1:=⟨d - 1,by omega⟩
 replace ih:=ih e rfl
 have hsp:=Z0N e
 focus repeat'(first|refine W1 ?_|omega|refine VG ?_ ?_<;>intro hg|refine VC ?_ ?_<;>intro hc)
 refine W ?_
 refine CL rfl (Zb rfl rfl) rfl ((ih.2.1) (b4 :: bm :: X) _ bm lv l _ _ (by omega) gm.mkr gm.sl hl (by omega) gm.hX) ?_
 rintro _ wq ⟨y0,i0,⟨k0,rfl,s0⟩,g0,hm,hi0,hS⟩
 obtain ⟨p0,c0,rfl,-⟩:=id s0
 replace gm:=gm.nxt hm hS
 clear hm hS
 refine Z3 Z6 rfl ?_
 rintro _ wq ⟨b0',rfl,hb0',e0,hT⟩
 refine Z1 (Z2 (us:=ndC y0 _) rfl rfl rfl rfl (Zh s0) e0 rfl) ?_
 rintro _ wq ⟨hT2,e0⟩
 replace hT:=Je hT hb0' hT2
 clear hT2
 have n0:b0'≠bm:=fun h=>by have:=gm.mkr.lt;omega
 have n0':b0'≠b4:=fun h=>by obtain ⟨_,_,hc⟩:=gm.blk;have:=hc.lt;omega
 replace gm:=gm.up hT
 replace s0:=s0.up hT
 clear hT hb0'
 refine W ?_
 refine CL rfl (Zb rfl rfl) rfl ((ih.2.2) (b4 :: bm :: X) _ bm lv l _ _ (by omega) gm.mkr gm.sl hl (by omega) gm.hX) ?_
 rintro _ wq ⟨y1,i1,⟨k1,rfl,s1⟩,g1,hm,hi1,hS⟩
 obtain ⟨p1,c1,rfl,-⟩:=id s1
 replace gm:=gm.nxt hm hS
 replace s0:=s0.ext hS (by simp) (fun _ h=>.inl h)
 replace e0:=e0.ext hS (by simp;exact n0)
 clear hm hS
 refine Z3 Z6 rfl ?_
 rintro _ wq ⟨b1',rfl,hb1',e1,hT⟩
 refine Z1 (Z2 (us:=ndC y1 _) rfl rfl rfl rfl (Zh s1) e1 rfl) ?_
 rintro _ wq ⟨hT2,e1⟩
 replace hT:=Je hT hb1' hT2
 clear hT2
 have n1:b1'≠bm:=fun h=>by have:=gm.mkr.lt;omega
 have n1':b1'≠b4:=fun h=>by obtain ⟨_,_,hc⟩:=gm.blk;have:=hc.lt;omega
 replace gm:=gm.up hT
 replace s0:=s0.up hT
 replace e0:=e0.up hT
 replace s1:=s1.up hT
 clear hT hb1'
 refine W ?_
 refine ZDr 9 ([b4,bm]) [] [(0,1),(1,1),(2,0),(3,0),(4,0),(5,2),(6,2),(7,2),(8,2)] (fun w1 hS1=>?_)
 have hT:=hS1
 replace gm:=gm.up hT
 replace s0:=s0.up hT
 replace e0:=e0.up hT
 replace s1:=s1.up hT
 replace e1:=e1.up hT
 clear hT hS1
 refine WD_read rfl trivial (fun w' hS'=>ZU rfl rfl (e0.ext hS' (by simp;exact ⟨n0',n0⟩)) rfl) rfl ?_
 refine WD_read rfl trivial (fun w' hS'=>ZU rfl rfl (e1.ext hS' (by simp;exact ⟨n1',n1⟩)) rfl) rfl ?_
 refine D ?_
 refine WD_eff rfl trivial (Z5 rfl (Zb rfl rfl) ((ih.2.2) (b4 :: bm :: X) _ bm lv l _ _ (by omega) gm.mkr gm.sl hl (by omega) gm.hX)) (fun _ _ h=>by obtain ⟨_,_,_,_,_,_,h⟩:=h;exact h.mono (by simp)) rfl ?_
 rintro _ wq ⟨y2,i2,⟨k2,rfl,s2⟩,g2,hm,hi2,hS⟩
 obtain ⟨p2,c2,rfl,-⟩:=id s2
 replace gm:=gm.nxt hm hS
 replace s0:=s0.ext hS (by simp) (fun _ h=>.inl h)
 replace e0:=e0.ext hS (by simp;exact n0)
 replace s1:=s1.ext hS (by simp) (fun _ h=>.inl h)
 replace e1:=e1.ext hS (by simp;exact n1)
 clear hm hS
 refine D ?_
 refine WD_eff rfl trivial (Z0 (vs:=[(0,.agg #[.int .i64 y0.kind,.int .i64 y0.num,str y0.word,.slice p0 y0.kids.length c0]),(1,.agg #[.int .i64 y1.kind,.int .i64 y1.num,str y1.word,.slice p1 y1.kids.length c1]),(2,.agg #[.int .i64 y2.kind,.int .i64 y2.num,str y2.word,.slice p2 y2.kids.length c2])]) rfl (Z8v _ _ _ _ _ _ _ _ _ _ _ _ _ _ _ _ _ _)) (fun _ _ h=>(Z7.stp h).mono (by simp)) rfl ?_
 rintro bv wq hN
 have hbv:SlV (b4 :: bm :: X) wq bv [y0,y1,y2]:=hN.slvG (css:=[ndC y0 _,ndC y1 _,ndC y2 _]) gm.hX rfl rfl rfl (Zgm s0 s1 s2) (by simp [maxLen])
 have hT:=Z7.stp hN
 clear hN
 replace gm:=gm.up hT
 clear hT
 refine D ?_
 refine WD_eff rfl trivial (Z5 rfl (Zu rfl rfl rfl) (Zt (b4 :: bm :: X) 9 [] bv [y0,y1,y2] _ gm.hX hbv)) (fun _ _ h=>h.2.mono (by simp)) rfl ?_
 rintro _ wq ⟨⟨ky,rfl,hy⟩,hT⟩
 replace gm:=gm.up hT
 clear hT hbv
 refine D ?_
 obtain ⟨cs,hcl,hcb⟩:=gm.blk
 refine WD_eff0 rfl trivial (Z2 (us:=ndC (.mk 9 0 [] [y0,y1,y2]) _) rfl rfl rfl rfl (Zh (x:=(.mk 9 0 [] [y0,y1,y2])) hy) hcb hcl.symm) (fun _ _ h=>h.1.mono (by simp)) ?_
 rintro _ wz ⟨hz,hbz⟩
 refine D ?_
 refine W ?_
 refine Zk rfl rfl rfl hbz rfl ?_
 have hf:=gm.fin (y:=(.mk 9 0 [] [y0,y1,y2])) hS0 hb4 hy hz
 exact .mk ⟨_,_,hf.1,.cond _ _ _ _ _ (by decide) g0 g1 g2,hf.2.1,by omega,hf.2.2⟩
 obtain ⟨e,rfl⟩:∃ e,d=e+1:=⟨d - 1,by omega⟩
 replace ih:=ih e rfl
 have hsp:=Z0N e
 repeat'(first|refine W1 ?_|omega|refine VG ?_ ?_<;>intro hg|refine VC ?_ ?_<;>intro hc)
 refine W ?_
 refine CL rfl (Zb rfl rfl) rfl ((ih.2.2) (b4 :: bm :: X) _ bm lv l _ _ (by omega) gm.mkr gm.sl hl (by omega) gm.hX) ?_
 rintro _ wq ⟨y0,i0,⟨k0,rfl,s0⟩,g0,hm,hi0,hS⟩
 obtain ⟨p0,c0,rfl,-⟩:=id s0
 replace gm:=gm.nxt hm hS
 clear hm hS
 refine Z3 Z6 rfl ?_
 rintro _ wq ⟨b0',rfl,hb0',e0,hT⟩
 refine Z1 (Z2 (us:=ndC y0 _) rfl rfl rfl rfl (Zh s0) e0 rfl) ?_
 rintro _ wq ⟨hT2,e0⟩
 replace hT:=Je hT hb0' hT2
 clear hT2
 have n0:b0'≠bm:=fun h=>by have:=gm.mkr.lt;omega
 have n0':b0'≠b4:=fun h=>by obtain ⟨_,_,hc⟩:=gm.blk;have:=hc.lt;omega
 replace gm:=gm.up hT
 replace s0:=s0.up hT
 clear hT hb0'
 refine W ?_
 refine Z3 (Z0 (vs:=[(0,str [100,97,121,115]),(1,str [100,97,121,115]),(2,str [99,111,117,114,116,100,97,121,115]),(3,str [119,101,101,107,115]),(4,str [109,111,110,116,104,115])]) rfl (bS5 _ _ _ _ _)) rfl ?_
 rintro wv wq hN
 have hws:SlV [b4,bm] wq wv Z3E:=hN.slv (fun c hc=>gm.hX c (by simp at hc;rcases hc with rfl|rfl<;>simp)) rfl rfl (by decide)
 have hT:=Z7.stp hN
 clear hN
 replace gm:=gm.up hT
 replace s0:=s0.up hT
 replace e0:=e0.up hT
 clear hT
 refine W ?_
 refine CL rfl (Zb rfl rfl) rfl (ZQ bm lv l _ 5 _ (by decide) (by omega) gm.mkr gm.sl hl) ?_
 rintro _ wq ⟨q',rfl,hq',hm,hS⟩
 replace gm:=gm.nxt hm hS
 replace s0:=s0.ext hS (by simp) (fun _ h=>.inl h)
 replace e0:=e0.ext hS (by simp;exact n0)
 replace hws:=hws.ext hS (by simp) (fun _ h=>.inl h)
 clear hm hS
 have hqn:q'<Z3E.length:=by show q'<5;omega
 have hu:=Zai _ (Xh hqn)
 refine W ?_
 clear hws
 refine ZDr 13 ([b4,bm]) [] [(0,0),(4,0),(5,1),(6,0),(7,0),(8,0),(1,2),(2,0),(3,0),(9,2),(10,2),(11,2),(12,2)] (fun w1 hS1=>?_)
 have hT:=hS1
 replace gm:=gm.up hT
 replace s0:=s0.up hT
 replace e0:=e0.up hT
 clear hT hS1
 refine D ?_
 refine WD_eff rfl trivial (Z5 rfl (Zb rfl rfl) (ZQ bm lv l _ 4 _ (by decide) (by omega) gm.mkr gm.sl hl)) (fun _ _ h=>h.choose_spec.2.2.2.mono (by simp)) rfl ?_
 rintro _ wq ⟨q4,rfl,hq4,hm,hS⟩
 replace gm:=gm.nxt hm hS
 replace s0:=s0.ext hS (by simp) (fun _ h=>.inl h)
 replace e0:=e0.ext hS (by simp;exact n0)
 clear hm hS
 refine D ?_
 refine WD_eff rfl trivial (Z5 rfl (Zb rfl rfl) ((ih.1) (b4 :: bm :: X) _ bm lv l _ _ (by omega) gm.mkr gm.sl hl (by omega) gm.hX)) (fun _ _ h=>by obtain ⟨_,_,_,_,_,_,h⟩:=h;exact h.mono (by simp)) rfl ?_
 rintro _ wq ⟨y1,i1,⟨k1,rfl,s1⟩,g1,hm,hi1,hS⟩
 obtain ⟨p1,c1,rfl,-⟩:=id s1
 replace gm:=gm.nxt hm hS
 replace s0:=s0.ext hS (by simp) (fun _ h=>.inl h)
 replace e0:=e0.ext hS (by simp;exact n0)
 clear hm hS
 refine D ?_
 refine WD_eff rfl trivial (Z0 (vs:=[(0,.agg #[.int .i64 y0.kind,.int .i64 y0.num,str y0.word,.slice p0 y0.kids.length c0]),(1,.agg #[.int .i64 y1.kind,.int .i64 y1.num,str y1.word,.slice p1 y1.kids.length c1])]) rfl (Jf _ _ _ _ _ _ _ _ _ _ _ _)) (fun _ _ h=>(Z7.stp h).mono (by simp)) rfl ?_
 rintro bv wq hN
 have hbv:SlV (b4 :: bm :: X) wq bv [y0,y1]:=hN.slvG (css:=[ndC y0 _,ndC y1 _]) gm.hX rfl rfl rfl (Z0R s0 s1) (by simp [maxLen])
 have hT:=Z7.stp hN
 clear hN
 replace gm:=gm.up hT
 clear hT
 refine D ?_
 refine WD_eff rfl trivial (Z5 rfl (Zu rfl rfl rfl) (Zt (b4 :: bm :: X) (7+(q4:Int) / 3) Z3E[q'] bv [y0,y1] _ gm.hX hbv)) (fun _ _ h=>h.2.mono (by simp)) rfl ?_
 rintro _ wq ⟨⟨ky,rfl,hy⟩,hT⟩
 replace gm:=gm.up hT
 clear hT hbv
 refine D ?_
 obtain ⟨cs,hcl,hcb⟩:=gm.blk
 refine WD_eff0 rfl trivial (Z2 (us:=ndC (.mk (7+(q4:Int) / 3) 0 Z3E[q'] [y0,y1]) _) rfl rfl rfl rfl (Zh (x:=(.mk (7+(q4:Int) / 3) 0 Z3E[q'] [y0,y1])) hy) hcb hcl.symm) (fun _ _ h=>h.1.mono (by simp)) ?_
 rintro _ wz ⟨hz,hbz⟩
 refine D ?_
 refine W ?_
 refine Zk rfl rfl rfl hbz rfl ?_
 have hf:=gm.fin (y:=(.mk (7+(q4:Int) / 3) 0 Z3E[q'] [y0,y1])) hS0 hb4 hy hz
 exact .mk ⟨_,_,hf.1,.move _ _ _ _ _ (by omega) hu g0 g1,hf.2.1,by omega,hf.2.2⟩
open Go Go.Eng Go.RowKit Go.Proofs
theorem Zee:∀ d,d≤6→Z1T 43 1 d∧Z1T 44 2 d∧Z1T 45 3 d:=by
 intro d
 induction d with
 | zero=>
   intro h
   have ih':∀ e,0=e+1→Z1T 43 1 e∧Z1T 44 2 e∧Z1T 45 3 e:=fun e he=>by omega
   exact ⟨Z4h _ h ih',Z65 _ h ih',Z66 _ h ih'⟩
 | succ d ih=>
   intro h
   have ih':∀ e,d+1=e+1→Z1T 43 1 e∧Z1T 44 2 e∧Z1T 45 3 e:=fun e he=>by
    obtain rfl:d=e:=by omega
    exact ih (by omega)
   exact ⟨Z4h _ h ih',Z65 _ h ih',Z66 _ h ih'⟩
theorem Zaj (X:List Nat) (v:Value) (l:List Int) (m:Nat) (w:World) (hs:SlV X w v l) (hl:∀ a∈l,I64 a) (hm:m≤100000):CC 40 #[v,.int .i64 (m:Int)] w fun r w'=>JI 3 w w' r (l.take m):=by
 have hmax:=hs.max
 refine cW2 14 Tryz.func40 ?_
 refine W ?_
 have hmin:min (l.length:Int) (m:Int)=((min l.length m:Nat):Int):=by omega
 refine Ze (Z3p (r:=min l.length m) rfl hs rfl (by omega) (Nat.min_le_left _ _)) rfl ?_
 have hsl:SlV X w _ (l.take (min l.length m)):=hs.slc (Xu (min l.length m)) (Nat.min_le_left _ _)
 refine Z3 (Z0K rfl (by decide) rfl rfl (JI.nil (w:=w)) (ys:=l.take (min l.length m)) (hsl.wk (by simp [ob])) (by simp;omega) (by simp [maxLen];omega)) rfl ?_
 rintro v' w1 ⟨hrow,-,-⟩
 refine W ?_
 refine WR ?_
 refine .mk ?_
 have e:l.take (min l.length m)=l.take m:=by rw [Nat.min_comm,← Yag,XC]
 rw [XL,e] at hrow
 exact hrow
theorem Zef (p:Option Addr) (l c:Nat) (w:World):(Instr.build 103 #[(0,.slice p l c)]).run Tryz.prog w=.ok (.agg #[.slice p l c,.int .i64 0]) w:=by kernel_rfl
end Go.Proofs.YtjdjdoefppebkaaGreatDoor
namespace Go.Eng
open Go Go.RowKit Go.Proofs
section
variable {P:Program} {n:Nat} {fn:Func} {R:Ending→World→Prop} {e:Env} {w:World}
theorem Z4L {t1 t2 t3 b1 b2 b3 T1 T2 T3 S1 S2 S3 m1 m2 m3 s:Nat} {D1 D2 D3:TypeDesc} {c1 c2 c3:List Value} {v:Value} (hr:fn.results=#[.cell t1 S1,.cell t2 S2,.cell t3 S3,.tmp s])
 [hu1:Und P S1 D1] (hA1:JG D1=true) [hs1:Siz P S1 m1] (ht1:look e t1=some (.pointer (some ⟨b1,0,none⟩))) (hb1:Blk w b1 T1 c1) (hl1:c1.length=m1)
 [hu2:Und P S2 D2] (hA2:JG D2=true) [hs2:Siz P S2 m2] (ht2:look e t2=some (.pointer (some ⟨b2,0,none⟩))) (hb2:Blk w b2 T2 c2) (hl2:c2.length=m2)
 [hu3:Und P S3 D3] (hA3:JG D3=true) [hs3:Siz P S3 m3] (ht3:look e t3=some (.pointer (some ⟨b3,0,none⟩))) (hb3:Blk w b3 T3 c3) (hl3:c3.length=m3)
 (hv:look e s=some v) (h:R (.returned (.tuple #[.agg c1.toArray,.agg c2.toArray,.agg c3.toArray,v])) w):WQ n (bodyPost P fn R) .ret e w:=
 ⟨fun a ha => ⟨ha.defers, .tuple #[.agg c1.toArray, .agg c2.toArray, .agg c3.toArray, v], by
   have h1:=ha.vals _ _ ht1
   have h2:=ha.vals _ _ ht2
   have h3:=ha.vals _ _ ht3
   have h4:=ha.vals _ _ hv
   rw [Array.getD_eq_getD_getElem?] at h1 h2 h3 h4
   simp [results,hr,h1,h2,h3,h4,asAddr,JS hA1 hb1 hl1,JS hA2 hb2 hl2,JS hA3 hb3 hl3],h⟩⟩
end
end Go.Eng
namespace Go.Proofs.YtjdjdoefppebkaaGreatDoor
open Go Go.Eng Go.RowKit
theorem Z03 {c:Cal} {hv cv zo zs hr:Value} (h1:hv.oneCell'=true) (h2:cv.oneCell'=true) (ho:zo.oneCell'=true∧zs.oneCell'=true∧hr.oneCell'=true):∀ u∈J7 c hv cv zo zs hr,u.oneCell'=true:=by
 obtain ⟨h3,h4,h5⟩:=ho
 intro u hu
 unfold J7 at hu
 simp only [Xf,Xk,or_false] at hu
 rcases hu with rfl|rfl|rfl|rfl|rfl|rfl|rfl|rfl|rfl|rfl|rfl|rfl<;>first|rfl|assumption
theorem JQ (ev:List Int):∀ u∈evC ev,u.oneCell'=true:=by
 intro u hu
 unfold evC at hu
 simp only [Xf,Xk,or_false] at hu
 rcases hu with rfl|rfl|rfl|rfl|rfl|rfl|rfl<;>rfl
abbrev Z9j (v0 v1 v2:Value) (kd kz:Int):Value:=.agg #[v0,v1,v2,.int .i64 kd,.int .i64 kz]
theorem Z3F (v0 v1 v2:Value) (l0 l1 l2:List Int) (kd kz:Int) (w:World) (h0:SlV [] w v0 l0) (h1:SlV [] w v1 l1) (h2:SlV [] w v2 l2) (hi0:∀ a∈l0,I64 a) (hi1:∀ a∈l1,I64 a) (hi2:∀ a∈l2,I64 a) (hkd:I64 kd) (hkz:I64 kz) (hL:JY w) (hM:Z1S w) :
 CC 12 #[Z9j v0 v1 v2 kd kz] w fun r w'=>∃ (y:Nd) (t:Int) (ky:Value) (ev:List Int) (c:Cal) (hv cv zo zs hr:Value) (kn:Int),r=.tuple #[.agg (ndC y ky).toArray,Z58 ev,Z1v c hv cv zo zs hr,.int .i64 kn]∧Gn t 4 y∧SlV [] w' ky y.kids∧Z1C ev∧Z1D w' c hv cv zo zs hr∧(zo.oneCell'=true∧zs.oneCell'=true∧hr.oneCell'=true)∧Z72 c∧(739606≤kn∧kn<739686)∧Stp [] w w':=by
 refine cW1 48 Tryz.func12 ?_
 refine W ?_
 refine Z3 (Zq rfl) rfl ?_
 rintro _ w1 ⟨b1,rfl,hb1,k1,hS⟩
 have gw1:=hS.size
 have lt1:=k1.lt
 replace k1:Blk w1 b1 24 [v0,v1,v2,.int .i64 kd,.int .i64 kz]:=k1
 refine Z3 Z6 rfl ?_
 rintro _ w2 ⟨b2,rfl,hb2,k2,hT⟩
 replace k1:=k1.up hT
 replace hS:=hS.trans hT
 clear hT
 have lt2:=k2.lt
 refine Z3 Z6 rfl ?_
 rintro _ w3 ⟨b3,rfl,hb3,k3,hT⟩
 replace k1:=k1.up hT
 replace k2:=k2.up hT
 replace hS:=hS.trans hT
 clear hT
 have lt3:=k3.lt
 refine Z3 Z6 rfl ?_
 rintro _ w4 ⟨b4,rfl,hb4,k4,hT⟩
 replace k1:=k1.up hT
 replace k2:=k2.up hT
 replace k3:=k3.up hT
 replace hS:=hS.trans hT
 clear hT
 have lt4:=k4.lt
 have g1:w.heap.size≤b2∧w.heap.size≤b3∧w.heap.size≤b4:=by omega
 refine W ?_
 refine CL rfl (Zb rfl rfl) rfl (Zaj [] v0 l0 60 _ (h0.up hS) hi0 (by decide)) ?_
 rintro lv w5 hrow0
 have hsl:=hrow0.slv (X:=[]) (by simp)
 have hT:=hrow0.2
 replace k1:=k1.up hT
 replace k2:=k2.up hT
 replace k3:=k3.up hT
 replace k4:=k4.up hT
 replace hS:=hS.trans hT
 clear hT hrow0
 have hl':∀ a∈l0.take 60,I64 a:=fun a ha=>hi0 a (Yab ha)
 generalize l0.take 60=l' at *
 obtain ⟨p,cc,rfl,-⟩:=id hsl
 refine W ?_
 refine Zf (vs:=[(0,.slice p l'.length cc)]) rfl (Zef _ _ _) rfl ?_
 have lt5:=k4.lt
 have g5:=hS.size
 refine Z3 (Zq rfl) rfl ?_
 rintro _ w6 ⟨bm,rfl,hbm,hmk,hT⟩
 replace hmk:Mk3 w6 bm (.slice p l'.length cc) 0:=hmk
 replace hsl:SlV [bm] w6 (.slice p l'.length cc) l':=hsl.ext hT (by simp) (fun b h=>.inr (by simp at h;omega))
 replace k1:=k1.up hT
 replace k2:=k2.up hT
 replace k3:=k3.up hT
 replace k4:=k4.up hT
 replace hS:=hS.trans hT
 have ltm:=hmk.lt
 clear hT
 refine W ?_
 refine CL rfl (Zb rfl rfl) rfl (Zw kz 80 _ (by decide) hkz) ?_
 rintro _ w7 ⟨rfl,hT⟩
 have hrz:=Zs (if kz<0 then -(kz+1) else kz) 80 (by decide)
 generalize (if kz<0 then -(kz+1) else kz) % 80=z at hrz ⊢
 replace k1:=k1.up hT
 replace k2:=k2.up hT
 replace k3:=k3.up hT
 replace k4:=k4.up hT
 replace hmk:=hmk.up hT
 replace hsl:=hsl.up hT
 replace hS:=hS.trans hT
 clear hT
 refine W ?_
 refine CL rfl (Zr rfl) rfl (Z9h v1 l1 _ (h1.up hS) hi1) ?_
 rintro _ w8 ⟨ev,rfl,hev,hT⟩
 replace k1:=k1.up hT
 replace k2:=k2.up hT
 replace k3:=k3.up hT
 replace k4:=k4.up hT
 replace hmk:=hmk.up hT
 replace hsl:=hsl.up hT
 replace hS:=hS.trans hT
 clear hT
 refine W ?_
 have lt8:=hmk.lt
 refine Z3 Z6 rfl ?_
 rintro _ w9 ⟨b8,rfl,hb8,k8,hT⟩
 have hq:=hT
 have hsl8:=hsl
 replace k1:=k1.up hT
 replace k2:=k2.up hT
 replace k3:=k3.up hT
 replace k4:=k4.up hT
 replace hmk:=hmk.up hT
 replace hsl:=hsl.up hT
 replace hS:=hS.trans hT
 clear hT
 refine W ?_
 refine Z1 (Z2 (us:=evC ev) rfl rfl rfl rfl (JQ _) k8 rfl) ?_
 rintro _ w10 ⟨hT,k8⟩
 have ne8:b1≠b8∧b2≠b8∧b3≠b8∧b4≠b8∧bm≠b8:=by omega
 have gw9:=hS.size
 replace k1:=k1.ext hT (by simpa using ne8.1)
 replace k2:=k2.ext hT (by simpa using ne8.2.1)
 replace k3:=k3.ext hT (by simpa using ne8.2.2.1)
 replace k4:=k4.ext hT (by simpa using ne8.2.2.2.1)
 replace hmk:=hmk.ext hT (by simpa using ne8.2.2.2.2)
 have gb8:w.heap.size≤b8:=by omega
 have lt9:=k8.lt
 replace hS:=hS.own hT (fun c hc=>.inr (by simp at hc;omega))
 replace hsl:=hsl8.up (hq.own hT (fun c hc=>.inr (by simp at hc;omega)))
 clear hT hsl8 hq
 refine W ?_
 refine CL rfl (Zr rfl) rfl (Z64 [bm,b2,b3,b4] v2 l2 _ (by have:=hmk.lt;have:=k2.lt;have:=k3.lt;have:=k4.lt;simp;omega) (h2.up hS) hi2) ?_
 rintro _ w11 ⟨c,hv,cv,zo,zs,hr,rfl,ho,hok,hhv,hcv,hT⟩
 replace k1:=k1.up hT
 replace k2:=k2.up hT
 replace k3:=k3.up hT
 replace k4:=k4.up hT
 replace hmk:=hmk.up hT
 replace hsl:=hsl.up hT
 replace k8:=k8.up hT
 replace hS:=hS.trans hT
 clear hT
 refine W ?_
 have lt11:=hmk.lt
 have lt11b:=k8.lt
 have hsl11:=hsl
 refine Z3 Z6 rfl ?_
 rintro _ w12 ⟨b9,rfl,hb9,k9,hT⟩
 have hq:=hT
 replace k1:=k1.up hT
 replace k2:=k2.up hT
 replace k3:=k3.up hT
 replace k4:=k4.up hT
 replace hmk:=hmk.up hT
 replace k8:=k8.up hT
 replace hS:=hS.trans hT
 clear hT
 refine W ?_
 have gw12:=hS.size
 have ne9:b1≠b9∧b2≠b9∧b3≠b9∧b4≠b9∧bm≠b9∧b8≠b9:=by
  omega
 refine Z1 (Z2 (us:=J7 c hv cv zo zs hr) rfl rfl rfl rfl (Z03 hhv.one hcv.one ho) k9 rfl) ?_
 rintro _ w13 ⟨hT,k9⟩
 replace k1:=k1.ext hT (by simpa using ne9.1)
 replace k2:=k2.ext hT (by simpa using ne9.2.1)
 replace k3:=k3.ext hT (by simpa using ne9.2.2.1)
 replace k4:=k4.ext hT (by simpa using ne9.2.2.2.1)
 replace hmk:=hmk.ext hT (by simpa using ne9.2.2.2.2.1)
 replace k8:=k8.ext hT (by simpa using ne9.2.2.2.2.2)
 have hq2:=hq.own hT (fun c hc=>.inr (by simp at hc;omega))
 have gb9:w.heap.size≤b9:=by have:=hS.size;omega
 replace hS:=hS.own hT (fun c hc=>.inr (by simp at hc;omega))
 replace hsl:=hsl11.up hq2
 replace hhv:=hhv.up hq2
 replace hcv:=hcv.up hq2
 clear hT hsl11 hq hq2
 refine W ?_
 refine CL rfl (Zb rfl rfl) rfl (Zw kd 4 _ (by decide) hkd) ?_
 rintro _ w14 ⟨rfl,hT⟩
 have hrk:=Zs (if kd<0 then -(kd+1) else kd) 4 (by decide)
 generalize (if kd<0 then -(kd+1) else kd) % 4=kk at hrk ⊢
 replace k1:=k1.up hT
 replace k2:=k2.up hT
 replace k3:=k3.up hT
 replace k4:=k4.up hT
 replace hmk:=hmk.up hT
 replace k8:=k8.up hT
 replace k9:=k9.up hT
 replace hsl:=hsl.up hT
 replace hhv:=hhv.up hT
 replace hcv:=hcv.up hT
 replace hS:=hS.trans hT
 clear hT
 have n8:b8∉[bm,b2,b3,b4]:=by simp;omega
 have n9:b9∉[bm,b2,b3,b4]:=by simp;omega
 have e23:b2≠b3∧b2≠b4∧b3≠b4∧b2≠bm∧b3≠bm∧b4≠bm:=by omega
 by_cases hk0:kk=0
 focus repeat'(first|refine W1 ?_|omega|refine VG ?_ ?_<;>intro hg|refine VC ?_ ?_<;>intro hc)
 refine ZDr 9 ([bm,b2,b3,b4]) [] [(0,0),(2,1),(3,1),(4,0),(1,2),(5,2),(6,2),(7,2),(8,0)] (fun w1 hS1=>?_)
 have hT:=hS1
 replace k1:=k1.up hT
 replace k2:=k2.up hT
 replace k3:=k3.up hT
 replace k4:=k4.up hT
 replace hmk:=hmk.up hT
 replace k8:=k8.up hT
 replace k9:=k9.up hT
 replace hsl:=hsl.up hT
 replace hhv:=hhv.up hT
 replace hcv:=hcv.up hT
 replace hS:=hS.trans hT
 clear hT
 clear hS1
 refine D ?_
 refine WD_eff rfl trivial (Z5 rfl (Zb rfl rfl) ((Zee 4 (by decide)).1 [b2,b3,b4] _ bm _ l' 0 4 rfl hmk hsl hl' (by decide) (by have:=k2.lt;have:=k3.lt;have:=k4.lt;simp;omega))) (fun _ _ h=>(h.choose_spec.choose_spec.2.2.2.2).mono (by simp)) rfl ?_
 rintro _ w15 ⟨y,i',⟨ky,rfl,hky⟩,hgn,-,-,hT⟩
 replace k2:=k2.ext hT (by simp;omega)
 replace k3:=k3.ext hT (by simp;omega)
 replace k4:=k4.ext hT (by simp;omega)
 replace k8:=k8.ext hT (by simp;omega)
 replace k9:=k9.ext hT (by simp;omega)
 replace hhv:=hhv.ext (X':=[bm,b2,b3,b4]) hT (by simp) (fun _ h=>.inl h)
 replace hcv:=hcv.ext (X':=[bm,b2,b3,b4]) hT (by simp) (fun _ h=>.inl h)
 replace hS:=hS.own hT (fun c hc=>.inr (by simp at hc;omega))
 clear hT hmk hsl
 refine D ?_
 refine WD_eff0 rfl trivial (Z2 (us:=ndC y ky) rfl rfl rfl rfl (Zh hky) k2 rfl) (fun _ _ h=>h.1.mono (by simp)) ?_
 rintro _ w16 ⟨hT,k2⟩
 replace k3:=k3.ext hT (by simp;omega)
 replace k4:=k4.ext hT (by simp;omega)
 replace k8:=k8.ext hT (by simp;omega)
 replace k9:=k9.ext hT (by simp;omega)
 replace hky:=hky.ext (X':=[b2,b3,b4]) hT (by simp) (fun _ h=>.inl h)
 replace hhv:=hhv.ext (X':=[bm,b2,b3,b4]) hT (by simp) (fun _ h=>.inl h)
 replace hcv:=hcv.ext (X':=[bm,b2,b3,b4]) hT (by simp) (fun _ h=>.inl h)
 replace hS:=hS.own hT (fun c hc=>.inr (by simp at hc;omega))
 clear hT
 refine D ?_
 refine WD_eff0 rfl trivial (Z2 (us:=evC ev) rfl rfl rfl rfl (JQ _) k3 rfl) (fun _ _ h=>h.1.mono (by simp)) ?_
 rintro _ w17 ⟨hT,k3⟩
 replace k2:=k2.ext hT (by simp;omega)
 replace k4:=k4.ext hT (by simp;omega)
 replace k9:=k9.ext hT (by simp;omega)
 replace hky:=hky.ext (X':=[b2,b3,b4]) hT (by simp) (fun _ h=>.inl h)
 replace hhv:=hhv.ext (X':=[bm,b2,b3,b4]) hT (by simp) (fun _ h=>.inl h)
 replace hcv:=hcv.ext (X':=[bm,b2,b3,b4]) hT (by simp) (fun _ h=>.inl h)
 replace hS:=hS.own hT (fun c hc=>.inr (by simp at hc;omega))
 clear hT
 refine D ?_
 refine WD_eff0 rfl trivial (Z2 (us:=J7 c hv cv zo zs hr) rfl rfl rfl rfl (Z03 hhv.one hcv.one ho) k4 rfl) (fun _ _ h=>h.1.mono (by simp)) ?_
 rintro _ w18 ⟨hT,k4⟩
 replace k2:=k2.ext hT (by simp;omega)
 replace k3:=k3.ext hT (by simp;omega)
 replace hky:=hky.ext (X':=[b2,b3,b4]) hT (by simp) (fun _ h=>.inl h)
 replace hhv:=hhv.ext (X':=[bm,b2,b3,b4]) hT (by simp) (fun _ h=>.inl h)
 replace hcv:=hcv.ext (X':=[bm,b2,b3,b4]) hT (by simp) (fun _ h=>.inl h)
 replace hS:=hS.own hT (fun c hc=>.inr (by simp at hc;omega))
 clear hT
 refine D ?_
 refine W ?_
 refine Z4L rfl rfl rfl k2 rfl rfl rfl k3 rfl rfl rfl k4 rfl rfl ?_
 exact .mk ⟨y,_,ky,ev,c,hv,cv,zo,zs,hr,_,rfl,hgn,hky.wk (by simp),hev,⟨hhv.wk (by simp),hcv.wk (by simp),hL.up hS,hM.up hS,hok.ok⟩,ho,hok,(by omega),hS⟩
 by_cases hk1:kk=1
 focus repeat'(first|refine W1 ?_|omega|refine VG ?_ ?_<;>intro hg|refine VC ?_ ?_<;>intro hc)
 refine ZDr 9 ([bm,b2,b3,b4]) [] [(0,0),(2,1),(3,1),(4,0),(1,2),(5,2),(6,2),(7,2),(8,0)] (fun w1 hS1=>?_)
 have hT:=hS1
 replace k1:=k1.up hT
 replace k2:=k2.up hT
 replace k3:=k3.up hT
 replace k4:=k4.up hT
 replace hmk:=hmk.up hT
 replace k8:=k8.up hT
 replace k9:=k9.up hT
 replace hsl:=hsl.up hT
 replace hhv:=hhv.up hT
 replace hcv:=hcv.up hT
 replace hS:=hS.trans hT
 clear hT
 clear hS1
 refine D ?_
 refine WD_eff rfl trivial (Z5 rfl (Zb rfl rfl) ((Zee 4 (by decide)).2.1 [b2,b3,b4] _ bm _ l' 0 4 rfl hmk hsl hl' (by decide) (by have:=k2.lt;have:=k3.lt;have:=k4.lt;simp;omega))) (fun _ _ h=>(h.choose_spec.choose_spec.2.2.2.2).mono (by simp)) rfl ?_
 rintro _ w15 ⟨y,i',⟨ky,rfl,hky⟩,hgn,-,-,hT⟩
 replace k2:=k2.ext hT (by simp;omega)
 replace k3:=k3.ext hT (by simp;omega)
 replace k4:=k4.ext hT (by simp;omega)
 replace k8:=k8.ext hT (by simp;omega)
 replace k9:=k9.ext hT (by simp;omega)
 replace hhv:=hhv.ext (X':=[bm,b2,b3,b4]) hT (by simp) (fun _ h=>.inl h)
 replace hcv:=hcv.ext (X':=[bm,b2,b3,b4]) hT (by simp) (fun _ h=>.inl h)
 replace hS:=hS.own hT (fun c hc=>.inr (by simp at hc;omega))
 clear hT hmk hsl
 refine D ?_
 refine WD_eff0 rfl trivial (Z2 (us:=ndC y ky) rfl rfl rfl rfl (Zh hky) k2 rfl) (fun _ _ h=>h.1.mono (by simp)) ?_
 rintro _ w16 ⟨hT,k2⟩
 replace k3:=k3.ext hT (by simp;omega)
 replace k4:=k4.ext hT (by simp;omega)
 replace k8:=k8.ext hT (by simp;omega)
 replace k9:=k9.ext hT (by simp;omega)
 replace hky:=hky.ext (X':=[b2,b3,b4]) hT (by simp) (fun _ h=>.inl h)
 replace hhv:=hhv.ext (X':=[bm,b2,b3,b4]) hT (by simp) (fun _ h=>.inl h)
 replace hcv:=hcv.ext (X':=[bm,b2,b3,b4]) hT (by simp) (fun _ h=>.inl h)
 replace hS:=hS.own hT (fun c hc=>.inr (by simp at hc;omega))
 clear hT
 refine D ?_
 refine WD_eff0 rfl trivial (Z2 (us:=evC ev) rfl rfl rfl rfl (JQ _) k3 rfl) (fun _ _ h=>h.1.mono (by simp)) ?_
 rintro _ w17 ⟨hT,k3⟩
 replace k2:=k2.ext hT (by simp;omega)
 replace k4:=k4.ext hT (by simp;omega)
 replace k9:=k9.ext hT (by simp;omega)
 replace hky:=hky.ext (X':=[b2,b3,b4]) hT (by simp) (fun _ h=>.inl h)
 replace hhv:=hhv.ext (X':=[bm,b2,b3,b4]) hT (by simp) (fun _ h=>.inl h)
 replace hcv:=hcv.ext (X':=[bm,b2,b3,b4]) hT (by simp) (fun _ h=>.inl h)
 replace hS:=hS.own hT (fun c hc=>.inr (by simp at hc;omega))
 clear hT
 refine D ?_
 refine WD_eff0 rfl trivial (Z2 (us:=J7 c hv cv zo zs hr) rfl rfl rfl rfl (Z03 hhv.one hcv.one ho) k4 rfl) (fun _ _ h=>h.1.mono (by simp)) ?_
 rintro _ w18 ⟨hT,k4⟩
 replace k2:=k2.ext hT (by simp;omega)
 replace k3:=k3.ext hT (by simp;omega)
 replace hky:=hky.ext (X':=[b2,b3,b4]) hT (by simp) (fun _ h=>.inl h)
 replace hhv:=hhv.ext (X':=[bm,b2,b3,b4]) hT (by simp) (fun _ h=>.inl h)
 replace hcv:=hcv.ext (X':=[bm,b2,b3,b4]) hT (by simp) (fun _ h=>.inl h)
 replace hS:=hS.own hT (fun c hc=>.inr (by simp at hc;omega))
 clear hT
 refine D ?_
 refine W ?_
 refine Z4L rfl rfl rfl k2 rfl rfl rfl k3 rfl rfl rfl k4 rfl rfl ?_
 exact .mk ⟨y,_,ky,ev,c,hv,cv,zo,zs,hr,_,rfl,hgn,hky.wk (by simp),hev,⟨hhv.wk (by simp),hcv.wk (by simp),hL.up hS,hM.up hS,hok.ok⟩,ho,hok,(by omega),hS⟩
 focus repeat'(first|refine W1 ?_|omega|refine VG ?_ ?_<;>intro hg|refine VC ?_ ?_<;>intro hc)
 refine ZDr 9 ([bm,b2,b3,b4]) [] [(0,0),(2,1),(3,1),(4,0),(1,2),(5,2),(6,2),(7,2),(8,0)] (fun w1 hS1=>?_)
 have hT:=hS1
 replace k1:=k1.up hT
 replace k2:=k2.up hT
 replace k3:=k3.up hT
 replace k4:=k4.up hT
 replace hmk:=hmk.up hT
 replace k8:=k8.up hT
 replace k9:=k9.up hT
 replace hsl:=hsl.up hT
 replace hhv:=hhv.up hT
 replace hcv:=hcv.up hT
 replace hS:=hS.trans hT
 clear hT
 clear hS1
 refine D ?_
 refine WD_eff rfl trivial (Z5 rfl (Zb rfl rfl) ((Zee 4 (by decide)).2.2 [b2,b3,b4] _ bm _ l' 0 4 rfl hmk hsl hl' (by decide) (by have:=k2.lt;have:=k3.lt;have:=k4.lt;simp;omega))) (fun _ _ h=>(h.choose_spec.choose_spec.2.2.2.2).mono (by simp)) rfl ?_
 rintro _ w15 ⟨y,i',⟨ky,rfl,hky⟩,hgn,-,-,hT⟩
 replace k2:=k2.ext hT (by simp;omega)
 replace k3:=k3.ext hT (by simp;omega)
 replace k4:=k4.ext hT (by simp;omega)
 replace k8:=k8.ext hT (by simp;omega)
 replace k9:=k9.ext hT (by simp;omega)
 replace hhv:=hhv.ext (X':=[bm,b2,b3,b4]) hT (by simp) (fun _ h=>.inl h)
 replace hcv:=hcv.ext (X':=[bm,b2,b3,b4]) hT (by simp) (fun _ h=>.inl h)
 replace hS:=hS.own hT (fun c hc=>.inr (by simp at hc;omega))
 clear hT hmk hsl
 refine D ?_
 refine WD_eff0 rfl trivial (Z2 (us:=ndC y ky) rfl rfl rfl rfl (Zh hky) k2 rfl) (fun _ _ h=>h.1.mono (by simp)) ?_
 rintro _ w16 ⟨hT,k2⟩
 replace k3:=k3.ext hT (by simp;omega)
 replace k4:=k4.ext hT (by simp;omega)
 replace k8:=k8.ext hT (by simp;omega)
 replace k9:=k9.ext hT (by simp;omega)
 replace hky:=hky.ext (X':=[b2,b3,b4]) hT (by simp) (fun _ h=>.inl h)
 replace hhv:=hhv.ext (X':=[bm,b2,b3,b4]) hT (by simp) (fun _ h=>.inl h)
 replace hcv:=hcv.ext (X':=[bm,b2,b3,b4]) hT (by simp) (fun _ h=>.inl h)
 replace hS:=hS.own hT (fun c hc=>.inr (by simp at hc;omega))
 clear hT
 refine D ?_
 refine WD_eff0 rfl trivial (Z2 (us:=evC ev) rfl rfl rfl rfl (JQ _) k3 rfl) (fun _ _ h=>h.1.mono (by simp)) ?_
 rintro _ w17 ⟨hT,k3⟩
 replace k2:=k2.ext hT (by simp;omega)
 replace k4:=k4.ext hT (by simp;omega)
 replace k9:=k9.ext hT (by simp;omega)
 replace hky:=hky.ext (X':=[b2,b3,b4]) hT (by simp) (fun _ h=>.inl h)
 replace hhv:=hhv.ext (X':=[bm,b2,b3,b4]) hT (by simp) (fun _ h=>.inl h)
 replace hcv:=hcv.ext (X':=[bm,b2,b3,b4]) hT (by simp) (fun _ h=>.inl h)
 replace hS:=hS.own hT (fun c hc=>.inr (by simp at hc;omega))
 clear hT
 refine D ?_
 refine WD_eff0 rfl trivial (Z2 (us:=J7 c hv cv zo zs hr) rfl rfl rfl rfl (Z03 hhv.one hcv.one ho) k4 rfl) (fun _ _ h=>h.1.mono (by simp)) ?_
 rintro _ w18 ⟨hT,k4⟩
 replace k2:=k2.ext hT (by simp;omega)
 replace k3:=k3.ext hT (by simp;omega)
 replace hky:=hky.ext (X':=[b2,b3,b4]) hT (by simp) (fun _ h=>.inl h)
 replace hhv:=hhv.ext (X':=[bm,b2,b3,b4]) hT (by simp) (fun _ h=>.inl h)
 replace hcv:=hcv.ext (X':=[bm,b2,b3,b4]) hT (by simp) (fun _ h=>.inl h)
 replace hS:=hS.own hT (fun c hc=>.inr (by simp at hc;omega))
 clear hT
 refine D ?_
 refine W ?_
 refine Z4L rfl rfl rfl k2 rfl rfl rfl k3 rfl rfl rfl k4 rfl rfl ?_
 exact .mk ⟨y,_,ky,ev,c,hv,cv,zo,zs,hr,_,rfl,hgn,hky.wk (by simp),hev,⟨hhv.wk (by simp),hcv.wk (by simp),hL.up hS,hM.up hS,hok.ok⟩,ho,hok,(by omega),hS⟩
theorem Zg6 (op:BinOp) (x y:Operand) (a b:Spn) (w:World):(eqGuard op 111 x y (agg a) (agg b)).run Tryz.prog w=.ok () w:=by
 cases op<;>kernel_rfl
theorem Zmq (a b:Spn) (w:World):(binOp .neq 111 (agg a) (agg b)).run Tryz.prog w=.ok (.bool (decide (¬ a=b))) w:=by
 have h1:Program.stoodInHeld Tryz.prog 111=false:=by kernel_rfl
 obtain ⟨a1,a2⟩:=a
 obtain ⟨b1,b2⟩:=b
 simp [agg,Za.enc,run_neq_struct,run_equalIn_struct,h1,Program.fieldsOf,Tryz.underlying111,Op.eqFields,part,Und.isAgg,JG,run_equalIn_int w _ _ .i64 .i64 _ _ Tryz.underlying3]
 repeat' split
 all_goals simp_all
theorem Z0d (va vb:Value) (xs ys:List Spn) (w:World) (ha:SlV [] w va xs) (hb:SlV [] w vb ys) :
 CC 49 #[va,vb] w fun r w'=>r=.bool (decide (xs=ys))∧Stp [] w w':=by
 have hma:=ha.max
 have hmb:=hb.max
 refine cW2 26 Tryz.func49 ?_
 refine W ?_
 by_cases hl:xs.length=ys.length
 case neg=>
  repeat'(first|refine W1 ?_|omega|refine VG ?_ ?_<;>intro hg|refine VC ?_ ?_<;>intro hc)
  refine WR ?_
  exact .mk ⟨by congr 1;rw [eq_comm,decide_eq_false_iff_not];exact fun h=>hl (by rw [h]),Stp.refl _ _⟩
 repeat'(first|refine W1 ?_|omega|refine VG ?_ ?_<;>intro hg|refine VC ?_ ?_<;>intro hc)
 refine Zv (σ:=Nat) (fun j=>[(0,va),(1,vb),(4,.bool false),(5,.int .i64 (j:Int))]) (fun j w'=>j≤xs.length∧Stp [] w w'∧∀ i (h:i<xs.length),i<j→xs[i]=ys[i]'(by omega)) (fun j=>xs.length - j) 0 ⟨rfl,rfl,rfl,rfl,trivial⟩ ⟨Xu _,Stp.refl _ _,fun i _ h=>absurd h (XB _)⟩ ?_
 rintro j w2 ⟨hj,hS,heq⟩
 try dsimp only at hj heq ⊢
 replace ha:=ha.up hS
 replace hb:=hb.up hS
 by_cases hlt:j<xs.length
 have hlt':j<ys.length:=by omega
 focus repeat'(first|refine W1 ?_|omega|refine VG ?_ ?_<;>intro hg|refine VC ?_ ?_<;>intro hc)
 refine ZDr 9 [] [] [(0,0),(1,0),(2,0),(3,1),(4,0),(5,0),(6,0),(7,1),(8,0)] (fun w1 hS1=>?_)
 replace ha:=ha.up hS1
 replace hb:=hb.up hS1
 replace hS:=hS.trans hS1
 refine D ?_
 apply Z04
 exact rfl
 refine Zf4 (c:=xs[j]=ys[j]) trivial rfl rfl (fun w=>Zg6 _ _ _ xs[j] ys[j] w) (by intro w;exact Zmq xs[j] ys[j] w) rfl ?_
 refine D ?_
 focus repeat'(first|refine W1 ?_|omega|refine VG ?_ ?_<;>intro hg|refine VC ?_ ?_<;>intro hc)
 refine WR ?_
 exact .mk ⟨by congr 1;rw [eq_comm,decide_eq_false_iff_not];exact fun h=>hc (by simp [h]),hS⟩
 have he:xs[j]=ys[j]:=Decidable.byContradiction hc
 have hk:∀ i (h:i<xs.length),i<j+1→xs[i]=ys[i]'(by omega):=fun i h hi=>by
  by_cases hij:i=j
  subst hij;exact he
  exact heq i h (by omega)
 exact Zp (j+1) ⟨rfl,rfl,rfl,rfl,trivial⟩ ⟨hlt,hS,hk⟩ (Nat.sub_lt_sub_left hlt (Nat.lt_succ_self j))
 have hje:j=xs.length:=by omega
 subst hje
 focus repeat'(first|refine W1 ?_|omega|refine VG ?_ ?_<;>intro hg|refine VC ?_ ?_<;>intro hc)
 refine WR ?_
 exact .mk ⟨by congr 1;rw [eq_comm,decide_eq_true_eq];exact YaL hl (fun i h h'=>heq i h h),hS⟩
structure FId where
 f:Nat
deriving DecidableEq
instance:Za FId where
 k:=1
 enc:=fun x=>[fnV x.f]
 len:=fun _=>rfl
 one:=by intro x u hu;simp at hu;subst hu;rfl
def Z7V {β:Type} [Za β] (X:List Nat) (w:World) (r:Nat) (es:List (Str×List β)):Prop:=
 ∃ l:List (Str×Value),Jp str w r l∧l.length=es.length∧∀ i (h:i<l.length) (h':i<es.length),l[i].1=es[i].1∧SlV (r :: X) w l[i].2 es[i].2
theorem Z7V.up {β:Type} [Za β] {X:List Nat} {w w':World} {r:Nat} {es:List (Str×List β)} (h:Z7V X w r es) (hS:Stp [] w w'):Z7V X w' r es:=by
 obtain ⟨l,h1,h2,h3⟩:=h
 exact ⟨l,h1.up hS,h2,fun i h h'=>⟨(h3 i h h').1,(h3 i h h').2.up hS⟩⟩
theorem J9 {β:Type} [Za β] {P:Program} {n:Nat} {e:Env} {w:World} {d:Option Nat} {ty:TypeId} {pos:String} {af:Array Edge} {g:Option (Nat×Bool)} {mt kt et r:Nat} {x y z:Operand} [hm:Und P mt (.map kt et)] [hk:Und P kt .string] {X:List Nat} {es:List (Str×List β)} {a:Str} {v:Value} {xs:List β} (hx:ev e x=some (.map (some r))) (hy:ev e y=some (str a)) (hz:ev e z=some v)
 (hr:Z7V X w r es) (hv:SlV (r :: X) w v xs) (hn:∀ p∈es,¬ p.1=a):OE P n ⟨d,.insert mt x y z,ty,pos,af,g⟩ e w (fun _ w'=>Z7V X w' r (es++[(a,xs)])∧Stp [r] w w'):=by
 obtain ⟨l,h1,h2,h3⟩:=hr
 have hfr:∀ p∈l,¬ p.1=a:=by
  intro p hp
  obtain ⟨i,hi,rfl⟩:=Xo hp
  rw [(h3 i hi (by omega)).1]
  exact hn _ (Xh _)
 refine (Zo (K:=inferInstance) hx hy hz h1 hfr).mono ?_
 rintro _ w' ⟨g1,g2⟩
 refine ⟨⟨_,g1,by simp [h2],fun i h h'=>?_⟩,g2⟩
 by_cases hi:i<l.length
 have hi':i<es.length:=by omega
 rw [XI hi,XI hi']
 exact ⟨(h3 i hi hi').1,(h3 i hi hi').2.on g2 (by simp)⟩
 have hil:i=l.length:=by simp at h;omega
 subst hil
 rw [XH (Xm _),XH (by omega)]
 simp only [YaM,h2,List.getElem_cons_zero]
 exact ⟨trivial,hv.on g2 (by simp)⟩
def ZjT {β:Type} (es:List (Str×List β)) (s:Str):List β:=match es.find? (fun p=>decide (p.1=s)) with|some p=>p.2|none=>[]
theorem Z7V.get {β:Type} [Za β] {X:List Nat} {w:World} {m:Nat} {es:List (Str×List β)} (h:Z7V X w m es) (s:Str):∃ l:List (Str×Value),Jp str w m l∧SlV X w (Z2k l s (.slice none 0 0)) (ZjT es s):=by
 obtain ⟨l,h1,h2,h3⟩:=h
 refine ⟨l,h1,?_⟩
 unfold Z2k ZjT
 have hf:(l.find? (fun p=>decide (p.1=s))=none∧es.find? (fun p=>decide (p.1=s))=none)∨∃ i,∃ (h:i<l.length) (h':i<es.length),l.find? (fun p=>decide (p.1=s))=some l[i]∧es.find? (fun p=>decide (p.1=s))=some es[i]:=by
  cases hq:l.find? (fun p=>decide (p.1=s)) with
  | none=>
    left
    refine ⟨rfl,?_⟩
    rw [List.find?_eq_none]
    intro p hp
    obtain ⟨i,hi,rfl⟩:=Xo hp
    have:=List.find?_eq_none.1 hq l[i] (Xh (by omega))
    rwa [(h3 i (by omega) hi).1] at this
  | some p=>
    right
    obtain ⟨hp,i,hi,rfl,hb⟩:=List.find?_eq_some_iff_getElem.1 hq
    refine ⟨i,hi,by omega,rfl,?_⟩
    rw [List.find?_eq_some_iff_getElem]
    refine ⟨by rw [← (h3 i hi (by omega)).1];exact hp,i,by omega,rfl,fun j hj=>?_⟩
    rw [← (h3 j (by omega) (by omega)).1]
    exact hb j hj
 rcases hf with ⟨e1,e2⟩|⟨i,h,h',e1,e2⟩
 rw [e1,e2]
 exact ⟨none,0,rfl,Xm _,by simp [maxLen],fun _=>rfl,fun i h=>absurd h (XB _)⟩
 rw [e1,e2]
 exact (h3 i h h').2.ext (Stp.refl [] w) (by simp) (fun b hb=>.inl (XA _ hb))
theorem Jm (f:Nat) (w:World):(Instr.buildSlice 204 1 #[(0,fnV f)]).run Tryz.prog w=.ok (.slice (some ⟨w.heap.size,0,none⟩) 1 1) (w.alloc (.cells #[fnV f] 159)):=by kernel_rfl
theorem Z4i (f g:Nat) (w:World):(Instr.buildSlice 204 2 #[(0,fnV f),(1,fnV g)]).run Tryz.prog w=.ok (.slice (some ⟨w.heap.size,0,none⟩) 2 2) (w.alloc (.cells #[fnV f,fnV g] 159)):=by kernel_rfl
def Zmr:List (Str×List FId):=[([43],[⟨139⟩]),([45],[⟨140⟩]),([42],[⟨141⟩]),([60],[⟨143⟩]),([60,61],[⟨144⟩]),([61],[⟨145⟩]),([62],[⟨144⟩,⟨146⟩]),([62,61],[⟨143⟩,⟨146⟩]),([33,61],[⟨145⟩,⟨146⟩]),([110,101,120,116],[⟨153⟩]),([112,114,101,118],[⟨154⟩]),([108,97,116,101,114],[⟨155⟩]),([101,97,114,108,105,101,114],[⟨156⟩]),([98,101,116,119,101,101,110],[⟨157⟩])]
def Zeg:List (Str×Value):=[([100,97,121,115],fnV 149),([119,101,101,107,115],fnV 150),([109,111,110,116,104,115],fnV 151),([99,111,117,114,116,100,97,121,115],fnV 152)]
def Z9k (s:Str):Nat:=if s=[100,97,121,115] then 149 else if s=[119,101,101,107,115] then 150 else if s=[109,111,110,116,104,115] then 151 else 152
theorem Z9l (s:Str) (hs:s∈ZZ):Z2k Zeg s .nilFunc=fnV (Z9k s):=by
 simp only [ZZ,Xf,Xk,or_false] at hs
 rcases hs with rfl|rfl|rfl|rfl<;>rfl
def Z7W (k:Int) (s:Str):List FId:=if k=7∨k=8 then (if k=8 then [⟨142⟩,⟨Z9k s⟩] else [⟨Z9k s⟩]) else if k=5 then [if s=[110,111,116] then ⟨146⟩ else ⟨142⟩] else ZjT Zmr s
set_option maxHeartbeats 1000000 in
theorem Z67 (X:List Nat) (k n:Int) (s:Str) (kv:Value) (w:World) (hX:∀ b∈X,b<w.heap.size) (hu:k=7∨k=8→s∈ZZ) :
 CC 112 #[.agg #[.int .i64 k,.int .i64 n,str s,kv]] w fun r w'=>SlV X w' r (Z7W k s)∧Stp [] w w':=by
 refine cW1 47 Tryz.func112 ?_
 refine W ?_
 refine Z3 (Zq rfl) rfl ?_
 rintro _ w1 ⟨b1,rfl,hb1,hblk,hS⟩
 replace hblk:Blk w1 b1 27 [.int .i64 k,.int .i64 n,str s,kv]:=hblk
 unfold Z7W
 by_cases h78:k=7∨k=8
 rw [if_pos h78]
 have hsu:=hu h78
 rcases h78 with rfl|rfl
 rw [(if_neg (by decide))]
 refine W ?_
 refine Z3 (Z0j str) rfl ?_
 rintro _ w2 ⟨m,rfl,hm,hmap,hS2⟩
 have hmb:b1<m:=by have:=hblk.lt;omega
 replace hblk:=hblk.up hS2
 have hmw:w.heap.size≤m:=by have:=hS.size;omega
 replace hS:=hS.trans hS2
 clear hS2
 refine Z1 (Zo (a:=[100,97,121,115]) rfl rfl rfl hmap (by decide)) ?_
 clear hmap
 rintro _ w3 ⟨hmap,hT⟩
 replace hblk:=hblk.ext hT (by simp;omega)
 replace hS:=hS.own hT (fun c hc=>.inr (by simp at hc;omega))
 clear hT
 refine Z1 (Zo (a:=[119,101,101,107,115]) rfl rfl rfl hmap (by decide)) ?_
 clear hmap
 rintro _ w3 ⟨hmap,hT⟩
 replace hblk:=hblk.ext hT (by simp;omega)
 replace hS:=hS.own hT (fun c hc=>.inr (by simp at hc;omega))
 clear hT
 refine Z1 (Zo (a:=[109,111,110,116,104,115]) rfl rfl rfl hmap (by decide)) ?_
 clear hmap
 rintro _ w3 ⟨hmap,hT⟩
 replace hblk:=hblk.ext hT (by simp;omega)
 replace hS:=hS.own hT (fun c hc=>.inr (by simp at hc;omega))
 clear hT
 refine Z1 (Zo (a:=[99,111,117,114,116,100,97,121,115]) rfl rfl rfl hmap (by decide)) ?_
 clear hmap
 rintro _ w3 ⟨hmap,hT⟩
 replace hblk:=hblk.ext hT (by simp;omega)
 replace hS:=hS.own hT (fun c hc=>.inr (by simp at hc;omega))
 clear hT
 have hmap2:Jp str w3 m Zeg:=hmap
 refine W ?_
 refine Ze (Z0A rfl rfl hmap2) rfl ?_
 rw [Z9l s hsu]
 refine W ?_
 have hz:=hS.size
 refine Z3 (Z0 (vs:=[(0,fnV (Z9k s))]) rfl (Jm _)) rfl ?_
 rintro bv w4 hN
 refine W ?_
 refine WR ?_
 exact .mk ⟨hN.slv (fun b hb=>by have:=hX b hb;omega) rfl rfl (by simp [maxLen]),hS.trans (Z7.stp hN)⟩
 rw [(if_pos rfl)]
 refine W ?_
 refine Z3 (Z0j str) rfl ?_
 rintro _ w2 ⟨m,rfl,hm,hmap,hS2⟩
 have hmb:b1<m:=by have:=hblk.lt;omega
 replace hblk:=hblk.up hS2
 have hmw:w.heap.size≤m:=by have:=hS.size;omega
 replace hS:=hS.trans hS2
 clear hS2
 refine Z1 (Zo (a:=[100,97,121,115]) rfl rfl rfl hmap (by decide)) ?_
 clear hmap
 rintro _ w3 ⟨hmap,hT⟩
 replace hblk:=hblk.ext hT (by simp;omega)
 replace hS:=hS.own hT (fun c hc=>.inr (by simp at hc;omega))
 clear hT
 refine Z1 (Zo (a:=[119,101,101,107,115]) rfl rfl rfl hmap (by decide)) ?_
 clear hmap
 rintro _ w3 ⟨hmap,hT⟩
 replace hblk:=hblk.ext hT (by simp;omega)
 replace hS:=hS.own hT (fun c hc=>.inr (by simp at hc;omega))
 clear hT
 refine Z1 (Zo (a:=[109,111,110,116,104,115]) rfl rfl rfl hmap (by decide)) ?_
 clear hmap
 rintro _ w3 ⟨hmap,hT⟩
 replace hblk:=hblk.ext hT (by simp;omega)
 replace hS:=hS.own hT (fun c hc=>.inr (by simp at hc;omega))
 clear hT
 refine Z1 (Zo (a:=[99,111,117,114,116,100,97,121,115]) rfl rfl rfl hmap (by decide)) ?_
 clear hmap
 rintro _ w3 ⟨hmap,hT⟩
 replace hblk:=hblk.ext hT (by simp;omega)
 replace hS:=hS.own hT (fun c hc=>.inr (by simp at hc;omega))
 clear hT
 have hmap2:Jp str w3 m Zeg:=hmap
 refine W ?_
 refine Ze (Z0A rfl rfl hmap2) rfl ?_
 rw [Z9l s hsu]
 refine W ?_
 have hz:=hS.size
 refine Z3 (Z0 (vs:=[(0,fnV 142),(1,fnV (Z9k s))]) rfl (Z4i _ _)) rfl ?_
 rintro bv w4 hN
 refine W ?_
 refine WR ?_
 exact .mk ⟨hN.slv (fun b hb=>by have:=hX b hb;omega) rfl rfl (by simp [maxLen]),hS.trans (Z7.stp hN)⟩
 rw [if_neg h78]
 by_cases h5:k=5
 rw [if_pos h5]
 subst h5
 have hz:=hS.size
 by_cases hs:s=[110,111,116]
 rw [if_pos hs]
 subst hs
 refine W ?_
 refine Z3 (Z0 (vs:=[(0,fnV 146)]) rfl (Jm _)) rfl ?_
 rintro bv w4 hN
 refine W ?_
 refine WR ?_
 exact .mk ⟨hN.slv (fun b hb=>by have:=hX b hb;omega) rfl rfl (by simp [maxLen]),hS.trans (Z7.stp hN)⟩
 rw [if_neg hs]
 have hd:decide (s=[110,111,116])=false:=decide_eq_false hs
 refine W ?_
 rw [hd]
 refine W ?_
 refine Z3 (Z0 (vs:=[(0,fnV 142)]) rfl (Jm _)) rfl ?_
 rintro bv w4 hN
 refine W ?_
 refine WR ?_
 exact .mk ⟨hN.slv (fun b hb=>by have:=hX b hb;omega) rfl rfl (by simp [maxLen]),hS.trans (Z7.stp hN)⟩
 rw [if_neg h5]
 repeat'(first|refine W1 ?_|omega|refine VG ?_ ?_<;>intro hg|refine VC ?_ ?_<;>intro hc)
 refine Z3 (Z0j str) rfl ?_
 rintro _ w2 ⟨m,rfl,hm,hmap,hS2⟩
 have hmp:Z7V X w2 m ([]:List (Str×List FId)):=⟨[],hmap,rfl,fun i h=>absurd h (XB _)⟩
 have hml:=hmap.lt
 have hmb:b1<m:=by have:=hblk.lt;omega
 have hmw:w.heap.size≤m:=by have:=hS.size;omega
 have hXw:∀ b∈m :: X,b≤m:=fun b hb=>(Xf.1 hb).elim (fun h=>by omega) (fun h=>by have:=hX b h;omega)
 clear hmap
 replace hblk:=hblk.up hS2
 replace hS:=hS.trans hS2
 clear hS2
 refine Z3 (Z0 (vs:=[(0,fnV 139)]) rfl (Jm _)) rfl ?_
 rintro bv w2 hN
 have hbv:SlV (m :: X) w2 bv [(⟨139⟩:FId)]:=hN.slv (fun b hb=>by have:=hXw b hb;omega) rfl rfl (by simp [maxLen])
 have hS2:=Z7.stp hN
 clear hN
 replace hmp:=hmp.up hS2
 have hml2:=hS2.size
 refine Z1 (J9 (a:=[43]) rfl rfl rfl hmp hbv (by decide)) ?_
 clear hmp
 rintro _ w3 ⟨hmp,hS3⟩
 have hml3:=hS3.size
 replace hml:=Xa (Xa hml hml2) hml3
 replace hblk:=(hblk.up hS2).ext hS3 (by simp;omega)
 replace hS:=(hS.trans hS2).own hS3 (fun b hb=>.inr (by simp at hb;omega))
 clear hS2 hS3 hbv hml2 hml3
 refine Z3 (Z0 (vs:=[(0,fnV 140)]) rfl (Jm _)) rfl ?_
 rintro bv w2 hN
 have hbv:SlV (m :: X) w2 bv [(⟨140⟩:FId)]:=hN.slv (fun b hb=>by have:=hXw b hb;omega) rfl rfl (by simp [maxLen])
 have hS2:=Z7.stp hN
 clear hN
 replace hmp:=hmp.up hS2
 have hml2:=hS2.size
 refine Z1 (J9 (a:=[45]) rfl rfl rfl hmp hbv (by decide)) ?_
 clear hmp
 rintro _ w3 ⟨hmp,hS3⟩
 have hml3:=hS3.size
 replace hml:=Xa (Xa hml hml2) hml3
 replace hblk:=(hblk.up hS2).ext hS3 (by simp;omega)
 replace hS:=(hS.trans hS2).own hS3 (fun b hb=>.inr (by simp at hb;omega))
 clear hS2 hS3 hbv hml2 hml3
 refine Z3 (Z0 (vs:=[(0,fnV 141)]) rfl (Jm _)) rfl ?_
 rintro bv w2 hN
 have hbv:SlV (m :: X) w2 bv [(⟨141⟩:FId)]:=hN.slv (fun b hb=>by have:=hXw b hb;omega) rfl rfl (by simp [maxLen])
 have hS2:=Z7.stp hN
 clear hN
 replace hmp:=hmp.up hS2
 have hml2:=hS2.size
 refine Z1 (J9 (a:=[42]) rfl rfl rfl hmp hbv (by decide)) ?_
 clear hmp
 rintro _ w3 ⟨hmp,hS3⟩
 have hml3:=hS3.size
 replace hml:=Xa (Xa hml hml2) hml3
 replace hblk:=(hblk.up hS2).ext hS3 (by simp;omega)
 replace hS:=(hS.trans hS2).own hS3 (fun b hb=>.inr (by simp at hb;omega))
 clear hS2 hS3 hbv hml2 hml3
 refine Z3 (Z0 (vs:=[(0,fnV 143)]) rfl (Jm _)) rfl ?_
 rintro bv w2 hN
 have hbv:SlV (m :: X) w2 bv [(⟨143⟩:FId)]:=hN.slv (fun b hb=>by have:=hXw b hb;omega) rfl rfl (by simp [maxLen])
 have hS2:=Z7.stp hN
 clear hN
 replace hmp:=hmp.up hS2
 have hml2:=hS2.size
 refine Z1 (J9 (a:=[60]) rfl rfl rfl hmp hbv (by decide)) ?_
 clear hmp
 rintro _ w3 ⟨hmp,hS3⟩
 have hml3:=hS3.size
 replace hml:=Xa (Xa hml hml2) hml3
 replace hblk:=(hblk.up hS2).ext hS3 (by simp;omega)
 replace hS:=(hS.trans hS2).own hS3 (fun b hb=>.inr (by simp at hb;omega))
 clear hS2 hS3 hbv hml2 hml3
 refine Z3 (Z0 (vs:=[(0,fnV 144)]) rfl (Jm _)) rfl ?_
 rintro bv w2 hN
 have hbv:SlV (m :: X) w2 bv [(⟨144⟩:FId)]:=hN.slv (fun b hb=>by have:=hXw b hb;omega) rfl rfl (by simp [maxLen])
 have hS2:=Z7.stp hN
 clear hN
 replace hmp:=hmp.up hS2
 have hml2:=hS2.size
 refine Z1 (J9 (a:=[60,61]) rfl rfl rfl hmp hbv (by decide)) ?_
 clear hmp
 rintro _ w3 ⟨hmp,hS3⟩
 have hml3:=hS3.size
 replace hml:=Xa (Xa hml hml2) hml3
 replace hblk:=(hblk.up hS2).ext hS3 (by simp;omega)
 replace hS:=(hS.trans hS2).own hS3 (fun b hb=>.inr (by simp at hb;omega))
 clear hS2 hS3 hbv hml2 hml3
 refine Z3 (Z0 (vs:=[(0,fnV 145)]) rfl (Jm _)) rfl ?_
 rintro bv w2 hN
 have hbv:SlV (m :: X) w2 bv [(⟨145⟩:FId)]:=hN.slv (fun b hb=>by have:=hXw b hb;omega) rfl rfl (by simp [maxLen])
 have hS2:=Z7.stp hN
 clear hN
 replace hmp:=hmp.up hS2
 have hml2:=hS2.size
 refine Z1 (J9 (a:=[61]) rfl rfl rfl hmp hbv (by decide)) ?_
 clear hmp
 rintro _ w3 ⟨hmp,hS3⟩
 have hml3:=hS3.size
 replace hml:=Xa (Xa hml hml2) hml3
 replace hblk:=(hblk.up hS2).ext hS3 (by simp;omega)
 replace hS:=(hS.trans hS2).own hS3 (fun b hb=>.inr (by simp at hb;omega))
 clear hS2 hS3 hbv hml2 hml3
 refine Z3 (Z0 (vs:=[(0,fnV 144),(1,fnV 146)]) rfl (Z4i _ _)) rfl ?_
 rintro bv w2 hN
 have hbv:SlV (m :: X) w2 bv [(⟨144⟩:FId),(⟨146⟩:FId)]:=hN.slv (fun b hb=>by have:=hXw b hb;omega) rfl rfl (by simp [maxLen])
 have hS2:=Z7.stp hN
 clear hN
 replace hmp:=hmp.up hS2
 have hml2:=hS2.size
 refine Z1 (J9 (a:=[62]) rfl rfl rfl hmp hbv (by decide)) ?_
 clear hmp
 rintro _ w3 ⟨hmp,hS3⟩
 have hml3:=hS3.size
 replace hml:=Xa (Xa hml hml2) hml3
 replace hblk:=(hblk.up hS2).ext hS3 (by simp;omega)
 replace hS:=(hS.trans hS2).own hS3 (fun b hb=>.inr (by simp at hb;omega))
 clear hS2 hS3 hbv hml2 hml3
 refine Z3 (Z0 (vs:=[(0,fnV 143),(1,fnV 146)]) rfl (Z4i _ _)) rfl ?_
 rintro bv w2 hN
 have hbv:SlV (m :: X) w2 bv [(⟨143⟩:FId),(⟨146⟩:FId)]:=hN.slv (fun b hb=>by have:=hXw b hb;omega) rfl rfl (by simp [maxLen])
 have hS2:=Z7.stp hN
 clear hN
 replace hmp:=hmp.up hS2
 have hml2:=hS2.size
 refine Z1 (J9 (a:=[62,61]) rfl rfl rfl hmp hbv (by decide)) ?_
 clear hmp
 rintro _ w3 ⟨hmp,hS3⟩
 have hml3:=hS3.size
 replace hml:=Xa (Xa hml hml2) hml3
 replace hblk:=(hblk.up hS2).ext hS3 (by simp;omega)
 replace hS:=(hS.trans hS2).own hS3 (fun b hb=>.inr (by simp at hb;omega))
 clear hS2 hS3 hbv hml2 hml3
 refine Z3 (Z0 (vs:=[(0,fnV 145),(1,fnV 146)]) rfl (Z4i _ _)) rfl ?_
 rintro bv w2 hN
 have hbv:SlV (m :: X) w2 bv [(⟨145⟩:FId),(⟨146⟩:FId)]:=hN.slv (fun b hb=>by have:=hXw b hb;omega) rfl rfl (by simp [maxLen])
 have hS2:=Z7.stp hN
 clear hN
 replace hmp:=hmp.up hS2
 have hml2:=hS2.size
 refine Z1 (J9 (a:=[33,61]) rfl rfl rfl hmp hbv (by decide)) ?_
 clear hmp
 rintro _ w3 ⟨hmp,hS3⟩
 have hml3:=hS3.size
 replace hml:=Xa (Xa hml hml2) hml3
 replace hblk:=(hblk.up hS2).ext hS3 (by simp;omega)
 replace hS:=(hS.trans hS2).own hS3 (fun b hb=>.inr (by simp at hb;omega))
 clear hS2 hS3 hbv hml2 hml3
 refine Z3 (Z0 (vs:=[(0,fnV 153)]) rfl (Jm _)) rfl ?_
 rintro bv w2 hN
 have hbv:SlV (m :: X) w2 bv [(⟨153⟩:FId)]:=hN.slv (fun b hb=>by have:=hXw b hb;omega) rfl rfl (by simp [maxLen])
 have hS2:=Z7.stp hN
 clear hN
 replace hmp:=hmp.up hS2
 have hml2:=hS2.size
 refine Z1 (J9 (a:=[110,101,120,116]) rfl rfl rfl hmp hbv (by decide)) ?_
 clear hmp
 rintro _ w3 ⟨hmp,hS3⟩
 have hml3:=hS3.size
 replace hml:=Xa (Xa hml hml2) hml3
 replace hblk:=(hblk.up hS2).ext hS3 (by simp;omega)
 replace hS:=(hS.trans hS2).own hS3 (fun b hb=>.inr (by simp at hb;omega))
 clear hS2 hS3 hbv hml2 hml3
 refine Z3 (Z0 (vs:=[(0,fnV 154)]) rfl (Jm _)) rfl ?_
 rintro bv w2 hN
 have hbv:SlV (m :: X) w2 bv [(⟨154⟩:FId)]:=hN.slv (fun b hb=>by have:=hXw b hb;omega) rfl rfl (by simp [maxLen])
 have hS2:=Z7.stp hN
 clear hN
 replace hmp:=hmp.up hS2
 have hml2:=hS2.size
 refine Z1 (J9 (a:=[112,114,101,118]) rfl rfl rfl hmp hbv (by decide)) ?_
 clear hmp
 rintro _ w3 ⟨hmp,hS3⟩
 have hml3:=hS3.size
 replace hml:=Xa (Xa hml hml2) hml3
 replace hblk:=(hblk.up hS2).ext hS3 (by simp;omega)
 replace hS:=(hS.trans hS2).own hS3 (fun b hb=>.inr (by simp at hb;omega))
 clear hS2 hS3 hbv hml2 hml3
 refine Z3 (Z0 (vs:=[(0,fnV 155)]) rfl (Jm _)) rfl ?_
 rintro bv w2 hN
 have hbv:SlV (m :: X) w2 bv [(⟨155⟩:FId)]:=hN.slv (fun b hb=>by have:=hXw b hb;omega) rfl rfl (by simp [maxLen])
 have hS2:=Z7.stp hN
 clear hN
 replace hmp:=hmp.up hS2
 have hml2:=hS2.size
 refine Z1 (J9 (a:=[108,97,116,101,114]) rfl rfl rfl hmp hbv (by decide)) ?_
 clear hmp
 rintro _ w3 ⟨hmp,hS3⟩
 have hml3:=hS3.size
 replace hml:=Xa (Xa hml hml2) hml3
 replace hblk:=(hblk.up hS2).ext hS3 (by simp;omega)
 replace hS:=(hS.trans hS2).own hS3 (fun b hb=>.inr (by simp at hb;omega))
 clear hS2 hS3 hbv hml2 hml3
 refine Z3 (Z0 (vs:=[(0,fnV 156)]) rfl (Jm _)) rfl ?_
 rintro bv w2 hN
 have hbv:SlV (m :: X) w2 bv [(⟨156⟩:FId)]:=hN.slv (fun b hb=>by have:=hXw b hb;omega) rfl rfl (by simp [maxLen])
 have hS2:=Z7.stp hN
 clear hN
 replace hmp:=hmp.up hS2
 have hml2:=hS2.size
 refine Z1 (J9 (a:=[101,97,114,108,105,101,114]) rfl rfl rfl hmp hbv (by decide)) ?_
 clear hmp
 rintro _ w3 ⟨hmp,hS3⟩
 have hml3:=hS3.size
 replace hml:=Xa (Xa hml hml2) hml3
 replace hblk:=(hblk.up hS2).ext hS3 (by simp;omega)
 replace hS:=(hS.trans hS2).own hS3 (fun b hb=>.inr (by simp at hb;omega))
 clear hS2 hS3 hbv hml2 hml3
 refine Z3 (Z0 (vs:=[(0,fnV 157)]) rfl (Jm _)) rfl ?_
 rintro bv w2 hN
 have hbv:SlV (m :: X) w2 bv [(⟨157⟩:FId)]:=hN.slv (fun b hb=>by have:=hXw b hb;omega) rfl rfl (by simp [maxLen])
 have hS2:=Z7.stp hN
 clear hN
 replace hmp:=hmp.up hS2
 have hml2:=hS2.size
 refine Z1 (J9 (a:=[98,101,116,119,101,101,110]) rfl rfl rfl hmp hbv (by decide)) ?_
 clear hmp
 rintro _ w3 ⟨hmp,hS3⟩
 have hml3:=hS3.size
 replace hml:=Xa (Xa hml hml2) hml3
 replace hblk:=(hblk.up hS2).ext hS3 (by simp;omega)
 replace hS:=(hS.trans hS2).own hS3 (fun b hb=>.inr (by simp at hb;omega))
 clear hS2 hS3 hbv hml2 hml3
 have hmp2:Z7V X w3 m Zmr:=hmp
 obtain ⟨l,hl,hsl⟩:=hmp2.get s
 refine W ?_
 refine Ze (Z0A rfl rfl hl) rfl ?_
 refine W ?_
 refine WR ?_
 exact .mk ⟨hsl,hS⟩
theorem Zeh (a b c d e f g:Str) (w:World):(Instr.buildSlice 119 7 #[(0,str a),(1,str b),(2,str c),(3,str d),(4,str e),(5,str f),(6,str g)]).run Tryz.prog w=.ok (.slice (some ⟨w.heap.size,0,none⟩) 7 7) (w.alloc (.cells #[str a,str b,str c,str d,str e,str f,str g] 9)):=by kernel_rfl
theorem Zei:∀ i,i<7→∀ j,j<i→Z8.getD j []≠Z8.getD i []:=by decide +kernel
theorem Z9m (i:Nat) (hi:i<Z8.length):Z8[i]=Z8.getD i []:=by simp [List.getD,hi]
theorem Z5a (i:Nat) (hi:i<7) (w:World):CC 111 #[str (Z8.getD i [])] w fun r w'=>r=.int .i64 (i:Int)∧Stp [] w w':=by
 have hl7:Z8.length=7:=rfl
 refine cW1 17 Tryz.func111 ?_
 refine W ?_
 refine Z3 (Z0 (vs:=[(0,str [100,97,121]),(1,str [115,101,114,118,101,100]),(2,str [101,120,116,114,97]),(3,str [98,121]),(4,str [116,111]),(5,str [99,111,117,114,116]),(6,str [97,109,111,117,110,116])]) rfl (Zeh _ _ _ _ _ _ _)) rfl ?_
 rintro sv w1 hN
 have hsv:SlV [] w1 sv Z8:=hN.slv (by simp) rfl rfl (by simp [maxLen,hl7])
 have hS:=Z7.stp hN
 clear hN
 refine W ?_
 refine Zv (σ:=Nat) (fun q=>[(0,str (Z8.getD i [])),(5,sv),(6,.int .i64 (Z8.length:Int)),(7,.int .i64 (q:Int))]) (fun q w'=>q≤i∧w'=w1) (fun q=>7 - q) 0 ⟨rfl,rfl,rfl,rfl,trivial⟩ ⟨Xu _,rfl⟩ ?_
 rintro q _ ⟨hq,rfl⟩
 have hql:q<Z8.length:=by omega
 have hqi:(q:Int)<(Z8.length:Int):=by omega
 by_cases hqe:q=i
 subst hqe
 focus repeat'(first|refine W1 ?_|omega|refine VG ?_ ?_<;>intro hg|refine VC ?_ ?_<;>intro hc)
 refine WR ?_
 exact .mk ⟨rfl,hS⟩
 rename_i hc
 exact absurd (Z9m q hql) hc
 focus repeat'(first|refine W1 ?_|omega|refine VG ?_ ?_<;>intro hg|refine VC ?_ ?_<;>intro hc)
 rename_i hc
 exact absurd ((Z9m q hql).symm.trans hc) (Zei i hi q (by omega))
 exact Zp (q+1) ⟨rfl,rfl,rfl,rfl,trivial⟩ ⟨by omega,rfl⟩ (by omega)
theorem OE_pr {P:Program} {n:Nat} {o:Oper} {e:Env} {w:World} {v:Value} (hp:PR P n o e w v):OE P n o e w (fun u w'=>u=v∧w'=w):=JH (fun a ha=>hp.h a ha) ⟨rfl,rfl⟩
def MK.keep (K:MK) (b:Nat) (o:Obj):MK:={ K with pr:=(b,o) :: K.pr }
section
variable {K:MK} {w w':World} {sv pv:Value} {st:List Int} {sp:List Spn} {at_ er:Int} {dn:Bool} {b:Nat} {o:Obj}
theorem KOk.keep (h:KOk K):KOk (K.keep b o):=⟨h.hols,h.clos,h.ozo,h.ozs,h.ohr,h.len,h.mov,h.bml,h.nkl,h.gl,h.cal,h.ev⟩
theorem Mch.keep (h:Mch K w sv pv st sp at_ er dn) (hb:w.heap[b]?=some o) (h1:b∉K.own) (h2:b∉ob sv) (h3:b∉ob pv):Mch (K.keep b o) w sv pv st sp at_ er dn:=
 ⟨h.blk, h.row, h.nt, h.nt0, h.ap, h.stp, fun p hp => by
   rcases Xf.1 hp with rfl|hp
   exact ⟨hb,h1,h2,h3⟩
   exact h.prot p hp⟩
theorem Mch.unkeep (h:Mch (K.keep b o) w sv pv st sp at_ er dn):Mch K w sv pv st sp at_ er dn:=
 ⟨h.blk,h.row,h.nt,h.nt0,h.ap,h.stp,fun p hp=>h.prot p (XA _ hp)⟩
theorem Mch.kept (h:Mch (K.keep b o) w sv pv st sp at_ er dn):w.heap[b]?=some o:=(h.prot (b,o) YaG).1
theorem Mch.nosp (hk:K.nk=none) (h:Mch K w sv pv st sp at_ er dn) {sp':List Spn}:Mch K w sv pv st sp' at_ er dn:=
 ⟨h.blk,h.row,(fun bs hb=>by rw [hk] at hb;cases hb),h.nt0,h.ap,h.stp,h.prot⟩
def Z00 (K:MK) (w:World) (st:List Int) (at_:Int) (r:Int×Int):Prop:=∃ sv pv st2,Mch K w sv pv st2 [] at_ r.2 (decide (¬ r.2=0))∧(r.2=0→st2=st++[r.1])
theorem Z00.un {r:Int×Int} (h:Z00 (K.keep b o) w st at_ r):Z00 K w st at_ r:=by
 obtain ⟨sv,pv,st2,h1,h2⟩:=h
 exact ⟨sv,pv,st2,h1.unkeep,h2⟩
theorem Res.toE {r:Int×Int} (hk:K.nk=none) (h:Res K w st sp at_ r):Z00 K w st at_ r:=by
 obtain ⟨sv,pv,st2,sp2,h1,h2⟩:=h
 exact ⟨sv,pv,st2,h1.nosp hk,fun h0=>(h2 h0).1⟩
theorem Z00.go {r:Int×Int} (h:Z00 K w st at_ r) (he:r.2=0):∃ sv pv,Mch K w sv pv (st++[r.1]) [] at_ 0 false:=by
 obtain ⟨sv,pv,st2,h1,h2⟩:=h
 have:=h2 he
 subst this
 rw [he] at h1
 exact ⟨sv,pv,h1⟩
theorem Z00.stop {r:Int×Int} (h:Z00 K w st at_ r) (he:¬ r.2=0):∃ sv pv st2,Mch K w sv pv st2 [] at_ r.2 true:=by
 obtain ⟨sv,pv,st2,h1,h2⟩:=h
 have hd:decide (¬ r.2=0)=true:=decide_eq_true he
 rw [hd] at h1
 exact ⟨sv,pv,st2,h1⟩
theorem Z00.of {v e:Int} (he:¬ e=0) {st2:List Int} (h:Mch K w sv pv st2 [] at_ e true):Z00 K w st at_ (v,e):=by
 have hd:decide (¬ e=0)=true:=decide_eq_true he
 refine ⟨sv,pv,st2,?_,fun h0=>absurd h0 he⟩
 dsimp only
 rw [hd]
 exact h
end
theorem Zgt {X:List Nat} {w0 w:World} {v:Value} {l:List Nd} {i:Nat} (h:SlV X w0 v l) (hi:i<l.length) (hS:Stp X w0 w) :
 ∃ kv,SlV X w0 kv l[i].kids∧∀ w',Stp X w0 w'→∀ j u,[Value.int .i64 l[i].kind,.int .i64 l[i].num,str l[i].word,kv][j]?=some u→w'.cell? (Zz v i 4 j)=some u:=by
 obtain ⟨kv,h1,h2⟩:=h.nd hi
 refine ⟨kv,h1,fun w' hS' j u hu=>?_⟩
 have hc:=h2 j u hu
 obtain ⟨p,c,rfl,hl,hm,hn,hcell⟩:=id h
 obtain ⟨b,o,cs,rfl,hb,hx,-⟩:=hcell i hi
 exact hS'.cell hx hc
def OVR (r:Z7D):Prop:=(Z7W r.k r.s).length=r.L.length∧(r.k=7∨r.k=8→r.s∈ZZ)∧∀ i,i<r.L.length→((Z7W r.k r.s).map fun x=>fnV x.f)[i]?=some (Z2k Z7S (r.L.getD i 0) .nilFunc)
theorem ZoU:OVR ⟨5,[45],[1],1,[8]⟩:=by
 refine ⟨by kernel_rfl,fun h=>by exfalso;revert h;decide,fun i hi=>?_⟩
 obtain rfl:i=0:=by have:i<1:=hi;omega
 kernel_rfl
theorem ZoV:OVR ⟨5,[110,111,116],[2],2,[12]⟩:=by
 refine ⟨by kernel_rfl,fun h=>by exfalso;revert h;decide,fun i hi=>?_⟩
 obtain rfl:i=0:=by have:i<1:=hi;omega
 kernel_rfl
theorem ZoW:OVR ⟨10,[110,101,120,116],[3],3,[19]⟩:=by
 refine ⟨by kernel_rfl,fun h=>by exfalso;revert h;decide,fun i hi=>?_⟩
 obtain rfl:i=0:=by have:i<1:=hi;omega
 kernel_rfl
theorem ZoX:OVR ⟨10,[112,114,101,118],[3],3,[20]⟩:=by
 refine ⟨by kernel_rfl,fun h=>by exfalso;revert h;decide,fun i hi=>?_⟩
 obtain rfl:i=0:=by have:i<1:=hi;omega
 kernel_rfl
theorem ZoY:OVR ⟨10,[108,97,116,101,114],[3,3],3,[21]⟩:=by
 refine ⟨by kernel_rfl,fun h=>by exfalso;revert h;decide,fun i hi=>?_⟩
 obtain rfl:i=0:=by have:i<1:=hi;omega
 kernel_rfl
theorem ZoZ:OVR ⟨10,[101,97,114,108,105,101,114],[3,3],3,[22]⟩:=by
 refine ⟨by kernel_rfl,fun h=>by exfalso;revert h;decide,fun i hi=>?_⟩
 obtain rfl:i=0:=by have:i<1:=hi;omega
 kernel_rfl
theorem Zp0:OVR ⟨10,[98,101,116,119,101,101,110],[3,3],1,[23]⟩:=by
 refine ⟨by kernel_rfl,fun h=>by exfalso;revert h;decide,fun i hi=>?_⟩
 obtain rfl:i=0:=by have:i<1:=hi;omega
 kernel_rfl
theorem Zp1:OVR ⟨7,[100,97,121,115],[3,1],3,[15]⟩:=by
 refine ⟨by kernel_rfl,fun _=>by decide +kernel,fun i hi=>?_⟩
 obtain rfl:i=0:=by have:i<1:=hi;omega
 kernel_rfl
theorem Zp2:OVR ⟨7,[119,101,101,107,115],[3,1],3,[16]⟩:=by
 refine ⟨by kernel_rfl,fun _=>by decide +kernel,fun i hi=>?_⟩
 obtain rfl:i=0:=by have:i<1:=hi;omega
 kernel_rfl
theorem Zp3:OVR ⟨7,[109,111,110,116,104,115],[3,1],3,[17]⟩:=by
 refine ⟨by kernel_rfl,fun _=>by decide +kernel,fun i hi=>?_⟩
 obtain rfl:i=0:=by have:i<1:=hi;omega
 kernel_rfl
theorem Zms:OVR ⟨7,[99,111,117,114,116,100,97,121,115],[3,1],3,[18]⟩:=by
 refine ⟨by kernel_rfl,fun _=>by decide +kernel,fun i hi=>?_⟩
 obtain rfl:i=0:=by have:i<1:=hi;omega
 kernel_rfl
theorem Zmt:OVR ⟨8,[100,97,121,115],[3,1],3,[8,15]⟩:=by
 refine ⟨by kernel_rfl,fun _=>by decide +kernel,fun i hi=>?_⟩
 have hi2:i=0∨i=1:=by have:i<2:=hi;omega
 rcases hi2 with rfl|rfl
 show _=_
 kernel_rfl
 show _=_
 kernel_rfl
theorem Zmu:OVR ⟨8,[119,101,101,107,115],[3,1],3,[8,16]⟩:=by
 refine ⟨by kernel_rfl,fun _=>by decide +kernel,fun i hi=>?_⟩
 have hi2:i=0∨i=1:=by have:i<2:=hi;omega
 rcases hi2 with rfl|rfl
 show _=_
 kernel_rfl
 show _=_
 kernel_rfl
theorem Zmv:OVR ⟨8,[109,111,110,116,104,115],[3,1],3,[8,17]⟩:=by
 refine ⟨by kernel_rfl,fun _=>by decide +kernel,fun i hi=>?_⟩
 have hi2:i=0∨i=1:=by have:i<2:=hi;omega
 rcases hi2 with rfl|rfl
 show _=_
 kernel_rfl
 show _=_
 kernel_rfl
theorem Zmw:OVR ⟨8,[99,111,117,114,116,100,97,121,115],[3,1],3,[8,18]⟩:=by
 refine ⟨by kernel_rfl,fun _=>by decide +kernel,fun i hi=>?_⟩
 have hi2:i=0∨i=1:=by have:i<2:=hi;omega
 rcases hi2 with rfl|rfl
 show _=_
 kernel_rfl
 show _=_
 kernel_rfl
theorem Zmx:OVR ⟨6,[43],[1,1],1,[5]⟩:=by
 refine ⟨by kernel_rfl,fun h=>by exfalso;revert h;decide,fun i hi=>?_⟩
 obtain rfl:i=0:=by have:i<1:=hi;omega
 kernel_rfl
theorem Zmy:OVR ⟨6,[45],[1,1],1,[6]⟩:=by
 refine ⟨by kernel_rfl,fun h=>by exfalso;revert h;decide,fun i hi=>?_⟩
 obtain rfl:i=0:=by have:i<1:=hi;omega
 kernel_rfl
theorem Zmz:OVR ⟨6,[42],[1,1],1,[7]⟩:=by
 refine ⟨by kernel_rfl,fun h=>by exfalso;revert h;decide,fun i hi=>?_⟩
 obtain rfl:i=0:=by have:i<1:=hi;omega
 kernel_rfl
theorem ZmA:OVR ⟨6,[60],[1,1],2,[9]⟩:=by
 refine ⟨by kernel_rfl,fun h=>by exfalso;revert h;decide,fun i hi=>?_⟩
 obtain rfl:i=0:=by have:i<1:=hi;omega
 kernel_rfl
theorem ZmB:OVR ⟨6,[60,61],[1,1],2,[10]⟩:=by
 refine ⟨by kernel_rfl,fun h=>by exfalso;revert h;decide,fun i hi=>?_⟩
 obtain rfl:i=0:=by have:i<1:=hi;omega
 kernel_rfl
theorem ZmC:OVR ⟨6,[61],[1,1],2,[11]⟩:=by
 refine ⟨by kernel_rfl,fun h=>by exfalso;revert h;decide,fun i hi=>?_⟩
 obtain rfl:i=0:=by have:i<1:=hi;omega
 kernel_rfl
theorem ZmD:OVR ⟨6,[33,61],[1,1],2,[11,12]⟩:=by
 refine ⟨by kernel_rfl,fun h=>by exfalso;revert h;decide,fun i hi=>?_⟩
 have hi2:i=0∨i=1:=by have:i<2:=hi;omega
 rcases hi2 with rfl|rfl
 show _=_
 kernel_rfl
 show _=_
 kernel_rfl
theorem ZmE:OVR ⟨6,[62],[1,1],2,[10,12]⟩:=by
 refine ⟨by kernel_rfl,fun h=>by exfalso;revert h;decide,fun i hi=>?_⟩
 have hi2:i=0∨i=1:=by have:i<2:=hi;omega
 rcases hi2 with rfl|rfl
 show _=_
 kernel_rfl
 show _=_
 kernel_rfl
theorem ZmF:OVR ⟨6,[62,61],[1,1],2,[9,12]⟩:=by
 refine ⟨by kernel_rfl,fun h=>by exfalso;revert h;decide,fun i hi=>?_⟩
 have hi2:i=0∨i=1:=by have:i<2:=hi;omega
 rcases hi2 with rfl|rfl
 show _=_
 kernel_rfl
 show _=_
 kernel_rfl
theorem ZmG:OVR ⟨6,[60],[3,3],2,[9]⟩:=by
 refine ⟨by kernel_rfl,fun h=>by exfalso;revert h;decide,fun i hi=>?_⟩
 obtain rfl:i=0:=by have:i<1:=hi;omega
 kernel_rfl
theorem ZmH:OVR ⟨6,[60,61],[3,3],2,[10]⟩:=by
 refine ⟨by kernel_rfl,fun h=>by exfalso;revert h;decide,fun i hi=>?_⟩
 obtain rfl:i=0:=by have:i<1:=hi;omega
 kernel_rfl
theorem ZmI:OVR ⟨6,[61],[3,3],2,[11]⟩:=by
 refine ⟨by kernel_rfl,fun h=>by exfalso;revert h;decide,fun i hi=>?_⟩
 obtain rfl:i=0:=by have:i<1:=hi;omega
 kernel_rfl
theorem ZmJ:OVR ⟨6,[33,61],[3,3],2,[11,12]⟩:=by
 refine ⟨by kernel_rfl,fun h=>by exfalso;revert h;decide,fun i hi=>?_⟩
 have hi2:i=0∨i=1:=by have:i<2:=hi;omega
 rcases hi2 with rfl|rfl
 show _=_
 kernel_rfl
 show _=_
 kernel_rfl
theorem ZmK:OVR ⟨6,[62],[3,3],2,[10,12]⟩:=by
 refine ⟨by kernel_rfl,fun h=>by exfalso;revert h;decide,fun i hi=>?_⟩
 have hi2:i=0∨i=1:=by have:i<2:=hi;omega
 rcases hi2 with rfl|rfl
 show _=_
 kernel_rfl
 show _=_
 kernel_rfl
theorem ZmL:OVR ⟨6,[62,61],[3,3],2,[9,12]⟩:=by
 refine ⟨by kernel_rfl,fun h=>by exfalso;revert h;decide,fun i hi=>?_⟩
 have hi2:i=0∨i=1:=by have:i<2:=hi;omega
 rcases hi2 with rfl|rfl
 show _=_
 kernel_rfl
 show _=_
 kernel_rfl
theorem Zej:∀ r∈Z27,OVR r:=by
 unfold Z27
 refine Xb.2 ⟨ZoU,?_⟩
 refine Xb.2 ⟨ZoV,?_⟩
 refine Xb.2 ⟨ZoW,?_⟩
 refine Xb.2 ⟨ZoX,?_⟩
 refine Xb.2 ⟨ZoY,?_⟩
 refine Xb.2 ⟨ZoZ,?_⟩
 refine Xb.2 ⟨Zp0,?_⟩
 refine Xb.2 ⟨Zp1,?_⟩
 refine Xb.2 ⟨Zp2,?_⟩
 refine Xb.2 ⟨Zp3,?_⟩
 refine Xb.2 ⟨Zms,?_⟩
 refine Xb.2 ⟨Zmt,?_⟩
 refine Xb.2 ⟨Zmu,?_⟩
 refine Xb.2 ⟨Zmv,?_⟩
 refine Xb.2 ⟨Zmw,?_⟩
 refine Xb.2 ⟨Zmx,?_⟩
 refine Xb.2 ⟨Zmy,?_⟩
 refine Xb.2 ⟨Zmz,?_⟩
 refine Xb.2 ⟨ZmA,?_⟩
 refine Xb.2 ⟨ZmB,?_⟩
 refine Xb.2 ⟨ZmC,?_⟩
 refine Xb.2 ⟨ZmD,?_⟩
 refine Xb.2 ⟨ZmE,?_⟩
 refine Xb.2 ⟨ZmF,?_⟩
 refine Xb.2 ⟨ZmG,?_⟩
 refine Xb.2 ⟨ZmH,?_⟩
 refine Xb.2 ⟨ZmI,?_⟩
 refine Xb.2 ⟨ZmJ,?_⟩
 refine Xb.2 ⟨ZmK,?_⟩
 refine Xb.2 ⟨ZmL,?_⟩
 intro r h
 cases h
def Jg (x:Nd):Prop:=∀ (K:MK) (nv:Value) (w:World) (sv pv:Value) (st:List Int) (s:Shp) (at_:Int),KOk K→K.nk=none→NdV K.own K.w0 nv x→Z9 x≠0→Mch K w sv pv st [] at_ 0 false→Ji s st→s.length+Zn x≤16→
 CC 58 #[mP K,nv] w fun r w'=>r=.tuple #[]∧Z00 K w' st at_ (Z4 (Zg K.c K.kn) K.ev x)
abbrev ndO (k n:Int) (s:Str) (kv:Value):Obj:=.cells [.int .i64 k,.int .i64 n,str s,kv].toArray 27
theorem Jg.kid {l:List Nd} {K:MK} {kv:Value} (hK:KOk K) (hk:K.nk=none) (hs:SlV K.own K.w0 kv l) {i:Nat} (hi:i<l.length) (ih:Jg l[i]) (ht:Z9 l[i]≠0) :
 ∃ kv2 : Value, (∀ w', Stp K.own K.w0 w' → ∀ j u, [Value.int .i64 l[i].kind, .int .i64 l[i].num, str l[i].word, kv2][j]? = some u → w'.cell? (Zz kv i 4 j) = some u)∧
   ∀ (w : World) (sv pv : Value) (st : List Int) (s : Shp) (at_ : Int), Mch K w sv pv st [] at_ 0 false → Ji s st → s.length + Zn l[i] ≤ 16→
     CC 58 #[mP K,.agg #[.int .i64 l[i].kind,.int .i64 l[i].num,str l[i].word,kv2]] w fun r w'=>r=.tuple #[]∧Z00 K w' st at_ (Z4 (Zg K.c K.kn) K.ev l[i]):=by
 obtain ⟨kv2,h1,h2⟩:=Zgt hs hi (Stp.refl _ _)
 exact ⟨kv2,h2,fun w sv pv st s at_ hM hst hb=>ih K _ w sv pv st s at_ hK hk ⟨kv2,rfl,h1⟩ ht hM hst hb⟩
set_option maxHeartbeats 1000000 in
theorem Zch {k n:Int} {s:Str} (hlf:ZjC k n s (Z9 (.mk k n s []))):Jg (.mk k n s []):=by
 intro K nv w sv pv st sh at_ hK hk hx ht hM hst hb
 obtain ⟨kv,rfl,hs⟩:=hx
 have hev2:Z4 (Zg K.c K.kn) K.ev (.mk k n s [])=Zm (Zg K.c K.kn) K.ev k n s []:=Z1t _ _ _
 have hl:st.length≤100000:=by rw [← hst.1];omega
 simp only [Nd.kind,Nd.num,Nd.word]
 rw [hev2]
 refine cW2 132 Tryz.func58 ?_
 refine W ?_
 refine Z3 (Zq rfl) rfl ?_
 rintro _ w1 ⟨b3,rfl,hb3,hblk,hS⟩
 replace hblk:Blk w1 b3 27 [.int .i64 k,.int .i64 n,str s,kv]:=hblk
 replace hM:=hM.up hS
 rcases hlf with ⟨hk3,-,hv⟩|⟨rfl,i,hi,rfl,hf,-⟩
 · have e:Zm (Zg K.c K.kn) K.ev k n s []=(n,0):=by unfold Zm;rw [if_pos hk3]
   rw [e]
   rcases hk3 with rfl|rfl|rfl
   all_goals
    refine W ?_
    refine CL rfl (Zb rfl rfl) rfl (ZdX hK hM hl n) ?_
    rintro _ w2 ⟨rfl,hres⟩
    refine W ?_
    refine WR ?_
    exact .mk ⟨rfl,hres.toE hk⟩
 have e:Zm (Zg K.c K.kn) K.ev 4 n (Z8.getD i []) []=Z2v K.ev (i:Int):=by
  unfold Zm
  rw [if_neg (by decide),if_pos rfl,hf]
 rw [e]
 refine W ?_
 refine CL rfl (Zr rfl) rfl (Z5a i hi _) ?_
 rintro _ w2 ⟨rfl,hS2⟩
 replace hM:=hM.up hS2
 refine W ?_
 refine CL rfl (Zb rfl rfl) rfl (Ze0 hK hM hl (i:Int) (by omega) (by omega)) ?_
 rintro _ w3 ⟨rfl,hres⟩
 refine W ?_
 refine WR ?_
 exact .mk ⟨rfl,hres.toE hk⟩
set_option maxHeartbeats 2000000 in
theorem Zg7 {n:Int} {s:Str} {a b c:Nd} (iha:Jg a) (ihb:Jg b) (ihc:Jg c) (ta:Z9 a=2) (tb:Z9 b≠0) (tc:Z9 c≠0):Jg (.mk 9 n s [a,b,c]):=by
 intro K0 nv w sv pv st sh at_ hK0 hk0 hx ht hM hst hb
 obtain ⟨kv,rfl,hs⟩:=hx
 have na:Zn a<Zn (.mk 9 n s [a,b,c]):=Z0s (x:=.mk 9 n s [a,b,c]) (by simp [Nd.kids])
 have nb:Zn b<Zn (.mk 9 n s [a,b,c]):=Z0s (x:=.mk 9 n s [a,b,c]) (by simp [Nd.kids])
 have nc:Zn c<Zn (.mk 9 n s [a,b,c]):=Z0s (x:=.mk 9 n s [a,b,c]) (by simp [Nd.kids])
 have hev2:∀ opn ev,Z4 opn ev (.mk 9 n s [a,b,c])=Zm opn ev 9 n s [Z4 opn ev a,Z4 opn ev b,Z4 opn ev c]:=fun opn ev=>Z1t _ _ _
 simp only [Nd.kind,Nd.num,Nd.word,Nd.kids] at hs ⊢
 have hbm:=hM.blk.lt
 have hobs:=fun x hx=>(hM.row.ob_le x hx).2
 have hpv:=hM.nt0 hk0
 have howl:∀ x∈K0.own,x<w.heap.size:=fun x hx=>Xa (Mch.own_lt hK0 x hx) hM.stp.size
 refine cW2 132 Tryz.func58 ?_
 refine W ?_
 refine Z3 (Zq rfl) rfl ?_
 rintro _ w1 ⟨b3,rfl,hb3,hblk,hS⟩
 replace hblk:w1.heap[b3]?=some (ndO 9 n s kv):=hblk
 replace hM:=(hM.up hS).keep hblk (fun h=>by have:=howl _ h;omega) (fun h=>by have:=hobs _ h;omega) (by rw [hpv];simp [ob])
 have hK:=hK0.keep (b:=b3) (o:=ndO 9 n s kv)
 have e0:K0.bm=(K0.keep b3 (ndO 9 n s kv)).bm:=rfl
 rw [show mP K0=mP (K0.keep b3 (ndO 9 n s kv)) from rfl]
 have hs':SlV (K0.keep b3 (ndO 9 n s kv)).own (K0.keep b3 (ndO 9 n s kv)).w0 kv [a,b,c]:=hs
 have hk:(K0.keep b3 (ndO 9 n s kv)).nk=none:=hk0
 have hun:∀ w' r,Z00 (K0.keep b3 (ndO 9 n s kv)) w' st at_ r→Z00 K0 w' st at_ r:=fun w' r h=>h.un
 have hcE:K0.c=(K0.keep b3 (ndO 9 n s kv)).c:=rfl
 have hkE:K0.kn=(K0.keep b3 (ndO 9 n s kv)).kn:=rfl
 have heE:K0.ev=(K0.keep b3 (ndO 9 n s kv)).ev:=rfl
 rw [hcE,hkE,heE]
 have hkept:∀ {w:World} {sv pv:Value} {st:List Int} {sp:List Spn} {at_ er:Int} {dn:Bool},Mch (K0.keep b3 (ndO 9 n s kv)) w sv pv st sp at_ er dn→Blk w b3 27 [.int .i64 9,.int .i64 n,str s,kv]:=fun h=>h.kept
 have hne:b3≠(K0.keep b3 (ndO 9 n s kv)).bm:=by show b3≠K0.bm;omega
 generalize K0.keep b3 (ndO 9 n s kv)=K at *
 clear e0 hs hK0 hk0 howl hcE hkE heE
 generalize hopn:Zg K.c K.kn=opn
 generalize hevv:K.ev=ev
 have l0:0 < [a,b,c].length:=by simp
 have l1:1 < [a,b,c].length:=by simp
 have l2:2 < [a,b,c].length:=by simp
 obtain ⟨ka,ca,da⟩:=Jg.kid hK hk hs' l0 iha (by show Z9 a≠0;omega)
 obtain ⟨kb,cb,db⟩:=Jg.kid hK hk hs' l1 ihb tb
 obtain ⟨kc,cc,dc⟩:=Jg.kid hK hk hs' l2 ihc tc
 rw [hopn,hevv] at da db dc
 have hblkN:=hkept hM
 have hsl:=hs'.ext (X':=[]) hM.stp (fun b hb=>hb) (by simp)
 refine W ?_
 apply Ze (ZM rfl rfl hsl l0 (ca _ hM.stp)) rfl
 refine CL rfl (Zb rfl rfl) rfl (da _ _ _ _ _ _ hM hst (by show sh.length+Zn a≤16;omega)) ?_
 rintro _ w2 ⟨rfl,hres⟩
 change Z00 K w2 st at_ (Z4 opn ev a) at hres
 have e9:Zm opn ev 9 n s [Z4 opn ev a,Z4 opn ev b,Z4 opn ev c]=if ¬ (Z4 opn ev a).2=0 then (0,(Z4 opn ev a).2) else [Z4 opn ev a,Z4 opn ev b,Z4 opn ev c].getD (2 - (Z4 opn ev a).1).toNat (0,0):=by
  unfold Zm
  rw [if_neg (by decide),if_neg (by decide)]
  simp only [Xq]
  rfl
 rw [hev2,e9]
 by_cases he:(Z4 opn ev a).2=0
 rw [if_neg (fun h=>h he)]
 obtain ⟨sv1,pv1,hM1⟩:=hres.go he
 have hva:=Z0X opn ev (by rw [← hevv];exact hK.ev) a (by omega) he
 rw [ta] at hva
 have hblkM:=hM1.blk
 have hblkN1:=hkept hM1
 unfold Z0G at hblkM
 refine W ?_
 generalize (Z4 opn ev a).1=v at hva hM1 ⊢
 have hv01:v=0∨v=1:=hva.b
 rcases hv01 with rfl|rfl
 refine Z1e 9 [K.bm] [8] rfl mixed (fun w3 hS3=>?_)
 replace hM1:=hM1.up hS3
 have hblkN3:=hkept hM1
 refine J3 0 rfl trivial (fun w'=>ZK rfl) rfl (by kernel_rfl) (by kernel_rfl) ?_
 refine J3 1 rfl trivial (fun w'=>ZL rfl) rfl (by kernel_rfl) (by kernel_rfl) ?_
 refine J3 3 rfl trivial (fun w'=>ZK rfl) rfl (by kernel_rfl) (by kernel_rfl) ?_
 refine Z0w 2 4 (by kernel_rfl) ?_ ?_
 refine ZR rfl trivial (OE_pr (Zy rfl rfl hblkN3 rfl)) (fun _ _ h=>by rw [h.2];exact Stp.refl _ _) rfl ?_
 rintro u wx ⟨hu,hw⟩
 rw [hu,hw]
 clear hu hw
 refine Z2d [(4,2),(5,0),(6,0),(7,1),(8,2)] (by kernel_rfl) (by kernel_rfl) (by kernel_rfl) ?_
 refine WD_eff rfl trivial (Z5 rfl (Zr rfl) (Z2b hK hM1)) (fun _ _ h=>h.2.2) rfl ?_
 rintro _ w4 ⟨rfl,⟨sv4,hM4⟩,hS4⟩
 refine Z04 rfl (Z9F trivial rfl rfl (by unfold I64;omega) rfl ?_)
 refine Z04 rfl (Z0o (i:=2) trivial rfl hsl rfl (by rfl) l2 rfl ?_)
 have hT4:∀ w',Stp [K.bm] w4 w'→Stp K.own K.w0 w':=fun w' hS'=>hM4.stp.trans (hS'.mono (by simp [MK.own]))
 refine WD_read rfl trivial (fun w' hS'=>ZM rfl rfl (hs'.ext (X':=[]) (hT4 w' hS') (fun b hb=>hb) (by simp)) l2 (cc _ (hT4 w' hS'))) rfl ?_
 refine WD_late rfl trivial (Z5 rfl (Zb rfl rfl) (dc _ _ _ _ _ _ hM4 hst (by show sh.length+Zn c≤16;omega))) rfl rfl ?_
 rintro _ w6 ⟨rfl,hres6⟩
 refine WD_nil ?_
 refine W ?_
 refine WR ?_
 exact .mk ⟨rfl,hun _ _ hres6⟩
 refine ZR rfl trivial (Z5 rfl (Zr rfl) (Z2b hK hM1)) (fun _ _ h=>h.2.2) rfl ?_
 rintro _ w4 ⟨rfl,⟨sv4,hM4⟩,hS4⟩
 have hblkN4:=hkept hM4
 refine J3 5 rfl trivial (fun w'=>Z2L rfl rfl (by unfold I64;omega)) rfl (by kernel_rfl) (by kernel_rfl) ?_
 refine Z2d [(2,2),(6,0),(7,1),(8,2)] (by kernel_rfl) (by kernel_rfl) (by kernel_rfl) ?_
 refine WD_eff rfl trivial (OE_pr (Zy rfl rfl hblkN4 rfl)) (fun _ _ h=>by rw [h.2];exact Stp.refl _ _) rfl ?_
 rintro u wx ⟨hu,hw⟩
 rw [hu,hw]
 clear hu hw
 refine Z04 rfl (Z0o (i:=2) trivial rfl hsl rfl (by rfl) l2 rfl ?_)
 have hT4:∀ w',Stp [K.bm] w4 w'→Stp K.own K.w0 w':=fun w' hS'=>hM4.stp.trans (hS'.mono (by simp [MK.own]))
 refine WD_read rfl trivial (fun w' hS'=>ZM rfl rfl (hs'.ext (X':=[]) (hT4 w' hS') (fun b hb=>hb) (by simp)) l2 (cc _ (hT4 w' hS'))) rfl ?_
 refine WD_late rfl trivial (Z5 rfl (Zb rfl rfl) (dc _ _ _ _ _ _ hM4 hst (by show sh.length+Zn c≤16;omega))) rfl rfl ?_
 rintro _ w6 ⟨rfl,hres6⟩
 refine WD_nil ?_
 refine W ?_
 refine WR ?_
 exact .mk ⟨rfl,hun _ _ hres6⟩
 refine Z1e 9 [K.bm] [8] rfl mixed (fun w3 hS3=>?_)
 replace hM1:=hM1.up hS3
 have hblkN3:=hkept hM1
 refine J3 0 rfl trivial (fun w'=>ZK rfl) rfl (by kernel_rfl) (by kernel_rfl) ?_
 refine J3 1 rfl trivial (fun w'=>ZL rfl) rfl (by kernel_rfl) (by kernel_rfl) ?_
 refine J3 3 rfl trivial (fun w'=>ZK rfl) rfl (by kernel_rfl) (by kernel_rfl) ?_
 refine Z0w 2 4 (by kernel_rfl) ?_ ?_
 refine ZR rfl trivial (OE_pr (Zy rfl rfl hblkN3 rfl)) (fun _ _ h=>by rw [h.2];exact Stp.refl _ _) rfl ?_
 rintro u wx ⟨hu,hw⟩
 rw [hu,hw]
 clear hu hw
 refine Z2d [(4,2),(5,0),(6,0),(7,1),(8,2)] (by kernel_rfl) (by kernel_rfl) (by kernel_rfl) ?_
 refine WD_eff rfl trivial (Z5 rfl (Zr rfl) (Z2b hK hM1)) (fun _ _ h=>h.2.2) rfl ?_
 rintro _ w4 ⟨rfl,⟨sv4,hM4⟩,hS4⟩
 refine Z04 rfl (Z9F trivial rfl rfl (by unfold I64;omega) rfl ?_)
 refine Z04 rfl (Z0o (i:=1) trivial rfl hsl rfl (by rfl) l1 rfl ?_)
 have hT4:∀ w',Stp [K.bm] w4 w'→Stp K.own K.w0 w':=fun w' hS'=>hM4.stp.trans (hS'.mono (by simp [MK.own]))
 refine WD_read rfl trivial (fun w' hS'=>ZM rfl rfl (hs'.ext (X':=[]) (hT4 w' hS') (fun b hb=>hb) (by simp)) l1 (cb _ (hT4 w' hS'))) rfl ?_
 refine WD_late rfl trivial (Z5 rfl (Zb rfl rfl) (db _ _ _ _ _ _ hM4 hst (by show sh.length+Zn b≤16;omega))) rfl rfl ?_
 rintro _ w6 ⟨rfl,hres6⟩
 refine WD_nil ?_
 refine W ?_
 refine WR ?_
 exact .mk ⟨rfl,hun _ _ hres6⟩
 refine ZR rfl trivial (Z5 rfl (Zr rfl) (Z2b hK hM1)) (fun _ _ h=>h.2.2) rfl ?_
 rintro _ w4 ⟨rfl,⟨sv4,hM4⟩,hS4⟩
 have hblkN4:=hkept hM4
 refine J3 5 rfl trivial (fun w'=>Z2L rfl rfl (by unfold I64;omega)) rfl (by kernel_rfl) (by kernel_rfl) ?_
 refine Z2d [(2,2),(6,0),(7,1),(8,2)] (by kernel_rfl) (by kernel_rfl) (by kernel_rfl) ?_
 refine WD_eff rfl trivial (OE_pr (Zy rfl rfl hblkN4 rfl)) (fun _ _ h=>by rw [h.2];exact Stp.refl _ _) rfl ?_
 rintro u wx ⟨hu,hw⟩
 rw [hu,hw]
 clear hu hw
 refine Z04 rfl (Z0o (i:=1) trivial rfl hsl rfl (by rfl) l1 rfl ?_)
 have hT4:∀ w',Stp [K.bm] w4 w'→Stp K.own K.w0 w':=fun w' hS'=>hM4.stp.trans (hS'.mono (by simp [MK.own]))
 refine WD_read rfl trivial (fun w' hS'=>ZM rfl rfl (hs'.ext (X':=[]) (hT4 w' hS') (fun b hb=>hb) (by simp)) l1 (cb _ (hT4 w' hS'))) rfl ?_
 refine WD_late rfl trivial (Z5 rfl (Zb rfl rfl) (db _ _ _ _ _ _ hM4 hst (by show sh.length+Zn b≤16;omega))) rfl rfl ?_
 rintro _ w6 ⟨rfl,hres6⟩
 refine WD_nil ?_
 refine W ?_
 refine WR ?_
 exact .mk ⟨rfl,hun _ _ hres6⟩
 rw [if_pos he]
 obtain ⟨sv1,pv1,st1,hM1⟩:=hres.stop he
 have hblkM:=hM1.blk
 unfold Z0G at hblkM
 refine W ?_
 refine WR ?_
 exact .mk ⟨rfl,hun _ _ (Z00.of he hM1)⟩
set_option maxHeartbeats 2000000 in
theorem Zek {n:Int} {a b:Nd} (iha:Jg a) (ihb:Jg b) (ta:Z9 a=2) (tb:Z9 b=2):Jg (.mk 6 n ([97,110,100]:Str) [a,b]):=by
 intro K0 nv w sv pv st sh at_ hK0 hk0 hx ht hM hst hb
 obtain ⟨kv,rfl,hs⟩:=hx
 have na:Zn a<Zn (.mk 6 n ([97,110,100]:Str) [a,b]):=Z0s (x:=.mk 6 n ([97,110,100]:Str) [a,b]) (by simp [Nd.kids])
 have nb:Zn b<Zn (.mk 6 n ([97,110,100]:Str) [a,b]):=Z0s (x:=.mk 6 n ([97,110,100]:Str) [a,b]) (by simp [Nd.kids])
 have hev2:∀ opn ev,Z4 opn ev (.mk 6 n ([97,110,100]:Str) [a,b])=Zm opn ev 6 n ([97,110,100]:Str) [Z4 opn ev a,Z4 opn ev b]:=fun opn ev=>Z1t _ _ _
 simp only [Nd.kind,Nd.num,Nd.word,Nd.kids] at hs ⊢
 have hbm:=hM.blk.lt
 have hobs:=fun x hx=>(hM.row.ob_le x hx).2
 have hpv:=hM.nt0 hk0
 have howl:∀ x∈K0.own,x<w.heap.size:=fun x hx=>Xa (Mch.own_lt hK0 x hx) hM.stp.size
 refine cW2 132 Tryz.func58 ?_
 refine W ?_
 refine Z3 (Zq rfl) rfl ?_
 rintro _ w1 ⟨b3,rfl,hb3,hblk,hS⟩
 replace hblk:w1.heap[b3]?=some (ndO 6 n ([97,110,100]:Str) kv):=hblk
 replace hM:=(hM.up hS).keep hblk (fun h=>by have:=howl _ h;omega) (fun h=>by have:=hobs _ h;omega) (by rw [hpv];simp [ob])
 have hK:=hK0.keep (b:=b3) (o:=ndO 6 n ([97,110,100]:Str) kv)
 have e0:K0.bm=(K0.keep b3 (ndO 6 n ([97,110,100]:Str) kv)).bm:=rfl
 rw [show mP K0=mP (K0.keep b3 (ndO 6 n ([97,110,100]:Str) kv)) from rfl]
 have hs':SlV (K0.keep b3 (ndO 6 n ([97,110,100]:Str) kv)).own (K0.keep b3 (ndO 6 n ([97,110,100]:Str) kv)).w0 kv [a,b]:=hs
 have hk:(K0.keep b3 (ndO 6 n ([97,110,100]:Str) kv)).nk=none:=hk0
 have hun:∀ w' r,Z00 (K0.keep b3 (ndO 6 n ([97,110,100]:Str) kv)) w' st at_ r→Z00 K0 w' st at_ r:=fun w' r h=>h.un
 have hcE:K0.c=(K0.keep b3 (ndO 6 n ([97,110,100]:Str) kv)).c:=rfl
 have hkE:K0.kn=(K0.keep b3 (ndO 6 n ([97,110,100]:Str) kv)).kn:=rfl
 have heE:K0.ev=(K0.keep b3 (ndO 6 n ([97,110,100]:Str) kv)).ev:=rfl
 rw [hcE,hkE,heE]
 have hkept:∀ {w:World} {sv pv:Value} {st:List Int} {sp:List Spn} {at_ er:Int} {dn:Bool},Mch (K0.keep b3 (ndO 6 n ([97,110,100]:Str) kv)) w sv pv st sp at_ er dn→Blk w b3 27 [.int .i64 6,.int .i64 n,str ([97,110,100]:Str),kv]:=fun h=>h.kept
 have hne:b3≠(K0.keep b3 (ndO 6 n ([97,110,100]:Str) kv)).bm:=by show b3≠K0.bm;omega
 generalize K0.keep b3 (ndO 6 n ([97,110,100]:Str) kv)=K at *
 clear e0 hs hK0 hk0 howl hcE hkE heE
 generalize hopn:Zg K.c K.kn=opn
 generalize hevv:K.ev=ev
 have l0:0 < [a,b].length:=by simp
 have l1:1 < [a,b].length:=by simp
 obtain ⟨ka,ca,da⟩:=Jg.kid hK hk hs' l0 iha (by show Z9 a≠0;omega)
 obtain ⟨kb,cb,db⟩:=Jg.kid hK hk hs' l1 ihb (by show Z9 b≠0;omega)
 rw [hopn,hevv] at da db
 have hblkN:=hkept hM
 have hsl:=hs'.ext (X':=[]) hM.stp (fun b hb=>hb) (by simp)
 refine W ?_
 apply Ze (ZM rfl rfl hsl l0 (ca _ hM.stp)) rfl
 refine CL rfl (Zb rfl rfl) rfl (da _ _ _ _ _ _ hM hst (by show sh.length+Zn a≤16;omega)) ?_
 rintro _ w2 ⟨rfl,hres⟩
 change Z00 K w2 st at_ (Z4 opn ev a) at hres
 have e9:Zm opn ev 6 n ([97,110,100]:Str) [Z4 opn ev a,Z4 opn ev b]=if ¬ (Z4 opn ev a).2=0 then (0,(Z4 opn ev a).2) else if (Z4 opn ev a).1=0 then ((Z4 opn ev a).1,0) else if ¬ (Z4 opn ev b).2=0 then (0,(Z4 opn ev b).2) else ((Z4 opn ev b).1,0):=by
  unfold Zm
  rw [if_neg (by decide),if_neg (by decide)]
  have e0:[Z4 opn ev a,Z4 opn ev b].getD 0 (0,0)=Z4 opn ev a:=rfl
  have e1:[Z4 opn ev a,Z4 opn ev b].getD 1 (0,0)=Z4 opn ev b:=rfl
  rw [e0,e1]
  have hc:((6:Int)=6∧(([97,110,100]:Str)=[97,110,100]∧(Z4 opn ev a).1=0∨([97,110,100]:Str)=[111,114]∧(Z4 opn ev a).1=1))↔(Z4 opn ev a).1=0:=by
   constructor
   rintro ⟨-,(⟨h1,h2⟩|⟨h1,h2⟩)⟩
   first|exact h2|exact absurd h1 (by decide)
   first|exact h2|exact absurd h1 (by decide)
   intro h
   exact ⟨rfl,.inl ⟨rfl,h⟩⟩
  have hl1:¬ [Z4 opn ev a,Z4 opn ev b].length=1:=by simp
  by_cases h0:(Z4 opn ev a).2=0
  have nh0:¬ ¬ (Z4 opn ev a).2=0:=fun h=>h h0
  rw [if_neg nh0,if_neg (by decide),if_neg (by decide),if_neg hl1]
  by_cases hv:(Z4 opn ev a).1=0
  rw [if_pos (hc.2 hv),if_neg nh0,if_pos hv]
  rw [if_neg (fun h=>hv (hc.1 h))]
  by_cases h1:(Z4 opn ev b).2=0
  have nh1:¬ ¬ (Z4 opn ev b).2=0:=fun h=>h h1
  rw [if_neg nh1,if_neg (by decide),if_neg (by decide),if_neg (by decide),if_neg nh0,if_neg hv,if_neg nh1]
  rfl
  rw [if_pos h1,if_neg nh0,if_neg hv,if_pos h1]
  rw [if_pos h0,if_pos h0]
 rw [hev2,e9]
 by_cases he:(Z4 opn ev a).2=0
 rw [if_neg (fun h=>h he)]
 obtain ⟨sv1,pv1,hM1⟩:=hres.go he
 have hva:=Z0X opn ev (by rw [← hevv];exact hK.ev) a (by omega) he
 rw [ta] at hva
 generalize (Z4 opn ev a).1=v at hva hM1 ⊢
 have hv01:v=0∨v=1:=hva.b
 have hlen:(st++[v]).length=st.length+1:=by simp
 have hz:((st++[v]).length:Int) - 1=(st.length:Int):=by rw [hlen];simp
 have hil:st.length<(st++[v]).length:=by rw [hlen];omega
 have hat:(st++[v])[st.length]=v:=by simp
 have hmx:=(hM1.row.slv (X:=[]) (by simp)).max
 rcases hv01 with rfl|rfl
 refine W ?_
 refine ZDr 23 [] [] [(0,0),(1,0),(2,0),(3,1),(4,0),(5,0),(6,0),(7,0),(8,1),(9,0),(10,0),(11,0),(12,1),(13,0),(14,0),(15,0),(16,1),(17,0),(18,0),(19,1),(20,0),(21,0),(22,0)] (fun w1 hS1=>?_)
 replace hM1:=hM1.up hS1
 have hblkM:=hM1.blk
 have hblkN1:=hkept hM1
 have hsv:=hM1.row.slv (X:=[]) (by simp)
 unfold Z0G at hblkM
 refine D ?_
 try refine Z04 rfl (Z0o (i:=st.length) rfl rfl hsv rfl hz hil rfl ?_)
 refine D ?_
 try rw [hat]
 refine D ?_
 refine W ?_
 rw [if_pos rfl]
 refine WR ?_
 exact .mk ⟨rfl,hun _ _ ⟨sv1,pv1,_,hM1,fun _=>rfl⟩⟩
 refine W ?_
 refine ZDr 23 [] [] [(0,0),(1,0),(2,0),(3,1),(4,0),(5,0),(6,0),(7,0),(8,1),(9,0),(10,0),(11,0),(12,1),(13,0),(14,0),(15,0),(16,1),(17,0),(18,0),(19,1),(20,0),(21,0),(22,0)] (fun w1 hS1=>?_)
 replace hM1:=hM1.up hS1
 have hblkM:=hM1.blk
 have hblkN1:=hkept hM1
 have hsv:=hM1.row.slv (X:=[]) (by simp)
 unfold Z0G at hblkM
 refine D ?_
 try refine Z04 rfl (Z0o (i:=st.length) rfl rfl hsv rfl hz hil rfl ?_)
 refine D ?_
 try rw [hat]
 refine D ?_
 refine W ?_
 rw [if_neg (by decide)]
 refine CL rfl (Zr rfl) rfl (Z0M hK hM1) ?_
 rintro _ w4 ⟨rfl,sv4,hM4⟩
 have hblkN4:=hkept hM4
 have hsl4:=hs'.ext (X':=[]) hM4.stp (fun b hb=>hb) (by simp)
 refine W ?_
 apply Ze (ZM rfl rfl hsl4 l1 (cb _ hM4.stp)) rfl
 refine CL rfl (Zb rfl rfl) rfl (db _ _ _ _ _ _ hM4 hst (by show sh.length+Zn b≤16;omega)) ?_
 rintro _ w6 ⟨rfl,hres6⟩
 change Z00 K w6 st at_ (Z4 opn ev b) at hres6
 refine W ?_
 refine WR ?_
 refine .mk ⟨rfl,hun _ _ ?_⟩
 by_cases h1:(Z4 opn ev b).2=0
 rw [if_neg (fun h=>h h1)]
 obtain ⟨sv6,pv6,hM6⟩:=hres6.go h1
 exact ⟨sv6,pv6,_,hM6,fun _=>rfl⟩
 rw [if_pos h1]
 obtain ⟨sv6,pv6,st6,hM6⟩:=hres6.stop h1
 exact Z00.of h1 hM6
 rw [if_pos he]
 obtain ⟨sv1,pv1,st1,hM1⟩:=hres.stop he
 refine W ?_
 refine ZDr 23 [] [] [(0,0),(1,0),(2,0),(3,1),(4,0),(5,0),(6,0),(7,0),(8,1),(9,0),(10,0),(11,0),(12,1),(13,0),(14,0),(15,0),(16,1),(17,0),(18,0),(19,1),(20,0),(21,0),(22,0)] (fun w1 hS1=>?_)
 replace hM1:=hM1.up hS1
 have hblkM:=hM1.blk
 have hblkN1:=hkept hM1
 unfold Z0G at hblkM
 refine D ?_
 refine W ?_
 refine WR ?_
 exact .mk ⟨rfl,hun _ _ (Z00.of he hM1)⟩
set_option maxHeartbeats 2000000 in
theorem Zg8 {n:Int} {a b:Nd} (iha:Jg a) (ihb:Jg b) (ta:Z9 a=2) (tb:Z9 b=2):Jg (.mk 6 n ([111,114]:Str) [a,b]):=by
 intro K0 nv w sv pv st sh at_ hK0 hk0 hx ht hM hst hb
 obtain ⟨kv,rfl,hs⟩:=hx
 have na:Zn a<Zn (.mk 6 n ([111,114]:Str) [a,b]):=Z0s (x:=.mk 6 n ([111,114]:Str) [a,b]) (by simp [Nd.kids])
 have nb:Zn b<Zn (.mk 6 n ([111,114]:Str) [a,b]):=Z0s (x:=.mk 6 n ([111,114]:Str) [a,b]) (by simp [Nd.kids])
 have hev2:∀ opn ev,Z4 opn ev (.mk 6 n ([111,114]:Str) [a,b])=Zm opn ev 6 n ([111,114]:Str) [Z4 opn ev a,Z4 opn ev b]:=fun opn ev=>Z1t _ _ _
 simp only [Nd.kind,Nd.num,Nd.word,Nd.kids] at hs ⊢
 have hbm:=hM.blk.lt
 have hobs:=fun x hx=>(hM.row.ob_le x hx).2
 have hpv:=hM.nt0 hk0
 have howl:∀ x∈K0.own,x<w.heap.size:=fun x hx=>Xa (Mch.own_lt hK0 x hx) hM.stp.size
 refine cW2 132 Tryz.func58 ?_
 refine W ?_
 refine Z3 (Zq rfl) rfl ?_
 rintro _ w1 ⟨b3,rfl,hb3,hblk,hS⟩
 replace hblk:w1.heap[b3]?=some (ndO 6 n ([111,114]:Str) kv):=hblk
 replace hM:=(hM.up hS).keep hblk (fun h=>by have:=howl _ h;omega) (fun h=>by have:=hobs _ h;omega) (by rw [hpv];simp [ob])
 have hK:=hK0.keep (b:=b3) (o:=ndO 6 n ([111,114]:Str) kv)
 have e0:K0.bm=(K0.keep b3 (ndO 6 n ([111,114]:Str) kv)).bm:=rfl
 rw [show mP K0=mP (K0.keep b3 (ndO 6 n ([111,114]:Str) kv)) from rfl]
 have hs':SlV (K0.keep b3 (ndO 6 n ([111,114]:Str) kv)).own (K0.keep b3 (ndO 6 n ([111,114]:Str) kv)).w0 kv [a,b]:=hs
 have hk:(K0.keep b3 (ndO 6 n ([111,114]:Str) kv)).nk=none:=hk0
 have hun:∀ w' r,Z00 (K0.keep b3 (ndO 6 n ([111,114]:Str) kv)) w' st at_ r→Z00 K0 w' st at_ r:=fun w' r h=>h.un
 have hcE:K0.c=(K0.keep b3 (ndO 6 n ([111,114]:Str) kv)).c:=rfl
 have hkE:K0.kn=(K0.keep b3 (ndO 6 n ([111,114]:Str) kv)).kn:=rfl
 have heE:K0.ev=(K0.keep b3 (ndO 6 n ([111,114]:Str) kv)).ev:=rfl
 rw [hcE,hkE,heE]
 have hkept:∀ {w:World} {sv pv:Value} {st:List Int} {sp:List Spn} {at_ er:Int} {dn:Bool},Mch (K0.keep b3 (ndO 6 n ([111,114]:Str) kv)) w sv pv st sp at_ er dn→Blk w b3 27 [.int .i64 6,.int .i64 n,str ([111,114]:Str),kv]:=fun h=>h.kept
 have hne:b3≠(K0.keep b3 (ndO 6 n ([111,114]:Str) kv)).bm:=by show b3≠K0.bm;omega
 generalize K0.keep b3 (ndO 6 n ([111,114]:Str) kv)=K at *
 clear e0 hs hK0 hk0 howl hcE hkE heE
 generalize hopn:Zg K.c K.kn=opn
 generalize hevv:K.ev=ev
 have l0:0 < [a,b].length:=by simp
 have l1:1 < [a,b].length:=by simp
 obtain ⟨ka,ca,da⟩:=Jg.kid hK hk hs' l0 iha (by show Z9 a≠0;omega)
 obtain ⟨kb,cb,db⟩:=Jg.kid hK hk hs' l1 ihb (by show Z9 b≠0;omega)
 rw [hopn,hevv] at da db
 have hblkN:=hkept hM
 have hsl:=hs'.ext (X':=[]) hM.stp (fun b hb=>hb) (by simp)
 refine W ?_
 apply Ze (ZM rfl rfl hsl l0 (ca _ hM.stp)) rfl
 refine CL rfl (Zb rfl rfl) rfl (da _ _ _ _ _ _ hM hst (by show sh.length+Zn a≤16;omega)) ?_
 rintro _ w2 ⟨rfl,hres⟩
 change Z00 K w2 st at_ (Z4 opn ev a) at hres
 have e9:Zm opn ev 6 n ([111,114]:Str) [Z4 opn ev a,Z4 opn ev b]=if ¬ (Z4 opn ev a).2=0 then (0,(Z4 opn ev a).2) else if (Z4 opn ev a).1=1 then ((Z4 opn ev a).1,0) else if ¬ (Z4 opn ev b).2=0 then (0,(Z4 opn ev b).2) else ((Z4 opn ev b).1,0):=by
  unfold Zm
  rw [if_neg (by decide),if_neg (by decide)]
  have e0:[Z4 opn ev a,Z4 opn ev b].getD 0 (0,0)=Z4 opn ev a:=rfl
  have e1:[Z4 opn ev a,Z4 opn ev b].getD 1 (0,0)=Z4 opn ev b:=rfl
  rw [e0,e1]
  have hc:((6:Int)=6∧(([111,114]:Str)=[97,110,100]∧(Z4 opn ev a).1=0∨([111,114]:Str)=[111,114]∧(Z4 opn ev a).1=1))↔(Z4 opn ev a).1=1:=by
   constructor
   rintro ⟨-,(⟨h1,h2⟩|⟨h1,h2⟩)⟩
   first|exact h2|exact absurd h1 (by decide)
   first|exact h2|exact absurd h1 (by decide)
   intro h
   exact ⟨rfl,.inr ⟨rfl,h⟩⟩
  have hl1:¬ [Z4 opn ev a,Z4 opn ev b].length=1:=by simp
  by_cases h0:(Z4 opn ev a).2=0
  have nh0:¬ ¬ (Z4 opn ev a).2=0:=fun h=>h h0
  rw [if_neg nh0,if_neg (by decide),if_neg (by decide),if_neg hl1]
  by_cases hv:(Z4 opn ev a).1=1
  rw [if_pos (hc.2 hv),if_neg nh0,if_pos hv]
  rw [if_neg (fun h=>hv (hc.1 h))]
  by_cases h1:(Z4 opn ev b).2=0
  have nh1:¬ ¬ (Z4 opn ev b).2=0:=fun h=>h h1
  rw [if_neg nh1,if_neg (by decide),if_neg (by decide),if_neg (by decide),if_neg nh0,if_neg hv,if_neg nh1]
  rfl
  rw [if_pos h1,if_neg nh0,if_neg hv,if_pos h1]
  rw [if_pos h0,if_pos h0]
 rw [hev2,e9]
 by_cases he:(Z4 opn ev a).2=0
 rw [if_neg (fun h=>h he)]
 obtain ⟨sv1,pv1,hM1⟩:=hres.go he
 have hva:=Z0X opn ev (by rw [← hevv];exact hK.ev) a (by omega) he
 rw [ta] at hva
 generalize (Z4 opn ev a).1=v at hva hM1 ⊢
 have hv01:v=0∨v=1:=hva.b
 have hlen:(st++[v]).length=st.length+1:=by simp
 have hz:((st++[v]).length:Int) - 1=(st.length:Int):=by rw [hlen];simp
 have hil:st.length<(st++[v]).length:=by rw [hlen];omega
 have hat:(st++[v])[st.length]=v:=by simp
 have hmx:=(hM1.row.slv (X:=[]) (by simp)).max
 rcases hv01 with rfl|rfl
 refine W ?_
 refine ZDr 23 [] [] [(0,0),(1,0),(2,0),(3,1),(4,0),(5,0),(6,0),(7,0),(8,1),(9,0),(10,0),(11,0),(12,1),(13,0),(14,0),(15,0),(16,1),(17,0),(18,0),(19,1),(20,0),(21,0),(22,0)] (fun w1 hS1=>?_)
 replace hM1:=hM1.up hS1
 have hblkM:=hM1.blk
 have hblkN1:=hkept hM1
 have hsv:=hM1.row.slv (X:=[]) (by simp)
 unfold Z0G at hblkM
 refine D ?_
 try refine Z04 rfl (Z0o (i:=st.length) rfl rfl hsv rfl hz hil rfl ?_)
 refine D ?_
 try rw [hat]
 refine D ?_
 refine W ?_
 rw [if_neg (by decide)]
 refine CL rfl (Zr rfl) rfl (Z0M hK hM1) ?_
 rintro _ w4 ⟨rfl,sv4,hM4⟩
 have hblkN4:=hkept hM4
 have hsl4:=hs'.ext (X':=[]) hM4.stp (fun b hb=>hb) (by simp)
 refine W ?_
 apply Ze (ZM rfl rfl hsl4 l1 (cb _ hM4.stp)) rfl
 refine CL rfl (Zb rfl rfl) rfl (db _ _ _ _ _ _ hM4 hst (by show sh.length+Zn b≤16;omega)) ?_
 rintro _ w6 ⟨rfl,hres6⟩
 change Z00 K w6 st at_ (Z4 opn ev b) at hres6
 refine W ?_
 refine WR ?_
 refine .mk ⟨rfl,hun _ _ ?_⟩
 by_cases h1:(Z4 opn ev b).2=0
 rw [if_neg (fun h=>h h1)]
 obtain ⟨sv6,pv6,hM6⟩:=hres6.go h1
 exact ⟨sv6,pv6,_,hM6,fun _=>rfl⟩
 rw [if_pos h1]
 obtain ⟨sv6,pv6,st6,hM6⟩:=hres6.stop h1
 exact Z00.of h1 hM6
 refine W ?_
 refine ZDr 23 [] [] [(0,0),(1,0),(2,0),(3,1),(4,0),(5,0),(6,0),(7,0),(8,1),(9,0),(10,0),(11,0),(12,1),(13,0),(14,0),(15,0),(16,1),(17,0),(18,0),(19,1),(20,0),(21,0),(22,0)] (fun w1 hS1=>?_)
 replace hM1:=hM1.up hS1
 have hblkM:=hM1.blk
 have hblkN1:=hkept hM1
 have hsv:=hM1.row.slv (X:=[]) (by simp)
 unfold Z0G at hblkM
 refine D ?_
 try refine Z04 rfl (Z0o (i:=st.length) rfl rfl hsv rfl hz hil rfl ?_)
 refine D ?_
 try rw [hat]
 refine D ?_
 refine W ?_
 rw [if_pos rfl]
 refine WR ?_
 exact .mk ⟨rfl,hun _ _ ⟨sv1,pv1,_,hM1,fun _=>rfl⟩⟩
 rw [if_pos he]
 obtain ⟨sv1,pv1,st1,hM1⟩:=hres.stop he
 refine W ?_
 refine ZDr 23 [] [] [(0,0),(1,0),(2,0),(3,1),(4,0),(5,0),(6,0),(7,0),(8,1),(9,0),(10,0),(11,0),(12,1),(13,0),(14,0),(15,0),(16,1),(17,0),(18,0),(19,1),(20,0),(21,0),(22,0)] (fun w1 hS1=>?_)
 replace hM1:=hM1.up hS1
 have hblkM:=hM1.blk
 have hblkN1:=hkept hM1
 unfold Z0G at hblkM
 refine D ?_
 refine W ?_
 refine WR ?_
 exact .mk ⟨rfl,hun _ _ (Z00.of he hM1)⟩
theorem SlV.keepC {α:Type} [Za α] {X:List Nat} {w w':World} {v:Value} {xs:List α} (h:SlV X w v xs) (hb:∀ b∈ob v,w'.heap[b]?=w.heap[b]?):SlV [] w' v xs:=by
 obtain ⟨p,c,rfl,hl,hm,hn,hc⟩:=h
 refine ⟨p,c,rfl,hl,hm,hn,fun i hi=>?_⟩
 obtain ⟨b,o,cs,rfl,hbl,hx,hr,hcell⟩:=hc i hi
 have e:=hb b (by simp [ob])
 rw [Array.getElem?_eq_getElem hbl] at e
 exact ⟨b,o,cs,rfl,(Array.getElem?_eq_some_iff.1 e).1,by simp,hr,fun j u hu=>(World.cell?_of_block (a:=⟨b,_,none⟩) (hb b (by simp [ob]))).trans (hcell j u hu)⟩
theorem Jg.kid2 {l:List Nd} {K:MK} {kv:Value} (hK:KOk K) (hk:K.nk=none) (hs:SlV K.own K.w0 kv l) {i:Nat} (hi:i<l.length) (ih:Jg l[i]) (ht:Z9 l[i]≠0) :
 ∃ kv2 : Value, kv2.oneCell' = true ∧ (∀ w', Stp K.own K.w0 w' → ∀ j u, [Value.int .i64 l[i].kind, .int .i64 l[i].num, str l[i].word, kv2][j]? = some u → w'.cell? (Zz kv i 4 j) = some u)∧
   ∀ (w : World) (sv pv : Value) (st : List Int) (s : Shp) (at_ : Int), Mch K w sv pv st [] at_ 0 false → Ji s st → s.length + Zn l[i] ≤ 16→
     CC 58 #[mP K,.agg #[.int .i64 l[i].kind,.int .i64 l[i].num,str l[i].word,kv2]] w fun r w'=>r=.tuple #[]∧Z00 K w' st at_ (Z4 (Zg K.c K.kn) K.ev l[i]):=by
 obtain ⟨kv2,h1,h2⟩:=Zgt hs hi (Stp.refl _ _)
 exact ⟨kv2,h1.one,h2,fun w sv pv st s at_ hM hst hb=>ih K _ w sv pv st s at_ hK hk ⟨kv2,rfl,h1⟩ ht hM hst hb⟩
theorem ZmM:∀ r∈Z27,(r.L.length=1∨(r.L.length=2∧(r.L.getD 0 0=8∨r.L.getD 0 0=9∨r.L.getD 0 0=10∨r.L.getD 0 0=11)))∧(∀ o∈r.L,o≠24∧o≠13∧o≠14):=by decide +kernel
theorem Zel (r:Z7D) (hr:r∈Z27):Z22 2 (r.L.map fun o=>⟨o,0⟩) r.ts=some [r.t]:=by
 have hb:=Xv.1 ZdK r hr
 simp only [Xg] at hb
 exact (Z23 hb.1.2).2.2
theorem Zci {opn:Int→Bool} {ev:List Int} {o a b:Int} (h:o=8∨o=9∨o=10∨o=11):(ZH opn ev ⟨o,0⟩ a b).2=0:=by
 rcases h with rfl|rfl|rfl|rfl<;>rfl
theorem Zak {b:Nat} {x:Ins} {L:List Ins} {s r:Shp} (h:Z22 b (x :: L) s=some r):∃ nx,J5 x s=some nx∧nx.length≤b∧Z22 b L nx=some r:=by
 rw [Z22] at h
 cases hx:J5 x s with
 | none=>rw [hx] at h;cases h
 | some s1=>
   rw [hx] at h
   simp only at h
   split at h
   rename_i hl
   exact ⟨s1,rfl,hl,h⟩
   cases h
theorem Zal {a b:List (Int×Int)} (ha:∀ x∈a,x.2=0):J2 (a++b)=J2 b:=by
 induction a with
 | nil=>rfl
 | cons x r ih=>
   rw [XR,J2,if_pos (ha x (by simp))]
   exact ih (fun y hy=>ha y (by simp [hy]))
set_option maxHeartbeats 4000000 in
theorem Zam {r:Z7D} {n:Int} {l:List Nd} (hr:r∈Z27) (hts:l.map Z9=r.ts) (ih:∀ y∈l,Jg y) (hkid:∀ y∈l,Z9 y≠0):Jg (.mk r.k n r.s l):=by
 intro K0 nv w sv pv st sh at_ hK0 hk0 hx ht hM hst hb
 obtain ⟨kv,rfl,hs⟩:=hx
 have hnk:∀ y∈l,Zn y<Zn (.mk r.k n r.s l):=fun y hy=>Z0s (x:=.mk r.k n r.s l) hy
 have hev2:∀ opn ev,Z4 opn ev (.mk r.k n r.s l)=Zm opn ev r.k n r.s (l.map (Z4 opn ev)):=fun opn ev=>Z1t _ _ _
 obtain ⟨⟨hk123,hk4,hk9⟩,hao,hlen12⟩:=ZdM r hr
 obtain ⟨hL12,hLo⟩:=ZmM r hr
 have hfold:=Zel r hr
 obtain ⟨ov1,ov2,ov3⟩:=Zej r hr
 have hll:l.length=r.ts.length:=by rw [← hts];simp
 simp only [Nd.kind,Nd.num,Nd.word,Nd.kids] at hs ⊢
 have hbm:=hM.blk.lt
 have hobs:=fun x hx=>(hM.row.ob_le x hx).2
 have hpv:=hM.nt0 hk0
 have howl:∀ x∈K0.own,x<w.heap.size:=fun x hx=>Xa (Mch.own_lt hK0 x hx) hM.stp.size
 refine cW2 132 Tryz.func58 ?_
 refine W ?_
 refine Z3 (Zq rfl) rfl ?_
 rintro _ w1 ⟨b3,rfl,hb3,hblk,hS⟩
 replace hblk:w1.heap[b3]?=some (ndO r.k n r.s kv):=hblk
 replace hM:=(hM.up hS).keep hblk (fun h=>by have:=howl _ h;omega) (fun h=>by have:=hobs _ h;omega) (by rw [hpv];simp [ob])
 have hK:=hK0.keep (b:=b3) (o:=ndO r.k n r.s kv)
 have e0:K0.bm=(K0.keep b3 (ndO r.k n r.s kv)).bm:=rfl
 rw [show mP K0=mP (K0.keep b3 (ndO r.k n r.s kv)) from rfl]
 have hs':SlV (K0.keep b3 (ndO r.k n r.s kv)).own (K0.keep b3 (ndO r.k n r.s kv)).w0 kv l:=hs
 have hk:(K0.keep b3 (ndO r.k n r.s kv)).nk=none:=hk0
 have hun:∀ w' (z:Int×Int),Z00 (K0.keep b3 (ndO r.k n r.s kv)) w' st at_ z→Z00 K0 w' st at_ z:=fun w' z h=>h.un
 have hcE:K0.c=(K0.keep b3 (ndO r.k n r.s kv)).c:=rfl
 have hkE:K0.kn=(K0.keep b3 (ndO r.k n r.s kv)).kn:=rfl
 have heE:K0.ev=(K0.keep b3 (ndO r.k n r.s kv)).ev:=rfl
 rw [hcE,hkE,heE]
 have hkept:∀ {w:World} {sv pv:Value} {st:List Int} {sp:List Spn} {at_ er:Int} {dn:Bool},Mch (K0.keep b3 (ndO r.k n r.s kv)) w sv pv st sp at_ er dn→Blk w b3 27 [.int .i64 r.k,.int .i64 n,str r.s,kv]:=fun h=>h.kept
 have hne:b3≠(K0.keep b3 (ndO r.k n r.s kv)).bm:=by show b3≠K0.bm;omega
 generalize K0.keep b3 (ndO r.k n r.s kv)=K at *
 clear e0 hs hK0 hk0 howl hcE hkE heE
 generalize hopn:Zg K.c K.kn=opn
 generalize hevv:K.ev=ev
 have hevo:Z1C ev:=by rw [← hevv];exact hK.ev
 have hblkN:=hkept hM
 have hsl:=hs'.ext (X':=[]) hM.stp (fun b hb=>hb) (by simp)
 have h1:r.k≠1∧r.k≠2∧r.k≠3:=by omega
 have hs1:r.k=6→¬ r.s=[97,110,100]:=fun h6 h=>hao ⟨h6,.inl h⟩
 have hs2:r.k=6→¬ r.s=[111,114]:=fun h6 h=>hao ⟨h6,.inr h⟩
 have hmax:=hsl.max
 have k6:r.k=6∨r.k≠6:=by omega
 rcases k6 with k6|k6
 all_goals repeat'(first|refine W1 ?_|omega|(exfalso;exact hs1 k6 (by assumption))|(exfalso;exact hs2 k6 (by assumption))|refine VG ?_ ?_<;>intro hg|refine VC ?_ ?_<;>intro hc)
 all_goals
  refine Z0m (σ:=Unit) (fun _=>[(0,mP K),(3,.pointer (some ⟨b3,0,none⟩))])
   (fun _ w'=>(∃ sv pv,Mch K w' sv pv (st++l.map fun y=>(Z4 opn ev y).1) [] at_ 0 false)∧∀ y∈l,(Z4 opn ev y).2=0) ?_ ?_
  refine Zv (σ:=Nat) (fun j=>[(0,mP K),(3,.pointer (some ⟨b3,0,none⟩)),(9,kv),(10,.int .i64 (l.length:Int)),(11,.int .i64 (j:Int))])
   (fun j w'=>j≤l.length∧(∃ sv pv,Mch K w' sv pv (st++(l.take j).map fun y=>(Z4 opn ev y).1) [] at_ 0 false)∧∀ y∈l.take j,(Z4 opn ev y).2=0) (fun j=>l.length - j) 0 ⟨rfl,rfl,rfl,rfl,rfl,trivial⟩ ⟨Xu _,⟨_,_,by simpa using hM⟩,by simp⟩ ?_
  rintro j w2 ⟨hj,⟨sv1,pv1,hM1⟩,hok⟩
  have hsl1:=hs'.ext (X':=[]) hM1.stp (fun b hb=>hb) (by simp)
  by_cases hlt:j<l.length
  have hmem:=Xh hlt
  obtain ⟨kj,oj,cj,dj⟩:=Jg.kid2 hK hk hs' hlt (ih _ hmem) (hkid _ hmem)
  rw [hopn,hevv] at dj
  have hn1:=hnk _ hmem
  have hstj:Ji (sh++(l.take j).map Z9) (st++(l.take j).map fun y=>(Z4 opn ev y).1):=by
   refine hst.app ⟨by simp,fun i h h'=>?_⟩
   simp only [Yai]
   have hi:i<(l.take j).length:=by simpa using h
   have hmi:=Xh hi
   exact Z0X opn ev hevo _ (hkid _ (Yab hmi)) (hok _ hmi)
  have hbj:(sh++(l.take j).map Z9).length+Zn l[j]≤16:=by
   rw [Xd,XQ,Xw]
   omega
  have htk:l.take (j+1)=l.take j++[l[j]]:=Xr hlt
  focus repeat'(first|refine W1 ?_|omega|refine VG ?_ ?_<;>intro hg|refine VC ?_ ?_<;>intro hc)
  apply Ze (ZM rfl rfl hsl1 hlt (cj _ hM1.stp)) rfl
  refine Z3 Z6 rfl ?_
  rintro _ w3 ⟨b5,rfl,hb5,e5,hS3⟩
  refine W ?_
  refine Z1 (Z2 (us:=[.int .i64 l[j].kind,.int .i64 l[j].num,str l[j].word,kj]) rfl rfl rfl rfl (by intro u hu;simp at hu;rcases hu with rfl|rfl|rfl|rfl;exact rfl;exact rfl;exact rfl;exact oj) e5 rfl) ?_
  rintro _ w4 ⟨hT,k5⟩
  replace hM1:=hM1.up (hS3.own hT (fun c hc=>.inr (by simp at hc;omega)))
  clear e5 hT hS3
  refine W ?_
  refine CL rfl (Zb rfl rfl) rfl (dj _ _ _ _ _ _ hM1 hstj hbj) ?_
  rintro _ w5 ⟨rfl,hres⟩
  by_cases he:(Z4 opn ev l[j]).2=0
  obtain ⟨sv2,pv2,hM2⟩:=hres.go he
  have hblkM:=hM2.blk
  unfold Z0G at hblkM
  refine W ?_
  refine Zp (j+1) ⟨rfl,rfl,rfl,rfl,rfl,trivial⟩ ⟨hlt,⟨sv2,pv2,?_⟩,?_⟩ (by omega)
  rw [htk,Yae,← Xt]
  exact hM2
  intro y hy
  rw [htk,Xn] at hy
  rcases hy with hy|hy
  exact hok y hy
  obtain rfl:y=l[j]:=by simpa using hy
  exact he
  obtain ⟨sv2,pv2,st2,hM2⟩:=hres.stop he
  have hblkM:=hM2.blk
  unfold Z0G at hblkM
  refine W ?_
  refine WR ?_
  refine .mk ⟨rfl,hun _ _ ?_⟩
  have hfe:J2 (l.map (Z4 opn ev))=(Z4 opn ev l[j]).2:=by
   conv=>lhs;rw [← XS j l,Yae,X3 hlt]
   rw [Zal (by intro x hx;obtain ⟨y,hy,rfl⟩:=XP.1 hx;exact hok y hy)]
   rw [Xl,J2,if_neg he]
  rw [hev2,Z4D opn ev n _ r hr (by rw [← hll];simp) (by rw [hfe];exact he),hfe]
  exact Z00.of he hM2
  obtain rfl:j=l.length:=by omega
  rw [XC] at hM1 hok
  focus repeat'(first|refine W1 ?_|omega|refine VG ?_ ?_<;>intro hg|refine VC ?_ ?_<;>intro hc)
  exact ZC () ⟨rfl,rfl,trivial⟩ ⟨⟨sv1,pv1,hM1⟩,hok⟩
  rintro _ w2 ⟨⟨sv1,pv1,hM1⟩,hok⟩
  have hblk2:=hkept hM1
  have hvs:l.map (Z4 opn ev)=okv (l.map fun y=>(Z4 opn ev y).1):=by
   unfold okv
   rw [YaE]
   exact List.map_congr_left (fun y hy=>Prod.ext rfl (hok y hy))
  have hstv:Ji r.ts (l.map fun y=>(Z4 opn ev y).1):=by
   rw [← hts]
   refine ⟨by simp,fun i h h'=>?_⟩
   simp only [Yai]
   have hi:i<l.length:=by simpa using h
   have hmi:=Xh hi
   exact Z0X opn ev hevo _ (hkid _ hmi) (hok _ hmi)
  have hline:=Z5O opn ev n st (l.map fun y=>(Z4 opn ev y).1) r hr hstv
  rw [← hvs] at hline
  rw [hev2]
  generalize Zm opn ev r.k n r.s (l.map (Z4 opn ev))=R at hline ⊢
  generalize (l.map fun y=>(Z4 opn ev y).1)=vs at hstv hline hM1
  obtain ⟨hl1,hl2⟩:=hline
  have hXlt:∀ b∈K.own++ob sv1++ob pv1,b<w2.heap.size:=by
   intro b hb
   simp only [Xn] at hb
   rcases hb with (hb|hb)|hb
   exact Xa (Mch.own_lt hK b hb) hM1.stp.size
   exact (hM1.row.ob_le b hb).2
   rw [hM1.nt0 hk] at hb;simp [ob] at hb
  refine W ?_
  refine CL rfl (Zr rfl) rfl (Z67 (K.own++ob sv1++ob pv1) r.k n r.s kv _ hXlt ov2) ?_
  rintro rv w3 ⟨hrv,hS3⟩
  replace hM1:=hM1.up hS3
  have hLpos:0<(Z7W r.k r.s).length:=by rw [ov1];omega
  have hrv0:=hrv.ext (X':=[]) (Stp.refl [] _) (by simp) (by simp)
  obtain ⟨bq,oo,hoo,hbq,hq1,hq2,hq3⟩:∃ bq oo,w3.heap[bq]?=some oo∧(∀ b∈ob rv,b=bq)∧bq∉K.own∧bq∉ob sv1∧bq∉ob pv1:=by
   obtain ⟨p,c,rfl,-,-,-,hcell⟩:=id hrv
   obtain ⟨bq,oq,csq,rfl,hbq,hxq,-⟩:=hcell 0 hLpos
   simp only [Xn,not_or] at hxq
   exact ⟨bq,_,Array.getElem?_eq_getElem hbq,by simp [ob],hxq.1.1,hxq.1.2,hxq.2⟩
  have hM2:=hM1.keep hoo hq1 hq2 hq3
  have hK2:=hK.keep (b:=bq) (o:=oo)
  have hk2:(K.keep bq oo).nk=none:=hk
  have hrvK:∀ {w:World} {sv pv:Value} {st:List Int} {sp:List Spn} {at_ er:Int} {dn:Bool},Mch (K.keep bq oo) w sv pv st sp at_ er dn→SlV [] w rv (Z7W r.k r.s):=fun h=>SlV.keepC hrv (fun b hb=>by rw [hbq b hb];exact h.kept.trans hoo.symm)
  have hun2:∀ w' (z:Int×Int),Z00 (K.keep bq oo) w' st at_ z→Z00 K0 w' st at_ z:=fun w' z h=>hun w' z h.un
  rw [show mP K=mP (K.keep bq oo) from rfl]
  have ho2:Zg (K.keep bq oo).c (K.keep bq oo).kn=opn:=hopn
  have he2:(K.keep bq oo).ev=ev:=hevv
  generalize K.keep bq oo=K2 at *
  refine W ?_
  refine Zv (σ:=Nat) (fun i=>[(0,mP K2),(24,rv),(25,.int .i64 ((Z7W r.k r.s).length:Int)),(26,.int .i64 (i:Int))])
   (fun i w'=>(i<r.L.length∧∃ sv pv st' ts',ts'.length≤2∧Mch K2 w' sv pv st' [] at_ 0 false∧Ji (sh++ts') st'∧Z22 2 ((r.L.drop i).map fun o=>⟨o,0⟩) ts'=some [r.t]∧Z2w opn ev (r.L.drop i) st'=Z2w opn ev r.L (st++vs))∨(i=r.L.length∧Z00 K2 w' st at_ R)) (fun i=>r.L.length - i) 0 ⟨rfl,rfl,rfl,rfl,trivial⟩
   (.inl ⟨by omega,sv1,pv1,_,r.ts,by omega,hM2,hst.app hstv,hfold,rfl⟩) ?_
  rintro i w4 (⟨hi,sv2,pv2,st',ts',ht2,hM4,hst4,hf4,hr4⟩|⟨rfl,hres⟩)
  have hrv4:=hrvK hM4
  have hio:i<(Z7W r.k r.s).length:=by omega
  have hdrop:r.L.drop i=r.L.getD i 0 :: r.L.drop (i+1):=by
   rw [X3 hi]
   congr 1
   simp [List.getD,hi]
  have hop:=hLo (r.L.getD i 0) (by simp [List.getD,hi])
  rw [hdrop,Xl] at hf4
  obtain ⟨nx,hn1,hn2,hn3⟩:=Zak hf4
  have hx1:1≤Zn (.mk r.k n r.s l):=by rw [JJ];omega
  have hx2:2≤Zn (.mk r.k n r.s l):=by
   have:0<l.length:=by omega
   have:=hnk _ (Xh this)
   have h9:1≤Zn l[0]:=by rw [JJ];omega
   omega
  have hnf:=Z0B (s:=sh) hn1 (by omega)
  have hget:=ov3 i hi
  rw [List.getElem?_map,List.getElem?_eq_getElem hio] at hget
  have hget2:fnV (Z7W r.k r.s)[i].f=Z2k Z7S (r.L.getD i 0) .nilFunc:=by simpa using hget
  have hst16:st'.length≤100000:=by
   have h7:=hst4.1
   rw [Xd] at h7
   omega
  focus repeat'(first|refine W1 ?_|omega|refine VG ?_ ?_<;>intro hg|refine VC ?_ ?_<;>intro hc)
  refine Z3 (Zb6 (x:=⟨r.L.getD i 0,0⟩) hK2 hM4 hnf hst4 hst16 (by simp) (by show some _=some _;rw [← hget2]) rfl rfl) rfl ?_
  rintro _ w5 ⟨rfl,hstep⟩
  unfold Jz at hstep
  rw [if_neg hop.1,if_neg hop.2.1,if_neg hop.2.2,ho2,he2] at hstep
  rw [hdrop,Z2w] at hr4
  obtain ⟨sv6,pv6,st6,sp6,hM6,hok6⟩:=hstep
  replace hM6:=hM6.nosp hk2 (sp':=[])
  by_cases hlast:i+1=r.L.length
  have hd0:r.L.drop (i+1)=[]:=by rw [hlast];simp
  rw [hd0] at hr4
  refine W ?_
  refine Zp (i+1) ⟨rfl,rfl,rfl,rfl,trivial⟩ (.inr ⟨hlast,?_⟩) (by omega)
  by_cases he:(ZH opn ev ⟨r.L.getD i 0,0⟩ (J6 st' 1) (J6 st' 0)).2=0
  rw [if_pos he] at hr4
  rw [← hr4] at hl1 hl2
  obtain ⟨e1,e2⟩:=hok6 he
  rw [he] at hM6
  have hR0:R.2=0:=hl1.symm
  refine ⟨sv6,pv6,st6,by rw [hR0];exact hM6,fun _=>?_⟩
  rw [e1]
  exact hl2 hR0
  rw [if_neg he] at hr4
  rw [← hr4] at hl1 hl2
  have hR0:R.2=(ZH opn ev ⟨r.L.getD i 0,0⟩ (J6 st' 1) (J6 st' 0)).2:=hl1.symm
  refine ⟨sv6,pv6,st6,by rw [hR0];exact hM6,fun h0=>absurd h0 (by rw [hR0];exact he)⟩
  have hi0:i=0∧r.L.length=2:=by omega
  have hfst:(ZH opn ev ⟨r.L.getD i 0,0⟩ (J6 st' 1) (J6 st' 0)).2=0:=by
   rw [hi0.1]
   rcases hL12 with h|⟨-,h⟩
   omega
   exact Zci h
  rw [if_pos hfst] at hr4
  obtain ⟨e1,e2⟩:=hok6 hfst
  rw [hfst] at hM6
  have hvs4:=Z8P (opn:=opn) hevo hnf (by exact hop.1) (by exact hop.2.1) (by exact hop.2.2) hst4 hfst
  refine W ?_
  refine Zp (i+1) ⟨rfl,rfl,rfl,rfl,trivial⟩ (.inl ⟨by omega,sv6,pv6,st6,nx,hn2,hM6,?_,hn3,?_⟩) (by omega)
  rw [e1];exact hvs4
  rw [e1];exact hr4
  focus repeat'(first|refine W1 ?_|omega|refine VG ?_ ?_<;>intro hg|refine VC ?_ ?_<;>intro hc)
  refine WR ?_
  exact .mk ⟨rfl,hun2 _ _ hres⟩
theorem Zem (x:Nd):Z9 x≠0→Jg x:=by
 induction x using Nd.ind with
 | h k n s l ih=>
 intro ht
 have hkid:∀ y∈l,Z9 y≠0:=fun y hy=>Z1b (x:=.mk k n s l) ht hy
 rcases Z3z ht with ⟨rfl,hlf⟩|⟨rfl,a,b,c,rfl,ta,tb,tc⟩|⟨rfl,hs,a,b,rfl,ta,tb,ht2⟩|⟨r,hr,rfl,rfl,hts,htt⟩
 exact Zch hlf
 exact Zg7 (ih a (by simp) (hkid a (by simp))) (ih b (by simp) (hkid b (by simp))) (ih c (by simp) (hkid c (by simp))) ta (hkid b (by simp)) (hkid c (by simp))
 rcases hs with rfl|rfl
 exact Zek (ih a (by simp) (hkid a (by simp))) (ih b (by simp) (hkid b (by simp))) ta tb
 exact Zg8 (ih a (by simp) (hkid a (by simp))) (ih b (by simp) (hkid b (by simp))) ta tb
 exact Zam hr hts (fun y hy=>ih y hy (hkid y hy)) hkid
theorem Z2e (nv:Value) (x:Nd) (kn:Int) (ev:List Int) (c:Cal) (hv cv zo zs hr:Value) (w:World) (hx:NdV [] w nv x) (ht:Z9 x≠0) (hnest:Zn x≤16) (hcal:Z1D w c hv cv zo zs hr) (hev:Z1C ev) (ho:zo.oneCell'=true∧zs.oneCell'=true∧hr.oneCell'=true) :
 CC 20 #[nv,Z58 ev,Z1v c hv cv zo zs hr,.int .i64 kn] w fun r w'=>r=.tuple #[.int .i64 (if (Z4 (Zg c kn) ev x).2=0 then (Z4 (Zg c kn) ev x).1 else 0),.int .i64 (Z4 (Zg c kn) ev x).2]∧Stp [] w w':=by
 obtain ⟨kv,rfl,hsk⟩:=hx
 have hone:=hsk.one
 refine cW4 30 Tryz.func20 ?_
 refine W ?_
 refine Z3 (Zq rfl) rfl ?_
 rintro _ w1 ⟨b4,rfl,hb4,k4,hS⟩
 replace k4:Blk w1 b4 27 [.int .i64 x.kind,.int .i64 x.num,str x.word,kv]:=k4
 refine Z3 (Zq rfl) rfl ?_
 rintro _ w2 ⟨b5,rfl,hb5,k5,hS2⟩
 replace k5:Blk w2 b5 29 (evC ev):=k5
 replace k4:=k4.up hS2
 replace hS:=hS.trans hS2
 refine Z3 (Zq rfl) rfl ?_
 rintro _ w3 ⟨b6,rfl,hb6,k6,hS3⟩
 replace k6:Blk w3 b6 37 (J7 c hv cv zo zs hr):=k6
 replace k4:=k4.up hS3
 replace k5:=k5.up hS3
 replace hS:=hS.trans hS3
 clear hS2 hS3
 refine W ?_
 refine Zf (vs:=[(0,Z58 ev),(1,Z1v c hv cv zo zs hr),(2,.int .i64 kn),(7,.func (.func 57) #[] #[])]) rfl (ZfZ ev c hv cv zo zs hr kn) rfl ?_
 refine Z3 (Zq rfl) rfl ?_
 rintro _ w4 ⟨bm,rfl,hbm,km,hS4⟩
 replace km:Blk w4 bm 126 (evC ev++J7 c hv cv zo zs hr++([.int .i64 kn,.slice none 0 0,.int .i64 0,.int .i64 0,.bool false,.func (.func 57) #[] #[]]:List Value)):=km
 have hbmw:w.heap.size≤bm:=Xi hS.size hbm
 replace k4:=k4.up hS4
 replace hS:=hS.trans hS4
 clear k5 k6 hS4
 obtain ⟨K,e1,e2,hk,e4,e5,e6,e7,e8,e9,e10,e11,e12⟩:∃ K:MK,K.w0=w4∧K.bm=bm∧K.nk=none∧K.ev=ev∧K.c=c∧K.kn=kn∧K.hv=hv∧K.cv=cv∧K.zo=zo∧K.zs=zs∧K.hr=hr∧K.pr=[]:=⟨⟨w4,bm,none,ev,c,kn,hv,cv,zo,zs,hr,[]⟩,rfl,rfl,rfl,rfl,rfl,rfl,rfl,rfl,rfl,rfl,rfl,rfl⟩
 subst e1 e2 e4 e5 e6 e7 e8 e9 e10 e11
 have own_eq:K.own=[K.bm]:=by simp [MK.own,hk]
 have own_ge:∀ b∈K.own,w.heap.size≤b:=fun b hb=>by rw [own_eq] at hb;simp at hb;omega
 have hcw:=hcal.up hS
 have g1:1<w.heap.size:=by have:=block_lt_of_cell (hcal.len 0 0 rfl);simpa using this
 have g2:3<w.heap.size:=by have:=block_lt_of_cell (hcal.mov 0 0 rfl);simpa using this
 have hK:KOk K:=
  { hols := hcal.hols.ext hS (by simp) (fun b hb => .inr (own_ge b hb))
    clos:=hcal.clos.ext hS (by simp) (fun b hb=>.inr (own_ge b hb))
    ozo:=ho.1,ozs:=ho.2.1,ohr:=ho.2.2
    len:=hcw.len,mov:=hcw.mov
    bml:=km.lt
    nkl:=fun b hb=>by rw [hk] at hb;cases hb
    gl:=fun b hb=>by have:=own_ge b hb;omega
    cal:=hcal.ok
    ev:=hev }
 have hM:Mch K K.w0 (.slice none 0 0) (.slice none 0 0) [] [] 0 0 false:=
  { blk := by unfold Z0G; rw [hk]; exact km
    row:=Row.nil
    nt:=fun b hb=>by rw [hk] at hb;cases hb
    nt0:=fun _=>rfl
    ap:=by simp [ob]
    stp:=Stp.refl _ _
    prot:=fun p hp=>by rw [e12] at hp;cases hp }
 have hx0:SlV K.own K.w0 kv x.kids:=hsk.ext hS (by simp) (fun b hb=>.inr (own_ge b hb))
 refine W ?_
 refine CL rfl (Zb rfl rfl) rfl (Zem x ht K _ _ _ _ [] [] 0 hK hk ⟨kv,rfl,hx0⟩ ht hM Ji.nil (by simpa using hnest)) ?_
 rintro _ w5 ⟨rfl,hres⟩
 have fin:∀ w',Stp K.own K.w0 w'→Stp [] w w':=fun w' h=>hS.own h (fun b hb=>.inr (own_ge b hb))
 by_cases he:(Z4 (Zg K.c K.kn) K.ev x).2=0
 rw [if_pos he]
 obtain ⟨sv,pv,hM5⟩:=hres.go he
 have hblk:=hM5.blk
 unfold Z0G at hblk
 refine W ?_
 refine CL rfl (Zr rfl) rfl (Z0M hK hM5) ?_
 rintro _ w6 ⟨rfl,sv6,hM6⟩
 refine W ?_
 refine WR ?_
 exact .mk ⟨by rw [he],fin _ hM6.stp⟩
 rw [if_neg he]
 obtain ⟨sv,pv,st2,hM5⟩:=hres.stop he
 have hblk:=hM5.blk
 unfold Z0G at hblk
 focus repeat'(first|refine W1 ?_|omega|refine VG ?_ ?_<;>intro hg|refine VC ?_ ?_<;>intro hc)
 refine ZDr 6 [] [] [(0,0),(1,0),(2,0),(3,1),(4,0),(5,0)] (fun w1 hS1=>?_)
 replace hM5:=hM5.up hS1
 replace hblk:=hblk.up hS1
 refine D ?_
 refine W ?_
 refine WR ?_
 exact .mk ⟨rfl,fin _ hM5.stp⟩
def sr1:Str:=[100,97,121,32,43,32,51,32,100,97,121,115]
def sr2:Str:=[100,97,121,32,45,32,49,32,109,111,110,116,104,115]
def sr3:Str:=[105,102,32,116,114,117,101,32,116,104,101,110,32,100,97,121,32,101,108,115,101,32,115,101,114,118,101,100,32,101,110,100]
def sr4:Str:=[115,101,114,118,101,100]
def sr5:Str:=[50,49,52,55,52,56,51,54,52,55,32,43,32,49]
def xr1:Nd:=.mk 7 0 [100,97,121,115] [.mk 4 0 [100,97,121] [],.mk 1 3 [] []]
def xr2:Nd:=.mk 8 0 [109,111,110,116,104,115] [.mk 4 0 [100,97,121] [],.mk 1 1 [] []]
def xr3:Nd:=.mk 9 0 [] [.mk 2 1 [] [],.mk 4 0 [100,97,121] [],.mk 4 0 [115,101,114,118,101,100] []]
def xr4:Nd:=.mk 4 0 [115,101,114,118,101,100] []
def xr5:Nd:=.mk 6 0 [43] [.mk 1 2147483647 [] [],.mk 1 1 [] []]
theorem ZmN:Z0k sr1=.ok xr1:=by kernel_rfl
theorem ZmO:Z0k sr2=.ok xr2:=by kernel_rfl
theorem ZmP:Z0k sr3=.ok xr3:=by kernel_rfl
theorem ZmQ:Z0k sr4=.ok xr4:=by kernel_rfl
theorem ZmR:Z0k sr5=.ok xr5:=by kernel_rfl
def Z0e:Cal:=⟨[false,false,false,false,false,true,true],[],[]⟩
def ev0:List Int:=[739616,-1,0,0,0,0,0]
theorem ZjU:ZaU Z0e:=⟨rfl,by simp [Z0e],by decide⟩
theorem Zb7:Z1C ev0:=Z1x (by omega) (by omega) (by omega) (by omega) (by omega) (by omega) (by omega)
theorem ZmS:Z4 (Zg Z0e 0) ev0 xr1=(739619,0):=by
 simp only [xr1,Z4,Xl,Xs]
 kernel_rfl
theorem ZmT:Z4 (Zg Z0e 0) ev0 xr2=(739585,0):=by
 simp only [xr2,Z4,Xl,Xs]
 kernel_rfl
theorem ZmU:Z4 (Zg Z0e 0) ev0 xr3=(739616,0):=by
 simp only [xr3,Z4,Xl,Xs]
 kernel_rfl
theorem ZmV:(Z4 (Zg Z0e 0) ev0 xr4).2=32:=by
 simp only [xr4,Z4,Xl,Xs]
 kernel_rfl
theorem ZmW:(Z4 (Zg Z0e 0) ev0 xr5).2=5:=by
 simp only [xr5,Z4,Xl,Xs]
 kernel_rfl
theorem Zg9:Z9 xr1=3∧Zn xr1≤16:=by
 simp only [xr1,Z9,Zn,Xl,Xs]
 exact ⟨by kernel_rfl,of_decide_eq_true (by kernel_rfl)⟩
theorem Zga:Z9 xr2=3∧Zn xr2≤16:=by
 simp only [xr2,Z9,Zn,Xl,Xs]
 exact ⟨by kernel_rfl,of_decide_eq_true (by kernel_rfl)⟩
theorem Zgb:Z9 xr3=3∧Zn xr3≤16:=by
 simp only [xr3,Z9,Zn,Xl,Xs]
 exact ⟨by kernel_rfl,of_decide_eq_true (by kernel_rfl)⟩
theorem Zgc:Z9 xr4=3∧Zn xr4≤16:=by
 simp only [xr4,Z9,Zn,Xl,Xs]
 exact ⟨by kernel_rfl,of_decide_eq_true (by kernel_rfl)⟩
theorem Zgd:Z9 xr5=1∧Zn xr5≤16:=by
 simp only [xr5,Z9,Zn,Xl,Xs]
 exact ⟨by kernel_rfl,of_decide_eq_true (by kernel_rfl)⟩
def cd1:List Ins:=[⟨4,0⟩,⟨1,3⟩,⟨15,0⟩,⟨19,0⟩,⟨24,0⟩]
def cd2:List Ins:=[⟨4,0⟩,⟨1,2⟩,⟨18,0⟩,⟨24,0⟩]
theorem Zp4:Z57 cd1=(3,0):=by kernel_rfl
theorem ZmX:Z57 cd2=(3,0):=by kernel_rfl
theorem Zp5:J1 (Zg Z0e 0) ev0 cd1=(739620,[(739619,739620)],0):=by kernel_rfl
theorem ZmY:J1 (Zg Z0e 0) ev0 cd2=(739620,[(739617,739620)],0):=by kernel_rfl
open Go Go.Eng Go.RowKit Go.Proofs
abbrev Zgu:Value:=Z1v Z0e (.slice none 0 0) (.slice none 0 0) (.int .i64 0) (.slice none 0 0) (.int .i64 1000)
theorem Zge (w:World):(Instr.build 30 #[(5,.bool true),(6,.bool true)]).run Tryz.prog w=.ok (.agg #[.bool false,.bool false,.bool false,.bool false,.bool false,.bool true,.bool true]) w:=by kernel_rfl
theorem Zgf (w:World):(Instr.build 37 #[(0,.agg #[.bool false,.bool false,.bool false,.bool false,.bool false,.bool true,.bool true]),(4,.int .i64 1000)]).run Tryz.prog w=.ok Zgu w:=by kernel_rfl
theorem Zb8 (w:World):(Instr.build 29 #[(0,.int .i64 739616),(1,.int .i64 (-1))]).run Tryz.prog w=.ok (Z58 ev0) w:=by kernel_rfl
theorem Zb9 {w:World} (hL:JY w) (hM:Z1S w):Z1D w Z0e (.slice none 0 0) (.slice none 0 0) (.int .i64 0) (.slice none 0 0) (.int .i64 1000):=
 ⟨Row.slv (X:=[]) (Row.nil (base:=0) (T:=0)) (by simp),Row.slv (X:=[]) (Row.nil (base:=0) (T:=0)) (by simp),hL,hM,ZjU⟩
theorem Z2D (w:World):CC 48 #[] w fun r w'=>r=Zgu∧Stp [] w w':=by
 refine cW0 3 Tryz.func48 ?_
 refine W ?_
 refine Z3 Z6 rfl ?_
 rintro _ w1 ⟨b0,rfl,hb0,k0,hS⟩
 refine W ?_
 refine Zf (vs:=[(5,.bool true),(6,.bool true)]) rfl (Zge) rfl ?_
 refine Zf (vs:=[(0,.agg #[.bool false,.bool false,.bool false,.bool false,.bool false,.bool true,.bool true]),(4,.int .i64 1000)]) rfl (Zgf) rfl ?_
 refine Z1 (Z2 (us:=J7 Z0e (.slice none 0 0) (.slice none 0 0) (.int .i64 0) (.slice none 0 0) (.int .i64 1000)) rfl rfl rfl rfl (Z03 rfl rfl ⟨rfl,rfl,rfl⟩) k0 rfl) ?_
 rintro _ w2 ⟨hT,k0⟩
 refine W ?_
 refine Zk rfl rfl rfl k0 rfl ?_
 exact .mk ⟨rfl,hS.own hT (fun c hc=>.inr (by simp at hc;omega))⟩
theorem JN (s:Str) (x:Nd) (d e:Int) (er:Value) (m:Int) (w:World) (hp:Z0k s=.ok x) (ht:Z9 x≠0∧Zn x≤16) (hv:Z4 (Zg Z0e 0) ev0 x=(d,e)∨(d=0∧e≠0∧(Z4 (Zg Z0e 0) ev0 x).2=e)) (he:d=0∨e=0) (hL:JY w) (hM:Z1S w) (hm:w.cell? ⟨2,0,none⟩=some (.int .i64 m)) (hv4:w.cell? ⟨5,0,none⟩=some er) (hev:er=.nilIface∨∃ te pe,er=.iface te pe) (hl:s.length≤1000000) :
 CC 50 #[str s,.int .i64 d,.int .i64 e] w fun r w'=>r=.bool true∧Stp [] w w':=by
 have hd:(if (Z4 (Zg Z0e 0) ev0 x).2=0 then (Z4 (Zg Z0e 0) ev0 x).1 else 0)=d∧(Z4 (Zg Z0e 0) ev0 x).2=e:=by
  rcases hv with h|⟨h1,h2,h3⟩
  rw [h]
  dsimp only
  rcases he with h0|h0
  subst h0
  exact ⟨by split<;>rfl,rfl⟩
  rw [if_pos h0]
  exact ⟨rfl,rfl⟩
  rw [h3,if_neg h2]
  exact ⟨h1.symm,rfl⟩
 refine cW3 35 Tryz.func50 ?_
 refine W ?_
 refine CL rfl (Zr rfl) rfl (Zc1 [] s er m _ (by simp) hL hm hv4 hev hl) ?_
 rintro r w1 ⟨hr,hS⟩
 rw [hp] at hr
 obtain ⟨kv,rfl,hkv⟩:=hr
 refine W ?_
 refine Z3 Z6 rfl ?_
 rintro _ w2 ⟨b7,rfl,hb7,k7,hT⟩
 refine W ?_
 refine Z1 (Z2 (us:=ndC x kv) rfl rfl rfl rfl (Zh hkv) k7 rfl) ?_
 rintro _ w3 ⟨hT2,k7⟩
 have hT3:=hT.own hT2 (fun c hc=>.inr (by simp at hc;omega))
 replace hkv:=hkv.up hT3
 replace hS:=hS.trans hT3
 clear hT hT2 hT3
 repeat'(first|refine W1 ?_|omega|refine VG ?_ ?_<;>intro hg|refine VC ?_ ?_<;>intro hc)
 refine ZDr 9 [] [] [(0,1),(1,0),(2,2),(3,2),(4,0),(5,0),(6,0),(7,0),(8,0)] (fun w1 hS1=>?_)
 have hT:=hS1
 replace k7:=k7.up hT
 replace hkv:=hkv.up hT
 replace hS:=hS.trans hT
 clear hT hS1
 refine D ?_
 refine WD_free rfl trivial (fun w'=>Jq (vs:=[(0,.int .i64 739616),(1,.int .i64 (-1))]) rfl (Zb8)) rfl ?_
 refine D ?_
 refine WD_eff rfl trivial (Z5 rfl Z3f (Z2D _)) (fun _ _ h=>h.2) rfl ?_
 rintro _ w5 ⟨rfl,hT⟩
 replace k7:=k7.up hT
 replace hkv:=hkv.up hT
 replace hS:=hS.trans hT
 clear hT
 refine D ?_
 refine WD_eff rfl trivial (Z5 rfl (Z15 rfl rfl rfl rfl) (Z2e _ x 0 ev0 Z0e _ _ _ _ _ _ ⟨kv,rfl,hkv⟩ ht.1 ht.2 (Zb9 (hL.up hS) (hM.up hS)) Zb7 ⟨rfl,rfl,rfl⟩)) (fun _ _ h=>h.2) rfl ?_
 rintro _ w6 ⟨rfl,hT⟩
 replace hS:=hS.trans hT
 clear hT
 rw [hd.1,hd.2]
 refine D ?_
 refine W ?_
 simp only [decide_true]
 refine W ?_
 refine WR ?_
 exact .mk ⟨by simp,hS⟩
theorem Z2E (a:Int) (w:World):(Instr.build 51 #[(0,.int .i64 a)]).run Tryz.prog w=.ok (agg (⟨a,0⟩:Ins)) w:=by kernel_rfl
theorem Zba (a b:Int) (w:World):(Instr.build 51 #[(0,.int .i64 a),(1,.int .i64 b)]).run Tryz.prog w=.ok (agg (⟨a,b⟩:Ins)) w:=by kernel_rfl
theorem Zgg (w:World):(Instr.buildSlice 40 5 #[(0,agg (⟨4,0⟩:Ins)),(1,agg (⟨1,3⟩:Ins)),(2,agg (⟨15,0⟩:Ins)),(3,agg (⟨19,0⟩:Ins)),(4,agg (⟨24,0⟩:Ins))]).run Tryz.prog w=.ok (.slice (some ⟨w.heap.size,0,none⟩) 5 5) (w.alloc (.cells (cd1.flatMap Za.enc).toArray 51)):=by kernel_rfl
theorem Zbb (w:World):(Instr.buildSlice 40 4 #[(0,agg (⟨4,0⟩:Ins)),(1,agg (⟨1,2⟩:Ins)),(2,agg (⟨18,0⟩:Ins)),(3,agg (⟨24,0⟩:Ins))]).run Tryz.prog w=.ok (.slice (some ⟨w.heap.size,0,none⟩) 4 4) (w.alloc (.cells (cd2.flatMap Za.enc).toArray 51)):=by kernel_rfl
theorem Z4j (a b:Int) (w:World):(Instr.build 111 #[(0,.int .i64 a),(1,.int .i64 b)]).run Tryz.prog w=.ok (agg ((a,b):Spn)) w:=by kernel_rfl
theorem JA (er:Value) (m:Int) (w:World) (hL:JY w) (hM:Z1S w) (hm:w.cell? ⟨2,0,none⟩=some (.int .i64 m)) (hv4:w.cell? ⟨5,0,none⟩=some er) (hev:er=.nilIface∨∃ te pe,er=.iface te pe) :
 CC 14 #[] w fun r w'=>r=.bool true∧Stp [] w w':=by
 refine cW0 81 Tryz.func14 ?_
 refine W ?_
 refine Zf (vs:=[(0,.int .i64 739616),(1,.int .i64 (-1))]) rfl (Zb8) rfl ?_
 refine Z3 Z6 rfl ?_
 rintro _ w1 ⟨b1,rfl,hb1,k1,hS⟩
 refine W ?_
 refine Z1 (Z2 (us:=evC ev0) rfl rfl rfl rfl (JQ _) k1 rfl) ?_
 rintro _ w2 ⟨hT,k1⟩
 replace hS:=hS.own hT (fun c hc=>.inr (by simp at hc;omega))
 clear hT
 refine W ?_
 refine Zf (vs:=[(0,.int .i64 4)]) rfl (Z2E _) rfl ?_
 refine Zf (vs:=[(0,.int .i64 1),(1,.int .i64 3)]) rfl (Zba _ _) rfl ?_
 refine Zf (vs:=[(0,.int .i64 15)]) rfl (Z2E _) rfl ?_
 refine Zf (vs:=[(0,.int .i64 19)]) rfl (Z2E _) rfl ?_
 refine Zf (vs:=[(0,.int .i64 24)]) rfl (Z2E _) rfl ?_
 refine Z3 (Z0 (vs:=[(0,agg (⟨4,0⟩:Ins)),(1,agg (⟨1,3⟩:Ins)),(2,agg (⟨15,0⟩:Ins)),(3,agg (⟨19,0⟩:Ins)),(4,agg (⟨24,0⟩:Ins))]) rfl (Zgg)) rfl ?_
 rintro cv1 w3 hN
 have hc1:SlV [] w3 cv1 cd1:=hN.slv (by simp) rfl rfl (by simp [maxLen,cd1])
 have hT:=Z7.stp hN
 clear hN
 replace k1:=k1.up hT
 replace hS:=hS.trans hT
 clear hT
 refine W ?_
 refine ZDr 11 [] [] [(0,0),(1,1),(2,2),(3,2),(4,0),(5,0),(6,0),(7,0),(8,0),(9,0),(10,0)] (fun w1 hS1=>?_)
 have hT:=hS1
 replace k1:=k1.up hT
 replace hc1:=hc1.up hT
 replace hS:=hS.trans hT
 clear hT hS1
 refine D ?_
 refine WD_eff rfl trivial (Z5 rfl Z3f (Z2D _)) (fun _ _ h=>h.2) rfl ?_
 rintro _ w5 ⟨rfl,hT⟩
 replace k1:=k1.up hT
 replace hc1:=hc1.up hT
 replace hS:=hS.trans hT
 clear hT
 refine D ?_
 refine WD_eff rfl trivial (Z5 rfl (Z15 rfl rfl rfl rfl) (Z1w cv1 cd1 3 0 ev0 Z0e _ _ _ _ _ _ hc1 Zp4 (Zb9 (hL.up hS) (hM.up hS)) Zb7 ⟨rfl,rfl,rfl⟩)) (fun _ _ h=>h.choose_spec.2.2) rfl ?_
 rintro _ w6 ⟨pv1,rfl,hp1⟩
 rw [Zp5] at hp1 ⊢
 dsimp only at hp1 ⊢
 have hsp1:=hp1.slv (X:=[]) (by simp)
 replace k1:=k1.up hp1.2
 replace hS:=hS.trans hp1.2
 clear hp1 hc1
 refine D ?_
 refine W ?_
 refine ZDr 15 [] [] [(0,0),(1,0),(2,0),(3,0),(5,1),(4,9),(6,2),(7,2),(8,0),(9,0),(10,0),(11,0),(12,0),(13,0),(14,0)] (fun w1 hS1=>?_)
 have hT:=hS1
 replace k1:=k1.up hT
 replace hsp1:=hsp1.up hT
 replace hS:=hS.trans hT
 clear hT hS1
 refine WD_free rfl trivial (fun w'=>Jq (vs:=[(0,.int .i64 4)]) rfl (Z2E _)) rfl ?_
 refine WD_free rfl trivial (fun w'=>Jq (vs:=[(0,.int .i64 1),(1,.int .i64 2)]) rfl (Zba _ _)) rfl ?_
 refine WD_free rfl trivial (fun w'=>Jq (vs:=[(0,.int .i64 18)]) rfl (Z2E _)) rfl ?_
 refine WD_free rfl trivial (fun w'=>Jq (vs:=[(0,.int .i64 24)]) rfl (Z2E _)) rfl ?_
 refine D ?_
 apply WD_two rfl
 refine WD1_eff rfl trivial (Z0 (vs:=[(0,agg (⟨4,0⟩:Ins)),(1,agg (⟨1,2⟩:Ins)),(2,agg (⟨18,0⟩:Ins)),(3,agg (⟨24,0⟩:Ins))]) rfl (Zbb)) (fun _ _ h=>(Z7.stp h).mono (by simp)) rfl ?_
 rintro cv2 w8 hN
 have hc2:SlV [] w8 cv2 cd2:=hN.slv (by simp) rfl rfl (by simp [maxLen,cd2])
 have hT:=Z7.stp hN
 clear hN
 replace k1:=k1.up hT
 replace hsp1:=hsp1.up hT
 replace hS:=hS.trans hT
 clear hT
 refine WD_eff rfl trivial (Z5 rfl Z3f (Z2D _)) (fun _ _ h=>h.2) rfl ?_
 rintro _ w9 ⟨rfl,hT⟩
 replace k1:=k1.up hT
 replace hsp1:=hsp1.up hT
 replace hc2:=hc2.up hT
 replace hS:=hS.trans hT
 clear hT
 refine D ?_
 refine WD_eff rfl trivial (Z5 rfl (Z15 rfl rfl rfl rfl) (Z1w cv2 cd2 3 0 ev0 Z0e _ _ _ _ _ _ hc2 ZmX (Zb9 (hL.up hS) (hM.up hS)) Zb7 ⟨rfl,rfl,rfl⟩)) (fun _ _ h=>h.choose_spec.2.2) rfl ?_
 rintro _ w10 ⟨pv2,rfl,hp2⟩
 rw [ZmY] at hp2 ⊢
 dsimp only at hp2 ⊢
 have hsp2:=hp2.slv (X:=[]) (by simp)
 replace hsp1:=hsp1.up hp2.2
 replace hS:=hS.trans hp2.2
 clear hp2 hc2 k1
 refine D ?_
 refine W ?_
 simp only [eq_self,decide_true]
 refine Zf (vs:=[(0,.int .i64 739619),(1,.int .i64 739620)]) rfl (Z4j _ _) rfl ?_
 refine Z3H rfl ?_
 refine Z3 (Z0 (vs:=[(0,agg ((739619,739620):Spn))]) rfl (Z35 _)) rfl ?_
 rintro bw w11 hN
 have hbw:SlV [] w11 bw [((739619,739620):Spn)]:=hN.slv (by simp) rfl rfl (by simp [maxLen])
 have hT:=Z7.stp hN
 clear hN
 replace hsp1:=hsp1.up hT
 replace hsp2:=hsp2.up hT
 replace hS:=hS.trans hT
 clear hT
 refine Z3H rfl ?_
 refine CL rfl (Zb rfl rfl) rfl (Z0d _ bw _ _ _ hsp1 hbw) ?_
 rintro _ w12 ⟨rfl,hT⟩
 replace hsp2:=hsp2.up hT
 replace hS:=hS.trans hT
 clear hT
 simp only [eq_self,decide_true]
 refine W ?_
 simp only [eq_self,decide_true]
 refine Zf (vs:=[(0,.int .i64 739617),(1,.int .i64 739620)]) rfl (Z4j _ _) rfl ?_
 refine Z3H rfl ?_
 refine Z3 (Z0 (vs:=[(0,agg ((739617,739620):Spn))]) rfl (Z35 _)) rfl ?_
 rintro bw w11 hN
 have hbw:SlV [] w11 bw [((739617,739620):Spn)]:=hN.slv (by simp) rfl rfl (by simp [maxLen])
 have hT:=Z7.stp hN
 clear hN
 replace hsp2:=hsp2.up hT
 replace hS:=hS.trans hT
 clear hT
 refine Z3H rfl ?_
 refine CL rfl (Zb rfl rfl) rfl (Z0d _ bw _ _ _ hsp2 hbw) ?_
 rintro _ w12 ⟨rfl,hT⟩
 replace hsp2:=hsp2.up hT
 replace hS:=hS.trans hT
 clear hT
 simp only [eq_self,decide_true]
 refine W ?_
 refine CL rfl (Zu rfl rfl rfl) rfl (JN sr1 xr1 739619 0 er m _ ZmN ⟨by rw [Zg9.1];decide,Zg9.2⟩ (.inl ZmS) (by decide) (hL.up hS) (hM.up hS) (hS.cell (by simp) hm) (hS.cell (by simp) hv4) hev (by decide)) ?_
 rintro _ wg ⟨rfl,hT⟩
 replace hS:=hS.trans hT
 clear hT
 refine W ?_
 refine CL rfl (Zu rfl rfl rfl) rfl (JN sr2 xr2 739585 0 er m _ ZmO ⟨by rw [Zga.1];decide,Zga.2⟩ (.inl ZmT) (by decide) (hL.up hS) (hM.up hS) (hS.cell (by simp) hm) (hS.cell (by simp) hv4) hev (by decide)) ?_
 rintro _ wg ⟨rfl,hT⟩
 replace hS:=hS.trans hT
 clear hT
 refine W ?_
 refine CL rfl (Zu rfl rfl rfl) rfl (JN sr3 xr3 739616 0 er m _ ZmP ⟨by rw [Zgb.1];decide,Zgb.2⟩ (.inl ZmU) (by decide) (hL.up hS) (hM.up hS) (hS.cell (by simp) hm) (hS.cell (by simp) hv4) hev (by decide)) ?_
 rintro _ wg ⟨rfl,hT⟩
 replace hS:=hS.trans hT
 clear hT
 refine W ?_
 refine CL rfl (Zu rfl rfl rfl) rfl (JN sr4 xr4 0 32 er m _ ZmQ ⟨by rw [Zgc.1];decide,Zgc.2⟩ (.inr ⟨rfl,by decide,ZmV⟩) (by decide) (hL.up hS) (hM.up hS) (hS.cell (by simp) hm) (hS.cell (by simp) hv4) hev (by decide)) ?_
 rintro _ wg ⟨rfl,hT⟩
 replace hS:=hS.trans hT
 clear hT
 refine W ?_
 refine CL rfl (Zu rfl rfl rfl) rfl (JN sr5 xr5 0 5 er m _ ZmR ⟨by rw [Zgd.1];decide,Zgd.2⟩ (.inr ⟨rfl,by decide,ZmW⟩) (by decide) (hL.up hS) (hM.up hS) (hS.cell (by simp) hm) (hS.cell (by simp) hv4) hev (by decide)) ?_
 rintro _ wg ⟨rfl,hT⟩
 replace hS:=hS.trans hT
 clear hT
 refine W ?_
 refine WR ?_
 exact .mk ⟨by simp,hS⟩
 refine WD1_eff rfl trivial (Z5 rfl Z3f (Z2D _)) (fun _ _ h=>h.2) rfl ?_
 rintro _ w9 ⟨rfl,hT⟩
 replace k1:=k1.up hT
 replace hsp1:=hsp1.up hT
 replace hS:=hS.trans hT
 clear hT
 refine WD_eff rfl trivial (Z0 (vs:=[(0,agg (⟨4,0⟩:Ins)),(1,agg (⟨1,2⟩:Ins)),(2,agg (⟨18,0⟩:Ins)),(3,agg (⟨24,0⟩:Ins))]) rfl (Zbb)) (fun _ _ h=>(Z7.stp h).mono (by simp)) rfl ?_
 rintro cv2 w8 hN
 have hc2:SlV [] w8 cv2 cd2:=hN.slv (by simp) rfl rfl (by simp [maxLen,cd2])
 have hT:=Z7.stp hN
 clear hN
 replace k1:=k1.up hT
 replace hsp1:=hsp1.up hT
 replace hS:=hS.trans hT
 clear hT
 refine D ?_
 refine WD_eff rfl trivial (Z5 rfl (Z15 rfl rfl rfl rfl) (Z1w cv2 cd2 3 0 ev0 Z0e _ _ _ _ _ _ hc2 ZmX (Zb9 (hL.up hS) (hM.up hS)) Zb7 ⟨rfl,rfl,rfl⟩)) (fun _ _ h=>h.choose_spec.2.2) rfl ?_
 rintro _ w10 ⟨pv2,rfl,hp2⟩
 rw [ZmY] at hp2 ⊢
 dsimp only at hp2 ⊢
 have hsp2:=hp2.slv (X:=[]) (by simp)
 replace hsp1:=hsp1.up hp2.2
 replace hS:=hS.trans hp2.2
 clear hp2 hc2 k1
 refine D ?_
 refine W ?_
 simp only [eq_self,decide_true]
 refine Zf (vs:=[(0,.int .i64 739619),(1,.int .i64 739620)]) rfl (Z4j _ _) rfl ?_
 refine Z3H rfl ?_
 refine Z3 (Z0 (vs:=[(0,agg ((739619,739620):Spn))]) rfl (Z35 _)) rfl ?_
 rintro bw w11 hN
 have hbw:SlV [] w11 bw [((739619,739620):Spn)]:=hN.slv (by simp) rfl rfl (by simp [maxLen])
 have hT:=Z7.stp hN
 clear hN
 replace hsp1:=hsp1.up hT
 replace hsp2:=hsp2.up hT
 replace hS:=hS.trans hT
 clear hT
 refine Z3H rfl ?_
 refine CL rfl (Zb rfl rfl) rfl (Z0d _ bw _ _ _ hsp1 hbw) ?_
 rintro _ w12 ⟨rfl,hT⟩
 replace hsp2:=hsp2.up hT
 replace hS:=hS.trans hT
 clear hT
 simp only [eq_self,decide_true]
 refine W ?_
 simp only [eq_self,decide_true]
 refine Zf (vs:=[(0,.int .i64 739617),(1,.int .i64 739620)]) rfl (Z4j _ _) rfl ?_
 refine Z3H rfl ?_
 refine Z3 (Z0 (vs:=[(0,agg ((739617,739620):Spn))]) rfl (Z35 _)) rfl ?_
 rintro bw w11 hN
 have hbw:SlV [] w11 bw [((739617,739620):Spn)]:=hN.slv (by simp) rfl rfl (by simp [maxLen])
 have hT:=Z7.stp hN
 clear hN
 replace hsp2:=hsp2.up hT
 replace hS:=hS.trans hT
 clear hT
 refine Z3H rfl ?_
 refine CL rfl (Zb rfl rfl) rfl (Z0d _ bw _ _ _ hsp2 hbw) ?_
 rintro _ w12 ⟨rfl,hT⟩
 replace hsp2:=hsp2.up hT
 replace hS:=hS.trans hT
 clear hT
 simp only [eq_self,decide_true]
 refine W ?_
 refine CL rfl (Zu rfl rfl rfl) rfl (JN sr1 xr1 739619 0 er m _ ZmN ⟨by rw [Zg9.1];decide,Zg9.2⟩ (.inl ZmS) (by decide) (hL.up hS) (hM.up hS) (hS.cell (by simp) hm) (hS.cell (by simp) hv4) hev (by decide)) ?_
 rintro _ wg ⟨rfl,hT⟩
 replace hS:=hS.trans hT
 clear hT
 refine W ?_
 refine CL rfl (Zu rfl rfl rfl) rfl (JN sr2 xr2 739585 0 er m _ ZmO ⟨by rw [Zga.1];decide,Zga.2⟩ (.inl ZmT) (by decide) (hL.up hS) (hM.up hS) (hS.cell (by simp) hm) (hS.cell (by simp) hv4) hev (by decide)) ?_
 rintro _ wg ⟨rfl,hT⟩
 replace hS:=hS.trans hT
 clear hT
 refine W ?_
 refine CL rfl (Zu rfl rfl rfl) rfl (JN sr3 xr3 739616 0 er m _ ZmP ⟨by rw [Zgb.1];decide,Zgb.2⟩ (.inl ZmU) (by decide) (hL.up hS) (hM.up hS) (hS.cell (by simp) hm) (hS.cell (by simp) hv4) hev (by decide)) ?_
 rintro _ wg ⟨rfl,hT⟩
 replace hS:=hS.trans hT
 clear hT
 refine W ?_
 refine CL rfl (Zu rfl rfl rfl) rfl (JN sr4 xr4 0 32 er m _ ZmQ ⟨by rw [Zgc.1];decide,Zgc.2⟩ (.inr ⟨rfl,by decide,ZmV⟩) (by decide) (hL.up hS) (hM.up hS) (hS.cell (by simp) hm) (hS.cell (by simp) hv4) hev (by decide)) ?_
 rintro _ wg ⟨rfl,hT⟩
 replace hS:=hS.trans hT
 clear hT
 refine W ?_
 refine CL rfl (Zu rfl rfl rfl) rfl (JN sr5 xr5 0 5 er m _ ZmR ⟨by rw [Zgd.1];decide,Zgd.2⟩ (.inr ⟨rfl,by decide,ZmW⟩) (by decide) (hL.up hS) (hM.up hS) (hS.cell (by simp) hm) (hS.cell (by simp) hv4) hev (by decide)) ?_
 rintro _ wg ⟨rfl,hT⟩
 replace hS:=hS.trans hT
 clear hT
 refine W ?_
 refine WR ?_
 exact .mk ⟨by simp,hS⟩
theorem ZjV {n:Nat} {e:Env} {x1 x2 x3 x4 x5 x6 x7:Operand} {v1 v2 v3 v4 v5 v6 v7:Value} (h1:ev e x1=some v1) (h2:ev e x2=some v2) (h3:ev e x3=some v3) (h4:ev e x4=some v4) (h5:ev e x5=some v5) (h6:ev e x6=some v6) (h7:ev e x7=some v7):∀ a,Has n e a→#[x1,x2,x3,x4,x5,x6,x7].map a.eval=#[v1,v2,v3,v4,v5,v6,v7]:=
 fun a ha=>by simp [ha.ev h1,ha.ev h2,ha.ev h3,ha.ev h4,ha.ev h5,ha.ev h6,ha.ev h7]
theorem Gn.ne {t:Int} {d:Nat} {x:Nd} (h:Gn t d x):t≠0:=by
 induction h with
 | cond d t c a b h _ _ _ _ _ _=>omega
 | _=>decide
theorem Zcj {x:Nd} (h:Z3h x=0):Zn x≤12∧Z9 x≠0∧(J4 x).length≤200:=by
 unfold Z3h at h
 split at h
 rename_i h1
 split at h
 simp at h
 rename_i h2
 split at h
 simp at h
 exact ⟨h1,h2,by omega⟩
 simp at h
theorem Z68 {x:Nd} (h:Z3h x=0):Z57 (J4 x)=(Z9 x,0):=by
 obtain ⟨h1,h2,h3⟩:=Zcj h
 exact ZbD x h2 h1 h3
theorem Z69 (opn:Int→Bool) (ev:List Int) (hev:Z1C ev) (x:Nd) (ht:Z9 x≠0):(J1 opn ev (J4 x)).1=(if (Z4 opn ev x).2=0 then (Z4 opn ev x).1 else 0)∧(J1 opn ev (J4 x)).2.2=(Z4 opn ev x).2:=by
 obtain ⟨a,b⟩:=Z8T opn ev hev x ht
 by_cases he:(Z4 opn ev x).2=0
 obtain ⟨sp,e⟩:=a he
 rw [e,if_pos he]
 exact ⟨rfl,he.symm⟩
 rw [b he,if_neg he]
 exact ⟨rfl,rfl⟩
theorem Z6a (v sv:Value) (code:List Ins) (t kn r e:Int) (sp:List Spn) (ev:List Int) (c:Cal) (hv cv zo zs hr:Value) (w:World) (hs:SlV [] w v code) (hver:Z57 code=(t,0)) (hcal:Z1D w c hv cv zo zs hr) (hev:Z1C ev) (ho:zo.oneCell'=true∧zs.oneCell'=true∧hr.oneCell'=true)
 (hsp:SlV [] w sv sp) (hrun:J1 (Zg c kn) ev code=(r,sp,e)) :
 CC 16 #[v,Z58 ev,Z1v c hv cv zo zs hr,.int .i64 kn,.int .i64 r,sv,.int .i64 e] w fun q w'=>q=.bool true∧Stp [] w w':=by
 refine cW7 40 Tryz.func16 ?_
 refine W ?_
 refine Z3 (Zq rfl) rfl ?_
 rintro _ w1 ⟨b8,rfl,hb8,k8,hS⟩
 replace k8:Blk w1 b8 29 (evC ev):=k8
 refine Z3 (Zq rfl) rfl ?_
 rintro _ w2 ⟨b9,rfl,hb9,k9,hT⟩
 replace k9:Blk w2 b9 37 (J7 c hv cv zo zs hr):=k9
 replace k8:=k8.up hT
 replace hS:=hS.trans hT
 clear hT
 refine W ?_
 refine CL rfl (Z15 rfl rfl rfl rfl) rfl (Z1w v code t kn ev c hv cv zo zs hr _ (hs.up hS) hver (hcal.up hS) hev ho) ?_
 rintro _ w3 ⟨pv,rfl,hp⟩
 rw [hrun] at hp ⊢
 dsimp only at hp ⊢
 have hps:=hp.slv (X:=[]) (by simp)
 replace hS:=hS.trans hp.2
 refine W ?_
 simp only [eq_self,decide_true]
 refine W ?_
 simp only [eq_self,decide_true]
 refine W ?_
 refine CL rfl (Zb rfl rfl) rfl (Z0d pv sv _ _ _ hps (hsp.up hS)) ?_
 rintro _ w4 ⟨rfl,hT⟩
 refine W ?_
 refine WR ?_
 exact .mk ⟨by simp,hS.trans hT⟩
def Z1U (o o':Int→Bool) (s:Spn):Prop:=∀ d,s.1≤d→d≤s.2→o d=o' d
theorem Z9n (o:Int→Bool):∀ (k:Nat) (d r:Int),JZ o 1 k d=(r,0)→d≤r∧r<d+k∧o r=true∧(∀ x,d≤x→x<r→o x=false)∧∀ o':Int→Bool,Z1U o o' (d,r)→JZ o' 1 k d=(r,0)
 | 0,d,r,h=>by simp [JZ] at h
 | k + 1, d, r, h => by
   unfold JZ at h
   split at h
   rename_i hd
   split at h
   rename_i ho
   obtain ⟨rfl,-⟩:=Yah h
   refine ⟨XN _,by omega,ho,fun x h1 h2=>by omega,fun o' ha=>?_⟩
   have e:=ha d (XN _) (XN _)
   unfold JZ
   rw [if_pos hd,← e,if_pos ho]
   rename_i ho
   obtain ⟨h1,h2,h3,h4,h5⟩:=Z9n o k (d+1) r h
   refine ⟨by omega,by omega,h3,fun x hx1 hx2=>?_,fun o' ha=>?_⟩
   by_cases hx:x=d
   subst hx;simpa using ho
   exact h4 x (by omega) hx2
   have e:=ha d (XN _) (by show d≤r;omega)
   unfold JZ
   rw [if_pos hd,← e,if_neg ho]
   exact h5 o' (fun x hx1 hx2=>ha x (by show d≤x;dsimp only at hx1;omega) hx2)
   simp at h
theorem Z9o (o:Int→Bool):∀ (k:Nat) (d r:Int),JZ o (-1) k d=(r,0)→r≤d∧d<r+k∧o r=true∧(∀ x,x≤d→r<x→o x=false)∧∀ o':Int→Bool,Z1U o o' (r,d)→JZ o' (-1) k d=(r,0)
 | 0,d,r,h=>by simp [JZ] at h
 | k + 1, d, r, h => by
   unfold JZ at h
   split at h
   rename_i hd
   split at h
   rename_i ho
   obtain ⟨rfl,-⟩:=Yah h
   refine ⟨XN _,by omega,ho,fun x h1 h2=>by omega,fun o' ha=>?_⟩
   have e:=ha d (XN _) (XN _)
   unfold JZ
   rw [if_pos hd,← e,if_pos ho]
   rename_i ho
   obtain ⟨h1,h2,h3,h4,h5⟩:=Z9o o k (d+-1) r h
   refine ⟨by omega,by omega,h3,fun x hx1 hx2=>?_,fun o' ha=>?_⟩
   by_cases hx:x=d
   subst hx;simpa using ho
   exact h4 x (by omega) hx2
   have e:=ha d (by show r≤d;omega) (XN _)
   unfold JZ
   rw [if_pos hd,← e,if_neg ho]
   exact h5 o' (fun x hx1 hx2=>ha x hx1 (by show x≤d;dsimp only at hx2;omega))
   simp at h
theorem Z6b {o:Int→Bool} {d r:Int} (h:ZF o 1 d=(r,0)):d≤r∧r<d+1001∧o r=true∧(∀ x,d≤x→x<r→o x=false)∧∀ o':Int→Bool,Z1U o o' (d,r)→ZF o' 1 d=(r,0):=by
 unfold ZF at h
 split at h
 rename_i hd
 obtain ⟨h1,h2,h3,h4,h5⟩:=Z9n o 1001 d r h
 refine ⟨h1,by omega,h3,h4,fun o' ha=>?_⟩
 unfold ZF
 rw [if_pos hd]
 exact h5 o' ha
 simp at h
theorem Z6c {o:Int→Bool} {d r:Int} (h:ZF o (-1) d=(r,0)):r≤d∧d<r+1001∧o r=true∧(∀ x,x≤d→r<x→o x=false)∧∀ o':Int→Bool,Z1U o o' (r,d)→ZF o' (-1) d=(r,0):=by
 unfold ZF at h
 split at h
 rename_i hd
 obtain ⟨h1,h2,h3,h4,h5⟩:=Z9o o 1001 d r h
 refine ⟨h1,by omega,h3,h4,fun o' ha=>?_⟩
 unfold ZF
 rw [if_pos hd]
 exact h5 o' ha
 simp at h
def JF (p:Int→Bool) (a:Int):Nat→Nat
 | 0=>0
 | n+1=>(if p a=true then 1 else 0)+JF p (a+1) n
theorem Z1y (p:Int→Bool):∀ (n m:Nat) (a:Int),JF p a (n+m)=JF p a n+JF p (a+n) m
 | 0,m,a=>by simp [JF]
 | n + 1, m, a => by
   rw [show n+1+m=(n+m)+1 by omega]
   rw [JF,JF,Z1y p n m (a+1),show a+1+(n:Int)=a+((n+1:Nat):Int) by omega]
   omega
theorem Z2f (p:Int→Bool):∀ (n:Nat) (a:Int),(∀ x,a≤x→x<a+n→p x=false)→JF p a n=0
 | 0,a,h=>rfl
 | n + 1, a, h => by
   unfold JF
   rw [if_neg (by rw [h a (XN _) (by omega)];decide),Z2f p n (a+1) (fun x h1 h2=>h x (by omega) (by omega))]
theorem Z7X (o:Int→Bool):∀ (k:Nat) (a r:Int),Z1B o 1 k a=(r,0)→a≤r∧JF o (a+1) (r - a).toNat=k∧(0<k→a<r)∧∀ o':Int→Bool,Z1U o o' (a+1,r)→Z1B o' 1 k a=(r,0)
 | 0, a, r, h => by
   obtain ⟨rfl,-⟩:=Yah h
   exact ⟨XN _,by simp [JF],fun h=>absurd h (Nat.lt_irrefl _),fun o' _=>rfl⟩
 | k + 1, a, r, h => by
   unfold Z1B at h
   split at h
   rename_i h0
   have hm:ZF o 1 (a+1)=((ZF o 1 (a+1)).1,0):=Prod.ext rfl h0
   obtain ⟨f1,f2,f3,f4,f5⟩:=Z6b hm
   generalize (ZF o 1 (a+1)).1=x at *
   obtain ⟨g1,g2,-,g4⟩:=Z7X o k x r h
   refine ⟨by omega,?_,fun _=>by omega,fun o' ha=>?_⟩
   have e:(r - a).toNat=(x - (a+1)).toNat+(1+(r - x).toNat):=by omega
   rw [e,Z1y,Z2f o _ _ (fun y h1 h2=>f4 y h1 (by omega)),Z1y]
   have e2:a+1+((x - (a+1)).toNat:Int)=x:=by omega
   rw [e2]
   have e3:JF o x 1=1:=by simp [JF,f3]
   rw [e3,show x+((1:Nat):Int)=x+1 by omega,g2]
   omega
   unfold Z1B
   have e:=f5 o' (fun y h1 h2=>ha y h1 (by dsimp only at h2 ⊢;omega))
   rw [e]
   dsimp only
   rw [if_pos rfl]
   exact g4 o' (fun y h1 h2=>ha y (by dsimp only at h1 ⊢;omega) h2)
   simp at h
theorem Z7Y (o:Int→Bool):∀ (k:Nat) (a r:Int),Z1B o (-1) k a=(r,0)→r≤a∧JF o r (a - r).toNat=k∧(0<k→r<a)∧∀ o':Int→Bool,Z1U o o' (r,a - 1)→Z1B o' (-1) k a=(r,0)
 | 0, a, r, h => by
   obtain ⟨rfl,-⟩:=Yah h
   exact ⟨XN _,by simp [JF],fun h=>absurd h (Nat.lt_irrefl _),fun o' _=>rfl⟩
 | k + 1, a, r, h => by
   unfold Z1B at h
   split at h
   rename_i h0
   have hm:ZF o (-1) (a+-1)=((ZF o (-1) (a+-1)).1,0):=Prod.ext rfl h0
   obtain ⟨f1,f2,f3,f4,f5⟩:=Z6c hm
   generalize (ZF o (-1) (a+-1)).1=x at *
   obtain ⟨g1,g2,-,g4⟩:=Z7Y o k x r h
   refine ⟨by omega,?_,fun _=>by omega,fun o' ha=>?_⟩
   have e:(a - r).toNat=(x - r).toNat+(1+(a - 1 - x).toNat):=by omega
   rw [e,Z1y,Z1y,g2]
   have e2:r+((x - r).toNat:Int)=x:=by omega
   rw [e2]
   have e3:JF o x 1=1:=by simp [JF,f3]
   rw [e3,show x+((1:Nat):Int)=x+1 by omega,Z2f o _ _ (fun y h1 h2=>f4 y (by omega) (by omega))]
   unfold Z1B
   have e:=f5 o' (fun y h1 h2=>ha y (by dsimp only at h1 ⊢;omega) (by dsimp only at h2 ⊢;omega))
   rw [e]
   dsimp only
   rw [if_pos rfl]
   exact g4 o' (fun y h1 h2=>ha y h1 (by dsimp only at h2 ⊢;omega))
   simp at h
theorem Z3G {o:Int→Bool} {a n r:Int} (h:Z0V o a n=(r,0)):ZD a=true∧-1000≤n∧n≤1000∧Z1B o (if n<0 then -1 else 1) n.natAbs a=(r,0):=by
 unfold Z0V at h
 split at h
 rename_i h1
 split at h
 simp at h
 rename_i h2
 exact ⟨h1,by omega,by omega,h⟩
 simp at h
theorem Zan {o o':Int→Bool} {a n r:Int} (h:Z0V o a n=(r,0)) (ha:∀ s∈ZT 18 a n r,Z1U o o' s):Z0V o' a n=(r,0):=by
 obtain ⟨h1,h2,h3,h4⟩:=Z3G h
 unfold Z0V
 rw [if_pos h1,if_neg (by omega)]
 by_cases hn:n<0
 rw [if_pos hn] at h4 ⊢
 obtain ⟨_,_,_,g4⟩:=Z7Y o _ _ _ h4
 refine g4 o' (ha _ ?_)
 unfold ZT
 rw [if_neg (by decide),if_neg (by decide),if_pos rfl,if_neg (by omega),if_pos hn]
 simp
 rw [if_neg hn] at h4 ⊢
 obtain ⟨_,_,_,g4⟩:=Z7X o _ _ _ h4
 by_cases h0:n=0
 subst h0
 exact h4
 refine g4 o' (ha _ ?_)
 unfold ZT
 rw [if_neg (by decide),if_neg (by decide),if_pos rfl,if_pos (by omega)]
 simp
theorem Zao {o o':Int→Bool} {ev:List Int} {x:Ins} {a b:Int} (h:(ZH o ev x a b).2=0) (ha:∀ s∈ZT x.op a b (ZH o ev x a b).1,Z1U o o' s):ZH o' ev x a b=ZH o ev x a b:=by
 unfold ZH at h ha ⊢
 split
 rfl
 rename_i h4
 rw [if_neg h4] at h ha
 split
 rfl
 rename_i h0
 rw [if_neg h0] at h ha
 split
 rename_i h1
 rw [if_pos h1] at h ha
 unfold Z1Q at h ha ⊢
 split
 rfl
 rename_i h8
 rw [if_neg h8] at h ha
 split
 rename_i h19
 rw [if_pos h19] at h ha
 have hm:ZF o 1 b=((ZF o 1 b).1,0):=Prod.ext rfl h
 obtain ⟨_,_,_,_,f5⟩:=Z6b hm
 rw [f5 o' (ha _ (by unfold ZT;rw [if_pos h19];simp)),← hm]
 rename_i h19
 rw [if_neg h19] at h ha
 split
 rename_i h20
 rw [if_pos h20] at h ha
 have hm:ZF o (-1) b=((ZF o (-1) b).1,0):=Prod.ext rfl h
 obtain ⟨_,_,_,_,f5⟩:=Z6c hm
 rw [f5 o' (ha _ (by unfold ZT;rw [if_neg h19,if_pos h20];simp)),← hm]
 rfl
 rename_i h1
 rw [if_neg h1] at h ha
 by_cases h18:x.op=18
 have e:∀ q:Int→Bool,ZY q x.op a b=Z0V q a b:=fun q=>by unfold ZY;rw [h18];rfl
 rw [e,e]
 rw [e] at h ha
 rw [h18] at ha
 have hm:Z0V o a b=((Z0V o a b).1,0):=Prod.ext rfl h
 rw [Zan hm ha,← hm]
 unfold ZY
 simp only [if_neg h18]
theorem Z2F {o o':Int→Bool} {ev:List Int} {C:List Ins}:∀ (f i:Nat) (st:List Int) (sp:List Spn) (v:Int) (sp':List Spn),Z0c o ev C f i st sp=(v,sp',0)→(∃ l,sp'=sp++l)∧((∀ s∈sp',Z1U o o' s)→Z0c o' ev C f i st sp=(v,sp',0))
 | 0,i,st,sp,v,sp',h=>by simp [Z0c] at h
 | f + 1, i, st, sp, v, sp', h => by
   rw [Z0c] at h ⊢
   split at h
   rename_i h24
   rw [if_pos h24]
   obtain ⟨rfl,h2⟩:=Yah h
   obtain ⟨rfl,-⟩:=Yah h2
   exact ⟨⟨[],by simp⟩,fun _=>rfl⟩
   rename_i h24
   rw [if_neg h24]
   split at h
   rename_i h13
   rw [if_pos h13]
   exact Z2F f _ _ _ _ _ h
   rename_i h13
   rw [if_neg h13]
   split at h
   rename_i h14
   rw [if_pos h14]
   exact Z2F f _ _ _ _ _ h
   rename_i h14
   rw [if_neg h14]
   split at h
   rename_i he
   obtain ⟨⟨l,e⟩,g⟩:=Z2F (o':=o') f _ _ _ _ _ h
   refine ⟨⟨ZT (C.getD i ⟨0,0⟩).op (J6 st 1) (J6 st 0) (ZH o ev (C.getD i ⟨0,0⟩) (J6 st 1) (J6 st 0)).1++l,e.trans (Xt _ _ _)⟩,fun ha=>?_⟩
   have hv:=Zao (o':=o') he (fun s hs=>ha s (by rw [e];exact List.mem_append_left _ (List.mem_append_right _ hs)))
   rw [hv,if_pos he]
   exact g ha
   rename_i he
   exfalso
   obtain ⟨-,h2⟩:=Yah h
   obtain ⟨-,h3⟩:=Yah h2
   exact he h3
theorem Z7Z {o o':Int→Bool} {ev:List Int} {C:List Ins} {v:Int} {sp:List Spn} (h:J1 o ev C=(v,sp,0)) (ha:∀ s∈sp,Z1U o o' s):J1 o' ev C=(v,sp,0):=(Z2F C.length 0 [] [] v sp h).2 ha
theorem Zap {o:Int→Bool} {ev ev':List Int} {C:List Ins} (h:∀ n:Int,(⟨4,n⟩:Ins)∈C→Z2v ev n=Z2v ev' n):∀ (f i:Nat) (st:List Int) (sp:List Spn),Z0c o ev C f i st sp=Z0c o ev' C f i st sp:=by
 intro f
 induction f with
 | zero=>intro i st sp;rfl
 | succ f ih=>
   intro i st sp
   rw [Z0c,Z0c]
   have hv:∀ a b,ZH o ev (C.getD i ⟨0,0⟩) a b=ZH o ev' (C.getD i ⟨0,0⟩) a b:=by
    intro a b
    by_cases hi:i<C.length
    have hm:C.getD i ⟨0,0⟩∈C:=by
     rw [List.getD_eq_getElem?_getD,List.getElem?_eq_getElem hi]
     exact Xh hi
    unfold ZH
    by_cases h4:(C.getD i ⟨0,0⟩).op=4
    rw [if_pos h4,if_pos h4]
    refine h _ ?_
    have e:(⟨4,(C.getD i ⟨0,0⟩).n⟩:Ins)=C.getD i ⟨0,0⟩:=by rw [← h4]
    rw [e]
    exact hm
    rw [if_neg h4,if_neg h4]
    have e:C.getD i ⟨0,0⟩=⟨0,0⟩:=by
     rw [List.getD_eq_getElem?_getD,List.getElem?_eq_none (by omega)]
     rfl
    rw [e]
    rfl
   simp only [hv,ih]
theorem Z80 {o:Int→Bool} {ev ev':List Int} {C:List Ins} (h:∀ n:Int,(⟨4,n⟩:Ins)∈C→Z2v ev n=Z2v ev' n):J1 o ev C=J1 o ev' C:=Zap h _ _ _ _
theorem Z6d (w:World):(Instr.buildSlice 32 0 #[]).run Tryz.prog w=.ok (.slice (some ⟨w.heap.size,0,none⟩) 0 0) (w.alloc (.cells #[] 77)):=by kernel_rfl
theorem Zaq {c:Cal} {x:Clo} {kn:Int} (h:kn<x.known) (d:Int):Zg { c with clos:=c.clos++[x] } kn d=Zg c kn d:=by
 unfold Zg Z5M Z6p
 simp only [List.any_append,List.any_cons,List.any_nil,Bool.or_false]
 have:decide (x.known≤kn∧x.lo≤d∧d≤x.hi)=false:=by simp;omega
 rw [this,Bool.or_false]
theorem ZjW (v0 v1 v2:Value) (l0 l1 l2:List Int) (kd kz:Int) (er:Value) (m:Int) (fz wz lz:Int) (w:World) (h0:SlV [] w v0 l0) (h1:SlV [] w v1 l1) (h2:SlV [] w v2 l2) (hi0:∀ a∈l0,I64 a) (hi1:∀ a∈l1,I64 a) (hi2:∀ a∈l2,I64 a) (hkd:I64 kd) (hkz:I64 kz) (hF:SlV [] w Z2l Z8) (hL:JY w) (hM:Z1S w) (hm:w.cell? ⟨2,0,none⟩=some (.int .i64 m)) (hv4:w.cell? ⟨5,0,none⟩=some er) (hev4:er=.nilIface∨∃ te pe,er=.iface te pe) (hfz:I64 fz) (hwz:I64 wz) (hlz:I64 lz) :
 CC 7 #[Z9j v0 v1 v2 kd kz,.int .i64 fz,.int .i64 wz,.int .i64 lz] w fun r w'=>r=.bool true∧Stp [] w w':=by
 refine cW4 108 Tryz.func7 ?_
 refine W ?_
 refine Z3 (Zq rfl) rfl ?_
 rintro _ w1 ⟨b1,rfl,hb1,k1,hS⟩
 replace k1:Blk w1 b1 24 [v0,v1,v2,.int .i64 kd,.int .i64 kz]:=k1
 refine W ?_
 refine CL rfl (Zr rfl) rfl (Z3F v0 v1 v2 l0 l1 l2 kd kz _ (h0.up hS) (h1.up hS) (h2.up hS) hi0 hi1 hi2 hkd hkz (hL.up hS) (hM.up hS)) ?_
 rintro _ w2 ⟨y,t,ky,ev,c,hv,cv,zo,zs,hr,kn,rfl,hg,hky,hev,hcal,ho,hcs,hkn,hT⟩
 replace k1:=k1.up hT
 replace hS:=hS.trans hT
 clear hT
 have hone:=hky.one
 refine W ?_
 refine Z3 Z6 rfl ?_
 rintro _ w3 ⟨b3,rfl,hb3,k3,hA⟩
 have lt3:=k3.lt
 refine Z3 Z6 rfl ?_
 rintro _ w4 ⟨b4,rfl,hb4,k4,hT⟩
 have gz4:=hA.size
 replace k3:=k3.up hT
 replace hA:=hA.trans hT
 clear hT
 have lt4:=k4.lt
 refine Z3 Z6 rfl ?_
 rintro _ w5 ⟨b5,rfl,hb5,k5,hT⟩
 have gz5:=hA.size
 replace k3:=k3.up hT
 replace k4:=k4.up hT
 replace hA:=hA.trans hT
 clear hT
 refine Z1 (Z2 (us:=ndC y ky) rfl rfl rfl rfl (Zh hky) k3 rfl) ?_
 rintro _ w6 ⟨hT,k3⟩
 replace k4:=k4.ext hT (by simp;omega)
 replace k5:=k5.ext hT (by simp;omega)
 replace hA:=hA.own hT (fun c hc=>.inr (by simp at hc;omega))
 clear hT
 refine Z1 (Z2 (us:=evC ev) rfl rfl rfl rfl (JQ _) k4 rfl) ?_
 rintro _ w7 ⟨hT,k4⟩
 replace k3:=k3.ext hT (by simp;omega)
 replace k5:=k5.ext hT (by simp;omega)
 replace hA:=hA.own hT (fun c hc=>.inr (by simp at hc;omega))
 clear hT
 refine Z1 (Z2 (us:=J7 c hv cv zo zs hr) rfl rfl rfl rfl (Z03 hcal.hols.one hcal.clos.one ho) k5 rfl) ?_
 rintro _ w8 ⟨hT,k5⟩
 replace k3:=k3.ext hT (by simp;omega)
 replace k4:=k4.ext hT (by simp;omega)
 replace hA:=hA.own hT (fun c hc=>.inr (by simp at hc;omega))
 clear hT gz4 gz5
 replace hky:=hky.up hA
 replace hcal:=hcal.up hA
 replace k1:=k1.up hA
 replace hS:=hS.trans hA
 clear hA
 have hty:=hg.type
 have htn:Z9 y≠0:=by rw [hty];exact hg.ne
 have hn5:Zn y≤5:=hg.nest
 have hn16:Zn y≤16:=by omega
 refine W ?_
 refine CL rfl (Zr rfl) rfl (Z1k _ y _ (Xi hg.size (by decide)) ⟨ky,rfl,hky⟩ (hF.up hS)) ?_
 rintro _ w9 ⟨xv,rfl,hxv,hT⟩
 have hc0:=hxv [] (by simp)
 clear hxv
 replace k1:=k1.up hT
 replace k3:=k3.up hT
 replace k4:=k4.up hT
 replace k5:=k5.up hT
 replace hky:=hky.up hT
 replace hcal:=hcal.up hT
 replace hS:=hS.trans hT
 clear hT
 by_cases he:Z3h y=0
 · rw [if_pos he] at hc0
   rw [he]
   have hver:=Z68 he
   repeat'(first|refine W1 ?_|omega|refine VG ?_ ?_<;>intro hg|refine VC ?_ ?_<;>intro hc)
   all_goals try (exact absurd rfl (by assumption))
   refine CL rfl (Zb rfl rfl) rfl (Zw fz 100 _ (by decide) hfz) ?_
   rintro _ wa ⟨rfl,hT⟩
   replace k1:=k1.up hT
   replace k3:=k3.up hT
   replace k4:=k4.up hT
   replace k5:=k5.up hT
   replace hky:=hky.up hT
   replace hcal:=hcal.up hT
   replace hc0:=hc0.up hT
   replace hS:=hS.trans hT
   clear hT
   have hrq1:=Zs (if fz<0 then -(fz+1) else fz) 100 (by decide)
   generalize (if fz<0 then -(fz+1) else fz) % 100=q1 at hrq1 ⊢
   refine W ?_
   refine Z3 Z6 rfl ?_
   rintro _ wb ⟨b6,rfl,hb6,k6,hT⟩
   refine Z1 (Z2 (us:=J7 c hv cv zo zs hr) rfl rfl rfl rfl (Z03 hcal.hols.one hcal.clos.one ho) k6 rfl) ?_
   rintro _ wc ⟨hT2,k6⟩
   have hB:=Je hT hb6 hT2
   clear hT hT2
   have k5c:=k5.up hB
   have lt6:=k6.lt
   refine W ?_
   refine Z3 (Z0 (vs:=[]) rfl (Z6d)) rfl ?_
   rintro bv wd hN
   have hrow:=JI.one (xs:=([]:List Clo)) hN rfl rfl (by simp [maxLen])
   clear hN
   have hclo:SlV (ob bv) wd cv c.clos:=(hcal.clos.up hB).ext hrow.2 (by simp) (fun b hb=>.inr (hrow.ob_le b hb).1)
   replace k5c:=k5c.up hrow.2
   have hc3:=hcs.c3
   refine W ?_
   refine Z3 (Z0K rfl (by decide) rfl rfl hrow hclo (by simp only [Xe];omega) (by simp only [Xe,maxLen];omega)) rfl ?_
   clear hrow hclo
   rintro bv2 we ⟨hrow2,-,-⟩
   rw [XL] at hrow2
   refine W ?_
   refine CL rfl (Zb rfl rfl) rfl (Zw wz 30 _ (by decide) hwz) ?_
   rintro _ wf ⟨rfl,hT⟩
   replace hrow2:=hrow2.up hT
   clear hT
   have hrq2:=Zs (if wz<0 then -(wz+1) else wz) 30 (by decide)
   generalize (if wz<0 then -(wz+1) else wz) % 30=q2 at hrq2 ⊢
   refine W ?_
   refine CL rfl (Zb rfl rfl) rfl (Zw lz 100 _ (by decide) hlz) ?_
   rintro _ wf ⟨rfl,hT⟩
   replace hrow2:=hrow2.up hT
   clear hT
   have hrq3:=Zs (if lz<0 then -(lz+1) else lz) 100 (by decide)
   generalize (if lz<0 then -(lz+1) else lz) % 100=q3 at hrq3 ⊢
   refine W ?_
   have hkl:kn<kn+1+q3:=by omega
   generalize 739616+q1 - 20=lo
   generalize lo+q2=hi
   generalize kn+1+q3=la at hkl ⊢
   refine Zf (vs:=[(0,.int .i64 (lo)),(1,.int .i64 (hi)),(2,.int .i64 (la))]) rfl (Z4d _ _ _) rfl ?_
   refine Z3 (Z0 (vs:=[(0,agg (⟨lo,hi,la⟩:Clo))]) rfl (Z4e _)) rfl ?_
   rintro bw wg hN
   have hbw:SlV (ob bv2) wg bw [(⟨lo,hi,la⟩:Clo)]:=hN.slv (fun b hb=>(hrow2.ob_le b hb).2) rfl rfl (by simp [maxLen])
   replace hrow2:=hrow2.up (Z7.stp hN)
   clear hN
   refine Z3 (Z0K rfl (by decide) rfl rfl hrow2 hbw (by simp only [Xc,Xe];omega) (by simp only [Xc,Xe,maxLen];omega)) rfl ?_
   clear hrow2 hbw
   rintro bv3 wh ⟨hrow3,-,-⟩
   have hcv':=hrow3.slv (X:=[b6]) (fun b hb=>by simp at hb;subst hb;exact lt6)
   replace k6:=k6.up hrow3.2
   replace hB:=hB.trans hrow3.2
   clear hrow3
   refine W ?_
   refine Z1 (Zc (u:=bv3) rfl rfl hcv'.cells hcv'.one k6 (by simp [J7])) ?_
   rintro _ wi ⟨hT,k6⟩
   replace k6:Blk wi b6 37 (J7 { c with clos:=c.clos++[⟨lo,hi,la⟩] } hv bv3 zo zs hr):=k6
   replace hcv':=hcv'.ext (X':=[]) hT (by simp) (by simp)
   replace hB:=hB.own hT (fun q hq=>.inr (by simp at hq;subst hq;omega))
   clear hT k5c lt6
   replace k1:=k1.up hB
   replace k3:=k3.up hB
   replace k4:=k4.up hB
   replace k5:=k5.up hB
   replace hky:=hky.up hB
   replace hcal:=hcal.up hB
   replace hc0:=hc0.up hB
   replace hS:=hS.trans hB
   clear hB
   have hcal2:Z1D wi { c with clos:=c.clos++[⟨lo,hi,la⟩] } hv bv3 zo zs hr:=⟨hcal.hols,hcv',hcal.len,hcal.mov,⟨hcs.ok.week,hcs.ok.hols,hcs.ok.few⟩⟩
   clear hcv'
   have hop:=fun d=>Zaq (c:=c) (x:=⟨lo,hi,la⟩) hkl d
   have hopf:Zg { c with clos:=c.clos++[⟨lo,hi,la⟩] } kn=Zg c kn:=funext hop
   refine W ?_
   refine CL rfl (Z15 rfl rfl rfl rfl) rfl (Z1w xv (J4 y) (Z9 y) kn ev c hv cv zo zs hr _ hc0 hver hcal hev ho) ?_
   rintro _ wR ⟨pv,rfl,hp⟩
   have hsp:=hp.slv (X:=[]) (by simp)
   have hT:=hp.2
   clear hp
   replace k1:=k1.up hT
   replace k3:=k3.up hT
   replace k4:=k4.up hT
   replace k5:=k5.up hT
   replace hky:=hky.up hT
   replace hcal:=hcal.up hT
   replace hc0:=hc0.up hT
   replace k6:=k6.up hT
   replace hcal2:=hcal2.up hT
   replace hS:=hS.trans hT
   clear hT
   refine W ?_
   replace hsp:=hsp
   refine CL rfl (Z15 rfl rfl rfl rfl) rfl (Z2e _ y kn ev c hv cv zo zs hr _ ⟨ky,rfl,hky⟩ htn hn16 hcal hev ho) ?_
   rintro _ wE ⟨rfl,hT⟩
   replace k1:=k1.up hT
   replace k3:=k3.up hT
   replace k4:=k4.up hT
   replace k5:=k5.up hT
   replace hky:=hky.up hT
   replace hcal:=hcal.up hT
   replace hc0:=hc0.up hT
   replace k6:=k6.up hT
   replace hcal2:=hcal2.up hT
   replace hsp:=hsp.up hT
   replace hS:=hS.trans hT
   clear hT
   refine W ?_
   refine CL rfl (Z15 rfl rfl rfl rfl) rfl (Z2e _ y kn ev { c with clos:=c.clos++[⟨lo,hi,la⟩] } hv bv3 zo zs hr _ ⟨ky,rfl,hky⟩ htn hn16 hcal2 hev ho) ?_
   rintro _ wE ⟨rfl,hT⟩
   replace k1:=k1.up hT
   replace k3:=k3.up hT
   replace k4:=k4.up hT
   replace k5:=k5.up hT
   replace hky:=hky.up hT
   replace hcal:=hcal.up hT
   replace hc0:=hc0.up hT
   replace k6:=k6.up hT
   replace hcal2:=hcal2.up hT
   replace hsp:=hsp.up hT
   replace hS:=hS.trans hT
   clear hT
   rw [hopf]
   refine W ?_
   refine CL rfl (ZjV rfl rfl rfl rfl rfl rfl rfl) rfl (Z6a xv pv (J4 y) (Z9 y) kn _ _ _ ev _ hv bv3 zo zs hr _ hc0 hver hcal2 hev ho hsp (by rw [hopf])) ?_
   rintro _ ws ⟨rfl,hT⟩
   replace hS:=hS.trans hT
   clear hT
   refine W ?_
   simp only [eq_self,decide_true]
   refine W ?_
   simp only [eq_self,decide_true]
   refine W ?_
   refine CL rfl Z3f rfl (JA er m _ (hL.up hS) (hM.up hS) (hS.cell (by simp) hm) (hS.cell (by simp) hv4) hev4) ?_
   rintro _ wl ⟨rfl,hT⟩
   replace hS:=hS.trans hT
   clear hT
   refine W ?_
   refine WR ?_
   exact .mk ⟨by simp,hS⟩
 · repeat'(first|refine W1 ?_|omega|refine VG ?_ ?_<;>intro hg|refine VC ?_ ?_<;>intro hc)
   all_goals try (exact absurd rfl (by assumption))
   refine CL rfl Z3f rfl (JA er m _ (hL.up hS) (hM.up hS) (hS.cell (by simp) hm) (hS.cell (by simp) hv4) hev4) ?_
   rintro _ wl ⟨rfl,hT⟩
   replace hS:=hS.trans hT
   clear hT
   refine W ?_
   refine WR ?_
   exact .mk ⟨rfl,hS⟩
end Go.Proofs.YtjdjdoefppebkaaGreatDoor
namespace Go.Eng
open Go Go.RowKit Go.Proofs
def Z6e (P:Program) (w:World) (n:String) (d:DataW Unit):Prop:=∃ g t cs fuel p,P.globalNamed n=some g∧(P.globals[g]?).map (·.type)=some t∧w.var? P n=some cs∧DataW.trod (fun _=>()) P w 0 (fun _=>true) false fuel t cs.toList=some (d,p)
theorem Z36 {P:Program} {w:World}:∀ (l:List (String×DataW Unit)) (ps:List MemPlace),DataW.LaidVars P w l ps→∀ (n:String) (d:DataW Unit),(n,d)∈l→Z6e P w n d
 | [],_,_,n,d,h=>by simp at h
 | (n0, d0) :: r, ps, hl, n, d, h => by
   obtain ⟨g,t,cs,fuel,p,q,h1,h2,h3,h4,h5,_⟩:=hl
   rcases Xf.1 h with h|h
   cases h
   exact ⟨g,t,cs,fuel,p,h1,h2,h3,h4⟩
   exact Z36 r q h5 n d h
theorem Zck {P:Program} {w:World} {name:String} {g t e n:Nat} {k:IntKind} {zs:List Int} (h:Z6e P w name (Lib.tabData k zs)) (hg:P.globalNamed name=some g) (hty:(P.globals[g]?).map (·.type)=some t) (ht:P.underlying t=some (.array n e)) (he:P.underlying e=some (.int k)) (hce:P.cellsOf e=1) (hct:P.cellsOf t=n):Lib.TabIs P w name k zs:=by
 obtain ⟨g',t',cs,fuel,p,hg',ht',hvar,hd⟩:=h
 obtain rfl:=XG (hg.symm.trans hg')
 obtain rfl:=XG (hty.symm.trans ht')
 unfold Lib.TabIs
 rw [hvar,← Lib.cells_of_tab ht he hce hct hd]
theorem Zar {P:Program} {W:World} {name:String} {g t e n:Nat} {ss:List Str} (hg:P.globalNamed name=some g) (ht:(P.globals[g]?).map (·.type)=some t) (hu:P.underlying t=some (.array n e)) (he:P.underlying e=some .string) (hc:P.cellsOf e=1)
 (hn:ss.length=n) (h:Z6e P W name (.agg (ss.map (fun s=>DataW.lit (.string s))))) :
 ∀ i (hi:i<ss.length),W.cell? ⟨g,i,none⟩=some (str ss[i]):=by
 obtain ⟨g0,t0,cs0,f0,p0,hg0,ht0,hv0,hd0⟩:=h
 obtain rfl:=XG (hg.symm.trans hg0)
 obtain rfl:=XG (ht.symm.trans ht0)
 obtain ⟨xs,m1,rfl,hx1,hlen,hn3,hel⟩:=DataW.trod_array hu hd0
 intro i hi
 have h1:=hel i (by omega)
 rw [hc,Nat.mul_one] at h1
 have hxi:xs[i]?=some (xs[i]'(by omega)):=List.getElem?_eq_getElem (by omega)
 rw [hxi] at h1
 obtain ⟨s,e1,e2,_⟩:=DataW.trod_string he h1
 have e3:DataW.agg (ss.map (fun s=>DataW.lit (.string s)))=(DataW.agg (xs.map (·.1)):DataW Unit):=congrArg Prod.fst hx1
 simp only [DataW.agg.injEq] at e3
 have e4:(DataW.lit (.string ss[i]):DataW Unit)=(xs[i]'(by omega)).1:=by
  have h2:=congrArg (fun l=>l[i]?) e3
  simp only [List.getElem?_map,hxi,List.getElem?_eq_getElem hi,Yap,Xj] at h2
  exact h2
 rw [e2] at e4
 simp only [DataW.lit.injEq,Lit.string.injEq] at e4
 have hv:=World.var?_cell hg0 hv0 i
 rw [hv]
 have h5:cs0.toList[i]?=some (.string s):=by
  have h6:=congrArg (fun l=>l[0]?) e1
  simpa [List.getElem?_take,List.getElem?_drop] using h6
 rw [← Array.getElem?_toList,h5]
 congr 1
 simp only [str,e4]
theorem Z9p {P:Program} {W:World} {name:String} {g t:Nat} {ms:Array (String×TypeId)} {d:DataW Unit} (hg:P.globalNamed name=some g) (ht:(P.globals[g]?).map (·.type)=some t) (hu:P.underlying t=some (.interface ms)) (h:Z6e P W name d) :
 ∃ er,W.cell? ⟨g,0,none⟩=some er∧(er=.nilIface∨∃ te pe,er=.iface te pe):=by
 obtain ⟨g0,t0,cs0,f0,p0,hg0,ht0,hv0,hd0⟩:=h
 obtain rfl:=XG (hg.symm.trans hg0)
 obtain rfl:=XG (ht.symm.trans ht0)
 have hv:=World.var?_cell hg0 hv0 0
 rw [hv]
 rw [← Array.getElem?_toList]
 generalize cs0.toList=cs at *
 cases f0 with
 | zero=>simp [DataW.trod] at hd0
 | succ f=>
   unfold DataW.trod at hd0
   rw [hu] at hd0
   match cs,hd0 with
   | [],hd0=>simp at hd0
   | a :: b :: r,hd0=>simp at hd0
   | [x], hd0=>
     refine ⟨x,rfl,?_⟩
     cases x with
     | nilIface=>exact .inl rfl
     | iface u v=>exact .inr ⟨u,v,rfl⟩
     | _=>simp at hd0
end Go.Eng
namespace Go.Proofs.YtjdjdoefppebkaaGreatDoor
open Go Go.Eng Go.RowKit Go.Proofs
open Go Go.Eng Go.RowKit Go.Proofs Go.ChangeShapes Go.WideShapes Go.Deep
theorem Zcl {W:World} (h:Z6e Tryz.prog W "rollbook/holiday.moves" Rows.laid_rollbook_holiday_moves):Z1S W:=by
 obtain ⟨g0,t0,cs0,f0,p0,hg0,ht0,hv0,hd0⟩:=h
 have hg:Tryz.prog.globalNamed "rollbook/holiday.moves" = some 3:=by kernel_rfl
 have ht:(Tryz.prog.globals[3]?).map (·.type)=some 345:=by kernel_rfl
 obtain rfl:=XG (hg.symm.trans hg0)
 obtain rfl:=XG (ht.symm.trans ht0)
 obtain ⟨xs,m1,rfl,hx1,hlen,hn3,hel⟩:=DataW.trod_array Tryz.underlying345 hd0
 have hc7:Tryz.prog.cellsOf 83=7:=by kernel_rfl
 have e3:(Rows.laid_rollbook_holiday_moves:DataW Unit)=.agg (xs.map (·.1)):=congrArg Prod.fst hx1
 have e4:(.agg [Lib.tabData .i64 [0,0,0,0,0,0,0],Lib.tabData .i64 [0,0,0,0,0,2,1],Lib.tabData .i64 [0,0,0,0,0,-1,1]]:DataW Unit)=.agg (xs.map (·.1)):=e3
 simp only [DataW.agg.injEq] at e4
 have row:∀ (k:Nat) (zs:List Int),k<3→[Lib.tabData .i64 [0,0,0,0,0,0,0],Lib.tabData .i64 [0,0,0,0,0,2,1],(Lib.tabData .i64 [0,0,0,0,0,-1,1]:DataW Unit)][k]?=some (Lib.tabData .i64 zs)→(cs0.toList.drop (k * 7)).take 7=zs.map fun z=>Value.int .i64 z:=by
  intro k zs hk hz
  have h1:=hel k hk
  rw [hc7] at h1
  rw [e4,List.getElem?_map] at hz
  cases hx:xs[k]? with
  | none=>rw [hx] at hz;cases hz
  | some y=>
    rw [hx] at hz h1
    have hy:y=(Lib.tabData .i64 zs,y.2):=Prod.ext (XG hz) rfl
    rw [hy] at h1
    exact Lib.cells_of_tab (t:=83) (e:=3) (n:=7) Tryz.underlying83 Tryz.underlying3 (by kernel_rfl) hc7 h1
 have r0:=row 0 _ (by omega) rfl
 have r1:=row 1 _ (by omega) rfl
 have r2:=row 2 _ (by omega) rfl
 have hcell:∀ (k:Nat) (zs:List Int) (j:Nat),(cs0.toList.drop (k * 7)).take 7=(zs.map fun z=>Value.int .i64 z)→j<7→j<zs.length→cs0.toList[k * 7+j]?=some (.int .i64 (zs.getD j 0)):=by
  intro k zs j hr hj hjl
  have h6:=congrArg (fun l=>l[j]?) hr
  simp only [List.getElem?_take,List.getElem?_drop,List.getElem?_map,if_pos hj] at h6
  rw [h6]
  simp [List.getD,hjl]
 intro i u hu
 have hi:=(List.getElem?_eq_some_iff.1 hu).1
 have hi21:i<21:=hi
 have hv:=World.var?_cell hg hv0 i
 rw [hv,← Array.getElem?_toList]
 by_cases h7:i<7
 have h2:=hcell 0 _ i r0 h7 (by simpa using h7)
 rw [show 0 * 7+i=i by omega] at h2
 rw [h2]
 have hk:i=0∨i=1∨i=2∨i=3∨i=4∨i=5∨i=6:=by omega
 rcases hk with rfl|rfl|rfl|rfl|rfl|rfl|rfl<;>(simp [Z4J] at hu;subst hu;rfl)
 by_cases h14:i<14
 have h2:=hcell 1 _ (i - 7) r1 (by omega) (by simp;omega)
 rw [show 1 * 7+(i - 7)=i by omega] at h2
 rw [h2]
 have hk:i=7∨i=8∨i=9∨i=10∨i=11∨i=12∨i=13:=by omega
 rcases hk with rfl|rfl|rfl|rfl|rfl|rfl|rfl<;>(simp [Z4J] at hu;subst hu;rfl)
 have h2:=hcell 2 _ (i - 14) r2 (by omega) (by simp;omega)
 rw [show 2 * 7+(i - 14)=i by omega] at h2
 rw [h2]
 have hk:i=14∨i=15∨i=16∨i=17∨i=18∨i=19∨i=20:=by omega
 rcases hk with rfl|rfl|rfl|rfl|rfl|rfl|rfl<;>(simp [Z4J] at hu;subst hu;rfl)
abbrev Z6f:List (String×DataW Unit):=[("math/bits.deBruijn32tab",Rows.laid_math_bits_deBruijn32tab),("math/bits.deBruijn64tab",Rows.laid_math_bits_deBruijn64tab),("internal/strconv.uint64pow10",Rows.laid_internal_strconv_uint64pow10),("strconv.ErrRange",Rows.laid_strconv_ErrRange),("strconv.ErrSyntax",Rows.laid_strconv_ErrSyntax),("rollbook/date.lengths",Rows.laid_rollbook_date_lengths),("rollbook/holiday.moves",Rows.laid_rollbook_holiday_moves)]
abbrev Z9q:List (String×DataW Unit):=Z6f++[("rollbook/types.fields",Rows.laid_rollbook_types_fields)]
theorem Z9r {W:World} (h1:Z6e Tryz.prog W "rollbook/date.lengths" Rows.laid_rollbook_date_lengths):JY W:=by
 have h2:=Zck (k:=.i64) (zs:=Z40) (g:=1) (t:=322) (e:=3) (n:=13) h1 (by kernel_rfl) (by kernel_rfl) Tryz.underlying322 Tryz.underlying3 (by kernel_rfl) (by kernel_rfl)
 intro i u hu
 have hi:=(List.getElem?_eq_some_iff.1 hu).1
 rw [Lib.TabIs.cell h2 (g:=1) (by kernel_rfl) i hi]
 simp [List.getD,hu]
theorem Zas {W:World} (h1:Z6e Tryz.prog W "rollbook/types.fields" Rows.laid_rollbook_types_fields):SlV [] W Z2l Z8:=by
 have hc:=Zar (g:=0) (t:=227) (e:=9) (n:=7) (ss:=Z8) (by kernel_rfl) (by kernel_rfl) Tryz.underlying227 Tryz.underlying9 (by kernel_rfl) rfl h1
 have hlt:0<W.heap.size:=block_lt_of_cell (a:=⟨0,0,none⟩) (hc 0 (by decide))
 refine ⟨some ⟨0,0,none⟩,7,rfl,by decide,by decide,(fun h=>by cases h),fun i hi=>⟨0,0,[str Z8[i]],rfl,hlt,by simp,rfl,fun j u hu=>?_⟩⟩
 have hj:j=0:=by
  have:=(List.getElem?_eq_some_iff.1 hu).1
  simp at this
  exact this
 subst hj
 simp at hu
 subst hu
 have:=hc i hi
 simpa [Zd.k,Za.k] using this
structure Zgv (W:World):Prop where
 len:JY W
 mov:Z1S W
 err:∃ er,W.cell? ⟨5,0,none⟩=some er∧(er=.nilIface∨∃ te pe,er=.iface te pe)
theorem Zen {W:World} {l:List (String×DataW Unit)} {ps:List MemPlace} (h:DataW.LaidVars Tryz.prog W l ps) (h1:("rollbook/date.lengths",Rows.laid_rollbook_date_lengths)∈l) (h2:("rollbook/holiday.moves",Rows.laid_rollbook_holiday_moves)∈l) (h3:("strconv.ErrRange",Rows.laid_strconv_ErrRange)∈l):Zgv W:=
 ⟨Z9r (Z36 _ _ h _ _ h1),Zcl (Z36 _ _ h _ _ h2),Z9p (g:=5) (t:=303) (by kernel_rfl) (by kernel_rfl) Tryz.underlying303 (Z36 _ _ h _ _ h3)⟩
theorem ZjX {W:World} (h:laidMetH Tryz.prog Z9q W):Zgv W∧SlV [] W Z2l Z8:=by
 rw [MakeChecks.laidMetH_plain _ _ _ (by kernel_rfl)] at h
 obtain ⟨ps,h,_⟩:=h
 exact ⟨Zen h (by simp [Z9q,Z6f]) (by simp [Z9q,Z6f]) (by simp [Z9q,Z6f]),Zas (Z36 _ _ h _ _ (by simp [Z9q,Z6f]))⟩
section
variable {H:Type} {enc:TypeId×Value→H} {w:World} {base:Nat} {spare:Nat→Bool} {held:Bool}
theorem ZmZ:Tryz.prog.cellsOf 22=1:=by kernel_rfl
theorem Zn0:Tryz.prog.cellsOf 24=5:=by kernel_rfl
set_option maxRecDepth 100000 in
theorem ZjY {r:Reach} {b0:Nat} {v:Value} {d:DataW H} {p:List MemPlace} (hv:Value.okWide Tryz.prog w r b0 24 v) (h:DataW.Trod enc Tryz.prog w base spare held 24 v d p) :
 ∃ (v0 v1 v2:Value) (kd kz:Int) (l0 l1 l2:List Int),v=Z9j v0 v1 v2 kd kz∧SlV [] w v0 l0∧SlV [] w v1 l1∧SlV [] w v2 l2∧(∀ x∈l0,I64 x)∧(∀ x∈l1,I64 x)∧(∀ x∈l2,I64 x)∧I64 kd∧I64 kz:=by
 obtain ⟨cs,rfl,hsz⟩:=okWide_struct Tryz.underlying24 hv
 obtain ⟨fuel,h⟩:=h
 obtain ⟨xs,n,rfl,hx,hlen,hxl,hf⟩:=DataW.trod_struct Tryz.underlying24 h
 rw [Zn0] at hlen
 have h0:DataW.trod enc Tryz.prog w base spare held n 22 (((Value.agg cs).cells.toList.drop 0).take (Tryz.prog.cellsOf 22))=xs[0]?:=hf 0 _ rfl
 have h1:DataW.trod enc Tryz.prog w base spare held n 22 (((Value.agg cs).cells.toList.drop 1).take (Tryz.prog.cellsOf 22))=xs[1]?:=hf 1 _ rfl
 have h2:DataW.trod enc Tryz.prog w base spare held n 22 (((Value.agg cs).cells.toList.drop 2).take (Tryz.prog.cellsOf 22))=xs[2]?:=hf 2 _ rfl
 have h3:DataW.trod enc Tryz.prog w base spare held n 3 (((Value.agg cs).cells.toList.drop 3).take (Tryz.prog.cellsOf 3))=xs[3]?:=hf 3 _ rfl
 have h4:DataW.trod enc Tryz.prog w base spare held n 3 (((Value.agg cs).cells.toList.drop 4).take (Tryz.prog.cellsOf 3))=xs[4]?:=hf 4 _ rfl
 rw [k3] at h3 h4
 rw [ZmZ] at h0 h1 h2
 have hcs:(Value.agg cs).cells.toList=cs.toList:=rfl
 rw [hcs] at h0 h1 h2 h3 h4 hlen
 rw [← Array.toArray_toList (xs:=cs)]
 generalize cs.toList=cl at *
 match cl,hlen,xs,hxl with
 | [c0, c1, c2, c3, c4], _, [y0, y1, y2, y3, y4], _=>
   simp only [List.drop,List.take] at h0 h1 h2 h3 h4
   obtain ⟨a,e3,-,ha⟩:=DataW.trod_int Tryz.underlying3 h3
   obtain ⟨b,e4,-,hb⟩:=DataW.trod_int Tryz.underlying3 h4
   obtain ⟨u0,l0,e0,hs0,hok0,-⟩:=Z5t Tryz.underlying22 (by kernel_rfl) Tryz.underlying3 h0
   obtain ⟨u1,l1,e1,hs1,hok1,-⟩:=Z5t Tryz.underlying22 (by kernel_rfl) Tryz.underlying3 h1
   obtain ⟨u2,l2,e2,hs2,hok2,-⟩:=Z5t Tryz.underlying22 (by kernel_rfl) Tryz.underlying3 h2
   obtain rfl:=(YaB e0).1
   obtain rfl:=(YaB e1).1
   obtain rfl:=(YaB e2).1
   obtain rfl:=(YaB e3).1
   obtain rfl:=(YaB e4).1
   exact ⟨c0,c1,c2,a,b,l0,l1,l2,rfl,hs0,hs1,hs2,hok0,hok1,hok2,by simpa [I64,Lit.wf,IntKind.min,IntKind.max,IntKind.signed,IntKind.bits] using ha,by simpa [I64,Lit.wf,IntKind.min,IntKind.max,IntKind.signed,IntKind.bits] using hb⟩
end
end Go.Proofs.YtjdjdoefppebkaaGreatDoor
namespace Go.Eng
open Go Go.RowKit Go.Proofs Go.ChangeShapes Go.WideShapes Go.Deep
def Z4M (P:Program) (lo n:Nat):Bool:=(List.range n).all fun i=>!((P.funcs[lo+i]?).any Func.goes)
theorem Z0h {P:Program} {lo n g:Nat} (h:Z4M P lo n=true) (h1:lo≤g) (h2:g<lo+n):(P.funcs[g]?).any Func.goes=false:=by
 have:=Xv.1 h (g - lo) (Yat.2 (by omega))
 rw [show lo+(g - lo)=g by omega] at this
 simpa using this
theorem Znu {P:Program} (h:∀ g:Nat,(P.funcs[g]?).any Func.goes=false) {c:OpenClaim} (hs:c.start=.entering):false=c.goesBy P:=by
 symm
 have hall:P.funcs.any Func.goes=false:=by
  rw [Array.any_eq_false]
  intro i hi hg
  have:=h i
  rw [Array.getElem?_eq_getElem hi] at this
  simp only [Option.any_some] at this
  rw [this] at hg
  cases hg
 have hgo:∀ f,P.goes f=false:=by
  intro f
  unfold Program.goes
  rw [hall,Bool.and_false,Bool.or_false]
  rw [Bool.eq_false_iff]
  intro hc
  have hc2:=hc
  simp [h] at hc2
 unfold OpenClaim.goesBy Program.goesAt Program.goesFrom
 rw [hs]
 cases hf:P.funcNamed c.func with
 | none=>rfl
 | some f=>simp [hgo]
theorem Zgh {P:Program} {f:FuncId} {fn:Func} {s:ChangeSpec} {c:OpenClaim} (a1:c.wf (OpenSpec.ofChange s)=true) (a2:laidOutB P=true) (a3:mapsRowed P=true) (a4:fn.params.all (P.readableRec ·)=true) (a5:namedTie P c.named s.vars=true)
 (a6:((c.stops == []) && (P.stops == []) && (c.knobs == []) && (P.stopKnobs == []))=true)
 (h2:(c.inPlace == P.inPlace f)=true) (h3:(c.unfollowed == P.unfollowed f)=true) (h4:(c.recurses == P.recurses f)=true) (h5:(c.named == P.varsNamed f)=true)
 (h6 : ((c.maps == (fn.params.toList ++ s.plain.varTypes P).any (P.mapsRec ·)) && (c.ifaces == (fn.params.toList ++ s.plain.varTypes P).any (P.ifacesRec ·)) && (c.mapsOut == P.mapsAmong fn.resultTypes.toList) &&
   (c.loops == (fn.params.toList++s.plain.varTypes P).any (P.loopsFrom ·)) && (c.wideKeys == (fn.params.toList++s.plain.varTypes P++fn.resultTypes.toList).any (P.wideKeysFrom ·)) &&
   s.vars.all (P.varReadable ·) && fn.resultTypes.all (fun t=>P.readableRec t && decide (t<P.types.size)) && (c.ifacesOut == fn.resultTypes.toList.any (P.ifacesRec ·)) && (c.loopsOut == fn.resultTypes.toList.any (P.loopsFrom ·)) && (c.plainKeys == P.plainKeys) && c.shortTexts.isNone && P.stopsHeard && P.mayEnter && (c.lifted == P.liftsFinal) && (P.make == some c.make) && (c.kinds == (if c.domain.isEmpty then [] else fn.params.toList.map fun t=>match P.underlying t with|some (.int k)=>some k|_=>none)) && (c.pinned == c.pinnedBy) &&
   (c.veiled == (fn.params.toList++s.plain.varTypes P++fn.resultTypes.toList).any (P.veiledRec ·)) && c.veiledFits P fn.params.toList (fn.params.toList++s.plain.varTypes P++fn.resultTypes.toList))=true) :
 joinedFacts P f fn s c=true:=by
 simp only [Xg] at a6 h6
 unfold joinedFacts
 simp only [Xg]
 exact ⟨⟨⟨⟨⟨⟨⟨⟨⟨⟨⟨⟨⟨⟨⟨⟨⟨⟨⟨⟨⟨⟨⟨⟨⟨⟨⟨⟨⟨⟨⟨a1,a2⟩,a3⟩,a4⟩,a5⟩,a6.1.1.1⟩,a6.1.1.2⟩,a6.1.2⟩,a6.2⟩,h2⟩,h3⟩,h4⟩,h5⟩,h6.1.1.1.1.1.1.1.1.1.1.1.1.1.1.1.1.1.1⟩,h6.1.1.1.1.1.1.1.1.1.1.1.1.1.1.1.1.1.2⟩,h6.1.1.1.1.1.1.1.1.1.1.1.1.1.1.1.1.2⟩,h6.1.1.1.1.1.1.1.1.1.1.1.1.1.1.1.2⟩,h6.1.1.1.1.1.1.1.1.1.1.1.1.1.1.2⟩,h6.1.1.1.1.1.1.1.1.1.1.1.1.1.2⟩,h6.1.1.1.1.1.1.1.1.1.1.1.1.2⟩,h6.1.1.1.1.1.1.1.1.1.1.1.2⟩,h6.1.1.1.1.1.1.1.1.1.1.2⟩,h6.1.1.1.1.1.1.1.1.1.2⟩,h6.1.1.1.1.1.1.1.1.2⟩,h6.1.1.1.1.1.1.1.2⟩,h6.1.1.1.1.1.1.2⟩,h6.1.1.1.1.1.2⟩,h6.1.1.1.1.2⟩,h6.1.1.1.2⟩,h6.1.1.2⟩,h6.1.2⟩,h6.2⟩
end Go.Eng
namespace Go.Proofs.YtjdjdoefppebkaaGreatDoor
open Go Go.Eng Go.RowKit Go.Proofs Go.ChangeShapes Go.WideShapes Go.Deep
theorem Zn1:mapsRowed Tryz.prog=true:=by kernel_rfl
theorem Zeo:Tryz.prog.funcs.size=404:=by kernel_rfl
theorem Zcm:Z4M Tryz.prog 0 34=true:=by kernel_rfl
theorem Zcn:Z4M Tryz.prog 34 34=true:=by kernel_rfl
theorem Zco:Z4M Tryz.prog 68 34=true:=by kernel_rfl
theorem Zcp:Z4M Tryz.prog 102 34=true:=by kernel_rfl
theorem Zcq:Z4M Tryz.prog 136 34=true:=by kernel_rfl
theorem Zcr:Z4M Tryz.prog 170 34=true:=by kernel_rfl
theorem Zcs:Z4M Tryz.prog 204 34=true:=by kernel_rfl
theorem Zct:Z4M Tryz.prog 238 34=true:=by kernel_rfl
theorem Zcu:Z4M Tryz.prog 272 34=true:=by kernel_rfl
theorem Zcv:Z4M Tryz.prog 306 34=true:=by kernel_rfl
theorem Zat:Z4M Tryz.prog 340 34=true:=by kernel_rfl
theorem Zau:Z4M Tryz.prog 374 34=true:=by kernel_rfl
theorem Zn2:∀ g:Nat,(Tryz.prog.funcs[g]?).any Func.goes=false:=fun g=>by
 by_cases h:g<404
 by_cases h0:g<34
 exact Z0h Zcm (by omega) (by omega)
 by_cases h1:g<68
 exact Z0h Zcn (by omega) (by omega)
 by_cases h2:g<102
 exact Z0h Zco (by omega) (by omega)
 by_cases h3:g<136
 exact Z0h Zcp (by omega) (by omega)
 by_cases h4:g<170
 exact Z0h Zcq (by omega) (by omega)
 by_cases h5:g<204
 exact Z0h Zcr (by omega) (by omega)
 by_cases h6:g<238
 exact Z0h Zcs (by omega) (by omega)
 by_cases h7:g<272
 exact Z0h Zct (by omega) (by omega)
 by_cases h8:g<306
 exact Z0h Zcu (by omega) (by omega)
 by_cases h9:g<340
 exact Z0h Zcv (by omega) (by omega)
 by_cases h10:g<374
 exact Z0h Zat (by omega) (by omega)
 exact Z0h Zau (by omega) (by omega)
 rw [Array.getElem?_eq_none (by rw [Zeo];omega)]
 rfl
end Go.Proofs.YtjdjdoefppebkaaGreatDoor
