/-
Merged by program out of own texts: Gq4, Dtr2, Dtr3, Shr1, Pri3, Shr2, Pri5, Shr3, Ok1, Gn2, Gq5, Gq6, Mad4, Spn1, Vev1, Vev2, Vev3, Vev4, Vev5.
-/
import Derived.Test.YtjdjdoefppebkaaGreatDoorM6
set_option linter.unusedVariables false
set_option linter.unusedSimpArgs false
namespace Go.Proofs.YtjdjdoefppebkaaGreatDoor
open Go Go.Eng Go.RowKit
set_option maxHeartbeats 1000000
def Z57:List Str:=[[100,97,121,115],[100,97,121,115],[99,111,117,114,116,100,97,121,115],[119,101,101,107,115],[109,111,110,116,104,115]]
theorem Zcq:∀ s∈Z57,s∈J6:=by decide
theorem Z7R (d:Nat) (hd6:d≤6) (ih:∀ e,d=e+1→Z2T 43 1 e∧Z2T 44 2 e∧Z2T 45 3 e):Z2T 45 3 d:=by
 intro X w bm lv l i z hz hmk hsl hl hi hX
 subst hz
 have hsz:szD (d+1)=1+3 * szD d:=rfl
 refine cW2 107 Tryz.func45 ?_
 refine W ?_
 refine Z3 Z6 rfl ?_
 rintro _ w1 ⟨b4,rfl,hb4,hblk4,hS0⟩
 have gm:G3 (b4 :: bm :: X) w1 w1 bm b4 lv l i:=⟨hmk.up hS0,hsl.up hS0,Stp.refl _ _,⟨_,rfl,hblk4⟩,fun h=>by have:=hmk.lt;omega,fun c hc=>by
  simp only [Xf] at hc
  have h1:=hblk4.lt
  have h2:=hmk.lt
  have h3:=hS0.size
  rcases hc with rfl|rfl|hc
  exact h1
  omega
  have:=hX c hc;omega⟩
 clear hblk4 hX hsl hmk
 refine W ?_
 refine CL rfl (Z9 rfl rfl) rfl (ZK bm lv l _ 10 _ (by decide) (by omega) gm.mkr gm.sl hl) ?_
 rintro _ wq ⟨q,rfl,hq,hm,hS⟩
 replace gm:=gm.nxt hm hS
 clear hm hS
 refine W ?_
 refine CL rfl (Z9 rfl rfl) rfl (Z69 bm lv l _ d _ _ rfl gm.mkr gm.sl) ?_
 rintro _ wq ⟨dn,rfl,hdn,hT⟩
 replace gm:=gm.up hT
 clear hT
 refine W ?_
 refine Z1J (σ:=Nat) (fun k=>[(0,.pointer (some ⟨bm,0,none⟩)),(1,.int .i64 (d:Int)),(4,.pointer (some ⟨b4,0,none⟩)),(5,.int .i64 (k:Int))]) (fun k w'=>w'=wq∧k<10∧(d=0→k<4)) ?_ ?_
 · cases dn with
   | true=>
     repeat'(first|refine W1 ?_|omega|refine VG ?_ ?_<;>intro hg|refine VC ?_ ?_<;>intro hc)
     exact ZI (q % 4) ⟨rfl,rfl,rfl,rfl,trivial⟩ ⟨rfl,by omega,fun _=>by omega⟩
   | false=>
     repeat'(first|refine W1 ?_|omega|refine VG ?_ ?_<;>intro hg|refine VC ?_ ?_<;>intro hc)
     exact ZI q ⟨rfl,rfl,rfl,rfl,trivial⟩ ⟨rfl,by omega,fun h=>absurd (hdn h) (by decide)⟩
 rintro k w3 ⟨rfl,hkn,hk1⟩
 clear hq hdn
 by_cases k0:k≤1
 · repeat'(first|refine W1 ?_|omega|refine VG ?_ ?_<;>intro hg|refine VC ?_ ?_<;>intro hc)
   all_goals
    refine CL rfl (ZH rfl rfl rfl) rfl (ZF (b4 :: bm :: X) 4 [100,97,121] (.slice none 0 0) [] _ gm.hX (Jt _ _)) ?_
    rintro _ wq ⟨⟨ky,rfl,hy⟩,hT⟩
    replace gm:=gm.up hT
    clear hT
    obtain ⟨cs,hcl,hcb⟩:=gm.blk
    refine Z0 (Z1 (us:=ndC (.mk 4 0 [100,97,121] []) _) rfl rfl rfl rfl (Zk (x:=(.mk 4 0 [100,97,121] [])) hy) hcb hcl.symm) ?_
    rintro _ wz ⟨hz,hbz⟩
    refine W ?_
    refine Zu rfl rfl rfl hbz rfl ?_
    have hf:=gm.fin (y:=(.mk 4 0 [100,97,121] [])) hS0 hb4 hy hz
    exact .mk ⟨_,_,hf.1,.fldD _ _ (by decide),hf.2.1,by omega,hf.2.2⟩
 by_cases k2:k=2
 focus repeat'(first|refine W1 ?_|omega|refine VG ?_ ?_<;>intro hg|refine VC ?_ ?_<;>intro hc)
 refine Z3 (Z2 (vs:=[(0,str [100,97,121]),(1,str [115,101,114,118,101,100])]) rfl (bS2 _ _)) rfl ?_
 rintro wv wq hN
 have hws:SlV [bm] wq wv Z4L:=hN.slv (fun c hc=>gm.hX c (by simp at hc;subst hc;simp)) rfl rfl (by decide)
 have hT:=Zc.stp hN
 clear hN
 replace gm:=gm.up hT
 clear hT
 refine W ?_
 refine CL rfl (Z9 rfl rfl) rfl (ZK bm lv l _ 2 _ (by decide) (by omega) gm.mkr gm.sl hl) ?_
 rintro _ wq ⟨q',rfl,hq',hm,hS⟩
 replace gm:=gm.nxt hm hS
 replace hws:=hws.ext hS (by simp) (fun _ h=>.inl h)
 clear hm hS
 have hqn:q'<Z4L.length:=by show q'<2;omega
 refine W ?_
 refine CL rfl (ZH rfl rfl rfl) rfl (ZF (b4 :: bm :: X) 4 Z4L[q'] (.slice none 0 0) [] _ gm.hX (Jt _ _)) ?_
 rintro _ wq ⟨⟨ky,rfl,hy⟩,hT⟩
 replace gm:=gm.up hT
 clear hT
 obtain ⟨cs,hcl,hcb⟩:=gm.blk
 refine Z0 (Z1 (us:=ndC (.mk 4 0 Z4L[q'] []) _) rfl rfl rfl rfl (Zk (x:=(.mk 4 0 Z4L[q'] [])) hy) hcb hcl.symm) ?_
 rintro _ wz ⟨hz,hbz⟩
 refine W ?_
 refine Zu rfl rfl rfl hbz rfl ?_
 have hf:=gm.fin (y:=(.mk 4 0 Z4L[q'] [])) hS0 hb4 hy hz
 exact .mk ⟨_,_,hf.1,.fldD _ _ (Xg hqn),hf.2.1,by omega,hf.2.2⟩
 by_cases k3:k=3
 focus repeat'(first|refine W1 ?_|omega|refine VG ?_ ?_<;>intro hg|refine VC ?_ ?_<;>intro hc)
 refine CL rfl (Z9 rfl rfl) rfl (ZK bm lv l _ 60 _ (by decide) (by omega) gm.mkr gm.sl hl) ?_
 rintro _ wq ⟨q',rfl,hq',hm,hS⟩
 replace gm:=gm.nxt hm hS
 clear hm hS
 refine W ?_
 apply Ze (vs:=[(0,.int .i64 3),(1,.int .i64 _)]) rfl (Z3Y _ _) rfl
 have hy:SlV (α:=Nd) (b4 :: bm :: X) _ (.slice none 0 0) []:=Jt _ wq
 obtain ⟨cs,hcl,hcb⟩:=gm.blk
 refine Z0 (Z1 (us:=ndC (.mk 3 (739616+(q':Int)) [] []) _) rfl rfl rfl rfl (Zk (x:=(.mk 3 (739616+(q':Int)) [] [])) hy) hcb hcl.symm) ?_
 rintro _ wz ⟨hz,hbz⟩
 refine W ?_
 refine Zu rfl rfl rfl hbz rfl ?_
 have hf:=gm.fin (y:=(.mk 3 (739616+(q':Int)) [] [])) hS0 hb4 hy hz
 exact .mk ⟨_,_,hf.1,.day _ _ (by omega),hf.2.1,by omega,hf.2.2⟩
 by_cases k4:k=4
 obtain ⟨e,rfl⟩:∃ e,d=e+1:=⟨d - 1,by omega⟩
 replace ih:=ih e rfl
 have hsp:=Z1R e
 focus repeat'(first|refine W1 ?_|omega|refine VG ?_ ?_<;>intro hg|refine VC ?_ ?_<;>intro hc)
 refine Z2e 12 [b4,bm] [] rfl mixed (fun w1 hS1=>?_)
 have hT:=hS1
 replace gm:=gm.up hT
 clear hT hS1
 refine Jj 1 rfl trivial (fun w'=>ZU rfl) rfl (by kernel_rfl) (by kernel_rfl) ?_
 refine Jj 5 rfl trivial (fun w'=>ZU rfl) rfl (by kernel_rfl) (by kernel_rfl) ?_
 refine Jj 6 rfl trivial (fun w'=>ZU rfl) rfl (by kernel_rfl) (by kernel_rfl) ?_
 refine Jj 7 rfl trivial (fun w'=>Z3R rfl rfl (by unfold I64;omega)) rfl (by kernel_rfl) (by kernel_rfl) ?_
 refine Z1t 0 2 (by kernel_rfl) ?_ ?_
 refine J3 rfl trivial (Z2 (vs:=[(0,str [110,101,120,116]),(1,str [112,114,101,118])]) rfl (bS2 _ _)) (fun _ _ h=>(Zc.stp h).mono (by simp)) rfl ?_
 rintro wv wq hN
 have hws:SlV [b4,bm] wq wv Z1e:=hN.slv (fun c hc=>gm.hX c (by simp at hc;rcases hc with rfl|rfl<;>simp)) rfl rfl (by decide)
 have hT:=Zc.stp hN
 clear hN
 replace gm:=gm.up hT
 clear hT
 refine Z3k [(2,2),(3,0),(4,1),(8,2),(9,2),(10,2),(11,2)] (by kernel_rfl) (by kernel_rfl) (by kernel_rfl) ?_
 refine Zb rfl trivial (Z5 rfl (Z9 rfl rfl) (ZK bm lv l _ 2 _ (by decide) (by omega) gm.mkr gm.sl hl)) (fun _ _ h=>h.choose_spec.2.2.2.mono (by simp)) rfl ?_
 rintro _ wq ⟨q,rfl,hq,hm,hS⟩
 replace gm:=gm.nxt hm hS
 replace hws:=hws.ext hS (by simp) (fun _ h=>.inl h)
 clear hm hS
 have hqn:q<Z1e.length:=by show q<2;omega
 refine D ?_
 refine Zb rfl trivial (Z5 rfl (Z9 rfl rfl) ((ih.2.2) (b4 :: bm :: X) _ bm lv l _ _ (by omega) gm.mkr gm.sl hl (by omega) gm.hX)) (fun _ _ h=>by obtain ⟨_,_,_,_,_,_,h⟩:=h;exact h.mono (by simp)) rfl ?_
 rintro _ wq ⟨y0,i0,⟨k0,rfl,s0⟩,g0,hm,hi0,hS⟩
 obtain ⟨p0,c0,rfl,-⟩:=id s0
 replace gm:=gm.nxt hm hS
 replace hws:=hws.ext hS (by simp) (fun _ h=>.inl h)
 clear hm hS
 refine D ?_
 refine Zb rfl trivial (Z2 (vs:=[(0,.agg #[.int .i64 y0.kind,.int .i64 y0.num,str y0.word,.slice p0 y0.kids.length c0])]) rfl (Z0F _ _ _ _ _ _)) (fun _ _ h=>(Zc.stp h).mono (by simp)) rfl ?_
 rintro bv wq hN
 have hbv:SlV (b4 :: bm :: X) wq bv [y0]:=hN.slvG (css:=[ndC y0 _]) gm.hX rfl rfl rfl (Z3X s0) (by simp [maxLen])
 have hT:=Zc.stp hN
 clear hN
 replace gm:=gm.up hT
 replace hws:=hws.up hT
 clear hT
 refine D ?_
 refine Zb rfl trivial (Z5 rfl (ZH rfl rfl rfl) (ZF (b4 :: bm :: X) 10 Z1e[q] bv [y0] _ gm.hX hbv)) (fun _ _ h=>h.2.mono (by simp)) rfl ?_
 rintro _ wq ⟨⟨ky,rfl,hy⟩,hT⟩
 replace gm:=gm.up hT
 clear hT hbv
 refine D ?_
 obtain ⟨cs,hcl,hcb⟩:=gm.blk
 refine ZG rfl trivial (Z1 (us:=ndC (.mk 10 0 Z1e[q] [y0]) _) rfl rfl rfl rfl (Zk (x:=(.mk 10 0 Z1e[q] [y0])) hy) hcb hcl.symm) (fun _ _ h=>h.1.mono (by simp)) ?_
 rintro _ wz ⟨hz,hbz⟩
 refine D ?_
 refine W ?_
 refine Zu rfl rfl rfl hbz rfl ?_
 have hf:=gm.fin (y:=(.mk 10 0 Z1e[q] [y0])) hS0 hb4 hy hz
 exact .mk ⟨_,_,hf.1,.adj _ _ _ (Xg hqn) g0,hf.2.1,by omega,hf.2.2⟩
 refine J3 rfl trivial (Z5 rfl (Z9 rfl rfl) (ZK bm lv l _ 2 _ (by decide) (by omega) gm.mkr gm.sl hl)) (fun _ _ h=>h.choose_spec.2.2.2.mono (by simp)) rfl ?_
 rintro _ wq ⟨q,rfl,hq,hm,hS⟩
 replace gm:=gm.nxt hm hS
 clear hm hS
 have hqn:q<Z1e.length:=by show q<2;omega
 refine Z1t 0 8 (by kernel_rfl) ?_ ?_
 refine J3 rfl trivial (Z2 (vs:=[(0,str [110,101,120,116]),(1,str [112,114,101,118])]) rfl (bS2 _ _)) (fun _ _ h=>(Zc.stp h).mono (by simp)) rfl ?_
 rintro wv wq hN
 have hws:SlV [b4,bm] wq wv Z1e:=hN.slv (fun c hc=>gm.hX c (by simp at hc;rcases hc with rfl|rfl<;>simp)) rfl rfl (by decide)
 have hT:=Zc.stp hN
 clear hN
 replace gm:=gm.up hT
 clear hT
 refine Z3k [(3,0),(4,1),(8,2),(9,2),(10,2),(11,2)] (by kernel_rfl) (by kernel_rfl) (by kernel_rfl) ?_
 refine D ?_
 refine Zb rfl trivial (Z5 rfl (Z9 rfl rfl) ((ih.2.2) (b4 :: bm :: X) _ bm lv l _ _ (by omega) gm.mkr gm.sl hl (by omega) gm.hX)) (fun _ _ h=>by obtain ⟨_,_,_,_,_,_,h⟩:=h;exact h.mono (by simp)) rfl ?_
 rintro _ wq ⟨y0,i0,⟨k0,rfl,s0⟩,g0,hm,hi0,hS⟩
 obtain ⟨p0,c0,rfl,-⟩:=id s0
 replace gm:=gm.nxt hm hS
 replace hws:=hws.ext hS (by simp) (fun _ h=>.inl h)
 clear hm hS
 refine D ?_
 refine Zb rfl trivial (Z2 (vs:=[(0,.agg #[.int .i64 y0.kind,.int .i64 y0.num,str y0.word,.slice p0 y0.kids.length c0])]) rfl (Z0F _ _ _ _ _ _)) (fun _ _ h=>(Zc.stp h).mono (by simp)) rfl ?_
 rintro bv wq hN
 have hbv:SlV (b4 :: bm :: X) wq bv [y0]:=hN.slvG (css:=[ndC y0 _]) gm.hX rfl rfl rfl (Z3X s0) (by simp [maxLen])
 have hT:=Zc.stp hN
 clear hN
 replace gm:=gm.up hT
 replace hws:=hws.up hT
 clear hT
 refine D ?_
 refine Zb rfl trivial (Z5 rfl (ZH rfl rfl rfl) (ZF (b4 :: bm :: X) 10 Z1e[q] bv [y0] _ gm.hX hbv)) (fun _ _ h=>h.2.mono (by simp)) rfl ?_
 rintro _ wq ⟨⟨ky,rfl,hy⟩,hT⟩
 replace gm:=gm.up hT
 clear hT hbv
 refine D ?_
 obtain ⟨cs,hcl,hcb⟩:=gm.blk
 refine ZG rfl trivial (Z1 (us:=ndC (.mk 10 0 Z1e[q] [y0]) _) rfl rfl rfl rfl (Zk (x:=(.mk 10 0 Z1e[q] [y0])) hy) hcb hcl.symm) (fun _ _ h=>h.1.mono (by simp)) ?_
 rintro _ wz ⟨hz,hbz⟩
 refine D ?_
 refine W ?_
 refine Zu rfl rfl rfl hbz rfl ?_
 have hf:=gm.fin (y:=(.mk 10 0 Z1e[q] [y0])) hS0 hb4 hy hz
 exact .mk ⟨_,_,hf.1,.adj _ _ _ (Xg hqn) g0,hf.2.1,by omega,hf.2.2⟩
 refine J3 rfl trivial (Z5 rfl (Z9 rfl rfl) ((ih.2.2) (b4 :: bm :: X) _ bm lv l _ _ (by omega) gm.mkr gm.sl hl (by omega) gm.hX)) (fun _ _ h=>by obtain ⟨_,_,_,_,_,_,h⟩:=h;exact h.mono (by simp)) rfl ?_
 rintro _ wq ⟨y0,i0,⟨k0,rfl,s0⟩,g0,hm,hi0,hS⟩
 obtain ⟨p0,c0,rfl,-⟩:=id s0
 replace gm:=gm.nxt hm hS
 clear hm hS
 refine Z1t 0 9 (by kernel_rfl) ?_ ?_
 refine J3 rfl trivial (Z2 (vs:=[(0,str [110,101,120,116]),(1,str [112,114,101,118])]) rfl (bS2 _ _)) (fun _ _ h=>(Zc.stp h).mono (by simp)) rfl ?_
 rintro wv wq hN
 have hws:SlV [b4,bm] wq wv Z1e:=hN.slv (fun c hc=>gm.hX c (by simp at hc;rcases hc with rfl|rfl<;>simp)) rfl rfl (by decide)
 have hT:=Zc.stp hN
 clear hN
 replace gm:=gm.up hT
 replace s0:=s0.up hT
 clear hT
 refine Z3k [(3,0),(4,1),(9,2),(10,2),(11,2)] (by kernel_rfl) (by kernel_rfl) (by kernel_rfl) ?_
 refine D ?_
 refine D ?_
 refine Zb rfl trivial (Z2 (vs:=[(0,.agg #[.int .i64 y0.kind,.int .i64 y0.num,str y0.word,.slice p0 y0.kids.length c0])]) rfl (Z0F _ _ _ _ _ _)) (fun _ _ h=>(Zc.stp h).mono (by simp)) rfl ?_
 rintro bv wq hN
 have hbv:SlV (b4 :: bm :: X) wq bv [y0]:=hN.slvG (css:=[ndC y0 _]) gm.hX rfl rfl rfl (Z3X s0) (by simp [maxLen])
 have hT:=Zc.stp hN
 clear hN
 replace gm:=gm.up hT
 replace hws:=hws.up hT
 clear hT
 refine D ?_
 refine Zb rfl trivial (Z5 rfl (ZH rfl rfl rfl) (ZF (b4 :: bm :: X) 10 Z1e[q] bv [y0] _ gm.hX hbv)) (fun _ _ h=>h.2.mono (by simp)) rfl ?_
 rintro _ wq ⟨⟨ky,rfl,hy⟩,hT⟩
 replace gm:=gm.up hT
 clear hT hbv
 refine D ?_
 obtain ⟨cs,hcl,hcb⟩:=gm.blk
 refine ZG rfl trivial (Z1 (us:=ndC (.mk 10 0 Z1e[q] [y0]) _) rfl rfl rfl rfl (Zk (x:=(.mk 10 0 Z1e[q] [y0])) hy) hcb hcl.symm) (fun _ _ h=>h.1.mono (by simp)) ?_
 rintro _ wz ⟨hz,hbz⟩
 refine D ?_
 refine W ?_
 refine Zu rfl rfl rfl hbz rfl ?_
 have hf:=gm.fin (y:=(.mk 10 0 Z1e[q] [y0])) hS0 hb4 hy hz
 exact .mk ⟨_,_,hf.1,.adj _ _ _ (Xg hqn) g0,hf.2.1,by omega,hf.2.2⟩
 refine J3 rfl trivial (Z2 (vs:=[(0,.agg #[.int .i64 y0.kind,.int .i64 y0.num,str y0.word,.slice p0 y0.kids.length c0])]) rfl (Z0F _ _ _ _ _ _)) (fun _ _ h=>(Zc.stp h).mono (by simp)) rfl ?_
 rintro bv wq hN
 have hbv:SlV (b4 :: bm :: X) wq bv [y0]:=hN.slvG (css:=[ndC y0 _]) gm.hX rfl rfl rfl (Z3X s0) (by simp [maxLen])
 have hT:=Zc.stp hN
 clear hN
 replace gm:=gm.up hT
 clear hT
 refine Z3k [(0,2),(3,0),(4,1),(10,2),(11,2)] (by kernel_rfl) (by kernel_rfl) (by kernel_rfl) ?_
 refine Zb rfl trivial (Z2 (vs:=[(0,str [110,101,120,116]),(1,str [112,114,101,118])]) rfl (bS2 _ _)) (fun _ _ h=>(Zc.stp h).mono (by simp)) rfl ?_
 rintro wv wq hN
 have hws:SlV [b4,bm] wq wv Z1e:=hN.slv (fun c hc=>gm.hX c (by simp at hc;rcases hc with rfl|rfl<;>simp)) rfl rfl (by decide)
 have hT:=Zc.stp hN
 clear hN
 replace gm:=gm.up hT
 replace hbv:=hbv.up hT
 clear hT
 refine D ?_
 refine D ?_
 refine D ?_
 refine Zb rfl trivial (Z5 rfl (ZH rfl rfl rfl) (ZF (b4 :: bm :: X) 10 Z1e[q] bv [y0] _ gm.hX hbv)) (fun _ _ h=>h.2.mono (by simp)) rfl ?_
 rintro _ wq ⟨⟨ky,rfl,hy⟩,hT⟩
 replace gm:=gm.up hT
 clear hT hbv
 refine D ?_
 obtain ⟨cs,hcl,hcb⟩:=gm.blk
 refine ZG rfl trivial (Z1 (us:=ndC (.mk 10 0 Z1e[q] [y0]) _) rfl rfl rfl rfl (Zk (x:=(.mk 10 0 Z1e[q] [y0])) hy) hcb hcl.symm) (fun _ _ h=>h.1.mono (by simp)) ?_
 rintro _ wz ⟨hz,hbz⟩
 refine D ?_
 refine W ?_
 refine Zu rfl rfl rfl hbz rfl ?_
 have hf:=gm.fin (y:=(.mk 10 0 Z1e[q] [y0])) hS0 hb4 hy hz
 exact .mk ⟨_,_,hf.1,.adj _ _ _ (Xg hqn) g0,hf.2.1,by omega,hf.2.2⟩
 by_cases k5:k=5
 obtain ⟨e,rfl⟩:∃ e,d=e+1:=⟨d - 1,by omega⟩
 replace ih:=ih e rfl
 have hsp:=Z1R e
 focus repeat'(first|refine W1 ?_|omega|refine VG ?_ ?_<;>intro hg|refine VC ?_ ?_<;>intro hc)
 refine W ?_
 refine CL rfl (Z9 rfl rfl) rfl ((ih.2.2) (b4 :: bm :: X) _ bm lv l _ _ (by omega) gm.mkr gm.sl hl (by omega) gm.hX) ?_
 rintro _ wq ⟨y0,i0,⟨k0,rfl,s0⟩,g0,hm,hi0,hS⟩
 obtain ⟨p0,c0,rfl,-⟩:=id s0
 replace gm:=gm.nxt hm hS
 clear hm hS
 refine Z3 Z6 rfl ?_
 rintro _ wq ⟨b0',rfl,hb0',e0,hT⟩
 refine Z0 (Z1 (us:=ndC y0 _) rfl rfl rfl rfl (Zk s0) e0 rfl) ?_
 rintro _ wq ⟨hT2,e0⟩
 replace hT:=JK hT hb0' hT2
 clear hT2
 have n0:b0'≠bm:=fun h=>by have:=gm.mkr.lt;omega
 have n0':b0'≠b4:=fun h=>by obtain ⟨_,_,hc⟩:=gm.blk;have:=hc.lt;omega
 replace gm:=gm.up hT
 replace s0:=s0.up hT
 clear hT hb0'
 refine W ?_
 refine Z2e 13 [b4,bm] [] rfl mixed (fun w1 hS1=>?_)
 have hT:=hS1
 replace gm:=gm.up hT
 replace s0:=s0.up hT
 replace e0:=e0.up hT
 clear hT hS1
 refine Jj 1 rfl trivial (fun w'=>ZU rfl) rfl (by kernel_rfl) (by kernel_rfl) ?_
 refine Z9E 5 rfl trivial (fun w' hS'=>J8 rfl rfl (e0.ext hS' (by simp;exact ⟨n0',n0⟩)) rfl) rfl (by kernel_rfl) (by kernel_rfl) ?_
 refine Jj 6 rfl trivial (fun w'=>ZU rfl) rfl (by kernel_rfl) (by kernel_rfl) ?_
 refine Jj 7 rfl trivial (fun w'=>ZU rfl) rfl (by kernel_rfl) (by kernel_rfl) ?_
 refine Jj 8 rfl trivial (fun w'=>Z3R rfl rfl (by unfold I64;omega)) rfl (by kernel_rfl) (by kernel_rfl) ?_
 refine Z1t 0 2 (by kernel_rfl) ?_ ?_
 refine J3 rfl trivial (Z2 (vs:=[(0,str [108,97,116,101,114]),(1,str [101,97,114,108,105,101,114])]) rfl (bS2 _ _)) (fun _ _ h=>(Zc.stp h).mono (by simp)) rfl ?_
 rintro wv wq hN
 have hws:SlV [b4,bm] wq wv Z1f:=hN.slv (fun c hc=>gm.hX c (by simp at hc;rcases hc with rfl|rfl<;>simp)) rfl rfl (by decide)
 have hT:=Zc.stp hN
 clear hN
 replace gm:=gm.up hT
 replace s0:=s0.up hT
 replace e0:=e0.up hT
 clear hT
 refine Z3k [(2,2),(3,0),(4,1),(9,2),(10,2),(11,2),(12,2)] (by kernel_rfl) (by kernel_rfl) (by kernel_rfl) ?_
 refine Zb rfl trivial (Z5 rfl (Z9 rfl rfl) (ZK bm lv l _ 2 _ (by decide) (by omega) gm.mkr gm.sl hl)) (fun _ _ h=>h.choose_spec.2.2.2.mono (by simp)) rfl ?_
 rintro _ wq ⟨q,rfl,hq,hm,hS⟩
 replace gm:=gm.nxt hm hS
 replace s0:=s0.ext hS (by simp) (fun _ h=>.inl h)
 replace e0:=e0.ext hS (by simp;exact n0)
 replace hws:=hws.ext hS (by simp) (fun _ h=>.inl h)
 clear hm hS
 have hqn:q<Z1f.length:=by show q<2;omega
 refine D ?_
 refine Zb rfl trivial (Z5 rfl (Z9 rfl rfl) ((ih.2.2) (b4 :: bm :: X) _ bm lv l _ _ (by omega) gm.mkr gm.sl hl (by omega) gm.hX)) (fun _ _ h=>by obtain ⟨_,_,_,_,_,_,h⟩:=h;exact h.mono (by simp)) rfl ?_
 rintro _ wq ⟨y1,i1,⟨k1,rfl,s1⟩,g1,hm,hi1,hS⟩
 obtain ⟨p1,c1,rfl,-⟩:=id s1
 replace gm:=gm.nxt hm hS
 replace s0:=s0.ext hS (by simp) (fun _ h=>.inl h)
 replace e0:=e0.ext hS (by simp;exact n0)
 replace hws:=hws.ext hS (by simp) (fun _ h=>.inl h)
 clear hm hS
 refine D ?_
 refine Zb rfl trivial (Z2 (vs:=[(0,.agg #[.int .i64 y0.kind,.int .i64 y0.num,str y0.word,.slice p0 y0.kids.length c0]),(1,.agg #[.int .i64 y1.kind,.int .i64 y1.num,str y1.word,.slice p1 y1.kids.length c1])]) rfl (Jw _ _ _ _ _ _ _ _ _ _ _ _)) (fun _ _ h=>(Zc.stp h).mono (by simp)) rfl ?_
 rintro bv wq hN
 have hbv:SlV (b4 :: bm :: X) wq bv [y0,y1]:=hN.slvG (css:=[ndC y0 _,ndC y1 _]) gm.hX rfl rfl rfl (Z1V s0 s1) (by simp [maxLen])
 have hT:=Zc.stp hN
 clear hN
 replace gm:=gm.up hT
 replace hws:=hws.up hT
 clear hT
 refine D ?_
 refine Zb rfl trivial (Z5 rfl (ZH rfl rfl rfl) (ZF (b4 :: bm :: X) 10 Z1f[q] bv [y0,y1] _ gm.hX hbv)) (fun _ _ h=>h.2.mono (by simp)) rfl ?_
 rintro _ wq ⟨⟨ky,rfl,hy⟩,hT⟩
 replace gm:=gm.up hT
 clear hT hbv
 refine D ?_
 obtain ⟨cs,hcl,hcb⟩:=gm.blk
 refine ZG rfl trivial (Z1 (us:=ndC (.mk 10 0 Z1f[q] [y0,y1]) _) rfl rfl rfl rfl (Zk (x:=(.mk 10 0 Z1f[q] [y0,y1])) hy) hcb hcl.symm) (fun _ _ h=>h.1.mono (by simp)) ?_
 rintro _ wz ⟨hz,hbz⟩
 refine D ?_
 refine W ?_
 refine Zu rfl rfl rfl hbz rfl ?_
 have hf:=gm.fin (y:=(.mk 10 0 Z1f[q] [y0,y1])) hS0 hb4 hy hz
 exact .mk ⟨_,_,hf.1,.two _ _ _ _ (Xg hqn) g0 g1,hf.2.1,by omega,hf.2.2⟩
 refine J3 rfl trivial (Z5 rfl (Z9 rfl rfl) (ZK bm lv l _ 2 _ (by decide) (by omega) gm.mkr gm.sl hl)) (fun _ _ h=>h.choose_spec.2.2.2.mono (by simp)) rfl ?_
 rintro _ wq ⟨q,rfl,hq,hm,hS⟩
 replace gm:=gm.nxt hm hS
 replace s0:=s0.ext hS (by simp) (fun _ h=>.inl h)
 replace e0:=e0.ext hS (by simp;exact n0)
 clear hm hS
 have hqn:q<Z1f.length:=by show q<2;omega
 refine Z1t 0 9 (by kernel_rfl) ?_ ?_
 refine J3 rfl trivial (Z2 (vs:=[(0,str [108,97,116,101,114]),(1,str [101,97,114,108,105,101,114])]) rfl (bS2 _ _)) (fun _ _ h=>(Zc.stp h).mono (by simp)) rfl ?_
 rintro wv wq hN
 have hws:SlV [b4,bm] wq wv Z1f:=hN.slv (fun c hc=>gm.hX c (by simp at hc;rcases hc with rfl|rfl<;>simp)) rfl rfl (by decide)
 have hT:=Zc.stp hN
 clear hN
 replace gm:=gm.up hT
 replace s0:=s0.up hT
 replace e0:=e0.up hT
 clear hT
 refine Z3k [(3,0),(4,1),(9,2),(10,2),(11,2),(12,2)] (by kernel_rfl) (by kernel_rfl) (by kernel_rfl) ?_
 refine D ?_
 refine Zb rfl trivial (Z5 rfl (Z9 rfl rfl) ((ih.2.2) (b4 :: bm :: X) _ bm lv l _ _ (by omega) gm.mkr gm.sl hl (by omega) gm.hX)) (fun _ _ h=>by obtain ⟨_,_,_,_,_,_,h⟩:=h;exact h.mono (by simp)) rfl ?_
 rintro _ wq ⟨y1,i1,⟨k1,rfl,s1⟩,g1,hm,hi1,hS⟩
 obtain ⟨p1,c1,rfl,-⟩:=id s1
 replace gm:=gm.nxt hm hS
 replace s0:=s0.ext hS (by simp) (fun _ h=>.inl h)
 replace e0:=e0.ext hS (by simp;exact n0)
 replace hws:=hws.ext hS (by simp) (fun _ h=>.inl h)
 clear hm hS
 refine D ?_
 refine Zb rfl trivial (Z2 (vs:=[(0,.agg #[.int .i64 y0.kind,.int .i64 y0.num,str y0.word,.slice p0 y0.kids.length c0]),(1,.agg #[.int .i64 y1.kind,.int .i64 y1.num,str y1.word,.slice p1 y1.kids.length c1])]) rfl (Jw _ _ _ _ _ _ _ _ _ _ _ _)) (fun _ _ h=>(Zc.stp h).mono (by simp)) rfl ?_
 rintro bv wq hN
 have hbv:SlV (b4 :: bm :: X) wq bv [y0,y1]:=hN.slvG (css:=[ndC y0 _,ndC y1 _]) gm.hX rfl rfl rfl (Z1V s0 s1) (by simp [maxLen])
 have hT:=Zc.stp hN
 clear hN
 replace gm:=gm.up hT
 replace hws:=hws.up hT
 clear hT
 refine D ?_
 refine Zb rfl trivial (Z5 rfl (ZH rfl rfl rfl) (ZF (b4 :: bm :: X) 10 Z1f[q] bv [y0,y1] _ gm.hX hbv)) (fun _ _ h=>h.2.mono (by simp)) rfl ?_
 rintro _ wq ⟨⟨ky,rfl,hy⟩,hT⟩
 replace gm:=gm.up hT
 clear hT hbv
 refine D ?_
 obtain ⟨cs,hcl,hcb⟩:=gm.blk
 refine ZG rfl trivial (Z1 (us:=ndC (.mk 10 0 Z1f[q] [y0,y1]) _) rfl rfl rfl rfl (Zk (x:=(.mk 10 0 Z1f[q] [y0,y1])) hy) hcb hcl.symm) (fun _ _ h=>h.1.mono (by simp)) ?_
 rintro _ wz ⟨hz,hbz⟩
 refine D ?_
 refine W ?_
 refine Zu rfl rfl rfl hbz rfl ?_
 have hf:=gm.fin (y:=(.mk 10 0 Z1f[q] [y0,y1])) hS0 hb4 hy hz
 exact .mk ⟨_,_,hf.1,.two _ _ _ _ (Xg hqn) g0 g1,hf.2.1,by omega,hf.2.2⟩
 refine J3 rfl trivial (Z5 rfl (Z9 rfl rfl) ((ih.2.2) (b4 :: bm :: X) _ bm lv l _ _ (by omega) gm.mkr gm.sl hl (by omega) gm.hX)) (fun _ _ h=>by obtain ⟨_,_,_,_,_,_,h⟩:=h;exact h.mono (by simp)) rfl ?_
 rintro _ wq ⟨y1,i1,⟨k1,rfl,s1⟩,g1,hm,hi1,hS⟩
 obtain ⟨p1,c1,rfl,-⟩:=id s1
 replace gm:=gm.nxt hm hS
 replace s0:=s0.ext hS (by simp) (fun _ h=>.inl h)
 replace e0:=e0.ext hS (by simp;exact n0)
 clear hm hS
 refine Z1t 0 10 (by kernel_rfl) ?_ ?_
 refine J3 rfl trivial (Z2 (vs:=[(0,str [108,97,116,101,114]),(1,str [101,97,114,108,105,101,114])]) rfl (bS2 _ _)) (fun _ _ h=>(Zc.stp h).mono (by simp)) rfl ?_
 rintro wv wq hN
 have hws:SlV [b4,bm] wq wv Z1f:=hN.slv (fun c hc=>gm.hX c (by simp at hc;rcases hc with rfl|rfl<;>simp)) rfl rfl (by decide)
 have hT:=Zc.stp hN
 clear hN
 replace gm:=gm.up hT
 replace s0:=s0.up hT
 replace e0:=e0.up hT
 replace s1:=s1.up hT
 clear hT
 refine Z3k [(3,0),(4,1),(10,2),(11,2),(12,2)] (by kernel_rfl) (by kernel_rfl) (by kernel_rfl) ?_
 refine D ?_
 refine D ?_
 refine Zb rfl trivial (Z2 (vs:=[(0,.agg #[.int .i64 y0.kind,.int .i64 y0.num,str y0.word,.slice p0 y0.kids.length c0]),(1,.agg #[.int .i64 y1.kind,.int .i64 y1.num,str y1.word,.slice p1 y1.kids.length c1])]) rfl (Jw _ _ _ _ _ _ _ _ _ _ _ _)) (fun _ _ h=>(Zc.stp h).mono (by simp)) rfl ?_
 rintro bv wq hN
 have hbv:SlV (b4 :: bm :: X) wq bv [y0,y1]:=hN.slvG (css:=[ndC y0 _,ndC y1 _]) gm.hX rfl rfl rfl (Z1V s0 s1) (by simp [maxLen])
 have hT:=Zc.stp hN
 clear hN
 replace gm:=gm.up hT
 replace hws:=hws.up hT
 clear hT
 refine D ?_
 refine Zb rfl trivial (Z5 rfl (ZH rfl rfl rfl) (ZF (b4 :: bm :: X) 10 Z1f[q] bv [y0,y1] _ gm.hX hbv)) (fun _ _ h=>h.2.mono (by simp)) rfl ?_
 rintro _ wq ⟨⟨ky,rfl,hy⟩,hT⟩
 replace gm:=gm.up hT
 clear hT hbv
 refine D ?_
 obtain ⟨cs,hcl,hcb⟩:=gm.blk
 refine ZG rfl trivial (Z1 (us:=ndC (.mk 10 0 Z1f[q] [y0,y1]) _) rfl rfl rfl rfl (Zk (x:=(.mk 10 0 Z1f[q] [y0,y1])) hy) hcb hcl.symm) (fun _ _ h=>h.1.mono (by simp)) ?_
 rintro _ wz ⟨hz,hbz⟩
 refine D ?_
 refine W ?_
 refine Zu rfl rfl rfl hbz rfl ?_
 have hf:=gm.fin (y:=(.mk 10 0 Z1f[q] [y0,y1])) hS0 hb4 hy hz
 exact .mk ⟨_,_,hf.1,.two _ _ _ _ (Xg hqn) g0 g1,hf.2.1,by omega,hf.2.2⟩
 refine J3 rfl trivial (Z2 (vs:=[(0,.agg #[.int .i64 y0.kind,.int .i64 y0.num,str y0.word,.slice p0 y0.kids.length c0]),(1,.agg #[.int .i64 y1.kind,.int .i64 y1.num,str y1.word,.slice p1 y1.kids.length c1])]) rfl (Jw _ _ _ _ _ _ _ _ _ _ _ _)) (fun _ _ h=>(Zc.stp h).mono (by simp)) rfl ?_
 rintro bv wq hN
 have hbv:SlV (b4 :: bm :: X) wq bv [y0,y1]:=hN.slvG (css:=[ndC y0 _,ndC y1 _]) gm.hX rfl rfl rfl (Z1V s0 s1) (by simp [maxLen])
 have hT:=Zc.stp hN
 clear hN
 replace gm:=gm.up hT
 clear hT
 refine Z3k [(0,2),(3,0),(4,1),(11,2),(12,2)] (by kernel_rfl) (by kernel_rfl) (by kernel_rfl) ?_
 refine Zb rfl trivial (Z2 (vs:=[(0,str [108,97,116,101,114]),(1,str [101,97,114,108,105,101,114])]) rfl (bS2 _ _)) (fun _ _ h=>(Zc.stp h).mono (by simp)) rfl ?_
 rintro wv wq hN
 have hws:SlV [b4,bm] wq wv Z1f:=hN.slv (fun c hc=>gm.hX c (by simp at hc;rcases hc with rfl|rfl<;>simp)) rfl rfl (by decide)
 have hT:=Zc.stp hN
 clear hN
 replace gm:=gm.up hT
 replace hbv:=hbv.up hT
 clear hT
 refine D ?_
 refine D ?_
 refine D ?_
 refine Zb rfl trivial (Z5 rfl (ZH rfl rfl rfl) (ZF (b4 :: bm :: X) 10 Z1f[q] bv [y0,y1] _ gm.hX hbv)) (fun _ _ h=>h.2.mono (by simp)) rfl ?_
 rintro _ wq ⟨⟨ky,rfl,hy⟩,hT⟩
 replace gm:=gm.up hT
 clear hT hbv
 refine D ?_
 obtain ⟨cs,hcl,hcb⟩:=gm.blk
 refine ZG rfl trivial (Z1 (us:=ndC (.mk 10 0 Z1f[q] [y0,y1]) _) rfl rfl rfl rfl (Zk (x:=(.mk 10 0 Z1f[q] [y0,y1])) hy) hcb hcl.symm) (fun _ _ h=>h.1.mono (by simp)) ?_
 rintro _ wz ⟨hz,hbz⟩
 refine D ?_
 refine W ?_
 refine Zu rfl rfl rfl hbz rfl ?_
 have hf:=gm.fin (y:=(.mk 10 0 Z1f[q] [y0,y1])) hS0 hb4 hy hz
 exact .mk ⟨_,_,hf.1,.two _ _ _ _ (Xg hqn) g0 g1,hf.2.1,by omega,hf.2.2⟩
 by_cases k6:k=6
 obtain ⟨e,rfl⟩:∃ e,d=e+1:=⟨d - 1,by omega⟩
 replace ih:=ih e rfl
 have hsp:=Z1R e
 focus repeat'(first|refine W1 ?_|omega|refine VG ?_ ?_<;>intro hg|refine VC ?_ ?_<;>intro hc)
 refine W ?_
 refine CL rfl (Z9 rfl rfl) rfl ((ih.2.1) (b4 :: bm :: X) _ bm lv l _ _ (by omega) gm.mkr gm.sl hl (by omega) gm.hX) ?_
 rintro _ wq ⟨y0,i0,⟨k0,rfl,s0⟩,g0,hm,hi0,hS⟩
 obtain ⟨p0,c0,rfl,-⟩:=id s0
 replace gm:=gm.nxt hm hS
 clear hm hS
 refine Z3 Z6 rfl ?_
 rintro _ wq ⟨b0',rfl,hb0',e0,hT⟩
 refine Z0 (Z1 (us:=ndC y0 _) rfl rfl rfl rfl (Zk s0) e0 rfl) ?_
 rintro _ wq ⟨hT2,e0⟩
 replace hT:=JK hT hb0' hT2
 clear hT2
 have n0:b0'≠bm:=fun h=>by have:=gm.mkr.lt;omega
 have n0':b0'≠b4:=fun h=>by obtain ⟨_,_,hc⟩:=gm.blk;have:=hc.lt;omega
 replace gm:=gm.up hT
 replace s0:=s0.up hT
 clear hT hb0'
 refine W ?_
 refine CL rfl (Z9 rfl rfl) rfl ((ih.2.2) (b4 :: bm :: X) _ bm lv l _ _ (by omega) gm.mkr gm.sl hl (by omega) gm.hX) ?_
 rintro _ wq ⟨y1,i1,⟨k1,rfl,s1⟩,g1,hm,hi1,hS⟩
 obtain ⟨p1,c1,rfl,-⟩:=id s1
 replace gm:=gm.nxt hm hS
 replace s0:=s0.ext hS (by simp) (fun _ h=>.inl h)
 replace e0:=e0.ext hS (by simp;exact n0)
 clear hm hS
 refine Z3 Z6 rfl ?_
 rintro _ wq ⟨b1',rfl,hb1',e1,hT⟩
 refine Z0 (Z1 (us:=ndC y1 _) rfl rfl rfl rfl (Zk s1) e1 rfl) ?_
 rintro _ wq ⟨hT2,e1⟩
 replace hT:=JK hT hb1' hT2
 clear hT2
 have n1:b1'≠bm:=fun h=>by have:=gm.mkr.lt;omega
 have n1':b1'≠b4:=fun h=>by obtain ⟨_,_,hc⟩:=gm.blk;have:=hc.lt;omega
 replace gm:=gm.up hT
 replace s0:=s0.up hT
 replace e0:=e0.up hT
 replace s1:=s1.up hT
 clear hT hb1'
 refine W ?_
 refine ZDr 9 ([b4,bm]) [] [(0,1),(1,1),(2,0),(3,0),(4,0),(5,2),(6,2),(7,2),(8,2)] (fun w1 hS1=>?_)
 have hT:=hS1
 replace gm:=gm.up hT
 replace s0:=s0.up hT
 replace e0:=e0.up hT
 replace s1:=s1.up hT
 replace e1:=e1.up hT
 clear hT hS1
 refine ZN rfl trivial (fun w' hS'=>J8 rfl rfl (e0.ext hS' (by simp;exact ⟨n0',n0⟩)) rfl) rfl ?_
 refine ZN rfl trivial (fun w' hS'=>J8 rfl rfl (e1.ext hS' (by simp;exact ⟨n1',n1⟩)) rfl) rfl ?_
 refine D ?_
 refine Zb rfl trivial (Z5 rfl (Z9 rfl rfl) ((ih.2.2) (b4 :: bm :: X) _ bm lv l _ _ (by omega) gm.mkr gm.sl hl (by omega) gm.hX)) (fun _ _ h=>by obtain ⟨_,_,_,_,_,_,h⟩:=h;exact h.mono (by simp)) rfl ?_
 rintro _ wq ⟨y2,i2,⟨k2,rfl,s2⟩,g2,hm,hi2,hS⟩
 obtain ⟨p2,c2,rfl,-⟩:=id s2
 replace gm:=gm.nxt hm hS
 replace s0:=s0.ext hS (by simp) (fun _ h=>.inl h)
 replace e0:=e0.ext hS (by simp;exact n0)
 replace s1:=s1.ext hS (by simp) (fun _ h=>.inl h)
 replace e1:=e1.ext hS (by simp;exact n1)
 clear hm hS
 refine D ?_
 refine Zb rfl trivial (Z2 (vs:=[(0,.agg #[.int .i64 y0.kind,.int .i64 y0.num,str y0.word,.slice p0 y0.kids.length c0]),(1,.agg #[.int .i64 y1.kind,.int .i64 y1.num,str y1.word,.slice p1 y1.kids.length c1]),(2,.agg #[.int .i64 y2.kind,.int .i64 y2.num,str y2.word,.slice p2 y2.kids.length c2])]) rfl (Zah _ _ _ _ _ _ _ _ _ _ _ _ _ _ _ _ _ _)) (fun _ _ h=>(Zc.stp h).mono (by simp)) rfl ?_
 rintro bv wq hN
 have hbv:SlV (b4 :: bm :: X) wq bv [y0,y1,y2]:=hN.slvG (css:=[ndC y0 _,ndC y1 _,ndC y2 _]) gm.hX rfl rfl rfl (Zj4 s0 s1 s2) (by simp [maxLen])
 have hT:=Zc.stp hN
 clear hN
 replace gm:=gm.up hT
 clear hT
 refine D ?_
 refine Zb rfl trivial (Z5 rfl (ZH rfl rfl rfl) (ZF (b4 :: bm :: X) 9 [] bv [y0,y1,y2] _ gm.hX hbv)) (fun _ _ h=>h.2.mono (by simp)) rfl ?_
 rintro _ wq ⟨⟨ky,rfl,hy⟩,hT⟩
 replace gm:=gm.up hT
 clear hT hbv
 refine D ?_
 obtain ⟨cs,hcl,hcb⟩:=gm.blk
 refine ZG rfl trivial (Z1 (us:=ndC (.mk 9 0 [] [y0,y1,y2]) _) rfl rfl rfl rfl (Zk (x:=(.mk 9 0 [] [y0,y1,y2])) hy) hcb hcl.symm) (fun _ _ h=>h.1.mono (by simp)) ?_
 rintro _ wz ⟨hz,hbz⟩
 refine D ?_
 refine W ?_
 refine Zu rfl rfl rfl hbz rfl ?_
 have hf:=gm.fin (y:=(.mk 9 0 [] [y0,y1,y2])) hS0 hb4 hy hz
 exact .mk ⟨_,_,hf.1,.cond _ _ _ _ _ (by decide) g0 g1 g2,hf.2.1,by omega,hf.2.2⟩
 obtain ⟨e,rfl⟩:∃ e,d=e+1:=⟨d - 1,by omega⟩
 replace ih:=ih e rfl
 have hsp:=Z1R e
 repeat'(first|refine W1 ?_|omega|refine VG ?_ ?_<;>intro hg|refine VC ?_ ?_<;>intro hc)
 refine W ?_
 refine CL rfl (Z9 rfl rfl) rfl ((ih.2.2) (b4 :: bm :: X) _ bm lv l _ _ (by omega) gm.mkr gm.sl hl (by omega) gm.hX) ?_
 rintro _ wq ⟨y0,i0,⟨k0,rfl,s0⟩,g0,hm,hi0,hS⟩
 obtain ⟨p0,c0,rfl,-⟩:=id s0
 replace gm:=gm.nxt hm hS
 clear hm hS
 refine Z3 Z6 rfl ?_
 rintro _ wq ⟨b0',rfl,hb0',e0,hT⟩
 refine Z0 (Z1 (us:=ndC y0 _) rfl rfl rfl rfl (Zk s0) e0 rfl) ?_
 rintro _ wq ⟨hT2,e0⟩
 replace hT:=JK hT hb0' hT2
 clear hT2
 have n0:b0'≠bm:=fun h=>by have:=gm.mkr.lt;omega
 have n0':b0'≠b4:=fun h=>by obtain ⟨_,_,hc⟩:=gm.blk;have:=hc.lt;omega
 replace gm:=gm.up hT
 replace s0:=s0.up hT
 clear hT hb0'
 refine W ?_
 refine Z3 (Z2 (vs:=[(0,str [100,97,121,115]),(1,str [100,97,121,115]),(2,str [99,111,117,114,116,100,97,121,115]),(3,str [119,101,101,107,115]),(4,str [109,111,110,116,104,115])]) rfl (bS5 _ _ _ _ _)) rfl ?_
 rintro wv wq hN
 have hws:SlV [b4,bm] wq wv Z57:=hN.slv (fun c hc=>gm.hX c (by simp at hc;rcases hc with rfl|rfl<;>simp)) rfl rfl (by decide)
 have hT:=Zc.stp hN
 clear hN
 replace gm:=gm.up hT
 replace s0:=s0.up hT
 replace e0:=e0.up hT
 clear hT
 refine W ?_
 refine CL rfl (Z9 rfl rfl) rfl (ZK bm lv l _ 5 _ (by decide) (by omega) gm.mkr gm.sl hl) ?_
 rintro _ wq ⟨q',rfl,hq',hm,hS⟩
 replace gm:=gm.nxt hm hS
 replace s0:=s0.ext hS (by simp) (fun _ h=>.inl h)
 replace e0:=e0.ext hS (by simp;exact n0)
 replace hws:=hws.ext hS (by simp) (fun _ h=>.inl h)
 clear hm hS
 have hqn:q'<Z57.length:=by show q'<5;omega
 have hu:=Zcq _ (Xg hqn)
 refine W ?_
 clear hws
 refine ZDr 13 ([b4,bm]) [] [(0,0),(4,0),(5,1),(6,0),(7,0),(8,0),(1,2),(2,0),(3,0),(9,2),(10,2),(11,2),(12,2)] (fun w1 hS1=>?_)
 have hT:=hS1
 replace gm:=gm.up hT
 replace s0:=s0.up hT
 replace e0:=e0.up hT
 clear hT hS1
 refine D ?_
 refine Zb rfl trivial (Z5 rfl (Z9 rfl rfl) (ZK bm lv l _ 4 _ (by decide) (by omega) gm.mkr gm.sl hl)) (fun _ _ h=>h.choose_spec.2.2.2.mono (by simp)) rfl ?_
 rintro _ wq ⟨q4,rfl,hq4,hm,hS⟩
 replace gm:=gm.nxt hm hS
 replace s0:=s0.ext hS (by simp) (fun _ h=>.inl h)
 replace e0:=e0.ext hS (by simp;exact n0)
 clear hm hS
 refine D ?_
 refine Zb rfl trivial (Z5 rfl (Z9 rfl rfl) ((ih.1) (b4 :: bm :: X) _ bm lv l _ _ (by omega) gm.mkr gm.sl hl (by omega) gm.hX)) (fun _ _ h=>by obtain ⟨_,_,_,_,_,_,h⟩:=h;exact h.mono (by simp)) rfl ?_
 rintro _ wq ⟨y1,i1,⟨k1,rfl,s1⟩,g1,hm,hi1,hS⟩
 obtain ⟨p1,c1,rfl,-⟩:=id s1
 replace gm:=gm.nxt hm hS
 replace s0:=s0.ext hS (by simp) (fun _ h=>.inl h)
 replace e0:=e0.ext hS (by simp;exact n0)
 clear hm hS
 refine D ?_
 refine Zb rfl trivial (Z2 (vs:=[(0,.agg #[.int .i64 y0.kind,.int .i64 y0.num,str y0.word,.slice p0 y0.kids.length c0]),(1,.agg #[.int .i64 y1.kind,.int .i64 y1.num,str y1.word,.slice p1 y1.kids.length c1])]) rfl (Jw _ _ _ _ _ _ _ _ _ _ _ _)) (fun _ _ h=>(Zc.stp h).mono (by simp)) rfl ?_
 rintro bv wq hN
 have hbv:SlV (b4 :: bm :: X) wq bv [y0,y1]:=hN.slvG (css:=[ndC y0 _,ndC y1 _]) gm.hX rfl rfl rfl (Z1V s0 s1) (by simp [maxLen])
 have hT:=Zc.stp hN
 clear hN
 replace gm:=gm.up hT
 clear hT
 refine D ?_
 refine Zb rfl trivial (Z5 rfl (ZH rfl rfl rfl) (ZF (b4 :: bm :: X) (7+(q4:Int) / 3) Z57[q'] bv [y0,y1] _ gm.hX hbv)) (fun _ _ h=>h.2.mono (by simp)) rfl ?_
 rintro _ wq ⟨⟨ky,rfl,hy⟩,hT⟩
 replace gm:=gm.up hT
 clear hT hbv
 refine D ?_
 obtain ⟨cs,hcl,hcb⟩:=gm.blk
 refine ZG rfl trivial (Z1 (us:=ndC (.mk (7+(q4:Int) / 3) 0 Z57[q'] [y0,y1]) _) rfl rfl rfl rfl (Zk (x:=(.mk (7+(q4:Int) / 3) 0 Z57[q'] [y0,y1])) hy) hcb hcl.symm) (fun _ _ h=>h.1.mono (by simp)) ?_
 rintro _ wz ⟨hz,hbz⟩
 refine D ?_
 refine W ?_
 refine Zu rfl rfl rfl hbz rfl ?_
 have hf:=gm.fin (y:=(.mk (7+(q4:Int) / 3) 0 Z57[q'] [y0,y1])) hS0 hb4 hy hz
 exact .mk ⟨_,_,hf.1,.move _ _ _ _ _ (by omega) hu g0 g1,hf.2.1,by omega,hf.2.2⟩
open Go Go.Eng Go.RowKit Go.Proofs
theorem Z4M (n:Int) (w:World) (h0:0≤n) (h1:n≤9223372036854775807):CC 254 #[.int .i64 n] w fun r w'=>r=str (Lib.itoa n)∧Stp [] w w':=by
 obtain ⟨u,rfl⟩:∃ u:Nat,n=(u:Int):=⟨n.toNat,by omega⟩
 have hit:Lib.itoa (u:Int)=Lib.decDigits u:=by unfold Lib.itoa;rw [if_neg (by omega)];rfl
 rw [hit]
 have hlen:(Lib.decDigits u).length≤19:=Z01 18 u (by omega)
 refine cW1 32 Tryz.func254 ?_
 by_cases hz:(u:Int)=0
 obtain rfl:u=0:=by omega
 focus repeat'(first|refine W1 ?_|omega|refine VG ?_ ?_<;>intro hg|refine VC ?_ ?_<;>intro hc)
 refine WR ?_
 exact .mk ⟨by rw [Lib.decDigits];rfl,Stp.refl _ _⟩
 focus repeat'(first|refine W1 ?_|omega|refine VG ?_ ?_<;>intro hg|refine VC ?_ ?_<;>intro hc)
 refine ZD (σ:=Nat×Str) (fun q=>[(0,.int .i64 (u:Int)),(3,str [48,49,50,51,52,53,54,55,56,57]),(4,str q.2),(5,.int .i64 (q.1:Int))]) (fun q w'=>w'=w∧q.1≤u∧(if q.1=0 then [] else Lib.decDigits q.1)++q.2=Lib.decDigits u) (fun q=>q.1) (u,[]) ⟨rfl,rfl,rfl,rfl,trivial⟩ ⟨rfl,Xo _,by simp only;rw [if_neg (by omega)];simp⟩ ?_
 rintro ⟨k,s⟩ w1 ⟨rfl,hk,he⟩
 dsimp only at hk he ⊢
 have hsl:s.length≤19:=by
  have:=congrArg List.length he
  simp only [Xb] at this
  omega
 by_cases hk0:(k:Int)=0
 obtain rfl:k=0:=by omega
 focus repeat'(first|refine W1 ?_|omega|refine VG ?_ ?_<;>intro hg|refine VC ?_ ?_<;>intro hc)
 refine WR ?_
 exact .mk ⟨by simpa using congrArg str he,Stp.refl _ _⟩
 have hst:=ZaE k (by omega)
 rw [if_neg (by omega),hst,Xr] at he
 focus repeat'(first|refine W1 ?_|omega|refine VG ?_ ?_<;>intro hg|refine VC ?_ ?_<;>intro hc)
 refine Z7 (Z3s (l:=k % 10) (r:=k % 10+1) rfl rfl rfl (by omega) (by omega) (by omega) (by show k % 10+1≤10;omega)) rfl ?_
 rw [Z8H (k % 10) (by omega)]
 refine W ?_
 refine ZQ rfl rfl (by simp;omega) rfl ?_
 refine W ?_
 refine Zr (k / 10,[UInt8.ofNat (48+k % 10)]++s) ⟨rfl,rfl,rfl,by simp only [Int.natCast_ediv];rfl,trivial⟩ ⟨rfl,by dsimp only;omega,by dsimp only;exact he⟩ (by dsimp only;omega)
theorem Z8g (n:Int) (w:World) (h0:0≤n) (h1:n≤9223372036854775807):CC 293 #[.int .i64 n] w fun r w'=>r=str (Lib.itoa n)∧Stp [] w w':=by
 obtain ⟨u,rfl⟩:∃ u:Nat,n=(u:Int):=⟨n.toNat,by omega⟩
 have hit:Lib.itoa (u:Int)=Lib.decDigits u:=by unfold Lib.itoa;rw [if_neg (by omega)];rfl
 rw [hit]
 have hlen:(Lib.decDigits u).length≤19:=Z01 18 u (by omega)
 refine cW1 32 Tryz.func293 ?_
 by_cases hz:(u:Int)=0
 obtain rfl:u=0:=by omega
 focus repeat'(first|refine W1 ?_|omega|refine VG ?_ ?_<;>intro hg|refine VC ?_ ?_<;>intro hc)
 refine WR ?_
 exact .mk ⟨by rw [Lib.decDigits];rfl,Stp.refl _ _⟩
 focus repeat'(first|refine W1 ?_|omega|refine VG ?_ ?_<;>intro hg|refine VC ?_ ?_<;>intro hc)
 refine ZD (σ:=Nat×Str) (fun q=>[(0,.int .i64 (u:Int)),(3,str [48,49,50,51,52,53,54,55,56,57]),(4,str q.2),(5,.int .i64 (q.1:Int))]) (fun q w'=>w'=w∧q.1≤u∧(if q.1=0 then [] else Lib.decDigits q.1)++q.2=Lib.decDigits u) (fun q=>q.1) (u,[]) ⟨rfl,rfl,rfl,rfl,trivial⟩ ⟨rfl,Xo _,by simp only;rw [if_neg (by omega)];simp⟩ ?_
 rintro ⟨k,s⟩ w1 ⟨rfl,hk,he⟩
 dsimp only at hk he ⊢
 have hsl:s.length≤19:=by
  have:=congrArg List.length he
  simp only [Xb] at this
  omega
 by_cases hk0:(k:Int)=0
 obtain rfl:k=0:=by omega
 focus repeat'(first|refine W1 ?_|omega|refine VG ?_ ?_<;>intro hg|refine VC ?_ ?_<;>intro hc)
 refine WR ?_
 exact .mk ⟨by simpa using congrArg str he,Stp.refl _ _⟩
 have hst:=ZaE k (by omega)
 rw [if_neg (by omega),hst,Xr] at he
 focus repeat'(first|refine W1 ?_|omega|refine VG ?_ ?_<;>intro hg|refine VC ?_ ?_<;>intro hc)
 refine Z7 (Z3s (l:=k % 10) (r:=k % 10+1) rfl rfl rfl (by omega) (by omega) (by omega) (by show k % 10+1≤10;omega)) rfl ?_
 rw [Z8H (k % 10) (by omega)]
 refine W ?_
 refine ZQ rfl rfl (by simp;omega) rfl ?_
 refine W ?_
 refine Zr (k / 10,[UInt8.ofNat (48+k % 10)]++s) ⟨rfl,rfl,rfl,by simp only [Int.natCast_ediv];rfl,trivial⟩ ⟨rfl,by dsimp only;omega,by dsimp only;exact he⟩ (by dsimp only;omega)
theorem Zet (y:Int) (w:World) (h0:0≤y) (h1:y≤100000):CC 297 #[.int .i64 y] w fun r w'=>r=.bool (Z0L y)∧w'=w:=by
 unfold Z0L
 refine cW1 16 Tryz.func297 ?_
 repeat'(first|refine W1 ?_|omega|refine VG ?_ ?_<;>intro hg|refine VC ?_ ?_<;>intro hc)
 all_goals refine WR ?_
 all_goals refine .mk ⟨?_,rfl⟩
 all_goals congr 1
 all_goals (first|done|(rw [X0];simp;omega)|(simp [*]))
theorem Z6E (y m:Int) (w:World) (h0:0≤y) (h1:y≤100000):CC 264 #[.int .i64 y,.int .i64 m] w fun r w'=>r=.int .i64 (ZM y m)∧w'=w:=by
 unfold ZM
 by_cases hm:m<1∨12<m
 · rw [if_pos hm]
   refine cW2 23 Tryz.func264 ?_
   repeat'(first|refine W1 ?_|omega|refine VG ?_ ?_<;>intro hg|refine VC ?_ ?_<;>intro hc)
   all_goals first
    | omega
    | (refine WR ?_
       exact .mk ⟨rfl,rfl⟩)
 rw [if_neg hm]
 by_cases h2:m=2
 subst h2
 rw [if_pos rfl]
 refine cW2 23 Tryz.func264 ?_
 focus repeat'(first|refine W1 ?_|omega|refine VG ?_ ?_<;>intro hg|refine VC ?_ ?_<;>intro hc)
 refine CL rfl (Zp rfl) rfl (Zet y _ h0 h1) ?_
 rintro _ _ ⟨rfl,rfl⟩
 cases Z0L y
 refine W ?_
 refine WR ?_
 exact .mk ⟨rfl,rfl⟩
 refine W ?_
 refine WR ?_
 exact .mk ⟨rfl,rfl⟩
 rw [if_neg h2]
 by_cases h4:m=4∨m=6∨m=9∨m=11
 · rw [if_pos h4]
   refine cW2 23 Tryz.func264 ?_
   rcases h4 with rfl|rfl|rfl|rfl
   all_goals
    repeat'(first|refine W1 ?_|omega|refine VG ?_ ?_<;>intro hg|refine VC ?_ ?_<;>intro hc)
    refine WR ?_
    exact .mk ⟨rfl,rfl⟩
 · rw [if_neg h4]
   refine cW2 23 Tryz.func264 ?_
   have h5:m=1∨m=3∨m=5∨m=7∨m=8∨m=10∨m=12:=by omega
   rcases h5 with rfl|rfl|rfl|rfl|rfl|rfl|rfl
   all_goals
    repeat'(first|refine W1 ?_|omega|refine VG ?_ ?_<;>intro hg|refine VC ?_ ?_<;>intro hc)
    refine WR ?_
    exact .mk ⟨rfl,rfl⟩
theorem Z7S (y:Int) (w:World) (h0:1≤y) (h1:y≤100000):CC 292 #[.int .i64 y] w fun r w'=>r=.int .i64 (Ja y)∧w'=w:=by
 refine cW1 17 Tryz.func292 ?_
 repeat'(first|refine W1 ?_|omega|refine VG ?_ ?_<;>intro hg|refine VC ?_ ?_<;>intro hc)
 refine WR ?_
 exact .mk ⟨rfl,rfl⟩
abbrev Z9F (y m d:Int):List Value:=[.int .i64 y,.int .i64 m,.int .i64 d]
theorem ZgL (y m:Int) (w:World):(Instr.build 291 #[(0,.int .i64 y),(1,.int .i64 m)]).run Tryz.prog w=.ok (.agg #[.int .i64 y,.int .i64 m,.int .i64 0]) w:=by kernel_rfl
theorem ZiK (n:Int) (w:World) (h0:0≤n) (h1:n≤3652058):CC 252 #[.int .i64 n] w fun r w'=>r=.tuple #[ZdZ (ofM n).y (ofM n).m (ofM n).d,.int .i64 0]∧Stp [] w w':=by
 obtain ⟨K,hK,hm,hy1,hy2,hn,hd1,hd2,hs1,hs2⟩:=ZdY h0 h1
 generalize (ofM n).y=Y at *
 generalize (ofM n).m=M at *
 generalize (ofM n).d=D at *
 subst hm
 refine cW1 54 Tryz.func252 ?_
 refine W ?_
 refine Z3 Z6 rfl ?_
 rintro _ w1 ⟨b2,rfl,hb2,e2,hS⟩
 have hb2w:=hS.size
 repeat'(first|refine W1 ?_|omega|refine VG ?_ ?_<;>intro hg|refine VC ?_ ?_<;>intro hc)
 refine Ze (vs:=[(0,.int .i64 _),(1,.int .i64 _)]) rfl (ZgL _ _) rfl ?_
 refine Z3 Z6 rfl ?_
 rintro _ w2 ⟨b4,rfl,hb4,e4',hT⟩
 have n2:b4≠b2:=by have:=e2.lt;omega
 replace e2:=e2.up hT
 replace hS:=hS.trans hT
 refine Z0 (Z1 (us:=Z9F (n / 366+1) 1 0) rfl rfl rfl rfl (by simp;exact ⟨rfl,rfl,rfl⟩) e4' rfl) ?_
 rintro _ w3 ⟨hT,e4⟩
 replace e2:=e2.ext hT (by simpa using n2.symm)
 replace hS:=hS.own hT (fun c hc=>.inr (by simp at hc;omega))
 clear e4' hT
 have hlt4:=e4.lt
 have hY0:n / 366+1≤Y:=by
  have:Ja (Y+1)≤366 * Y:=by unfold Ja;omega
  omega
 have hYs:Ja (n / 366+1)≤n:=Int.le_trans (Z1Y hY0) hs1
 refine W ?_
 refine ZD (σ:=Int) (fun y=>[(0,.int .i64 n),(2,.pointer (some ⟨b2,0,none⟩)),(4,.pointer (some ⟨b4,0,none⟩))]) (fun y w'=>n / 366+1≤y∧y≤Y∧Blk w' b4 291 (Z9F y 1 0)∧Blk w' b2 291 (Z9F 0 0 0)∧Stp [] w w') (fun y=>(Y - y).toNat) (n / 366+1) ⟨rfl,rfl,rfl,trivial⟩ ⟨Yaw _,hY0,e4,e2,hS⟩ ?_
 clear e4 e2 hS
 rintro y w4 ⟨hy0,hyY,e4,e2,hS⟩
 refine W ?_
 refine CL rfl (Zp rfl) rfl (Z7S (y+1) _ (by omega) (by omega)) ?_
 rintro _ _ ⟨rfl,rfl⟩
 by_cases hgo:Ja (y+1)≤n
 have hlt:y<Y:=by
  by_cases e:y=Y
  subst e;omega
  omega
 focus repeat'(first|refine W1 ?_|omega|refine VG ?_ ?_<;>intro hg|refine VC ?_ ?_<;>intro hc)
 refine Z0 (Zj (u:=.int .i64 (y+1)) rfl rfl rfl rfl e4 (by simp)) ?_
 rintro _ w5 ⟨hT,e4'⟩
 replace e4':Blk w5 b4 291 (Z9F (y+1) 1 0):=e4'
 replace e2:=e2.ext hT (by simpa using n2.symm)
 replace hS:=hS.own hT (fun c hc=>.inr (by simp at hc;omega))
 refine W ?_
 exact Zr (y+1) ⟨rfl,rfl,rfl,trivial⟩ ⟨by omega,by omega,e4',e2,hS⟩ (by omega)
 have hYe:y=Y:=by
  by_cases e:y=Y
  exact e
  have:=Z1Y (a:=y+1) (b:=Y) (by omega);omega
 subst hYe
 repeat'(first|refine W1 ?_|omega|refine VG ?_ ?_<;>intro hg|refine VC ?_ ?_<;>intro hc)
 refine CL rfl (Zp rfl) rfl (Z7S y _ (by omega) (by omega)) ?_
 rintro _ _ ⟨rfl,rfl⟩
 have hsb:-1000000≤Ja y∧Ja y≤100000000:=by unfold Ja;omega
 have hcb:∀ k:Nat,k≤11→0≤Z0m y k∧Z0m y k≤366:=fun k hk=>by
  have:=Z0Q (y:=y) (a:=0) (b:=k) (by omega) (by omega)
  have:=Z0Q (y:=y) (a:=k) (b:=12) (by omega) (by omega)
  have:=Zga y
  have e0:Z0m y 0=0:=rfl
  split at this<;>omega
 refine W ?_
 refine ZD (σ:=Nat) (fun k=>[(0,.int .i64 n),(2,.pointer (some ⟨b2,0,none⟩)),(4,.pointer (some ⟨b4,0,none⟩)),(5,.int .i64 (n - Ja y - Z0m y k))]) (fun k w'=>k≤K∧Blk w' b4 291 (Z9F y ((k:Int)+1) 0)∧Blk w' b2 291 (Z9F 0 0 0)∧Stp [] w w') (fun k=>K - k) 0 ⟨rfl,rfl,rfl,by rw [show n - Ja y - Z0m y 0=n - Ja y by simp [Z0m]];rfl,trivial⟩ ⟨Xy _,e4,e2,hS⟩ ?_
 clear e4 e2 hS
 rintro k w5 ⟨hkK,e4,e2,hS⟩
 have hck:=hcb k (by omega)
 have hcK:=hcb K (by omega)
 have hlp:=Z1Z (y:=y) (k:=k) (by omega)
 have hll:=Z19 y ((k:Int)+1)
 refine W ?_
 refine CL rfl (Z9 rfl rfl) rfl (Z6E y ((k:Int)+1) _ (by omega) (by omega)) ?_
 rintro _ _ ⟨rfl,rfl⟩
 by_cases hgo:k<K
 have hm1:=Z0Q (y:=y) (a:=k+1) (b:=K) (by omega) (by omega)
 have hm2:Z0m y (k+1)=Z0m y k+ZM y ((k:Int)+1):=rfl
 focus repeat'(first|refine W1 ?_|omega|refine VG ?_ ?_<;>intro hg|refine VC ?_ ?_<;>intro hc)
 refine CL rfl (Z9 rfl rfl) rfl (Z6E y ((k:Int)+1) _ (by omega) (by omega)) ?_
 rintro _ _ ⟨rfl,rfl⟩
 refine W ?_
 refine Z0 (Zj (u:=.int .i64 ((k:Int)+1+1)) rfl rfl rfl rfl e4 (by simp)) ?_
 rintro _ w6 ⟨hT,e4'⟩
 replace e4':Blk w6 b4 291 (Z9F y (((k+1:Nat):Int)+1) 0):=e4'
 replace e2:=e2.ext hT (by simpa using n2.symm)
 replace hS:=hS.own hT (fun c hc=>.inr (by simp at hc;omega))
 refine W ?_
 exact Zr (k+1) ⟨rfl,rfl,rfl,by rw [hm2,show n - Ja y - (Z0m y k+ZM y ((k:Int)+1))=n - Ja y - Z0m y k - ZM y ((k:Int)+1) by omega];rfl,trivial⟩ ⟨by omega,e4',e2,hS⟩ (by omega)
 obtain rfl:k=K:=by omega
 repeat'(first|refine W1 ?_|omega|refine VG ?_ ?_<;>intro hg|refine VC ?_ ?_<;>intro hc)
 refine Z0 (Zj (u:=.int .i64 (n - Ja y - Z0m y k+1)) rfl rfl rfl rfl e4 (by simp)) ?_
 rintro _ w6 ⟨hT,e4'⟩
 replace e4':Blk w6 b4 291 (Z9F y ((k:Int)+1) (n - Ja y - Z0m y k+1)):=e4'
 rw [show n - Ja y - Z0m y k+1=D by omega] at e4'
 replace e2:=e2.ext hT (by simpa using n2.symm)
 replace hS:=hS.own hT (fun c hc=>.inr (by simp at hc;omega))
 refine W ?_
 refine Z0 (Z1 (us:=Z9F y ((k:Int)+1) D) rfl rfl rfl rfl (by simp;exact ⟨rfl,rfl,rfl⟩) e2 rfl) ?_
 rintro _ w7 ⟨hT,e2'⟩
 replace hS:=hS.own hT (fun c hc=>.inr (by simp at hc;omega))
 refine W ?_
 refine J5 rfl rfl rfl e2' rfl rfl ?_
 exact .mk ⟨rfl,hS⟩
theorem Z4l (n:Int) (k:Nat) (w:World) (h0:0≤n) (h1:n≤9999) (hk:k≤100):CC 253 #[.int .i64 n,.int .i64 (k:Int)] w fun r w'=>r=str (Z7v k (Lib.itoa n))∧Stp [] w w':=by
 have hl:(Lib.itoa n).length≤4:=by
  unfold Lib.itoa
  rw [if_neg (by omega)]
  exact Z01 3 n.toNat (by omega)
 refine cW2 15 Tryz.func253 ?_
 refine W ?_
 refine CL rfl (Zp rfl) rfl (Z8g n _ h0 (by omega)) ?_
 rintro _ w1 ⟨rfl,hS⟩
 refine W ?_
 generalize Lib.itoa n=s at *
 refine ZD (σ:=Nat) (fun j=>[(1,.int .i64 (k:Int)),(5,str (List.replicate j 48++s))]) (fun j w'=>(j=0∨j+s.length≤k)∧w'=w1) (fun j=>k - j) 0 ⟨rfl,rfl,trivial⟩ ⟨.inl rfl,rfl⟩ ?_
 rintro j w2 ⟨hj,rfl⟩
 have hlen:(List.replicate j 48++s:Str).length=j+s.length:=by simp
 by_cases hgo:j+s.length<k
 focus repeat'(first|refine W1 ?_|omega|refine VG ?_ ?_<;>intro hg|refine VC ?_ ?_<;>intro hc)
 refine ZQ rfl rfl (by simp;omega) rfl ?_
 refine W ?_
 exact Zr (j+1) ⟨rfl,by rw [List.replicate_succ];rfl,trivial⟩ ⟨.inr (by omega),rfl⟩ (by omega)
 focus repeat'(first|refine W1 ?_|omega|refine VG ?_ ?_<;>intro hg|refine VC ?_ ?_<;>intro hc)
 refine WR ?_
 refine .mk ⟨?_,hS⟩
 unfold Z7v
 rw [show k - s.length=j by omega]
theorem Z7T (n:Int) (w:World) (h0:0≤n) (h1:n≤3652058):CC 171 #[.int .i64 n] w fun r w'=>r=str (Zh n)∧Stp [] w w':=by
 obtain ⟨g1,g2,g3,g4,g5,g6,g7⟩:=Z43 h0 h1
 have g8:=Z19 (ofM n).y (ofM n).m
 have hli:∀ (z:Int),0≤z→z≤9999→(Lib.itoa z).length≤4:=fun z hz h=>by
  unfold Lib.itoa
  rw [if_neg (by omega)]
  exact Z01 3 z.toNat (by omega)
 have hpl:∀ (z:Int) (k:Nat),0≤z→z≤9999→(Z7v k (Lib.itoa z)).length≤k+4:=fun z k hz h=>by
  have:=hli z hz h
  unfold Z7v
  simp
  omega
 unfold Zh
 have hOf:=ZiK n w h0 h1
 generalize ofM n=dd at *
 refine cW1 25 Tryz.func171 ?_
 refine W ?_
 refine CL rfl (Zp rfl) rfl hOf ?_
 rintro _ w1 ⟨rfl,hS⟩
 refine W ?_
 refine Z3 Z6 rfl ?_
 rintro _ w2 ⟨b3,rfl,hb3,e3,hT1⟩
 have hw:=hS.size
 replace hS:=hS.trans hT1
 clear hT1
 refine Z0 (Z1 (us:=[.int .i64 dd.y,.int .i64 dd.m,.int .i64 dd.d]) rfl rfl rfl rfl (by simp;exact ⟨rfl,rfl,rfl⟩) e3 rfl) ?_
 rintro _ w3 ⟨hT1,e3'⟩
 replace hS:=hS.own hT1 (fun c hc=>.inr (by simp at hc;omega))
 clear e3 hT1
 have p1:=hpl dd.y 4 (by omega) (by omega)
 have p2:=hpl dd.m 2 (by omega) (by omega)
 have p3:=hpl dd.d 2 (by omega) (by omega)
 repeat'(first|refine W1 ?_|omega|refine VG ?_ ?_<;>intro hg|refine VC ?_ ?_<;>intro hc)
 refine ZDr 14 [] [] [(0,0),(1,1),(4,0),(5,1),(9,0),(10,1),(2,2),(3,0),(6,2),(7,0),(8,0),(11,2),(12,0),(13,0)] (fun w1 hS1=>?_)
 replace e3':=e3'.up hS1
 replace hS:=hS.trans hS1
 clear hS1
 refine D ?_
 have hp:=Z4l dd.y 4 w1 (by omega) (by omega) (by omega)
 refine Zb rfl trivial (Z5 rfl (Z9 rfl rfl) hp) (fun _ _ h=>h.2) rfl ?_
 clear hp
 rintro _ w5 ⟨rfl,hT1⟩
 replace e3':=e3'.up hT1
 replace hS:=hS.trans hT1
 clear hT1
 refine ZE rfl trivial (fun _=>Z1h rfl rfl (by simp;omega)) rfl ?_
 refine D ?_
 have hp:=Z4l dd.m 2 w5 (by omega) (by omega) (by omega)
 refine Zb rfl trivial (Z5 rfl (Z9 rfl rfl) hp) (fun _ _ h=>h.2) rfl ?_
 clear hp
 rintro _ w6 ⟨rfl,hT1⟩
 replace e3':=e3'.up hT1
 replace hS:=hS.trans hT1
 clear hT1
 refine ZE rfl trivial (fun _=>Z1h rfl rfl (by simp;omega)) rfl ?_
 refine ZE rfl trivial (fun _=>Z1h rfl rfl (by simp;omega)) rfl ?_
 refine D ?_
 have hp:=Z4l dd.d 2 w6 (by omega) (by omega) (by omega)
 refine Zb rfl trivial (Z5 rfl (Z9 rfl rfl) hp) (fun _ _ h=>h.2) rfl ?_
 clear hp
 rintro _ w7 ⟨rfl,hT1⟩
 replace e3':=e3'.up hT1
 replace hS:=hS.trans hT1
 clear hT1
 refine ZE rfl trivial (fun _=>Z1h rfl rfl (by simp;omega)) rfl ?_
 refine D ?_
 refine W ?_
 refine WR ?_
 exact .mk ⟨rfl,hS⟩
theorem Zbd (X:List Nat) (v:Value) (l:List Str) (s:Str) (w:World) (hs:SlV X w v l):CC 314 #[v,str s] w fun r w'=>r=.bool (decide (s∈l))∧w'=w:=by
 have hmax:=hs.max
 refine cW2 18 Tryz.func314 ?_
 refine W ?_
 refine ZD (σ:=Nat) (fun i=>[(0,v),(1,str s),(5,.int .i64 (i:Int))]) (fun i w'=>w'=w∧i≤l.length∧s∉l.take i) (fun i=>l.length - i) 0 ⟨rfl,rfl,rfl,trivial⟩ ⟨rfl,Xy _,by simp⟩ ?_
 rintro i w1 ⟨rfl,hi,hno⟩
 by_cases hlt:i<l.length
 focus repeat'(first|refine W1 ?_|omega|refine VG ?_ ?_<;>intro hg|refine VC ?_ ?_<;>intro hc)
 have he:=hc
 refine WR ?_
 exact .mk ⟨by rw [decide_eq_true (he ▸ Xg hlt)],rfl⟩
 have he:=hc
 exact Zr (i+1) ⟨rfl,rfl,rfl,trivial⟩ ⟨rfl,hlt,by
  rw [Xu hlt]
  simp only [Xt,Xq,not_or]
  exact ⟨hno,fun h=>he h.symm⟩⟩ (by omega)
 obtain rfl:i=l.length:=by omega
 rw [XL] at hno
 focus repeat'(first|refine W1 ?_|omega|refine VG ?_ ?_<;>intro hg|refine VC ?_ ?_<;>intro hc)
 refine WR ?_
 exact .mk ⟨by rw [decide_eq_false hno],rfl⟩
theorem Zn2 {s:Str} {k:Nat} (hk:1≤k) (hk5:k≤5) (h3:k≠3) (h:s∈Z5G (k:Int)):Zm s=k:=by
 have:k=1∨k=2∨k=4∨k=5:=by omega
 rcases this with rfl|rfl|rfl|rfl
 revert h;have:∀ s∈Z5G 1,Zm s=1:=by decide
 exact this s
 revert h;have:∀ s∈Z5G 2,Zm s=2:=by decide
 exact this s
 revert h;have:∀ s∈Z5G 4,Zm s=4:=by decide
 exact this s
 revert h;have:∀ s∈Z5G 5,Zm s=5:=by decide
 exact this s
theorem ZiL {s:Str} (hm:s∈Z5X) (h:∀ k:Nat,1≤k→k<6→k≠3→s∉Z5G (k:Int)):Zm s=6:=by
 have h1:=h 1 (by omega) (by omega) (by omega)
 have h2:=h 2 (by omega) (by omega) (by omega)
 have h4:=h 4 (by omega) (by omega) (by omega)
 have h5:=h 5 (by omega) (by omega) (by omega)
 have key:∀ s∈Z5X,s∉Z5G 1→s∉Z5G 2→s∉Z5G 4→s∉Z5G 5→Zm s=6:=by decide
 exact key s hm h1 h2 h4 h5
theorem Z2O (x:Nd) (hx:Wf x) (X:List Nat) (v:Value) (w:World) (hv:NdV X w v x):CC 294 #[v] w fun r w'=>r=.int .i64 (lvl x:Int)∧Stp [] w w':=by
 obtain ⟨kv,rfl,hs⟩:=hv
 have hop:x.kind=6→x.word∈Z5X:=by
  intro h
  cases hx with
  | bin s a b hs1 ha hb=>exact Z7s hs1
  | _=>exact absurd h (by simp only [Nd.kind];decide)
 generalize hk:x.kind=k at *
 generalize hw:x.word=s at *
 have hlv:lvl x=if k=6 then Zm s else if k=7∨k=8 then 5 else if k=5 then (if s=[110,111,116] then 3 else 7) else 8:=by unfold lvl;rw [hk,hw]
 rw [hlv]
 refine cW1 30 Tryz.func294 ?_
 refine W ?_
 refine Z3 (Zs rfl) rfl ?_
 rintro _ w1 ⟨b,rfl,hb,hblk,hS⟩
 replace hblk:Blk w1 b _ [.int .i64 k,.int .i64 x.num,str s,kv]:=hblk
 by_cases h78:k=7∨k=8
 · rw [if_neg (by omega),if_pos h78]
   repeat'(first|refine W1 ?_|omega|refine VG ?_ ?_<;>intro hg|refine VC ?_ ?_<;>intro hc)
   all_goals refine WR ?_
   all_goals exact .mk ⟨rfl,hS⟩
 by_cases h5:k=5
 rw [if_neg (by omega),if_neg h78,if_pos h5]
 focus repeat'(first|refine W1 ?_|omega|refine VG ?_ ?_<;>intro hg|refine VC ?_ ?_<;>intro hc)
 have hn:=hc
 refine WR ?_
 exact .mk ⟨by rw [if_pos hn];rfl,hS⟩
 have hn:=hc
 refine WR ?_
 exact .mk ⟨by rw [if_neg hn];rfl,hS⟩
 by_cases h6:k=6
 rw [if_pos h6]
 have hop:=hop h6
 focus repeat'(first|refine W1 ?_|omega|refine VG ?_ ?_<;>intro hg|refine VC ?_ ?_<;>intro hc)
 refine ZD (σ:=Nat) (fun j=>[(1,.pointer (some ⟨b,0,none⟩)),(3,.int .i64 (j:Int))]) (fun j w'=>1≤j∧j≤6∧(∀ i:Nat,1≤i→i<j→i≠3→s∉Z5G (i:Int))∧Blk w' b 27 [.int .i64 k,.int .i64 x.num,str s,kv]∧Stp [] w w') (fun j=>6 - j) 1 ⟨rfl,rfl,trivial⟩ ⟨Xo _,by omega,fun i h1 h2=>by omega,hblk,hS⟩ ?_
 clear hblk hS
 rintro j w2 ⟨hj1,hj6,hno,hblk,hS⟩
 by_cases hlt:j<6
 focus repeat'(first|refine W1 ?_|omega|refine VG ?_ ?_<;>intro hg|refine VC ?_ ?_<;>intro hc)
 by_cases h3:j=3
 refine ZDr 9 [] [] [(0,0),(1,0),(2,0),(3,0),(5,0),(6,1),(4,2),(7,2),(8,0)] (fun w1 hS1=>?_)
 replace hblk:=hblk.up hS1
 replace hS:=hS.trans hS1
 clear hS1
 have e3:¬ ((j:Int)≠3):=by omega
 focus repeat'(first|refine D1 ?_|omega|refine Z0r rfl rfl rfl rfl (fun hg=>?_) (fun hg=>?_)|(refine JY rfl rfl rfl rfl (fun hg=>?_) (fun hg=>?_)<;>refine D1 ?_)|fail)
 focus repeat'(first|refine W1 ?_|omega|refine VG ?_ ?_<;>intro hg|refine VC ?_ ?_<;>intro hc)
 exact Zr (j+1) ⟨rfl,rfl,trivial⟩ ⟨by omega,by omega,fun i h1 h2 hi=>hno i h1 (by omega) hi,hblk,hS⟩ (by omega)
 refine ZDr 9 [] [] [(0,0),(1,0),(2,0),(3,0),(5,0),(6,1),(4,2),(7,2),(8,0)] (fun w1 hS1=>?_)
 replace hblk:=hblk.up hS1
 replace hS:=hS.trans hS1
 clear hS1
 focus repeat'(first|refine D1 ?_|omega|refine Z0r rfl rfl rfl rfl (fun hg=>?_) (fun hg=>?_)|(refine JY rfl rfl rfl rfl (fun hg=>?_) (fun hg=>?_)<;>refine D1 ?_)|fail)
 refine Zb rfl rfl (Z5 rfl (Zp rfl) (Z3Q [] (j:Int) _ (by simp))) (fun _ _ h=>h.2) rfl ?_
 rintro lv w3 ⟨hlv',hT⟩
 replace hblk:=hblk.up hT
 replace hS:=hS.trans hT
 clear hT
 focus repeat'(first|refine D1 ?_|omega|refine Z0r rfl rfl rfl rfl (fun hg=>?_) (fun hg=>?_)|(refine JY rfl rfl rfl rfl (fun hg=>?_) (fun hg=>?_)<;>refine D1 ?_)|fail)
 refine Zb rfl rfl (Z5 rfl (Z9 rfl rfl) (Zbd [] lv _ s _ hlv')) (fun _ _ h=>by rw [h.2];exact Stp.refl _ _) rfl ?_
 rintro _ w4 ⟨rfl,rfl⟩
 by_cases hin:s∈Z5G (j:Int)
 simp only [hin,decide_true]
 focus repeat'(first|refine D1 ?_|omega|refine Z0r rfl rfl rfl rfl (fun hg=>?_) (fun hg=>?_)|(refine JY rfl rfl rfl rfl (fun hg=>?_) (fun hg=>?_)<;>refine D1 ?_)|fail)
 focus repeat'(first|refine W1 ?_|omega|refine VG ?_ ?_<;>intro hg|refine VC ?_ ?_<;>intro hc)
 refine WR ?_
 exact .mk ⟨by rw [Zn2 hj1 (by omega) h3 hin],hS⟩
 simp only [hin,decide_false]
 focus repeat'(first|refine D1 ?_|omega|refine Z0r rfl rfl rfl rfl (fun hg=>?_) (fun hg=>?_)|(refine JY rfl rfl rfl rfl (fun hg=>?_) (fun hg=>?_)<;>refine D1 ?_)|fail)
 focus repeat'(first|refine W1 ?_|omega|refine VG ?_ ?_<;>intro hg|refine VC ?_ ?_<;>intro hc)
 exact Zr (j+1) ⟨rfl,rfl,trivial⟩ ⟨by omega,by omega,fun i h1 h2 hi=>by
  by_cases e:i=j
  subst e;exact hin
  exact hno i h1 (by omega) hi,hblk,hS⟩ (by omega)
 obtain rfl:j=6:=by omega
 focus repeat'(first|refine W1 ?_|omega|refine VG ?_ ?_<;>intro hg|refine VC ?_ ?_<;>intro hc)
 refine WR ?_
 exact .mk ⟨by rw [ZiL hop hno];rfl,hS⟩
 rw [if_neg h6,if_neg h78,if_neg h5]
 focus repeat'(first|refine W1 ?_|omega|refine VG ?_ ?_<;>intro hg|refine VC ?_ ?_<;>intro hc)
 refine WR ?_
 exact .mk ⟨rfl,hS⟩
def Z6F (x:Nd):Prop:=∀ (X:List Nat) (v:Value) (w:World),NdV X w v x→(Zl Zh x).length≤1000000000→CC 174 #[v] w fun r w'=>r=str (Zl Zh x)∧Stp [] w w'
theorem Jl (x:Nd) (hx:Wf x) (hsh:Z6F x) (least:Nat) (X:List Nat) (v:Value) (w:World) (hv:NdV X w v x) (hl:(Zl Zh x).length≤1000000000) :
 CC 255 #[v,.int .i64 (least:Int)] w fun r w'=>r=str (JA least (lvl x,Zl Zh x))∧Stp [] w w':=by
 obtain ⟨kv,rfl,hs⟩:=hv
 unfold JA
 simp only
 generalize hsx:Zl Zh x=sx at *
 refine cW2 15 Tryz.func255 ?_
 refine W ?_
 refine Z3 (Zs rfl) rfl ?_
 rintro _ w1 ⟨b,rfl,hb,hblk,hS⟩
 replace hblk:Blk w1 b _ (ndC x kv):=hblk
 replace hs:=hs.up hS
 refine W ?_
 refine CL rfl (Zp rfl) rfl (Z2O x hx X _ _ ⟨kv,rfl,hs⟩) ?_
 rintro _ w2 ⟨rfl,hT2⟩
 replace hs:=hs.up hT2;replace hblk:=hblk.up hT2
 replace hS:=hS.trans hT2
 clear hT2
 by_cases hlt:lvl x<least
 rw [if_pos hlt]
 focus repeat'(first|refine W1 ?_|omega|refine VG ?_ ?_<;>intro hg|refine VC ?_ ?_<;>intro hc)
 have hsh':=hsh X _ _ ⟨kv,rfl,hs⟩ (by rw [hsx];exact hl)
 rw [hsx] at hsh'
 refine Z3 (Z5 rfl (Zp rfl) hsh') rfl ?_
 rintro _ w3 ⟨rfl,hT3⟩
 replace hS:=hS.trans hT3
 refine ZQ rfl rfl (by simp;omega) rfl ?_
 refine ZQ rfl rfl (by simp;omega) rfl ?_
 refine W ?_
 refine WR ?_
 exact .mk ⟨rfl,hS⟩
 rw [if_neg hlt]
 focus repeat'(first|refine W1 ?_|omega|refine VG ?_ ?_<;>intro hg|refine VC ?_ ?_<;>intro hc)
 have hsh':=hsh X _ _ ⟨kv,rfl,hs⟩ (by rw [hsx];exact hl)
 rw [hsx] at hsh'
 refine Z3 (Z5 rfl (Zp rfl) hsh') rfl ?_
 rintro _ w3 ⟨rfl,hT3⟩
 replace hS:=hS.trans hT3
 refine W ?_
 refine WR ?_
 exact .mk ⟨rfl,hS⟩
theorem Z21 (k:Nat) (p:Nat×Str):p.2.length≤(JA k p).length∧(JA k p).length≤p.2.length+2:=by
 unfold JA
 split<;>simp<;>omega
theorem Zbe (s:Str) (a b:Nd) (hu:s∈Z0v) (ha:Wf a) (hb:Wf b) (sa:Z6F a) (sb:Z6F b) (X:List Nat) (v:Value) (w:World) (hv:NdV X w v (.mk 7 0 s [a,b])) (hl:(Zl Zh (.mk 7 0 s [a,b])).length≤1000000000) :
 CC 256 #[v] w fun r w'=>r=str (Zl Zh (.mk 7 0 s [a,b]))∧Stp [] w w':=by
 have hwf:Wf (.mk 7 0 s [a,b]):=.after s a b hu ha hb
 rw [Zt] at hl ⊢
 replace hl:(JA 5 (lvl a,Zl Zh a)++[32,43,32]++JA 6 (lvl b,Zl Zh b)++[32]++s).length≤1000000000:=hl
 have hpa:=Z21 5 (lvl a,Zl Zh a)
 have hpb:=Z21 6 (lvl b,Zl Zh b)
 show Calls _ _ _ _ (Ret fun r w'=>r=str (JA 5 (lvl a,Zl Zh a)++[32,43,32]++JA 6 (lvl b,Zl Zh b)++[32]++s)∧_)
 simp only [Xb,Xc,Xe] at hl hpa hpb
 obtain ⟨kv,rfl,hs⟩:=hv
 replace hs:SlV X w kv [a,b]:=hs
 refine cW1 55 Tryz.func256 ?_
 refine W ?_
 refine Z3 (Zs rfl) rfl ?_
 rintro _ w1 ⟨bk,rfl,hbk,hblk,hS⟩
 replace hblk:Blk w1 bk _ [.int .i64 7,.int .i64 0,str s,kv]:=hblk
 replace hs:=hs.up hS
 refine W ?_
 refine CL rfl (Zp rfl) rfl (Z2O (.mk 7 0 s [a,b]) hwf X _ _ ⟨kv,rfl,hs⟩) ?_
 rintro _ w2 ⟨rfl,hT2⟩
 replace hs:=hs.up hT2;replace hblk:=hblk.up hT2
 replace hS:=hS.trans hT2
 clear hT2
 rw [show lvl (.mk 7 0 s [a,b])=5 from rfl]
 have h0:0<([a,b]:List Nd).length:=by simp
 have h1:1<([a,b]:List Nd).length:=by simp
 obtain ⟨k0,g0,c0⟩:=hs.nd h0
 replace g0:SlV X w2 k0 a.kids:=g0
 repeat'(first|refine W1 ?_|omega|refine VG ?_ ?_<;>intro hg|refine VC ?_ ?_<;>intro hc)
 refine Z7 (ZC rfl rfl hs h0 c0) rfl ?_
 refine W ?_
 refine CL rfl (Z9 rfl rfl) rfl (Jl a ha sa 5 X _ _ ⟨k0,rfl,g0⟩ (by omega)) ?_
 rintro _ w3 ⟨rfl,hT3⟩
 replace hs:=hs.up hT3;replace hblk:=hblk.up hT3
 replace hS:=hS.trans hT3
 clear hT3
 obtain ⟨k1,g1,c1⟩:=hs.nd h1
 replace g1:SlV X w3 k1 b.kids:=g1
 refine W ?_
 refine Z7 (ZC rfl rfl hs h1 c1) rfl ?_
 refine W ?_
 refine CL rfl (Z9 rfl rfl) rfl (Jl b hb sb 6 X _ _ ⟨k1,rfl,g1⟩ (by omega)) ?_
 rintro _ w4 ⟨rfl,hT4⟩
 replace hs:=hs.up hT4;replace hblk:=hblk.up hT4
 replace hS:=hS.trans hT4
 repeat'(first|refine W1 ?_|omega|refine VG ?_ ?_<;>intro hg|refine VC ?_ ?_<;>intro hc)
 repeat'(first|refine W1 ?_|refine ZQ rfl rfl (by simp;omega) rfl ?_)
 refine WR ?_
 exact .mk ⟨by simp,hS⟩
theorem Zbf (s:Str) (a b:Nd) (hu:s∈Z0v) (ha:Wf a) (hb:Wf b) (sa:Z6F a) (sb:Z6F b) (X:List Nat) (v:Value) (w:World) (hv:NdV X w v (.mk 8 0 s [a,b])) (hl:(Zl Zh (.mk 8 0 s [a,b])).length≤1000000000) :
 CC 256 #[v] w fun r w'=>r=str (Zl Zh (.mk 8 0 s [a,b]))∧Stp [] w w':=by
 have hwf:Wf (.mk 8 0 s [a,b]):=.before s a b hu ha hb
 rw [Zt] at hl ⊢
 replace hl:(JA 5 (lvl a,Zl Zh a)++[32,45,32]++JA 6 (lvl b,Zl Zh b)++[32]++s).length≤1000000000:=hl
 have hpa:=Z21 5 (lvl a,Zl Zh a)
 have hpb:=Z21 6 (lvl b,Zl Zh b)
 show Calls _ _ _ _ (Ret fun r w'=>r=str (JA 5 (lvl a,Zl Zh a)++[32,45,32]++JA 6 (lvl b,Zl Zh b)++[32]++s)∧_)
 simp only [Xb,Xc,Xe] at hl hpa hpb
 obtain ⟨kv,rfl,hs⟩:=hv
 replace hs:SlV X w kv [a,b]:=hs
 refine cW1 55 Tryz.func256 ?_
 refine W ?_
 refine Z3 (Zs rfl) rfl ?_
 rintro _ w1 ⟨bk,rfl,hbk,hblk,hS⟩
 replace hblk:Blk w1 bk _ [.int .i64 8,.int .i64 0,str s,kv]:=hblk
 replace hs:=hs.up hS
 refine W ?_
 refine CL rfl (Zp rfl) rfl (Z2O (.mk 8 0 s [a,b]) hwf X _ _ ⟨kv,rfl,hs⟩) ?_
 rintro _ w2 ⟨rfl,hT2⟩
 replace hs:=hs.up hT2;replace hblk:=hblk.up hT2
 replace hS:=hS.trans hT2
 clear hT2
 rw [show lvl (.mk 8 0 s [a,b])=5 from rfl]
 have h0:0<([a,b]:List Nd).length:=by simp
 have h1:1<([a,b]:List Nd).length:=by simp
 obtain ⟨k0,g0,c0⟩:=hs.nd h0
 replace g0:SlV X w2 k0 a.kids:=g0
 repeat'(first|refine W1 ?_|omega|refine VG ?_ ?_<;>intro hg|refine VC ?_ ?_<;>intro hc)
 refine Z7 (ZC rfl rfl hs h0 c0) rfl ?_
 refine W ?_
 refine CL rfl (Z9 rfl rfl) rfl (Jl a ha sa 5 X _ _ ⟨k0,rfl,g0⟩ (by omega)) ?_
 rintro _ w3 ⟨rfl,hT3⟩
 replace hs:=hs.up hT3;replace hblk:=hblk.up hT3
 replace hS:=hS.trans hT3
 clear hT3
 obtain ⟨k1,g1,c1⟩:=hs.nd h1
 replace g1:SlV X w3 k1 b.kids:=g1
 refine W ?_
 refine Z7 (ZC rfl rfl hs h1 c1) rfl ?_
 refine W ?_
 refine CL rfl (Z9 rfl rfl) rfl (Jl b hb sb 6 X _ _ ⟨k1,rfl,g1⟩ (by omega)) ?_
 rintro _ w4 ⟨rfl,hT4⟩
 replace hs:=hs.up hT4;replace hblk:=hblk.up hT4
 replace hS:=hS.trans hT4
 repeat'(first|refine W1 ?_|omega|refine VG ?_ ?_<;>intro hg|refine VC ?_ ?_<;>intro hc)
 repeat'(first|refine W1 ?_|refine ZQ rfl rfl (by simp;omega) rfl ?_)
 refine WR ?_
 exact .mk ⟨by simp,hS⟩
theorem Zbg (s:Str) (a b:Nd) (hs1:1≤Zm s) (ha:Wf a) (hb:Wf b) (sa:Z6F a) (sb:Z6F b) (X:List Nat) (v:Value) (w:World) (hv:NdV X w v (.mk 6 0 s [a,b])) (hl:(Zl Zh (.mk 6 0 s [a,b])).length≤1000000000) :
 CC 256 #[v] w fun r w'=>r=str (Zl Zh (.mk 6 0 s [a,b]))∧Stp [] w w':=by
 have hwf:Wf (.mk 6 0 s [a,b]):=.bin s a b hs1 ha hb
 rw [Zt] at hl ⊢
 replace hl:(JA (Z0w (Zm s)) (lvl a,Zl Zh a)++[32]++s++[32]++JA (Zm s+1) (lvl b,Zl Zh b)).length≤1000000000:=hl
 have hpa:=Z21 (Z0w (Zm s)) (lvl a,Zl Zh a)
 have hpb:=Z21 (Zm s+1) (lvl b,Zl Zh b)
 show Calls _ _ _ _ (Ret fun r w'=>r=str (JA (Z0w (Zm s)) (lvl a,Zl Zh a)++[32]++s++[32]++JA (Zm s+1) (lvl b,Zl Zh b))∧_)
 simp only [Xb,Xc,Xe] at hl hpa hpb
 obtain ⟨kv,rfl,hs⟩:=hv
 replace hs:SlV X w kv [a,b]:=hs
 have hlo:=Z4s s
 refine cW1 55 Tryz.func256 ?_
 refine W ?_
 refine Z3 (Zs rfl) rfl ?_
 rintro _ w1 ⟨bk,rfl,hbk,hblk,hS⟩
 replace hblk:Blk w1 bk _ [.int .i64 6,.int .i64 0,str s,kv]:=hblk
 replace hs:=hs.up hS
 refine W ?_
 refine CL rfl (Zp rfl) rfl (Z2O (.mk 6 0 s [a,b]) hwf X _ _ ⟨kv,rfl,hs⟩) ?_
 rintro _ w2 ⟨rfl,hT2⟩
 replace hs:=hs.up hT2;replace hblk:=hblk.up hT2
 replace hS:=hS.trans hT2
 clear hT2
 rw [show lvl (.mk 6 0 s [a,b])=Zm s from rfl]
 have h0:0<([a,b]:List Nd).length:=by simp
 have h1:1<([a,b]:List Nd).length:=by simp
 obtain ⟨k0,g0,c0⟩:=hs.nd h0
 replace g0:SlV X w2 k0 a.kids:=g0
 have hlf:Z0w (Zm s)=if Zm s=4 then 5 else Zm s:=rfl
 generalize Z0w (Zm s)=lf at *
 generalize Zm s=lv at *
 by_cases h4:lv=4
 rw [if_pos h4] at hlf
 subst hlf
 focus repeat'(first|refine W1 ?_|omega|refine VG ?_ ?_<;>intro hg|refine VC ?_ ?_<;>intro hc)
 refine Z7 (ZC rfl rfl hs h0 c0) rfl ?_
 refine W ?_
 refine CL rfl (Z9 rfl rfl) rfl (Jl a ha sa 5 X _ _ ⟨k0,rfl,g0⟩ (by omega)) ?_
 rintro _ w3 ⟨rfl,hT3⟩
 replace hs:=hs.up hT3;replace hblk:=hblk.up hT3
 replace hS:=hS.trans hT3
 clear hT3
 obtain ⟨k1,g1,c1⟩:=hs.nd h1
 replace g1:SlV X w3 k1 b.kids:=g1
 refine W ?_
 refine Z7 (ZC rfl rfl hs h1 c1) rfl ?_
 refine W ?_
 refine CL rfl (Z9 rfl rfl) rfl (Jl b hb sb (lv+1) X _ _ ⟨k1,rfl,g1⟩ (by omega)) ?_
 rintro _ w4 ⟨rfl,hT4⟩
 replace hs:=hs.up hT4;replace hblk:=hblk.up hT4
 replace hS:=hS.trans hT4
 focus repeat'(first|refine W1 ?_|omega|refine VG ?_ ?_<;>intro hg|refine VC ?_ ?_<;>intro hc)
 focus repeat'(first|refine W1 ?_|refine ZQ rfl rfl (by simp;omega) rfl ?_)
 refine WR ?_
 exact .mk ⟨by simp,hS⟩
 rw [if_neg h4] at hlf
 subst hlf
 focus repeat'(first|refine W1 ?_|omega|refine VG ?_ ?_<;>intro hg|refine VC ?_ ?_<;>intro hc)
 refine Z7 (ZC rfl rfl hs h0 c0) rfl ?_
 refine W ?_
 refine CL rfl (Z9 rfl rfl) rfl (Jl a ha sa lf X _ _ ⟨k0,rfl,g0⟩ (by omega)) ?_
 rintro _ w3 ⟨rfl,hT3⟩
 replace hs:=hs.up hT3;replace hblk:=hblk.up hT3
 replace hS:=hS.trans hT3
 clear hT3
 obtain ⟨k1,g1,c1⟩:=hs.nd h1
 replace g1:SlV X w3 k1 b.kids:=g1
 refine W ?_
 refine Z7 (ZC rfl rfl hs h1 c1) rfl ?_
 refine W ?_
 refine CL rfl (Z9 rfl rfl) rfl (Jl b hb sb (lf+1) X _ _ ⟨k1,rfl,g1⟩ (by omega)) ?_
 rintro _ w4 ⟨rfl,hT4⟩
 replace hs:=hs.up hT4;replace hblk:=hblk.up hT4
 replace hS:=hS.trans hT4
 focus repeat'(first|refine W1 ?_|omega|refine VG ?_ ?_<;>intro hg|refine VC ?_ ?_<;>intro hc)
 focus repeat'(first|refine W1 ?_|refine ZQ rfl rfl (by simp;omega) rfl ?_)
 refine WR ?_
 exact .mk ⟨by simp,hS⟩
theorem Z8U (x:Nd):Wf x→Z6F x:=by
 induction x using Nd.ind with
 | h k n s l ih=>
 intro hwf X v w hv hl
 cases hwf with
 | num n h=>
   rw [Zt] at hl ⊢
   replace hl:(Lib.itoa n).length≤1000000000:=hl
   show Calls _ _ _ _ (Ret fun r w'=>r=str (Lib.itoa n)∧_)
   obtain ⟨kv,rfl,hs⟩:=hv
   replace hs:SlV X w kv []:=hs
   refine cW1 95 Tryz.func174 ?_
   refine W ?_
   refine Z3 (Zs rfl) rfl ?_
   rintro _ w1 ⟨bk,rfl,hbk,hblk,hS⟩
   replace hblk:Blk w1 bk _ [.int .i64 1,.int .i64 n,str [],kv]:=hblk
   replace hs:=hs.up hS
   repeat'(first|refine W1 ?_|omega|refine VG ?_ ?_<;>intro hg|refine VC ?_ ?_<;>intro hc)
   refine CL rfl (Zp rfl) rfl (Z4M n _ (by omega) (by omega)) ?_
   rintro _ w3 ⟨rfl,hT3⟩
   refine W ?_
   refine WR ?_
   exact .mk ⟨rfl,hS.trans hT3⟩
 | bool n h=>
   rw [Zt] at hl ⊢
   replace hl:((if n=1 then [116,114,117,101] else [102,97,108,115,101]:Str)).length≤1000000000:=hl
   show Calls _ _ _ _ (Ret fun r w'=>r=str ((if n=1 then [116,114,117,101] else [102,97,108,115,101]:Str))∧_)
   obtain ⟨kv,rfl,hs⟩:=hv
   replace hs:SlV X w kv []:=hs
   refine cW1 95 Tryz.func174 ?_
   refine W ?_
   refine Z3 (Zs rfl) rfl ?_
   rintro _ w1 ⟨bk,rfl,hbk,hblk,hS⟩
   replace hblk:Blk w1 bk _ [.int .i64 2,.int .i64 n,str [],kv]:=hblk
   replace hs:=hs.up hS
   repeat'(first|refine W1 ?_|omega|refine VG ?_ ?_<;>intro hg|refine VC ?_ ?_<;>intro hc)
   refine WR ?_
   exact .mk ⟨by rw [if_pos (by omega)],hS⟩
   refine WR ?_
   exact .mk ⟨by rw [if_neg (by omega)],hS⟩
 | day n h=>
   rw [Zt] at hl ⊢
   replace hl:(64 :: Zh n).length≤1000000000:=hl
   show Calls _ _ _ _ (Ret fun r w'=>r=str (64 :: Zh n)∧_)
   obtain ⟨kv,rfl,hs⟩:=hv
   replace hs:SlV X w kv []:=hs
   refine cW1 95 Tryz.func174 ?_
   refine W ?_
   refine Z3 (Zs rfl) rfl ?_
   rintro _ w1 ⟨bk,rfl,hbk,hblk,hS⟩
   replace hblk:Blk w1 bk _ [.int .i64 3,.int .i64 n,str [],kv]:=hblk
   replace hs:=hs.up hS
   repeat'(first|refine W1 ?_|omega|refine VG ?_ ?_<;>intro hg|refine VC ?_ ?_<;>intro hc)
   refine CL rfl (Zp rfl) rfl (Z7T n _ (by omega) (by omega)) ?_
   rintro _ w3 ⟨rfl,hT3⟩
   have hdl:=Z2b h.1 h.2
   refine ZQ rfl rfl (by simp;omega) rfl ?_
   refine W ?_
   refine WR ?_
   exact .mk ⟨rfl,hS.trans hT3⟩
 | field s h=>
   rw [Zt] at hl ⊢
   replace hl:(s).length≤1000000000:=hl
   show Calls _ _ _ _ (Ret fun r w'=>r=str (s)∧_)
   obtain ⟨kv,rfl,hs⟩:=hv
   replace hs:SlV X w kv []:=hs
   refine cW1 95 Tryz.func174 ?_
   refine W ?_
   refine Z3 (Zs rfl) rfl ?_
   rintro _ w1 ⟨bk,rfl,hbk,hblk,hS⟩
   replace hblk:Blk w1 bk _ [.int .i64 4,.int .i64 0,str s,kv]:=hblk
   replace hs:=hs.up hS
   repeat'(first|refine W1 ?_|omega|refine VG ?_ ?_<;>intro hg|refine VC ?_ ?_<;>intro hc)
   refine WR ?_
   exact .mk ⟨rfl,hS⟩
 | neg a ha=>
   rw [Zt] at hl ⊢
   replace hl:([45]++JA 7 (lvl a,Zl Zh a)).length≤1000000000:=hl
   have hp:=Z21 7 (lvl a,Zl Zh a)
   simp only [Xb,Xc,Xe] at hl hp
   show Calls _ _ _ _ (Ret fun r w'=>r=str ([45]++JA 7 (lvl a,Zl Zh a))∧_)
   obtain ⟨kv,rfl,hs⟩:=hv
   replace hs:SlV X w kv [a]:=hs
   refine cW1 95 Tryz.func174 ?_
   refine W ?_
   refine Z3 (Zs rfl) rfl ?_
   rintro _ w1 ⟨bk,rfl,hbk,hblk,hS⟩
   replace hblk:Blk w1 bk _ [.int .i64 5,.int .i64 0,str [45],kv]:=hblk
   replace hs:=hs.up hS
   have h0:0<([a]:List Nd).length:=by simp
   obtain ⟨k0,g0,c0⟩:=hs.nd h0
   replace g0:SlV X w1 k0 a.kids:=g0
   repeat'(first|refine W1 ?_|omega|refine VG ?_ ?_<;>intro hg|refine VC ?_ ?_<;>intro hc)
   refine Z7 (ZC rfl rfl hs h0 c0) rfl ?_
   refine W ?_
   refine CL rfl (Z9 rfl rfl) rfl (Jl a ha (ih a (by simp) ha) 7 X _ _ ⟨k0,rfl,g0⟩ (by omega)) ?_
   rintro _ w3 ⟨rfl,hT3⟩
   refine ZQ rfl rfl (by simp;omega) rfl ?_
   refine W ?_
   refine WR ?_
   exact .mk ⟨rfl,hS.trans hT3⟩
 | not a ha=>
   rw [Zt] at hl ⊢
   replace hl:([110,111,116,32]++JA 3 (lvl a,Zl Zh a)).length≤1000000000:=hl
   have hp:=Z21 3 (lvl a,Zl Zh a)
   simp only [Xb,Xc,Xe] at hl hp
   show Calls _ _ _ _ (Ret fun r w'=>r=str ([110,111,116,32]++JA 3 (lvl a,Zl Zh a))∧_)
   obtain ⟨kv,rfl,hs⟩:=hv
   replace hs:SlV X w kv [a]:=hs
   refine cW1 95 Tryz.func174 ?_
   refine W ?_
   refine Z3 (Zs rfl) rfl ?_
   rintro _ w1 ⟨bk,rfl,hbk,hblk,hS⟩
   replace hblk:Blk w1 bk _ [.int .i64 5,.int .i64 0,str [110,111,116],kv]:=hblk
   replace hs:=hs.up hS
   have h0:0<([a]:List Nd).length:=by simp
   obtain ⟨k0,g0,c0⟩:=hs.nd h0
   replace g0:SlV X w1 k0 a.kids:=g0
   repeat'(first|refine W1 ?_|omega|refine VG ?_ ?_<;>intro hg|refine VC ?_ ?_<;>intro hc)
   refine Z7 (ZC rfl rfl hs h0 c0) rfl ?_
   refine W ?_
   refine CL rfl (Z9 rfl rfl) rfl (Jl a ha (ih a (by simp) ha) 3 X _ _ ⟨k0,rfl,g0⟩ (by omega)) ?_
   rintro _ w3 ⟨rfl,hT3⟩
   refine ZQ rfl rfl (by simp;omega) rfl ?_
   refine W ?_
   refine WR ?_
   exact .mk ⟨rfl,hS.trans hT3⟩
 | after s a b hu ha hb=>
   have hl0:=hl
   obtain ⟨kv,rfl,hs⟩:=hv
   replace hs:SlV X w kv [a,b]:=hs
   refine cW1 95 Tryz.func174 ?_
   refine W ?_
   refine Z3 (Zs rfl) rfl ?_
   rintro _ w1 ⟨bk,rfl,hbk,hblk,hS⟩
   replace hblk:Blk w1 bk _ [.int .i64 7,.int .i64 0,str s,kv]:=hblk
   replace hs:=hs.up hS
   repeat'(first|refine W1 ?_|omega|refine VG ?_ ?_<;>intro hg|refine VC ?_ ?_<;>intro hc)
   refine CL rfl (Zp rfl) rfl (Zbe s a b hu ha hb (ih a (by simp) ha) (ih b (by simp) hb) X _ _ ⟨kv,rfl,hs⟩ hl0) ?_
   rintro _ w3 ⟨rfl,hT3⟩
   refine W ?_
   refine WR ?_
   exact .mk ⟨rfl,hS.trans hT3⟩
 | before s a b hu ha hb=>
   have hl0:=hl
   obtain ⟨kv,rfl,hs⟩:=hv
   replace hs:SlV X w kv [a,b]:=hs
   refine cW1 95 Tryz.func174 ?_
   refine W ?_
   refine Z3 (Zs rfl) rfl ?_
   rintro _ w1 ⟨bk,rfl,hbk,hblk,hS⟩
   replace hblk:Blk w1 bk _ [.int .i64 8,.int .i64 0,str s,kv]:=hblk
   replace hs:=hs.up hS
   repeat'(first|refine W1 ?_|omega|refine VG ?_ ?_<;>intro hg|refine VC ?_ ?_<;>intro hc)
   refine CL rfl (Zp rfl) rfl (Zbf s a b hu ha hb (ih a (by simp) ha) (ih b (by simp) hb) X _ _ ⟨kv,rfl,hs⟩ hl0) ?_
   rintro _ w3 ⟨rfl,hT3⟩
   refine W ?_
   refine WR ?_
   exact .mk ⟨rfl,hS.trans hT3⟩
 | bin s a b hs1 ha hb=>
   have hl0:=hl
   obtain ⟨kv,rfl,hs⟩:=hv
   replace hs:SlV X w kv [a,b]:=hs
   refine cW1 95 Tryz.func174 ?_
   refine W ?_
   refine Z3 (Zs rfl) rfl ?_
   rintro _ w1 ⟨bk,rfl,hbk,hblk,hS⟩
   replace hblk:Blk w1 bk _ [.int .i64 6,.int .i64 0,str s,kv]:=hblk
   replace hs:=hs.up hS
   repeat'(first|refine W1 ?_|omega|refine VG ?_ ?_<;>intro hg|refine VC ?_ ?_<;>intro hc)
   refine CL rfl (Zp rfl) rfl (Zbg s a b hs1 ha hb (ih a (by simp) ha) (ih b (by simp) hb) X _ _ ⟨kv,rfl,hs⟩ hl0) ?_
   rintro _ w3 ⟨rfl,hT3⟩
   refine W ?_
   refine WR ?_
   exact .mk ⟨rfl,hS.trans hT3⟩
 | cond a b c ha hb hc=>
   rw [Zt] at hl ⊢
   replace hl:([105,102,32]++Zl Zh a++[32,116,104,101,110,32]++Zl Zh b++[32,101,108,115,101,32]++Zl Zh c++[32,101,110,100]).length≤1000000000:=hl
   simp only [Xb,Xc,Xe] at hl
   show Calls _ _ _ _ (Ret fun r w'=>r=str ([105,102,32]++Zl Zh a++[32,116,104,101,110,32]++Zl Zh b++[32,101,108,115,101,32]++Zl Zh c++[32,101,110,100])∧_)
   obtain ⟨kv,rfl,hs⟩:=hv
   replace hs:SlV X w kv [a,b,c]:=hs
   refine cW1 95 Tryz.func174 ?_
   refine W ?_
   refine Z3 (Zs rfl) rfl ?_
   rintro _ w1 ⟨bk,rfl,hbk,hblk,hS⟩
   replace hblk:Blk w1 bk _ [.int .i64 9,.int .i64 0,str [],kv]:=hblk
   replace hs:=hs.up hS
   repeat'(first|refine W1 ?_|omega|refine VG ?_ ?_<;>intro hg|refine VC ?_ ?_<;>intro hc)
   have h0:0<([a,b,c]:List Nd).length:=by simp
   have h1:1<([a,b,c]:List Nd).length:=by simp
   have h2:2<([a,b,c]:List Nd).length:=by simp
   refine ZDr 22 [] [] [(0,0),(1,1),(2,0),(3,1),(7,0),(8,1),(9,0),(10,1),(14,0),(15,1),(16,0),(17,1),(4,2),(5,0),(6,0),(11,2),(12,0),(13,0),(18,2),(19,0),(20,0),(21,0)] (fun w1 hS1=>?_)
   replace hs:=hs.up hS1;replace hblk:=hblk.up hS1
   replace hS:=hS.trans hS1
   clear hS1
   obtain ⟨k0,g0,c0⟩:=hs.nd h0
   obtain ⟨k1,g1,c1⟩:=hs.nd h1
   obtain ⟨k2,g2,c2⟩:=hs.nd h2
   replace g0:SlV X _ k0 a.kids:=g0
   replace g1:SlV X _ k1 b.kids:=g1
   replace g2:SlV X _ k2 c.kids:=g2
   refine D ?_
   refine ZN rfl trivial (fun w' hS'=>ZC rfl rfl (hs.up hS') h0 (fun j u hj=>Ju hs h0 (hS'.mono (by simp)) (c0 j u hj))) rfl ?_
   refine D ?_
   refine ZN rfl trivial (fun w' hS'=>ZC rfl rfl (hs.up hS') h1 (fun j u hj=>Ju hs h1 (hS'.mono (by simp)) (c1 j u hj))) rfl ?_
   refine D ?_
   refine ZN rfl trivial (fun w' hS'=>ZC rfl rfl (hs.up hS') h2 (fun j u hj=>Ju hs h2 (hS'.mono (by simp)) (c2 j u hj))) rfl ?_
   refine D ?_
   have hop:=ih a (by simp) ha X _ _ ⟨k0,rfl,g0⟩ (by omega)
   refine Zb rfl trivial (Z5 rfl (Zp rfl) hop) (fun _ _ h=>h.2) rfl ?_
   clear hop
   rintro _ v0 ⟨rfl,hT4⟩
   replace hs:=hs.up hT4;replace hblk:=hblk.up hT4;replace g1:=g1.up hT4;replace g2:=g2.up hT4
   replace hS:=hS.trans hT4
   clear hT4
   repeat'(first|refine D1 ?_|refine ZE rfl trivial (fun _=>Z1h rfl rfl (by simp;omega)) rfl ?_)
   have hop:=ih b (by simp) hb X _ _ ⟨k1,rfl,g1⟩ (by omega)
   refine Zb rfl trivial (Z5 rfl (Zp rfl) hop) (fun _ _ h=>h.2) rfl ?_
   clear hop
   rintro _ v1 ⟨rfl,hT4⟩
   replace hs:=hs.up hT4;replace hblk:=hblk.up hT4;replace g2:=g2.up hT4
   replace hS:=hS.trans hT4
   clear hT4
   repeat'(first|refine D1 ?_|refine ZE rfl trivial (fun _=>Z1h rfl rfl (by simp;omega)) rfl ?_)
   have hop:=ih c (by simp) hc X _ _ ⟨k2,rfl,g2⟩ (by omega)
   refine Zb rfl trivial (Z5 rfl (Zp rfl) hop) (fun _ _ h=>h.2) rfl ?_
   clear hop
   rintro _ v2 ⟨rfl,hT4⟩
   replace hs:=hs.up hT4;replace hblk:=hblk.up hT4
   replace hS:=hS.trans hT4
   clear hT4
   repeat'(first|refine D1 ?_|refine ZE rfl trivial (fun _=>Z1h rfl rfl (by simp;omega)) rfl ?_)
   refine W ?_
   refine WR ?_
   exact .mk ⟨by simp,hS⟩
 | call1 s a hs0 h1 ha=>
   rw [Zt] at hl ⊢
   have etx:Z4J Zh 10 0 s (([a]:List Nd).map fun y=>(lvl y,Zl Zh y))=s++[40]++Zl Zh a++[41]:=by simp [Z4J,List.intercalate]
   rw [etx] at hl ⊢
   simp only [Xb,Xc,Xe] at hl
   obtain ⟨kv,rfl,hs⟩:=hv
   replace hs:SlV X w kv [a]:=hs
   have hkl:([a]:List Nd).length=1:=rfl
   refine cW1 95 Tryz.func174 ?_
   refine W ?_
   refine Z3 (Zs rfl) rfl ?_
   rintro _ w1 ⟨bk,rfl,hbk,hblk,hS⟩
   replace hblk:Blk w1 bk _ [.int .i64 10,.int .i64 0,str s,kv]:=hblk
   replace hs:=hs.up hS
   repeat'(first|refine W1 ?_|omega|refine VG ?_ ?_<;>intro hg|refine VC ?_ ?_<;>intro hc)
   repeat'(first|refine W1 ?_|refine ZQ rfl rfl (by simp;omega) rfl ?_)
   refine ZD (σ:=Nat×Str) (fun q=>[(1,.pointer (some ⟨bk,0,none⟩)),(3,str q.2),(4,.int .i64 (q.1:Int))]) (fun q w'=>((q.1=0∧q.2=s++[40])∨(q.1=1∧q.2=s++[40]++Zl Zh a))∧SlV X w' kv [a]∧Blk w' bk 27 [.int .i64 10,.int .i64 0,str s,kv]∧Stp [] w w') (fun q=>1 - q.1) (0,s++[40]) ⟨rfl,rfl,rfl,trivial⟩ ⟨.inl ⟨rfl,rfl⟩,hs,hblk,hS⟩ ?_
   clear hs hblk hS
   rintro ⟨i,t⟩ w2 ⟨hq,hs,hblk,hS⟩
   dsimp only at hq ⊢
   rcases hq with ⟨rfl,rfl⟩|⟨rfl,rfl⟩
   have h0:0<([a]:List Nd).length:=by simp
   obtain ⟨k0,g0,c0⟩:=hs.nd h0
   replace g0:SlV X w2 k0 a.kids:=g0
   focus repeat'(first|refine W1 ?_|omega|refine VG ?_ ?_<;>intro hg|refine VC ?_ ?_<;>intro hc)
   focus repeat'(first|refine W1 ?_|refine ZQ rfl rfl (by simp;omega) rfl ?_)
   refine Z7 (ZC rfl rfl hs h0 c0) rfl ?_
   refine W ?_
   refine CL rfl (Zp rfl) rfl (ih a (by simp) ha X _ _ ⟨k0,rfl,g0⟩ (by omega)) ?_
   rintro _ w3 ⟨rfl,hT3⟩
   replace hs:=hs.up hT3;replace hblk:=hblk.up hT3
   replace hS:=hS.trans hT3
   focus repeat'(first|refine W1 ?_|refine ZQ rfl rfl (by simp;omega) rfl ?_)
   exact Zr (1,_) ⟨rfl,rfl,rfl,trivial⟩ ⟨.inr (⟨rfl,by simp⟩),hs,hblk,hS⟩ (by dsimp only;omega)
   focus repeat'(first|refine W1 ?_|omega|refine VG ?_ ?_<;>intro hg|refine VC ?_ ?_<;>intro hc)
   focus repeat'(first|refine W1 ?_|refine ZQ rfl rfl (by simp;omega) rfl ?_)
   refine WR ?_
   exact .mk ⟨by simp,hS⟩
 | call2 s a b hs0 h2 ha hb=>
   rw [Zt] at hl ⊢
   have etx:Z4J Zh 10 0 s (([a,b]:List Nd).map fun y=>(lvl y,Zl Zh y))=s++[40]++Zl Zh a++[44,32]++Zl Zh b++[41]:=by simp [Z4J,List.intercalate,List.intersperse]
   rw [etx] at hl ⊢
   simp only [Xb,Xc,Xe] at hl
   obtain ⟨kv,rfl,hs⟩:=hv
   replace hs:SlV X w kv [a,b]:=hs
   have hkl:([a,b]:List Nd).length=2:=rfl
   refine cW1 95 Tryz.func174 ?_
   refine W ?_
   refine Z3 (Zs rfl) rfl ?_
   rintro _ w1 ⟨bk,rfl,hbk,hblk,hS⟩
   replace hblk:Blk w1 bk _ [.int .i64 10,.int .i64 0,str s,kv]:=hblk
   replace hs:=hs.up hS
   repeat'(first|refine W1 ?_|omega|refine VG ?_ ?_<;>intro hg|refine VC ?_ ?_<;>intro hc)
   repeat'(first|refine W1 ?_|refine ZQ rfl rfl (by simp;omega) rfl ?_)
   refine ZD (σ:=Nat×Str) (fun q=>[(1,.pointer (some ⟨bk,0,none⟩)),(3,str q.2),(4,.int .i64 (q.1:Int))]) (fun q w'=>((q.1=0∧q.2=s++[40])∨(q.1=1∧q.2=s++[40]++Zl Zh a)∨(q.1=2∧q.2=s++[40]++Zl Zh a++[44,32]++Zl Zh b))∧SlV X w' kv [a,b]∧Blk w' bk 27 [.int .i64 10,.int .i64 0,str s,kv]∧Stp [] w w') (fun q=>2 - q.1) (0,s++[40]) ⟨rfl,rfl,rfl,trivial⟩ ⟨.inl ⟨rfl,rfl⟩,hs,hblk,hS⟩ ?_
   clear hs hblk hS
   rintro ⟨i,t⟩ w2 ⟨hq,hs,hblk,hS⟩
   dsimp only at hq ⊢
   rcases hq with ⟨rfl,rfl⟩|⟨rfl,rfl⟩|⟨rfl,rfl⟩
   have h0:0<([a,b]:List Nd).length:=by simp
   obtain ⟨k0,g0,c0⟩:=hs.nd h0
   replace g0:SlV X w2 k0 a.kids:=g0
   focus repeat'(first|refine W1 ?_|omega|refine VG ?_ ?_<;>intro hg|refine VC ?_ ?_<;>intro hc)
   focus repeat'(first|refine W1 ?_|refine ZQ rfl rfl (by simp;omega) rfl ?_)
   refine Z7 (ZC rfl rfl hs h0 c0) rfl ?_
   refine W ?_
   refine CL rfl (Zp rfl) rfl (ih a (by simp) ha X _ _ ⟨k0,rfl,g0⟩ (by omega)) ?_
   rintro _ w3 ⟨rfl,hT3⟩
   replace hs:=hs.up hT3;replace hblk:=hblk.up hT3
   replace hS:=hS.trans hT3
   focus repeat'(first|refine W1 ?_|refine ZQ rfl rfl (by simp;omega) rfl ?_)
   exact Zr (1,_) ⟨rfl,rfl,rfl,trivial⟩ ⟨.inr (.inl ⟨rfl,by simp⟩),hs,hblk,hS⟩ (by dsimp only;omega)
   have h1:1<([a,b]:List Nd).length:=by simp
   obtain ⟨k1,g1,c1⟩:=hs.nd h1
   replace g1:SlV X w2 k1 b.kids:=g1
   focus repeat'(first|refine W1 ?_|omega|refine VG ?_ ?_<;>intro hg|refine VC ?_ ?_<;>intro hc)
   focus repeat'(first|refine W1 ?_|refine ZQ rfl rfl (by simp;omega) rfl ?_)
   refine Z7 (ZC rfl rfl hs h1 c1) rfl ?_
   refine W ?_
   refine CL rfl (Zp rfl) rfl (ih b (by simp) hb X _ _ ⟨k1,rfl,g1⟩ (by omega)) ?_
   rintro _ w3 ⟨rfl,hT3⟩
   replace hs:=hs.up hT3;replace hblk:=hblk.up hT3
   replace hS:=hS.trans hT3
   focus repeat'(first|refine W1 ?_|refine ZQ rfl rfl (by simp;omega) rfl ?_)
   exact Zr (2,_) ⟨rfl,rfl,rfl,trivial⟩ ⟨.inr (.inr (⟨rfl,by simp⟩)),hs,hblk,hS⟩ (by dsimp only;omega)
   focus repeat'(first|refine W1 ?_|omega|refine VG ?_ ?_<;>intro hg|refine VC ?_ ?_<;>intro hc)
   focus repeat'(first|refine W1 ?_|refine ZQ rfl rfl (by simp;omega) rfl ?_)
   refine WR ?_
   exact .mk ⟨by simp,hS⟩
end Go.Proofs.YtjdjdoefppebkaaGreatDoor
namespace Go.Eng
open Go Go.RowKit Go.Proofs
end Go.Eng
namespace Go.Proofs.YtjdjdoefppebkaaGreatDoor
open Go Go.Eng Go.RowKit Go.Proofs
theorem ZgM {X:List Nat} {w:World} {v:Value} {l:List Rul} {i:Nat} (h:SlV X w v l) (hi:i<l.length):∃ ki kd,SlV X w ki l[i].cnd.kids∧SlV X w kd l[i].due.kids∧∀ j u,(rlC l[i] ki kd)[j]?=some u→w.cell? (ZL v i 13 j)=some u:=by
 obtain ⟨cs,hr,hc⟩:=h.cell hi
 obtain ⟨ki,kd,rfl,h1,h2⟩:=hr
 exact ⟨ki,kd,h1,h2,hc⟩
theorem Z58 {P:Program} {n:Nat} {e:Env} {w:World} {d:Option Nat} {ty:TypeId} {pos:String} {af:Array Edge} {g:Option (Nat×Bool)} {X:List Nat} {v:Value} {l:List Rul} {i:Nat} {ki kd:Value} {x:Operand} {t:TypeId} {D:TypeDesc} [hu:Und P t D] (hA:JX D=true) [hsz:Siz P t 13] (hx:ev e x=some (.pointer (some (ZL v i 13 0)))) (hs:SlV X w v l) (hi:i<l.length)
 (hc:∀ j u,(rlC l[i] ki kd)[j]?=some u→w.cell? (ZL v i 13 j)=some u) :
 PR P n ⟨d,.load t x,ty,pos,af,g⟩ e w (.agg (rlC l[i] ki kd).toArray):=by
 obtain ⟨p,l',c,rfl⟩:=hs.isSome hi
 refine Z3S (cs:=rlC l[i] ki kd) hA hx rfl (fun j u hu=>?_)
 have:=hc j u hu
 simpa [ZL] using this
theorem Z4B (w s:Str):s.length≤(JE w s).length∧(JE w s).length≤s.length+w.length+5:=by
 unfold JE
 split<;>simp [*]<;>omega
theorem ZiM (ds:Z2B) (x:Nd) (h:¬ Z2n x):ifS ds x=JE [105,102] (Zl ds x):=by
 unfold ifS
 rw [if_neg h]
structure Zs9 (r:RuleM):Prop where
 frm:0≤r.frm∧r.frm≤3652058
 cond:Wf r.cond
 due:Wf r.due
abbrev Z4N:Nd:=.mk 2 1 [] []
theorem Z7U (X:List Nat) (w:World):CC 173 #[] w fun r w'=>NdV X w' r Z4N∧Stp [] w w':=by
 refine cW0 2 Tryz.func173 ?_
 refine W ?_
 refine Z3 Z6 rfl ?_
 rintro _ w1 ⟨b,rfl,hb,hblk,hS⟩
 refine W ?_
 apply Ze (vs:=[(0,.int .i64 2),(1,.int .i64 1)]) rfl (Z3Y _ _) rfl
 have hy:SlV (α:=Nd) X w1 (.slice none 0 0) []:=Jt _ _
 refine Z0 (Z1 (us:=ndC Z4N (.slice none 0 0)) rfl rfl rfl rfl (Zk (x:=Z4N) hy) hblk rfl) ?_
 rintro _ w2 ⟨hS2,hblk2⟩
 have hT:=hS.own hS2 (fun c hc=>.inr (by simp at hc;omega))
 refine W ?_
 refine Zu rfl rfl rfl hblk2 rfl ?_
 exact .mk ⟨⟨_,rfl,Jt _ _⟩,hT⟩
theorem Zeu (x:Nd) (hx:Wf x) (X Y:List Nat) (v u:Value) (w:World) (hv:NdV X w v x) (hu:NdV Y w u Z4N):CC 172 #[v,u] w fun r w'=>r=.bool (decide (Z2n x))∧Stp [] w w':=by
 obtain ⟨kv,rfl,hs⟩:=hv
 obtain ⟨ku,rfl,hs2⟩:=hu
 replace hs2:SlV Y w ku []:=hs2
 by_cases ht:Z2n x
 obtain rfl:=Z8C hx ht
 replace hs:SlV X w kv []:=hs
 refine cW2 53 Tryz.func172 ?_
 refine W ?_
 refine Z3 (Zs rfl) rfl ?_
 rintro _ w1 ⟨b2,rfl,hb2,e2,hS⟩
 refine Z3 (Zs rfl) rfl ?_
 rintro _ w2 ⟨b3,rfl,hb3,e3,hT⟩
 replace e2:Blk w1 b2 _ [.int .i64 2,.int .i64 1,str [],kv]:=e2
 replace e3:Blk w2 b3 _ [.int .i64 2,.int .i64 1,str [],ku]:=e3
 replace e2:=e2.up hT
 replace hS:=hS.trans hT
 replace hs:=hs.up hS;replace hs2:=hs2.up hS
 clear hT
 have l1:=hs.len
 have l2:=hs2.len
 focus repeat'(first|refine W1 ?_|omega|refine VG ?_ ?_<;>intro hg|refine VC ?_ ?_<;>intro hc)
 refine ZD (σ:=Unit) (fun _=>[(2,.pointer (some ⟨b2,0,none⟩)),(3,.pointer (some ⟨b3,0,none⟩)),(5,.int .i64 0)]) (fun _ w'=>w'=w2) (fun _=>0) () ⟨rfl,rfl,rfl,trivial⟩ rfl ?_
 rintro _ w3 rfl
 focus repeat'(first|refine W1 ?_|omega|refine VG ?_ ?_<;>intro hg|refine VC ?_ ?_<;>intro hc)
 refine WR ?_
 exact .mk ⟨by rw [decide_eq_true ht],hS⟩
 · have hne:¬ (x.kind=2∧x.num=1):=ht
   refine cW2 53 Tryz.func172 ?_
   refine W ?_
   refine Z3 (Zs rfl) rfl ?_
   rintro _ w1 ⟨b2,rfl,hb2,e2,hS⟩
   refine Z3 (Zs rfl) rfl ?_
   rintro _ w2 ⟨b3,rfl,hb3,e3,hT⟩
   replace e2:Blk w1 b2 _ (ndC x kv):=e2
   replace e3:Blk w2 b3 _ [.int .i64 2,.int .i64 1,str [],ku]:=e3
   replace e2:=e2.up hT
   replace hS:=hS.trans hT
   replace hs:=hs.up hS;replace hs2:=hs2.up hS
   clear hT
   repeat'(first|refine W1 ?_|omega|refine VG ?_ ?_<;>intro hg|refine VC ?_ ?_<;>intro hc)
   all_goals first
    | (refine WR ?_
       exact .mk ⟨by rw [decide_eq_false ht],hS⟩)
    | omega
set_option maxHeartbeats 2000000 in
theorem Zbh (X:List Nat) (lv:Value) (rs:List RuleM) (w:World) (hs:SlV X w lv (rs.map RuleM.rul)) (hok:∀ r∈rs,Zs9 r) (hon:∀ r∈rs,r.on≠[]) (hlen:(rs.flatMap (J2 Zh)).length≤1000000) :
 CC 87 #[lv] w fun r w'=>r=str (rs.flatMap (J2 Zh))∧Stp [] w w':=by
 have hln:(rs.map RuleM.rul).length=rs.length:=by simp
 have hmax:=hs.max
 refine cW1 71 Tryz.func87 ?_
 refine W ?_
 refine ZD (σ:=Nat) (fun i=>[(0,lv),(3,str ((rs.take i).flatMap (J2 Zh))),(4,.int .i64 i)])
  (fun i w'=>i≤rs.length∧Stp [] w w') (fun i=>rs.length - i) 0 ⟨rfl,rfl,rfl,trivial⟩ ⟨Xy _,Stp.refl _ _⟩ ?_
 rintro i w1 ⟨hi,hS⟩
 have hs1:=hs.up hS
 by_cases hlt:i<rs.length
 · have hlt':i<(rs.map RuleM.rul).length:=by rw [hln];exact hlt
   obtain ⟨ki,kd,hki,hkd,hcl⟩:=ZgM hs1 hlt'
   have hri:(rs.map RuleM.rul)[i]=rs[i].rul:=by simp
   rw [hri] at hki hkd
   have hri':=hok rs[i] (Xg hlt)
   have hon':=hon rs[i] (Xg hlt)
   have htk:(rs.take (i+1)).flatMap (J2 Zh)=(rs.take i).flatMap (J2 Zh)++J2 Zh rs[i]:=by
    rw [Xu hlt,YaW]
    simp
   have hpre:((rs.take (i+1)).flatMap (J2 Zh)).length≤1000000:=by
    refine Xh ?_ hlen
    conv=>rhs;rw [← XV (i+1) rs]
    rw [YaW,Xb]
    omega
   rw [htk] at hpre
   repeat'(first|refine W1 ?_|omega|refine VG ?_ ?_<;>intro hg|refine VC ?_ ?_<;>intro hc)
   refine Z7 (Z58 rfl rfl hs1 hlt' hcl) rfl ?_
   rw [hri]
   have hnext:∀ t:Str,t=(rs.take i).flatMap (J2 Zh)++J2 Zh rs[i]→str t=str ((rs.take (i+1)).flatMap (J2 Zh)):=fun t h=>by rw [htk,h]
   generalize (rs.take i).flatMap (J2 Zh)=l0 at *
   generalize rs[i]=r at *
   refine Z3 Z6 rfl ?_
   rintro _ w2 ⟨b5,rfl,hb5,e5,hT2⟩
   refine Z0 (Z1 (us:=rlC r.rul ki kd) rfl rfl rfl rfl (Zgk _ hki hkd) e5 rfl) ?_
   rintro _ w3 ⟨hT3,e5'⟩
   replace hT2:Stp [] w1 w3:=hT2.own hT3 (fun c hc=>.inr (by simp at hc;omega))
   clear hT3 e5
   replace hS:=hS.trans hT2
   replace hki:=hki.up hT2;replace hkd:=hkd.up hT2
   clear hT2 hcl
   have hsr:(J2 Zh r).length=(Z2I Zh r++JE [111,110] r.on++ifS Zh r.cond++JE [100,117,101] (Zl Zh r.due)++JE [117,110,108,101,115,115] r.unl++JE [101,108,115,101] r.els++[125,10]).length:=rfl
   have e1:=Z4B [111,110] r.on
   have e2:=Z4B [100,117,101] (Zl Zh r.due)
   have e3:=Z4B [117,110,108,101,115,115] r.unl
   have e4:=Z4B [101,108,115,101] r.els
   have eh:(Z2I Zh r).length=5+r.name.length+7+(Zh r.frm).length+3:=by unfold Z2I;simp;omega
   have eo:JE [111,110] r.on=[32,32]++[111,110]++[32]++r.on++[59,10]:=by unfold JE;rw [if_neg hon']
   have ed:JE [100,117,101] (Zl Zh r.due)=[32,32]++[100,117,101]++[32]++Zl Zh r.due++[59,10]:=by unfold JE;rw [if_neg (Z7t hri'.due)]
   have e6:=Z2b hri'.frm.1 hri'.frm.2
   have elo:=congrArg List.length eo
   have eld:=congrArg List.length ed
   simp only [Xb,Xc,Xe] at hsr hpre e1 e2 e3 e4 elo eld
   repeat'(first|refine W1 ?_|omega|refine VG ?_ ?_<;>intro hg|refine VC ?_ ?_<;>intro hc)
   refine ZDr 16 [] [] [(0,0),(1,0),(2,0),(3,1),(4,0),(5,0),(6,0),(7,1),(11,0),(12,1),(8,2),(9,0),(10,0),(13,0),(14,0),(15,0)] (fun w1 hS1=>?_)
   replace e5':=e5'.up hS1;replace hki:=hki.up hS1;replace hkd:=hkd.up hS1
   replace hS:=hS.trans hS1
   clear hS1
   refine D ?_
   refine ZE rfl trivial (fun _=>Z1h rfl rfl (by simp;omega)) rfl ?_
   refine D ?_
   repeat'(first|refine D1 ?_|refine ZE rfl trivial (fun _=>Z1h rfl rfl (by simp [RuleM.rul];omega)) rfl ?_)
   refine Zb rfl trivial (Z5 rfl (Zp rfl) (Z7T r.frm _ hri'.frm.1 hri'.frm.2)) (fun _ _ h=>h.2) rfl ?_
   rintro _ w6 ⟨rfl,hT6⟩
   replace e5':=e5'.up hT6;replace hki:=hki.up hT6;replace hkd:=hkd.up hT6
   replace hS:=hS.trans hT6
   clear hT6
   repeat'(first|refine D1 ?_|refine ZE rfl trivial (fun _=>Z1h rfl rfl (by simp [RuleM.rul];omega)) rfl ?_)
   refine W ?_
   refine ZDr 5 [] [] [(0,0),(1,1),(2,2),(3,2),(4,0)] (fun w1 hS1=>?_)
   replace e5':=e5'.up hS1;replace hki:=hki.up hS1;replace hkd:=hkd.up hS1
   replace hS:=hS.trans hS1
   clear hS1
   refine D ?_
   try (refine ZN rfl trivial (fun w' hS'=>Je (us:=ndC r.cond ki) rfl rfl (e5'.up (hS'.mono (by simp))) rfl rfl) rfl ?_)
   refine D ?_
   refine Zb rfl trivial (Z5 rfl Z4O (Z7U [] _)) (fun _ _ h=>h.2) rfl ?_
   rintro _ w7 ⟨htv,hT6⟩
   replace e5':=e5'.up hT6;replace hki:=hki.up hT6;replace hkd:=hkd.up hT6
   replace hS:=hS.trans hT6
   clear hT6
   refine D ?_
   refine Zb rfl trivial (Z5 rfl (Z9 rfl rfl) (Zeu r.cond hri'.cond X [] _ _ _ ⟨ki,rfl,hki⟩ htv)) (fun _ _ h=>h.2) rfl ?_
   rintro _ w8 ⟨rfl,hT6⟩
   replace e5':=e5'.up hT6;replace hki:=hki.up hT6;replace hkd:=hkd.up hT6
   replace hS:=hS.trans hT6
   clear hT6 htv
   refine D ?_
   refine Z3l ?_
   refine Z1J (σ:=Unit) (fun _=>[(0,lv),(3,str (l0++Z2I Zh r++JE [111,110] r.on++ifS Zh r.cond)),(4,.int .i64 i),(5,.pointer (some ⟨b5,0,none⟩))])
    (fun _ w'=>Blk w' b5 97 (rlC r.rul ki kd)∧SlV X w' kd r.due.kids∧Stp [] w w') ?_ ?_
   by_cases hit:Z2n r.cond
   have hifs:ifS Zh r.cond=[]:=by unfold ifS;rw [if_pos hit]
   simp only [hit,decide_true]
   refine W ?_
   refine ZI () ⟨rfl,?_,rfl,rfl,trivial⟩ ⟨e5',hkd,hS⟩
   rw [hifs,eo]
   unfold Z2I
   simp [RuleM.rul]
   rfl
   have hifs:=ZiM Zh r.cond hit
   have eif:JE [105,102] (Zl Zh r.cond)=[32,32]++[105,102]++[32]++Zl Zh r.cond++[59,10]:=by unfold JE;rw [if_neg (Z7t hri'.cond)]
   rw [eif] at hifs
   have hifl:=congrArg List.length hifs
   simp only [Xb,Xc,Xe] at hifl
   simp only [hit,decide_false]
   refine W ?_
   focus repeat'(first|refine W1 ?_|refine ZQ rfl rfl (by simp [RuleM.rul];omega) rfl ?_)
   refine Z7 (Je (us:=ndC r.cond ki) rfl rfl e5' rfl rfl) rfl ?_
   refine W ?_
   refine CL rfl (Zp rfl) rfl (Z8U r.cond hri'.cond X _ _ ⟨ki,rfl,hki⟩ (by omega)) ?_
   rintro _ w9 ⟨rfl,hT6⟩
   replace e5':=e5'.up hT6;replace hki:=hki.up hT6;replace hkd:=hkd.up hT6
   replace hS:=hS.trans hT6
   clear hT6
   focus repeat'(first|refine W1 ?_|refine ZQ rfl rfl (by simp [RuleM.rul];omega) rfl ?_)
   refine ZI () ⟨rfl,?_,rfl,rfl,trivial⟩ ⟨e5',hkd,hS⟩
   rw [hifs,eo]
   unfold Z2I
   simp [RuleM.rul]
   rfl
   clear e5' hkd hki hS
   rintro ⟨⟩ w9 ⟨e5',hkd,hS⟩
   have hpl:(l0++Z2I Zh r++JE [111,110] r.on++ifS Zh r.cond).length=l0.length+(Z2I Zh r).length+(JE [111,110] r.on).length+(ifS Zh r.cond).length:=by simp;omega
   replace hnext:∀ t:Str,t=(l0++Z2I Zh r++JE [111,110] r.on++ifS Zh r.cond)++JE [100,117,101] (Zl Zh r.due)++JE [117,110,108,101,115,115] r.unl++JE [101,108,115,101] r.els++[125,10]→str t=str ((rs.take (i+1)).flatMap (J2 Zh)):=fun t h=>hnext t (by rw [h];unfold J2;simp)
   generalize l0++Z2I Zh r++JE [111,110] r.on++ifS Zh r.cond=l1 at *
   refine W ?_
   repeat'(first|refine W1 ?_|refine ZQ rfl rfl (by simp [RuleM.rul];omega) rfl ?_)
   refine Z7 (Je (us:=ndC r.due kd) rfl rfl e5' rfl rfl) rfl ?_
   refine W ?_
   refine CL rfl (Zp rfl) rfl (Z8U r.due hri'.due X _ _ ⟨kd,rfl,hkd⟩ (by omega)) ?_
   rintro _ w10 ⟨rfl,hT6⟩
   replace e5':=e5'.up hT6
   replace hS:=hS.trans hT6
   clear hT6
   repeat'(first|refine W1 ?_|refine ZQ rfl rfl (by simp [RuleM.rul];omega) rfl ?_)
   repeat'(first|refine W1 ?_|refine ZQ rfl rfl (by simp [RuleM.rul];omega) rfl ?_|refine Z6M rfl (fun hc=>?_) (fun hc=>?_)|refine Z6Y rfl (fun hc=>?_) (fun hc=>?_))
   all_goals
    simp only [RuleM.rul] at *
    refine Zr (i+1) ⟨rfl,congrArg some (hnext _ ?_),rfl,trivial⟩ ⟨hlt,hS⟩ (by omega)
    rw [ed]
    unfold JE
    try simp only [Decidable.not_not] at *
    simp [*]
 obtain rfl:i=rs.length:=by omega
 rw [XL]
 focus repeat'(first|refine W1 ?_|omega|refine VG ?_ ?_<;>intro hg|refine VC ?_ ?_<;>intro hc)
 refine WR ?_
 exact .mk ⟨rfl,hS⟩
theorem Zcr {s:Str} (h:(ZZ s).2.1≠0):s∈Zg:=by
 by_cases hm:s∈Zg
 exact hm
 exfalso
 have hi:¬ 0≤idx (isS s) Zg:=fun h0=>hm (Zaf.1 h0)
 apply h
 unfold ZZ
 simp only
 rw [if_pos (by omega)]
theorem ZiN {k n:Int} {s:Str} (h:Z0E k n s≠0):Wf (.mk k n s []):=by
 unfold Z0E at h
 by_cases h4:k=4
 subst h4
 rw [if_pos rfl] at h
 by_cases hn:n=0
 subst hn
 rw [if_pos rfl] at h
 exact .field s (Zcr h)
 rw [if_neg hn] at h;exact absurd rfl h
 rw [if_neg h4] at h
 by_cases hs:s=[]
 subst hs
 rw [if_neg (by simp)] at h
 by_cases h1:k=1
 subst h1
 rw [if_pos rfl] at h
 split at h
 exact .num n (by assumption)
 exact absurd rfl h
 rw [if_neg h1] at h
 by_cases h2:k=2
 subst h2
 rw [if_pos rfl] at h
 split at h
 exact .bool n (by omega)
 exact absurd rfl h
 rw [if_neg h2] at h
 by_cases h3:k=3
 subst h3
 rw [if_pos rfl] at h
 split at h
 exact .day n (by assumption)
 exact absurd rfl h
 rw [if_neg h3] at h;exact absurd rfl h
 rw [if_pos hs] at h;exact absurd rfl h
theorem Z7V {x:Sig} (h:Z3u x≠0):∃ p∈Z2x,p.1=x:=by
 cases hf:Z2x.find? (fun p=>decide (p.1=x)) with
 | none=>
   exfalso
   apply h
   unfold Z3u ZbP Z2Z
   rw [hf]
 | some p=>exact ⟨p,X3 hf,by simpa using YaU hf⟩
theorem Zbi {s:Str} {a b:Int} (h:Z1A s a b≠0):a=b∧s∈Z0f++Z25++Z0g:=by
 unfold Z1A at h
 split at h
 rename_i hs
 split at h
 rename_i hc;exact ⟨hc.1,by simp [hs]⟩
 exact absurd rfl h
 split at h
 rename_i hs
 split at h
 rename_i hc;exact ⟨hc.1,by simp [hs]⟩
 exact absurd rfl h
 split at h
 rename_i hs
 split at h
 rename_i hc;exact ⟨hc.1,by simp [hs]⟩
 exact absurd rfl h
 exact absurd rfl h
theorem Zev:∀ s∈Z0f++Z25++Z0g,1≤Zm s:=by decide
theorem Zbj (x:Nd):Zd x≠0→Wf x:=by
 induction x using Nd.ind with
 | h k n s l ih=>
 intro h
 rw [Z08] at h
 simp only [Nd.kind,Nd.num,Nd.word,Nd.kids] at h
 unfold Jb at h
 split at h
 exact absurd rfl h
 rename_i hl3
 split at h
 exact absurd rfl h
 rename_i hz
 have hk:∀ y∈l,Zd y≠0:=fun y hy e=>hz (by rw [← e];exact X4 hy)
 have hw:∀ y∈l,Wf y:=fun y hy=>ih y hy (hk y hy)
 split at h
 rename_i he
 have:l=[]:=by simpa using he
 subst this
 exact ZiN h
 rename_i hne
 split at h
 exact absurd rfl h
 · rename_i hn
   have hn0:n=0:=by omega
   subst hn0
   match l,hl3,hne,hk,hw,h with
   | [a], _, _, hk, hw, h=>
     have ha:=hk a (by simp)
     simp only [Xn,Xv,Xm,XH,Ya2] at h
     split at h
     exact absurd rfl h
     split at h
     exact absurd (Zbi h).1 ha
     · obtain ⟨p,hp,hpe⟩:=Z7V h
       simp only [Z2x,Z6G,J6,Xn,Xv,XY,Yak,Z1v,Xp,XS,Xz,Xf,Xk,or_false,ent] at hp
       rcases hp with rfl|rfl|rfl|rfl|rfl|rfl|rfl|rfl|rfl|rfl|rfl|rfl|rfl|rfl|rfl<;>simp only [Sig.mk.injEq] at hpe<;>obtain ⟨rfl,rfl,h0,h1,h2⟩:=hpe
       exact .neg a (hw a (by simp))
       exact .not a (hw a (by simp))
       exact .call1 _ a (by decide) (by decide) (hw a (by simp))
       exact .call1 _ a (by decide) (by decide) (hw a (by simp))
       all_goals exact absurd h1 (by decide)
   | [a, b], _, _, hk, hw, h=>
     have ha:=hk a (by simp)
     have hb:=hk b (by simp)
     simp only [Xn,Xv,Xm,XH,Ya2] at h
     split at h
     rename_i hc;exact absurd hc.2.2.2 hb
     split at h
     rename_i hc
     have h6:=(Zbi h).2
     obtain ⟨rfl,_⟩:=hc
     exact .bin s a b (Zev s h6) (hw a (by simp)) (hw b (by simp))
     · obtain ⟨p,hp,hpe⟩:=Z7V h
       simp only [Z2x,Z6G,J6,Xn,Xv,XY,Yak,Z1v,Xp,XS,Xz,Xf,Xk,or_false,ent] at hp
       rcases hp with rfl|rfl|rfl|rfl|rfl|rfl|rfl|rfl|rfl|rfl|rfl|rfl|rfl|rfl|rfl<;>simp only [Sig.mk.injEq] at hpe<;>obtain ⟨rfl,rfl,h0,h1,h2⟩:=hpe
       all_goals first
        | exact absurd h1.symm hb
        | exact .call2 _ a b (by decide) (by decide) (hw a (by simp)) (hw b (by simp))
        | exact .after _ a b (by decide) (hw a (by simp)) (hw b (by simp))
        | exact .before _ a b (by decide) (hw a (by simp)) (hw b (by simp))
   | [a, b, c], _, _, hk, hw, h=>
     have hc:=hk c (by simp)
     simp only [Xn,Xv,Xm,XH] at h
     split at h
     rename_i hcd
     obtain ⟨rfl,rfl,_⟩:=hcd
     exact .cond a b c (hw a (by simp)) (hw b (by simp)) (hw c (by simp))
     split at h
     rename_i hcd;exact absurd hcd.2 hc
     · obtain ⟨p,hp,hpe⟩:=Z7V h
       simp only [Z2x,Z6G,J6,Xn,Xv,XY,Yak,Z1v,Xp,XS,Xz,Xf,Xk,or_false,ent] at hp
       rcases hp with rfl|rfl|rfl|rfl|rfl|rfl|rfl|rfl|rfl|rfl|rfl|rfl|rfl|rfl|rfl<;>simp only [Sig.mk.injEq] at hpe<;>obtain ⟨rfl,rfl,h0,h1,h2⟩:=hpe
       all_goals exact absurd h2.symm hc
   | a :: b :: c :: d :: r,hl3,_,_,_,_=>simp at hl3
theorem Zbk {x:Nd} (h:Wf x):opN x+2≤2 * Zw x:=by
 have pd:∀ (k:Nat) (p:Nat×Nat),Z1s k p≤p.2+1:=fun k p=>by unfold Z1s;split<;>omega
 induction h with
 | num n h|bool n h|day n h|field s h=>rw [Z0K,Zj5];simp [opK]
 | neg a ha ih=>rw [Z0K,ZcO];have:=pd 7 (lvl a,opN a);show 1+Z1s 7 (lvl a,opN a)+2≤_;omega
 | not a ha ih=>rw [Z0K,ZcO];have:=pd 3 (lvl a,opN a);show 1+Z1s 3 (lvl a,opN a)+2≤_;omega
 | bin s a b hs ha hb iha ihb=>
   rw [Z0K,Zai]
   have h1:=pd (Z0w (Zm s)) (lvl a,opN a)
   have h2:=pd (Zm s+1) (lvl b,opN b)
   show max (Z1s (Z0w (Zm s)) (lvl a,opN a)) (Z1s (Zm s+1) (lvl b,opN b))+2≤_
   simp only at h1 h2
   omega
 | after s a b hs ha hb iha ihb=>
   rw [Z0K,Zai]
   have h1:=pd 5 (lvl a,opN a)
   have h2:=pd 6 (lvl b,opN b)
   show max (Z1s 5 (lvl a,opN a)) (Z1s 6 (lvl b,opN b))+2≤_
   simp only at h1 h2
   omega
 | before s a b hs ha hb iha ihb=>
   rw [Z0K,Zai]
   have h1:=pd 5 (lvl a,opN a)
   have h2:=pd 6 (lvl b,opN b)
   show max (Z1s 5 (lvl a,opN a)) (Z1s 6 (lvl b,opN b))+2≤_
   simp only at h1 h2
   omega
 | cond a b c ha hb hc iha ihb ihc=>
   rw [Z0K,Zj6]
   show 1+max (max (max 0 (opN a)) (opN b)) (opN c)+2≤_
   omega
 | call1 s a hs h1 ha ih=>
   rw [Z0K,ZcO]
   show 1+max 0 (opN a)+2≤_
   omega
 | call2 s a b hs h2 ha hb iha ihb=>
   rw [Z0K,Zai]
   show 1+max (max 0 (opN a)) (opN b)+2≤_
   omega
theorem ZgN {c:UInt8} (h:ZhS (c.toNat:Int)):ldB c=true:=by
 unfold ldB Z3y ZV
 simp only [Yao,Xi,decide_eq_true_eq]
 rcases h with h|h
 left;omega
 right;omega
theorem Z5J {s:Str} (h:JZ s=true):Z42 s:=by
 unfold JZ Z7d at h
 simp only [Xi,decide_eq_true_eq] at h
 obtain ⟨⟨h1,h2,h3,h4,h5⟩,h6,h7⟩:=h
 refine ⟨⟨fun e=>by rw [e] at h1;simp at h1,h2,?_,fun c hc=>?_⟩,?_⟩
 unfold Z3y
 unfold Z0e at h3 h4
 simp only [Xi,decide_eq_true_eq]
 omega
 obtain ⟨i,hi,rfl⟩:=Xs hc
 have:=h5 i hi
 rw [Go.Eng.byte_at hi] at this
 exact ZgN this
 simp only [Zae,Xf,Xk,or_false,not_or] at h6
 intro hm
 simp only [Xt] at hm
 rcases hm with ((hm|hm)|hm)|hm
 simp only [Z8v,Xf,Xk,or_false] at hm
 rcases hm with h|h|h|h|h|h|h|h|h|h|h|h|h|h<;>simp [h] at h6
 simp only [Z0v,Xf,Xk,or_false] at hm
 rcases hm with h|h|h|h<;>simp [h] at h6
 exact h7 hm
 simp only [Z0S,Xf,Xk,or_false] at hm
 rcases hm with h|h|h|h|h<;>simp [h] at h6
theorem Zdh {x:Nd} {z:Int} (hz:z≠0) (h:Z1U x z=0):Zd x=z∧Zw x≤12:=by
 unfold Z1U at h
 split at h
 split at h
 exact absurd h (by decide)
 split at h
 exact ⟨by assumption,by assumption⟩
 exact absurd h (by decide)
 exact absurd h (by decide)
theorem Zbl {r:Rul} (h:Z2i r=0):Z0T r=true∧(0≤r.frm∧r.frm≤3652058)∧Z1U r.cnd 2=0∧Z1U r.due 3=0:=by
 unfold Z2i at h
 split at h
 exact absurd h (by decide)
 rename_i h1
 split at h
 exact absurd h (by decide)
 split at h
 rename_i h3;exact absurd h h3
 rename_i h2 h3
 exact ⟨by simpa using h1,by omega,by simpa using h3,h⟩
theorem Zcs {r:RuleM} (h:Z2i r.rul=0) (h1:Zw r.cond≤7) (h2:Zw r.due≤7):Z51 r:=by
 obtain ⟨g1,g2,g3,g4⟩:=Zbl h
 have t1:=(Zdh (by decide) g3).1
 have t2:=(Zdh (by decide) g4).1
 have w1:Wf r.cond:=Zbj _ (by rw [show Zd r.cond=2 from t1];decide)
 have w2:Wf r.due:=Zbj _ (by rw [show Zd r.due=3 from t2];decide)
 have o1:=Zbk w1
 have o2:=Zbk w2
 unfold Z0T at g1
 simp only [Xi,Yao,decide_eq_true_eq] at g1
 obtain ⟨⟨⟨n1,n2⟩,n3⟩,n4⟩:=g1
 exact ⟨Z5J n1,g2,Z5J n2,w1,by omega,w2,by omega,n3.imp id Z5J,n4.imp id Z5J⟩
def Z2w:Nat→Nat×Nat×Nat
 | 0=>(6,5,11)
 | d+1=>let p:=Z2w d;(max (2 * p.2.2+11) (max (p.2.1+2 * p.1+19) (2 * p.1+7)),max (2 * p.2.2+8) (max (2 * p.1+8) (2 * p.2.1+9)),max (p.2.1+2 * p.2.2+19) (max (2 * p.2.2+10) (p.2.2+p.1+17)))
def ZgO (t:Int) (d:Nat):Nat:=if t=1 then (Z2w d).1 else if t=2 then (Z2w d).2.1 else (Z2w d).2.2
theorem Zbm (d:Nat):6≤(Z2w d).1∧5≤(Z2w d).2.1∧11≤(Z2w d).2.2:=by
 induction d with
 | zero=>decide
 | succ d ih=>simp only [Z2w];omega
theorem Gn.len {t:Int} {d:Nat} {x:Nd} (h:Gn t d x):(Zl Zh x).length≤ZgO t d:=by
 have pd:∀ (k:Nat) (p:Nat×Str),(JA k p).length≤p.2.length+2:=fun k p=>by unfold JA;split<;>simp<;>omega
 have e1:∀ d,ZgO 1 d=(Z2w d).1:=fun d=>rfl
 have e2:∀ d,ZgO 2 d=(Z2w d).2.1:=fun d=>rfl
 have e3:∀ d,ZgO 3 d=(Z2w d).2.2:=fun d=>rfl
 induction h with
 | num d n h=>
   rw [Zt]
   show (Lib.itoa n).length≤ZgO 1 d
   unfold Lib.itoa
   rw [if_neg (by omega),e1]
   have:=Z01 1 n.toNat (by omega)
   have:=Zbm d
   omega
 | fldN d s h=>
   rw [Zt]
   have h2:∀ s∈Z8f,s.length≤6:=by decide
   have:=h2 s h
   have:=Zbm d
   show s.length≤_
   rw [e1];omega
 | fldD d s h=>
   rw [Zt]
   have h2:∀ s∈Z4L,s.length≤6:=by decide
   have:=h2 s h
   have:=Zbm d
   show s.length≤_
   rw [e3];omega
 | day d n h=>
   rw [Zt]
   show (64 :: Zh n).length≤_
   have:=Z2b (n:=n) (by omega) (by omega)
   have:=Zbm d
   rw [e3];simp;omega
 | bool d n h=>
   rw [Zt]
   have:=Zbm d
   show (if n=1 then [116,114,117,101] else [102,97,108,115,101]:Str).length≤_
   rw [e2]
   have:(if n=1 then [116,114,117,101] else [102,97,108,115,101]:Str).length≤5:=by split<;>decide
   omega
 | neg d a ha ia=>
   rw [Zt]
   have:=pd 7 (lvl a,Zl Zh a)
   rw [e1] at ia ⊢
   simp only [Z2w] at this ⊢
   show ([45]++JA 7 (lvl a,Zl Zh a)).length≤_
   simp only [Xb,Xc,Xe];omega
 | not d a ha ia=>
   rw [Zt]
   have:=pd 3 (lvl a,Zl Zh a)
   rw [e2] at ia ⊢
   simp only [Z2w] at this ⊢
   show ([110,111,116,32]++JA 3 (lvl a,Zl Zh a)).length≤_
   simp only [Xb,Xc,Xe]
   have:=Zbm d
   omega
 | btw d a b ha hb ia ib=>
   rw [Zt]
   rw [e3] at ia ib
   rw [e1]
   simp only [Z2w]
   show ([98,101,116,119,101,101,110]++[40]++([44,32]:Str).intercalate [Zl Zh a,Zl Zh b]++[41]).length≤_
   rw [show ([44,32]:Str).intercalate [Zl Zh a,Zl Zh b]=Zl Zh a++[44,32]++Zl Zh b by simp [List.intercalate,List.intersperse]]
   simp only [Xb,Xc,Xe]
   omega
 | cond d t c a b h hc ha hb ic ia ib=>
   rw [Zt]
   rw [e2] at ic
   show ([105,102,32]++Zl Zh c++[32,116,104,101,110,32]++Zl Zh a++[32,101,108,115,101,32]++Zl Zh b++[32,101,110,100]).length≤_
   simp only [Xb,Xc,Xe]
   rcases h with rfl|rfl
   rw [e1] at ia ib ⊢
   simp only [Z2w]
   omega
   rw [e3] at ia ib ⊢
   simp only [Z2w]
   omega
 | arith d s a b h ha hb ia ib=>
   rw [Zt]
   have h2:∀ s∈Z0f,s.length≤1:=by decide
   have:=h2 s h
   have h1:=pd (Z0w (Zm s)) (lvl a,Zl Zh a)
   have h2:=pd (Zm s+1) (lvl b,Zl Zh b)
   rw [e1] at ia ib ⊢
   simp only [Z2w] at h1 h2 ⊢
   show (JA (Z0w (Zm s)) (lvl a,Zl Zh a)++[32]++s++[32]++JA (Zm s+1) (lvl b,Zl Zh b)).length≤_
   simp only [Xb,Xc,Xe]
   omega
 | adj d s a h ha ia=>
   rw [Zt]
   have h2:∀ s∈Z1e,s.length≤4:=by decide
   have:=h2 s h
   have:=Zbm d
   rw [e3] at ia ⊢
   simp only [Z2w]
   show (s++[40]++([44,32]:Str).intercalate [Zl Zh a]++[41]).length≤_
   rw [show ([44,32]:Str).intercalate [Zl Zh a]=Zl Zh a by simp [List.intercalate,List.intersperse]]
   simp only [Xb,Xc,Xe]
   omega
 | two d s a b h ha hb ia ib=>
   rw [Zt]
   have h2:∀ s∈Z1f,s.length≤7:=by decide
   have:=h2 s h
   have:=Zbm d
   rw [e3] at ia ib ⊢
   simp only [Z2w]
   show (s++[40]++([44,32]:Str).intercalate [Zl Zh a,Zl Zh b]++[41]).length≤_
   rw [show ([44,32]:Str).intercalate [Zl Zh a,Zl Zh b]=Zl Zh a++[44,32]++Zl Zh b by simp [List.intercalate,List.intersperse]]
   simp only [Xb,Xc,Xe]
   omega
 | move d k s a b hk h ha hb ia ib=>
   rw [Zt]
   have h2:∀ s∈J6,s.length≤9:=by decide
   have:=h2 s h
   have h1:=pd 5 (lvl a,Zl Zh a)
   have h2:=pd 6 (lvl b,Zl Zh b)
   rw [e3] at ia ⊢
   rw [e1] at ib
   simp only [Z2w] at h1 h2 ⊢
   rcases hk with rfl|rfl
   show (JA 5 (lvl a,Zl Zh a)++[32,43,32]++JA 6 (lvl b,Zl Zh b)++[32]++s).length≤_
   simp only [Xb,Xc,Xe]
   omega
   show (JA 5 (lvl a,Zl Zh a)++[32,45,32]++JA 6 (lvl b,Zl Zh b)++[32]++s).length≤_
   simp only [Xb,Xc,Xe]
   omega
 | logic d s a b h ha hb ia ib=>
   rw [Zt]
   have h2:∀ s∈Z0g,s.length≤3:=by decide
   have:=h2 s h
   have h1:=pd (Z0w (Zm s)) (lvl a,Zl Zh a)
   have h2:=pd (Zm s+1) (lvl b,Zl Zh b)
   rw [e2] at ia ib ⊢
   simp only [Z2w] at h1 h2 ⊢
   show (JA (Z0w (Zm s)) (lvl a,Zl Zh a)++[32]++s++[32]++JA (Zm s+1) (lvl b,Zl Zh b)).length≤_
   simp only [Xb,Xc,Xe]
   omega
 | cmp d t s a b ht h ha hb ia ib=>
   rw [Zt]
   have h2:∀ s∈Z25,s.length≤2:=by decide
   have:=h2 s h
   have h1:=pd (Z0w (Zm s)) (lvl a,Zl Zh a)
   have h2:=pd (Zm s+1) (lvl b,Zl Zh b)
   rw [e2]
   show (JA (Z0w (Zm s)) (lvl a,Zl Zh a)++[32]++s++[32]++JA (Zm s+1) (lvl b,Zl Zh b)).length≤_
   rcases ht with rfl|rfl
   rw [e1] at ia ib
   simp only [Z2w] at h1 h2 ⊢
   simp only [Xb,Xc,Xe]
   omega
   rw [e3] at ia ib
   simp only [Z2w] at h1 h2 ⊢
   simp only [Xb,Xc,Xe]
   omega
theorem Zbn:∀ d,d≤6→Z2T 43 1 d∧Z2T 44 2 d∧Z2T 45 3 d:=by
 intro d
 induction d with
 | zero=>
   intro h
   have ih':∀ e,0=e+1→Z2T 43 1 e∧Z2T 44 2 e∧Z2T 45 3 e:=fun e he=>by omega
   exact ⟨Z5I _ h ih',Z7Q _ h ih',Z7R _ h ih'⟩
 | succ d ih=>
   intro h
   have ih':∀ e,d+1=e+1→Z2T 43 1 e∧Z2T 44 2 e∧Z2T 45 3 e:=fun e he=>by
    obtain rfl:d=e:=by omega
    exact ih (by omega)
   exact ⟨Z5I _ h ih',Z7Q _ h ih',Z7R _ h ih'⟩
def Z9G:List Str:=[[114,48],[114,49],[114,50],[114,51]]
def Z3M:List Str:=[[99,108,97,105,109],[97,110,115,119,101,114],[109,111,116,105,111,110],[111,114,100,101,114],[97,112,112,101,97,108],[108,97,112,115,101]]
theorem Zew (q:Nat) (w:World) (hq:q<4):CC 257 #[.int .i64 (q:Int)] w fun r w'=>(∃ s∈Z9G,r=str s)∧Stp [] w w':=by
 refine cW1 7 Tryz.func257 ?_
 refine W ?_
 refine CL rfl (Z9 rfl rfl) rfl (Z1o (q:Int) 4 _ (by decide) (by unfold I64;omega)) ?_
 rintro _ w1 ⟨rfl,hS⟩
 rw [if_neg (by omega),Ya1 (by omega) (by omega)]
 refine CL rfl (Zp rfl) rfl (Z4M (q:Int) _ (by omega) (by omega)) ?_
 rintro _ w2 ⟨rfl,hT⟩
 have:q=0∨q=1∨q=2∨q=3:=by omega
 have hm:([114]++Lib.itoa (q:Int):Str)∈Z9G∧(Lib.itoa (q:Int)).length≤10:=by
  rcases this with rfl|rfl|rfl|rfl<;>(unfold Lib.itoa;rw [if_neg (by omega),Lib.decDigits,dif_pos (by decide)];decide)
 refine ZQ rfl rfl (by simp;omega) rfl ?_
 refine W ?_
 refine WR ?_
 exact .mk ⟨⟨_,hm.1,rfl⟩,hS.trans hT⟩
theorem Z6a (q:Nat) (w:World) (hq:q<6):CC 258 #[.int .i64 (q:Int)] w fun r w'=>(∃ s∈Z3M,r=str s)∧Stp [] w w':=by
 refine cW1 10 Tryz.func258 ?_
 refine W ?_
 refine Z3 (Z2 (vs:=[(0,str [99,108,97,105,109]),(1,str [97,110,115,119,101,114]),(2,str [109,111,116,105,111,110]),(3,str [111,114,100,101,114]),(4,str [97,112,112,101,97,108]),(5,str [108,97,112,115,101])]) rfl (bS6 _ _ _ _ _ _)) rfl ?_
 rintro v w1 hN
 have hv:SlV [] w1 v Z3M:=hN.slv (by simp) rfl rfl (by decide)
 have hS:=Zc.stp hN
 clear hN
 refine W ?_
 refine CL rfl (Z9 rfl rfl) rfl (Z1o (q:Int) 6 _ (by decide) (by unfold I64;omega)) ?_
 rintro _ w2 ⟨rfl,hT⟩
 rw [if_neg (by omega),Ya1 (by omega) (by omega)]
 replace hv:=hv.up hT
 have hqn:q<Z3M.length:=by show q<6;exact hq
 refine W ?_
 refine WR ?_
 exact .mk ⟨⟨_,Xg hqn,rfl⟩,hS.trans hT⟩
structure Z1c (r:RuleM):Prop where
 name:r.name∈Z9G
 frm:739606≤r.frm∧r.frm<739636
 on:r.on∈Z3M
 cond:Gn 2 3 r.cond
 due:Gn 3 3 r.due
 unl:r.unl=[]∨r.unl∈Z3M
 els:r.els=[]∨r.els∈Z3M
theorem ZgP (a o:Str) (f k n:Int) (s:Str) (p:Option Addr) (l c:Nat) (w:World):(Instr.build 97 #[(0,str a),(1,.int .i64 f),(2,str o),(3,.agg #[.int .i64 k,.int .i64 n,str s,.slice p l c])]).run Tryz.prog w=.ok (.agg #[str a,.int .i64 f,str o,.int .i64 k,.int .i64 n,str s,.slice p l c,.int .i64 0,.int .i64 0,str [],.slice none 0 0,str [],str []]) w:=by kernel_rfl
theorem Zex (X:List Nat) (bm:Nat) (lv:Value) (l:List Int) (i:Nat) (w:World) (hmk:Mk3 w bm lv i) (hsl:SlV [bm] w lv l) (hl:∀ a∈l,I64 a) (hi:i≤50000) (hX:∀ b∈X,b<w.heap.size) :
 CC 175 #[.pointer (some ⟨bm,0,none⟩)] w fun r w'=>∃ (rl:RuleM) (i':Nat),ZhT X w' r rl.rul∧Z1c rl∧Mk3 w' bm lv i'∧i'≤i+300∧Stp [bm] w w':=by
 have z4:szD 4=40:=by decide
 have z4':szD (3+1)=40:=z4
 have hsl0:=hsl
 have hbm:=hmk.lt
 refine cW1 40 Tryz.func175 ?_
 refine W ?_
 refine Z3 Z6 rfl ?_
 rintro _ w1 ⟨b2,rfl,hb2,e2,hS⟩
 have n2:b2≠bm:=by have:=hmk.lt;omega
 replace hmk:=hmk.up hS
 replace hsl:=hsl.up hS
 replace hS:Stp [bm] w w1:=hS.mono (by simp)
 have l2:=e2.lt
 refine W ?_
 refine CL rfl (Z9 rfl rfl) rfl (ZK bm lv l _ 4 _ (by decide) (by omega) hmk hsl hl) ?_
 rintro _ wq ⟨q1,rfl,hq1,hmk,hT⟩
 replace hsl:=hsl.ext hT (fun _ h=>h) (fun _ h=>.inl h)
 replace e2:=e2.ext hT (by simp;exact n2)
 replace hS:=hS.trans hT
 clear hT
 refine CL rfl (Zp rfl) rfl (Zew q1 _ (by omega)) ?_
 rintro _ wq ⟨⟨nm,hnm,rfl⟩,hT⟩
 replace hmk:=hmk.up hT
 replace hsl:=hsl.up hT
 replace e2:=e2.up hT
 replace hS:=hS.trans (hT.mono (by simp))
 clear hT
 refine W ?_
 refine CL rfl (Z9 rfl rfl) rfl (ZK bm lv l _ 30 _ (by decide) (by omega) hmk hsl hl) ?_
 rintro _ wq ⟨q2,rfl,hq2,hmk,hT⟩
 replace hsl:=hsl.ext hT (fun _ h=>h) (fun _ h=>.inl h)
 replace e2:=e2.ext hT (by simp;exact n2)
 replace hS:=hS.trans hT
 clear hT
 refine W ?_
 refine CL rfl (Z9 rfl rfl) rfl (ZK bm lv l _ 6 _ (by decide) (by omega) hmk hsl hl) ?_
 rintro _ wq ⟨q3,rfl,hq3,hmk,hT⟩
 replace hsl:=hsl.ext hT (fun _ h=>h) (fun _ h=>.inl h)
 replace e2:=e2.ext hT (by simp;exact n2)
 replace hS:=hS.trans hT
 clear hT
 refine CL rfl (Zp rfl) rfl (Z6a q3 _ (by omega)) ?_
 rintro _ wq ⟨⟨on,hon,rfl⟩,hT⟩
 replace hmk:=hmk.up hT
 replace hsl:=hsl.up hT
 replace e2:=e2.up hT
 replace hS:=hS.trans (hT.mono (by simp))
 clear hT
 refine W ?_
 refine CL rfl Z4O rfl (Z7U (b2 :: bm :: X) _) ?_
 rintro _ wq ⟨⟨kt,rfl,ht⟩,hT⟩
 obtain ⟨pt,ct,rfl,-⟩:=id ht
 replace ht:SlV (b2 :: bm :: X) wq (.slice pt Z4N.kids.length ct) Z4N.kids:=ht
 replace hmk:=hmk.up hT
 replace hsl:=hsl.up hT
 replace e2:=e2.up hT
 replace hS:=hS.trans (hT.mono (by simp))
 clear hT
 refine W ?_
 refine Ze (vs:=[(0,str nm),(1,.int .i64 _),(2,str on),(3,.agg #[.int .i64 2,.int .i64 1,str [],.slice pt 0 ct])]) rfl (ZgP _ _ _ _ _ _ _ _ _) rfl ?_
 refine Z3 Z6 rfl ?_
 rintro _ wq ⟨b3,rfl,hb3,e0,hT⟩
 have hbl:∀ c,c<w.heap.size→c<b3:=fun c hc=>by have:=hS.size;omega
 have n3:b3≠bm:=by have:=hmk.lt;omega
 have n23:b2≠b3:=by have:=e2.lt;omega
 have hb3w:w.heap.size≤b3:=Xh hS.size hb3
 refine Z0 (Z1 (us:=rlC ⟨nm,739616+(q2:Int) - 10,on,Z4N,Zmx,[],[]⟩ (.slice pt 0 ct) Z3Z) rfl rfl rfl rfl (ZcP _ (X:=b2 :: bm :: X) ht (Jt [] wq)) e0 rfl) ?_
 rintro _ wq ⟨hT2,e3⟩
 replace hT:=JK hT hb3 hT2
 clear hT2 e0
 replace ht:SlV (b3 :: b2 :: bm :: X) wq (.slice pt Z4N.kids.length ct) Z4N.kids:=ht.ext hT (by simp) (fun c hc=>by
  rcases Xf.1 hc with rfl|h
  exact .inr hb3
  exact .inl h)
 replace hmk:=hmk.up hT
 replace hsl:=hsl.up hT
 replace e2:=e2.up hT
 replace hS:=hS.trans (hT.mono (by simp))
 clear hT hb3
 have hfr:739606≤739616+(q2:Int) - 10∧739616+(q2:Int) - 10<739636:=by omega
 generalize 739616+(q2:Int) - 10=fr at *
 clear hq1 hq3
 refine W ?_
 refine CL rfl (Z9 rfl rfl) rfl (ZK bm lv l _ 3 _ (by decide) (by omega) hmk hsl hl) ?_
 rintro _ wq ⟨q4,rfl,hq4,hmk,hT⟩
 replace hsl:=hsl.ext hT (fun _ h=>h) (fun _ h=>.inl h)
 replace e2:=e2.ext hT (by simp;exact n2)
 replace e3:=e3.ext hT (by simp;exact n3)
 replace hS:=hS.trans hT
 replace ht:=ht.ext hT (by simp) (fun _ h=>.inl h)
 clear hT
 have hXs:∀ (w':World),Stp [bm] w w'→(∃ cs,Blk w' b3 97 cs)→(∃ cs,Blk w' b2 97 cs)→∀ b∈b3 :: b2 :: bm :: X,b<w'.heap.size:=fun w' h1 h2 h3 b hb=>by
  obtain ⟨_,h2⟩:=h2
  obtain ⟨_,h3⟩:=h3
  have:=h1.size
  simp only [Xf] at hb
  rcases hb with rfl|rfl|rfl|h
  exact h2.lt
  exact h3.lt
  omega
  have:=hX b h;omega
 refine W ?_
 refine Z1J (σ:=Nd×Value×Nat) (fun _=>[(0,.pointer (some ⟨bm,0,none⟩)),(2,.pointer (some ⟨b2,0,none⟩)),(3,.pointer (some ⟨b3,0,none⟩))])
  (fun q w'=>Gn 2 3 q.1∧SlV (b3 :: b2 :: bm :: X) w' q.2.1 q.1.kids∧Mk3 w' bm lv q.2.2∧q.2.2≤i+124∧SlV [bm] w' lv l∧(∃ cs:List Value,cs.length=13∧Blk w' b2 97 cs)∧Blk w' b3 97 (rlC ⟨nm,fr,on,q.1,Zmx,[],[]⟩ q.2.1 Z3Z)∧Stp [bm] w w') ?_ ?_
 focus repeat'(first|refine W1 ?_|omega|refine VG ?_ ?_<;>intro hg|refine VC ?_ ?_<;>intro hc)
 refine CL rfl (Z9 rfl rfl) rfl ((Zbn 3 (by decide)).2.1 (b3 :: b2 :: bm :: X) _ bm lv l _ _ rfl hmk hsl hl (by rw [z4];omega) (hXs _ hS ⟨_,e3⟩ ⟨_,e2⟩)) ?_
 rintro _ wq ⟨y,i1,⟨ky,rfl,hy⟩,gy,hmk,hi1,hT⟩
 replace hsl:=hsl.ext hT (fun _ h=>h) (fun _ h=>.inl h)
 replace e2:=e2.ext hT (by simp;exact n2)
 replace e3:=e3.ext hT (by simp;exact n3)
 replace hS:=hS.trans hT
 clear hT
 refine W ?_
 refine Z0 (Z1g (us:=ndC y ky) rfl rfl rfl rfl (Zk hy) e3 (by simp)) ?_
 rintro _ wq ⟨hT,e3⟩
 replace e3:Blk wq b3 97 (rlC ⟨nm,fr,on,y,Zmx,[],[]⟩ ky Z3Z):=e3
 replace hy:=hy.ext hT (by simp) (fun _ h=>.inl h)
 replace hmk:=hmk.ext hT (by simp;exact n3.symm)
 replace e2:=e2.ext hT (by simp;exact n23)
 replace hS:=hS.own hT (fun b hb=>.inr (by simp at hb;omega))
 replace hsl:=hsl0.ext hS (fun _ h=>h) (fun _ h=>.inl h)
 clear hT
 refine W ?_
 exact ZI (y,ky,_) ⟨rfl,rfl,rfl,trivial⟩ ⟨gy,hy,hmk,by simp only;omega,hsl,⟨_,rfl,e2⟩,e3,hS⟩
 exact ZI (Z4N,_,_) ⟨rfl,rfl,rfl,trivial⟩ ⟨.bool _ _ (by decide),ht,hmk,by simp only;omega,hsl,⟨_,rfl,e2⟩,e3,hS⟩
 clear hmk hsl e2 e3 hS ht
 rintro ⟨y,ky,i1⟩ wq ⟨gy,hy,hmk,hi1,hsl,⟨cs2,hc2,e2⟩,e3,hS⟩
 dsimp only at gy hy hmk hi1 e3
 have z4':szD (3+1)=40:=z4
 refine W ?_
 refine CL rfl (Z9 rfl rfl) rfl ((Zbn 3 (by decide)).2.2 (b3 :: b2 :: bm :: X) _ bm lv l _ _ rfl hmk hsl hl (by rw [z4];omega) (hXs _ hS ⟨_,e3⟩ ⟨_,e2⟩)) ?_
 rintro _ wq ⟨x,i2,⟨kx,rfl,hx⟩,gx,hmk,hi2,hT⟩
 replace hy:=hy.ext hT (by simp) (fun _ h=>.inl h)
 replace e2:=e2.ext hT (by simp;exact n2)
 replace e3:=e3.ext hT (by simp;exact n3)
 replace hS:=hS.trans hT
 clear hT
 refine W ?_
 refine Z0 (Z1g (us:=ndC x kx) rfl rfl rfl rfl (Zk hx) e3 (by simp)) ?_
 rintro _ wq ⟨hT,e3⟩
 replace e3:Blk wq b3 97 (rlC ⟨nm,fr,on,y,x,[],[]⟩ ky kx):=e3
 replace hx:=hx.ext hT (by simp) (fun _ h=>.inl h)
 replace hy:=hy.ext hT (by simp) (fun _ h=>.inl h)
 replace hmk:=hmk.ext hT (by simp;exact n3.symm)
 replace e2:=e2.ext hT (by simp;exact n23)
 replace hS:=hS.own hT (fun b hb=>.inr (by simp at hb;omega))
 replace hsl:=hsl0.ext hS (fun _ h=>h) (fun _ h=>.inl h)
 clear hT
 refine W ?_
 refine CL rfl (Z9 rfl rfl) rfl (ZK bm lv l _ 2 _ (by decide) (by omega) hmk hsl hl) ?_
 rintro _ wq ⟨q5,rfl,hq5,hmk,hT⟩
 replace hy:=hy.ext hT (by simp) (fun _ h=>.inl h)
 replace hx:=hx.ext hT (by simp) (fun _ h=>.inl h)
 replace e2:=e2.ext hT (by simp;exact n2)
 replace e3:=e3.ext hT (by simp;exact n3)
 replace hS:=hS.trans hT
 replace hsl:=hsl0.ext hS (fun _ h=>h) (fun _ h=>.inl h)
 clear hT
 refine W ?_
 refine Z1J (σ:=Str×Nat) (fun _=>[(0,.pointer (some ⟨bm,0,none⟩)),(2,.pointer (some ⟨b2,0,none⟩)),(3,.pointer (some ⟨b3,0,none⟩))])
  (fun q w'=>(q.1=[]∨q.1∈Z3M)∧SlV (b3 :: b2 :: bm :: X) w' ky y.kids∧SlV (b3 :: b2 :: bm :: X) w' kx x.kids∧Mk3 w' bm lv q.2∧q.2≤i+250∧Blk w' b2 97 cs2∧Blk w' b3 97 (rlC ⟨nm,fr,on,y,x,q.1,[]⟩ ky kx)∧Stp [bm] w w') ?_ ?_
 focus repeat'(first|refine W1 ?_|omega|refine VG ?_ ?_<;>intro hg|refine VC ?_ ?_<;>intro hc)
 refine CL rfl (Z9 rfl rfl) rfl (ZK bm lv l _ 6 _ (by decide) (by omega) hmk hsl hl) ?_
 rintro _ wq ⟨q6,rfl,hq6,hmk,hT⟩
 replace hy:=hy.ext hT (by simp) (fun _ h=>.inl h)
 replace hx:=hx.ext hT (by simp) (fun _ h=>.inl h)
 replace e2:=e2.ext hT (by simp;exact n2)
 replace e3:=e3.ext hT (by simp;exact n3)
 replace hS:=hS.trans hT
 clear hT
 refine W ?_
 refine CL rfl (Zp rfl) rfl (Z6a q6 _ (by omega)) ?_
 rintro _ wq ⟨⟨kn,hkn,rfl⟩,hT⟩
 replace hy:=hy.up hT
 replace hx:=hx.up hT
 replace hmk:=hmk.up hT
 replace e2:=e2.up hT
 replace e3:=e3.up hT
 replace hS:=hS.trans (hT.mono (by simp))
 clear hT
 refine W ?_
 refine Z0 (Zj (u:=str kn) rfl rfl rfl rfl e3 (by simp)) ?_
 rintro _ wq ⟨hT,e3⟩
 replace e3:Blk wq b3 97 (rlC ⟨nm,fr,on,y,x,kn,[]⟩ ky kx):=e3
 replace hx:=hx.ext hT (by simp) (fun _ h=>.inl h)
 replace hy:=hy.ext hT (by simp) (fun _ h=>.inl h)
 replace hmk:=hmk.ext hT (by simp;exact n3.symm)
 replace e2:=e2.ext hT (by simp;exact n23)
 replace hS:=hS.own hT (fun b hb=>.inr (by simp at hb;omega))
 refine W ?_
 exact ZI (kn,_) ⟨rfl,rfl,rfl,trivial⟩ ⟨.inr hkn,hy,hx,hmk,by simp only;omega,e2,e3,hS⟩
 exact ZI ([],_) ⟨rfl,rfl,rfl,trivial⟩ ⟨.inl rfl,hy,hx,hmk,by simp only;omega,e2,e3,hS⟩
 clear hmk hsl e2 e3 hS hy hx
 rintro ⟨u,i5⟩ wq ⟨hu,hy,hx,hmk,hi5,e2,e3,hS⟩
 dsimp only at hu hmk hi5 e3
 have hsl:=hsl0.ext hS (fun _ h=>h) (fun _ h=>.inl h)
 refine W ?_
 refine CL rfl (Z9 rfl rfl) rfl (ZK bm lv l _ 2 _ (by decide) (by omega) hmk hsl hl) ?_
 rintro _ wq ⟨q5,rfl,hq5,hmk,hT⟩
 replace hy:=hy.ext hT (by simp) (fun _ h=>.inl h)
 replace hx:=hx.ext hT (by simp) (fun _ h=>.inl h)
 replace e2:=e2.ext hT (by simp;exact n2)
 replace e3:=e3.ext hT (by simp;exact n3)
 replace hS:=hS.trans hT
 replace hsl:=hsl0.ext hS (fun _ h=>h) (fun _ h=>.inl h)
 clear hT
 refine W ?_
 refine Z1J (σ:=Str×Nat) (fun _=>[(0,.pointer (some ⟨bm,0,none⟩)),(2,.pointer (some ⟨b2,0,none⟩)),(3,.pointer (some ⟨b3,0,none⟩))])
  (fun q w'=>(q.1=[]∨q.1∈Z3M)∧SlV (b3 :: b2 :: bm :: X) w' ky y.kids∧SlV (b3 :: b2 :: bm :: X) w' kx x.kids∧Mk3 w' bm lv q.2∧q.2≤i+252∧Blk w' b2 97 cs2∧Blk w' b3 97 (rlC ⟨nm,fr,on,y,x,u,q.1⟩ ky kx)∧Stp [bm] w w') ?_ ?_
 focus repeat'(first|refine W1 ?_|omega|refine VG ?_ ?_<;>intro hg|refine VC ?_ ?_<;>intro hc)
 refine CL rfl (Z9 rfl rfl) rfl (ZK bm lv l _ 6 _ (by decide) (by omega) hmk hsl hl) ?_
 rintro _ wq ⟨q6,rfl,hq6,hmk,hT⟩
 replace hy:=hy.ext hT (by simp) (fun _ h=>.inl h)
 replace hx:=hx.ext hT (by simp) (fun _ h=>.inl h)
 replace e2:=e2.ext hT (by simp;exact n2)
 replace e3:=e3.ext hT (by simp;exact n3)
 replace hS:=hS.trans hT
 clear hT
 refine W ?_
 refine CL rfl (Zp rfl) rfl (Z6a q6 _ (by omega)) ?_
 rintro _ wq ⟨⟨kn,hkn,rfl⟩,hT⟩
 replace hy:=hy.up hT
 replace hx:=hx.up hT
 replace hmk:=hmk.up hT
 replace e2:=e2.up hT
 replace e3:=e3.up hT
 replace hS:=hS.trans (hT.mono (by simp))
 clear hT
 refine W ?_
 refine Z0 (Zj (u:=str kn) rfl rfl rfl rfl e3 (by simp)) ?_
 rintro _ wq ⟨hT,e3⟩
 replace e3:Blk wq b3 97 (rlC ⟨nm,fr,on,y,x,u,kn⟩ ky kx):=e3
 replace hx:=hx.ext hT (by simp) (fun _ h=>.inl h)
 replace hy:=hy.ext hT (by simp) (fun _ h=>.inl h)
 replace hmk:=hmk.ext hT (by simp;exact n3.symm)
 replace e2:=e2.ext hT (by simp;exact n23)
 replace hS:=hS.own hT (fun b hb=>.inr (by simp at hb;omega))
 refine W ?_
 exact ZI (kn,_) ⟨rfl,rfl,rfl,trivial⟩ ⟨.inr hkn,hy,hx,hmk,by simp only;omega,e2,e3,hS⟩
 exact ZI ([],_) ⟨rfl,rfl,rfl,trivial⟩ ⟨.inl rfl,hy,hx,hmk,by simp only;omega,e2,e3,hS⟩
 clear hmk hsl e2 e3 hS hy hx
 rintro ⟨v,i6⟩ wq ⟨hv,hy,hx,hmk,hi6,e2,e3,hS⟩
 dsimp only at hv hmk hi6 e3
 have hsl:=hsl0.ext hS (fun _ h=>h) (fun _ h=>.inl h)
 refine W ?_
 try (apply Z7 (Je (us:=rlC ⟨nm,fr,on,y,x,u,v⟩ ky kx) rfl rfl e3 rfl rfl) rfl)
 try refine W ?_
 refine Z0 (Z1 (us:=rlC ⟨nm,fr,on,y,x,u,v⟩ ky kx) rfl rfl rfl rfl (ZcP ⟨nm,fr,on,y,x,u,v⟩ hy hx) e2 (by rw [hc2];rfl)) ?_
 rintro _ wz ⟨hT,e2⟩
 refine W ?_
 refine Zu rfl rfl rfl e2 rfl ?_
 refine .mk ⟨⟨nm,fr,on,y,x,u,v⟩,i6,⟨ky,kx,rfl,(hy.ext hT (by simp) (fun _ h=>.inl h)).wk (fun b h=>by simp [h]),(hx.ext hT (by simp) (fun _ h=>.inl h)).wk (fun b h=>by simp [h])⟩,⟨hnm,hfr,hon,gy,gx,hu,hv⟩,hmk.ext hT (by simp;exact n2.symm),by omega,hS.own hT (fun b hb=>.inr (by simp at hb;omega))⟩
theorem Z7W (X:List Nat) (v:Value) (l:List Int) (m:Nat) (w:World) (hs:SlV X w v l) (hl:∀ a∈l,I64 a) (hm:m≤100000):CC 40 #[v,.int .i64 (m:Int)] w fun r w'=>Z0y 3 w w' r (l.take m):=by
 have hmax:=hs.max
 refine cW2 14 Tryz.func40 ?_
 refine W ?_
 have hmin:min (l.length:Int) (m:Int)=((min l.length m:Nat):Int):=by omega
 refine Z7 (Z73 (r:=min l.length m) rfl hs rfl (by omega) (Nat.min_le_left _ _)) rfl ?_
 have hsl:SlV X w _ (l.take (min l.length m)):=hs.slc (Xy (min l.length m)) (Nat.min_le_left _ _)
 refine Z3 (Z2E rfl (by decide) rfl rfl (Z0y.nil (w:=w)) (ys:=l.take (min l.length m)) (hsl.wk (by simp [ob])) (by simp;omega) (by simp [maxLen];omega)) rfl ?_
 rintro v' w1 ⟨hrow,-,-⟩
 refine W ?_
 refine WR ?_
 refine .mk ?_
 have e:l.take (min l.length m)=l.take m:=by rw [Nat.min_comm,← YaB,XL]
 rw [XS,e] at hrow
 exact hrow
theorem Zbo (p:Option Addr) (l c:Nat) (w:World):(Instr.build 103 #[(0,.slice p l c)]).run Tryz.prog w=.ok (.agg #[.slice p l c,.int .i64 0]) w:=by kernel_rfl
theorem ZgQ (lv:Value) (l:List Int) (w:World) (hs:SlV [] w lv l) (hl:∀ a∈l,I64 a):CC 88 #[lv] w fun r w'=>∃ rs:List RuleM,rs.length≤4∧(∀ x∈rs,Z1c x)∧SlV [] w' r (rs.map RuleM.rul)∧Stp [] w w':=by
 refine cW1 24 Tryz.func88 ?_
 refine W ?_
 refine CL rfl (Z9 rfl rfl) rfl (Z7W [] lv l 120 _ hs hl (by decide)) ?_
 rintro v w1 hrow0
 have hsl:=hrow0.slv (X:=[]) (by simp)
 have hS:=hrow0.2
 have hl':∀ a∈l.take 120,I64 a:=fun a ha=>hl a (Yar ha)
 clear hrow0
 generalize l.take 120=l' at *
 obtain ⟨p,c,rfl,-⟩:=id hsl
 refine W ?_
 apply Ze (vs:=[(0,.slice p l'.length c)]) rfl (Zbo _ _ _) rfl
 refine Z3 (Zs rfl) rfl ?_
 rintro _ w2 ⟨bm,rfl,hbm,hmk,hT⟩
 replace hmk:Mk3 w2 bm (.slice p l'.length c) 0:=hmk
 replace hsl:SlV [bm] w2 (.slice p l'.length c) l':=hsl.ext hT (by simp) (fun b h=>.inr (by simp at h;omega))
 have hbw:w.heap.size≤bm:=Xh hS.size hbm
 replace hS:=hS.trans hT
 clear hT hbm
 refine W ?_
 refine CL rfl (Z9 rfl rfl) rfl (ZK bm _ l' _ 5 _ (by decide) (by omega) hmk hsl hl') ?_
 rintro _ w3 ⟨k,rfl,hk,hmk,hT⟩
 replace hsl:=hsl.ext hT (fun _ h=>h) (fun _ h=>.inl h)
 have hlt:=hmk.lt
 refine W ?_
 refine ZD (σ:=Nat×List RuleM×Value×Nat) (fun q=>[(3,.pointer (some ⟨bm,0,none⟩)),(4,q.2.2.1),(5,.int .i64 (k:Int)),(6,.int .i64 (q.1:Int))])
  (fun q w'=>q.1≤k∧q.2.1.length=q.1∧(∀ x∈q.2.1,Z1c x)∧q.2.2.2≤1+300 * q.1∧Mk3 w' bm (.slice p l'.length c) q.2.2.2∧Row [bm] w' w3.heap.size 97 q.2.2.1 (q.2.1.map RuleM.rul)∧Stp [bm] w3 w')
  (fun q=>k - q.1) (0,[],.slice none 0 0,1) ⟨rfl,rfl,rfl,rfl,trivial⟩ ⟨Xy _,rfl,by simp,by simp,hmk,Row.nil,Stp.refl _ _⟩ ?_
 have hS3:=hS.own hT (fun b hb=>.inr (by simp at hb;omega))
 have hsl3:=hsl
 clear hmk hsl hS hT
 rintro ⟨i,rs,v,at_⟩ w4 ⟨hi,hlen,hall,hat,hmk,hrow,hS⟩
 dsimp only at hi hlen hall hat hmk hrow ⊢
 have hsz:=hS.size
 by_cases hgo:i<k
 focus repeat'(first|refine W1 ?_|omega|refine VG ?_ ?_<;>intro hg|refine VC ?_ ?_<;>intro hc)
 have hXk:∀ b∈ob v++[bm],b<w4.heap.size:=fun b hb=>by
  rcases Xt.1 hb with h|h
  exact (hrow.ob_le b h).2
  simp at h;omega
 refine CL rfl (Zp rfl) rfl (Zex (ob v++[bm]) bm _ l' _ _ hmk (hsl3.ext hS (fun _ h=>h) (fun _ h=>.inl h)) hl' (by omega) hXk) ?_
 rintro _ w5 ⟨r,i',⟨ki,kd,rfl,hki,hkd⟩,hr,hmk,hi',hT⟩
 replace hrow:=hrow.ext (X':=[bm]) hT (fun b hb=>by
  simp only [Xq] at hb
  subst hb
  exact ⟨by simp,fun h=>by have:=(hrow.ob_le b h).1;omega⟩) (fun b hb=>.inl hb)
 have hXk5:∀ b∈ob v++[bm],b<w5.heap.size:=fun b hb=>Xa (hXk b hb) hT.size
 replace hS:=hS.trans hT
 clear hT hXk
 obtain ⟨p1,c1,rfl,-⟩:=id hki
 obtain ⟨p2,c2,rfl,-⟩:=id hkd
 refine Z3 (Z2 (vs:=[(0,.agg (rlC r.rul (.slice p1 r.rul.cnd.kids.length c1) (.slice p2 r.rul.due.kids.length c2)).toArray)]) rfl (ZaY _ _ _ _ _ _ _)) rfl ?_
 intro bv w6 hN
 have hbv:SlV (ob v++[bm]) w6 bv [r.rul]:=hN.slvG (css:=[rlC r.rul _ _]) hXk5 rfl rfl (by simp) (Zgn ⟨_,_,rfl,hki,hkd⟩) (by simp [maxLen])
 have hT:=Zc.stp hN
 replace hmk:=hmk.up hT;replace hrow:=hrow.up hT
 replace hS:=hS.trans (hT.mono (by simp))
 clear hT hN hki hkd
 have hls:=hS.size
 have hrl:(rs.map RuleM.rul).length=i:=by rw [XM,hlen]
 refine Z3 (Z05 (X:=[bm]) (base:=w3.heap.size) rfl (by decide) rfl rfl hrow hbv (by simp only [Xc,Xe,XM];omega) (by simp only [Xc,Xe,XM,maxLen];omega) hls) rfl ?_
 rintro rv' w7 ⟨hrow',hT,hown⟩
 have hown1:∀ c∈ob v,w3.heap.size≤c:=fun c hc=>(hrow.ob_le c hc).1
 replace hmk:=hmk.ext hT (fun h=>by have:=hown1 _ h;omega)
 replace hS:=hS.own hT (fun c hc=>.inr (hown1 c hc))
 clear hT
 refine W ?_
 refine Zr (i+1,rs++[r],rv',i') ⟨rfl,rfl,rfl,rfl,trivial⟩ ⟨hgo,by simp [hlen],?_,Xh hi' (Xh (Nat.add_le_add_right hat 300) (Nat.le_of_eq (by rw [Nat.mul_add,XT]))),hmk,?_,hS⟩ (by dsimp only;omega)
 intro x hx
 rcases Xt.1 hx with h|h
 exact hall x h
 simp at h;subst h;exact hr
 rw [Yaq]
 exact hrow'
 focus repeat'(first|refine W1 ?_|omega|refine VG ?_ ?_<;>intro hg|refine VC ?_ ?_<;>intro hc)
 refine WR ?_
 refine .mk ⟨rs,by omega,hall,(hrow.slv (by simpa using hlt)).wk (by simp),hS3.own hS (fun b hb=>.inr (by simp at hb;omega))⟩
theorem Zey:∀ s∈Z9G,JZ s=true:=by decide +kernel
theorem Z6b:∀ s∈Z3M,JZ s=true:=by decide +kernel
theorem Z1c.check {r:RuleM} (h:Z1c r):Z2i r.rul=0:=by
 have hn:Z0T r.rul=true:=by
  simp only [Z0T,RuleM.rul,Zey _ h.name,Z6b _ h.on,Bool.true_and,Xi,Yao]
  exact ⟨h.unl.imp decide_eq_true (Z6b _),h.els.imp decide_eq_true (Z6b _)⟩
 have hf:=h.frm
 have m1:Z1U r.cond 2=0:=by
  have:=h.cond.nest
  unfold Z1U;rw [if_pos (by omega),h.cond.type];decide
 have m2:Z1U r.due 3=0:=by
  have:=h.due.nest
  unfold Z1U;rw [if_pos (by omega),h.due.type];decide
 unfold Z2i
 rw [hn,if_neg (by decide),if_neg (by show ¬ (r.frm<0∨3652058<r.frm);omega)]
 show (if Z1U r.cond 2≠0 then Z1U r.cond 2 else Z1U r.due 3)=0
 simp [m1,m2]
theorem Z1c.ok {r:RuleM} (h:Z1c r):Z51 r:=Zcs h.check (by have:=h.cond.nest;omega) (by have:=h.due.nest;omega)
theorem Z1c.len {r:RuleM} (h:Z1c r):(J2 Zh r).length≤900:=by
 have ll:∀ w s:Str,(JE w s).length≤s.length+w.length+5:=fun w s=>by unfold JE;split<;>simp<;>omega
 have c1:(Zl Zh r.cond).length≤290:=h.cond.len
 have c2:(Zl Zh r.due).length≤401:=h.due.len
 have k:=h.ok
 have n1:=k.name.word.len
 have n2:=k.on.word.len
 have nu:r.unl.length≤12:=by rcases k.unl with e|e;rw [e];simp;exact e.word.len
 have ne:r.els.length≤12:=by rcases k.els with e|e;rw [e];simp;exact e.word.len
 have e1:=ll [111,110] r.on
 have e2:=ll [100,117,101] (Zl Zh r.due)
 have e3:=ll [117,110,108,101,115,115] r.unl
 have e4:=ll [101,108,115,101] r.els
 have e5:(Z2I Zh r).length=5+r.name.length+7+(Zh r.frm).length+3:=by unfold Z2I;simp;omega
 have e6:=Z2b k.frm.1 k.frm.2
 have e7:(ifS Zh r.cond).length≤297:=by
  unfold ifS
  split
  simp
  have:=ll [105,102] (Zl Zh r.cond)
  simp only [Xc,Xe] at this
  omega
 unfold J2
 simp only [Xb,Xc,Xe] at e1 e2 e3 e4 ⊢
 omega
theorem Z1c.total:∀ {rs:List RuleM},(∀ x∈rs,Z1c x)→(rs.flatMap (J2 Zh)).length≤900 * rs.length
 | [],_=>by simp
 | r :: rs, h => by
   have:=Z1c.total (rs:=rs) (fun x hx=>h x (by simp [hx]))
   have:=(h r (by simp)).len
   simp only [XY,Xb,Xc]
   omega
theorem Zez (lv:Value) (l:List Int) (w:World) (hs:SlV [] w lv l) (hl:∀ a∈l,I64 a):CC 35 #[lv] w fun r w'=>∃ rs:List RuleM,rs.length≤4∧(∀ x∈rs,Z1c x)∧r=str (rs.flatMap (J2 Zh))∧Stp [] w w':=by
 refine cW1 6 Tryz.func35 ?_
 refine W ?_
 refine CL rfl (Zp rfl) rfl (ZgQ lv l _ hs hl) ?_
 rintro rv w1 ⟨rs,h4,hall,hrs,hS⟩
 have ht:=Z1c.total hall
 refine CL rfl (Zp rfl) rfl (Zbh [] rv rs _ hrs (fun x hx=>⟨(hall x hx).ok.frm,(hall x hx).ok.cond,(hall x hx).ok.due⟩) (fun x hx=>(hall x hx).ok.on.word.ne) (by omega)) ?_
 rintro _ w2 ⟨rfl,hT⟩
 refine W ?_
 refine WR ?_
 exact .mk ⟨rs,h4,hall,rfl,hS.trans hT⟩
end Go.Proofs.YtjdjdoefppebkaaGreatDoor
namespace Go.Eng
open Go Go.RowKit Go.Proofs
section
variable {P:Program} {n:Nat} {fn:Func} {R:Ending→World→Prop} {e:Env} {w:World}
theorem Z6c {t1 t2 t3 b1 b2 b3 T1 T2 T3 S1 S2 S3 m1 m2 m3 s:Nat} {D1 D2 D3:TypeDesc} {c1 c2 c3:List Value} {v:Value} (hr:fn.results=#[.cell t1 S1,.cell t2 S2,.cell t3 S3,.tmp s])
 [hu1:Und P S1 D1] (hA1:JX D1=true) [hs1:Siz P S1 m1] (ht1:look e t1=some (.pointer (some ⟨b1,0,none⟩))) (hb1:Blk w b1 T1 c1) (hl1:c1.length=m1)
 [hu2:Und P S2 D2] (hA2:JX D2=true) [hs2:Siz P S2 m2] (ht2:look e t2=some (.pointer (some ⟨b2,0,none⟩))) (hb2:Blk w b2 T2 c2) (hl2:c2.length=m2)
 [hu3:Und P S3 D3] (hA3:JX D3=true) [hs3:Siz P S3 m3] (ht3:look e t3=some (.pointer (some ⟨b3,0,none⟩))) (hb3:Blk w b3 T3 c3) (hl3:c3.length=m3)
 (hv:look e s=some v) (h:R (.returned (.tuple #[.agg c1.toArray,.agg c2.toArray,.agg c3.toArray,v])) w):WQ n (bodyPost P fn R) .ret e w:=
 ⟨fun a ha => ⟨ha.defers, .tuple #[.agg c1.toArray, .agg c2.toArray, .agg c3.toArray, v], by
   have h1:=ha.vals _ _ ht1
   have h2:=ha.vals _ _ ht2
   have h3:=ha.vals _ _ ht3
   have h4:=ha.vals _ _ hv
   rw [Xw] at h1 h2 h3 h4
   simp [results,hr,h1,h2,h3,h4,asAddr,Z0B hA1 hb1 hl1,Z0B hA2 hb2 hl2,Z0B hA3 hb3 hl3],h⟩⟩
end
end Go.Eng
namespace Go.Proofs.YtjdjdoefppebkaaGreatDoor
open Go Go.Eng Go.RowKit
theorem Z4C {c:Cal} {hv cv zo zs hr:Value} (h1:hv.oneCell'=true) (h2:cv.oneCell'=true) (ho:zo.oneCell'=true∧zs.oneCell'=true∧hr.oneCell'=true):∀ u∈Z0i c hv cv zo zs hr,u.oneCell'=true:=by
 obtain ⟨h3,h4,h5⟩:=ho
 intro u hu
 unfold Z0i at hu
 simp only [Xf,Xk,or_false] at hu
 rcases hu with rfl|rfl|rfl|rfl|rfl|rfl|rfl|rfl|rfl|rfl|rfl|rfl<;>first|rfl|assumption
theorem Z6d (ev:List Int):∀ u∈evC ev,u.oneCell'=true:=by
 intro u hu
 unfold evC at hu
 simp only [Xf,Xk,or_false] at hu
 rcases hu with rfl|rfl|rfl|rfl|rfl|rfl|rfl<;>rfl
abbrev ZgR (v0 v1 v2:Value) (kd kz:Int):Value:=.agg #[v0,v1,v2,.int .i64 kd,.int .i64 kz]
theorem Zct (v0 v1 v2:Value) (l0 l1 l2:List Int) (kd kz:Int) (w:World) (h0:SlV [] w v0 l0) (h1:SlV [] w v1 l1) (h2:SlV [] w v2 l2) (hi0:∀ a∈l0,I64 a) (hi1:∀ a∈l1,I64 a) (hi2:∀ a∈l2,I64 a) (hkd:I64 kd) (hkz:I64 kz) (hL:Z0M w) (hM:Z3I w) :
 CC 12 #[ZgR v0 v1 v2 kd kz] w fun r w'=>∃ (y:Nd) (t:Int) (ky:Value) (ev:List Int) (c:Cal) (hv cv zo zs hr:Value) (kn:Int),r=.tuple #[.agg (ndC y ky).toArray,Z9D ev,Z4h c hv cv zo zs hr,.int .i64 kn]∧Gn t 4 y∧SlV [] w' ky y.kids∧Z49 ev∧Z56 w' c hv cv zo zs hr∧(zo.oneCell'=true∧zs.oneCell'=true∧hr.oneCell'=true)∧Zjc c∧(739606≤kn∧kn<739686)∧Stp [] w w':=by
 refine cW1 48 Tryz.func12 ?_
 refine W ?_
 refine Z3 (Zs rfl) rfl ?_
 rintro _ w1 ⟨b1,rfl,hb1,k1,hS⟩
 have gw1:=hS.size
 have lt1:=k1.lt
 replace k1:Blk w1 b1 24 [v0,v1,v2,.int .i64 kd,.int .i64 kz]:=k1
 refine Z3 Z6 rfl ?_
 rintro _ w2 ⟨b2,rfl,hb2,k2,hT⟩
 replace k1:=k1.up hT
 replace hS:=hS.trans hT
 clear hT
 have lt2:=k2.lt
 refine Z3 Z6 rfl ?_
 rintro _ w3 ⟨b3,rfl,hb3,k3,hT⟩
 replace k1:=k1.up hT
 replace k2:=k2.up hT
 replace hS:=hS.trans hT
 clear hT
 have lt3:=k3.lt
 refine Z3 Z6 rfl ?_
 rintro _ w4 ⟨b4,rfl,hb4,k4,hT⟩
 replace k1:=k1.up hT
 replace k2:=k2.up hT
 replace k3:=k3.up hT
 replace hS:=hS.trans hT
 clear hT
 have lt4:=k4.lt
 have g1:w.heap.size≤b2∧w.heap.size≤b3∧w.heap.size≤b4:=by omega
 refine W ?_
 refine CL rfl (Z9 rfl rfl) rfl (Z7W [] v0 l0 60 _ (h0.up hS) hi0 (by decide)) ?_
 rintro lv w5 hrow0
 have hsl:=hrow0.slv (X:=[]) (by simp)
 have hT:=hrow0.2
 replace k1:=k1.up hT
 replace k2:=k2.up hT
 replace k3:=k3.up hT
 replace k4:=k4.up hT
 replace hS:=hS.trans hT
 clear hT hrow0
 have hl':∀ a∈l0.take 60,I64 a:=fun a ha=>hi0 a (Yar ha)
 generalize l0.take 60=l' at *
 obtain ⟨p,cc,rfl,-⟩:=id hsl
 refine W ?_
 refine Ze (vs:=[(0,.slice p l'.length cc)]) rfl (Zbo _ _ _) rfl ?_
 have lt5:=k4.lt
 have g5:=hS.size
 refine Z3 (Zs rfl) rfl ?_
 rintro _ w6 ⟨bm,rfl,hbm,hmk,hT⟩
 replace hmk:Mk3 w6 bm (.slice p l'.length cc) 0:=hmk
 replace hsl:SlV [bm] w6 (.slice p l'.length cc) l':=hsl.ext hT (by simp) (fun b h=>.inr (by simp at h;omega))
 replace k1:=k1.up hT
 replace k2:=k2.up hT
 replace k3:=k3.up hT
 replace k4:=k4.up hT
 replace hS:=hS.trans hT
 have ltm:=hmk.lt
 clear hT
 refine W ?_
 refine CL rfl (Z9 rfl rfl) rfl (Z1o kz 80 _ (by decide) hkz) ?_
 rintro _ w7 ⟨rfl,hT⟩
 have hrz:=Z0O (if kz<0 then -(kz+1) else kz) 80 (by decide)
 generalize (if kz<0 then -(kz+1) else kz) % 80=z at hrz ⊢
 replace k1:=k1.up hT
 replace k2:=k2.up hT
 replace k3:=k3.up hT
 replace k4:=k4.up hT
 replace hmk:=hmk.up hT
 replace hsl:=hsl.up hT
 replace hS:=hS.trans hT
 clear hT
 refine W ?_
 refine CL rfl (Zp rfl) rfl (Zba v1 l1 _ (h1.up hS) hi1) ?_
 rintro _ w8 ⟨ev,rfl,hev,hT⟩
 replace k1:=k1.up hT
 replace k2:=k2.up hT
 replace k3:=k3.up hT
 replace k4:=k4.up hT
 replace hmk:=hmk.up hT
 replace hsl:=hsl.up hT
 replace hS:=hS.trans hT
 clear hT
 refine W ?_
 have lt8:=hmk.lt
 refine Z3 Z6 rfl ?_
 rintro _ w9 ⟨b8,rfl,hb8,k8,hT⟩
 have hq:=hT
 have hsl8:=hsl
 replace k1:=k1.up hT
 replace k2:=k2.up hT
 replace k3:=k3.up hT
 replace k4:=k4.up hT
 replace hmk:=hmk.up hT
 replace hsl:=hsl.up hT
 replace hS:=hS.trans hT
 clear hT
 refine W ?_
 refine Z0 (Z1 (us:=evC ev) rfl rfl rfl rfl (Z6d _) k8 rfl) ?_
 rintro _ w10 ⟨hT,k8⟩
 have ne8:b1≠b8∧b2≠b8∧b3≠b8∧b4≠b8∧bm≠b8:=by omega
 have gw9:=hS.size
 replace k1:=k1.ext hT (by simpa using ne8.1)
 replace k2:=k2.ext hT (by simpa using ne8.2.1)
 replace k3:=k3.ext hT (by simpa using ne8.2.2.1)
 replace k4:=k4.ext hT (by simpa using ne8.2.2.2.1)
 replace hmk:=hmk.ext hT (by simpa using ne8.2.2.2.2)
 have gb8:w.heap.size≤b8:=by omega
 have lt9:=k8.lt
 replace hS:=hS.own hT (fun c hc=>.inr (by simp at hc;omega))
 replace hsl:=hsl8.up (hq.own hT (fun c hc=>.inr (by simp at hc;omega)))
 clear hT hsl8 hq
 refine W ?_
 refine CL rfl (Zp rfl) rfl (Z7P [bm,b2,b3,b4] v2 l2 _ (by have:=hmk.lt;have:=k2.lt;have:=k3.lt;have:=k4.lt;simp;omega) (h2.up hS) hi2) ?_
 rintro _ w11 ⟨c,hv,cv,zo,zs,hr,rfl,ho,hok,hhv,hcv,hT⟩
 replace k1:=k1.up hT
 replace k2:=k2.up hT
 replace k3:=k3.up hT
 replace k4:=k4.up hT
 replace hmk:=hmk.up hT
 replace hsl:=hsl.up hT
 replace k8:=k8.up hT
 replace hS:=hS.trans hT
 clear hT
 refine W ?_
 have lt11:=hmk.lt
 have lt11b:=k8.lt
 have hsl11:=hsl
 refine Z3 Z6 rfl ?_
 rintro _ w12 ⟨b9,rfl,hb9,k9,hT⟩
 have hq:=hT
 replace k1:=k1.up hT
 replace k2:=k2.up hT
 replace k3:=k3.up hT
 replace k4:=k4.up hT
 replace hmk:=hmk.up hT
 replace k8:=k8.up hT
 replace hS:=hS.trans hT
 clear hT
 refine W ?_
 have gw12:=hS.size
 have ne9:b1≠b9∧b2≠b9∧b3≠b9∧b4≠b9∧bm≠b9∧b8≠b9:=by
  omega
 refine Z0 (Z1 (us:=Z0i c hv cv zo zs hr) rfl rfl rfl rfl (Z4C hhv.one hcv.one ho) k9 rfl) ?_
 rintro _ w13 ⟨hT,k9⟩
 replace k1:=k1.ext hT (by simpa using ne9.1)
 replace k2:=k2.ext hT (by simpa using ne9.2.1)
 replace k3:=k3.ext hT (by simpa using ne9.2.2.1)
 replace k4:=k4.ext hT (by simpa using ne9.2.2.2.1)
 replace hmk:=hmk.ext hT (by simpa using ne9.2.2.2.2.1)
 replace k8:=k8.ext hT (by simpa using ne9.2.2.2.2.2)
 have hq2:=hq.own hT (fun c hc=>.inr (by simp at hc;omega))
 have gb9:w.heap.size≤b9:=by have:=hS.size;omega
 replace hS:=hS.own hT (fun c hc=>.inr (by simp at hc;omega))
 replace hsl:=hsl11.up hq2
 replace hhv:=hhv.up hq2
 replace hcv:=hcv.up hq2
 clear hT hsl11 hq hq2
 refine W ?_
 refine CL rfl (Z9 rfl rfl) rfl (Z1o kd 4 _ (by decide) hkd) ?_
 rintro _ w14 ⟨rfl,hT⟩
 have hrk:=Z0O (if kd<0 then -(kd+1) else kd) 4 (by decide)
 generalize (if kd<0 then -(kd+1) else kd) % 4=kk at hrk ⊢
 replace k1:=k1.up hT
 replace k2:=k2.up hT
 replace k3:=k3.up hT
 replace k4:=k4.up hT
 replace hmk:=hmk.up hT
 replace k8:=k8.up hT
 replace k9:=k9.up hT
 replace hsl:=hsl.up hT
 replace hhv:=hhv.up hT
 replace hcv:=hcv.up hT
 replace hS:=hS.trans hT
 clear hT
 have n8:b8∉[bm,b2,b3,b4]:=by simp;omega
 have n9:b9∉[bm,b2,b3,b4]:=by simp;omega
 have e23:b2≠b3∧b2≠b4∧b3≠b4∧b2≠bm∧b3≠bm∧b4≠bm:=by omega
 by_cases hk0:kk=0
 focus repeat'(first|refine W1 ?_|omega|refine VG ?_ ?_<;>intro hg|refine VC ?_ ?_<;>intro hc)
 refine ZDr 9 ([bm,b2,b3,b4]) [] [(0,0),(2,1),(3,1),(4,0),(1,2),(5,2),(6,2),(7,2),(8,0)] (fun w1 hS1=>?_)
 have hT:=hS1
 replace k1:=k1.up hT
 replace k2:=k2.up hT
 replace k3:=k3.up hT
 replace k4:=k4.up hT
 replace hmk:=hmk.up hT
 replace k8:=k8.up hT
 replace k9:=k9.up hT
 replace hsl:=hsl.up hT
 replace hhv:=hhv.up hT
 replace hcv:=hcv.up hT
 replace hS:=hS.trans hT
 clear hT
 clear hS1
 refine D ?_
 refine Zb rfl trivial (Z5 rfl (Z9 rfl rfl) ((Zbn 4 (by decide)).1 [b2,b3,b4] _ bm _ l' 0 4 rfl hmk hsl hl' (by decide) (by have:=k2.lt;have:=k3.lt;have:=k4.lt;simp;omega))) (fun _ _ h=>(h.choose_spec.choose_spec.2.2.2.2).mono (by simp)) rfl ?_
 rintro _ w15 ⟨y,i',⟨ky,rfl,hky⟩,hgn,-,-,hT⟩
 replace k2:=k2.ext hT (by simp;omega)
 replace k3:=k3.ext hT (by simp;omega)
 replace k4:=k4.ext hT (by simp;omega)
 replace k8:=k8.ext hT (by simp;omega)
 replace k9:=k9.ext hT (by simp;omega)
 replace hhv:=hhv.ext (X':=[bm,b2,b3,b4]) hT (by simp) (fun _ h=>.inl h)
 replace hcv:=hcv.ext (X':=[bm,b2,b3,b4]) hT (by simp) (fun _ h=>.inl h)
 replace hS:=hS.own hT (fun c hc=>.inr (by simp at hc;omega))
 clear hT hmk hsl
 refine D ?_
 refine ZG rfl trivial (Z1 (us:=ndC y ky) rfl rfl rfl rfl (Zk hky) k2 rfl) (fun _ _ h=>h.1.mono (by simp)) ?_
 rintro _ w16 ⟨hT,k2⟩
 replace k3:=k3.ext hT (by simp;omega)
 replace k4:=k4.ext hT (by simp;omega)
 replace k8:=k8.ext hT (by simp;omega)
 replace k9:=k9.ext hT (by simp;omega)
 replace hky:=hky.ext (X':=[b2,b3,b4]) hT (by simp) (fun _ h=>.inl h)
 replace hhv:=hhv.ext (X':=[bm,b2,b3,b4]) hT (by simp) (fun _ h=>.inl h)
 replace hcv:=hcv.ext (X':=[bm,b2,b3,b4]) hT (by simp) (fun _ h=>.inl h)
 replace hS:=hS.own hT (fun c hc=>.inr (by simp at hc;omega))
 clear hT
 refine D ?_
 refine ZG rfl trivial (Z1 (us:=evC ev) rfl rfl rfl rfl (Z6d _) k3 rfl) (fun _ _ h=>h.1.mono (by simp)) ?_
 rintro _ w17 ⟨hT,k3⟩
 replace k2:=k2.ext hT (by simp;omega)
 replace k4:=k4.ext hT (by simp;omega)
 replace k9:=k9.ext hT (by simp;omega)
 replace hky:=hky.ext (X':=[b2,b3,b4]) hT (by simp) (fun _ h=>.inl h)
 replace hhv:=hhv.ext (X':=[bm,b2,b3,b4]) hT (by simp) (fun _ h=>.inl h)
 replace hcv:=hcv.ext (X':=[bm,b2,b3,b4]) hT (by simp) (fun _ h=>.inl h)
 replace hS:=hS.own hT (fun c hc=>.inr (by simp at hc;omega))
 clear hT
 refine D ?_
 refine ZG rfl trivial (Z1 (us:=Z0i c hv cv zo zs hr) rfl rfl rfl rfl (Z4C hhv.one hcv.one ho) k4 rfl) (fun _ _ h=>h.1.mono (by simp)) ?_
 rintro _ w18 ⟨hT,k4⟩
 replace k2:=k2.ext hT (by simp;omega)
 replace k3:=k3.ext hT (by simp;omega)
 replace hky:=hky.ext (X':=[b2,b3,b4]) hT (by simp) (fun _ h=>.inl h)
 replace hhv:=hhv.ext (X':=[bm,b2,b3,b4]) hT (by simp) (fun _ h=>.inl h)
 replace hcv:=hcv.ext (X':=[bm,b2,b3,b4]) hT (by simp) (fun _ h=>.inl h)
 replace hS:=hS.own hT (fun c hc=>.inr (by simp at hc;omega))
 clear hT
 refine D ?_
 refine W ?_
 refine Z6c rfl rfl rfl k2 rfl rfl rfl k3 rfl rfl rfl k4 rfl rfl ?_
 exact .mk ⟨y,_,ky,ev,c,hv,cv,zo,zs,hr,_,rfl,hgn,hky.wk (by simp),hev,⟨hhv.wk (by simp),hcv.wk (by simp),hL.up hS,hM.up hS,hok.ok⟩,ho,hok,(by omega),hS⟩
 by_cases hk1:kk=1
 focus repeat'(first|refine W1 ?_|omega|refine VG ?_ ?_<;>intro hg|refine VC ?_ ?_<;>intro hc)
 refine ZDr 9 ([bm,b2,b3,b4]) [] [(0,0),(2,1),(3,1),(4,0),(1,2),(5,2),(6,2),(7,2),(8,0)] (fun w1 hS1=>?_)
 have hT:=hS1
 replace k1:=k1.up hT
 replace k2:=k2.up hT
 replace k3:=k3.up hT
 replace k4:=k4.up hT
 replace hmk:=hmk.up hT
 replace k8:=k8.up hT
 replace k9:=k9.up hT
 replace hsl:=hsl.up hT
 replace hhv:=hhv.up hT
 replace hcv:=hcv.up hT
 replace hS:=hS.trans hT
 clear hT
 clear hS1
 refine D ?_
 refine Zb rfl trivial (Z5 rfl (Z9 rfl rfl) ((Zbn 4 (by decide)).2.1 [b2,b3,b4] _ bm _ l' 0 4 rfl hmk hsl hl' (by decide) (by have:=k2.lt;have:=k3.lt;have:=k4.lt;simp;omega))) (fun _ _ h=>(h.choose_spec.choose_spec.2.2.2.2).mono (by simp)) rfl ?_
 rintro _ w15 ⟨y,i',⟨ky,rfl,hky⟩,hgn,-,-,hT⟩
 replace k2:=k2.ext hT (by simp;omega)
 replace k3:=k3.ext hT (by simp;omega)
 replace k4:=k4.ext hT (by simp;omega)
 replace k8:=k8.ext hT (by simp;omega)
 replace k9:=k9.ext hT (by simp;omega)
 replace hhv:=hhv.ext (X':=[bm,b2,b3,b4]) hT (by simp) (fun _ h=>.inl h)
 replace hcv:=hcv.ext (X':=[bm,b2,b3,b4]) hT (by simp) (fun _ h=>.inl h)
 replace hS:=hS.own hT (fun c hc=>.inr (by simp at hc;omega))
 clear hT hmk hsl
 refine D ?_
 refine ZG rfl trivial (Z1 (us:=ndC y ky) rfl rfl rfl rfl (Zk hky) k2 rfl) (fun _ _ h=>h.1.mono (by simp)) ?_
 rintro _ w16 ⟨hT,k2⟩
 replace k3:=k3.ext hT (by simp;omega)
 replace k4:=k4.ext hT (by simp;omega)
 replace k8:=k8.ext hT (by simp;omega)
 replace k9:=k9.ext hT (by simp;omega)
 replace hky:=hky.ext (X':=[b2,b3,b4]) hT (by simp) (fun _ h=>.inl h)
 replace hhv:=hhv.ext (X':=[bm,b2,b3,b4]) hT (by simp) (fun _ h=>.inl h)
 replace hcv:=hcv.ext (X':=[bm,b2,b3,b4]) hT (by simp) (fun _ h=>.inl h)
 replace hS:=hS.own hT (fun c hc=>.inr (by simp at hc;omega))
 clear hT
 refine D ?_
 refine ZG rfl trivial (Z1 (us:=evC ev) rfl rfl rfl rfl (Z6d _) k3 rfl) (fun _ _ h=>h.1.mono (by simp)) ?_
 rintro _ w17 ⟨hT,k3⟩
 replace k2:=k2.ext hT (by simp;omega)
 replace k4:=k4.ext hT (by simp;omega)
 replace k9:=k9.ext hT (by simp;omega)
 replace hky:=hky.ext (X':=[b2,b3,b4]) hT (by simp) (fun _ h=>.inl h)
 replace hhv:=hhv.ext (X':=[bm,b2,b3,b4]) hT (by simp) (fun _ h=>.inl h)
 replace hcv:=hcv.ext (X':=[bm,b2,b3,b4]) hT (by simp) (fun _ h=>.inl h)
 replace hS:=hS.own hT (fun c hc=>.inr (by simp at hc;omega))
 clear hT
 refine D ?_
 refine ZG rfl trivial (Z1 (us:=Z0i c hv cv zo zs hr) rfl rfl rfl rfl (Z4C hhv.one hcv.one ho) k4 rfl) (fun _ _ h=>h.1.mono (by simp)) ?_
 rintro _ w18 ⟨hT,k4⟩
 replace k2:=k2.ext hT (by simp;omega)
 replace k3:=k3.ext hT (by simp;omega)
 replace hky:=hky.ext (X':=[b2,b3,b4]) hT (by simp) (fun _ h=>.inl h)
 replace hhv:=hhv.ext (X':=[bm,b2,b3,b4]) hT (by simp) (fun _ h=>.inl h)
 replace hcv:=hcv.ext (X':=[bm,b2,b3,b4]) hT (by simp) (fun _ h=>.inl h)
 replace hS:=hS.own hT (fun c hc=>.inr (by simp at hc;omega))
 clear hT
 refine D ?_
 refine W ?_
 refine Z6c rfl rfl rfl k2 rfl rfl rfl k3 rfl rfl rfl k4 rfl rfl ?_
 exact .mk ⟨y,_,ky,ev,c,hv,cv,zo,zs,hr,_,rfl,hgn,hky.wk (by simp),hev,⟨hhv.wk (by simp),hcv.wk (by simp),hL.up hS,hM.up hS,hok.ok⟩,ho,hok,(by omega),hS⟩
 focus repeat'(first|refine W1 ?_|omega|refine VG ?_ ?_<;>intro hg|refine VC ?_ ?_<;>intro hc)
 refine ZDr 9 ([bm,b2,b3,b4]) [] [(0,0),(2,1),(3,1),(4,0),(1,2),(5,2),(6,2),(7,2),(8,0)] (fun w1 hS1=>?_)
 have hT:=hS1
 replace k1:=k1.up hT
 replace k2:=k2.up hT
 replace k3:=k3.up hT
 replace k4:=k4.up hT
 replace hmk:=hmk.up hT
 replace k8:=k8.up hT
 replace k9:=k9.up hT
 replace hsl:=hsl.up hT
 replace hhv:=hhv.up hT
 replace hcv:=hcv.up hT
 replace hS:=hS.trans hT
 clear hT
 clear hS1
 refine D ?_
 refine Zb rfl trivial (Z5 rfl (Z9 rfl rfl) ((Zbn 4 (by decide)).2.2 [b2,b3,b4] _ bm _ l' 0 4 rfl hmk hsl hl' (by decide) (by have:=k2.lt;have:=k3.lt;have:=k4.lt;simp;omega))) (fun _ _ h=>(h.choose_spec.choose_spec.2.2.2.2).mono (by simp)) rfl ?_
 rintro _ w15 ⟨y,i',⟨ky,rfl,hky⟩,hgn,-,-,hT⟩
 replace k2:=k2.ext hT (by simp;omega)
 replace k3:=k3.ext hT (by simp;omega)
 replace k4:=k4.ext hT (by simp;omega)
 replace k8:=k8.ext hT (by simp;omega)
 replace k9:=k9.ext hT (by simp;omega)
 replace hhv:=hhv.ext (X':=[bm,b2,b3,b4]) hT (by simp) (fun _ h=>.inl h)
 replace hcv:=hcv.ext (X':=[bm,b2,b3,b4]) hT (by simp) (fun _ h=>.inl h)
 replace hS:=hS.own hT (fun c hc=>.inr (by simp at hc;omega))
 clear hT hmk hsl
 refine D ?_
 refine ZG rfl trivial (Z1 (us:=ndC y ky) rfl rfl rfl rfl (Zk hky) k2 rfl) (fun _ _ h=>h.1.mono (by simp)) ?_
 rintro _ w16 ⟨hT,k2⟩
 replace k3:=k3.ext hT (by simp;omega)
 replace k4:=k4.ext hT (by simp;omega)
 replace k8:=k8.ext hT (by simp;omega)
 replace k9:=k9.ext hT (by simp;omega)
 replace hky:=hky.ext (X':=[b2,b3,b4]) hT (by simp) (fun _ h=>.inl h)
 replace hhv:=hhv.ext (X':=[bm,b2,b3,b4]) hT (by simp) (fun _ h=>.inl h)
 replace hcv:=hcv.ext (X':=[bm,b2,b3,b4]) hT (by simp) (fun _ h=>.inl h)
 replace hS:=hS.own hT (fun c hc=>.inr (by simp at hc;omega))
 clear hT
 refine D ?_
 refine ZG rfl trivial (Z1 (us:=evC ev) rfl rfl rfl rfl (Z6d _) k3 rfl) (fun _ _ h=>h.1.mono (by simp)) ?_
 rintro _ w17 ⟨hT,k3⟩
 replace k2:=k2.ext hT (by simp;omega)
 replace k4:=k4.ext hT (by simp;omega)
 replace k9:=k9.ext hT (by simp;omega)
 replace hky:=hky.ext (X':=[b2,b3,b4]) hT (by simp) (fun _ h=>.inl h)
 replace hhv:=hhv.ext (X':=[bm,b2,b3,b4]) hT (by simp) (fun _ h=>.inl h)
 replace hcv:=hcv.ext (X':=[bm,b2,b3,b4]) hT (by simp) (fun _ h=>.inl h)
 replace hS:=hS.own hT (fun c hc=>.inr (by simp at hc;omega))
 clear hT
 refine D ?_
 refine ZG rfl trivial (Z1 (us:=Z0i c hv cv zo zs hr) rfl rfl rfl rfl (Z4C hhv.one hcv.one ho) k4 rfl) (fun _ _ h=>h.1.mono (by simp)) ?_
 rintro _ w18 ⟨hT,k4⟩
 replace k2:=k2.ext hT (by simp;omega)
 replace k3:=k3.ext hT (by simp;omega)
 replace hky:=hky.ext (X':=[b2,b3,b4]) hT (by simp) (fun _ h=>.inl h)
 replace hhv:=hhv.ext (X':=[bm,b2,b3,b4]) hT (by simp) (fun _ h=>.inl h)
 replace hcv:=hcv.ext (X':=[bm,b2,b3,b4]) hT (by simp) (fun _ h=>.inl h)
 replace hS:=hS.own hT (fun c hc=>.inr (by simp at hc;omega))
 clear hT
 refine D ?_
 refine W ?_
 refine Z6c rfl rfl rfl k2 rfl rfl rfl k3 rfl rfl rfl k4 rfl rfl ?_
 exact .mk ⟨y,_,ky,ev,c,hv,cv,zo,zs,hr,_,rfl,hgn,hky.wk (by simp),hev,⟨hhv.wk (by simp),hcv.wk (by simp),hL.up hS,hM.up hS,hok.ok⟩,ho,hok,(by omega),hS⟩
theorem ZiO (op:BinOp) (x y:Operand) (a b:Spn) (w:World):(eqGuard op 111 x y (agg a) (agg b)).run Tryz.prog w=.ok () w:=by
 cases op<;>kernel_rfl
theorem Zpw (a b:Spn) (w:World):(binOp .neq 111 (agg a) (agg b)).run Tryz.prog w=.ok (.bool (decide (¬ a=b))) w:=by
 have h1:Program.stoodInHeld Tryz.prog 111=false:=by kernel_rfl
 obtain ⟨a1,a2⟩:=a
 obtain ⟨b1,b2⟩:=b
 simp [agg,Zi.enc,run_neq_struct,run_equalIn_struct,h1,Program.fieldsOf,Tryz.underlying111,Op.eqFields,part,Und.isAgg,JX,run_equalIn_int w _ _ .i64 .i64 _ _ Tryz.underlying3]
 repeat' split
 all_goals simp_all
theorem Z1S (va vb:Value) (xs ys:List Spn) (w:World) (ha:SlV [] w va xs) (hb:SlV [] w vb ys) :
 CC 49 #[va,vb] w fun r w'=>r=.bool (decide (xs=ys))∧Stp [] w w':=by
 have hma:=ha.max
 have hmb:=hb.max
 refine cW2 26 Tryz.func49 ?_
 refine W ?_
 by_cases hl:xs.length=ys.length
 case neg=>
  repeat'(first|refine W1 ?_|omega|refine VG ?_ ?_<;>intro hg|refine VC ?_ ?_<;>intro hc)
  refine WR ?_
  exact .mk ⟨by congr 1;rw [eq_comm,decide_eq_false_iff_not];exact fun h=>hl (by rw [h]),Stp.refl _ _⟩
 repeat'(first|refine W1 ?_|omega|refine VG ?_ ?_<;>intro hg|refine VC ?_ ?_<;>intro hc)
 refine ZD (σ:=Nat) (fun j=>[(0,va),(1,vb),(4,.bool false),(5,.int .i64 (j:Int))]) (fun j w'=>j≤xs.length∧Stp [] w w'∧∀ i (h:i<xs.length),i<j→xs[i]=ys[i]'(by omega)) (fun j=>xs.length - j) 0 ⟨rfl,rfl,rfl,rfl,trivial⟩ ⟨Xy _,Stp.refl _ _,fun i _ h=>absurd h (XI _)⟩ ?_
 rintro j w2 ⟨hj,hS,heq⟩
 try dsimp only at hj heq ⊢
 replace ha:=ha.up hS
 replace hb:=hb.up hS
 by_cases hlt:j<xs.length
 have hlt':j<ys.length:=by omega
 focus repeat'(first|refine W1 ?_|omega|refine VG ?_ ?_<;>intro hg|refine VC ?_ ?_<;>intro hc)
 refine ZDr 9 [] [] [(0,0),(1,0),(2,0),(3,1),(4,0),(5,0),(6,0),(7,1),(8,0)] (fun w1 hS1=>?_)
 replace ha:=ha.up hS1
 replace hb:=hb.up hS1
 replace hS:=hS.trans hS1
 refine D ?_
 apply Z0R
 exact rfl
 refine ZhB (c:=xs[j]=ys[j]) trivial rfl rfl (fun w=>ZiO _ _ _ xs[j] ys[j] w) (by intro w;exact Zpw xs[j] ys[j] w) rfl ?_
 refine D ?_
 focus repeat'(first|refine W1 ?_|omega|refine VG ?_ ?_<;>intro hg|refine VC ?_ ?_<;>intro hc)
 refine WR ?_
 exact .mk ⟨by congr 1;rw [eq_comm,decide_eq_false_iff_not];exact fun h=>hc (by simp [h]),hS⟩
 have he:xs[j]=ys[j]:=Decidable.byContradiction hc
 have hk:∀ i (h:i<xs.length),i<j+1→xs[i]=ys[i]'(by omega):=fun i h hi=>by
  by_cases hij:i=j
  subst hij;exact he
  exact heq i h (by omega)
 exact Zr (j+1) ⟨rfl,rfl,rfl,rfl,trivial⟩ ⟨hlt,hS,hk⟩ (Nat.sub_lt_sub_left hlt (Ya5 j))
 have hje:j=xs.length:=by omega
 subst hje
 focus repeat'(first|refine W1 ?_|omega|refine VG ?_ ?_<;>intro hg|refine VC ?_ ?_<;>intro hc)
 refine WR ?_
 exact .mk ⟨by congr 1;rw [eq_comm,decide_eq_true_eq];exact Ya6 hl (fun i h h'=>heq i h h),hS⟩
structure FId where
 f:Nat
deriving DecidableEq
instance:Zi FId where
 k:=1
 enc:=fun x=>[fnV x.f]
 len:=fun _=>rfl
 one:=by intro x u hu;simp at hu;subst hu;rfl
def Z9H {β:Type} [Zi β] (X:List Nat) (w:World) (r:Nat) (es:List (Str×List β)):Prop:=
 ∃ l:List (Str×Value),Z03 str w r l∧l.length=es.length∧∀ i (h:i<l.length) (h':i<es.length),l[i].1=es[i].1∧SlV (r :: X) w l[i].2 es[i].2
theorem Z9H.up {β:Type} [Zi β] {X:List Nat} {w w':World} {r:Nat} {es:List (Str×List β)} (h:Z9H X w r es) (hS:Stp [] w w'):Z9H X w' r es:=by
 obtain ⟨l,h1,h2,h3⟩:=h
 exact ⟨l,h1.up hS,h2,fun i h h'=>⟨(h3 i h h').1,(h3 i h h').2.up hS⟩⟩
theorem Jp {β:Type} [Zi β] {P:Program} {n:Nat} {e:Env} {w:World} {d:Option Nat} {ty:TypeId} {pos:String} {af:Array Edge} {g:Option (Nat×Bool)} {mt kt et r:Nat} {x y z:Operand} [hm:Und P mt (.map kt et)] [hk:Und P kt .string] {X:List Nat} {es:List (Str×List β)} {a:Str} {v:Value} {xs:List β} (hx:ev e x=some (.map (some r))) (hy:ev e y=some (str a)) (hz:ev e z=some v)
 (hr:Z9H X w r es) (hv:SlV (r :: X) w v xs) (hn:∀ p∈es,¬ p.1=a):OE P n ⟨d,.insert mt x y z,ty,pos,af,g⟩ e w (fun _ w'=>Z9H X w' r (es++[(a,xs)])∧Stp [r] w w'):=by
 obtain ⟨l,h1,h2,h3⟩:=hr
 have hfr:∀ p∈l,¬ p.1=a:=by
  intro p hp
  obtain ⟨i,hi,rfl⟩:=Xs hp
  rw [(h3 i hi (by omega)).1]
  exact hn _ (Xg _)
 refine (Zy (K:=inferInstance) hx hy hz h1 hfr).mono ?_
 rintro _ w' ⟨g1,g2⟩
 refine ⟨⟨_,g1,by simp [h2],fun i h h'=>?_⟩,g2⟩
 by_cases hi:i<l.length
 have hi':i<es.length:=by omega
 rw [XP hi,XP hi']
 exact ⟨(h3 i hi hi').1,(h3 i hi hi').2.on g2 (by simp)⟩
 have hil:i=l.length:=by simp at h;omega
 subst hil
 rw [XN (Xo _),XN (by omega)]
 simp only [Ya8,h2,List.getElem_cons_zero]
 exact ⟨trivial,hv.on g2 (by simp)⟩
def Zn3 {β:Type} (es:List (Str×List β)) (s:Str):List β:=match es.find? (fun p=>decide (p.1=s)) with|some p=>p.2|none=>[]
theorem Z9H.get {β:Type} [Zi β] {X:List Nat} {w:World} {m:Nat} {es:List (Str×List β)} (h:Z9H X w m es) (s:Str):∃ l:List (Str×Value),Z03 str w m l∧SlV X w (Z2Z l s (.slice none 0 0)) (Zn3 es s):=by
 obtain ⟨l,h1,h2,h3⟩:=h
 refine ⟨l,h1,?_⟩
 unfold Z2Z Zn3
 have hf:(l.find? (fun p=>decide (p.1=s))=none∧es.find? (fun p=>decide (p.1=s))=none)∨∃ i,∃ (h:i<l.length) (h':i<es.length),l.find? (fun p=>decide (p.1=s))=some l[i]∧es.find? (fun p=>decide (p.1=s))=some es[i]:=by
  cases hq:l.find? (fun p=>decide (p.1=s)) with
  | none=>
    left
    refine ⟨rfl,?_⟩
    rw [Yad]
    intro p hp
    obtain ⟨i,hi,rfl⟩:=Xs hp
    have:=Yad.1 hq l[i] (Xg (by omega))
    rwa [(h3 i (by omega) hi).1] at this
  | some p=>
    right
    obtain ⟨hp,i,hi,rfl,hb⟩:=X1.1 hq
    refine ⟨i,hi,by omega,rfl,?_⟩
    rw [X1]
    refine ⟨by rw [← (h3 i hi (by omega)).1];exact hp,i,by omega,rfl,fun j hj=>?_⟩
    rw [← (h3 j (by omega) (by omega)).1]
    exact hb j hj
 rcases hf with ⟨e1,e2⟩|⟨i,h,h',e1,e2⟩
 rw [e1,e2]
 exact ⟨none,0,rfl,Xo _,by simp [maxLen],fun _=>rfl,fun i h=>absurd h (XI _)⟩
 rw [e1,e2]
 exact (h3 i h h').2.ext (Stp.refl [] w) (by simp) (fun b hb=>.inl (XK _ hb))
theorem JW (f:Nat) (w:World):(Instr.buildSlice 204 1 #[(0,fnV f)]).run Tryz.prog w=.ok (.slice (some ⟨w.heap.size,0,none⟩) 1 1) (w.alloc (.cells #[fnV f] 159)):=by kernel_rfl
theorem Z5K (f g:Nat) (w:World):(Instr.buildSlice 204 2 #[(0,fnV f),(1,fnV g)]).run Tryz.prog w=.ok (.slice (some ⟨w.heap.size,0,none⟩) 2 2) (w.alloc (.cells #[fnV f,fnV g] 159)):=by kernel_rfl
def Zpx:List (Str×List FId):=[([43],[⟨139⟩]),([45],[⟨140⟩]),([42],[⟨141⟩]),([60],[⟨143⟩]),([60,61],[⟨144⟩]),([61],[⟨145⟩]),([62],[⟨144⟩,⟨146⟩]),([62,61],[⟨143⟩,⟨146⟩]),([33,61],[⟨145⟩,⟨146⟩]),([110,101,120,116],[⟨153⟩]),([112,114,101,118],[⟨154⟩]),([108,97,116,101,114],[⟨155⟩]),([101,97,114,108,105,101,114],[⟨156⟩]),([98,101,116,119,101,101,110],[⟨157⟩])]
def ZgS:List (Str×Value):=[([100,97,121,115],fnV 149),([119,101,101,107,115],fnV 150),([109,111,110,116,104,115],fnV 151),([99,111,117,114,116,100,97,121,115],fnV 152)]
def Zbp (s:Str):Nat:=if s=[100,97,121,115] then 149 else if s=[119,101,101,107,115] then 150 else if s=[109,111,110,116,104,115] then 151 else 152
theorem Zbq (s:Str) (hs:s∈J6):Z2Z ZgS s .nilFunc=fnV (Zbp s):=by
 simp only [J6,Xf,Xk,or_false] at hs
 rcases hs with rfl|rfl|rfl|rfl<;>rfl
def Z9I (k:Int) (s:Str):List FId:=if k=7∨k=8 then (if k=8 then [⟨142⟩,⟨Zbp s⟩] else [⟨Zbp s⟩]) else if k=5 then [if s=[110,111,116] then ⟨146⟩ else ⟨142⟩] else Zn3 Zpx s
set_option maxHeartbeats 1000000 in
theorem Z7X (X:List Nat) (k n:Int) (s:Str) (kv:Value) (w:World) (hX:∀ b∈X,b<w.heap.size) (hu:k=7∨k=8→s∈J6) :
 CC 112 #[.agg #[.int .i64 k,.int .i64 n,str s,kv]] w fun r w'=>SlV X w' r (Z9I k s)∧Stp [] w w':=by
 refine cW1 47 Tryz.func112 ?_
 refine W ?_
 refine Z3 (Zs rfl) rfl ?_
 rintro _ w1 ⟨b1,rfl,hb1,hblk,hS⟩
 replace hblk:Blk w1 b1 27 [.int .i64 k,.int .i64 n,str s,kv]:=hblk
 unfold Z9I
 by_cases h78:k=7∨k=8
 rw [if_pos h78]
 have hsu:=hu h78
 rcases h78 with rfl|rfl
 rw [(if_neg (by decide))]
 refine W ?_
 refine Z3 (Z16 str) rfl ?_
 rintro _ w2 ⟨m,rfl,hm,hmap,hS2⟩
 have hmb:b1<m:=by have:=hblk.lt;omega
 replace hblk:=hblk.up hS2
 have hmw:w.heap.size≤m:=by have:=hS.size;omega
 replace hS:=hS.trans hS2
 clear hS2
 refine Z0 (Zy (a:=[100,97,121,115]) rfl rfl rfl hmap (by decide)) ?_
 clear hmap
 rintro _ w3 ⟨hmap,hT⟩
 replace hblk:=hblk.ext hT (by simp;omega)
 replace hS:=hS.own hT (fun c hc=>.inr (by simp at hc;omega))
 clear hT
 refine Z0 (Zy (a:=[119,101,101,107,115]) rfl rfl rfl hmap (by decide)) ?_
 clear hmap
 rintro _ w3 ⟨hmap,hT⟩
 replace hblk:=hblk.ext hT (by simp;omega)
 replace hS:=hS.own hT (fun c hc=>.inr (by simp at hc;omega))
 clear hT
 refine Z0 (Zy (a:=[109,111,110,116,104,115]) rfl rfl rfl hmap (by decide)) ?_
 clear hmap
 rintro _ w3 ⟨hmap,hT⟩
 replace hblk:=hblk.ext hT (by simp;omega)
 replace hS:=hS.own hT (fun c hc=>.inr (by simp at hc;omega))
 clear hT
 refine Z0 (Zy (a:=[99,111,117,114,116,100,97,121,115]) rfl rfl rfl hmap (by decide)) ?_
 clear hmap
 rintro _ w3 ⟨hmap,hT⟩
 replace hblk:=hblk.ext hT (by simp;omega)
 replace hS:=hS.own hT (fun c hc=>.inr (by simp at hc;omega))
 clear hT
 have hmap2:Z03 str w3 m ZgS:=hmap
 refine W ?_
 refine Z7 (Z1z rfl rfl hmap2) rfl ?_
 rw [Zbq s hsu]
 refine W ?_
 have hz:=hS.size
 refine Z3 (Z2 (vs:=[(0,fnV (Zbp s))]) rfl (JW _)) rfl ?_
 rintro bv w4 hN
 refine W ?_
 refine WR ?_
 exact .mk ⟨hN.slv (fun b hb=>by have:=hX b hb;omega) rfl rfl (by simp [maxLen]),hS.trans (Zc.stp hN)⟩
 rw [(if_pos rfl)]
 refine W ?_
 refine Z3 (Z16 str) rfl ?_
 rintro _ w2 ⟨m,rfl,hm,hmap,hS2⟩
 have hmb:b1<m:=by have:=hblk.lt;omega
 replace hblk:=hblk.up hS2
 have hmw:w.heap.size≤m:=by have:=hS.size;omega
 replace hS:=hS.trans hS2
 clear hS2
 refine Z0 (Zy (a:=[100,97,121,115]) rfl rfl rfl hmap (by decide)) ?_
 clear hmap
 rintro _ w3 ⟨hmap,hT⟩
 replace hblk:=hblk.ext hT (by simp;omega)
 replace hS:=hS.own hT (fun c hc=>.inr (by simp at hc;omega))
 clear hT
 refine Z0 (Zy (a:=[119,101,101,107,115]) rfl rfl rfl hmap (by decide)) ?_
 clear hmap
 rintro _ w3 ⟨hmap,hT⟩
 replace hblk:=hblk.ext hT (by simp;omega)
 replace hS:=hS.own hT (fun c hc=>.inr (by simp at hc;omega))
 clear hT
 refine Z0 (Zy (a:=[109,111,110,116,104,115]) rfl rfl rfl hmap (by decide)) ?_
 clear hmap
 rintro _ w3 ⟨hmap,hT⟩
 replace hblk:=hblk.ext hT (by simp;omega)
 replace hS:=hS.own hT (fun c hc=>.inr (by simp at hc;omega))
 clear hT
 refine Z0 (Zy (a:=[99,111,117,114,116,100,97,121,115]) rfl rfl rfl hmap (by decide)) ?_
 clear hmap
 rintro _ w3 ⟨hmap,hT⟩
 replace hblk:=hblk.ext hT (by simp;omega)
 replace hS:=hS.own hT (fun c hc=>.inr (by simp at hc;omega))
 clear hT
 have hmap2:Z03 str w3 m ZgS:=hmap
 refine W ?_
 refine Z7 (Z1z rfl rfl hmap2) rfl ?_
 rw [Zbq s hsu]
 refine W ?_
 have hz:=hS.size
 refine Z3 (Z2 (vs:=[(0,fnV 142),(1,fnV (Zbp s))]) rfl (Z5K _ _)) rfl ?_
 rintro bv w4 hN
 refine W ?_
 refine WR ?_
 exact .mk ⟨hN.slv (fun b hb=>by have:=hX b hb;omega) rfl rfl (by simp [maxLen]),hS.trans (Zc.stp hN)⟩
 rw [if_neg h78]
 by_cases h5:k=5
 rw [if_pos h5]
 subst h5
 have hz:=hS.size
 by_cases hs:s=[110,111,116]
 rw [if_pos hs]
 subst hs
 refine W ?_
 refine Z3 (Z2 (vs:=[(0,fnV 146)]) rfl (JW _)) rfl ?_
 rintro bv w4 hN
 refine W ?_
 refine WR ?_
 exact .mk ⟨hN.slv (fun b hb=>by have:=hX b hb;omega) rfl rfl (by simp [maxLen]),hS.trans (Zc.stp hN)⟩
 rw [if_neg hs]
 have hd:decide (s=[110,111,116])=false:=decide_eq_false hs
 refine W ?_
 rw [hd]
 refine W ?_
 refine Z3 (Z2 (vs:=[(0,fnV 142)]) rfl (JW _)) rfl ?_
 rintro bv w4 hN
 refine W ?_
 refine WR ?_
 exact .mk ⟨hN.slv (fun b hb=>by have:=hX b hb;omega) rfl rfl (by simp [maxLen]),hS.trans (Zc.stp hN)⟩
 rw [if_neg h5]
 repeat'(first|refine W1 ?_|omega|refine VG ?_ ?_<;>intro hg|refine VC ?_ ?_<;>intro hc)
 refine Z3 (Z16 str) rfl ?_
 rintro _ w2 ⟨m,rfl,hm,hmap,hS2⟩
 have hmp:Z9H X w2 m ([]:List (Str×List FId)):=⟨[],hmap,rfl,fun i h=>absurd h (XI _)⟩
 have hml:=hmap.lt
 have hmb:b1<m:=by have:=hblk.lt;omega
 have hmw:w.heap.size≤m:=by have:=hS.size;omega
 have hXw:∀ b∈m :: X,b≤m:=fun b hb=>(Xf.1 hb).elim (fun h=>by omega) (fun h=>by have:=hX b h;omega)
 clear hmap
 replace hblk:=hblk.up hS2
 replace hS:=hS.trans hS2
 clear hS2
 refine Z3 (Z2 (vs:=[(0,fnV 139)]) rfl (JW _)) rfl ?_
 rintro bv w2 hN
 have hbv:SlV (m :: X) w2 bv [(⟨139⟩:FId)]:=hN.slv (fun b hb=>by have:=hXw b hb;omega) rfl rfl (by simp [maxLen])
 have hS2:=Zc.stp hN
 clear hN
 replace hmp:=hmp.up hS2
 have hml2:=hS2.size
 refine Z0 (Jp (a:=[43]) rfl rfl rfl hmp hbv (by decide)) ?_
 clear hmp
 rintro _ w3 ⟨hmp,hS3⟩
 have hml3:=hS3.size
 replace hml:=Xa (Xa hml hml2) hml3
 replace hblk:=(hblk.up hS2).ext hS3 (by simp;omega)
 replace hS:=(hS.trans hS2).own hS3 (fun b hb=>.inr (by simp at hb;omega))
 clear hS2 hS3 hbv hml2 hml3
 refine Z3 (Z2 (vs:=[(0,fnV 140)]) rfl (JW _)) rfl ?_
 rintro bv w2 hN
 have hbv:SlV (m :: X) w2 bv [(⟨140⟩:FId)]:=hN.slv (fun b hb=>by have:=hXw b hb;omega) rfl rfl (by simp [maxLen])
 have hS2:=Zc.stp hN
 clear hN
 replace hmp:=hmp.up hS2
 have hml2:=hS2.size
 refine Z0 (Jp (a:=[45]) rfl rfl rfl hmp hbv (by decide)) ?_
 clear hmp
 rintro _ w3 ⟨hmp,hS3⟩
 have hml3:=hS3.size
 replace hml:=Xa (Xa hml hml2) hml3
 replace hblk:=(hblk.up hS2).ext hS3 (by simp;omega)
 replace hS:=(hS.trans hS2).own hS3 (fun b hb=>.inr (by simp at hb;omega))
 clear hS2 hS3 hbv hml2 hml3
 refine Z3 (Z2 (vs:=[(0,fnV 141)]) rfl (JW _)) rfl ?_
 rintro bv w2 hN
 have hbv:SlV (m :: X) w2 bv [(⟨141⟩:FId)]:=hN.slv (fun b hb=>by have:=hXw b hb;omega) rfl rfl (by simp [maxLen])
 have hS2:=Zc.stp hN
 clear hN
 replace hmp:=hmp.up hS2
 have hml2:=hS2.size
 refine Z0 (Jp (a:=[42]) rfl rfl rfl hmp hbv (by decide)) ?_
 clear hmp
 rintro _ w3 ⟨hmp,hS3⟩
 have hml3:=hS3.size
 replace hml:=Xa (Xa hml hml2) hml3
 replace hblk:=(hblk.up hS2).ext hS3 (by simp;omega)
 replace hS:=(hS.trans hS2).own hS3 (fun b hb=>.inr (by simp at hb;omega))
 clear hS2 hS3 hbv hml2 hml3
 refine Z3 (Z2 (vs:=[(0,fnV 143)]) rfl (JW _)) rfl ?_
 rintro bv w2 hN
 have hbv:SlV (m :: X) w2 bv [(⟨143⟩:FId)]:=hN.slv (fun b hb=>by have:=hXw b hb;omega) rfl rfl (by simp [maxLen])
 have hS2:=Zc.stp hN
 clear hN
 replace hmp:=hmp.up hS2
 have hml2:=hS2.size
 refine Z0 (Jp (a:=[60]) rfl rfl rfl hmp hbv (by decide)) ?_
 clear hmp
 rintro _ w3 ⟨hmp,hS3⟩
 have hml3:=hS3.size
 replace hml:=Xa (Xa hml hml2) hml3
 replace hblk:=(hblk.up hS2).ext hS3 (by simp;omega)
 replace hS:=(hS.trans hS2).own hS3 (fun b hb=>.inr (by simp at hb;omega))
 clear hS2 hS3 hbv hml2 hml3
 refine Z3 (Z2 (vs:=[(0,fnV 144)]) rfl (JW _)) rfl ?_
 rintro bv w2 hN
 have hbv:SlV (m :: X) w2 bv [(⟨144⟩:FId)]:=hN.slv (fun b hb=>by have:=hXw b hb;omega) rfl rfl (by simp [maxLen])
 have hS2:=Zc.stp hN
 clear hN
 replace hmp:=hmp.up hS2
 have hml2:=hS2.size
 refine Z0 (Jp (a:=[60,61]) rfl rfl rfl hmp hbv (by decide)) ?_
 clear hmp
 rintro _ w3 ⟨hmp,hS3⟩
 have hml3:=hS3.size
 replace hml:=Xa (Xa hml hml2) hml3
 replace hblk:=(hblk.up hS2).ext hS3 (by simp;omega)
 replace hS:=(hS.trans hS2).own hS3 (fun b hb=>.inr (by simp at hb;omega))
 clear hS2 hS3 hbv hml2 hml3
 refine Z3 (Z2 (vs:=[(0,fnV 145)]) rfl (JW _)) rfl ?_
 rintro bv w2 hN
 have hbv:SlV (m :: X) w2 bv [(⟨145⟩:FId)]:=hN.slv (fun b hb=>by have:=hXw b hb;omega) rfl rfl (by simp [maxLen])
 have hS2:=Zc.stp hN
 clear hN
 replace hmp:=hmp.up hS2
 have hml2:=hS2.size
 refine Z0 (Jp (a:=[61]) rfl rfl rfl hmp hbv (by decide)) ?_
 clear hmp
 rintro _ w3 ⟨hmp,hS3⟩
 have hml3:=hS3.size
 replace hml:=Xa (Xa hml hml2) hml3
 replace hblk:=(hblk.up hS2).ext hS3 (by simp;omega)
 replace hS:=(hS.trans hS2).own hS3 (fun b hb=>.inr (by simp at hb;omega))
 clear hS2 hS3 hbv hml2 hml3
 refine Z3 (Z2 (vs:=[(0,fnV 144),(1,fnV 146)]) rfl (Z5K _ _)) rfl ?_
 rintro bv w2 hN
 have hbv:SlV (m :: X) w2 bv [(⟨144⟩:FId),(⟨146⟩:FId)]:=hN.slv (fun b hb=>by have:=hXw b hb;omega) rfl rfl (by simp [maxLen])
 have hS2:=Zc.stp hN
 clear hN
 replace hmp:=hmp.up hS2
 have hml2:=hS2.size
 refine Z0 (Jp (a:=[62]) rfl rfl rfl hmp hbv (by decide)) ?_
 clear hmp
 rintro _ w3 ⟨hmp,hS3⟩
 have hml3:=hS3.size
 replace hml:=Xa (Xa hml hml2) hml3
 replace hblk:=(hblk.up hS2).ext hS3 (by simp;omega)
 replace hS:=(hS.trans hS2).own hS3 (fun b hb=>.inr (by simp at hb;omega))
 clear hS2 hS3 hbv hml2 hml3
 refine Z3 (Z2 (vs:=[(0,fnV 143),(1,fnV 146)]) rfl (Z5K _ _)) rfl ?_
 rintro bv w2 hN
 have hbv:SlV (m :: X) w2 bv [(⟨143⟩:FId),(⟨146⟩:FId)]:=hN.slv (fun b hb=>by have:=hXw b hb;omega) rfl rfl (by simp [maxLen])
 have hS2:=Zc.stp hN
 clear hN
 replace hmp:=hmp.up hS2
 have hml2:=hS2.size
 refine Z0 (Jp (a:=[62,61]) rfl rfl rfl hmp hbv (by decide)) ?_
 clear hmp
 rintro _ w3 ⟨hmp,hS3⟩
 have hml3:=hS3.size
 replace hml:=Xa (Xa hml hml2) hml3
 replace hblk:=(hblk.up hS2).ext hS3 (by simp;omega)
 replace hS:=(hS.trans hS2).own hS3 (fun b hb=>.inr (by simp at hb;omega))
 clear hS2 hS3 hbv hml2 hml3
 refine Z3 (Z2 (vs:=[(0,fnV 145),(1,fnV 146)]) rfl (Z5K _ _)) rfl ?_
 rintro bv w2 hN
 have hbv:SlV (m :: X) w2 bv [(⟨145⟩:FId),(⟨146⟩:FId)]:=hN.slv (fun b hb=>by have:=hXw b hb;omega) rfl rfl (by simp [maxLen])
 have hS2:=Zc.stp hN
 clear hN
 replace hmp:=hmp.up hS2
 have hml2:=hS2.size
 refine Z0 (Jp (a:=[33,61]) rfl rfl rfl hmp hbv (by decide)) ?_
 clear hmp
 rintro _ w3 ⟨hmp,hS3⟩
 have hml3:=hS3.size
 replace hml:=Xa (Xa hml hml2) hml3
 replace hblk:=(hblk.up hS2).ext hS3 (by simp;omega)
 replace hS:=(hS.trans hS2).own hS3 (fun b hb=>.inr (by simp at hb;omega))
 clear hS2 hS3 hbv hml2 hml3
 refine Z3 (Z2 (vs:=[(0,fnV 153)]) rfl (JW _)) rfl ?_
 rintro bv w2 hN
 have hbv:SlV (m :: X) w2 bv [(⟨153⟩:FId)]:=hN.slv (fun b hb=>by have:=hXw b hb;omega) rfl rfl (by simp [maxLen])
 have hS2:=Zc.stp hN
 clear hN
 replace hmp:=hmp.up hS2
 have hml2:=hS2.size
 refine Z0 (Jp (a:=[110,101,120,116]) rfl rfl rfl hmp hbv (by decide)) ?_
 clear hmp
 rintro _ w3 ⟨hmp,hS3⟩
 have hml3:=hS3.size
 replace hml:=Xa (Xa hml hml2) hml3
 replace hblk:=(hblk.up hS2).ext hS3 (by simp;omega)
 replace hS:=(hS.trans hS2).own hS3 (fun b hb=>.inr (by simp at hb;omega))
 clear hS2 hS3 hbv hml2 hml3
 refine Z3 (Z2 (vs:=[(0,fnV 154)]) rfl (JW _)) rfl ?_
 rintro bv w2 hN
 have hbv:SlV (m :: X) w2 bv [(⟨154⟩:FId)]:=hN.slv (fun b hb=>by have:=hXw b hb;omega) rfl rfl (by simp [maxLen])
 have hS2:=Zc.stp hN
 clear hN
 replace hmp:=hmp.up hS2
 have hml2:=hS2.size
 refine Z0 (Jp (a:=[112,114,101,118]) rfl rfl rfl hmp hbv (by decide)) ?_
 clear hmp
 rintro _ w3 ⟨hmp,hS3⟩
 have hml3:=hS3.size
 replace hml:=Xa (Xa hml hml2) hml3
 replace hblk:=(hblk.up hS2).ext hS3 (by simp;omega)
 replace hS:=(hS.trans hS2).own hS3 (fun b hb=>.inr (by simp at hb;omega))
 clear hS2 hS3 hbv hml2 hml3
 refine Z3 (Z2 (vs:=[(0,fnV 155)]) rfl (JW _)) rfl ?_
 rintro bv w2 hN
 have hbv:SlV (m :: X) w2 bv [(⟨155⟩:FId)]:=hN.slv (fun b hb=>by have:=hXw b hb;omega) rfl rfl (by simp [maxLen])
 have hS2:=Zc.stp hN
 clear hN
 replace hmp:=hmp.up hS2
 have hml2:=hS2.size
 refine Z0 (Jp (a:=[108,97,116,101,114]) rfl rfl rfl hmp hbv (by decide)) ?_
 clear hmp
 rintro _ w3 ⟨hmp,hS3⟩
 have hml3:=hS3.size
 replace hml:=Xa (Xa hml hml2) hml3
 replace hblk:=(hblk.up hS2).ext hS3 (by simp;omega)
 replace hS:=(hS.trans hS2).own hS3 (fun b hb=>.inr (by simp at hb;omega))
 clear hS2 hS3 hbv hml2 hml3
 refine Z3 (Z2 (vs:=[(0,fnV 156)]) rfl (JW _)) rfl ?_
 rintro bv w2 hN
 have hbv:SlV (m :: X) w2 bv [(⟨156⟩:FId)]:=hN.slv (fun b hb=>by have:=hXw b hb;omega) rfl rfl (by simp [maxLen])
 have hS2:=Zc.stp hN
 clear hN
 replace hmp:=hmp.up hS2
 have hml2:=hS2.size
 refine Z0 (Jp (a:=[101,97,114,108,105,101,114]) rfl rfl rfl hmp hbv (by decide)) ?_
 clear hmp
 rintro _ w3 ⟨hmp,hS3⟩
 have hml3:=hS3.size
 replace hml:=Xa (Xa hml hml2) hml3
 replace hblk:=(hblk.up hS2).ext hS3 (by simp;omega)
 replace hS:=(hS.trans hS2).own hS3 (fun b hb=>.inr (by simp at hb;omega))
 clear hS2 hS3 hbv hml2 hml3
 refine Z3 (Z2 (vs:=[(0,fnV 157)]) rfl (JW _)) rfl ?_
 rintro bv w2 hN
 have hbv:SlV (m :: X) w2 bv [(⟨157⟩:FId)]:=hN.slv (fun b hb=>by have:=hXw b hb;omega) rfl rfl (by simp [maxLen])
 have hS2:=Zc.stp hN
 clear hN
 replace hmp:=hmp.up hS2
 have hml2:=hS2.size
 refine Z0 (Jp (a:=[98,101,116,119,101,101,110]) rfl rfl rfl hmp hbv (by decide)) ?_
 clear hmp
 rintro _ w3 ⟨hmp,hS3⟩
 have hml3:=hS3.size
 replace hml:=Xa (Xa hml hml2) hml3
 replace hblk:=(hblk.up hS2).ext hS3 (by simp;omega)
 replace hS:=(hS.trans hS2).own hS3 (fun b hb=>.inr (by simp at hb;omega))
 clear hS2 hS3 hbv hml2 hml3
 have hmp2:Z9H X w3 m Zpx:=hmp
 obtain ⟨l,hl,hsl⟩:=hmp2.get s
 refine W ?_
 refine Z7 (Z1z rfl rfl hl) rfl ?_
 refine W ?_
 refine WR ?_
 exact .mk ⟨hsl,hS⟩
theorem ZgT (a b c d e f g:Str) (w:World):(Instr.buildSlice 119 7 #[(0,str a),(1,str b),(2,str c),(3,str d),(4,str e),(5,str f),(6,str g)]).run Tryz.prog w=.ok (.slice (some ⟨w.heap.size,0,none⟩) 7 7) (w.alloc (.cells #[str a,str b,str c,str d,str e,str f,str g] 9)):=by kernel_rfl
theorem ZgU:∀ i,i<7→∀ j,j<i→Zg.getD j []≠Zg.getD i []:=by decide +kernel
theorem Zbr (i:Nat) (hi:i<Zg.length):Zg[i]=Zg.getD i []:=by simp [List.getD,hi]
theorem Z6K (i:Nat) (hi:i<7) (w:World):CC 111 #[str (Zg.getD i [])] w fun r w'=>r=.int .i64 (i:Int)∧Stp [] w w':=by
 have hl7:Zg.length=7:=rfl
 refine cW1 17 Tryz.func111 ?_
 refine W ?_
 refine Z3 (Z2 (vs:=[(0,str [100,97,121]),(1,str [115,101,114,118,101,100]),(2,str [101,120,116,114,97]),(3,str [98,121]),(4,str [116,111]),(5,str [99,111,117,114,116]),(6,str [97,109,111,117,110,116])]) rfl (ZgT _ _ _ _ _ _ _)) rfl ?_
 rintro sv w1 hN
 have hsv:SlV [] w1 sv Zg:=hN.slv (by simp) rfl rfl (by simp [maxLen,hl7])
 have hS:=Zc.stp hN
 clear hN
 refine W ?_
 refine ZD (σ:=Nat) (fun q=>[(0,str (Zg.getD i [])),(5,sv),(6,.int .i64 (Zg.length:Int)),(7,.int .i64 (q:Int))]) (fun q w'=>q≤i∧w'=w1) (fun q=>7 - q) 0 ⟨rfl,rfl,rfl,rfl,trivial⟩ ⟨Xy _,rfl⟩ ?_
 rintro q _ ⟨hq,rfl⟩
 have hql:q<Zg.length:=by omega
 have hqi:(q:Int)<(Zg.length:Int):=by omega
 by_cases hqe:q=i
 subst hqe
 focus repeat'(first|refine W1 ?_|omega|refine VG ?_ ?_<;>intro hg|refine VC ?_ ?_<;>intro hc)
 refine WR ?_
 exact .mk ⟨rfl,hS⟩
 rename_i hc
 exact absurd (Zbr q hql) hc
 focus repeat'(first|refine W1 ?_|omega|refine VG ?_ ?_<;>intro hg|refine VC ?_ ?_<;>intro hc)
 rename_i hc
 exact absurd ((Zbr q hql).symm.trans hc) (ZgU i hi q (by omega))
 exact Zr (q+1) ⟨rfl,rfl,rfl,rfl,trivial⟩ ⟨by omega,rfl⟩ (by omega)
theorem Z9J {P:Program} {n:Nat} {o:Oper} {e:Env} {w:World} {v:Value} (hp:PR P n o e w v):OE P n o e w (fun u w'=>u=v∧w'=w):=Z0q (fun a ha=>hp.h a ha) ⟨rfl,rfl⟩
def MK.keep (K:MK) (b:Nat) (o:Obj):MK:={ K with pr:=(b,o) :: K.pr }
section
variable {K:MK} {w w':World} {sv pv:Value} {st:List Int} {sp:List Spn} {at_ er:Int} {dn:Bool} {b:Nat} {o:Obj}
theorem KOk.keep (h:KOk K):KOk (K.keep b o):=⟨h.hols,h.clos,h.ozo,h.ozs,h.ohr,h.len,h.mov,h.bml,h.nkl,h.gl,h.cal,h.ev⟩
theorem Mch.keep (h:Mch K w sv pv st sp at_ er dn) (hb:w.heap[b]?=some o) (h1:b∉K.own) (h2:b∉ob sv) (h3:b∉ob pv):Mch (K.keep b o) w sv pv st sp at_ er dn:=
 ⟨h.blk, h.row, h.nt, h.nt0, h.ap, h.stp, fun p hp => by
   rcases Xf.1 hp with rfl|hp
   exact ⟨hb,h1,h2,h3⟩
   exact h.prot p hp⟩
theorem Mch.unkeep (h:Mch (K.keep b o) w sv pv st sp at_ er dn):Mch K w sv pv st sp at_ er dn:=
 ⟨h.blk,h.row,h.nt,h.nt0,h.ap,h.stp,fun p hp=>h.prot p (XK _ hp)⟩
theorem Mch.kept (h:Mch (K.keep b o) w sv pv st sp at_ er dn):w.heap[b]?=some o:=(h.prot (b,o) YaZ).1
theorem Mch.nosp (hk:K.nk=none) (h:Mch K w sv pv st sp at_ er dn) {sp':List Spn}:Mch K w sv pv st sp' at_ er dn:=
 ⟨h.blk,h.row,(fun bs hb=>by rw [hk] at hb;cases hb),h.nt0,h.ap,h.stp,h.prot⟩
def Z0N (K:MK) (w:World) (st:List Int) (at_:Int) (r:Int×Int):Prop:=∃ sv pv st2,Mch K w sv pv st2 [] at_ r.2 (decide (¬ r.2=0))∧(r.2=0→st2=st++[r.1])
theorem Z0N.un {r:Int×Int} (h:Z0N (K.keep b o) w st at_ r):Z0N K w st at_ r:=by
 obtain ⟨sv,pv,st2,h1,h2⟩:=h
 exact ⟨sv,pv,st2,h1.unkeep,h2⟩
theorem Res.toE {r:Int×Int} (hk:K.nk=none) (h:Res K w st sp at_ r):Z0N K w st at_ r:=by
 obtain ⟨sv,pv,st2,sp2,h1,h2⟩:=h
 exact ⟨sv,pv,st2,h1.nosp hk,fun h0=>(h2 h0).1⟩
theorem Z0N.go {r:Int×Int} (h:Z0N K w st at_ r) (he:r.2=0):∃ sv pv,Mch K w sv pv (st++[r.1]) [] at_ 0 false:=by
 obtain ⟨sv,pv,st2,h1,h2⟩:=h
 have:=h2 he
 subst this
 rw [he] at h1
 exact ⟨sv,pv,h1⟩
theorem Z0N.stop {r:Int×Int} (h:Z0N K w st at_ r) (he:¬ r.2=0):∃ sv pv st2,Mch K w sv pv st2 [] at_ r.2 true:=by
 obtain ⟨sv,pv,st2,h1,h2⟩:=h
 have hd:decide (¬ r.2=0)=true:=decide_eq_true he
 rw [hd] at h1
 exact ⟨sv,pv,st2,h1⟩
theorem Z0N.of {v e:Int} (he:¬ e=0) {st2:List Int} (h:Mch K w sv pv st2 [] at_ e true):Z0N K w st at_ (v,e):=by
 have hd:decide (¬ e=0)=true:=decide_eq_true he
 refine ⟨sv,pv,st2,?_,fun h0=>absurd h0 he⟩
 dsimp only
 rw [hd]
 exact h
end
theorem Zjd {X:List Nat} {w0 w:World} {v:Value} {l:List Nd} {i:Nat} (h:SlV X w0 v l) (hi:i<l.length) (hS:Stp X w0 w) :
 ∃ kv,SlV X w0 kv l[i].kids∧∀ w',Stp X w0 w'→∀ j u,[Value.int .i64 l[i].kind,.int .i64 l[i].num,str l[i].word,kv][j]?=some u→w'.cell? (ZL v i 4 j)=some u:=by
 obtain ⟨kv,h1,h2⟩:=h.nd hi
 refine ⟨kv,h1,fun w' hS' j u hu=>?_⟩
 have hc:=h2 j u hu
 obtain ⟨p,c,rfl,hl,hm,hn,hcell⟩:=id h
 obtain ⟨b,o,cs,rfl,hb,hx,-⟩:=hcell i hi
 exact hS'.cell hx hc
def OVR (r:Z9q):Prop:=(Z9I r.k r.s).length=r.L.length∧(r.k=7∨r.k=8→r.s∈J6)∧∀ i,i<r.L.length→((Z9I r.k r.s).map fun x=>fnV x.f)[i]?=some (Z2Z Z9C (r.L.getD i 0) .nilFunc)
theorem Zsa:OVR ⟨5,[45],[1],1,[8]⟩:=by
 refine ⟨by kernel_rfl,fun h=>by exfalso;revert h;decide,fun i hi=>?_⟩
 obtain rfl:i=0:=by have:i<1:=hi;omega
 kernel_rfl
theorem Zsb:OVR ⟨5,[110,111,116],[2],2,[12]⟩:=by
 refine ⟨by kernel_rfl,fun h=>by exfalso;revert h;decide,fun i hi=>?_⟩
 obtain rfl:i=0:=by have:i<1:=hi;omega
 kernel_rfl
theorem Zsc:OVR ⟨10,[110,101,120,116],[3],3,[19]⟩:=by
 refine ⟨by kernel_rfl,fun h=>by exfalso;revert h;decide,fun i hi=>?_⟩
 obtain rfl:i=0:=by have:i<1:=hi;omega
 kernel_rfl
theorem Zsd:OVR ⟨10,[112,114,101,118],[3],3,[20]⟩:=by
 refine ⟨by kernel_rfl,fun h=>by exfalso;revert h;decide,fun i hi=>?_⟩
 obtain rfl:i=0:=by have:i<1:=hi;omega
 kernel_rfl
theorem Zse:OVR ⟨10,[108,97,116,101,114],[3,3],3,[21]⟩:=by
 refine ⟨by kernel_rfl,fun h=>by exfalso;revert h;decide,fun i hi=>?_⟩
 obtain rfl:i=0:=by have:i<1:=hi;omega
 kernel_rfl
theorem Zsf:OVR ⟨10,[101,97,114,108,105,101,114],[3,3],3,[22]⟩:=by
 refine ⟨by kernel_rfl,fun h=>by exfalso;revert h;decide,fun i hi=>?_⟩
 obtain rfl:i=0:=by have:i<1:=hi;omega
 kernel_rfl
theorem Zsg:OVR ⟨10,[98,101,116,119,101,101,110],[3,3],1,[23]⟩:=by
 refine ⟨by kernel_rfl,fun h=>by exfalso;revert h;decide,fun i hi=>?_⟩
 obtain rfl:i=0:=by have:i<1:=hi;omega
 kernel_rfl
theorem Zsh:OVR ⟨7,[100,97,121,115],[3,1],3,[15]⟩:=by
 refine ⟨by kernel_rfl,fun _=>by decide +kernel,fun i hi=>?_⟩
 obtain rfl:i=0:=by have:i<1:=hi;omega
 kernel_rfl
theorem Zsi:OVR ⟨7,[119,101,101,107,115],[3,1],3,[16]⟩:=by
 refine ⟨by kernel_rfl,fun _=>by decide +kernel,fun i hi=>?_⟩
 obtain rfl:i=0:=by have:i<1:=hi;omega
 kernel_rfl
theorem Zsj:OVR ⟨7,[109,111,110,116,104,115],[3,1],3,[17]⟩:=by
 refine ⟨by kernel_rfl,fun _=>by decide +kernel,fun i hi=>?_⟩
 obtain rfl:i=0:=by have:i<1:=hi;omega
 kernel_rfl
theorem Zpy:OVR ⟨7,[99,111,117,114,116,100,97,121,115],[3,1],3,[18]⟩:=by
 refine ⟨by kernel_rfl,fun _=>by decide +kernel,fun i hi=>?_⟩
 obtain rfl:i=0:=by have:i<1:=hi;omega
 kernel_rfl
theorem Zpz:OVR ⟨8,[100,97,121,115],[3,1],3,[8,15]⟩:=by
 refine ⟨by kernel_rfl,fun _=>by decide +kernel,fun i hi=>?_⟩
 have hi2:i=0∨i=1:=by have:i<2:=hi;omega
 rcases hi2 with rfl|rfl
 show _=_
 kernel_rfl
 show _=_
 kernel_rfl
theorem ZpA:OVR ⟨8,[119,101,101,107,115],[3,1],3,[8,16]⟩:=by
 refine ⟨by kernel_rfl,fun _=>by decide +kernel,fun i hi=>?_⟩
 have hi2:i=0∨i=1:=by have:i<2:=hi;omega
 rcases hi2 with rfl|rfl
 show _=_
 kernel_rfl
 show _=_
 kernel_rfl
theorem ZpB:OVR ⟨8,[109,111,110,116,104,115],[3,1],3,[8,17]⟩:=by
 refine ⟨by kernel_rfl,fun _=>by decide +kernel,fun i hi=>?_⟩
 have hi2:i=0∨i=1:=by have:i<2:=hi;omega
 rcases hi2 with rfl|rfl
 show _=_
 kernel_rfl
 show _=_
 kernel_rfl
theorem ZpC:OVR ⟨8,[99,111,117,114,116,100,97,121,115],[3,1],3,[8,18]⟩:=by
 refine ⟨by kernel_rfl,fun _=>by decide +kernel,fun i hi=>?_⟩
 have hi2:i=0∨i=1:=by have:i<2:=hi;omega
 rcases hi2 with rfl|rfl
 show _=_
 kernel_rfl
 show _=_
 kernel_rfl
theorem ZpD:OVR ⟨6,[43],[1,1],1,[5]⟩:=by
 refine ⟨by kernel_rfl,fun h=>by exfalso;revert h;decide,fun i hi=>?_⟩
 obtain rfl:i=0:=by have:i<1:=hi;omega
 kernel_rfl
theorem ZpE:OVR ⟨6,[45],[1,1],1,[6]⟩:=by
 refine ⟨by kernel_rfl,fun h=>by exfalso;revert h;decide,fun i hi=>?_⟩
 obtain rfl:i=0:=by have:i<1:=hi;omega
 kernel_rfl
theorem ZpF:OVR ⟨6,[42],[1,1],1,[7]⟩:=by
 refine ⟨by kernel_rfl,fun h=>by exfalso;revert h;decide,fun i hi=>?_⟩
 obtain rfl:i=0:=by have:i<1:=hi;omega
 kernel_rfl
theorem ZpG:OVR ⟨6,[60],[1,1],2,[9]⟩:=by
 refine ⟨by kernel_rfl,fun h=>by exfalso;revert h;decide,fun i hi=>?_⟩
 obtain rfl:i=0:=by have:i<1:=hi;omega
 kernel_rfl
theorem ZpH:OVR ⟨6,[60,61],[1,1],2,[10]⟩:=by
 refine ⟨by kernel_rfl,fun h=>by exfalso;revert h;decide,fun i hi=>?_⟩
 obtain rfl:i=0:=by have:i<1:=hi;omega
 kernel_rfl
theorem ZpI:OVR ⟨6,[61],[1,1],2,[11]⟩:=by
 refine ⟨by kernel_rfl,fun h=>by exfalso;revert h;decide,fun i hi=>?_⟩
 obtain rfl:i=0:=by have:i<1:=hi;omega
 kernel_rfl
theorem ZpJ:OVR ⟨6,[33,61],[1,1],2,[11,12]⟩:=by
 refine ⟨by kernel_rfl,fun h=>by exfalso;revert h;decide,fun i hi=>?_⟩
 have hi2:i=0∨i=1:=by have:i<2:=hi;omega
 rcases hi2 with rfl|rfl
 show _=_
 kernel_rfl
 show _=_
 kernel_rfl
theorem ZpK:OVR ⟨6,[62],[1,1],2,[10,12]⟩:=by
 refine ⟨by kernel_rfl,fun h=>by exfalso;revert h;decide,fun i hi=>?_⟩
 have hi2:i=0∨i=1:=by have:i<2:=hi;omega
 rcases hi2 with rfl|rfl
 show _=_
 kernel_rfl
 show _=_
 kernel_rfl
theorem ZpL:OVR ⟨6,[62,61],[1,1],2,[9,12]⟩:=by
 refine ⟨by kernel_rfl,fun h=>by exfalso;revert h;decide,fun i hi=>?_⟩
 have hi2:i=0∨i=1:=by have:i<2:=hi;omega
 rcases hi2 with rfl|rfl
 show _=_
 kernel_rfl
 show _=_
 kernel_rfl
theorem ZpM:OVR ⟨6,[60],[3,3],2,[9]⟩:=by
 refine ⟨by kernel_rfl,fun h=>by exfalso;revert h;decide,fun i hi=>?_⟩
 obtain rfl:i=0:=by have:i<1:=hi;omega
 kernel_rfl
theorem ZpN:OVR ⟨6,[60,61],[3,3],2,[10]⟩:=by
 refine ⟨by kernel_rfl,fun h=>by exfalso;revert h;decide,fun i hi=>?_⟩
 obtain rfl:i=0:=by have:i<1:=hi;omega
 kernel_rfl
theorem ZpO:OVR ⟨6,[61],[3,3],2,[11]⟩:=by
 refine ⟨by kernel_rfl,fun h=>by exfalso;revert h;decide,fun i hi=>?_⟩
 obtain rfl:i=0:=by have:i<1:=hi;omega
 kernel_rfl
theorem ZpP:OVR ⟨6,[33,61],[3,3],2,[11,12]⟩:=by
 refine ⟨by kernel_rfl,fun h=>by exfalso;revert h;decide,fun i hi=>?_⟩
 have hi2:i=0∨i=1:=by have:i<2:=hi;omega
 rcases hi2 with rfl|rfl
 show _=_
 kernel_rfl
 show _=_
 kernel_rfl
theorem ZpQ:OVR ⟨6,[62],[3,3],2,[10,12]⟩:=by
 refine ⟨by kernel_rfl,fun h=>by exfalso;revert h;decide,fun i hi=>?_⟩
 have hi2:i=0∨i=1:=by have:i<2:=hi;omega
 rcases hi2 with rfl|rfl
 show _=_
 kernel_rfl
 show _=_
 kernel_rfl
theorem ZpR:OVR ⟨6,[62,61],[3,3],2,[9,12]⟩:=by
 refine ⟨by kernel_rfl,fun h=>by exfalso;revert h;decide,fun i hi=>?_⟩
 have hi2:i=0∨i=1:=by have:i<2:=hi;omega
 rcases hi2 with rfl|rfl
 show _=_
 kernel_rfl
 show _=_
 kernel_rfl
theorem ZgV:∀ r∈Z3c,OVR r:=by
 unfold Z3c
 refine Xd.2 ⟨Zsa,?_⟩
 refine Xd.2 ⟨Zsb,?_⟩
 refine Xd.2 ⟨Zsc,?_⟩
 refine Xd.2 ⟨Zsd,?_⟩
 refine Xd.2 ⟨Zse,?_⟩
 refine Xd.2 ⟨Zsf,?_⟩
 refine Xd.2 ⟨Zsg,?_⟩
 refine Xd.2 ⟨Zsh,?_⟩
 refine Xd.2 ⟨Zsi,?_⟩
 refine Xd.2 ⟨Zsj,?_⟩
 refine Xd.2 ⟨Zpy,?_⟩
 refine Xd.2 ⟨Zpz,?_⟩
 refine Xd.2 ⟨ZpA,?_⟩
 refine Xd.2 ⟨ZpB,?_⟩
 refine Xd.2 ⟨ZpC,?_⟩
 refine Xd.2 ⟨ZpD,?_⟩
 refine Xd.2 ⟨ZpE,?_⟩
 refine Xd.2 ⟨ZpF,?_⟩
 refine Xd.2 ⟨ZpG,?_⟩
 refine Xd.2 ⟨ZpH,?_⟩
 refine Xd.2 ⟨ZpI,?_⟩
 refine Xd.2 ⟨ZpJ,?_⟩
 refine Xd.2 ⟨ZpK,?_⟩
 refine Xd.2 ⟨ZpL,?_⟩
 refine Xd.2 ⟨ZpM,?_⟩
 refine Xd.2 ⟨ZpN,?_⟩
 refine Xd.2 ⟨ZpO,?_⟩
 refine Xd.2 ⟨ZpP,?_⟩
 refine Xd.2 ⟨ZpQ,?_⟩
 refine Xd.2 ⟨ZpR,?_⟩
 intro r h
 cases h
def JC (x:Nd):Prop:=∀ (K:MK) (nv:Value) (w:World) (sv pv:Value) (st:List Int) (s:Shp) (at_:Int),KOk K→K.nk=none→NdV K.own K.w0 nv x→Zd x≠0→Mch K w sv pv st [] at_ 0 false→JI s st→s.length+Zw x≤16→
 CC 58 #[mP K,nv] w fun r w'=>r=.tuple #[]∧Z0N K w' st at_ (Z4 (Zv K.c K.kn) K.ev x)
abbrev ndO (k n:Int) (s:Str) (kv:Value):Obj:=.cells [.int .i64 k,.int .i64 n,str s,kv].toArray 27
theorem JC.kid {l:List Nd} {K:MK} {kv:Value} (hK:KOk K) (hk:K.nk=none) (hs:SlV K.own K.w0 kv l) {i:Nat} (hi:i<l.length) (ih:JC l[i]) (ht:Zd l[i]≠0) :
 ∃ kv2 : Value, (∀ w', Stp K.own K.w0 w' → ∀ j u, [Value.int .i64 l[i].kind, .int .i64 l[i].num, str l[i].word, kv2][j]? = some u → w'.cell? (ZL kv i 4 j) = some u)∧
   ∀ (w : World) (sv pv : Value) (st : List Int) (s : Shp) (at_ : Int), Mch K w sv pv st [] at_ 0 false → JI s st → s.length + Zw l[i] ≤ 16→
     CC 58 #[mP K,.agg #[.int .i64 l[i].kind,.int .i64 l[i].num,str l[i].word,kv2]] w fun r w'=>r=.tuple #[]∧Z0N K w' st at_ (Z4 (Zv K.c K.kn) K.ev l[i]):=by
 obtain ⟨kv2,h1,h2⟩:=Zjd hs hi (Stp.refl _ _)
 exact ⟨kv2,h2,fun w sv pv st s at_ hM hst hb=>ih K _ w sv pv st s at_ hK hk ⟨kv2,rfl,h1⟩ ht hM hst hb⟩
set_option maxHeartbeats 1000000 in
theorem ZeA {k n:Int} {s:Str} (hlf:ZmJ k n s (Zd (.mk k n s []))):JC (.mk k n s []):=by
 intro K nv w sv pv st sh at_ hK hk hx ht hM hst hb
 obtain ⟨kv,rfl,hs⟩:=hx
 have hev2:Z4 (Zv K.c K.kn) K.ev (.mk k n s [])=Zo (Zv K.c K.kn) K.ev k n s []:=Z2r _ _ _
 have hl:st.length≤100000:=by rw [← hst.1];omega
 simp only [Nd.kind,Nd.num,Nd.word]
 rw [hev2]
 refine cW2 132 Tryz.func58 ?_
 refine W ?_
 refine Z3 (Zs rfl) rfl ?_
 rintro _ w1 ⟨b3,rfl,hb3,hblk,hS⟩
 replace hblk:Blk w1 b3 27 [.int .i64 k,.int .i64 n,str s,kv]:=hblk
 replace hM:=hM.up hS
 rcases hlf with ⟨hk3,-,hv⟩|⟨rfl,i,hi,rfl,hf,-⟩
 · have e:Zo (Zv K.c K.kn) K.ev k n s []=(n,0):=by unfold Zo;rw [if_pos hk3]
   rw [e]
   rcases hk3 with rfl|rfl|rfl
   all_goals
    refine W ?_
    refine CL rfl (Z9 rfl rfl) rfl (Zgr hK hM hl n) ?_
    rintro _ w2 ⟨rfl,hres⟩
    refine W ?_
    refine WR ?_
    exact .mk ⟨rfl,hres.toE hk⟩
 have e:Zo (Zv K.c K.kn) K.ev 4 n (Zg.getD i []) []=Z6J K.ev (i:Int):=by
  unfold Zo
  rw [if_neg (by decide),if_pos rfl,hf]
 rw [e]
 refine W ?_
 refine CL rfl (Zp rfl) rfl (Z6K i hi _) ?_
 rintro _ w2 ⟨rfl,hS2⟩
 replace hM:=hM.up hS2
 refine W ?_
 refine CL rfl (Z9 rfl rfl) rfl (Zgu hK hM hl (i:Int) (by omega) (by omega)) ?_
 rintro _ w3 ⟨rfl,hres⟩
 refine W ?_
 refine WR ?_
 exact .mk ⟨rfl,hres.toE hk⟩
set_option maxHeartbeats 2000000 in
theorem ZiP {n:Int} {s:Str} {a b c:Nd} (iha:JC a) (ihb:JC b) (ihc:JC c) (ta:Zd a=2) (tb:Zd b≠0) (tc:Zd c≠0):JC (.mk 9 n s [a,b,c]):=by
 intro K0 nv w sv pv st sh at_ hK0 hk0 hx ht hM hst hb
 obtain ⟨kv,rfl,hs⟩:=hx
 have na:Zw a<Zw (.mk 9 n s [a,b,c]):=Z1l (x:=.mk 9 n s [a,b,c]) (by simp [Nd.kids])
 have nb:Zw b<Zw (.mk 9 n s [a,b,c]):=Z1l (x:=.mk 9 n s [a,b,c]) (by simp [Nd.kids])
 have nc:Zw c<Zw (.mk 9 n s [a,b,c]):=Z1l (x:=.mk 9 n s [a,b,c]) (by simp [Nd.kids])
 have hev2:∀ opn ev,Z4 opn ev (.mk 9 n s [a,b,c])=Zo opn ev 9 n s [Z4 opn ev a,Z4 opn ev b,Z4 opn ev c]:=fun opn ev=>Z2r _ _ _
 simp only [Nd.kind,Nd.num,Nd.word,Nd.kids] at hs ⊢
 have hbm:=hM.blk.lt
 have hobs:=fun x hx=>(hM.row.ob_le x hx).2
 have hpv:=hM.nt0 hk0
 have howl:∀ x∈K0.own,x<w.heap.size:=fun x hx=>Xa (Mch.own_lt hK0 x hx) hM.stp.size
 refine cW2 132 Tryz.func58 ?_
 refine W ?_
 refine Z3 (Zs rfl) rfl ?_
 rintro _ w1 ⟨b3,rfl,hb3,hblk,hS⟩
 replace hblk:w1.heap[b3]?=some (ndO 9 n s kv):=hblk
 replace hM:=(hM.up hS).keep hblk (fun h=>by have:=howl _ h;omega) (fun h=>by have:=hobs _ h;omega) (by rw [hpv];simp [ob])
 have hK:=hK0.keep (b:=b3) (o:=ndO 9 n s kv)
 have e0:K0.bm=(K0.keep b3 (ndO 9 n s kv)).bm:=rfl
 rw [show mP K0=mP (K0.keep b3 (ndO 9 n s kv)) from rfl]
 have hs':SlV (K0.keep b3 (ndO 9 n s kv)).own (K0.keep b3 (ndO 9 n s kv)).w0 kv [a,b,c]:=hs
 have hk:(K0.keep b3 (ndO 9 n s kv)).nk=none:=hk0
 have hun:∀ w' r,Z0N (K0.keep b3 (ndO 9 n s kv)) w' st at_ r→Z0N K0 w' st at_ r:=fun w' r h=>h.un
 have hcE:K0.c=(K0.keep b3 (ndO 9 n s kv)).c:=rfl
 have hkE:K0.kn=(K0.keep b3 (ndO 9 n s kv)).kn:=rfl
 have heE:K0.ev=(K0.keep b3 (ndO 9 n s kv)).ev:=rfl
 rw [hcE,hkE,heE]
 have hkept:∀ {w:World} {sv pv:Value} {st:List Int} {sp:List Spn} {at_ er:Int} {dn:Bool},Mch (K0.keep b3 (ndO 9 n s kv)) w sv pv st sp at_ er dn→Blk w b3 27 [.int .i64 9,.int .i64 n,str s,kv]:=fun h=>h.kept
 have hne:b3≠(K0.keep b3 (ndO 9 n s kv)).bm:=by show b3≠K0.bm;omega
 generalize K0.keep b3 (ndO 9 n s kv)=K at *
 clear e0 hs hK0 hk0 howl hcE hkE heE
 generalize hopn:Zv K.c K.kn=opn
 generalize hevv:K.ev=ev
 have l0:0 < [a,b,c].length:=by simp
 have l1:1 < [a,b,c].length:=by simp
 have l2:2 < [a,b,c].length:=by simp
 obtain ⟨ka,ca,da⟩:=JC.kid hK hk hs' l0 iha (by show Zd a≠0;omega)
 obtain ⟨kb,cb,db⟩:=JC.kid hK hk hs' l1 ihb tb
 obtain ⟨kc,cc,dc⟩:=JC.kid hK hk hs' l2 ihc tc
 rw [hopn,hevv] at da db dc
 have hblkN:=hkept hM
 have hsl:=hs'.ext (X':=[]) hM.stp (fun b hb=>hb) (by simp)
 refine W ?_
 apply Z7 (ZC rfl rfl hsl l0 (ca _ hM.stp)) rfl
 refine CL rfl (Z9 rfl rfl) rfl (da _ _ _ _ _ _ hM hst (by show sh.length+Zw a≤16;omega)) ?_
 rintro _ w2 ⟨rfl,hres⟩
 change Z0N K w2 st at_ (Z4 opn ev a) at hres
 have e9:Zo opn ev 9 n s [Z4 opn ev a,Z4 opn ev b,Z4 opn ev c]=if ¬ (Z4 opn ev a).2=0 then (0,(Z4 opn ev a).2) else [Z4 opn ev a,Z4 opn ev b,Z4 opn ev c].getD (2 - (Z4 opn ev a).1).toNat (0,0):=by
  unfold Zo
  rw [if_neg (by decide),if_neg (by decide)]
  simp only [Xm]
  rfl
 rw [hev2,e9]
 by_cases he:(Z4 opn ev a).2=0
 rw [if_neg (fun h=>h he)]
 obtain ⟨sv1,pv1,hM1⟩:=hres.go he
 have hva:=Z0Z opn ev (by rw [← hevv];exact hK.ev) a (by omega) he
 rw [ta] at hva
 have hblkM:=hM1.blk
 have hblkN1:=hkept hM1
 unfold Z1H at hblkM
 refine W ?_
 generalize (Z4 opn ev a).1=v at hva hM1 ⊢
 have hv01:v=0∨v=1:=hva.b
 rcases hv01 with rfl|rfl
 refine Z2e 9 [K.bm] [8] rfl mixed (fun w3 hS3=>?_)
 replace hM1:=hM1.up hS3
 have hblkN3:=hkept hM1
 refine Jj 0 rfl trivial (fun w'=>ZU rfl) rfl (by kernel_rfl) (by kernel_rfl) ?_
 refine Jj 1 rfl trivial (fun w'=>JQ rfl) rfl (by kernel_rfl) (by kernel_rfl) ?_
 refine Jj 3 rfl trivial (fun w'=>ZU rfl) rfl (by kernel_rfl) (by kernel_rfl) ?_
 refine Z1t 2 4 (by kernel_rfl) ?_ ?_
 refine J3 rfl trivial (Z9J (ZP rfl rfl hblkN3 rfl)) (fun _ _ h=>by rw [h.2];exact Stp.refl _ _) rfl ?_
 rintro u wx ⟨hu,hw⟩
 rw [hu,hw]
 clear hu hw
 refine Z3k [(4,2),(5,0),(6,0),(7,1),(8,2)] (by kernel_rfl) (by kernel_rfl) (by kernel_rfl) ?_
 refine Zb rfl trivial (Z5 rfl (Zp rfl) (Z3i hK hM1)) (fun _ _ h=>h.2.2) rfl ?_
 rintro _ w4 ⟨rfl,⟨sv4,hM4⟩,hS4⟩
 refine Z0R rfl (ZbH trivial rfl rfl (by unfold I64;omega) rfl ?_)
 refine Z0R rfl (Z1j (i:=2) trivial rfl hsl rfl (by rfl) l2 rfl ?_)
 have hT4:∀ w',Stp [K.bm] w4 w'→Stp K.own K.w0 w':=fun w' hS'=>hM4.stp.trans (hS'.mono (by simp [MK.own]))
 refine ZN rfl trivial (fun w' hS'=>ZC rfl rfl (hs'.ext (X':=[]) (hT4 w' hS') (fun b hb=>hb) (by simp)) l2 (cc _ (hT4 w' hS'))) rfl ?_
 refine Z6P rfl trivial (Z5 rfl (Z9 rfl rfl) (dc _ _ _ _ _ _ hM4 hst (by show sh.length+Zw c≤16;omega))) rfl rfl ?_
 rintro _ w6 ⟨rfl,hres6⟩
 refine Z3p ?_
 refine W ?_
 refine WR ?_
 exact .mk ⟨rfl,hun _ _ hres6⟩
 refine J3 rfl trivial (Z5 rfl (Zp rfl) (Z3i hK hM1)) (fun _ _ h=>h.2.2) rfl ?_
 rintro _ w4 ⟨rfl,⟨sv4,hM4⟩,hS4⟩
 have hblkN4:=hkept hM4
 refine Jj 5 rfl trivial (fun w'=>Z3R rfl rfl (by unfold I64;omega)) rfl (by kernel_rfl) (by kernel_rfl) ?_
 refine Z3k [(2,2),(6,0),(7,1),(8,2)] (by kernel_rfl) (by kernel_rfl) (by kernel_rfl) ?_
 refine Zb rfl trivial (Z9J (ZP rfl rfl hblkN4 rfl)) (fun _ _ h=>by rw [h.2];exact Stp.refl _ _) rfl ?_
 rintro u wx ⟨hu,hw⟩
 rw [hu,hw]
 clear hu hw
 refine Z0R rfl (Z1j (i:=2) trivial rfl hsl rfl (by rfl) l2 rfl ?_)
 have hT4:∀ w',Stp [K.bm] w4 w'→Stp K.own K.w0 w':=fun w' hS'=>hM4.stp.trans (hS'.mono (by simp [MK.own]))
 refine ZN rfl trivial (fun w' hS'=>ZC rfl rfl (hs'.ext (X':=[]) (hT4 w' hS') (fun b hb=>hb) (by simp)) l2 (cc _ (hT4 w' hS'))) rfl ?_
 refine Z6P rfl trivial (Z5 rfl (Z9 rfl rfl) (dc _ _ _ _ _ _ hM4 hst (by show sh.length+Zw c≤16;omega))) rfl rfl ?_
 rintro _ w6 ⟨rfl,hres6⟩
 refine Z3p ?_
 refine W ?_
 refine WR ?_
 exact .mk ⟨rfl,hun _ _ hres6⟩
 refine Z2e 9 [K.bm] [8] rfl mixed (fun w3 hS3=>?_)
 replace hM1:=hM1.up hS3
 have hblkN3:=hkept hM1
 refine Jj 0 rfl trivial (fun w'=>ZU rfl) rfl (by kernel_rfl) (by kernel_rfl) ?_
 refine Jj 1 rfl trivial (fun w'=>JQ rfl) rfl (by kernel_rfl) (by kernel_rfl) ?_
 refine Jj 3 rfl trivial (fun w'=>ZU rfl) rfl (by kernel_rfl) (by kernel_rfl) ?_
 refine Z1t 2 4 (by kernel_rfl) ?_ ?_
 refine J3 rfl trivial (Z9J (ZP rfl rfl hblkN3 rfl)) (fun _ _ h=>by rw [h.2];exact Stp.refl _ _) rfl ?_
 rintro u wx ⟨hu,hw⟩
 rw [hu,hw]
 clear hu hw
 refine Z3k [(4,2),(5,0),(6,0),(7,1),(8,2)] (by kernel_rfl) (by kernel_rfl) (by kernel_rfl) ?_
 refine Zb rfl trivial (Z5 rfl (Zp rfl) (Z3i hK hM1)) (fun _ _ h=>h.2.2) rfl ?_
 rintro _ w4 ⟨rfl,⟨sv4,hM4⟩,hS4⟩
 refine Z0R rfl (ZbH trivial rfl rfl (by unfold I64;omega) rfl ?_)
 refine Z0R rfl (Z1j (i:=1) trivial rfl hsl rfl (by rfl) l1 rfl ?_)
 have hT4:∀ w',Stp [K.bm] w4 w'→Stp K.own K.w0 w':=fun w' hS'=>hM4.stp.trans (hS'.mono (by simp [MK.own]))
 refine ZN rfl trivial (fun w' hS'=>ZC rfl rfl (hs'.ext (X':=[]) (hT4 w' hS') (fun b hb=>hb) (by simp)) l1 (cb _ (hT4 w' hS'))) rfl ?_
 refine Z6P rfl trivial (Z5 rfl (Z9 rfl rfl) (db _ _ _ _ _ _ hM4 hst (by show sh.length+Zw b≤16;omega))) rfl rfl ?_
 rintro _ w6 ⟨rfl,hres6⟩
 refine Z3p ?_
 refine W ?_
 refine WR ?_
 exact .mk ⟨rfl,hun _ _ hres6⟩
 refine J3 rfl trivial (Z5 rfl (Zp rfl) (Z3i hK hM1)) (fun _ _ h=>h.2.2) rfl ?_
 rintro _ w4 ⟨rfl,⟨sv4,hM4⟩,hS4⟩
 have hblkN4:=hkept hM4
 refine Jj 5 rfl trivial (fun w'=>Z3R rfl rfl (by unfold I64;omega)) rfl (by kernel_rfl) (by kernel_rfl) ?_
 refine Z3k [(2,2),(6,0),(7,1),(8,2)] (by kernel_rfl) (by kernel_rfl) (by kernel_rfl) ?_
 refine Zb rfl trivial (Z9J (ZP rfl rfl hblkN4 rfl)) (fun _ _ h=>by rw [h.2];exact Stp.refl _ _) rfl ?_
 rintro u wx ⟨hu,hw⟩
 rw [hu,hw]
 clear hu hw
 refine Z0R rfl (Z1j (i:=1) trivial rfl hsl rfl (by rfl) l1 rfl ?_)
 have hT4:∀ w',Stp [K.bm] w4 w'→Stp K.own K.w0 w':=fun w' hS'=>hM4.stp.trans (hS'.mono (by simp [MK.own]))
 refine ZN rfl trivial (fun w' hS'=>ZC rfl rfl (hs'.ext (X':=[]) (hT4 w' hS') (fun b hb=>hb) (by simp)) l1 (cb _ (hT4 w' hS'))) rfl ?_
 refine Z6P rfl trivial (Z5 rfl (Z9 rfl rfl) (db _ _ _ _ _ _ hM4 hst (by show sh.length+Zw b≤16;omega))) rfl rfl ?_
 rintro _ w6 ⟨rfl,hres6⟩
 refine Z3p ?_
 refine W ?_
 refine WR ?_
 exact .mk ⟨rfl,hun _ _ hres6⟩
 rw [if_pos he]
 obtain ⟨sv1,pv1,st1,hM1⟩:=hres.stop he
 have hblkM:=hM1.blk
 unfold Z1H at hblkM
 refine W ?_
 refine WR ?_
 exact .mk ⟨rfl,hun _ _ (Z0N.of he hM1)⟩
set_option maxHeartbeats 2000000 in
theorem ZgW {n:Int} {a b:Nd} (iha:JC a) (ihb:JC b) (ta:Zd a=2) (tb:Zd b=2):JC (.mk 6 n ([97,110,100]:Str) [a,b]):=by
 intro K0 nv w sv pv st sh at_ hK0 hk0 hx ht hM hst hb
 obtain ⟨kv,rfl,hs⟩:=hx
 have na:Zw a<Zw (.mk 6 n ([97,110,100]:Str) [a,b]):=Z1l (x:=.mk 6 n ([97,110,100]:Str) [a,b]) (by simp [Nd.kids])
 have nb:Zw b<Zw (.mk 6 n ([97,110,100]:Str) [a,b]):=Z1l (x:=.mk 6 n ([97,110,100]:Str) [a,b]) (by simp [Nd.kids])
 have hev2:∀ opn ev,Z4 opn ev (.mk 6 n ([97,110,100]:Str) [a,b])=Zo opn ev 6 n ([97,110,100]:Str) [Z4 opn ev a,Z4 opn ev b]:=fun opn ev=>Z2r _ _ _
 simp only [Nd.kind,Nd.num,Nd.word,Nd.kids] at hs ⊢
 have hbm:=hM.blk.lt
 have hobs:=fun x hx=>(hM.row.ob_le x hx).2
 have hpv:=hM.nt0 hk0
 have howl:∀ x∈K0.own,x<w.heap.size:=fun x hx=>Xa (Mch.own_lt hK0 x hx) hM.stp.size
 refine cW2 132 Tryz.func58 ?_
 refine W ?_
 refine Z3 (Zs rfl) rfl ?_
 rintro _ w1 ⟨b3,rfl,hb3,hblk,hS⟩
 replace hblk:w1.heap[b3]?=some (ndO 6 n ([97,110,100]:Str) kv):=hblk
 replace hM:=(hM.up hS).keep hblk (fun h=>by have:=howl _ h;omega) (fun h=>by have:=hobs _ h;omega) (by rw [hpv];simp [ob])
 have hK:=hK0.keep (b:=b3) (o:=ndO 6 n ([97,110,100]:Str) kv)
 have e0:K0.bm=(K0.keep b3 (ndO 6 n ([97,110,100]:Str) kv)).bm:=rfl
 rw [show mP K0=mP (K0.keep b3 (ndO 6 n ([97,110,100]:Str) kv)) from rfl]
 have hs':SlV (K0.keep b3 (ndO 6 n ([97,110,100]:Str) kv)).own (K0.keep b3 (ndO 6 n ([97,110,100]:Str) kv)).w0 kv [a,b]:=hs
 have hk:(K0.keep b3 (ndO 6 n ([97,110,100]:Str) kv)).nk=none:=hk0
 have hun:∀ w' r,Z0N (K0.keep b3 (ndO 6 n ([97,110,100]:Str) kv)) w' st at_ r→Z0N K0 w' st at_ r:=fun w' r h=>h.un
 have hcE:K0.c=(K0.keep b3 (ndO 6 n ([97,110,100]:Str) kv)).c:=rfl
 have hkE:K0.kn=(K0.keep b3 (ndO 6 n ([97,110,100]:Str) kv)).kn:=rfl
 have heE:K0.ev=(K0.keep b3 (ndO 6 n ([97,110,100]:Str) kv)).ev:=rfl
 rw [hcE,hkE,heE]
 have hkept:∀ {w:World} {sv pv:Value} {st:List Int} {sp:List Spn} {at_ er:Int} {dn:Bool},Mch (K0.keep b3 (ndO 6 n ([97,110,100]:Str) kv)) w sv pv st sp at_ er dn→Blk w b3 27 [.int .i64 6,.int .i64 n,str ([97,110,100]:Str),kv]:=fun h=>h.kept
 have hne:b3≠(K0.keep b3 (ndO 6 n ([97,110,100]:Str) kv)).bm:=by show b3≠K0.bm;omega
 generalize K0.keep b3 (ndO 6 n ([97,110,100]:Str) kv)=K at *
 clear e0 hs hK0 hk0 howl hcE hkE heE
 generalize hopn:Zv K.c K.kn=opn
 generalize hevv:K.ev=ev
 have l0:0 < [a,b].length:=by simp
 have l1:1 < [a,b].length:=by simp
 obtain ⟨ka,ca,da⟩:=JC.kid hK hk hs' l0 iha (by show Zd a≠0;omega)
 obtain ⟨kb,cb,db⟩:=JC.kid hK hk hs' l1 ihb (by show Zd b≠0;omega)
 rw [hopn,hevv] at da db
 have hblkN:=hkept hM
 have hsl:=hs'.ext (X':=[]) hM.stp (fun b hb=>hb) (by simp)
 refine W ?_
 apply Z7 (ZC rfl rfl hsl l0 (ca _ hM.stp)) rfl
 refine CL rfl (Z9 rfl rfl) rfl (da _ _ _ _ _ _ hM hst (by show sh.length+Zw a≤16;omega)) ?_
 rintro _ w2 ⟨rfl,hres⟩
 change Z0N K w2 st at_ (Z4 opn ev a) at hres
 have e9:Zo opn ev 6 n ([97,110,100]:Str) [Z4 opn ev a,Z4 opn ev b]=if ¬ (Z4 opn ev a).2=0 then (0,(Z4 opn ev a).2) else if (Z4 opn ev a).1=0 then ((Z4 opn ev a).1,0) else if ¬ (Z4 opn ev b).2=0 then (0,(Z4 opn ev b).2) else ((Z4 opn ev b).1,0):=by
  unfold Zo
  rw [if_neg (by decide),if_neg (by decide)]
  have e0:[Z4 opn ev a,Z4 opn ev b].getD 0 (0,0)=Z4 opn ev a:=rfl
  have e1:[Z4 opn ev a,Z4 opn ev b].getD 1 (0,0)=Z4 opn ev b:=rfl
  rw [e0,e1]
  have hc:((6:Int)=6∧(([97,110,100]:Str)=[97,110,100]∧(Z4 opn ev a).1=0∨([97,110,100]:Str)=[111,114]∧(Z4 opn ev a).1=1))↔(Z4 opn ev a).1=0:=by
   constructor
   rintro ⟨-,(⟨h1,h2⟩|⟨h1,h2⟩)⟩
   first|exact h2|exact absurd h1 (by decide)
   first|exact h2|exact absurd h1 (by decide)
   intro h
   exact ⟨rfl,.inl ⟨rfl,h⟩⟩
  have hl1:¬ [Z4 opn ev a,Z4 opn ev b].length=1:=by simp
  by_cases h0:(Z4 opn ev a).2=0
  have nh0:¬ ¬ (Z4 opn ev a).2=0:=fun h=>h h0
  rw [if_neg nh0,if_neg (by decide),if_neg (by decide),if_neg hl1]
  by_cases hv:(Z4 opn ev a).1=0
  rw [if_pos (hc.2 hv),if_neg nh0,if_pos hv]
  rw [if_neg (fun h=>hv (hc.1 h))]
  by_cases h1:(Z4 opn ev b).2=0
  have nh1:¬ ¬ (Z4 opn ev b).2=0:=fun h=>h h1
  rw [if_neg nh1,if_neg (by decide),if_neg (by decide),if_neg (by decide),if_neg nh0,if_neg hv,if_neg nh1]
  rfl
  rw [if_pos h1,if_neg nh0,if_neg hv,if_pos h1]
  rw [if_pos h0,if_pos h0]
 rw [hev2,e9]
 by_cases he:(Z4 opn ev a).2=0
 rw [if_neg (fun h=>h he)]
 obtain ⟨sv1,pv1,hM1⟩:=hres.go he
 have hva:=Z0Z opn ev (by rw [← hevv];exact hK.ev) a (by omega) he
 rw [ta] at hva
 generalize (Z4 opn ev a).1=v at hva hM1 ⊢
 have hv01:v=0∨v=1:=hva.b
 have hlen:(st++[v]).length=st.length+1:=by simp
 have hz:((st++[v]).length:Int) - 1=(st.length:Int):=by rw [hlen];simp
 have hil:st.length<(st++[v]).length:=by rw [hlen];omega
 have hat:(st++[v])[st.length]=v:=by simp
 have hmx:=(hM1.row.slv (X:=[]) (by simp)).max
 rcases hv01 with rfl|rfl
 refine W ?_
 refine ZDr 23 [] [] [(0,0),(1,0),(2,0),(3,1),(4,0),(5,0),(6,0),(7,0),(8,1),(9,0),(10,0),(11,0),(12,1),(13,0),(14,0),(15,0),(16,1),(17,0),(18,0),(19,1),(20,0),(21,0),(22,0)] (fun w1 hS1=>?_)
 replace hM1:=hM1.up hS1
 have hblkM:=hM1.blk
 have hblkN1:=hkept hM1
 have hsv:=hM1.row.slv (X:=[]) (by simp)
 unfold Z1H at hblkM
 refine D ?_
 try refine Z0R rfl (Z1j (i:=st.length) rfl rfl hsv rfl hz hil rfl ?_)
 refine D ?_
 try rw [hat]
 refine D ?_
 refine W ?_
 rw [if_pos rfl]
 refine WR ?_
 exact .mk ⟨rfl,hun _ _ ⟨sv1,pv1,_,hM1,fun _=>rfl⟩⟩
 refine W ?_
 refine ZDr 23 [] [] [(0,0),(1,0),(2,0),(3,1),(4,0),(5,0),(6,0),(7,0),(8,1),(9,0),(10,0),(11,0),(12,1),(13,0),(14,0),(15,0),(16,1),(17,0),(18,0),(19,1),(20,0),(21,0),(22,0)] (fun w1 hS1=>?_)
 replace hM1:=hM1.up hS1
 have hblkM:=hM1.blk
 have hblkN1:=hkept hM1
 have hsv:=hM1.row.slv (X:=[]) (by simp)
 unfold Z1H at hblkM
 refine D ?_
 try refine Z0R rfl (Z1j (i:=st.length) rfl rfl hsv rfl hz hil rfl ?_)
 refine D ?_
 try rw [hat]
 refine D ?_
 refine W ?_
 rw [if_neg (by decide)]
 refine CL rfl (Zp rfl) rfl (Z1Q hK hM1) ?_
 rintro _ w4 ⟨rfl,sv4,hM4⟩
 have hblkN4:=hkept hM4
 have hsl4:=hs'.ext (X':=[]) hM4.stp (fun b hb=>hb) (by simp)
 refine W ?_
 apply Z7 (ZC rfl rfl hsl4 l1 (cb _ hM4.stp)) rfl
 refine CL rfl (Z9 rfl rfl) rfl (db _ _ _ _ _ _ hM4 hst (by show sh.length+Zw b≤16;omega)) ?_
 rintro _ w6 ⟨rfl,hres6⟩
 change Z0N K w6 st at_ (Z4 opn ev b) at hres6
 refine W ?_
 refine WR ?_
 refine .mk ⟨rfl,hun _ _ ?_⟩
 by_cases h1:(Z4 opn ev b).2=0
 rw [if_neg (fun h=>h h1)]
 obtain ⟨sv6,pv6,hM6⟩:=hres6.go h1
 exact ⟨sv6,pv6,_,hM6,fun _=>rfl⟩
 rw [if_pos h1]
 obtain ⟨sv6,pv6,st6,hM6⟩:=hres6.stop h1
 exact Z0N.of h1 hM6
 rw [if_pos he]
 obtain ⟨sv1,pv1,st1,hM1⟩:=hres.stop he
 refine W ?_
 refine ZDr 23 [] [] [(0,0),(1,0),(2,0),(3,1),(4,0),(5,0),(6,0),(7,0),(8,1),(9,0),(10,0),(11,0),(12,1),(13,0),(14,0),(15,0),(16,1),(17,0),(18,0),(19,1),(20,0),(21,0),(22,0)] (fun w1 hS1=>?_)
 replace hM1:=hM1.up hS1
 have hblkM:=hM1.blk
 have hblkN1:=hkept hM1
 unfold Z1H at hblkM
 refine D ?_
 refine W ?_
 refine WR ?_
 exact .mk ⟨rfl,hun _ _ (Z0N.of he hM1)⟩
set_option maxHeartbeats 2000000 in
theorem ZiQ {n:Int} {a b:Nd} (iha:JC a) (ihb:JC b) (ta:Zd a=2) (tb:Zd b=2):JC (.mk 6 n ([111,114]:Str) [a,b]):=by
 intro K0 nv w sv pv st sh at_ hK0 hk0 hx ht hM hst hb
 obtain ⟨kv,rfl,hs⟩:=hx
 have na:Zw a<Zw (.mk 6 n ([111,114]:Str) [a,b]):=Z1l (x:=.mk 6 n ([111,114]:Str) [a,b]) (by simp [Nd.kids])
 have nb:Zw b<Zw (.mk 6 n ([111,114]:Str) [a,b]):=Z1l (x:=.mk 6 n ([111,114]:Str) [a,b]) (by simp [Nd.kids])
 have hev2:∀ opn ev,Z4 opn ev (.mk 6 n ([111,114]:Str) [a,b])=Zo opn ev 6 n ([111,114]:Str) [Z4 opn ev a,Z4 opn ev b]:=fun opn ev=>Z2r _ _ _
 simp only [Nd.kind,Nd.num,Nd.word,Nd.kids] at hs ⊢
 have hbm:=hM.blk.lt
 have hobs:=fun x hx=>(hM.row.ob_le x hx).2
 have hpv:=hM.nt0 hk0
 have howl:∀ x∈K0.own,x<w.heap.size:=fun x hx=>Xa (Mch.own_lt hK0 x hx) hM.stp.size
 refine cW2 132 Tryz.func58 ?_
 refine W ?_
 refine Z3 (Zs rfl) rfl ?_
 rintro _ w1 ⟨b3,rfl,hb3,hblk,hS⟩
 replace hblk:w1.heap[b3]?=some (ndO 6 n ([111,114]:Str) kv):=hblk
 replace hM:=(hM.up hS).keep hblk (fun h=>by have:=howl _ h;omega) (fun h=>by have:=hobs _ h;omega) (by rw [hpv];simp [ob])
 have hK:=hK0.keep (b:=b3) (o:=ndO 6 n ([111,114]:Str) kv)
 have e0:K0.bm=(K0.keep b3 (ndO 6 n ([111,114]:Str) kv)).bm:=rfl
 rw [show mP K0=mP (K0.keep b3 (ndO 6 n ([111,114]:Str) kv)) from rfl]
 have hs':SlV (K0.keep b3 (ndO 6 n ([111,114]:Str) kv)).own (K0.keep b3 (ndO 6 n ([111,114]:Str) kv)).w0 kv [a,b]:=hs
 have hk:(K0.keep b3 (ndO 6 n ([111,114]:Str) kv)).nk=none:=hk0
 have hun:∀ w' r,Z0N (K0.keep b3 (ndO 6 n ([111,114]:Str) kv)) w' st at_ r→Z0N K0 w' st at_ r:=fun w' r h=>h.un
 have hcE:K0.c=(K0.keep b3 (ndO 6 n ([111,114]:Str) kv)).c:=rfl
 have hkE:K0.kn=(K0.keep b3 (ndO 6 n ([111,114]:Str) kv)).kn:=rfl
 have heE:K0.ev=(K0.keep b3 (ndO 6 n ([111,114]:Str) kv)).ev:=rfl
 rw [hcE,hkE,heE]
 have hkept:∀ {w:World} {sv pv:Value} {st:List Int} {sp:List Spn} {at_ er:Int} {dn:Bool},Mch (K0.keep b3 (ndO 6 n ([111,114]:Str) kv)) w sv pv st sp at_ er dn→Blk w b3 27 [.int .i64 6,.int .i64 n,str ([111,114]:Str),kv]:=fun h=>h.kept
 have hne:b3≠(K0.keep b3 (ndO 6 n ([111,114]:Str) kv)).bm:=by show b3≠K0.bm;omega
 generalize K0.keep b3 (ndO 6 n ([111,114]:Str) kv)=K at *
 clear e0 hs hK0 hk0 howl hcE hkE heE
 generalize hopn:Zv K.c K.kn=opn
 generalize hevv:K.ev=ev
 have l0:0 < [a,b].length:=by simp
 have l1:1 < [a,b].length:=by simp
 obtain ⟨ka,ca,da⟩:=JC.kid hK hk hs' l0 iha (by show Zd a≠0;omega)
 obtain ⟨kb,cb,db⟩:=JC.kid hK hk hs' l1 ihb (by show Zd b≠0;omega)
 rw [hopn,hevv] at da db
 have hblkN:=hkept hM
 have hsl:=hs'.ext (X':=[]) hM.stp (fun b hb=>hb) (by simp)
 refine W ?_
 apply Z7 (ZC rfl rfl hsl l0 (ca _ hM.stp)) rfl
 refine CL rfl (Z9 rfl rfl) rfl (da _ _ _ _ _ _ hM hst (by show sh.length+Zw a≤16;omega)) ?_
 rintro _ w2 ⟨rfl,hres⟩
 change Z0N K w2 st at_ (Z4 opn ev a) at hres
 have e9:Zo opn ev 6 n ([111,114]:Str) [Z4 opn ev a,Z4 opn ev b]=if ¬ (Z4 opn ev a).2=0 then (0,(Z4 opn ev a).2) else if (Z4 opn ev a).1=1 then ((Z4 opn ev a).1,0) else if ¬ (Z4 opn ev b).2=0 then (0,(Z4 opn ev b).2) else ((Z4 opn ev b).1,0):=by
  unfold Zo
  rw [if_neg (by decide),if_neg (by decide)]
  have e0:[Z4 opn ev a,Z4 opn ev b].getD 0 (0,0)=Z4 opn ev a:=rfl
  have e1:[Z4 opn ev a,Z4 opn ev b].getD 1 (0,0)=Z4 opn ev b:=rfl
  rw [e0,e1]
  have hc:((6:Int)=6∧(([111,114]:Str)=[97,110,100]∧(Z4 opn ev a).1=0∨([111,114]:Str)=[111,114]∧(Z4 opn ev a).1=1))↔(Z4 opn ev a).1=1:=by
   constructor
   rintro ⟨-,(⟨h1,h2⟩|⟨h1,h2⟩)⟩
   first|exact h2|exact absurd h1 (by decide)
   first|exact h2|exact absurd h1 (by decide)
   intro h
   exact ⟨rfl,.inr ⟨rfl,h⟩⟩
  have hl1:¬ [Z4 opn ev a,Z4 opn ev b].length=1:=by simp
  by_cases h0:(Z4 opn ev a).2=0
  have nh0:¬ ¬ (Z4 opn ev a).2=0:=fun h=>h h0
  rw [if_neg nh0,if_neg (by decide),if_neg (by decide),if_neg hl1]
  by_cases hv:(Z4 opn ev a).1=1
  rw [if_pos (hc.2 hv),if_neg nh0,if_pos hv]
  rw [if_neg (fun h=>hv (hc.1 h))]
  by_cases h1:(Z4 opn ev b).2=0
  have nh1:¬ ¬ (Z4 opn ev b).2=0:=fun h=>h h1
  rw [if_neg nh1,if_neg (by decide),if_neg (by decide),if_neg (by decide),if_neg nh0,if_neg hv,if_neg nh1]
  rfl
  rw [if_pos h1,if_neg nh0,if_neg hv,if_pos h1]
  rw [if_pos h0,if_pos h0]
 rw [hev2,e9]
 by_cases he:(Z4 opn ev a).2=0
 rw [if_neg (fun h=>h he)]
 obtain ⟨sv1,pv1,hM1⟩:=hres.go he
 have hva:=Z0Z opn ev (by rw [← hevv];exact hK.ev) a (by omega) he
 rw [ta] at hva
 generalize (Z4 opn ev a).1=v at hva hM1 ⊢
 have hv01:v=0∨v=1:=hva.b
 have hlen:(st++[v]).length=st.length+1:=by simp
 have hz:((st++[v]).length:Int) - 1=(st.length:Int):=by rw [hlen];simp
 have hil:st.length<(st++[v]).length:=by rw [hlen];omega
 have hat:(st++[v])[st.length]=v:=by simp
 have hmx:=(hM1.row.slv (X:=[]) (by simp)).max
 rcases hv01 with rfl|rfl
 refine W ?_
 refine ZDr 23 [] [] [(0,0),(1,0),(2,0),(3,1),(4,0),(5,0),(6,0),(7,0),(8,1),(9,0),(10,0),(11,0),(12,1),(13,0),(14,0),(15,0),(16,1),(17,0),(18,0),(19,1),(20,0),(21,0),(22,0)] (fun w1 hS1=>?_)
 replace hM1:=hM1.up hS1
 have hblkM:=hM1.blk
 have hblkN1:=hkept hM1
 have hsv:=hM1.row.slv (X:=[]) (by simp)
 unfold Z1H at hblkM
 refine D ?_
 try refine Z0R rfl (Z1j (i:=st.length) rfl rfl hsv rfl hz hil rfl ?_)
 refine D ?_
 try rw [hat]
 refine D ?_
 refine W ?_
 rw [if_neg (by decide)]
 refine CL rfl (Zp rfl) rfl (Z1Q hK hM1) ?_
 rintro _ w4 ⟨rfl,sv4,hM4⟩
 have hblkN4:=hkept hM4
 have hsl4:=hs'.ext (X':=[]) hM4.stp (fun b hb=>hb) (by simp)
 refine W ?_
 apply Z7 (ZC rfl rfl hsl4 l1 (cb _ hM4.stp)) rfl
 refine CL rfl (Z9 rfl rfl) rfl (db _ _ _ _ _ _ hM4 hst (by show sh.length+Zw b≤16;omega)) ?_
 rintro _ w6 ⟨rfl,hres6⟩
 change Z0N K w6 st at_ (Z4 opn ev b) at hres6
 refine W ?_
 refine WR ?_
 refine .mk ⟨rfl,hun _ _ ?_⟩
 by_cases h1:(Z4 opn ev b).2=0
 rw [if_neg (fun h=>h h1)]
 obtain ⟨sv6,pv6,hM6⟩:=hres6.go h1
 exact ⟨sv6,pv6,_,hM6,fun _=>rfl⟩
 rw [if_pos h1]
 obtain ⟨sv6,pv6,st6,hM6⟩:=hres6.stop h1
 exact Z0N.of h1 hM6
 refine W ?_
 refine ZDr 23 [] [] [(0,0),(1,0),(2,0),(3,1),(4,0),(5,0),(6,0),(7,0),(8,1),(9,0),(10,0),(11,0),(12,1),(13,0),(14,0),(15,0),(16,1),(17,0),(18,0),(19,1),(20,0),(21,0),(22,0)] (fun w1 hS1=>?_)
 replace hM1:=hM1.up hS1
 have hblkM:=hM1.blk
 have hblkN1:=hkept hM1
 have hsv:=hM1.row.slv (X:=[]) (by simp)
 unfold Z1H at hblkM
 refine D ?_
 try refine Z0R rfl (Z1j (i:=st.length) rfl rfl hsv rfl hz hil rfl ?_)
 refine D ?_
 try rw [hat]
 refine D ?_
 refine W ?_
 rw [if_pos rfl]
 refine WR ?_
 exact .mk ⟨rfl,hun _ _ ⟨sv1,pv1,_,hM1,fun _=>rfl⟩⟩
 rw [if_pos he]
 obtain ⟨sv1,pv1,st1,hM1⟩:=hres.stop he
 refine W ?_
 refine ZDr 23 [] [] [(0,0),(1,0),(2,0),(3,1),(4,0),(5,0),(6,0),(7,0),(8,1),(9,0),(10,0),(11,0),(12,1),(13,0),(14,0),(15,0),(16,1),(17,0),(18,0),(19,1),(20,0),(21,0),(22,0)] (fun w1 hS1=>?_)
 replace hM1:=hM1.up hS1
 have hblkM:=hM1.blk
 have hblkN1:=hkept hM1
 unfold Z1H at hblkM
 refine D ?_
 refine W ?_
 refine WR ?_
 exact .mk ⟨rfl,hun _ _ (Z0N.of he hM1)⟩
end Go.Proofs.YtjdjdoefppebkaaGreatDoor
