/-
Merged by program out of own texts: Gq4, Dtr2, Dtr3, Gq5, Gq6, Mad4, Spn1, Vev1, Vev2, Vev3, Vev4, Vev5, Vev6, Vev7, Lvx1, Lvx2, Vla0, Hlr1, Hlr2, Clr1, Rvm1.
-/
import Derived.Test.YtjdjdoefppebkaaGreatDoorM5
set_option linter.unusedVariables false
set_option linter.unusedSimpArgs false
namespace Go.Proofs.YtjdjdoefppebkaaGreatDoor
open Go Go.Eng Go.RowKit
set_option maxHeartbeats 1000000
def units5:List Str:=[[100,97,121,115],[100,97,121,115],[99,111,117,114,116,100,97,121,115],[119,101,101,107,115],[109,111,110,116,104,115]]
theorem units5_mem:∀ s∈units5,s∈units:=by decide
theorem Date3_step (d:Nat) (hd6:d≤6) (ih:∀ e,d=e+1→GenQ 43 1 e∧GenQ 44 2 e∧GenQ 45 3 e):GenQ 45 3 d:=by
 intro X w bm lv l i z hz hmk hsl hl hi hX
 subst hz
 have hsz:szD (d+1)=1+3 * szD d:=rfl
 refine calls_of_WC2 (n:=107) Tryz.func45 rfl rfl rfl ?_
 refine W ?_
 refine WL_eff OE_alloc rfl ?_
 rintro _ w1 ⟨b4,rfl,hb4,hblk4,hS0⟩
 have gm:G3 (b4 :: bm :: X) w1 w1 bm b4 lv l i:=⟨hmk.up hS0,hsl.up hS0,Stp.refl _ _,⟨_,rfl,hblk4⟩,fun h=>by have:=hmk.lt;omega,fun c hc=>by
  simp only [List.mem_cons] at hc
  have h1:=hblk4.lt
  have h2:=hmk.lt
  have h3:=hS0.size
  rcases hc with rfl|rfl|hc
  exact h1
  omega
  have:=hX c hc;omega⟩
 clear hblk4 hX hsl hmk
 refine W ?_
 refine CL rfl (evs2 rfl rfl) rfl (Next3_any bm lv l _ 10 _ (by decide) (by omega) gm.mkr gm.sl hl) ?_
 rintro _ wq ⟨q,rfl,hq,hm,hS⟩
 replace gm:=gm.nxt hm hS
 clear hm hS
 refine W ?_
 refine CL rfl (evs2 rfl rfl) rfl (Done3_any bm lv l _ d _ _ rfl gm.mkr gm.sl) ?_
 rintro _ wq ⟨dn,rfl,hdn,hT⟩
 replace gm:=gm.up hT
 clear hT
 refine W ?_
 refine WC_cutQ (σ:=Nat) (fun k=>[(0,.pointer (some ⟨bm,0,none⟩)),(1,.int .i64 (d:Int)),(4,.pointer (some ⟨b4,0,none⟩)),(5,.int .i64 (k:Int))]) (fun k w'=>w'=wq∧k<10∧(d=0→k<4)) ?_ ?_
 · cases dn with
   | true=>
     repeat'(first|refine W1 ?_|omega|refine VG ?_ ?_<;>intro hg|refine VC ?_ ?_<;>intro hc)
     exact WQ_cut (q % 4) ⟨rfl,rfl,rfl,rfl,trivial⟩ ⟨rfl,by omega,fun _=>by omega⟩
   | false=>
     repeat'(first|refine W1 ?_|omega|refine VG ?_ ?_<;>intro hg|refine VC ?_ ?_<;>intro hc)
     exact WQ_cut q ⟨rfl,rfl,rfl,rfl,trivial⟩ ⟨rfl,by omega,fun h=>absurd (hdn h) (by decide)⟩
 rintro k w3 ⟨rfl,hkn,hk1⟩
 clear hq hdn
 by_cases k0:k≤1
 · repeat'(first|refine W1 ?_|omega|refine VG ?_ ?_<;>intro hg|refine VC ?_ ?_<;>intro hc)
   all_goals
    refine CL rfl (evs3 rfl rfl rfl) rfl (node13_any (b4 :: bm :: X) 4 [100,97,121] (.slice none 0 0) [] _ gm.hX (nilSlv _ _)) ?_
    rintro _ wq ⟨⟨ky,rfl,hy⟩,hT⟩
    replace gm:=gm.up hT
    clear hT
    obtain ⟨cs,hcl,hcb⟩:=gm.blk
    refine WL_eff0 (OE_storeA (us:=ndC (.mk 4 0 [100,97,121] []) _) rfl rfl rfl rfl (ndC_one (x:=(.mk 4 0 [100,97,121] [])) hy) hcb hcl.symm) ?_
    rintro _ wz ⟨hz,hbz⟩
    refine W ?_
    refine WQ_retc rfl rfl rfl hbz rfl ?_
    have hf:=gm.fin (y:=(.mk 4 0 [100,97,121] [])) hS0 hb4 hy hz
    exact .mk ⟨_,_,hf.1,.fldD _ _ (by decide),hf.2.1,by omega,hf.2.2⟩
 by_cases k2:k=2
 focus repeat'(first|refine W1 ?_|omega|refine VG ?_ ?_<;>intro hg|refine VC ?_ ?_<;>intro hc)
 refine WL_eff (OE_buildSlice (vs:=[(0,str [100,97,121]),(1,str [115,101,114,118,101,100])]) rfl (bS2 _ _)) rfl ?_
 rintro wv wq hN
 have hws:SlV [bm] wq wv dateF:=hN.slv (fun c hc=>gm.hX c (by simp at hc;subst hc;simp)) rfl rfl (by decide)
 have hT:=NewSl.stp hN
 clear hN
 replace gm:=gm.up hT
 clear hT
 refine W ?_
 refine CL rfl (evs2 rfl rfl) rfl (Next3_any bm lv l _ 2 _ (by decide) (by omega) gm.mkr gm.sl hl) ?_
 rintro _ wq ⟨q',rfl,hq',hm,hS⟩
 replace gm:=gm.nxt hm hS
 replace hws:=hws.ext hS (by simp) (fun _ h=>.inl h)
 clear hm hS
 have hqn:q'<dateF.length:=by show q'<2;omega
 refine W ?_
 refine CL rfl (evs3 rfl rfl rfl) rfl (node13_any (b4 :: bm :: X) 4 dateF[q'] (.slice none 0 0) [] _ gm.hX (nilSlv _ _)) ?_
 rintro _ wq ⟨⟨ky,rfl,hy⟩,hT⟩
 replace gm:=gm.up hT
 clear hT
 obtain ⟨cs,hcl,hcb⟩:=gm.blk
 refine WL_eff0 (OE_storeA (us:=ndC (.mk 4 0 dateF[q'] []) _) rfl rfl rfl rfl (ndC_one (x:=(.mk 4 0 dateF[q'] [])) hy) hcb hcl.symm) ?_
 rintro _ wz ⟨hz,hbz⟩
 refine W ?_
 refine WQ_retc rfl rfl rfl hbz rfl ?_
 have hf:=gm.fin (y:=(.mk 4 0 dateF[q'] [])) hS0 hb4 hy hz
 exact .mk ⟨_,_,hf.1,.fldD _ _ (List.getElem_mem hqn),hf.2.1,by omega,hf.2.2⟩
 by_cases k3:k=3
 focus repeat'(first|refine W1 ?_|omega|refine VG ?_ ?_<;>intro hg|refine VC ?_ ?_<;>intro hc)
 refine CL rfl (evs2 rfl rfl) rfl (Next3_any bm lv l _ 60 _ (by decide) (by omega) gm.mkr gm.sl hl) ?_
 rintro _ wq ⟨q',rfl,hq',hm,hS⟩
 replace gm:=gm.nxt hm hS
 clear hm hS
 refine W ?_
 apply WL_build (vs:=[(0,.int .i64 3),(1,.int .i64 _)]) rfl (buildN01 _ _) rfl
 have hy:SlV (α:=Nd) (b4 :: bm :: X) _ (.slice none 0 0) []:=nilSlv _ wq
 obtain ⟨cs,hcl,hcb⟩:=gm.blk
 refine WL_eff0 (OE_storeA (us:=ndC (.mk 3 (739616+(q':Int)) [] []) _) rfl rfl rfl rfl (ndC_one (x:=(.mk 3 (739616+(q':Int)) [] [])) hy) hcb hcl.symm) ?_
 rintro _ wz ⟨hz,hbz⟩
 refine W ?_
 refine WQ_retc rfl rfl rfl hbz rfl ?_
 have hf:=gm.fin (y:=(.mk 3 (739616+(q':Int)) [] [])) hS0 hb4 hy hz
 exact .mk ⟨_,_,hf.1,.day _ _ (by omega),hf.2.1,by omega,hf.2.2⟩
 by_cases k4:k=4
 obtain ⟨e,rfl⟩:∃ e,d=e+1:=⟨d - 1,by omega⟩
 replace ih:=ih e rfl
 have hsp:=szD_pos e
 focus repeat'(first|refine W1 ?_|omega|refine VG ?_ ?_<;>intro hg|refine VC ?_ ?_<;>intro hc)
 refine WC_drawnT 12 [b4,bm] [] rfl mixed (fun w1 hS1=>?_)
 have hT:=hS1
 replace gm:=gm.up hT
 clear hT hS1
 refine WT_free 1 rfl trivial (fun w'=>PR_move rfl) rfl (by kernel_rfl) (by kernel_rfl) ?_
 refine WT_free 5 rfl trivial (fun w'=>PR_move rfl) rfl (by kernel_rfl) (by kernel_rfl) ?_
 refine WT_free 6 rfl trivial (fun w'=>PR_move rfl) rfl (by kernel_rfl) (by kernel_rfl) ?_
 refine WT_free 7 rfl trivial (fun w'=>PR_sub rfl rfl (by unfold I64;omega)) rfl (by kernel_rfl) (by kernel_rfl) ?_
 refine WT_two 0 2 (by kernel_rfl) ?_ ?_
 refine WT1_eff rfl trivial (OE_buildSlice (vs:=[(0,str [110,101,120,116]),(1,str [112,114,101,118])]) rfl (bS2 _ _)) (fun _ _ h=>(NewSl.stp h).mono (by simp)) rfl ?_
 rintro wv wq hN
 have hws:SlV [b4,bm] wq wv opsN:=hN.slv (fun c hc=>gm.hX c (by simp at hc;rcases hc with rfl|rfl<;>simp)) rfl rfl (by decide)
 have hT:=NewSl.stp hN
 clear hN
 replace gm:=gm.up hT
 clear hT
 refine WT_D [(2,2),(3,0),(4,1),(8,2),(9,2),(10,2),(11,2)] (by kernel_rfl) (by kernel_rfl) (by kernel_rfl) ?_
 refine WD_eff rfl trivial (OE_call rfl (evs2 rfl rfl) (Next3_any bm lv l _ 2 _ (by decide) (by omega) gm.mkr gm.sl hl)) (fun _ _ h=>h.choose_spec.2.2.2.mono (by simp)) rfl ?_
 rintro _ wq ⟨q,rfl,hq,hm,hS⟩
 replace gm:=gm.nxt hm hS
 replace hws:=hws.ext hS (by simp) (fun _ h=>.inl h)
 clear hm hS
 have hqn:q<opsN.length:=by show q<2;omega
 refine D ?_
 refine WD_eff rfl trivial (OE_call rfl (evs2 rfl rfl) ((ih.2.2) (b4 :: bm :: X) _ bm lv l _ _ (by omega) gm.mkr gm.sl hl (by omega) gm.hX)) (fun _ _ h=>by obtain ⟨_,_,_,_,_,_,h⟩:=h;exact h.mono (by simp)) rfl ?_
 rintro _ wq ⟨y0,i0,⟨k0,rfl,s0⟩,g0,hm,hi0,hS⟩
 obtain ⟨p0,c0,rfl,-⟩:=id s0
 replace gm:=gm.nxt hm hS
 replace hws:=hws.ext hS (by simp) (fun _ h=>.inl h)
 clear hm hS
 refine D ?_
 refine WD_eff rfl trivial (OE_buildSlice (vs:=[(0,.agg #[.int .i64 y0.kind,.int .i64 y0.num,str y0.word,.slice p0 y0.kids.length c0])]) rfl (buildSN1 _ _ _ _ _ _)) (fun _ _ h=>(NewSl.stp h).mono (by simp)) rfl ?_
 rintro bv wq hN
 have hbv:SlV (b4 :: bm :: X) wq bv [y0]:=hN.slvG (css:=[ndC y0 _]) gm.hX rfl rfl rfl (reps1 s0) (by simp [maxLen])
 have hT:=NewSl.stp hN
 clear hN
 replace gm:=gm.up hT
 replace hws:=hws.up hT
 clear hT
 refine D ?_
 refine WD_eff rfl trivial (OE_call rfl (evs3 rfl rfl rfl) (node13_any (b4 :: bm :: X) 10 opsN[q] bv [y0] _ gm.hX hbv)) (fun _ _ h=>h.2.mono (by simp)) rfl ?_
 rintro _ wq ⟨⟨ky,rfl,hy⟩,hT⟩
 replace gm:=gm.up hT
 clear hT hbv
 refine D ?_
 obtain ⟨cs,hcl,hcb⟩:=gm.blk
 refine WD_eff0 rfl trivial (OE_storeA (us:=ndC (.mk 10 0 opsN[q] [y0]) _) rfl rfl rfl rfl (ndC_one (x:=(.mk 10 0 opsN[q] [y0])) hy) hcb hcl.symm) (fun _ _ h=>h.1.mono (by simp)) ?_
 rintro _ wz ⟨hz,hbz⟩
 refine D ?_
 refine W ?_
 refine WQ_retc rfl rfl rfl hbz rfl ?_
 have hf:=gm.fin (y:=(.mk 10 0 opsN[q] [y0])) hS0 hb4 hy hz
 exact .mk ⟨_,_,hf.1,.adj _ _ _ (List.getElem_mem hqn) g0,hf.2.1,by omega,hf.2.2⟩
 refine WT1_eff rfl trivial (OE_call rfl (evs2 rfl rfl) (Next3_any bm lv l _ 2 _ (by decide) (by omega) gm.mkr gm.sl hl)) (fun _ _ h=>h.choose_spec.2.2.2.mono (by simp)) rfl ?_
 rintro _ wq ⟨q,rfl,hq,hm,hS⟩
 replace gm:=gm.nxt hm hS
 clear hm hS
 have hqn:q<opsN.length:=by show q<2;omega
 refine WT_two 0 8 (by kernel_rfl) ?_ ?_
 refine WT1_eff rfl trivial (OE_buildSlice (vs:=[(0,str [110,101,120,116]),(1,str [112,114,101,118])]) rfl (bS2 _ _)) (fun _ _ h=>(NewSl.stp h).mono (by simp)) rfl ?_
 rintro wv wq hN
 have hws:SlV [b4,bm] wq wv opsN:=hN.slv (fun c hc=>gm.hX c (by simp at hc;rcases hc with rfl|rfl<;>simp)) rfl rfl (by decide)
 have hT:=NewSl.stp hN
 clear hN
 replace gm:=gm.up hT
 clear hT
 refine WT_D [(3,0),(4,1),(8,2),(9,2),(10,2),(11,2)] (by kernel_rfl) (by kernel_rfl) (by kernel_rfl) ?_
 refine D ?_
 refine WD_eff rfl trivial (OE_call rfl (evs2 rfl rfl) ((ih.2.2) (b4 :: bm :: X) _ bm lv l _ _ (by omega) gm.mkr gm.sl hl (by omega) gm.hX)) (fun _ _ h=>by obtain ⟨_,_,_,_,_,_,h⟩:=h;exact h.mono (by simp)) rfl ?_
 rintro _ wq ⟨y0,i0,⟨k0,rfl,s0⟩,g0,hm,hi0,hS⟩
 obtain ⟨p0,c0,rfl,-⟩:=id s0
 replace gm:=gm.nxt hm hS
 replace hws:=hws.ext hS (by simp) (fun _ h=>.inl h)
 clear hm hS
 refine D ?_
 refine WD_eff rfl trivial (OE_buildSlice (vs:=[(0,.agg #[.int .i64 y0.kind,.int .i64 y0.num,str y0.word,.slice p0 y0.kids.length c0])]) rfl (buildSN1 _ _ _ _ _ _)) (fun _ _ h=>(NewSl.stp h).mono (by simp)) rfl ?_
 rintro bv wq hN
 have hbv:SlV (b4 :: bm :: X) wq bv [y0]:=hN.slvG (css:=[ndC y0 _]) gm.hX rfl rfl rfl (reps1 s0) (by simp [maxLen])
 have hT:=NewSl.stp hN
 clear hN
 replace gm:=gm.up hT
 replace hws:=hws.up hT
 clear hT
 refine D ?_
 refine WD_eff rfl trivial (OE_call rfl (evs3 rfl rfl rfl) (node13_any (b4 :: bm :: X) 10 opsN[q] bv [y0] _ gm.hX hbv)) (fun _ _ h=>h.2.mono (by simp)) rfl ?_
 rintro _ wq ⟨⟨ky,rfl,hy⟩,hT⟩
 replace gm:=gm.up hT
 clear hT hbv
 refine D ?_
 obtain ⟨cs,hcl,hcb⟩:=gm.blk
 refine WD_eff0 rfl trivial (OE_storeA (us:=ndC (.mk 10 0 opsN[q] [y0]) _) rfl rfl rfl rfl (ndC_one (x:=(.mk 10 0 opsN[q] [y0])) hy) hcb hcl.symm) (fun _ _ h=>h.1.mono (by simp)) ?_
 rintro _ wz ⟨hz,hbz⟩
 refine D ?_
 refine W ?_
 refine WQ_retc rfl rfl rfl hbz rfl ?_
 have hf:=gm.fin (y:=(.mk 10 0 opsN[q] [y0])) hS0 hb4 hy hz
 exact .mk ⟨_,_,hf.1,.adj _ _ _ (List.getElem_mem hqn) g0,hf.2.1,by omega,hf.2.2⟩
 refine WT1_eff rfl trivial (OE_call rfl (evs2 rfl rfl) ((ih.2.2) (b4 :: bm :: X) _ bm lv l _ _ (by omega) gm.mkr gm.sl hl (by omega) gm.hX)) (fun _ _ h=>by obtain ⟨_,_,_,_,_,_,h⟩:=h;exact h.mono (by simp)) rfl ?_
 rintro _ wq ⟨y0,i0,⟨k0,rfl,s0⟩,g0,hm,hi0,hS⟩
 obtain ⟨p0,c0,rfl,-⟩:=id s0
 replace gm:=gm.nxt hm hS
 clear hm hS
 refine WT_two 0 9 (by kernel_rfl) ?_ ?_
 refine WT1_eff rfl trivial (OE_buildSlice (vs:=[(0,str [110,101,120,116]),(1,str [112,114,101,118])]) rfl (bS2 _ _)) (fun _ _ h=>(NewSl.stp h).mono (by simp)) rfl ?_
 rintro wv wq hN
 have hws:SlV [b4,bm] wq wv opsN:=hN.slv (fun c hc=>gm.hX c (by simp at hc;rcases hc with rfl|rfl<;>simp)) rfl rfl (by decide)
 have hT:=NewSl.stp hN
 clear hN
 replace gm:=gm.up hT
 replace s0:=s0.up hT
 clear hT
 refine WT_D [(3,0),(4,1),(9,2),(10,2),(11,2)] (by kernel_rfl) (by kernel_rfl) (by kernel_rfl) ?_
 refine D ?_
 refine D ?_
 refine WD_eff rfl trivial (OE_buildSlice (vs:=[(0,.agg #[.int .i64 y0.kind,.int .i64 y0.num,str y0.word,.slice p0 y0.kids.length c0])]) rfl (buildSN1 _ _ _ _ _ _)) (fun _ _ h=>(NewSl.stp h).mono (by simp)) rfl ?_
 rintro bv wq hN
 have hbv:SlV (b4 :: bm :: X) wq bv [y0]:=hN.slvG (css:=[ndC y0 _]) gm.hX rfl rfl rfl (reps1 s0) (by simp [maxLen])
 have hT:=NewSl.stp hN
 clear hN
 replace gm:=gm.up hT
 replace hws:=hws.up hT
 clear hT
 refine D ?_
 refine WD_eff rfl trivial (OE_call rfl (evs3 rfl rfl rfl) (node13_any (b4 :: bm :: X) 10 opsN[q] bv [y0] _ gm.hX hbv)) (fun _ _ h=>h.2.mono (by simp)) rfl ?_
 rintro _ wq ⟨⟨ky,rfl,hy⟩,hT⟩
 replace gm:=gm.up hT
 clear hT hbv
 refine D ?_
 obtain ⟨cs,hcl,hcb⟩:=gm.blk
 refine WD_eff0 rfl trivial (OE_storeA (us:=ndC (.mk 10 0 opsN[q] [y0]) _) rfl rfl rfl rfl (ndC_one (x:=(.mk 10 0 opsN[q] [y0])) hy) hcb hcl.symm) (fun _ _ h=>h.1.mono (by simp)) ?_
 rintro _ wz ⟨hz,hbz⟩
 refine D ?_
 refine W ?_
 refine WQ_retc rfl rfl rfl hbz rfl ?_
 have hf:=gm.fin (y:=(.mk 10 0 opsN[q] [y0])) hS0 hb4 hy hz
 exact .mk ⟨_,_,hf.1,.adj _ _ _ (List.getElem_mem hqn) g0,hf.2.1,by omega,hf.2.2⟩
 refine WT1_eff rfl trivial (OE_buildSlice (vs:=[(0,.agg #[.int .i64 y0.kind,.int .i64 y0.num,str y0.word,.slice p0 y0.kids.length c0])]) rfl (buildSN1 _ _ _ _ _ _)) (fun _ _ h=>(NewSl.stp h).mono (by simp)) rfl ?_
 rintro bv wq hN
 have hbv:SlV (b4 :: bm :: X) wq bv [y0]:=hN.slvG (css:=[ndC y0 _]) gm.hX rfl rfl rfl (reps1 s0) (by simp [maxLen])
 have hT:=NewSl.stp hN
 clear hN
 replace gm:=gm.up hT
 clear hT
 refine WT_D [(0,2),(3,0),(4,1),(10,2),(11,2)] (by kernel_rfl) (by kernel_rfl) (by kernel_rfl) ?_
 refine WD_eff rfl trivial (OE_buildSlice (vs:=[(0,str [110,101,120,116]),(1,str [112,114,101,118])]) rfl (bS2 _ _)) (fun _ _ h=>(NewSl.stp h).mono (by simp)) rfl ?_
 rintro wv wq hN
 have hws:SlV [b4,bm] wq wv opsN:=hN.slv (fun c hc=>gm.hX c (by simp at hc;rcases hc with rfl|rfl<;>simp)) rfl rfl (by decide)
 have hT:=NewSl.stp hN
 clear hN
 replace gm:=gm.up hT
 replace hbv:=hbv.up hT
 clear hT
 refine D ?_
 refine D ?_
 refine D ?_
 refine WD_eff rfl trivial (OE_call rfl (evs3 rfl rfl rfl) (node13_any (b4 :: bm :: X) 10 opsN[q] bv [y0] _ gm.hX hbv)) (fun _ _ h=>h.2.mono (by simp)) rfl ?_
 rintro _ wq ⟨⟨ky,rfl,hy⟩,hT⟩
 replace gm:=gm.up hT
 clear hT hbv
 refine D ?_
 obtain ⟨cs,hcl,hcb⟩:=gm.blk
 refine WD_eff0 rfl trivial (OE_storeA (us:=ndC (.mk 10 0 opsN[q] [y0]) _) rfl rfl rfl rfl (ndC_one (x:=(.mk 10 0 opsN[q] [y0])) hy) hcb hcl.symm) (fun _ _ h=>h.1.mono (by simp)) ?_
 rintro _ wz ⟨hz,hbz⟩
 refine D ?_
 refine W ?_
 refine WQ_retc rfl rfl rfl hbz rfl ?_
 have hf:=gm.fin (y:=(.mk 10 0 opsN[q] [y0])) hS0 hb4 hy hz
 exact .mk ⟨_,_,hf.1,.adj _ _ _ (List.getElem_mem hqn) g0,hf.2.1,by omega,hf.2.2⟩
 by_cases k5:k=5
 obtain ⟨e,rfl⟩:∃ e,d=e+1:=⟨d - 1,by omega⟩
 replace ih:=ih e rfl
 have hsp:=szD_pos e
 focus repeat'(first|refine W1 ?_|omega|refine VG ?_ ?_<;>intro hg|refine VC ?_ ?_<;>intro hc)
 refine W ?_
 refine CL rfl (evs2 rfl rfl) rfl ((ih.2.2) (b4 :: bm :: X) _ bm lv l _ _ (by omega) gm.mkr gm.sl hl (by omega) gm.hX) ?_
 rintro _ wq ⟨y0,i0,⟨k0,rfl,s0⟩,g0,hm,hi0,hS⟩
 obtain ⟨p0,c0,rfl,-⟩:=id s0
 replace gm:=gm.nxt hm hS
 clear hm hS
 refine WL_eff OE_alloc rfl ?_
 rintro _ wq ⟨b0',rfl,hb0',e0,hT⟩
 refine WL_eff0 (OE_storeA (us:=ndC y0 _) rfl rfl rfl rfl (ndC_one s0) e0 rfl) ?_
 rintro _ wq ⟨hT2,e0⟩
 replace hT:=keep_node hT hb0' hT2
 clear hT2
 have n0:b0'≠bm:=fun h=>by have:=gm.mkr.lt;omega
 have n0':b0'≠b4:=fun h=>by obtain ⟨_,_,hc⟩:=gm.blk;have:=hc.lt;omega
 replace gm:=gm.up hT
 replace s0:=s0.up hT
 clear hT hb0'
 refine W ?_
 refine WC_drawnT 13 [b4,bm] [] rfl mixed (fun w1 hS1=>?_)
 have hT:=hS1
 replace gm:=gm.up hT
 replace s0:=s0.up hT
 replace e0:=e0.up hT
 clear hT hS1
 refine WT_free 1 rfl trivial (fun w'=>PR_move rfl) rfl (by kernel_rfl) (by kernel_rfl) ?_
 refine WT_read 5 rfl trivial (fun w' hS'=>PR_load_blkA rfl rfl (e0.ext hS' (by simp;exact ⟨n0',n0⟩)) rfl) rfl (by kernel_rfl) (by kernel_rfl) ?_
 refine WT_free 6 rfl trivial (fun w'=>PR_move rfl) rfl (by kernel_rfl) (by kernel_rfl) ?_
 refine WT_free 7 rfl trivial (fun w'=>PR_move rfl) rfl (by kernel_rfl) (by kernel_rfl) ?_
 refine WT_free 8 rfl trivial (fun w'=>PR_sub rfl rfl (by unfold I64;omega)) rfl (by kernel_rfl) (by kernel_rfl) ?_
 refine WT_two 0 2 (by kernel_rfl) ?_ ?_
 refine WT1_eff rfl trivial (OE_buildSlice (vs:=[(0,str [108,97,116,101,114]),(1,str [101,97,114,108,105,101,114])]) rfl (bS2 _ _)) (fun _ _ h=>(NewSl.stp h).mono (by simp)) rfl ?_
 rintro wv wq hN
 have hws:SlV [b4,bm] wq wv opsE:=hN.slv (fun c hc=>gm.hX c (by simp at hc;rcases hc with rfl|rfl<;>simp)) rfl rfl (by decide)
 have hT:=NewSl.stp hN
 clear hN
 replace gm:=gm.up hT
 replace s0:=s0.up hT
 replace e0:=e0.up hT
 clear hT
 refine WT_D [(2,2),(3,0),(4,1),(9,2),(10,2),(11,2),(12,2)] (by kernel_rfl) (by kernel_rfl) (by kernel_rfl) ?_
 refine WD_eff rfl trivial (OE_call rfl (evs2 rfl rfl) (Next3_any bm lv l _ 2 _ (by decide) (by omega) gm.mkr gm.sl hl)) (fun _ _ h=>h.choose_spec.2.2.2.mono (by simp)) rfl ?_
 rintro _ wq ⟨q,rfl,hq,hm,hS⟩
 replace gm:=gm.nxt hm hS
 replace s0:=s0.ext hS (by simp) (fun _ h=>.inl h)
 replace e0:=e0.ext hS (by simp;exact n0)
 replace hws:=hws.ext hS (by simp) (fun _ h=>.inl h)
 clear hm hS
 have hqn:q<opsE.length:=by show q<2;omega
 refine D ?_
 refine WD_eff rfl trivial (OE_call rfl (evs2 rfl rfl) ((ih.2.2) (b4 :: bm :: X) _ bm lv l _ _ (by omega) gm.mkr gm.sl hl (by omega) gm.hX)) (fun _ _ h=>by obtain ⟨_,_,_,_,_,_,h⟩:=h;exact h.mono (by simp)) rfl ?_
 rintro _ wq ⟨y1,i1,⟨k1,rfl,s1⟩,g1,hm,hi1,hS⟩
 obtain ⟨p1,c1,rfl,-⟩:=id s1
 replace gm:=gm.nxt hm hS
 replace s0:=s0.ext hS (by simp) (fun _ h=>.inl h)
 replace e0:=e0.ext hS (by simp;exact n0)
 replace hws:=hws.ext hS (by simp) (fun _ h=>.inl h)
 clear hm hS
 refine D ?_
 refine WD_eff rfl trivial (OE_buildSlice (vs:=[(0,.agg #[.int .i64 y0.kind,.int .i64 y0.num,str y0.word,.slice p0 y0.kids.length c0]),(1,.agg #[.int .i64 y1.kind,.int .i64 y1.num,str y1.word,.slice p1 y1.kids.length c1])]) rfl (buildSN2 _ _ _ _ _ _ _ _ _ _ _ _)) (fun _ _ h=>(NewSl.stp h).mono (by simp)) rfl ?_
 rintro bv wq hN
 have hbv:SlV (b4 :: bm :: X) wq bv [y0,y1]:=hN.slvG (css:=[ndC y0 _,ndC y1 _]) gm.hX rfl rfl rfl (reps2 s0 s1) (by simp [maxLen])
 have hT:=NewSl.stp hN
 clear hN
 replace gm:=gm.up hT
 replace hws:=hws.up hT
 clear hT
 refine D ?_
 refine WD_eff rfl trivial (OE_call rfl (evs3 rfl rfl rfl) (node13_any (b4 :: bm :: X) 10 opsE[q] bv [y0,y1] _ gm.hX hbv)) (fun _ _ h=>h.2.mono (by simp)) rfl ?_
 rintro _ wq ⟨⟨ky,rfl,hy⟩,hT⟩
 replace gm:=gm.up hT
 clear hT hbv
 refine D ?_
 obtain ⟨cs,hcl,hcb⟩:=gm.blk
 refine WD_eff0 rfl trivial (OE_storeA (us:=ndC (.mk 10 0 opsE[q] [y0,y1]) _) rfl rfl rfl rfl (ndC_one (x:=(.mk 10 0 opsE[q] [y0,y1])) hy) hcb hcl.symm) (fun _ _ h=>h.1.mono (by simp)) ?_
 rintro _ wz ⟨hz,hbz⟩
 refine D ?_
 refine W ?_
 refine WQ_retc rfl rfl rfl hbz rfl ?_
 have hf:=gm.fin (y:=(.mk 10 0 opsE[q] [y0,y1])) hS0 hb4 hy hz
 exact .mk ⟨_,_,hf.1,.two _ _ _ _ (List.getElem_mem hqn) g0 g1,hf.2.1,by omega,hf.2.2⟩
 refine WT1_eff rfl trivial (OE_call rfl (evs2 rfl rfl) (Next3_any bm lv l _ 2 _ (by decide) (by omega) gm.mkr gm.sl hl)) (fun _ _ h=>h.choose_spec.2.2.2.mono (by simp)) rfl ?_
 rintro _ wq ⟨q,rfl,hq,hm,hS⟩
 replace gm:=gm.nxt hm hS
 replace s0:=s0.ext hS (by simp) (fun _ h=>.inl h)
 replace e0:=e0.ext hS (by simp;exact n0)
 clear hm hS
 have hqn:q<opsE.length:=by show q<2;omega
 refine WT_two 0 9 (by kernel_rfl) ?_ ?_
 refine WT1_eff rfl trivial (OE_buildSlice (vs:=[(0,str [108,97,116,101,114]),(1,str [101,97,114,108,105,101,114])]) rfl (bS2 _ _)) (fun _ _ h=>(NewSl.stp h).mono (by simp)) rfl ?_
 rintro wv wq hN
 have hws:SlV [b4,bm] wq wv opsE:=hN.slv (fun c hc=>gm.hX c (by simp at hc;rcases hc with rfl|rfl<;>simp)) rfl rfl (by decide)
 have hT:=NewSl.stp hN
 clear hN
 replace gm:=gm.up hT
 replace s0:=s0.up hT
 replace e0:=e0.up hT
 clear hT
 refine WT_D [(3,0),(4,1),(9,2),(10,2),(11,2),(12,2)] (by kernel_rfl) (by kernel_rfl) (by kernel_rfl) ?_
 refine D ?_
 refine WD_eff rfl trivial (OE_call rfl (evs2 rfl rfl) ((ih.2.2) (b4 :: bm :: X) _ bm lv l _ _ (by omega) gm.mkr gm.sl hl (by omega) gm.hX)) (fun _ _ h=>by obtain ⟨_,_,_,_,_,_,h⟩:=h;exact h.mono (by simp)) rfl ?_
 rintro _ wq ⟨y1,i1,⟨k1,rfl,s1⟩,g1,hm,hi1,hS⟩
 obtain ⟨p1,c1,rfl,-⟩:=id s1
 replace gm:=gm.nxt hm hS
 replace s0:=s0.ext hS (by simp) (fun _ h=>.inl h)
 replace e0:=e0.ext hS (by simp;exact n0)
 replace hws:=hws.ext hS (by simp) (fun _ h=>.inl h)
 clear hm hS
 refine D ?_
 refine WD_eff rfl trivial (OE_buildSlice (vs:=[(0,.agg #[.int .i64 y0.kind,.int .i64 y0.num,str y0.word,.slice p0 y0.kids.length c0]),(1,.agg #[.int .i64 y1.kind,.int .i64 y1.num,str y1.word,.slice p1 y1.kids.length c1])]) rfl (buildSN2 _ _ _ _ _ _ _ _ _ _ _ _)) (fun _ _ h=>(NewSl.stp h).mono (by simp)) rfl ?_
 rintro bv wq hN
 have hbv:SlV (b4 :: bm :: X) wq bv [y0,y1]:=hN.slvG (css:=[ndC y0 _,ndC y1 _]) gm.hX rfl rfl rfl (reps2 s0 s1) (by simp [maxLen])
 have hT:=NewSl.stp hN
 clear hN
 replace gm:=gm.up hT
 replace hws:=hws.up hT
 clear hT
 refine D ?_
 refine WD_eff rfl trivial (OE_call rfl (evs3 rfl rfl rfl) (node13_any (b4 :: bm :: X) 10 opsE[q] bv [y0,y1] _ gm.hX hbv)) (fun _ _ h=>h.2.mono (by simp)) rfl ?_
 rintro _ wq ⟨⟨ky,rfl,hy⟩,hT⟩
 replace gm:=gm.up hT
 clear hT hbv
 refine D ?_
 obtain ⟨cs,hcl,hcb⟩:=gm.blk
 refine WD_eff0 rfl trivial (OE_storeA (us:=ndC (.mk 10 0 opsE[q] [y0,y1]) _) rfl rfl rfl rfl (ndC_one (x:=(.mk 10 0 opsE[q] [y0,y1])) hy) hcb hcl.symm) (fun _ _ h=>h.1.mono (by simp)) ?_
 rintro _ wz ⟨hz,hbz⟩
 refine D ?_
 refine W ?_
 refine WQ_retc rfl rfl rfl hbz rfl ?_
 have hf:=gm.fin (y:=(.mk 10 0 opsE[q] [y0,y1])) hS0 hb4 hy hz
 exact .mk ⟨_,_,hf.1,.two _ _ _ _ (List.getElem_mem hqn) g0 g1,hf.2.1,by omega,hf.2.2⟩
 refine WT1_eff rfl trivial (OE_call rfl (evs2 rfl rfl) ((ih.2.2) (b4 :: bm :: X) _ bm lv l _ _ (by omega) gm.mkr gm.sl hl (by omega) gm.hX)) (fun _ _ h=>by obtain ⟨_,_,_,_,_,_,h⟩:=h;exact h.mono (by simp)) rfl ?_
 rintro _ wq ⟨y1,i1,⟨k1,rfl,s1⟩,g1,hm,hi1,hS⟩
 obtain ⟨p1,c1,rfl,-⟩:=id s1
 replace gm:=gm.nxt hm hS
 replace s0:=s0.ext hS (by simp) (fun _ h=>.inl h)
 replace e0:=e0.ext hS (by simp;exact n0)
 clear hm hS
 refine WT_two 0 10 (by kernel_rfl) ?_ ?_
 refine WT1_eff rfl trivial (OE_buildSlice (vs:=[(0,str [108,97,116,101,114]),(1,str [101,97,114,108,105,101,114])]) rfl (bS2 _ _)) (fun _ _ h=>(NewSl.stp h).mono (by simp)) rfl ?_
 rintro wv wq hN
 have hws:SlV [b4,bm] wq wv opsE:=hN.slv (fun c hc=>gm.hX c (by simp at hc;rcases hc with rfl|rfl<;>simp)) rfl rfl (by decide)
 have hT:=NewSl.stp hN
 clear hN
 replace gm:=gm.up hT
 replace s0:=s0.up hT
 replace e0:=e0.up hT
 replace s1:=s1.up hT
 clear hT
 refine WT_D [(3,0),(4,1),(10,2),(11,2),(12,2)] (by kernel_rfl) (by kernel_rfl) (by kernel_rfl) ?_
 refine D ?_
 refine D ?_
 refine WD_eff rfl trivial (OE_buildSlice (vs:=[(0,.agg #[.int .i64 y0.kind,.int .i64 y0.num,str y0.word,.slice p0 y0.kids.length c0]),(1,.agg #[.int .i64 y1.kind,.int .i64 y1.num,str y1.word,.slice p1 y1.kids.length c1])]) rfl (buildSN2 _ _ _ _ _ _ _ _ _ _ _ _)) (fun _ _ h=>(NewSl.stp h).mono (by simp)) rfl ?_
 rintro bv wq hN
 have hbv:SlV (b4 :: bm :: X) wq bv [y0,y1]:=hN.slvG (css:=[ndC y0 _,ndC y1 _]) gm.hX rfl rfl rfl (reps2 s0 s1) (by simp [maxLen])
 have hT:=NewSl.stp hN
 clear hN
 replace gm:=gm.up hT
 replace hws:=hws.up hT
 clear hT
 refine D ?_
 refine WD_eff rfl trivial (OE_call rfl (evs3 rfl rfl rfl) (node13_any (b4 :: bm :: X) 10 opsE[q] bv [y0,y1] _ gm.hX hbv)) (fun _ _ h=>h.2.mono (by simp)) rfl ?_
 rintro _ wq ⟨⟨ky,rfl,hy⟩,hT⟩
 replace gm:=gm.up hT
 clear hT hbv
 refine D ?_
 obtain ⟨cs,hcl,hcb⟩:=gm.blk
 refine WD_eff0 rfl trivial (OE_storeA (us:=ndC (.mk 10 0 opsE[q] [y0,y1]) _) rfl rfl rfl rfl (ndC_one (x:=(.mk 10 0 opsE[q] [y0,y1])) hy) hcb hcl.symm) (fun _ _ h=>h.1.mono (by simp)) ?_
 rintro _ wz ⟨hz,hbz⟩
 refine D ?_
 refine W ?_
 refine WQ_retc rfl rfl rfl hbz rfl ?_
 have hf:=gm.fin (y:=(.mk 10 0 opsE[q] [y0,y1])) hS0 hb4 hy hz
 exact .mk ⟨_,_,hf.1,.two _ _ _ _ (List.getElem_mem hqn) g0 g1,hf.2.1,by omega,hf.2.2⟩
 refine WT1_eff rfl trivial (OE_buildSlice (vs:=[(0,.agg #[.int .i64 y0.kind,.int .i64 y0.num,str y0.word,.slice p0 y0.kids.length c0]),(1,.agg #[.int .i64 y1.kind,.int .i64 y1.num,str y1.word,.slice p1 y1.kids.length c1])]) rfl (buildSN2 _ _ _ _ _ _ _ _ _ _ _ _)) (fun _ _ h=>(NewSl.stp h).mono (by simp)) rfl ?_
 rintro bv wq hN
 have hbv:SlV (b4 :: bm :: X) wq bv [y0,y1]:=hN.slvG (css:=[ndC y0 _,ndC y1 _]) gm.hX rfl rfl rfl (reps2 s0 s1) (by simp [maxLen])
 have hT:=NewSl.stp hN
 clear hN
 replace gm:=gm.up hT
 clear hT
 refine WT_D [(0,2),(3,0),(4,1),(11,2),(12,2)] (by kernel_rfl) (by kernel_rfl) (by kernel_rfl) ?_
 refine WD_eff rfl trivial (OE_buildSlice (vs:=[(0,str [108,97,116,101,114]),(1,str [101,97,114,108,105,101,114])]) rfl (bS2 _ _)) (fun _ _ h=>(NewSl.stp h).mono (by simp)) rfl ?_
 rintro wv wq hN
 have hws:SlV [b4,bm] wq wv opsE:=hN.slv (fun c hc=>gm.hX c (by simp at hc;rcases hc with rfl|rfl<;>simp)) rfl rfl (by decide)
 have hT:=NewSl.stp hN
 clear hN
 replace gm:=gm.up hT
 replace hbv:=hbv.up hT
 clear hT
 refine D ?_
 refine D ?_
 refine D ?_
 refine WD_eff rfl trivial (OE_call rfl (evs3 rfl rfl rfl) (node13_any (b4 :: bm :: X) 10 opsE[q] bv [y0,y1] _ gm.hX hbv)) (fun _ _ h=>h.2.mono (by simp)) rfl ?_
 rintro _ wq ⟨⟨ky,rfl,hy⟩,hT⟩
 replace gm:=gm.up hT
 clear hT hbv
 refine D ?_
 obtain ⟨cs,hcl,hcb⟩:=gm.blk
 refine WD_eff0 rfl trivial (OE_storeA (us:=ndC (.mk 10 0 opsE[q] [y0,y1]) _) rfl rfl rfl rfl (ndC_one (x:=(.mk 10 0 opsE[q] [y0,y1])) hy) hcb hcl.symm) (fun _ _ h=>h.1.mono (by simp)) ?_
 rintro _ wz ⟨hz,hbz⟩
 refine D ?_
 refine W ?_
 refine WQ_retc rfl rfl rfl hbz rfl ?_
 have hf:=gm.fin (y:=(.mk 10 0 opsE[q] [y0,y1])) hS0 hb4 hy hz
 exact .mk ⟨_,_,hf.1,.two _ _ _ _ (List.getElem_mem hqn) g0 g1,hf.2.1,by omega,hf.2.2⟩
 by_cases k6:k=6
 obtain ⟨e,rfl⟩:∃ e,d=e+1:=⟨d - 1,by omega⟩
 replace ih:=ih e rfl
 have hsp:=szD_pos e
 focus repeat'(first|refine W1 ?_|omega|refine VG ?_ ?_<;>intro hg|refine VC ?_ ?_<;>intro hc)
 refine W ?_
 refine CL rfl (evs2 rfl rfl) rfl ((ih.2.1) (b4 :: bm :: X) _ bm lv l _ _ (by omega) gm.mkr gm.sl hl (by omega) gm.hX) ?_
 rintro _ wq ⟨y0,i0,⟨k0,rfl,s0⟩,g0,hm,hi0,hS⟩
 obtain ⟨p0,c0,rfl,-⟩:=id s0
 replace gm:=gm.nxt hm hS
 clear hm hS
 refine WL_eff OE_alloc rfl ?_
 rintro _ wq ⟨b0',rfl,hb0',e0,hT⟩
 refine WL_eff0 (OE_storeA (us:=ndC y0 _) rfl rfl rfl rfl (ndC_one s0) e0 rfl) ?_
 rintro _ wq ⟨hT2,e0⟩
 replace hT:=keep_node hT hb0' hT2
 clear hT2
 have n0:b0'≠bm:=fun h=>by have:=gm.mkr.lt;omega
 have n0':b0'≠b4:=fun h=>by obtain ⟨_,_,hc⟩:=gm.blk;have:=hc.lt;omega
 replace gm:=gm.up hT
 replace s0:=s0.up hT
 clear hT hb0'
 refine W ?_
 refine CL rfl (evs2 rfl rfl) rfl ((ih.2.2) (b4 :: bm :: X) _ bm lv l _ _ (by omega) gm.mkr gm.sl hl (by omega) gm.hX) ?_
 rintro _ wq ⟨y1,i1,⟨k1,rfl,s1⟩,g1,hm,hi1,hS⟩
 obtain ⟨p1,c1,rfl,-⟩:=id s1
 replace gm:=gm.nxt hm hS
 replace s0:=s0.ext hS (by simp) (fun _ h=>.inl h)
 replace e0:=e0.ext hS (by simp;exact n0)
 clear hm hS
 refine WL_eff OE_alloc rfl ?_
 rintro _ wq ⟨b1',rfl,hb1',e1,hT⟩
 refine WL_eff0 (OE_storeA (us:=ndC y1 _) rfl rfl rfl rfl (ndC_one s1) e1 rfl) ?_
 rintro _ wq ⟨hT2,e1⟩
 replace hT:=keep_node hT hb1' hT2
 clear hT2
 have n1:b1'≠bm:=fun h=>by have:=gm.mkr.lt;omega
 have n1':b1'≠b4:=fun h=>by obtain ⟨_,_,hc⟩:=gm.blk;have:=hc.lt;omega
 replace gm:=gm.up hT
 replace s0:=s0.up hT
 replace e0:=e0.up hT
 replace s1:=s1.up hT
 clear hT hb1'
 refine W ?_
 refine WC_drawn 9 ([b4,bm]) [] [(0,1),(1,1),(2,0),(3,0),(4,0),(5,2),(6,2),(7,2),(8,2)] rfl mixed (by kernel_rfl) (by kernel_rfl) (by kernel_rfl) (fun w1 hS1=>?_)
 have hT:=hS1
 replace gm:=gm.up hT
 replace s0:=s0.up hT
 replace e0:=e0.up hT
 replace s1:=s1.up hT
 replace e1:=e1.up hT
 clear hT hS1
 refine WD_read rfl trivial (fun w' hS'=>PR_load_blkA rfl rfl (e0.ext hS' (by simp;exact ⟨n0',n0⟩)) rfl) rfl ?_
 refine WD_read rfl trivial (fun w' hS'=>PR_load_blkA rfl rfl (e1.ext hS' (by simp;exact ⟨n1',n1⟩)) rfl) rfl ?_
 refine D ?_
 refine WD_eff rfl trivial (OE_call rfl (evs2 rfl rfl) ((ih.2.2) (b4 :: bm :: X) _ bm lv l _ _ (by omega) gm.mkr gm.sl hl (by omega) gm.hX)) (fun _ _ h=>by obtain ⟨_,_,_,_,_,_,h⟩:=h;exact h.mono (by simp)) rfl ?_
 rintro _ wq ⟨y2,i2,⟨k2,rfl,s2⟩,g2,hm,hi2,hS⟩
 obtain ⟨p2,c2,rfl,-⟩:=id s2
 replace gm:=gm.nxt hm hS
 replace s0:=s0.ext hS (by simp) (fun _ h=>.inl h)
 replace e0:=e0.ext hS (by simp;exact n0)
 replace s1:=s1.ext hS (by simp) (fun _ h=>.inl h)
 replace e1:=e1.ext hS (by simp;exact n1)
 clear hm hS
 refine D ?_
 refine WD_eff rfl trivial (OE_buildSlice (vs:=[(0,.agg #[.int .i64 y0.kind,.int .i64 y0.num,str y0.word,.slice p0 y0.kids.length c0]),(1,.agg #[.int .i64 y1.kind,.int .i64 y1.num,str y1.word,.slice p1 y1.kids.length c1]),(2,.agg #[.int .i64 y2.kind,.int .i64 y2.num,str y2.word,.slice p2 y2.kids.length c2])]) rfl (buildSN3 _ _ _ _ _ _ _ _ _ _ _ _ _ _ _ _ _ _)) (fun _ _ h=>(NewSl.stp h).mono (by simp)) rfl ?_
 rintro bv wq hN
 have hbv:SlV (b4 :: bm :: X) wq bv [y0,y1,y2]:=hN.slvG (css:=[ndC y0 _,ndC y1 _,ndC y2 _]) gm.hX rfl rfl rfl (reps3 s0 s1 s2) (by simp [maxLen])
 have hT:=NewSl.stp hN
 clear hN
 replace gm:=gm.up hT
 clear hT
 refine D ?_
 refine WD_eff rfl trivial (OE_call rfl (evs3 rfl rfl rfl) (node13_any (b4 :: bm :: X) 9 [] bv [y0,y1,y2] _ gm.hX hbv)) (fun _ _ h=>h.2.mono (by simp)) rfl ?_
 rintro _ wq ⟨⟨ky,rfl,hy⟩,hT⟩
 replace gm:=gm.up hT
 clear hT hbv
 refine D ?_
 obtain ⟨cs,hcl,hcb⟩:=gm.blk
 refine WD_eff0 rfl trivial (OE_storeA (us:=ndC (.mk 9 0 [] [y0,y1,y2]) _) rfl rfl rfl rfl (ndC_one (x:=(.mk 9 0 [] [y0,y1,y2])) hy) hcb hcl.symm) (fun _ _ h=>h.1.mono (by simp)) ?_
 rintro _ wz ⟨hz,hbz⟩
 refine D ?_
 refine W ?_
 refine WQ_retc rfl rfl rfl hbz rfl ?_
 have hf:=gm.fin (y:=(.mk 9 0 [] [y0,y1,y2])) hS0 hb4 hy hz
 exact .mk ⟨_,_,hf.1,.cond _ _ _ _ _ (by decide) g0 g1 g2,hf.2.1,by omega,hf.2.2⟩
 obtain ⟨e,rfl⟩:∃ e,d=e+1:=⟨d - 1,by omega⟩
 replace ih:=ih e rfl
 have hsp:=szD_pos e
 repeat'(first|refine W1 ?_|omega|refine VG ?_ ?_<;>intro hg|refine VC ?_ ?_<;>intro hc)
 refine W ?_
 refine CL rfl (evs2 rfl rfl) rfl ((ih.2.2) (b4 :: bm :: X) _ bm lv l _ _ (by omega) gm.mkr gm.sl hl (by omega) gm.hX) ?_
 rintro _ wq ⟨y0,i0,⟨k0,rfl,s0⟩,g0,hm,hi0,hS⟩
 obtain ⟨p0,c0,rfl,-⟩:=id s0
 replace gm:=gm.nxt hm hS
 clear hm hS
 refine WL_eff OE_alloc rfl ?_
 rintro _ wq ⟨b0',rfl,hb0',e0,hT⟩
 refine WL_eff0 (OE_storeA (us:=ndC y0 _) rfl rfl rfl rfl (ndC_one s0) e0 rfl) ?_
 rintro _ wq ⟨hT2,e0⟩
 replace hT:=keep_node hT hb0' hT2
 clear hT2
 have n0:b0'≠bm:=fun h=>by have:=gm.mkr.lt;omega
 have n0':b0'≠b4:=fun h=>by obtain ⟨_,_,hc⟩:=gm.blk;have:=hc.lt;omega
 replace gm:=gm.up hT
 replace s0:=s0.up hT
 clear hT hb0'
 refine W ?_
 refine WL_eff (OE_buildSlice (vs:=[(0,str [100,97,121,115]),(1,str [100,97,121,115]),(2,str [99,111,117,114,116,100,97,121,115]),(3,str [119,101,101,107,115]),(4,str [109,111,110,116,104,115])]) rfl (bS5 _ _ _ _ _)) rfl ?_
 rintro wv wq hN
 have hws:SlV [b4,bm] wq wv units5:=hN.slv (fun c hc=>gm.hX c (by simp at hc;rcases hc with rfl|rfl<;>simp)) rfl rfl (by decide)
 have hT:=NewSl.stp hN
 clear hN
 replace gm:=gm.up hT
 replace s0:=s0.up hT
 replace e0:=e0.up hT
 clear hT
 refine W ?_
 refine CL rfl (evs2 rfl rfl) rfl (Next3_any bm lv l _ 5 _ (by decide) (by omega) gm.mkr gm.sl hl) ?_
 rintro _ wq ⟨q',rfl,hq',hm,hS⟩
 replace gm:=gm.nxt hm hS
 replace s0:=s0.ext hS (by simp) (fun _ h=>.inl h)
 replace e0:=e0.ext hS (by simp;exact n0)
 replace hws:=hws.ext hS (by simp) (fun _ h=>.inl h)
 clear hm hS
 have hqn:q'<units5.length:=by show q'<5;omega
 have hu:=units5_mem _ (List.getElem_mem hqn)
 refine W ?_
 clear hws
 refine WC_drawn 13 ([b4,bm]) [] [(0,0),(4,0),(5,1),(6,0),(7,0),(8,0),(1,2),(2,0),(3,0),(9,2),(10,2),(11,2),(12,2)] rfl mixed (by kernel_rfl) (by kernel_rfl) (by kernel_rfl) (fun w1 hS1=>?_)
 have hT:=hS1
 replace gm:=gm.up hT
 replace s0:=s0.up hT
 replace e0:=e0.up hT
 clear hT hS1
 refine D ?_
 refine WD_eff rfl trivial (OE_call rfl (evs2 rfl rfl) (Next3_any bm lv l _ 4 _ (by decide) (by omega) gm.mkr gm.sl hl)) (fun _ _ h=>h.choose_spec.2.2.2.mono (by simp)) rfl ?_
 rintro _ wq ⟨q4,rfl,hq4,hm,hS⟩
 replace gm:=gm.nxt hm hS
 replace s0:=s0.ext hS (by simp) (fun _ h=>.inl h)
 replace e0:=e0.ext hS (by simp;exact n0)
 clear hm hS
 refine D ?_
 refine WD_eff rfl trivial (OE_call rfl (evs2 rfl rfl) ((ih.1) (b4 :: bm :: X) _ bm lv l _ _ (by omega) gm.mkr gm.sl hl (by omega) gm.hX)) (fun _ _ h=>by obtain ⟨_,_,_,_,_,_,h⟩:=h;exact h.mono (by simp)) rfl ?_
 rintro _ wq ⟨y1,i1,⟨k1,rfl,s1⟩,g1,hm,hi1,hS⟩
 obtain ⟨p1,c1,rfl,-⟩:=id s1
 replace gm:=gm.nxt hm hS
 replace s0:=s0.ext hS (by simp) (fun _ h=>.inl h)
 replace e0:=e0.ext hS (by simp;exact n0)
 clear hm hS
 refine D ?_
 refine WD_eff rfl trivial (OE_buildSlice (vs:=[(0,.agg #[.int .i64 y0.kind,.int .i64 y0.num,str y0.word,.slice p0 y0.kids.length c0]),(1,.agg #[.int .i64 y1.kind,.int .i64 y1.num,str y1.word,.slice p1 y1.kids.length c1])]) rfl (buildSN2 _ _ _ _ _ _ _ _ _ _ _ _)) (fun _ _ h=>(NewSl.stp h).mono (by simp)) rfl ?_
 rintro bv wq hN
 have hbv:SlV (b4 :: bm :: X) wq bv [y0,y1]:=hN.slvG (css:=[ndC y0 _,ndC y1 _]) gm.hX rfl rfl rfl (reps2 s0 s1) (by simp [maxLen])
 have hT:=NewSl.stp hN
 clear hN
 replace gm:=gm.up hT
 clear hT
 refine D ?_
 refine WD_eff rfl trivial (OE_call rfl (evs3 rfl rfl rfl) (node13_any (b4 :: bm :: X) (7+(q4:Int) / 3) units5[q'] bv [y0,y1] _ gm.hX hbv)) (fun _ _ h=>h.2.mono (by simp)) rfl ?_
 rintro _ wq ⟨⟨ky,rfl,hy⟩,hT⟩
 replace gm:=gm.up hT
 clear hT hbv
 refine D ?_
 obtain ⟨cs,hcl,hcb⟩:=gm.blk
 refine WD_eff0 rfl trivial (OE_storeA (us:=ndC (.mk (7+(q4:Int) / 3) 0 units5[q'] [y0,y1]) _) rfl rfl rfl rfl (ndC_one (x:=(.mk (7+(q4:Int) / 3) 0 units5[q'] [y0,y1])) hy) hcb hcl.symm) (fun _ _ h=>h.1.mono (by simp)) ?_
 rintro _ wz ⟨hz,hbz⟩
 refine D ?_
 refine W ?_
 refine WQ_retc rfl rfl rfl hbz rfl ?_
 have hf:=gm.fin (y:=(.mk (7+(q4:Int) / 3) 0 units5[q'] [y0,y1])) hS0 hb4 hy hz
 exact .mk ⟨_,_,hf.1,.move _ _ _ _ _ (by omega) hu g0 g1,hf.2.1,by omega,hf.2.2⟩
open Go Go.Eng Go.RowKit Go.Proofs
theorem Leap8_any (y:Int) (w:World) (h0:0≤y) (h1:y≤100000):Calls Tryz.prog 297 #[.int .i64 y] w (Ret fun r w'=>r=.bool (leapM y)∧w'=w):=by
 unfold leapM
 refine calls_of_WC1 (n:=16) Tryz.func297 rfl rfl rfl ?_
 repeat'(first|refine W1 ?_|omega|refine VG ?_ ?_<;>intro hg|refine VC ?_ ?_<;>intro hc)
 all_goals refine WR ?_
 all_goals refine .mk ⟨?_,rfl⟩
 all_goals congr 1
 all_goals (first|done|(rw [Bool.eq_iff_iff];simp;omega)|(simp [*]))
theorem Length8_any (y m:Int) (w:World) (h0:0≤y) (h1:y≤100000):Calls Tryz.prog 264 #[.int .i64 y,.int .i64 m] w (Ret fun r w'=>r=.int .i64 (lengthM y m)∧w'=w):=by
 unfold lengthM
 by_cases hm:m<1∨12<m
 · rw [if_pos hm]
   refine calls_of_WC2 (n:=23) Tryz.func264 rfl rfl rfl ?_
   repeat'(first|refine W1 ?_|omega|refine VG ?_ ?_<;>intro hg|refine VC ?_ ?_<;>intro hc)
   all_goals first
    | omega
    | (refine WR ?_
       exact .mk ⟨rfl,rfl⟩)
 rw [if_neg hm]
 by_cases h2:m=2
 subst h2
 rw [if_pos rfl]
 refine calls_of_WC2 (n:=23) Tryz.func264 rfl rfl rfl ?_
 focus repeat'(first|refine W1 ?_|omega|refine VG ?_ ?_<;>intro hg|refine VC ?_ ?_<;>intro hc)
 refine CL rfl (evs1 rfl) rfl (Leap8_any y _ h0 h1) ?_
 rintro _ _ ⟨rfl,rfl⟩
 cases leapM y
 refine W ?_
 refine WR ?_
 exact .mk ⟨rfl,rfl⟩
 refine W ?_
 refine WR ?_
 exact .mk ⟨rfl,rfl⟩
 rw [if_neg h2]
 by_cases h4:m=4∨m=6∨m=9∨m=11
 · rw [if_pos h4]
   refine calls_of_WC2 (n:=23) Tryz.func264 rfl rfl rfl ?_
   rcases h4 with rfl|rfl|rfl|rfl
   all_goals
    repeat'(first|refine W1 ?_|omega|refine VG ?_ ?_<;>intro hg|refine VC ?_ ?_<;>intro hc)
    refine WR ?_
    exact .mk ⟨rfl,rfl⟩
 · rw [if_neg h4]
   refine calls_of_WC2 (n:=23) Tryz.func264 rfl rfl rfl ?_
   have h5:m=1∨m=3∨m=5∨m=7∨m=8∨m=10∨m=12:=by omega
   rcases h5 with rfl|rfl|rfl|rfl|rfl|rfl|rfl
   all_goals
    repeat'(first|refine W1 ?_|omega|refine VG ?_ ?_<;>intro hg|refine VC ?_ ?_<;>intro hc)
    refine WR ?_
    exact .mk ⟨rfl,rfl⟩
theorem start8_any (y:Int) (w:World) (h0:1≤y) (h1:y≤100000):Calls Tryz.prog 292 #[.int .i64 y] w (Ret fun r w'=>r=.int .i64 (startY y)∧w'=w):=by
 refine calls_of_WC1 (n:=17) Tryz.func292 rfl rfl rfl ?_
 repeat'(first|refine W1 ?_|omega|refine VG ?_ ?_<;>intro hg|refine VC ?_ ?_<;>intro hc)
 refine WR ?_
 exact .mk ⟨rfl,rfl⟩
abbrev datC (y m d:Int):List Value:=[.int .i64 y,.int .i64 m,.int .i64 d]
theorem buildDt2 (y m:Int) (w:World):(Instr.build 291 #[(0,.int .i64 y),(1,.int .i64 m)]).run Tryz.prog w=.ok (.agg #[.int .i64 y,.int .i64 m,.int .i64 0]) w:=by kernel_rfl
theorem Of8_any (n:Int) (w:World) (h0:0≤n) (h1:n≤3652058):Calls Tryz.prog 252 #[.int .i64 n] w (Ret fun r w'=>r=.tuple #[datV (ofM n).y (ofM n).m (ofM n).d,.int .i64 0]∧Stp [] w w'):=by
 obtain ⟨K,hK,hm,hy1,hy2,hn,hd1,hd2,hs1,hs2⟩:=ofM_parts h0 h1
 generalize (ofM n).y=Y at *
 generalize (ofM n).m=M at *
 generalize (ofM n).d=D at *
 subst hm
 refine calls_of_WC1 (n:=54) Tryz.func252 rfl rfl rfl ?_
 refine W ?_
 refine WL_eff OE_alloc rfl ?_
 rintro _ w1 ⟨b2,rfl,hb2,e2,hS⟩
 have hb2w:=hS.size
 repeat'(first|refine W1 ?_|omega|refine VG ?_ ?_<;>intro hg|refine VC ?_ ?_<;>intro hc)
 refine WL_build (vs:=[(0,.int .i64 _),(1,.int .i64 _)]) rfl (buildDt2 _ _) rfl ?_
 refine WL_eff OE_alloc rfl ?_
 rintro _ w2 ⟨b4,rfl,hb4,e4',hT⟩
 have n2:b4≠b2:=by have:=e2.lt;omega
 replace e2:=e2.up hT
 replace hS:=hS.trans hT
 refine WL_eff0 (OE_storeA (us:=datC (n / 366+1) 1 0) rfl rfl rfl rfl (by simp;exact ⟨rfl,rfl,rfl⟩) e4' rfl) ?_
 rintro _ w3 ⟨hT,e4⟩
 replace e2:=e2.ext hT (by simpa using n2.symm)
 replace hS:=hS.own hT (fun c hc=>.inr (by simp at hc;omega))
 clear e4' hT
 have hlt4:=e4.lt
 have hY0:n / 366+1≤Y:=by
  have:startY (Y+1)≤366 * Y:=by unfold startY;omega
  omega
 have hYs:startY (n / 366+1)≤n:=Int.le_trans (startY_mono hY0) hs1
 refine W ?_
 refine WC_loop (σ:=Int) (fun y=>[(0,.int .i64 n),(2,.pointer (some ⟨b2,0,none⟩)),(4,.pointer (some ⟨b4,0,none⟩))]) (fun y w'=>n / 366+1≤y∧y≤Y∧Blk w' b4 291 (datC y 1 0)∧Blk w' b2 291 (datC 0 0 0)∧Stp [] w w') (fun y=>(Y - y).toNat) (n / 366+1) ⟨rfl,rfl,rfl,trivial⟩ ⟨Int.le_refl _,hY0,e4,e2,hS⟩ ?_
 clear e4 e2 hS
 rintro y w4 ⟨hy0,hyY,e4,e2,hS⟩
 refine W ?_
 refine CL rfl (evs1 rfl) rfl (start8_any (y+1) _ (by omega) (by omega)) ?_
 rintro _ _ ⟨rfl,rfl⟩
 by_cases hgo:startY (y+1)≤n
 have hlt:y<Y:=by
  by_cases e:y=Y
  subst e;omega
  omega
 focus repeat'(first|refine W1 ?_|omega|refine VG ?_ ?_<;>intro hg|refine VC ?_ ?_<;>intro hc)
 refine WL_eff0 (OE_store1 (u:=.int .i64 (y+1)) rfl rfl rfl rfl e4 (by simp)) ?_
 rintro _ w5 ⟨hT,e4'⟩
 replace e4':Blk w5 b4 291 (datC (y+1) 1 0):=e4'
 replace e2:=e2.ext hT (by simpa using n2.symm)
 replace hS:=hS.own hT (fun c hc=>.inr (by simp at hc;omega))
 refine W ?_
 exact WQ_loop (y+1) ⟨rfl,rfl,rfl,trivial⟩ ⟨by omega,by omega,e4',e2,hS⟩ (by omega)
 have hYe:y=Y:=by
  by_cases e:y=Y
  exact e
  have:=startY_mono (a:=y+1) (b:=Y) (by omega);omega
 subst hYe
 repeat'(first|refine W1 ?_|omega|refine VG ?_ ?_<;>intro hg|refine VC ?_ ?_<;>intro hc)
 refine CL rfl (evs1 rfl) rfl (start8_any y _ (by omega) (by omega)) ?_
 rintro _ _ ⟨rfl,rfl⟩
 have hsb:-1000000≤startY y∧startY y≤100000000:=by unfold startY;omega
 have hcb:∀ k:Nat,k≤11→0≤cumL y k∧cumL y k≤366:=fun k hk=>by
  have:=cumL_mono (y:=y) (a:=0) (b:=k) (by omega) (by omega)
  have:=cumL_mono (y:=y) (a:=k) (b:=12) (by omega) (by omega)
  have:=cum12 y
  have e0:cumL y 0=0:=rfl
  split at this<;>omega
 refine W ?_
 refine WC_loop (σ:=Nat) (fun k=>[(0,.int .i64 n),(2,.pointer (some ⟨b2,0,none⟩)),(4,.pointer (some ⟨b4,0,none⟩)),(5,.int .i64 (n - startY y - cumL y k))]) (fun k w'=>k≤K∧Blk w' b4 291 (datC y ((k:Int)+1) 0)∧Blk w' b2 291 (datC 0 0 0)∧Stp [] w w') (fun k=>K - k) 0 ⟨rfl,rfl,rfl,by rw [show n - startY y - cumL y 0=n - startY y by simp [cumL]];rfl,trivial⟩ ⟨Nat.zero_le _,e4,e2,hS⟩ ?_
 clear e4 e2 hS
 rintro k w5 ⟨hkK,e4,e2,hS⟩
 have hck:=hcb k (by omega)
 have hcK:=hcb K (by omega)
 have hlp:=lengthM_pos (y:=y) (k:=k) (by omega)
 have hll:=lengthM_le y ((k:Int)+1)
 refine W ?_
 refine CL rfl (evs2 rfl rfl) rfl (Length8_any y ((k:Int)+1) _ (by omega) (by omega)) ?_
 rintro _ _ ⟨rfl,rfl⟩
 by_cases hgo:k<K
 have hm1:=cumL_mono (y:=y) (a:=k+1) (b:=K) (by omega) (by omega)
 have hm2:cumL y (k+1)=cumL y k+lengthM y ((k:Int)+1):=rfl
 focus repeat'(first|refine W1 ?_|omega|refine VG ?_ ?_<;>intro hg|refine VC ?_ ?_<;>intro hc)
 refine CL rfl (evs2 rfl rfl) rfl (Length8_any y ((k:Int)+1) _ (by omega) (by omega)) ?_
 rintro _ _ ⟨rfl,rfl⟩
 refine W ?_
 refine WL_eff0 (OE_store1 (u:=.int .i64 ((k:Int)+1+1)) rfl rfl rfl rfl e4 (by simp)) ?_
 rintro _ w6 ⟨hT,e4'⟩
 replace e4':Blk w6 b4 291 (datC y (((k+1:Nat):Int)+1) 0):=e4'
 replace e2:=e2.ext hT (by simpa using n2.symm)
 replace hS:=hS.own hT (fun c hc=>.inr (by simp at hc;omega))
 refine W ?_
 exact WQ_loop (k+1) ⟨rfl,rfl,rfl,by rw [hm2,show n - startY y - (cumL y k+lengthM y ((k:Int)+1))=n - startY y - cumL y k - lengthM y ((k:Int)+1) by omega];rfl,trivial⟩ ⟨by omega,e4',e2,hS⟩ (by omega)
 obtain rfl:k=K:=by omega
 repeat'(first|refine W1 ?_|omega|refine VG ?_ ?_<;>intro hg|refine VC ?_ ?_<;>intro hc)
 refine WL_eff0 (OE_store1 (u:=.int .i64 (n - startY y - cumL y k+1)) rfl rfl rfl rfl e4 (by simp)) ?_
 rintro _ w6 ⟨hT,e4'⟩
 replace e4':Blk w6 b4 291 (datC y ((k:Int)+1) (n - startY y - cumL y k+1)):=e4'
 rw [show n - startY y - cumL y k+1=D by omega] at e4'
 replace e2:=e2.ext hT (by simpa using n2.symm)
 replace hS:=hS.own hT (fun c hc=>.inr (by simp at hc;omega))
 refine W ?_
 refine WL_eff0 (OE_storeA (us:=datC y ((k:Int)+1) D) rfl rfl rfl rfl (by simp;exact ⟨rfl,rfl,rfl⟩) e2 rfl) ?_
 rintro _ w7 ⟨hT,e2'⟩
 replace hS:=hS.own hT (fun c hc=>.inr (by simp at hc;omega))
 refine W ?_
 refine WQ_retct rfl rfl rfl e2' rfl rfl ?_
 exact .mk ⟨rfl,hS⟩
theorem gens3:∀ d,d≤6→GenQ 43 1 d∧GenQ 44 2 d∧GenQ 45 3 d:=by
 intro d
 induction d with
 | zero=>
   intro h
   have ih':∀ e,0=e+1→GenQ 43 1 e∧GenQ 44 2 e∧GenQ 45 3 e:=fun e he=>by omega
   exact ⟨Number3_step _ h ih',Bool3_step _ h ih',Date3_step _ h ih'⟩
 | succ d ih=>
   intro h
   have ih':∀ e,d+1=e+1→GenQ 43 1 e∧GenQ 44 2 e∧GenQ 45 3 e:=fun e he=>by
    obtain rfl:d=e:=by omega
    exact ih (by omega)
   exact ⟨Number3_step _ h ih',Bool3_step _ h ih',Date3_step _ h ih'⟩
theorem Ints01_any (X:List Nat) (v:Value) (l:List Int) (m:Nat) (w:World) (hs:SlV X w v l) (hl:∀ a∈l,I64 a) (hm:m≤100000):Calls Tryz.prog 40 #[v,.int .i64 (m:Int)] w (Ret fun r w'=>RowF 3 w w' r (l.take m)):=by
 have hmax:=hs.max
 refine calls_of_WC2 (n:=14) Tryz.func40 rfl rfl rfl ?_
 refine W ?_
 have hmin:min (l.length:Int) (m:Int)=((min l.length m:Nat):Int):=by omega
 refine WL_pure (PR_slice_h (r:=min l.length m) rfl hs rfl (by omega) (Nat.min_le_left _ _)) rfl ?_
 have hsl:SlV X w _ (l.take (min l.length m)):=hs.slc (Nat.zero_le (min l.length m)) (Nat.min_le_left _ _)
 refine WL_eff (OE_appF rfl (by decide) rfl rfl (RowF.nil (w:=w)) (ys:=l.take (min l.length m)) (hsl.wk (by simp [ob])) (by simp;omega) (by simp [maxLen];omega)) rfl ?_
 rintro v' w1 ⟨hrow,-,-⟩
 refine W ?_
 refine WR ?_
 refine .mk ?_
 have e:l.take (min l.length m)=l.take m:=by rw [Nat.min_comm,← List.take_take,List.take_length]
 rw [List.nil_append,e] at hrow
 exact hrow
theorem buildMk3 (p:Option Addr) (l c:Nat) (w:World):(Instr.build 103 #[(0,.slice p l c)]).run Tryz.prog w=.ok (.agg #[.slice p l c,.int .i64 0]) w:=by kernel_rfl
end Go.Proofs.YtjdjdoefppebkaaGreatDoor
namespace Go.Eng
open Go Go.RowKit Go.Proofs
section
variable {P:Program} {n:Nat} {fn:Func} {R:Ending→World→Prop} {e:Env} {w:World}
theorem WQ_retc3t {t1 t2 t3 b1 b2 b3 T1 T2 T3 S1 S2 S3 m1 m2 m3 s:Nat} {D1 D2 D3:TypeDesc} {c1 c2 c3:List Value} {v:Value} (hr:fn.results=#[.cell t1 S1,.cell t2 S2,.cell t3 S3,.tmp s])
 [hu1:Und P S1 D1] (hA1:aggB D1=true) [hs1:Siz P S1 m1] (ht1:look e t1=some (.pointer (some ⟨b1,0,none⟩))) (hb1:Blk w b1 T1 c1) (hl1:c1.length=m1)
 [hu2:Und P S2 D2] (hA2:aggB D2=true) [hs2:Siz P S2 m2] (ht2:look e t2=some (.pointer (some ⟨b2,0,none⟩))) (hb2:Blk w b2 T2 c2) (hl2:c2.length=m2)
 [hu3:Und P S3 D3] (hA3:aggB D3=true) [hs3:Siz P S3 m3] (ht3:look e t3=some (.pointer (some ⟨b3,0,none⟩))) (hb3:Blk w b3 T3 c3) (hl3:c3.length=m3)
 (hv:look e s=some v) (h:R (.returned (.tuple #[.agg c1.toArray,.agg c2.toArray,.agg c3.toArray,v])) w):WQ n (bodyPost P fn R) .ret e w:=
 ⟨fun a ha => ⟨ha.defers, .tuple #[.agg c1.toArray, .agg c2.toArray, .agg c3.toArray, v], by
   have h1:=ha.vals _ _ ht1
   have h2:=ha.vals _ _ ht2
   have h3:=ha.vals _ _ ht3
   have h4:=ha.vals _ _ hv
   rw [Array.getD_eq_getD_getElem?] at h1 h2 h3 h4
   simp [results,hr,h1,h2,h3,h4,asAddr,loadVar_blk hA1 hb1 hl1,loadVar_blk hA2 hb2 hl2,loadVar_blk hA3 hb3 hl3],h⟩⟩
end
end Go.Eng
namespace Go.Proofs.YtjdjdoefppebkaaGreatDoor
open Go Go.Eng Go.RowKit
theorem cal_one {c:Cal} {hv cv zo zs hr:Value} (h1:hv.oneCell'=true) (h2:cv.oneCell'=true) (ho:zo.oneCell'=true∧zs.oneCell'=true∧hr.oneCell'=true):∀ u∈calC c hv cv zo zs hr,u.oneCell'=true:=by
 obtain ⟨h3,h4,h5⟩:=ho
 intro u hu
 unfold calC at hu
 simp only [List.mem_cons,List.not_mem_nil,or_false] at hu
 rcases hu with rfl|rfl|rfl|rfl|rfl|rfl|rfl|rfl|rfl|rfl|rfl|rfl<;>first|rfl|assumption
theorem ev_one (ev:List Int):∀ u∈evC ev,u.oneCell'=true:=by
 intro u hu
 unfold evC at hu
 simp only [List.mem_cons,List.not_mem_nil,or_false] at hu
 rcases hu with rfl|rfl|rfl|rfl|rfl|rfl|rfl<;>rfl
abbrev caseA (v0 v1 v2:Value) (kd kz:Int):Value:=.agg #[v0,v1,v2,.int .i64 kd,.int .i64 kz]
theorem Made16_any (v0 v1 v2:Value) (l0 l1 l2:List Int) (kd kz:Int) (w:World) (h0:SlV [] w v0 l0) (h1:SlV [] w v1 l1) (h2:SlV [] w v2 l2) (hi0:∀ a∈l0,I64 a) (hi1:∀ a∈l1,I64 a) (hi2:∀ a∈l2,I64 a) (hkd:I64 kd) (hkz:I64 kz) (hL:LenG w) (hM:MovG w) :
 Calls Tryz.prog 12 #[caseA v0 v1 v2 kd kz] w (Ret fun r w'=>∃ (y:Nd) (t:Int) (ky:Value) (ev:List Int) (c:Cal) (hv cv zo zs hr:Value) (kn:Int),r=.tuple #[.agg (ndC y ky).toArray,evA' ev,calA c hv cv zo zs hr,.int .i64 kn]∧Gn t 4 y∧SlV [] w' ky y.kids∧EvOk ev∧CalV w' c hv cv zo zs hr∧(zo.oneCell'=true∧zs.oneCell'=true∧hr.oneCell'=true)∧CalSm c∧(739606≤kn∧kn<739686)∧Stp [] w w'):=by
 refine calls_of_WC1 (n:=48) Tryz.func12 rfl rfl rfl ?_
 refine W ?_
 refine WL_eff (OE_box rfl) rfl ?_
 rintro _ w1 ⟨b1,rfl,hb1,k1,hS⟩
 have gw1:=hS.size
 have lt1:=k1.lt
 replace k1:Blk w1 b1 24 [v0,v1,v2,.int .i64 kd,.int .i64 kz]:=k1
 refine WL_eff OE_alloc rfl ?_
 rintro _ w2 ⟨b2,rfl,hb2,k2,hT⟩
 replace k1:=k1.up hT
 replace hS:=hS.trans hT
 clear hT
 have lt2:=k2.lt
 refine WL_eff OE_alloc rfl ?_
 rintro _ w3 ⟨b3,rfl,hb3,k3,hT⟩
 replace k1:=k1.up hT
 replace k2:=k2.up hT
 replace hS:=hS.trans hT
 clear hT
 have lt3:=k3.lt
 refine WL_eff OE_alloc rfl ?_
 rintro _ w4 ⟨b4,rfl,hb4,k4,hT⟩
 replace k1:=k1.up hT
 replace k2:=k2.up hT
 replace k3:=k3.up hT
 replace hS:=hS.trans hT
 clear hT
 have lt4:=k4.lt
 have g1:w.heap.size≤b2∧w.heap.size≤b3∧w.heap.size≤b4:=by omega
 refine W ?_
 refine CL rfl (evs2 rfl rfl) rfl (Ints01_any [] v0 l0 60 _ (h0.up hS) hi0 (by decide)) ?_
 rintro lv w5 hrow0
 have hsl:=hrow0.slv (X:=[]) (by simp)
 have hT:=hrow0.2
 replace k1:=k1.up hT
 replace k2:=k2.up hT
 replace k3:=k3.up hT
 replace k4:=k4.up hT
 replace hS:=hS.trans hT
 clear hT hrow0
 have hl':∀ a∈l0.take 60,I64 a:=fun a ha=>hi0 a (List.mem_of_mem_take ha)
 generalize l0.take 60=l' at *
 obtain ⟨p,cc,rfl,-⟩:=id hsl
 refine W ?_
 refine WL_build (vs:=[(0,.slice p l'.length cc)]) rfl (buildMk3 _ _ _) rfl ?_
 have lt5:=k4.lt
 have g5:=hS.size
 refine WL_eff (OE_box rfl) rfl ?_
 rintro _ w6 ⟨bm,rfl,hbm,hmk,hT⟩
 replace hmk:Mk3 w6 bm (.slice p l'.length cc) 0:=hmk
 replace hsl:SlV [bm] w6 (.slice p l'.length cc) l':=hsl.ext hT (by simp) (fun b h=>.inr (by simp at h;omega))
 replace k1:=k1.up hT
 replace k2:=k2.up hT
 replace k3:=k3.up hT
 replace k4:=k4.up hT
 replace hS:=hS.trans hT
 have ltm:=hmk.lt
 clear hT
 refine W ?_
 refine CL rfl (evs2 rfl rfl) rfl (Around01_any kz 80 _ (by decide) hkz) ?_
 rintro _ w7 ⟨rfl,hT⟩
 have hrz:=around_range (if kz<0 then -(kz+1) else kz) 80 (by decide)
 generalize (if kz<0 then -(kz+1) else kz) % 80=z at hrz ⊢
 replace k1:=k1.up hT
 replace k2:=k2.up hT
 replace k3:=k3.up hT
 replace k4:=k4.up hT
 replace hmk:=hmk.up hT
 replace hsl:=hsl.up hT
 replace hS:=hS.trans hT
 clear hT
 refine W ?_
 refine CL rfl (evs1 rfl) rfl (Event16_any v1 l1 _ (h1.up hS) hi1) ?_
 rintro _ w8 ⟨ev,rfl,hev,hT⟩
 replace k1:=k1.up hT
 replace k2:=k2.up hT
 replace k3:=k3.up hT
 replace k4:=k4.up hT
 replace hmk:=hmk.up hT
 replace hsl:=hsl.up hT
 replace hS:=hS.trans hT
 clear hT
 refine W ?_
 have lt8:=hmk.lt
 refine WL_eff OE_alloc rfl ?_
 rintro _ w9 ⟨b8,rfl,hb8,k8,hT⟩
 have hq:=hT
 have hsl8:=hsl
 replace k1:=k1.up hT
 replace k2:=k2.up hT
 replace k3:=k3.up hT
 replace k4:=k4.up hT
 replace hmk:=hmk.up hT
 replace hsl:=hsl.up hT
 replace hS:=hS.trans hT
 clear hT
 refine W ?_
 refine WL_eff0 (OE_storeA (us:=evC ev) rfl rfl rfl rfl (ev_one _) k8 rfl) ?_
 rintro _ w10 ⟨hT,k8⟩
 have ne8:b1≠b8∧b2≠b8∧b3≠b8∧b4≠b8∧bm≠b8:=by omega
 have gw9:=hS.size
 replace k1:=k1.ext hT (by simpa using ne8.1)
 replace k2:=k2.ext hT (by simpa using ne8.2.1)
 replace k3:=k3.ext hT (by simpa using ne8.2.2.1)
 replace k4:=k4.ext hT (by simpa using ne8.2.2.2.1)
 replace hmk:=hmk.ext hT (by simpa using ne8.2.2.2.2)
 have gb8:w.heap.size≤b8:=by omega
 have lt9:=k8.lt
 replace hS:=hS.own hT (fun c hc=>.inr (by simp at hc;omega))
 replace hsl:=hsl8.up (hq.own hT (fun c hc=>.inr (by simp at hc;omega)))
 clear hT hsl8 hq
 refine W ?_
 refine CL rfl (evs1 rfl) rfl (Calendar11_any [bm,b2,b3,b4] v2 l2 _ (by have:=hmk.lt;have:=k2.lt;have:=k3.lt;have:=k4.lt;simp;omega) (h2.up hS) hi2) ?_
 rintro _ w11 ⟨c,hv,cv,zo,zs,hr,rfl,ho,hok,hhv,hcv,hT⟩
 replace k1:=k1.up hT
 replace k2:=k2.up hT
 replace k3:=k3.up hT
 replace k4:=k4.up hT
 replace hmk:=hmk.up hT
 replace hsl:=hsl.up hT
 replace k8:=k8.up hT
 replace hS:=hS.trans hT
 clear hT
 refine W ?_
 have lt11:=hmk.lt
 have lt11b:=k8.lt
 have hsl11:=hsl
 refine WL_eff OE_alloc rfl ?_
 rintro _ w12 ⟨b9,rfl,hb9,k9,hT⟩
 have hq:=hT
 replace k1:=k1.up hT
 replace k2:=k2.up hT
 replace k3:=k3.up hT
 replace k4:=k4.up hT
 replace hmk:=hmk.up hT
 replace k8:=k8.up hT
 replace hS:=hS.trans hT
 clear hT
 refine W ?_
 have gw12:=hS.size
 have ne9:b1≠b9∧b2≠b9∧b3≠b9∧b4≠b9∧bm≠b9∧b8≠b9:=by
  omega
 refine WL_eff0 (OE_storeA (us:=calC c hv cv zo zs hr) rfl rfl rfl rfl (cal_one hhv.one hcv.one ho) k9 rfl) ?_
 rintro _ w13 ⟨hT,k9⟩
 replace k1:=k1.ext hT (by simpa using ne9.1)
 replace k2:=k2.ext hT (by simpa using ne9.2.1)
 replace k3:=k3.ext hT (by simpa using ne9.2.2.1)
 replace k4:=k4.ext hT (by simpa using ne9.2.2.2.1)
 replace hmk:=hmk.ext hT (by simpa using ne9.2.2.2.2.1)
 replace k8:=k8.ext hT (by simpa using ne9.2.2.2.2.2)
 have hq2:=hq.own hT (fun c hc=>.inr (by simp at hc;omega))
 have gb9:w.heap.size≤b9:=by have:=hS.size;omega
 replace hS:=hS.own hT (fun c hc=>.inr (by simp at hc;omega))
 replace hsl:=hsl11.up hq2
 replace hhv:=hhv.up hq2
 replace hcv:=hcv.up hq2
 clear hT hsl11 hq hq2
 refine W ?_
 refine CL rfl (evs2 rfl rfl) rfl (Around01_any kd 4 _ (by decide) hkd) ?_
 rintro _ w14 ⟨rfl,hT⟩
 have hrk:=around_range (if kd<0 then -(kd+1) else kd) 4 (by decide)
 generalize (if kd<0 then -(kd+1) else kd) % 4=kk at hrk ⊢
 replace k1:=k1.up hT
 replace k2:=k2.up hT
 replace k3:=k3.up hT
 replace k4:=k4.up hT
 replace hmk:=hmk.up hT
 replace k8:=k8.up hT
 replace k9:=k9.up hT
 replace hsl:=hsl.up hT
 replace hhv:=hhv.up hT
 replace hcv:=hcv.up hT
 replace hS:=hS.trans hT
 clear hT
 have n8:b8∉[bm,b2,b3,b4]:=by simp;omega
 have n9:b9∉[bm,b2,b3,b4]:=by simp;omega
 have e23:b2≠b3∧b2≠b4∧b3≠b4∧b2≠bm∧b3≠bm∧b4≠bm:=by omega
 by_cases hk0:kk=0
 focus repeat'(first|refine W1 ?_|omega|refine VG ?_ ?_<;>intro hg|refine VC ?_ ?_<;>intro hc)
 refine WC_drawn 9 ([bm,b2,b3,b4]) [] [(0,0),(2,1),(3,1),(4,0),(1,2),(5,2),(6,2),(7,2),(8,0)] rfl mixed (by kernel_rfl) (by kernel_rfl) (by kernel_rfl) (fun w1 hS1=>?_)
 have hT:=hS1
 replace k1:=k1.up hT
 replace k2:=k2.up hT
 replace k3:=k3.up hT
 replace k4:=k4.up hT
 replace hmk:=hmk.up hT
 replace k8:=k8.up hT
 replace k9:=k9.up hT
 replace hsl:=hsl.up hT
 replace hhv:=hhv.up hT
 replace hcv:=hcv.up hT
 replace hS:=hS.trans hT
 clear hT
 clear hS1
 refine D ?_
 refine WD_eff rfl trivial (OE_call rfl (evs2 rfl rfl) ((gens3 4 (by decide)).1 [b2,b3,b4] _ bm _ l' 0 4 rfl hmk hsl hl' (by decide) (by have:=k2.lt;have:=k3.lt;have:=k4.lt;simp;omega))) (fun _ _ h=>(h.choose_spec.choose_spec.2.2.2.2).mono (by simp)) rfl ?_
 rintro _ w15 ⟨y,i',⟨ky,rfl,hky⟩,hgn,-,-,hT⟩
 replace k2:=k2.ext hT (by simp;omega)
 replace k3:=k3.ext hT (by simp;omega)
 replace k4:=k4.ext hT (by simp;omega)
 replace k8:=k8.ext hT (by simp;omega)
 replace k9:=k9.ext hT (by simp;omega)
 replace hhv:=hhv.ext (X':=[bm,b2,b3,b4]) hT (by simp) (fun _ h=>.inl h)
 replace hcv:=hcv.ext (X':=[bm,b2,b3,b4]) hT (by simp) (fun _ h=>.inl h)
 replace hS:=hS.own hT (fun c hc=>.inr (by simp at hc;omega))
 clear hT hmk hsl
 refine D ?_
 refine WD_eff0 rfl trivial (OE_storeA (us:=ndC y ky) rfl rfl rfl rfl (ndC_one hky) k2 rfl) (fun _ _ h=>h.1.mono (by simp)) ?_
 rintro _ w16 ⟨hT,k2⟩
 replace k3:=k3.ext hT (by simp;omega)
 replace k4:=k4.ext hT (by simp;omega)
 replace k8:=k8.ext hT (by simp;omega)
 replace k9:=k9.ext hT (by simp;omega)
 replace hky:=hky.ext (X':=[b2,b3,b4]) hT (by simp) (fun _ h=>.inl h)
 replace hhv:=hhv.ext (X':=[bm,b2,b3,b4]) hT (by simp) (fun _ h=>.inl h)
 replace hcv:=hcv.ext (X':=[bm,b2,b3,b4]) hT (by simp) (fun _ h=>.inl h)
 replace hS:=hS.own hT (fun c hc=>.inr (by simp at hc;omega))
 clear hT
 refine D ?_
 refine WD_eff0 rfl trivial (OE_storeA (us:=evC ev) rfl rfl rfl rfl (ev_one _) k3 rfl) (fun _ _ h=>h.1.mono (by simp)) ?_
 rintro _ w17 ⟨hT,k3⟩
 replace k2:=k2.ext hT (by simp;omega)
 replace k4:=k4.ext hT (by simp;omega)
 replace k9:=k9.ext hT (by simp;omega)
 replace hky:=hky.ext (X':=[b2,b3,b4]) hT (by simp) (fun _ h=>.inl h)
 replace hhv:=hhv.ext (X':=[bm,b2,b3,b4]) hT (by simp) (fun _ h=>.inl h)
 replace hcv:=hcv.ext (X':=[bm,b2,b3,b4]) hT (by simp) (fun _ h=>.inl h)
 replace hS:=hS.own hT (fun c hc=>.inr (by simp at hc;omega))
 clear hT
 refine D ?_
 refine WD_eff0 rfl trivial (OE_storeA (us:=calC c hv cv zo zs hr) rfl rfl rfl rfl (cal_one hhv.one hcv.one ho) k4 rfl) (fun _ _ h=>h.1.mono (by simp)) ?_
 rintro _ w18 ⟨hT,k4⟩
 replace k2:=k2.ext hT (by simp;omega)
 replace k3:=k3.ext hT (by simp;omega)
 replace hky:=hky.ext (X':=[b2,b3,b4]) hT (by simp) (fun _ h=>.inl h)
 replace hhv:=hhv.ext (X':=[bm,b2,b3,b4]) hT (by simp) (fun _ h=>.inl h)
 replace hcv:=hcv.ext (X':=[bm,b2,b3,b4]) hT (by simp) (fun _ h=>.inl h)
 replace hS:=hS.own hT (fun c hc=>.inr (by simp at hc;omega))
 clear hT
 refine D ?_
 refine W ?_
 refine WQ_retc3t rfl rfl rfl k2 rfl rfl rfl k3 rfl rfl rfl k4 rfl rfl ?_
 exact .mk ⟨y,_,ky,ev,c,hv,cv,zo,zs,hr,_,rfl,hgn,hky.wk (by simp),hev,⟨hhv.wk (by simp),hcv.wk (by simp),hL.up hS,hM.up hS,hok.ok⟩,ho,hok,(by omega),hS⟩
 by_cases hk1:kk=1
 focus repeat'(first|refine W1 ?_|omega|refine VG ?_ ?_<;>intro hg|refine VC ?_ ?_<;>intro hc)
 refine WC_drawn 9 ([bm,b2,b3,b4]) [] [(0,0),(2,1),(3,1),(4,0),(1,2),(5,2),(6,2),(7,2),(8,0)] rfl mixed (by kernel_rfl) (by kernel_rfl) (by kernel_rfl) (fun w1 hS1=>?_)
 have hT:=hS1
 replace k1:=k1.up hT
 replace k2:=k2.up hT
 replace k3:=k3.up hT
 replace k4:=k4.up hT
 replace hmk:=hmk.up hT
 replace k8:=k8.up hT
 replace k9:=k9.up hT
 replace hsl:=hsl.up hT
 replace hhv:=hhv.up hT
 replace hcv:=hcv.up hT
 replace hS:=hS.trans hT
 clear hT
 clear hS1
 refine D ?_
 refine WD_eff rfl trivial (OE_call rfl (evs2 rfl rfl) ((gens3 4 (by decide)).2.1 [b2,b3,b4] _ bm _ l' 0 4 rfl hmk hsl hl' (by decide) (by have:=k2.lt;have:=k3.lt;have:=k4.lt;simp;omega))) (fun _ _ h=>(h.choose_spec.choose_spec.2.2.2.2).mono (by simp)) rfl ?_
 rintro _ w15 ⟨y,i',⟨ky,rfl,hky⟩,hgn,-,-,hT⟩
 replace k2:=k2.ext hT (by simp;omega)
 replace k3:=k3.ext hT (by simp;omega)
 replace k4:=k4.ext hT (by simp;omega)
 replace k8:=k8.ext hT (by simp;omega)
 replace k9:=k9.ext hT (by simp;omega)
 replace hhv:=hhv.ext (X':=[bm,b2,b3,b4]) hT (by simp) (fun _ h=>.inl h)
 replace hcv:=hcv.ext (X':=[bm,b2,b3,b4]) hT (by simp) (fun _ h=>.inl h)
 replace hS:=hS.own hT (fun c hc=>.inr (by simp at hc;omega))
 clear hT hmk hsl
 refine D ?_
 refine WD_eff0 rfl trivial (OE_storeA (us:=ndC y ky) rfl rfl rfl rfl (ndC_one hky) k2 rfl) (fun _ _ h=>h.1.mono (by simp)) ?_
 rintro _ w16 ⟨hT,k2⟩
 replace k3:=k3.ext hT (by simp;omega)
 replace k4:=k4.ext hT (by simp;omega)
 replace k8:=k8.ext hT (by simp;omega)
 replace k9:=k9.ext hT (by simp;omega)
 replace hky:=hky.ext (X':=[b2,b3,b4]) hT (by simp) (fun _ h=>.inl h)
 replace hhv:=hhv.ext (X':=[bm,b2,b3,b4]) hT (by simp) (fun _ h=>.inl h)
 replace hcv:=hcv.ext (X':=[bm,b2,b3,b4]) hT (by simp) (fun _ h=>.inl h)
 replace hS:=hS.own hT (fun c hc=>.inr (by simp at hc;omega))
 clear hT
 refine D ?_
 refine WD_eff0 rfl trivial (OE_storeA (us:=evC ev) rfl rfl rfl rfl (ev_one _) k3 rfl) (fun _ _ h=>h.1.mono (by simp)) ?_
 rintro _ w17 ⟨hT,k3⟩
 replace k2:=k2.ext hT (by simp;omega)
 replace k4:=k4.ext hT (by simp;omega)
 replace k9:=k9.ext hT (by simp;omega)
 replace hky:=hky.ext (X':=[b2,b3,b4]) hT (by simp) (fun _ h=>.inl h)
 replace hhv:=hhv.ext (X':=[bm,b2,b3,b4]) hT (by simp) (fun _ h=>.inl h)
 replace hcv:=hcv.ext (X':=[bm,b2,b3,b4]) hT (by simp) (fun _ h=>.inl h)
 replace hS:=hS.own hT (fun c hc=>.inr (by simp at hc;omega))
 clear hT
 refine D ?_
 refine WD_eff0 rfl trivial (OE_storeA (us:=calC c hv cv zo zs hr) rfl rfl rfl rfl (cal_one hhv.one hcv.one ho) k4 rfl) (fun _ _ h=>h.1.mono (by simp)) ?_
 rintro _ w18 ⟨hT,k4⟩
 replace k2:=k2.ext hT (by simp;omega)
 replace k3:=k3.ext hT (by simp;omega)
 replace hky:=hky.ext (X':=[b2,b3,b4]) hT (by simp) (fun _ h=>.inl h)
 replace hhv:=hhv.ext (X':=[bm,b2,b3,b4]) hT (by simp) (fun _ h=>.inl h)
 replace hcv:=hcv.ext (X':=[bm,b2,b3,b4]) hT (by simp) (fun _ h=>.inl h)
 replace hS:=hS.own hT (fun c hc=>.inr (by simp at hc;omega))
 clear hT
 refine D ?_
 refine W ?_
 refine WQ_retc3t rfl rfl rfl k2 rfl rfl rfl k3 rfl rfl rfl k4 rfl rfl ?_
 exact .mk ⟨y,_,ky,ev,c,hv,cv,zo,zs,hr,_,rfl,hgn,hky.wk (by simp),hev,⟨hhv.wk (by simp),hcv.wk (by simp),hL.up hS,hM.up hS,hok.ok⟩,ho,hok,(by omega),hS⟩
 focus repeat'(first|refine W1 ?_|omega|refine VG ?_ ?_<;>intro hg|refine VC ?_ ?_<;>intro hc)
 refine WC_drawn 9 ([bm,b2,b3,b4]) [] [(0,0),(2,1),(3,1),(4,0),(1,2),(5,2),(6,2),(7,2),(8,0)] rfl mixed (by kernel_rfl) (by kernel_rfl) (by kernel_rfl) (fun w1 hS1=>?_)
 have hT:=hS1
 replace k1:=k1.up hT
 replace k2:=k2.up hT
 replace k3:=k3.up hT
 replace k4:=k4.up hT
 replace hmk:=hmk.up hT
 replace k8:=k8.up hT
 replace k9:=k9.up hT
 replace hsl:=hsl.up hT
 replace hhv:=hhv.up hT
 replace hcv:=hcv.up hT
 replace hS:=hS.trans hT
 clear hT
 clear hS1
 refine D ?_
 refine WD_eff rfl trivial (OE_call rfl (evs2 rfl rfl) ((gens3 4 (by decide)).2.2 [b2,b3,b4] _ bm _ l' 0 4 rfl hmk hsl hl' (by decide) (by have:=k2.lt;have:=k3.lt;have:=k4.lt;simp;omega))) (fun _ _ h=>(h.choose_spec.choose_spec.2.2.2.2).mono (by simp)) rfl ?_
 rintro _ w15 ⟨y,i',⟨ky,rfl,hky⟩,hgn,-,-,hT⟩
 replace k2:=k2.ext hT (by simp;omega)
 replace k3:=k3.ext hT (by simp;omega)
 replace k4:=k4.ext hT (by simp;omega)
 replace k8:=k8.ext hT (by simp;omega)
 replace k9:=k9.ext hT (by simp;omega)
 replace hhv:=hhv.ext (X':=[bm,b2,b3,b4]) hT (by simp) (fun _ h=>.inl h)
 replace hcv:=hcv.ext (X':=[bm,b2,b3,b4]) hT (by simp) (fun _ h=>.inl h)
 replace hS:=hS.own hT (fun c hc=>.inr (by simp at hc;omega))
 clear hT hmk hsl
 refine D ?_
 refine WD_eff0 rfl trivial (OE_storeA (us:=ndC y ky) rfl rfl rfl rfl (ndC_one hky) k2 rfl) (fun _ _ h=>h.1.mono (by simp)) ?_
 rintro _ w16 ⟨hT,k2⟩
 replace k3:=k3.ext hT (by simp;omega)
 replace k4:=k4.ext hT (by simp;omega)
 replace k8:=k8.ext hT (by simp;omega)
 replace k9:=k9.ext hT (by simp;omega)
 replace hky:=hky.ext (X':=[b2,b3,b4]) hT (by simp) (fun _ h=>.inl h)
 replace hhv:=hhv.ext (X':=[bm,b2,b3,b4]) hT (by simp) (fun _ h=>.inl h)
 replace hcv:=hcv.ext (X':=[bm,b2,b3,b4]) hT (by simp) (fun _ h=>.inl h)
 replace hS:=hS.own hT (fun c hc=>.inr (by simp at hc;omega))
 clear hT
 refine D ?_
 refine WD_eff0 rfl trivial (OE_storeA (us:=evC ev) rfl rfl rfl rfl (ev_one _) k3 rfl) (fun _ _ h=>h.1.mono (by simp)) ?_
 rintro _ w17 ⟨hT,k3⟩
 replace k2:=k2.ext hT (by simp;omega)
 replace k4:=k4.ext hT (by simp;omega)
 replace k9:=k9.ext hT (by simp;omega)
 replace hky:=hky.ext (X':=[b2,b3,b4]) hT (by simp) (fun _ h=>.inl h)
 replace hhv:=hhv.ext (X':=[bm,b2,b3,b4]) hT (by simp) (fun _ h=>.inl h)
 replace hcv:=hcv.ext (X':=[bm,b2,b3,b4]) hT (by simp) (fun _ h=>.inl h)
 replace hS:=hS.own hT (fun c hc=>.inr (by simp at hc;omega))
 clear hT
 refine D ?_
 refine WD_eff0 rfl trivial (OE_storeA (us:=calC c hv cv zo zs hr) rfl rfl rfl rfl (cal_one hhv.one hcv.one ho) k4 rfl) (fun _ _ h=>h.1.mono (by simp)) ?_
 rintro _ w18 ⟨hT,k4⟩
 replace k2:=k2.ext hT (by simp;omega)
 replace k3:=k3.ext hT (by simp;omega)
 replace hky:=hky.ext (X':=[b2,b3,b4]) hT (by simp) (fun _ h=>.inl h)
 replace hhv:=hhv.ext (X':=[bm,b2,b3,b4]) hT (by simp) (fun _ h=>.inl h)
 replace hcv:=hcv.ext (X':=[bm,b2,b3,b4]) hT (by simp) (fun _ h=>.inl h)
 replace hS:=hS.own hT (fun c hc=>.inr (by simp at hc;omega))
 clear hT
 refine D ?_
 refine W ?_
 refine WQ_retc3t rfl rfl rfl k2 rfl rfl rfl k3 rfl rfl rfl k4 rfl rfl ?_
 exact .mk ⟨y,_,ky,ev,c,hv,cv,zo,zs,hr,_,rfl,hgn,hky.wk (by simp),hev,⟨hhv.wk (by simp),hcv.wk (by simp),hL.up hS,hM.up hS,hok.ok⟩,ho,hok,(by omega),hS⟩
theorem guardSp (op:BinOp) (x y:Operand) (a b:Spn) (w:World):(eqGuard op 111 x y (agg a) (agg b)).run Tryz.prog w=.ok () w:=by
 cases op<;>kernel_rfl
theorem neqSp (a b:Spn) (w:World):(binOp .neq 111 (agg a) (agg b)).run Tryz.prog w=.ok (.bool (decide (¬ a=b))) w:=by
 have h1:Program.stoodInHeld Tryz.prog 111=false:=by kernel_rfl
 obtain ⟨a1,a2⟩:=a
 obtain ⟨b1,b2⟩:=b
 simp [agg,Flat.enc,run_neq_struct,run_equalIn_struct,h1,Program.fieldsOf,Tryz.underlying111,Op.eqFields,part,Und.isAgg,aggB,run_equalIn_int w _ _ .i64 .i64 _ _ Tryz.underlying3]
 repeat' split
 all_goals simp_all
theorem SameSpans_any (va vb:Value) (xs ys:List Spn) (w:World) (ha:SlV [] w va xs) (hb:SlV [] w vb ys) :
 Calls Tryz.prog 49 #[va,vb] w (Ret fun r w'=>r=.bool (decide (xs=ys))∧Stp [] w w'):=by
 have hma:=ha.max
 have hmb:=hb.max
 refine calls_of_WC2 (n:=26) Tryz.func49 rfl rfl rfl ?_
 refine W ?_
 by_cases hl:xs.length=ys.length
 case neg=>
  repeat'(first|refine W1 ?_|omega|refine VG ?_ ?_<;>intro hg|refine VC ?_ ?_<;>intro hc)
  refine WR ?_
  exact .mk ⟨by congr 1;rw [eq_comm,decide_eq_false_iff_not];exact fun h=>hl (by rw [h]),Stp.refl _ _⟩
 repeat'(first|refine W1 ?_|omega|refine VG ?_ ?_<;>intro hg|refine VC ?_ ?_<;>intro hc)
 refine WC_loop (σ:=Nat) (fun j=>[(0,va),(1,vb),(4,.bool false),(5,.int .i64 (j:Int))]) (fun j w'=>j≤xs.length∧Stp [] w w'∧∀ i (h:i<xs.length),i<j→xs[i]=ys[i]'(by omega)) (fun j=>xs.length - j) 0 ⟨rfl,rfl,rfl,rfl,trivial⟩ ⟨Nat.zero_le _,Stp.refl _ _,fun i _ h=>absurd h (Nat.not_lt_zero _)⟩ ?_
 rintro j w2 ⟨hj,hS,heq⟩
 try dsimp only at hj heq ⊢
 replace ha:=ha.up hS
 replace hb:=hb.up hS
 by_cases hlt:j<xs.length
 have hlt':j<ys.length:=by omega
 focus repeat'(first|refine W1 ?_|omega|refine VG ?_ ?_<;>intro hg|refine VC ?_ ?_<;>intro hc)
 refine WC_drawn 9 [] [] [(0,0),(1,0),(2,0),(3,1),(4,0),(5,0),(6,0),(7,1),(8,0)] rfl mixed (by kernel_rfl) (by kernel_rfl) (by kernel_rfl) (fun w1 hS1=>?_)
 replace ha:=ha.up hS1
 replace hb:=hb.up hS1
 replace hS:=hS.trans hS1
 refine D ?_
 apply WD_op
 exact rfl
 refine WO_neqS (c:=xs[j]=ys[j]) trivial rfl rfl (fun w=>guardSp _ _ _ xs[j] ys[j] w) (by intro w;exact neqSp xs[j] ys[j] w) rfl ?_
 refine D ?_
 focus repeat'(first|refine W1 ?_|omega|refine VG ?_ ?_<;>intro hg|refine VC ?_ ?_<;>intro hc)
 refine WR ?_
 exact .mk ⟨by congr 1;rw [eq_comm,decide_eq_false_iff_not];exact fun h=>hc (by simp [h]),hS⟩
 have he:xs[j]=ys[j]:=Decidable.byContradiction hc
 have hk:∀ i (h:i<xs.length),i<j+1→xs[i]=ys[i]'(by omega):=fun i h hi=>by
  by_cases hij:i=j
  subst hij;exact he
  exact heq i h (by omega)
 exact WQ_loop (j+1) ⟨rfl,rfl,rfl,rfl,trivial⟩ ⟨hlt,hS,hk⟩ (Nat.sub_lt_sub_left hlt (Nat.lt_succ_self j))
 have hje:j=xs.length:=by omega
 subst hje
 focus repeat'(first|refine W1 ?_|omega|refine VG ?_ ?_<;>intro hg|refine VC ?_ ?_<;>intro hc)
 refine WR ?_
 exact .mk ⟨by congr 1;rw [eq_comm,decide_eq_true_eq];exact List.ext_getElem hl (fun i h h'=>heq i h h),hS⟩
structure FId where
 f:Nat
deriving DecidableEq
instance:Flat FId where
 k:=1
 enc:=fun x=>[fnV x.f]
 len:=fun _=>rfl
 one:=by intro x u hu;simp at hu;subst hu;rfl
def MapG {β:Type} [Flat β] (X:List Nat) (w:World) (r:Nat) (es:List (Str×List β)):Prop:=
 ∃ l:List (Str×Value),MapAt str w r l∧l.length=es.length∧∀ i (h:i<l.length) (h':i<es.length),l[i].1=es[i].1∧SlV (r :: X) w l[i].2 es[i].2
theorem MapG.up {β:Type} [Flat β] {X:List Nat} {w w':World} {r:Nat} {es:List (Str×List β)} (h:MapG X w r es) (hS:Stp [] w w'):MapG X w' r es:=by
 obtain ⟨l,h1,h2,h3⟩:=h
 exact ⟨l,h1.up hS,h2,fun i h h'=>⟨(h3 i h h').1,(h3 i h h').2.up hS⟩⟩
theorem OE_insertG {β:Type} [Flat β] {P:Program} {n:Nat} {e:Env} {w:World} {d:Option Nat} {ty:TypeId} {pos:String} {af:Array Edge} {g:Option (Nat×Bool)} {mt kt et r:Nat} {x y z:Operand} [hm:Und P mt (.map kt et)] [hk:Und P kt .string] {X:List Nat} {es:List (Str×List β)} {a:Str} {v:Value} {xs:List β} (hx:ev e x=some (.map (some r))) (hy:ev e y=some (str a)) (hz:ev e z=some v)
 (hr:MapG X w r es) (hv:SlV (r :: X) w v xs) (hn:∀ p∈es,¬ p.1=a):OE P n ⟨d,.insert mt x y z,ty,pos,af,g⟩ e w (fun _ w'=>MapG X w' r (es++[(a,xs)])∧Stp [r] w w'):=by
 obtain ⟨l,h1,h2,h3⟩:=hr
 have hfr:∀ p∈l,¬ p.1=a:=by
  intro p hp
  obtain ⟨i,hi,rfl⟩:=List.getElem_of_mem hp
  rw [(h3 i hi (by omega)).1]
  exact hn _ (List.getElem_mem _)
 refine (OE_insert (K:=inferInstance) hx hy hz h1 hfr).mono ?_
 rintro _ w' ⟨g1,g2⟩
 refine ⟨⟨_,g1,by simp [h2],fun i h h'=>?_⟩,g2⟩
 by_cases hi:i<l.length
 have hi':i<es.length:=by omega
 rw [List.getElem_append_left hi,List.getElem_append_left hi']
 exact ⟨(h3 i hi hi').1,(h3 i hi hi').2.on g2 (by simp)⟩
 have hil:i=l.length:=by simp at h;omega
 subst hil
 rw [List.getElem_append_right (Nat.le_refl _),List.getElem_append_right (by omega)]
 simp only [Nat.sub_self,h2,List.getElem_cons_zero]
 exact ⟨trivial,hv.on g2 (by simp)⟩
def getG {β:Type} (es:List (Str×List β)) (s:Str):List β:=match es.find? (fun p=>decide (p.1=s)) with|some p=>p.2|none=>[]
theorem MapG.get {β:Type} [Flat β] {X:List Nat} {w:World} {m:Nat} {es:List (Str×List β)} (h:MapG X w m es) (s:Str):∃ l:List (Str×Value),MapAt str w m l∧SlV X w (mget l s (.slice none 0 0)) (getG es s):=by
 obtain ⟨l,h1,h2,h3⟩:=h
 refine ⟨l,h1,?_⟩
 unfold mget getG
 have hf:(l.find? (fun p=>decide (p.1=s))=none∧es.find? (fun p=>decide (p.1=s))=none)∨∃ i,∃ (h:i<l.length) (h':i<es.length),l.find? (fun p=>decide (p.1=s))=some l[i]∧es.find? (fun p=>decide (p.1=s))=some es[i]:=by
  cases hq:l.find? (fun p=>decide (p.1=s)) with
  | none=>
    left
    refine ⟨rfl,?_⟩
    rw [List.find?_eq_none]
    intro p hp
    obtain ⟨i,hi,rfl⟩:=List.getElem_of_mem hp
    have:=List.find?_eq_none.1 hq l[i] (List.getElem_mem (by omega))
    rwa [(h3 i (by omega) hi).1] at this
  | some p=>
    right
    obtain ⟨hp,i,hi,rfl,hb⟩:=List.find?_eq_some_iff_getElem.1 hq
    refine ⟨i,hi,by omega,rfl,?_⟩
    rw [List.find?_eq_some_iff_getElem]
    refine ⟨by rw [← (h3 i hi (by omega)).1];exact hp,i,by omega,rfl,fun j hj=>?_⟩
    rw [← (h3 j (by omega) (by omega)).1]
    exact hb j hj
 rcases hf with ⟨e1,e2⟩|⟨i,h,h',e1,e2⟩
 rw [e1,e2]
 exact ⟨none,0,rfl,Nat.le_refl _,by simp [maxLen],fun _=>rfl,fun i h=>absurd h (Nat.not_lt_zero _)⟩
 rw [e1,e2]
 exact (h3 i h h').2.ext (Stp.refl [] w) (by simp) (fun b hb=>.inl (List.mem_cons_of_mem _ hb))
theorem buildSF1 (f:Nat) (w:World):(Instr.buildSlice 204 1 #[(0,fnV f)]).run Tryz.prog w=.ok (.slice (some ⟨w.heap.size,0,none⟩) 1 1) (w.alloc (.cells #[fnV f] 159)):=by kernel_rfl
theorem buildSF2 (f g:Nat) (w:World):(Instr.buildSlice 204 2 #[(0,fnV f),(1,fnV g)]).run Tryz.prog w=.ok (.slice (some ⟨w.heap.size,0,none⟩) 2 2) (w.alloc (.cells #[fnV f,fnV g] 159)):=by kernel_rfl
def tblF:List (Str×List FId):=[([43],[⟨139⟩]),([45],[⟨140⟩]),([42],[⟨141⟩]),([60],[⟨143⟩]),([60,61],[⟨144⟩]),([61],[⟨145⟩]),([62],[⟨144⟩,⟨146⟩]),([62,61],[⟨143⟩,⟨146⟩]),([33,61],[⟨145⟩,⟨146⟩]),([110,101,120,116],[⟨153⟩]),([112,114,101,118],[⟨154⟩]),([108,97,116,101,114],[⟨155⟩]),([101,97,114,108,105,101,114],[⟨156⟩]),([98,101,116,119,101,101,110],[⟨157⟩])]
def unitL:List (Str×Value):=[([100,97,121,115],fnV 149),([119,101,101,107,115],fnV 150),([109,111,110,116,104,115],fnV 151),([99,111,117,114,116,100,97,121,115],fnV 152)]
def unitN (s:Str):Nat:=if s=[100,97,121,115] then 149 else if s=[119,101,101,107,115] then 150 else if s=[109,111,110,116,104,115] then 151 else 152
theorem unit_get (s:Str) (hs:s∈units):mget unitL s .nilFunc=fnV (unitN s):=by
 simp only [units,List.mem_cons,List.not_mem_nil,or_false] at hs
 rcases hs with rfl|rfl|rfl|rfl<;>rfl
def opsV (k:Int) (s:Str):List FId:=if k=7∨k=8 then (if k=8 then [⟨142⟩,⟨unitN s⟩] else [⟨unitN s⟩]) else if k=5 then [if s=[110,111,116] then ⟨146⟩ else ⟨142⟩] else getG tblF s
set_option maxHeartbeats 1000000 in
theorem operations_any (X:List Nat) (k n:Int) (s:Str) (kv:Value) (w:World) (hX:∀ b∈X,b<w.heap.size) (hu:k=7∨k=8→s∈units) :
 Calls Tryz.prog 112 #[.agg #[.int .i64 k,.int .i64 n,str s,kv]] w (Ret fun r w'=>SlV X w' r (opsV k s)∧Stp [] w w'):=by
 refine calls_of_WC1 (n:=47) Tryz.func112 rfl rfl rfl ?_
 refine W ?_
 refine WL_eff (OE_box rfl) rfl ?_
 rintro _ w1 ⟨b1,rfl,hb1,hblk,hS⟩
 replace hblk:Blk w1 b1 27 [.int .i64 k,.int .i64 n,str s,kv]:=hblk
 unfold opsV
 by_cases h78:k=7∨k=8
 rw [if_pos h78]
 have hsu:=hu h78
 rcases h78 with rfl|rfl
 rw [(if_neg (by decide))]
 refine W ?_
 refine WL_eff (OE_makeMap str) rfl ?_
 rintro _ w2 ⟨m,rfl,hm,hmap,hS2⟩
 have hmb:b1<m:=by have:=hblk.lt;omega
 replace hblk:=hblk.up hS2
 have hmw:w.heap.size≤m:=by have:=hS.size;omega
 replace hS:=hS.trans hS2
 clear hS2
 refine WL_eff0 (OE_insert (a:=[100,97,121,115]) rfl rfl rfl hmap (by decide)) ?_
 clear hmap
 rintro _ w3 ⟨hmap,hT⟩
 replace hblk:=hblk.ext hT (by simp;omega)
 replace hS:=hS.own hT (fun c hc=>.inr (by simp at hc;omega))
 clear hT
 refine WL_eff0 (OE_insert (a:=[119,101,101,107,115]) rfl rfl rfl hmap (by decide)) ?_
 clear hmap
 rintro _ w3 ⟨hmap,hT⟩
 replace hblk:=hblk.ext hT (by simp;omega)
 replace hS:=hS.own hT (fun c hc=>.inr (by simp at hc;omega))
 clear hT
 refine WL_eff0 (OE_insert (a:=[109,111,110,116,104,115]) rfl rfl rfl hmap (by decide)) ?_
 clear hmap
 rintro _ w3 ⟨hmap,hT⟩
 replace hblk:=hblk.ext hT (by simp;omega)
 replace hS:=hS.own hT (fun c hc=>.inr (by simp at hc;omega))
 clear hT
 refine WL_eff0 (OE_insert (a:=[99,111,117,114,116,100,97,121,115]) rfl rfl rfl hmap (by decide)) ?_
 clear hmap
 rintro _ w3 ⟨hmap,hT⟩
 replace hblk:=hblk.ext hT (by simp;omega)
 replace hS:=hS.own hT (fun c hc=>.inr (by simp at hc;omega))
 clear hT
 have hmap2:MapAt str w3 m unitL:=hmap
 refine W ?_
 refine WL_pure (PR_lookup rfl rfl hmap2) rfl ?_
 rw [unit_get s hsu]
 refine W ?_
 have hz:=hS.size
 refine WL_eff (OE_buildSlice (vs:=[(0,fnV (unitN s))]) rfl (buildSF1 _)) rfl ?_
 rintro bv w4 hN
 refine W ?_
 refine WR ?_
 exact .mk ⟨hN.slv (fun b hb=>by have:=hX b hb;omega) rfl rfl (by simp [maxLen]),hS.trans (NewSl.stp hN)⟩
 rw [(if_pos rfl)]
 refine W ?_
 refine WL_eff (OE_makeMap str) rfl ?_
 rintro _ w2 ⟨m,rfl,hm,hmap,hS2⟩
 have hmb:b1<m:=by have:=hblk.lt;omega
 replace hblk:=hblk.up hS2
 have hmw:w.heap.size≤m:=by have:=hS.size;omega
 replace hS:=hS.trans hS2
 clear hS2
 refine WL_eff0 (OE_insert (a:=[100,97,121,115]) rfl rfl rfl hmap (by decide)) ?_
 clear hmap
 rintro _ w3 ⟨hmap,hT⟩
 replace hblk:=hblk.ext hT (by simp;omega)
 replace hS:=hS.own hT (fun c hc=>.inr (by simp at hc;omega))
 clear hT
 refine WL_eff0 (OE_insert (a:=[119,101,101,107,115]) rfl rfl rfl hmap (by decide)) ?_
 clear hmap
 rintro _ w3 ⟨hmap,hT⟩
 replace hblk:=hblk.ext hT (by simp;omega)
 replace hS:=hS.own hT (fun c hc=>.inr (by simp at hc;omega))
 clear hT
 refine WL_eff0 (OE_insert (a:=[109,111,110,116,104,115]) rfl rfl rfl hmap (by decide)) ?_
 clear hmap
 rintro _ w3 ⟨hmap,hT⟩
 replace hblk:=hblk.ext hT (by simp;omega)
 replace hS:=hS.own hT (fun c hc=>.inr (by simp at hc;omega))
 clear hT
 refine WL_eff0 (OE_insert (a:=[99,111,117,114,116,100,97,121,115]) rfl rfl rfl hmap (by decide)) ?_
 clear hmap
 rintro _ w3 ⟨hmap,hT⟩
 replace hblk:=hblk.ext hT (by simp;omega)
 replace hS:=hS.own hT (fun c hc=>.inr (by simp at hc;omega))
 clear hT
 have hmap2:MapAt str w3 m unitL:=hmap
 refine W ?_
 refine WL_pure (PR_lookup rfl rfl hmap2) rfl ?_
 rw [unit_get s hsu]
 refine W ?_
 have hz:=hS.size
 refine WL_eff (OE_buildSlice (vs:=[(0,fnV 142),(1,fnV (unitN s))]) rfl (buildSF2 _ _)) rfl ?_
 rintro bv w4 hN
 refine W ?_
 refine WR ?_
 exact .mk ⟨hN.slv (fun b hb=>by have:=hX b hb;omega) rfl rfl (by simp [maxLen]),hS.trans (NewSl.stp hN)⟩
 rw [if_neg h78]
 by_cases h5:k=5
 rw [if_pos h5]
 subst h5
 have hz:=hS.size
 by_cases hs:s=[110,111,116]
 rw [if_pos hs]
 subst hs
 refine W ?_
 refine WL_eff (OE_buildSlice (vs:=[(0,fnV 146)]) rfl (buildSF1 _)) rfl ?_
 rintro bv w4 hN
 refine W ?_
 refine WR ?_
 exact .mk ⟨hN.slv (fun b hb=>by have:=hX b hb;omega) rfl rfl (by simp [maxLen]),hS.trans (NewSl.stp hN)⟩
 rw [if_neg hs]
 have hd:decide (s=[110,111,116])=false:=decide_eq_false hs
 refine W ?_
 rw [hd]
 refine W ?_
 refine WL_eff (OE_buildSlice (vs:=[(0,fnV 142)]) rfl (buildSF1 _)) rfl ?_
 rintro bv w4 hN
 refine W ?_
 refine WR ?_
 exact .mk ⟨hN.slv (fun b hb=>by have:=hX b hb;omega) rfl rfl (by simp [maxLen]),hS.trans (NewSl.stp hN)⟩
 rw [if_neg h5]
 repeat'(first|refine W1 ?_|omega|refine VG ?_ ?_<;>intro hg|refine VC ?_ ?_<;>intro hc)
 refine WL_eff (OE_makeMap str) rfl ?_
 rintro _ w2 ⟨m,rfl,hm,hmap,hS2⟩
 have hmp:MapG X w2 m ([]:List (Str×List FId)):=⟨[],hmap,rfl,fun i h=>absurd h (Nat.not_lt_zero _)⟩
 have hml:=hmap.lt
 have hmb:b1<m:=by have:=hblk.lt;omega
 have hmw:w.heap.size≤m:=by have:=hS.size;omega
 have hXw:∀ b∈m :: X,b≤m:=fun b hb=>(List.mem_cons.1 hb).elim (fun h=>by omega) (fun h=>by have:=hX b h;omega)
 clear hmap
 replace hblk:=hblk.up hS2
 replace hS:=hS.trans hS2
 clear hS2
 refine WL_eff (OE_buildSlice (vs:=[(0,fnV 139)]) rfl (buildSF1 _)) rfl ?_
 rintro bv w2 hN
 have hbv:SlV (m :: X) w2 bv [(⟨139⟩:FId)]:=hN.slv (fun b hb=>by have:=hXw b hb;omega) rfl rfl (by simp [maxLen])
 have hS2:=NewSl.stp hN
 clear hN
 replace hmp:=hmp.up hS2
 have hml2:=hS2.size
 refine WL_eff0 (OE_insertG (a:=[43]) rfl rfl rfl hmp hbv (by decide)) ?_
 clear hmp
 rintro _ w3 ⟨hmp,hS3⟩
 have hml3:=hS3.size
 replace hml:=Nat.lt_of_lt_of_le (Nat.lt_of_lt_of_le hml hml2) hml3
 replace hblk:=(hblk.up hS2).ext hS3 (by simp;omega)
 replace hS:=(hS.trans hS2).own hS3 (fun b hb=>.inr (by simp at hb;omega))
 clear hS2 hS3 hbv hml2 hml3
 refine WL_eff (OE_buildSlice (vs:=[(0,fnV 140)]) rfl (buildSF1 _)) rfl ?_
 rintro bv w2 hN
 have hbv:SlV (m :: X) w2 bv [(⟨140⟩:FId)]:=hN.slv (fun b hb=>by have:=hXw b hb;omega) rfl rfl (by simp [maxLen])
 have hS2:=NewSl.stp hN
 clear hN
 replace hmp:=hmp.up hS2
 have hml2:=hS2.size
 refine WL_eff0 (OE_insertG (a:=[45]) rfl rfl rfl hmp hbv (by decide)) ?_
 clear hmp
 rintro _ w3 ⟨hmp,hS3⟩
 have hml3:=hS3.size
 replace hml:=Nat.lt_of_lt_of_le (Nat.lt_of_lt_of_le hml hml2) hml3
 replace hblk:=(hblk.up hS2).ext hS3 (by simp;omega)
 replace hS:=(hS.trans hS2).own hS3 (fun b hb=>.inr (by simp at hb;omega))
 clear hS2 hS3 hbv hml2 hml3
 refine WL_eff (OE_buildSlice (vs:=[(0,fnV 141)]) rfl (buildSF1 _)) rfl ?_
 rintro bv w2 hN
 have hbv:SlV (m :: X) w2 bv [(⟨141⟩:FId)]:=hN.slv (fun b hb=>by have:=hXw b hb;omega) rfl rfl (by simp [maxLen])
 have hS2:=NewSl.stp hN
 clear hN
 replace hmp:=hmp.up hS2
 have hml2:=hS2.size
 refine WL_eff0 (OE_insertG (a:=[42]) rfl rfl rfl hmp hbv (by decide)) ?_
 clear hmp
 rintro _ w3 ⟨hmp,hS3⟩
 have hml3:=hS3.size
 replace hml:=Nat.lt_of_lt_of_le (Nat.lt_of_lt_of_le hml hml2) hml3
 replace hblk:=(hblk.up hS2).ext hS3 (by simp;omega)
 replace hS:=(hS.trans hS2).own hS3 (fun b hb=>.inr (by simp at hb;omega))
 clear hS2 hS3 hbv hml2 hml3
 refine WL_eff (OE_buildSlice (vs:=[(0,fnV 143)]) rfl (buildSF1 _)) rfl ?_
 rintro bv w2 hN
 have hbv:SlV (m :: X) w2 bv [(⟨143⟩:FId)]:=hN.slv (fun b hb=>by have:=hXw b hb;omega) rfl rfl (by simp [maxLen])
 have hS2:=NewSl.stp hN
 clear hN
 replace hmp:=hmp.up hS2
 have hml2:=hS2.size
 refine WL_eff0 (OE_insertG (a:=[60]) rfl rfl rfl hmp hbv (by decide)) ?_
 clear hmp
 rintro _ w3 ⟨hmp,hS3⟩
 have hml3:=hS3.size
 replace hml:=Nat.lt_of_lt_of_le (Nat.lt_of_lt_of_le hml hml2) hml3
 replace hblk:=(hblk.up hS2).ext hS3 (by simp;omega)
 replace hS:=(hS.trans hS2).own hS3 (fun b hb=>.inr (by simp at hb;omega))
 clear hS2 hS3 hbv hml2 hml3
 refine WL_eff (OE_buildSlice (vs:=[(0,fnV 144)]) rfl (buildSF1 _)) rfl ?_
 rintro bv w2 hN
 have hbv:SlV (m :: X) w2 bv [(⟨144⟩:FId)]:=hN.slv (fun b hb=>by have:=hXw b hb;omega) rfl rfl (by simp [maxLen])
 have hS2:=NewSl.stp hN
 clear hN
 replace hmp:=hmp.up hS2
 have hml2:=hS2.size
 refine WL_eff0 (OE_insertG (a:=[60,61]) rfl rfl rfl hmp hbv (by decide)) ?_
 clear hmp
 rintro _ w3 ⟨hmp,hS3⟩
 have hml3:=hS3.size
 replace hml:=Nat.lt_of_lt_of_le (Nat.lt_of_lt_of_le hml hml2) hml3
 replace hblk:=(hblk.up hS2).ext hS3 (by simp;omega)
 replace hS:=(hS.trans hS2).own hS3 (fun b hb=>.inr (by simp at hb;omega))
 clear hS2 hS3 hbv hml2 hml3
 refine WL_eff (OE_buildSlice (vs:=[(0,fnV 145)]) rfl (buildSF1 _)) rfl ?_
 rintro bv w2 hN
 have hbv:SlV (m :: X) w2 bv [(⟨145⟩:FId)]:=hN.slv (fun b hb=>by have:=hXw b hb;omega) rfl rfl (by simp [maxLen])
 have hS2:=NewSl.stp hN
 clear hN
 replace hmp:=hmp.up hS2
 have hml2:=hS2.size
 refine WL_eff0 (OE_insertG (a:=[61]) rfl rfl rfl hmp hbv (by decide)) ?_
 clear hmp
 rintro _ w3 ⟨hmp,hS3⟩
 have hml3:=hS3.size
 replace hml:=Nat.lt_of_lt_of_le (Nat.lt_of_lt_of_le hml hml2) hml3
 replace hblk:=(hblk.up hS2).ext hS3 (by simp;omega)
 replace hS:=(hS.trans hS2).own hS3 (fun b hb=>.inr (by simp at hb;omega))
 clear hS2 hS3 hbv hml2 hml3
 refine WL_eff (OE_buildSlice (vs:=[(0,fnV 144),(1,fnV 146)]) rfl (buildSF2 _ _)) rfl ?_
 rintro bv w2 hN
 have hbv:SlV (m :: X) w2 bv [(⟨144⟩:FId),(⟨146⟩:FId)]:=hN.slv (fun b hb=>by have:=hXw b hb;omega) rfl rfl (by simp [maxLen])
 have hS2:=NewSl.stp hN
 clear hN
 replace hmp:=hmp.up hS2
 have hml2:=hS2.size
 refine WL_eff0 (OE_insertG (a:=[62]) rfl rfl rfl hmp hbv (by decide)) ?_
 clear hmp
 rintro _ w3 ⟨hmp,hS3⟩
 have hml3:=hS3.size
 replace hml:=Nat.lt_of_lt_of_le (Nat.lt_of_lt_of_le hml hml2) hml3
 replace hblk:=(hblk.up hS2).ext hS3 (by simp;omega)
 replace hS:=(hS.trans hS2).own hS3 (fun b hb=>.inr (by simp at hb;omega))
 clear hS2 hS3 hbv hml2 hml3
 refine WL_eff (OE_buildSlice (vs:=[(0,fnV 143),(1,fnV 146)]) rfl (buildSF2 _ _)) rfl ?_
 rintro bv w2 hN
 have hbv:SlV (m :: X) w2 bv [(⟨143⟩:FId),(⟨146⟩:FId)]:=hN.slv (fun b hb=>by have:=hXw b hb;omega) rfl rfl (by simp [maxLen])
 have hS2:=NewSl.stp hN
 clear hN
 replace hmp:=hmp.up hS2
 have hml2:=hS2.size
 refine WL_eff0 (OE_insertG (a:=[62,61]) rfl rfl rfl hmp hbv (by decide)) ?_
 clear hmp
 rintro _ w3 ⟨hmp,hS3⟩
 have hml3:=hS3.size
 replace hml:=Nat.lt_of_lt_of_le (Nat.lt_of_lt_of_le hml hml2) hml3
 replace hblk:=(hblk.up hS2).ext hS3 (by simp;omega)
 replace hS:=(hS.trans hS2).own hS3 (fun b hb=>.inr (by simp at hb;omega))
 clear hS2 hS3 hbv hml2 hml3
 refine WL_eff (OE_buildSlice (vs:=[(0,fnV 145),(1,fnV 146)]) rfl (buildSF2 _ _)) rfl ?_
 rintro bv w2 hN
 have hbv:SlV (m :: X) w2 bv [(⟨145⟩:FId),(⟨146⟩:FId)]:=hN.slv (fun b hb=>by have:=hXw b hb;omega) rfl rfl (by simp [maxLen])
 have hS2:=NewSl.stp hN
 clear hN
 replace hmp:=hmp.up hS2
 have hml2:=hS2.size
 refine WL_eff0 (OE_insertG (a:=[33,61]) rfl rfl rfl hmp hbv (by decide)) ?_
 clear hmp
 rintro _ w3 ⟨hmp,hS3⟩
 have hml3:=hS3.size
 replace hml:=Nat.lt_of_lt_of_le (Nat.lt_of_lt_of_le hml hml2) hml3
 replace hblk:=(hblk.up hS2).ext hS3 (by simp;omega)
 replace hS:=(hS.trans hS2).own hS3 (fun b hb=>.inr (by simp at hb;omega))
 clear hS2 hS3 hbv hml2 hml3
 refine WL_eff (OE_buildSlice (vs:=[(0,fnV 153)]) rfl (buildSF1 _)) rfl ?_
 rintro bv w2 hN
 have hbv:SlV (m :: X) w2 bv [(⟨153⟩:FId)]:=hN.slv (fun b hb=>by have:=hXw b hb;omega) rfl rfl (by simp [maxLen])
 have hS2:=NewSl.stp hN
 clear hN
 replace hmp:=hmp.up hS2
 have hml2:=hS2.size
 refine WL_eff0 (OE_insertG (a:=[110,101,120,116]) rfl rfl rfl hmp hbv (by decide)) ?_
 clear hmp
 rintro _ w3 ⟨hmp,hS3⟩
 have hml3:=hS3.size
 replace hml:=Nat.lt_of_lt_of_le (Nat.lt_of_lt_of_le hml hml2) hml3
 replace hblk:=(hblk.up hS2).ext hS3 (by simp;omega)
 replace hS:=(hS.trans hS2).own hS3 (fun b hb=>.inr (by simp at hb;omega))
 clear hS2 hS3 hbv hml2 hml3
 refine WL_eff (OE_buildSlice (vs:=[(0,fnV 154)]) rfl (buildSF1 _)) rfl ?_
 rintro bv w2 hN
 have hbv:SlV (m :: X) w2 bv [(⟨154⟩:FId)]:=hN.slv (fun b hb=>by have:=hXw b hb;omega) rfl rfl (by simp [maxLen])
 have hS2:=NewSl.stp hN
 clear hN
 replace hmp:=hmp.up hS2
 have hml2:=hS2.size
 refine WL_eff0 (OE_insertG (a:=[112,114,101,118]) rfl rfl rfl hmp hbv (by decide)) ?_
 clear hmp
 rintro _ w3 ⟨hmp,hS3⟩
 have hml3:=hS3.size
 replace hml:=Nat.lt_of_lt_of_le (Nat.lt_of_lt_of_le hml hml2) hml3
 replace hblk:=(hblk.up hS2).ext hS3 (by simp;omega)
 replace hS:=(hS.trans hS2).own hS3 (fun b hb=>.inr (by simp at hb;omega))
 clear hS2 hS3 hbv hml2 hml3
 refine WL_eff (OE_buildSlice (vs:=[(0,fnV 155)]) rfl (buildSF1 _)) rfl ?_
 rintro bv w2 hN
 have hbv:SlV (m :: X) w2 bv [(⟨155⟩:FId)]:=hN.slv (fun b hb=>by have:=hXw b hb;omega) rfl rfl (by simp [maxLen])
 have hS2:=NewSl.stp hN
 clear hN
 replace hmp:=hmp.up hS2
 have hml2:=hS2.size
 refine WL_eff0 (OE_insertG (a:=[108,97,116,101,114]) rfl rfl rfl hmp hbv (by decide)) ?_
 clear hmp
 rintro _ w3 ⟨hmp,hS3⟩
 have hml3:=hS3.size
 replace hml:=Nat.lt_of_lt_of_le (Nat.lt_of_lt_of_le hml hml2) hml3
 replace hblk:=(hblk.up hS2).ext hS3 (by simp;omega)
 replace hS:=(hS.trans hS2).own hS3 (fun b hb=>.inr (by simp at hb;omega))
 clear hS2 hS3 hbv hml2 hml3
 refine WL_eff (OE_buildSlice (vs:=[(0,fnV 156)]) rfl (buildSF1 _)) rfl ?_
 rintro bv w2 hN
 have hbv:SlV (m :: X) w2 bv [(⟨156⟩:FId)]:=hN.slv (fun b hb=>by have:=hXw b hb;omega) rfl rfl (by simp [maxLen])
 have hS2:=NewSl.stp hN
 clear hN
 replace hmp:=hmp.up hS2
 have hml2:=hS2.size
 refine WL_eff0 (OE_insertG (a:=[101,97,114,108,105,101,114]) rfl rfl rfl hmp hbv (by decide)) ?_
 clear hmp
 rintro _ w3 ⟨hmp,hS3⟩
 have hml3:=hS3.size
 replace hml:=Nat.lt_of_lt_of_le (Nat.lt_of_lt_of_le hml hml2) hml3
 replace hblk:=(hblk.up hS2).ext hS3 (by simp;omega)
 replace hS:=(hS.trans hS2).own hS3 (fun b hb=>.inr (by simp at hb;omega))
 clear hS2 hS3 hbv hml2 hml3
 refine WL_eff (OE_buildSlice (vs:=[(0,fnV 157)]) rfl (buildSF1 _)) rfl ?_
 rintro bv w2 hN
 have hbv:SlV (m :: X) w2 bv [(⟨157⟩:FId)]:=hN.slv (fun b hb=>by have:=hXw b hb;omega) rfl rfl (by simp [maxLen])
 have hS2:=NewSl.stp hN
 clear hN
 replace hmp:=hmp.up hS2
 have hml2:=hS2.size
 refine WL_eff0 (OE_insertG (a:=[98,101,116,119,101,101,110]) rfl rfl rfl hmp hbv (by decide)) ?_
 clear hmp
 rintro _ w3 ⟨hmp,hS3⟩
 have hml3:=hS3.size
 replace hml:=Nat.lt_of_lt_of_le (Nat.lt_of_lt_of_le hml hml2) hml3
 replace hblk:=(hblk.up hS2).ext hS3 (by simp;omega)
 replace hS:=(hS.trans hS2).own hS3 (fun b hb=>.inr (by simp at hb;omega))
 clear hS2 hS3 hbv hml2 hml3
 have hmp2:MapG X w3 m tblF:=hmp
 obtain ⟨l,hl,hsl⟩:=hmp2.get s
 refine W ?_
 refine WL_pure (PR_lookup rfl rfl hl) rfl ?_
 refine W ?_
 refine WR ?_
 exact .mk ⟨hsl,hS⟩
theorem buildSF7 (a b c d e f g:Str) (w:World):(Instr.buildSlice 119 7 #[(0,str a),(1,str b),(2,str c),(3,str d),(4,str e),(5,str f),(6,str g)]).run Tryz.prog w=.ok (.slice (some ⟨w.heap.size,0,none⟩) 7 7) (w.alloc (.cells #[str a,str b,str c,str d,str e,str f,str g] 9)):=by kernel_rfl
theorem names_ne:∀ i,i<7→∀ j,j<i→fieldNames.getD j []≠fieldNames.getD i []:=by decide +kernel
theorem names_at (i:Nat) (hi:i<fieldNames.length):fieldNames[i]=fieldNames.getD i []:=by simp [List.getD,hi]
theorem fieldNumber_any (i:Nat) (hi:i<7) (w:World):Calls Tryz.prog 111 #[str (fieldNames.getD i [])] w (Ret fun r w'=>r=.int .i64 (i:Int)∧Stp [] w w'):=by
 have hl7:fieldNames.length=7:=rfl
 refine calls_of_WC1 (n:=17) Tryz.func111 rfl rfl rfl ?_
 refine W ?_
 refine WL_eff (OE_buildSlice (vs:=[(0,str [100,97,121]),(1,str [115,101,114,118,101,100]),(2,str [101,120,116,114,97]),(3,str [98,121]),(4,str [116,111]),(5,str [99,111,117,114,116]),(6,str [97,109,111,117,110,116])]) rfl (buildSF7 _ _ _ _ _ _ _)) rfl ?_
 rintro sv w1 hN
 have hsv:SlV [] w1 sv fieldNames:=hN.slv (by simp) rfl rfl (by simp [maxLen,hl7])
 have hS:=NewSl.stp hN
 clear hN
 refine W ?_
 refine WC_loop (σ:=Nat) (fun q=>[(0,str (fieldNames.getD i [])),(5,sv),(6,.int .i64 (fieldNames.length:Int)),(7,.int .i64 (q:Int))]) (fun q w'=>q≤i∧w'=w1) (fun q=>7 - q) 0 ⟨rfl,rfl,rfl,rfl,trivial⟩ ⟨Nat.zero_le _,rfl⟩ ?_
 rintro q _ ⟨hq,rfl⟩
 have hql:q<fieldNames.length:=by omega
 have hqi:(q:Int)<(fieldNames.length:Int):=by omega
 by_cases hqe:q=i
 subst hqe
 focus repeat'(first|refine W1 ?_|omega|refine VG ?_ ?_<;>intro hg|refine VC ?_ ?_<;>intro hc)
 refine WR ?_
 exact .mk ⟨rfl,hS⟩
 rename_i hc
 exact absurd (names_at q hql) hc
 focus repeat'(first|refine W1 ?_|omega|refine VG ?_ ?_<;>intro hg|refine VC ?_ ?_<;>intro hc)
 rename_i hc
 exact absurd ((names_at q hql).symm.trans hc) (names_ne i hi q (by omega))
 exact WQ_loop (q+1) ⟨rfl,rfl,rfl,rfl,trivial⟩ ⟨by omega,rfl⟩ (by omega)
theorem OE_pr {P:Program} {n:Nat} {o:Oper} {e:Env} {w:World} {v:Value} (hp:PR P n o e w v):OE P n o e w (fun u w'=>u=v∧w'=w):=OE_value (fun a ha=>hp.h a ha) ⟨rfl,rfl⟩
def MK.keep (K:MK) (b:Nat) (o:Obj):MK:={ K with pr:=(b,o) :: K.pr }
section
variable {K:MK} {w w':World} {sv pv:Value} {st:List Int} {sp:List Spn} {at_ er:Int} {dn:Bool} {b:Nat} {o:Obj}
theorem KOk.keep (h:KOk K):KOk (K.keep b o):=⟨h.hols,h.clos,h.ozo,h.ozs,h.ohr,h.len,h.mov,h.bml,h.nkl,h.gl,h.cal,h.ev⟩
theorem Mch.keep (h:Mch K w sv pv st sp at_ er dn) (hb:w.heap[b]?=some o) (h1:b∉K.own) (h2:b∉ob sv) (h3:b∉ob pv):Mch (K.keep b o) w sv pv st sp at_ er dn:=
 ⟨h.blk, h.row, h.nt, h.nt0, h.ap, h.stp, fun p hp => by
   rcases List.mem_cons.1 hp with rfl|hp
   exact ⟨hb,h1,h2,h3⟩
   exact h.prot p hp⟩
theorem Mch.unkeep (h:Mch (K.keep b o) w sv pv st sp at_ er dn):Mch K w sv pv st sp at_ er dn:=
 ⟨h.blk,h.row,h.nt,h.nt0,h.ap,h.stp,fun p hp=>h.prot p (List.mem_cons_of_mem _ hp)⟩
theorem Mch.kept (h:Mch (K.keep b o) w sv pv st sp at_ er dn):w.heap[b]?=some o:=(h.prot (b,o) List.mem_cons_self).1
theorem Mch.nosp (hk:K.nk=none) (h:Mch K w sv pv st sp at_ er dn) {sp':List Spn}:Mch K w sv pv st sp' at_ er dn:=
 ⟨h.blk,h.row,(fun bs hb=>by rw [hk] at hb;cases hb),h.nt0,h.ap,h.stp,h.prot⟩
def ResE (K:MK) (w:World) (st:List Int) (at_:Int) (r:Int×Int):Prop:=∃ sv pv st2,Mch K w sv pv st2 [] at_ r.2 (decide (¬ r.2=0))∧(r.2=0→st2=st++[r.1])
theorem ResE.un {r:Int×Int} (h:ResE (K.keep b o) w st at_ r):ResE K w st at_ r:=by
 obtain ⟨sv,pv,st2,h1,h2⟩:=h
 exact ⟨sv,pv,st2,h1.unkeep,h2⟩
theorem Res.toE {r:Int×Int} (hk:K.nk=none) (h:Res K w st sp at_ r):ResE K w st at_ r:=by
 obtain ⟨sv,pv,st2,sp2,h1,h2⟩:=h
 exact ⟨sv,pv,st2,h1.nosp hk,fun h0=>(h2 h0).1⟩
theorem ResE.go {r:Int×Int} (h:ResE K w st at_ r) (he:r.2=0):∃ sv pv,Mch K w sv pv (st++[r.1]) [] at_ 0 false:=by
 obtain ⟨sv,pv,st2,h1,h2⟩:=h
 have:=h2 he
 subst this
 rw [he] at h1
 exact ⟨sv,pv,h1⟩
theorem ResE.stop {r:Int×Int} (h:ResE K w st at_ r) (he:¬ r.2=0):∃ sv pv st2,Mch K w sv pv st2 [] at_ r.2 true:=by
 obtain ⟨sv,pv,st2,h1,h2⟩:=h
 have hd:decide (¬ r.2=0)=true:=decide_eq_true he
 rw [hd] at h1
 exact ⟨sv,pv,st2,h1⟩
theorem ResE.of {v e:Int} (he:¬ e=0) {st2:List Int} (h:Mch K w sv pv st2 [] at_ e true):ResE K w st at_ (v,e):=by
 have hd:decide (¬ e=0)=true:=decide_eq_true he
 refine ⟨sv,pv,st2,?_,fun h0=>absurd h0 he⟩
 dsimp only
 rw [hd]
 exact h
end
theorem ndExt {X:List Nat} {w0 w:World} {v:Value} {l:List Nd} {i:Nat} (h:SlV X w0 v l) (hi:i<l.length) (hS:Stp X w0 w) :
 ∃ kv,SlV X w0 kv l[i].kids∧∀ w',Stp X w0 w'→∀ j u,[Value.int .i64 l[i].kind,.int .i64 l[i].num,str l[i].word,kv][j]?=some u→w'.cell? (elAddr v i 4 j)=some u:=by
 obtain ⟨kv,h1,h2⟩:=h.nd hi
 refine ⟨kv,h1,fun w' hS' j u hu=>?_⟩
 have hc:=h2 j u hu
 obtain ⟨p,c,rfl,hl,hm,hn,hcell⟩:=id h
 obtain ⟨b,o,cs,rfl,hb,hx,-⟩:=hcell i hi
 exact hS'.cell hx hc
def OVR (r:PRow):Prop:=(opsV r.k r.s).length=r.L.length∧(r.k=7∨r.k=8→r.s∈units)∧∀ i,i<r.L.length→((opsV r.k r.s).map fun x=>fnV x.f)[i]?=some (mget stepsL (r.L.getD i 0) .nilFunc)
theorem ovr0:OVR ⟨5,[45],[1],1,[8]⟩:=by
 refine ⟨by kernel_rfl,fun h=>by exfalso;revert h;decide,fun i hi=>?_⟩
 obtain rfl:i=0:=by have:i<1:=hi;omega
 kernel_rfl
theorem ovr1:OVR ⟨5,[110,111,116],[2],2,[12]⟩:=by
 refine ⟨by kernel_rfl,fun h=>by exfalso;revert h;decide,fun i hi=>?_⟩
 obtain rfl:i=0:=by have:i<1:=hi;omega
 kernel_rfl
theorem ovr2:OVR ⟨10,[110,101,120,116],[3],3,[19]⟩:=by
 refine ⟨by kernel_rfl,fun h=>by exfalso;revert h;decide,fun i hi=>?_⟩
 obtain rfl:i=0:=by have:i<1:=hi;omega
 kernel_rfl
theorem ovr3:OVR ⟨10,[112,114,101,118],[3],3,[20]⟩:=by
 refine ⟨by kernel_rfl,fun h=>by exfalso;revert h;decide,fun i hi=>?_⟩
 obtain rfl:i=0:=by have:i<1:=hi;omega
 kernel_rfl
theorem ovr4:OVR ⟨10,[108,97,116,101,114],[3,3],3,[21]⟩:=by
 refine ⟨by kernel_rfl,fun h=>by exfalso;revert h;decide,fun i hi=>?_⟩
 obtain rfl:i=0:=by have:i<1:=hi;omega
 kernel_rfl
theorem ovr5:OVR ⟨10,[101,97,114,108,105,101,114],[3,3],3,[22]⟩:=by
 refine ⟨by kernel_rfl,fun h=>by exfalso;revert h;decide,fun i hi=>?_⟩
 obtain rfl:i=0:=by have:i<1:=hi;omega
 kernel_rfl
theorem ovr6:OVR ⟨10,[98,101,116,119,101,101,110],[3,3],1,[23]⟩:=by
 refine ⟨by kernel_rfl,fun h=>by exfalso;revert h;decide,fun i hi=>?_⟩
 obtain rfl:i=0:=by have:i<1:=hi;omega
 kernel_rfl
theorem ovr7:OVR ⟨7,[100,97,121,115],[3,1],3,[15]⟩:=by
 refine ⟨by kernel_rfl,fun _=>by decide +kernel,fun i hi=>?_⟩
 obtain rfl:i=0:=by have:i<1:=hi;omega
 kernel_rfl
theorem ovr8:OVR ⟨7,[119,101,101,107,115],[3,1],3,[16]⟩:=by
 refine ⟨by kernel_rfl,fun _=>by decide +kernel,fun i hi=>?_⟩
 obtain rfl:i=0:=by have:i<1:=hi;omega
 kernel_rfl
theorem ovr9:OVR ⟨7,[109,111,110,116,104,115],[3,1],3,[17]⟩:=by
 refine ⟨by kernel_rfl,fun _=>by decide +kernel,fun i hi=>?_⟩
 obtain rfl:i=0:=by have:i<1:=hi;omega
 kernel_rfl
theorem ovr10:OVR ⟨7,[99,111,117,114,116,100,97,121,115],[3,1],3,[18]⟩:=by
 refine ⟨by kernel_rfl,fun _=>by decide +kernel,fun i hi=>?_⟩
 obtain rfl:i=0:=by have:i<1:=hi;omega
 kernel_rfl
theorem ovr11:OVR ⟨8,[100,97,121,115],[3,1],3,[8,15]⟩:=by
 refine ⟨by kernel_rfl,fun _=>by decide +kernel,fun i hi=>?_⟩
 have hi2:i=0∨i=1:=by have:i<2:=hi;omega
 rcases hi2 with rfl|rfl
 show _=_
 kernel_rfl
 show _=_
 kernel_rfl
theorem ovr12:OVR ⟨8,[119,101,101,107,115],[3,1],3,[8,16]⟩:=by
 refine ⟨by kernel_rfl,fun _=>by decide +kernel,fun i hi=>?_⟩
 have hi2:i=0∨i=1:=by have:i<2:=hi;omega
 rcases hi2 with rfl|rfl
 show _=_
 kernel_rfl
 show _=_
 kernel_rfl
theorem ovr13:OVR ⟨8,[109,111,110,116,104,115],[3,1],3,[8,17]⟩:=by
 refine ⟨by kernel_rfl,fun _=>by decide +kernel,fun i hi=>?_⟩
 have hi2:i=0∨i=1:=by have:i<2:=hi;omega
 rcases hi2 with rfl|rfl
 show _=_
 kernel_rfl
 show _=_
 kernel_rfl
theorem ovr14:OVR ⟨8,[99,111,117,114,116,100,97,121,115],[3,1],3,[8,18]⟩:=by
 refine ⟨by kernel_rfl,fun _=>by decide +kernel,fun i hi=>?_⟩
 have hi2:i=0∨i=1:=by have:i<2:=hi;omega
 rcases hi2 with rfl|rfl
 show _=_
 kernel_rfl
 show _=_
 kernel_rfl
theorem ovr15:OVR ⟨6,[43],[1,1],1,[5]⟩:=by
 refine ⟨by kernel_rfl,fun h=>by exfalso;revert h;decide,fun i hi=>?_⟩
 obtain rfl:i=0:=by have:i<1:=hi;omega
 kernel_rfl
theorem ovr16:OVR ⟨6,[45],[1,1],1,[6]⟩:=by
 refine ⟨by kernel_rfl,fun h=>by exfalso;revert h;decide,fun i hi=>?_⟩
 obtain rfl:i=0:=by have:i<1:=hi;omega
 kernel_rfl
theorem ovr17:OVR ⟨6,[42],[1,1],1,[7]⟩:=by
 refine ⟨by kernel_rfl,fun h=>by exfalso;revert h;decide,fun i hi=>?_⟩
 obtain rfl:i=0:=by have:i<1:=hi;omega
 kernel_rfl
theorem ovr18:OVR ⟨6,[60],[1,1],2,[9]⟩:=by
 refine ⟨by kernel_rfl,fun h=>by exfalso;revert h;decide,fun i hi=>?_⟩
 obtain rfl:i=0:=by have:i<1:=hi;omega
 kernel_rfl
theorem ovr19:OVR ⟨6,[60,61],[1,1],2,[10]⟩:=by
 refine ⟨by kernel_rfl,fun h=>by exfalso;revert h;decide,fun i hi=>?_⟩
 obtain rfl:i=0:=by have:i<1:=hi;omega
 kernel_rfl
theorem ovr20:OVR ⟨6,[61],[1,1],2,[11]⟩:=by
 refine ⟨by kernel_rfl,fun h=>by exfalso;revert h;decide,fun i hi=>?_⟩
 obtain rfl:i=0:=by have:i<1:=hi;omega
 kernel_rfl
theorem ovr21:OVR ⟨6,[33,61],[1,1],2,[11,12]⟩:=by
 refine ⟨by kernel_rfl,fun h=>by exfalso;revert h;decide,fun i hi=>?_⟩
 have hi2:i=0∨i=1:=by have:i<2:=hi;omega
 rcases hi2 with rfl|rfl
 show _=_
 kernel_rfl
 show _=_
 kernel_rfl
theorem ovr22:OVR ⟨6,[62],[1,1],2,[10,12]⟩:=by
 refine ⟨by kernel_rfl,fun h=>by exfalso;revert h;decide,fun i hi=>?_⟩
 have hi2:i=0∨i=1:=by have:i<2:=hi;omega
 rcases hi2 with rfl|rfl
 show _=_
 kernel_rfl
 show _=_
 kernel_rfl
theorem ovr23:OVR ⟨6,[62,61],[1,1],2,[9,12]⟩:=by
 refine ⟨by kernel_rfl,fun h=>by exfalso;revert h;decide,fun i hi=>?_⟩
 have hi2:i=0∨i=1:=by have:i<2:=hi;omega
 rcases hi2 with rfl|rfl
 show _=_
 kernel_rfl
 show _=_
 kernel_rfl
theorem ovr24:OVR ⟨6,[60],[3,3],2,[9]⟩:=by
 refine ⟨by kernel_rfl,fun h=>by exfalso;revert h;decide,fun i hi=>?_⟩
 obtain rfl:i=0:=by have:i<1:=hi;omega
 kernel_rfl
theorem ovr25:OVR ⟨6,[60,61],[3,3],2,[10]⟩:=by
 refine ⟨by kernel_rfl,fun h=>by exfalso;revert h;decide,fun i hi=>?_⟩
 obtain rfl:i=0:=by have:i<1:=hi;omega
 kernel_rfl
theorem ovr26:OVR ⟨6,[61],[3,3],2,[11]⟩:=by
 refine ⟨by kernel_rfl,fun h=>by exfalso;revert h;decide,fun i hi=>?_⟩
 obtain rfl:i=0:=by have:i<1:=hi;omega
 kernel_rfl
theorem ovr27:OVR ⟨6,[33,61],[3,3],2,[11,12]⟩:=by
 refine ⟨by kernel_rfl,fun h=>by exfalso;revert h;decide,fun i hi=>?_⟩
 have hi2:i=0∨i=1:=by have:i<2:=hi;omega
 rcases hi2 with rfl|rfl
 show _=_
 kernel_rfl
 show _=_
 kernel_rfl
theorem ovr28:OVR ⟨6,[62],[3,3],2,[10,12]⟩:=by
 refine ⟨by kernel_rfl,fun h=>by exfalso;revert h;decide,fun i hi=>?_⟩
 have hi2:i=0∨i=1:=by have:i<2:=hi;omega
 rcases hi2 with rfl|rfl
 show _=_
 kernel_rfl
 show _=_
 kernel_rfl
theorem ovr29:OVR ⟨6,[62,61],[3,3],2,[9,12]⟩:=by
 refine ⟨by kernel_rfl,fun h=>by exfalso;revert h;decide,fun i hi=>?_⟩
 have hi2:i=0∨i=1:=by have:i<2:=hi;omega
 rcases hi2 with rfl|rfl
 show _=_
 kernel_rfl
 show _=_
 kernel_rfl
theorem opsV_row:∀ r∈tblP,OVR r:=by
 unfold tblP
 refine List.forall_mem_cons.2 ⟨ovr0,?_⟩
 refine List.forall_mem_cons.2 ⟨ovr1,?_⟩
 refine List.forall_mem_cons.2 ⟨ovr2,?_⟩
 refine List.forall_mem_cons.2 ⟨ovr3,?_⟩
 refine List.forall_mem_cons.2 ⟨ovr4,?_⟩
 refine List.forall_mem_cons.2 ⟨ovr5,?_⟩
 refine List.forall_mem_cons.2 ⟨ovr6,?_⟩
 refine List.forall_mem_cons.2 ⟨ovr7,?_⟩
 refine List.forall_mem_cons.2 ⟨ovr8,?_⟩
 refine List.forall_mem_cons.2 ⟨ovr9,?_⟩
 refine List.forall_mem_cons.2 ⟨ovr10,?_⟩
 refine List.forall_mem_cons.2 ⟨ovr11,?_⟩
 refine List.forall_mem_cons.2 ⟨ovr12,?_⟩
 refine List.forall_mem_cons.2 ⟨ovr13,?_⟩
 refine List.forall_mem_cons.2 ⟨ovr14,?_⟩
 refine List.forall_mem_cons.2 ⟨ovr15,?_⟩
 refine List.forall_mem_cons.2 ⟨ovr16,?_⟩
 refine List.forall_mem_cons.2 ⟨ovr17,?_⟩
 refine List.forall_mem_cons.2 ⟨ovr18,?_⟩
 refine List.forall_mem_cons.2 ⟨ovr19,?_⟩
 refine List.forall_mem_cons.2 ⟨ovr20,?_⟩
 refine List.forall_mem_cons.2 ⟨ovr21,?_⟩
 refine List.forall_mem_cons.2 ⟨ovr22,?_⟩
 refine List.forall_mem_cons.2 ⟨ovr23,?_⟩
 refine List.forall_mem_cons.2 ⟨ovr24,?_⟩
 refine List.forall_mem_cons.2 ⟨ovr25,?_⟩
 refine List.forall_mem_cons.2 ⟨ovr26,?_⟩
 refine List.forall_mem_cons.2 ⟨ovr27,?_⟩
 refine List.forall_mem_cons.2 ⟨ovr28,?_⟩
 refine List.forall_mem_cons.2 ⟨ovr29,?_⟩
 intro r h
 cases h
def EvalOk (x:Nd):Prop:=∀ (K:MK) (nv:Value) (w:World) (sv pv:Value) (st:List Int) (s:Shp) (at_:Int),KOk K→K.nk=none→NdV K.own K.w0 nv x→typeT x≠0→Mch K w sv pv st [] at_ 0 false→StOk s st→s.length+nestN x≤16→
 Calls Tryz.prog 58 #[mP K,nv] w (Ret fun r w'=>r=.tuple #[]∧ResE K w' st at_ (evalV (openM K.c K.kn) K.ev x))
abbrev ndO (k n:Int) (s:Str) (kv:Value):Obj:=.cells [.int .i64 k,.int .i64 n,str s,kv].toArray 27
theorem EvalOk.kid {l:List Nd} {K:MK} {kv:Value} (hK:KOk K) (hk:K.nk=none) (hs:SlV K.own K.w0 kv l) {i:Nat} (hi:i<l.length) (ih:EvalOk l[i]) (ht:typeT l[i]≠0) :
 ∃ kv2 : Value, (∀ w', Stp K.own K.w0 w' → ∀ j u, [Value.int .i64 l[i].kind, .int .i64 l[i].num, str l[i].word, kv2][j]? = some u → w'.cell? (elAddr kv i 4 j) = some u)∧
   ∀ (w : World) (sv pv : Value) (st : List Int) (s : Shp) (at_ : Int), Mch K w sv pv st [] at_ 0 false → StOk s st → s.length + nestN l[i] ≤ 16→
     Calls Tryz.prog 58 #[mP K,.agg #[.int .i64 l[i].kind,.int .i64 l[i].num,str l[i].word,kv2]] w (Ret fun r w'=>r=.tuple #[]∧ResE K w' st at_ (evalV (openM K.c K.kn) K.ev l[i])):=by
 obtain ⟨kv2,h1,h2⟩:=ndExt hs hi (Stp.refl _ _)
 exact ⟨kv2,h2,fun w sv pv st s at_ hM hst hb=>ih K _ w sv pv st s at_ hK hk ⟨kv2,rfl,h1⟩ ht hM hst hb⟩
set_option maxHeartbeats 1000000 in
theorem eval_leaf {k n:Int} {s:Str} (hlf:Leaf k n s (typeT (.mk k n s []))):EvalOk (.mk k n s []):=by
 intro K nv w sv pv st sh at_ hK hk hx ht hM hst hb
 obtain ⟨kv,rfl,hs⟩:=hx
 have hev2:evalV (openM K.c K.kn) K.ev (.mk k n s [])=combV (openM K.c K.kn) K.ev k n s []:=evalV_eq _ _ _
 have hl:st.length≤100000:=by rw [← hst.1];omega
 simp only [Nd.kind,Nd.num,Nd.word]
 rw [hev2]
 refine calls_of_WC2 (n:=132) Tryz.func58 rfl rfl rfl ?_
 refine W ?_
 refine WL_eff (OE_box rfl) rfl ?_
 rintro _ w1 ⟨b3,rfl,hb3,hblk,hS⟩
 replace hblk:Blk w1 b3 27 [.int .i64 k,.int .i64 n,str s,kv]:=hblk
 replace hM:=hM.up hS
 rcases hlf with ⟨hk3,-,hv⟩|⟨rfl,i,hi,rfl,hf,-⟩
 · have e:combV (openM K.c K.kn) K.ev k n s []=(n,0):=by unfold combV;rw [if_pos hk3]
   rw [e]
   rcases hk3 with rfl|rfl|rfl
   all_goals
    refine W ?_
    refine CL rfl (evs2 rfl rfl) rfl (constV hK hM hl n) ?_
    rintro _ w2 ⟨rfl,hres⟩
    refine W ?_
    refine WR ?_
    exact .mk ⟨rfl,hres.toE hk⟩
 have e:combV (openM K.c K.kn) K.ev 4 n (fieldNames.getD i []) []=fldM K.ev (i:Int):=by
  unfold combV
  rw [if_neg (by decide),if_pos rfl,hf]
 rw [e]
 refine W ?_
 refine CL rfl (evs1 rfl) rfl (fieldNumber_any i hi _) ?_
 rintro _ w2 ⟨rfl,hS2⟩
 replace hM:=hM.up hS2
 refine W ?_
 refine CL rfl (evs2 rfl rfl) rfl (fieldV hK hM hl (i:Int) (by omega) (by omega)) ?_
 rintro _ w3 ⟨rfl,hres⟩
 refine W ?_
 refine WR ?_
 exact .mk ⟨rfl,hres.toE hk⟩
set_option maxHeartbeats 2000000 in
theorem eval_if {n:Int} {s:Str} {a b c:Nd} (iha:EvalOk a) (ihb:EvalOk b) (ihc:EvalOk c) (ta:typeT a=2) (tb:typeT b≠0) (tc:typeT c≠0):EvalOk (.mk 9 n s [a,b,c]):=by
 intro K0 nv w sv pv st sh at_ hK0 hk0 hx ht hM hst hb
 obtain ⟨kv,rfl,hs⟩:=hx
 have na:nestN a<nestN (.mk 9 n s [a,b,c]):=nest_kid (x:=.mk 9 n s [a,b,c]) (by simp [Nd.kids])
 have nb:nestN b<nestN (.mk 9 n s [a,b,c]):=nest_kid (x:=.mk 9 n s [a,b,c]) (by simp [Nd.kids])
 have nc:nestN c<nestN (.mk 9 n s [a,b,c]):=nest_kid (x:=.mk 9 n s [a,b,c]) (by simp [Nd.kids])
 have hev2:∀ opn ev,evalV opn ev (.mk 9 n s [a,b,c])=combV opn ev 9 n s [evalV opn ev a,evalV opn ev b,evalV opn ev c]:=fun opn ev=>evalV_eq _ _ _
 simp only [Nd.kind,Nd.num,Nd.word,Nd.kids] at hs ⊢
 have hbm:=hM.blk.lt
 have hobs:=fun x hx=>(hM.row.ob_le x hx).2
 have hpv:=hM.nt0 hk0
 have howl:∀ x∈K0.own,x<w.heap.size:=fun x hx=>Nat.lt_of_lt_of_le (Mch.own_lt hK0 x hx) hM.stp.size
 refine calls_of_WC2 (n:=132) Tryz.func58 rfl rfl rfl ?_
 refine W ?_
 refine WL_eff (OE_box rfl) rfl ?_
 rintro _ w1 ⟨b3,rfl,hb3,hblk,hS⟩
 replace hblk:w1.heap[b3]?=some (ndO 9 n s kv):=hblk
 replace hM:=(hM.up hS).keep hblk (fun h=>by have:=howl _ h;omega) (fun h=>by have:=hobs _ h;omega) (by rw [hpv];simp [ob])
 have hK:=hK0.keep (b:=b3) (o:=ndO 9 n s kv)
 have e0:K0.bm=(K0.keep b3 (ndO 9 n s kv)).bm:=rfl
 rw [show mP K0=mP (K0.keep b3 (ndO 9 n s kv)) from rfl]
 have hs':SlV (K0.keep b3 (ndO 9 n s kv)).own (K0.keep b3 (ndO 9 n s kv)).w0 kv [a,b,c]:=hs
 have hk:(K0.keep b3 (ndO 9 n s kv)).nk=none:=hk0
 have hun:∀ w' r,ResE (K0.keep b3 (ndO 9 n s kv)) w' st at_ r→ResE K0 w' st at_ r:=fun w' r h=>h.un
 have hcE:K0.c=(K0.keep b3 (ndO 9 n s kv)).c:=rfl
 have hkE:K0.kn=(K0.keep b3 (ndO 9 n s kv)).kn:=rfl
 have heE:K0.ev=(K0.keep b3 (ndO 9 n s kv)).ev:=rfl
 rw [hcE,hkE,heE]
 have hkept:∀ {w:World} {sv pv:Value} {st:List Int} {sp:List Spn} {at_ er:Int} {dn:Bool},Mch (K0.keep b3 (ndO 9 n s kv)) w sv pv st sp at_ er dn→Blk w b3 27 [.int .i64 9,.int .i64 n,str s,kv]:=fun h=>h.kept
 have hne:b3≠(K0.keep b3 (ndO 9 n s kv)).bm:=by show b3≠K0.bm;omega
 generalize K0.keep b3 (ndO 9 n s kv)=K at *
 clear e0 hs hK0 hk0 howl hcE hkE heE
 generalize hopn:openM K.c K.kn=opn
 generalize hevv:K.ev=ev
 have l0:0 < [a,b,c].length:=by simp
 have l1:1 < [a,b,c].length:=by simp
 have l2:2 < [a,b,c].length:=by simp
 obtain ⟨ka,ca,da⟩:=EvalOk.kid hK hk hs' l0 iha (by show typeT a≠0;omega)
 obtain ⟨kb,cb,db⟩:=EvalOk.kid hK hk hs' l1 ihb tb
 obtain ⟨kc,cc,dc⟩:=EvalOk.kid hK hk hs' l2 ihc tc
 rw [hopn,hevv] at da db dc
 have hblkN:=hkept hM
 have hsl:=hs'.ext (X':=[]) hM.stp (fun b hb=>hb) (by simp)
 refine W ?_
 apply WL_pure (PR_loadNd rfl rfl hsl l0 (ca _ hM.stp)) rfl
 refine CL rfl (evs2 rfl rfl) rfl (da _ _ _ _ _ _ hM hst (by show sh.length+nestN a≤16;omega)) ?_
 rintro _ w2 ⟨rfl,hres⟩
 change ResE K w2 st at_ (evalV opn ev a) at hres
 have e9:combV opn ev 9 n s [evalV opn ev a,evalV opn ev b,evalV opn ev c]=if ¬ (evalV opn ev a).2=0 then (0,(evalV opn ev a).2) else [evalV opn ev a,evalV opn ev b,evalV opn ev c].getD (2 - (evalV opn ev a).1).toNat (0,0):=by
  unfold combV
  rw [if_neg (by decide),if_neg (by decide)]
  simp only [List.getD_cons_zero]
  rfl
 rw [hev2,e9]
 by_cases he:(evalV opn ev a).2=0
 rw [if_neg (fun h=>h he)]
 obtain ⟨sv1,pv1,hM1⟩:=hres.go he
 have hva:=eval_vok opn ev (by rw [← hevv];exact hK.ev) a (by omega) he
 rw [ta] at hva
 have hblkM:=hM1.blk
 have hblkN1:=hkept hM1
 unfold mchC at hblkM
 refine W ?_
 generalize (evalV opn ev a).1=v at hva hM1 ⊢
 have hv01:v=0∨v=1:=hva.b
 rcases hv01 with rfl|rfl
 refine WC_drawnT 9 [K.bm] [8] rfl mixed (fun w3 hS3=>?_)
 replace hM1:=hM1.up hS3
 have hblkN3:=hkept hM1
 refine WT_free 0 rfl trivial (fun w'=>PR_move rfl) rfl (by kernel_rfl) (by kernel_rfl) ?_
 refine WT_free 1 rfl trivial (fun w'=>PR_fieldAddr rfl) rfl (by kernel_rfl) (by kernel_rfl) ?_
 refine WT_free 3 rfl trivial (fun w'=>PR_move rfl) rfl (by kernel_rfl) (by kernel_rfl) ?_
 refine WT_two 2 4 (by kernel_rfl) ?_ ?_
 refine WT1_eff rfl trivial (OE_pr (PR_load_blk rfl rfl hblkN3 rfl)) (fun _ _ h=>by rw [h.2];exact Stp.refl _ _) rfl ?_
 rintro u wx ⟨hu,hw⟩
 rw [hu,hw]
 clear hu hw
 refine WT_D [(4,2),(5,0),(6,0),(7,1),(8,2)] (by kernel_rfl) (by kernel_rfl) (by kernel_rfl) ?_
 refine WD_eff rfl trivial (OE_call rfl (evs1 rfl) (pop_full hK hM1)) (fun _ _ h=>h.2.2) rfl ?_
 rintro _ w4 ⟨rfl,⟨sv4,hM4⟩,hS4⟩
 refine WD_op rfl (WO_sub trivial rfl rfl (by unfold I64;omega) rfl ?_)
 refine WD_op rfl (WO_idx (i:=2) trivial rfl hsl rfl (by rfl) l2 rfl ?_)
 have hT4:∀ w',Stp [K.bm] w4 w'→Stp K.own K.w0 w':=fun w' hS'=>hM4.stp.trans (hS'.mono (by simp [MK.own]))
 refine WD_read rfl trivial (fun w' hS'=>PR_loadNd rfl rfl (hs'.ext (X':=[]) (hT4 w' hS') (fun b hb=>hb) (by simp)) l2 (cc _ (hT4 w' hS'))) rfl ?_
 refine WD_late rfl trivial (OE_call rfl (evs2 rfl rfl) (dc _ _ _ _ _ _ hM4 hst (by show sh.length+nestN c≤16;omega))) rfl rfl ?_
 rintro _ w6 ⟨rfl,hres6⟩
 refine WD_nil ?_
 refine W ?_
 refine WR ?_
 exact .mk ⟨rfl,hun _ _ hres6⟩
 refine WT1_eff rfl trivial (OE_call rfl (evs1 rfl) (pop_full hK hM1)) (fun _ _ h=>h.2.2) rfl ?_
 rintro _ w4 ⟨rfl,⟨sv4,hM4⟩,hS4⟩
 have hblkN4:=hkept hM4
 refine WT_free 5 rfl trivial (fun w'=>PR_sub rfl rfl (by unfold I64;omega)) rfl (by kernel_rfl) (by kernel_rfl) ?_
 refine WT_D [(2,2),(6,0),(7,1),(8,2)] (by kernel_rfl) (by kernel_rfl) (by kernel_rfl) ?_
 refine WD_eff rfl trivial (OE_pr (PR_load_blk rfl rfl hblkN4 rfl)) (fun _ _ h=>by rw [h.2];exact Stp.refl _ _) rfl ?_
 rintro u wx ⟨hu,hw⟩
 rw [hu,hw]
 clear hu hw
 refine WD_op rfl (WO_idx (i:=2) trivial rfl hsl rfl (by rfl) l2 rfl ?_)
 have hT4:∀ w',Stp [K.bm] w4 w'→Stp K.own K.w0 w':=fun w' hS'=>hM4.stp.trans (hS'.mono (by simp [MK.own]))
 refine WD_read rfl trivial (fun w' hS'=>PR_loadNd rfl rfl (hs'.ext (X':=[]) (hT4 w' hS') (fun b hb=>hb) (by simp)) l2 (cc _ (hT4 w' hS'))) rfl ?_
 refine WD_late rfl trivial (OE_call rfl (evs2 rfl rfl) (dc _ _ _ _ _ _ hM4 hst (by show sh.length+nestN c≤16;omega))) rfl rfl ?_
 rintro _ w6 ⟨rfl,hres6⟩
 refine WD_nil ?_
 refine W ?_
 refine WR ?_
 exact .mk ⟨rfl,hun _ _ hres6⟩
 refine WC_drawnT 9 [K.bm] [8] rfl mixed (fun w3 hS3=>?_)
 replace hM1:=hM1.up hS3
 have hblkN3:=hkept hM1
 refine WT_free 0 rfl trivial (fun w'=>PR_move rfl) rfl (by kernel_rfl) (by kernel_rfl) ?_
 refine WT_free 1 rfl trivial (fun w'=>PR_fieldAddr rfl) rfl (by kernel_rfl) (by kernel_rfl) ?_
 refine WT_free 3 rfl trivial (fun w'=>PR_move rfl) rfl (by kernel_rfl) (by kernel_rfl) ?_
 refine WT_two 2 4 (by kernel_rfl) ?_ ?_
 refine WT1_eff rfl trivial (OE_pr (PR_load_blk rfl rfl hblkN3 rfl)) (fun _ _ h=>by rw [h.2];exact Stp.refl _ _) rfl ?_
 rintro u wx ⟨hu,hw⟩
 rw [hu,hw]
 clear hu hw
 refine WT_D [(4,2),(5,0),(6,0),(7,1),(8,2)] (by kernel_rfl) (by kernel_rfl) (by kernel_rfl) ?_
 refine WD_eff rfl trivial (OE_call rfl (evs1 rfl) (pop_full hK hM1)) (fun _ _ h=>h.2.2) rfl ?_
 rintro _ w4 ⟨rfl,⟨sv4,hM4⟩,hS4⟩
 refine WD_op rfl (WO_sub trivial rfl rfl (by unfold I64;omega) rfl ?_)
 refine WD_op rfl (WO_idx (i:=1) trivial rfl hsl rfl (by rfl) l1 rfl ?_)
 have hT4:∀ w',Stp [K.bm] w4 w'→Stp K.own K.w0 w':=fun w' hS'=>hM4.stp.trans (hS'.mono (by simp [MK.own]))
 refine WD_read rfl trivial (fun w' hS'=>PR_loadNd rfl rfl (hs'.ext (X':=[]) (hT4 w' hS') (fun b hb=>hb) (by simp)) l1 (cb _ (hT4 w' hS'))) rfl ?_
 refine WD_late rfl trivial (OE_call rfl (evs2 rfl rfl) (db _ _ _ _ _ _ hM4 hst (by show sh.length+nestN b≤16;omega))) rfl rfl ?_
 rintro _ w6 ⟨rfl,hres6⟩
 refine WD_nil ?_
 refine W ?_
 refine WR ?_
 exact .mk ⟨rfl,hun _ _ hres6⟩
 refine WT1_eff rfl trivial (OE_call rfl (evs1 rfl) (pop_full hK hM1)) (fun _ _ h=>h.2.2) rfl ?_
 rintro _ w4 ⟨rfl,⟨sv4,hM4⟩,hS4⟩
 have hblkN4:=hkept hM4
 refine WT_free 5 rfl trivial (fun w'=>PR_sub rfl rfl (by unfold I64;omega)) rfl (by kernel_rfl) (by kernel_rfl) ?_
 refine WT_D [(2,2),(6,0),(7,1),(8,2)] (by kernel_rfl) (by kernel_rfl) (by kernel_rfl) ?_
 refine WD_eff rfl trivial (OE_pr (PR_load_blk rfl rfl hblkN4 rfl)) (fun _ _ h=>by rw [h.2];exact Stp.refl _ _) rfl ?_
 rintro u wx ⟨hu,hw⟩
 rw [hu,hw]
 clear hu hw
 refine WD_op rfl (WO_idx (i:=1) trivial rfl hsl rfl (by rfl) l1 rfl ?_)
 have hT4:∀ w',Stp [K.bm] w4 w'→Stp K.own K.w0 w':=fun w' hS'=>hM4.stp.trans (hS'.mono (by simp [MK.own]))
 refine WD_read rfl trivial (fun w' hS'=>PR_loadNd rfl rfl (hs'.ext (X':=[]) (hT4 w' hS') (fun b hb=>hb) (by simp)) l1 (cb _ (hT4 w' hS'))) rfl ?_
 refine WD_late rfl trivial (OE_call rfl (evs2 rfl rfl) (db _ _ _ _ _ _ hM4 hst (by show sh.length+nestN b≤16;omega))) rfl rfl ?_
 rintro _ w6 ⟨rfl,hres6⟩
 refine WD_nil ?_
 refine W ?_
 refine WR ?_
 exact .mk ⟨rfl,hun _ _ hres6⟩
 rw [if_pos he]
 obtain ⟨sv1,pv1,st1,hM1⟩:=hres.stop he
 have hblkM:=hM1.blk
 unfold mchC at hblkM
 refine W ?_
 refine WR ?_
 exact .mk ⟨rfl,hun _ _ (ResE.of he hM1)⟩
set_option maxHeartbeats 2000000 in
theorem eval_and {n:Int} {a b:Nd} (iha:EvalOk a) (ihb:EvalOk b) (ta:typeT a=2) (tb:typeT b=2):EvalOk (.mk 6 n ([97,110,100]:Str) [a,b]):=by
 intro K0 nv w sv pv st sh at_ hK0 hk0 hx ht hM hst hb
 obtain ⟨kv,rfl,hs⟩:=hx
 have na:nestN a<nestN (.mk 6 n ([97,110,100]:Str) [a,b]):=nest_kid (x:=.mk 6 n ([97,110,100]:Str) [a,b]) (by simp [Nd.kids])
 have nb:nestN b<nestN (.mk 6 n ([97,110,100]:Str) [a,b]):=nest_kid (x:=.mk 6 n ([97,110,100]:Str) [a,b]) (by simp [Nd.kids])
 have hev2:∀ opn ev,evalV opn ev (.mk 6 n ([97,110,100]:Str) [a,b])=combV opn ev 6 n ([97,110,100]:Str) [evalV opn ev a,evalV opn ev b]:=fun opn ev=>evalV_eq _ _ _
 simp only [Nd.kind,Nd.num,Nd.word,Nd.kids] at hs ⊢
 have hbm:=hM.blk.lt
 have hobs:=fun x hx=>(hM.row.ob_le x hx).2
 have hpv:=hM.nt0 hk0
 have howl:∀ x∈K0.own,x<w.heap.size:=fun x hx=>Nat.lt_of_lt_of_le (Mch.own_lt hK0 x hx) hM.stp.size
 refine calls_of_WC2 (n:=132) Tryz.func58 rfl rfl rfl ?_
 refine W ?_
 refine WL_eff (OE_box rfl) rfl ?_
 rintro _ w1 ⟨b3,rfl,hb3,hblk,hS⟩
 replace hblk:w1.heap[b3]?=some (ndO 6 n ([97,110,100]:Str) kv):=hblk
 replace hM:=(hM.up hS).keep hblk (fun h=>by have:=howl _ h;omega) (fun h=>by have:=hobs _ h;omega) (by rw [hpv];simp [ob])
 have hK:=hK0.keep (b:=b3) (o:=ndO 6 n ([97,110,100]:Str) kv)
 have e0:K0.bm=(K0.keep b3 (ndO 6 n ([97,110,100]:Str) kv)).bm:=rfl
 rw [show mP K0=mP (K0.keep b3 (ndO 6 n ([97,110,100]:Str) kv)) from rfl]
 have hs':SlV (K0.keep b3 (ndO 6 n ([97,110,100]:Str) kv)).own (K0.keep b3 (ndO 6 n ([97,110,100]:Str) kv)).w0 kv [a,b]:=hs
 have hk:(K0.keep b3 (ndO 6 n ([97,110,100]:Str) kv)).nk=none:=hk0
 have hun:∀ w' r,ResE (K0.keep b3 (ndO 6 n ([97,110,100]:Str) kv)) w' st at_ r→ResE K0 w' st at_ r:=fun w' r h=>h.un
 have hcE:K0.c=(K0.keep b3 (ndO 6 n ([97,110,100]:Str) kv)).c:=rfl
 have hkE:K0.kn=(K0.keep b3 (ndO 6 n ([97,110,100]:Str) kv)).kn:=rfl
 have heE:K0.ev=(K0.keep b3 (ndO 6 n ([97,110,100]:Str) kv)).ev:=rfl
 rw [hcE,hkE,heE]
 have hkept:∀ {w:World} {sv pv:Value} {st:List Int} {sp:List Spn} {at_ er:Int} {dn:Bool},Mch (K0.keep b3 (ndO 6 n ([97,110,100]:Str) kv)) w sv pv st sp at_ er dn→Blk w b3 27 [.int .i64 6,.int .i64 n,str ([97,110,100]:Str),kv]:=fun h=>h.kept
 have hne:b3≠(K0.keep b3 (ndO 6 n ([97,110,100]:Str) kv)).bm:=by show b3≠K0.bm;omega
 generalize K0.keep b3 (ndO 6 n ([97,110,100]:Str) kv)=K at *
 clear e0 hs hK0 hk0 howl hcE hkE heE
 generalize hopn:openM K.c K.kn=opn
 generalize hevv:K.ev=ev
 have l0:0 < [a,b].length:=by simp
 have l1:1 < [a,b].length:=by simp
 obtain ⟨ka,ca,da⟩:=EvalOk.kid hK hk hs' l0 iha (by show typeT a≠0;omega)
 obtain ⟨kb,cb,db⟩:=EvalOk.kid hK hk hs' l1 ihb (by show typeT b≠0;omega)
 rw [hopn,hevv] at da db
 have hblkN:=hkept hM
 have hsl:=hs'.ext (X':=[]) hM.stp (fun b hb=>hb) (by simp)
 refine W ?_
 apply WL_pure (PR_loadNd rfl rfl hsl l0 (ca _ hM.stp)) rfl
 refine CL rfl (evs2 rfl rfl) rfl (da _ _ _ _ _ _ hM hst (by show sh.length+nestN a≤16;omega)) ?_
 rintro _ w2 ⟨rfl,hres⟩
 change ResE K w2 st at_ (evalV opn ev a) at hres
 have e9:combV opn ev 6 n ([97,110,100]:Str) [evalV opn ev a,evalV opn ev b]=if ¬ (evalV opn ev a).2=0 then (0,(evalV opn ev a).2) else if (evalV opn ev a).1=0 then ((evalV opn ev a).1,0) else if ¬ (evalV opn ev b).2=0 then (0,(evalV opn ev b).2) else ((evalV opn ev b).1,0):=by
  unfold combV
  rw [if_neg (by decide),if_neg (by decide)]
  have e0:[evalV opn ev a,evalV opn ev b].getD 0 (0,0)=evalV opn ev a:=rfl
  have e1:[evalV opn ev a,evalV opn ev b].getD 1 (0,0)=evalV opn ev b:=rfl
  rw [e0,e1]
  have hc:((6:Int)=6∧(([97,110,100]:Str)=[97,110,100]∧(evalV opn ev a).1=0∨([97,110,100]:Str)=[111,114]∧(evalV opn ev a).1=1))↔(evalV opn ev a).1=0:=by
   constructor
   rintro ⟨-,(⟨h1,h2⟩|⟨h1,h2⟩)⟩
   first|exact h2|exact absurd h1 (by decide)
   first|exact h2|exact absurd h1 (by decide)
   intro h
   exact ⟨rfl,.inl ⟨rfl,h⟩⟩
  have hl1:¬ [evalV opn ev a,evalV opn ev b].length=1:=by simp
  by_cases h0:(evalV opn ev a).2=0
  have nh0:¬ ¬ (evalV opn ev a).2=0:=fun h=>h h0
  rw [if_neg nh0,if_neg (by decide),if_neg (by decide),if_neg hl1]
  by_cases hv:(evalV opn ev a).1=0
  rw [if_pos (hc.2 hv),if_neg nh0,if_pos hv]
  rw [if_neg (fun h=>hv (hc.1 h))]
  by_cases h1:(evalV opn ev b).2=0
  have nh1:¬ ¬ (evalV opn ev b).2=0:=fun h=>h h1
  rw [if_neg nh1,if_neg (by decide),if_neg (by decide),if_neg (by decide),if_neg nh0,if_neg hv,if_neg nh1]
  rfl
  rw [if_pos h1,if_neg nh0,if_neg hv,if_pos h1]
  rw [if_pos h0,if_pos h0]
 rw [hev2,e9]
 by_cases he:(evalV opn ev a).2=0
 rw [if_neg (fun h=>h he)]
 obtain ⟨sv1,pv1,hM1⟩:=hres.go he
 have hva:=eval_vok opn ev (by rw [← hevv];exact hK.ev) a (by omega) he
 rw [ta] at hva
 generalize (evalV opn ev a).1=v at hva hM1 ⊢
 have hv01:v=0∨v=1:=hva.b
 have hlen:(st++[v]).length=st.length+1:=by simp
 have hz:((st++[v]).length:Int) - 1=(st.length:Int):=by rw [hlen];simp
 have hil:st.length<(st++[v]).length:=by rw [hlen];omega
 have hat:(st++[v])[st.length]=v:=by simp
 have hmx:=(hM1.row.slv (X:=[]) (by simp)).max
 rcases hv01 with rfl|rfl
 refine W ?_
 refine WC_drawn 23 [] [] [(0,0),(1,0),(2,0),(3,1),(4,0),(5,0),(6,0),(7,0),(8,1),(9,0),(10,0),(11,0),(12,1),(13,0),(14,0),(15,0),(16,1),(17,0),(18,0),(19,1),(20,0),(21,0),(22,0)] rfl mixed (by kernel_rfl) (by kernel_rfl) (by kernel_rfl) (fun w1 hS1=>?_)
 replace hM1:=hM1.up hS1
 have hblkM:=hM1.blk
 have hblkN1:=hkept hM1
 have hsv:=hM1.row.slv (X:=[]) (by simp)
 unfold mchC at hblkM
 refine D ?_
 try refine WD_op rfl (WO_idx (i:=st.length) rfl rfl hsv rfl hz hil rfl ?_)
 refine D ?_
 try rw [hat]
 refine D ?_
 refine W ?_
 rw [if_pos rfl]
 refine WR ?_
 exact .mk ⟨rfl,hun _ _ ⟨sv1,pv1,_,hM1,fun _=>rfl⟩⟩
 refine W ?_
 refine WC_drawn 23 [] [] [(0,0),(1,0),(2,0),(3,1),(4,0),(5,0),(6,0),(7,0),(8,1),(9,0),(10,0),(11,0),(12,1),(13,0),(14,0),(15,0),(16,1),(17,0),(18,0),(19,1),(20,0),(21,0),(22,0)] rfl mixed (by kernel_rfl) (by kernel_rfl) (by kernel_rfl) (fun w1 hS1=>?_)
 replace hM1:=hM1.up hS1
 have hblkM:=hM1.blk
 have hblkN1:=hkept hM1
 have hsv:=hM1.row.slv (X:=[]) (by simp)
 unfold mchC at hblkM
 refine D ?_
 try refine WD_op rfl (WO_idx (i:=st.length) rfl rfl hsv rfl hz hil rfl ?_)
 refine D ?_
 try rw [hat]
 refine D ?_
 refine W ?_
 rw [if_neg (by decide)]
 refine CL rfl (evs1 rfl) rfl (pop_any hK hM1) ?_
 rintro _ w4 ⟨rfl,sv4,hM4⟩
 have hblkN4:=hkept hM4
 have hsl4:=hs'.ext (X':=[]) hM4.stp (fun b hb=>hb) (by simp)
 refine W ?_
 apply WL_pure (PR_loadNd rfl rfl hsl4 l1 (cb _ hM4.stp)) rfl
 refine CL rfl (evs2 rfl rfl) rfl (db _ _ _ _ _ _ hM4 hst (by show sh.length+nestN b≤16;omega)) ?_
 rintro _ w6 ⟨rfl,hres6⟩
 change ResE K w6 st at_ (evalV opn ev b) at hres6
 refine W ?_
 refine WR ?_
 refine .mk ⟨rfl,hun _ _ ?_⟩
 by_cases h1:(evalV opn ev b).2=0
 rw [if_neg (fun h=>h h1)]
 obtain ⟨sv6,pv6,hM6⟩:=hres6.go h1
 exact ⟨sv6,pv6,_,hM6,fun _=>rfl⟩
 rw [if_pos h1]
 obtain ⟨sv6,pv6,st6,hM6⟩:=hres6.stop h1
 exact ResE.of h1 hM6
 rw [if_pos he]
 obtain ⟨sv1,pv1,st1,hM1⟩:=hres.stop he
 refine W ?_
 refine WC_drawn 23 [] [] [(0,0),(1,0),(2,0),(3,1),(4,0),(5,0),(6,0),(7,0),(8,1),(9,0),(10,0),(11,0),(12,1),(13,0),(14,0),(15,0),(16,1),(17,0),(18,0),(19,1),(20,0),(21,0),(22,0)] rfl mixed (by kernel_rfl) (by kernel_rfl) (by kernel_rfl) (fun w1 hS1=>?_)
 replace hM1:=hM1.up hS1
 have hblkM:=hM1.blk
 have hblkN1:=hkept hM1
 unfold mchC at hblkM
 refine D ?_
 refine W ?_
 refine WR ?_
 exact .mk ⟨rfl,hun _ _ (ResE.of he hM1)⟩
set_option maxHeartbeats 2000000 in
theorem eval_or {n:Int} {a b:Nd} (iha:EvalOk a) (ihb:EvalOk b) (ta:typeT a=2) (tb:typeT b=2):EvalOk (.mk 6 n ([111,114]:Str) [a,b]):=by
 intro K0 nv w sv pv st sh at_ hK0 hk0 hx ht hM hst hb
 obtain ⟨kv,rfl,hs⟩:=hx
 have na:nestN a<nestN (.mk 6 n ([111,114]:Str) [a,b]):=nest_kid (x:=.mk 6 n ([111,114]:Str) [a,b]) (by simp [Nd.kids])
 have nb:nestN b<nestN (.mk 6 n ([111,114]:Str) [a,b]):=nest_kid (x:=.mk 6 n ([111,114]:Str) [a,b]) (by simp [Nd.kids])
 have hev2:∀ opn ev,evalV opn ev (.mk 6 n ([111,114]:Str) [a,b])=combV opn ev 6 n ([111,114]:Str) [evalV opn ev a,evalV opn ev b]:=fun opn ev=>evalV_eq _ _ _
 simp only [Nd.kind,Nd.num,Nd.word,Nd.kids] at hs ⊢
 have hbm:=hM.blk.lt
 have hobs:=fun x hx=>(hM.row.ob_le x hx).2
 have hpv:=hM.nt0 hk0
 have howl:∀ x∈K0.own,x<w.heap.size:=fun x hx=>Nat.lt_of_lt_of_le (Mch.own_lt hK0 x hx) hM.stp.size
 refine calls_of_WC2 (n:=132) Tryz.func58 rfl rfl rfl ?_
 refine W ?_
 refine WL_eff (OE_box rfl) rfl ?_
 rintro _ w1 ⟨b3,rfl,hb3,hblk,hS⟩
 replace hblk:w1.heap[b3]?=some (ndO 6 n ([111,114]:Str) kv):=hblk
 replace hM:=(hM.up hS).keep hblk (fun h=>by have:=howl _ h;omega) (fun h=>by have:=hobs _ h;omega) (by rw [hpv];simp [ob])
 have hK:=hK0.keep (b:=b3) (o:=ndO 6 n ([111,114]:Str) kv)
 have e0:K0.bm=(K0.keep b3 (ndO 6 n ([111,114]:Str) kv)).bm:=rfl
 rw [show mP K0=mP (K0.keep b3 (ndO 6 n ([111,114]:Str) kv)) from rfl]
 have hs':SlV (K0.keep b3 (ndO 6 n ([111,114]:Str) kv)).own (K0.keep b3 (ndO 6 n ([111,114]:Str) kv)).w0 kv [a,b]:=hs
 have hk:(K0.keep b3 (ndO 6 n ([111,114]:Str) kv)).nk=none:=hk0
 have hun:∀ w' r,ResE (K0.keep b3 (ndO 6 n ([111,114]:Str) kv)) w' st at_ r→ResE K0 w' st at_ r:=fun w' r h=>h.un
 have hcE:K0.c=(K0.keep b3 (ndO 6 n ([111,114]:Str) kv)).c:=rfl
 have hkE:K0.kn=(K0.keep b3 (ndO 6 n ([111,114]:Str) kv)).kn:=rfl
 have heE:K0.ev=(K0.keep b3 (ndO 6 n ([111,114]:Str) kv)).ev:=rfl
 rw [hcE,hkE,heE]
 have hkept:∀ {w:World} {sv pv:Value} {st:List Int} {sp:List Spn} {at_ er:Int} {dn:Bool},Mch (K0.keep b3 (ndO 6 n ([111,114]:Str) kv)) w sv pv st sp at_ er dn→Blk w b3 27 [.int .i64 6,.int .i64 n,str ([111,114]:Str),kv]:=fun h=>h.kept
 have hne:b3≠(K0.keep b3 (ndO 6 n ([111,114]:Str) kv)).bm:=by show b3≠K0.bm;omega
 generalize K0.keep b3 (ndO 6 n ([111,114]:Str) kv)=K at *
 clear e0 hs hK0 hk0 howl hcE hkE heE
 generalize hopn:openM K.c K.kn=opn
 generalize hevv:K.ev=ev
 have l0:0 < [a,b].length:=by simp
 have l1:1 < [a,b].length:=by simp
 obtain ⟨ka,ca,da⟩:=EvalOk.kid hK hk hs' l0 iha (by show typeT a≠0;omega)
 obtain ⟨kb,cb,db⟩:=EvalOk.kid hK hk hs' l1 ihb (by show typeT b≠0;omega)
 rw [hopn,hevv] at da db
 have hblkN:=hkept hM
 have hsl:=hs'.ext (X':=[]) hM.stp (fun b hb=>hb) (by simp)
 refine W ?_
 apply WL_pure (PR_loadNd rfl rfl hsl l0 (ca _ hM.stp)) rfl
 refine CL rfl (evs2 rfl rfl) rfl (da _ _ _ _ _ _ hM hst (by show sh.length+nestN a≤16;omega)) ?_
 rintro _ w2 ⟨rfl,hres⟩
 change ResE K w2 st at_ (evalV opn ev a) at hres
 have e9:combV opn ev 6 n ([111,114]:Str) [evalV opn ev a,evalV opn ev b]=if ¬ (evalV opn ev a).2=0 then (0,(evalV opn ev a).2) else if (evalV opn ev a).1=1 then ((evalV opn ev a).1,0) else if ¬ (evalV opn ev b).2=0 then (0,(evalV opn ev b).2) else ((evalV opn ev b).1,0):=by
  unfold combV
  rw [if_neg (by decide),if_neg (by decide)]
  have e0:[evalV opn ev a,evalV opn ev b].getD 0 (0,0)=evalV opn ev a:=rfl
  have e1:[evalV opn ev a,evalV opn ev b].getD 1 (0,0)=evalV opn ev b:=rfl
  rw [e0,e1]
  have hc:((6:Int)=6∧(([111,114]:Str)=[97,110,100]∧(evalV opn ev a).1=0∨([111,114]:Str)=[111,114]∧(evalV opn ev a).1=1))↔(evalV opn ev a).1=1:=by
   constructor
   rintro ⟨-,(⟨h1,h2⟩|⟨h1,h2⟩)⟩
   first|exact h2|exact absurd h1 (by decide)
   first|exact h2|exact absurd h1 (by decide)
   intro h
   exact ⟨rfl,.inr ⟨rfl,h⟩⟩
  have hl1:¬ [evalV opn ev a,evalV opn ev b].length=1:=by simp
  by_cases h0:(evalV opn ev a).2=0
  have nh0:¬ ¬ (evalV opn ev a).2=0:=fun h=>h h0
  rw [if_neg nh0,if_neg (by decide),if_neg (by decide),if_neg hl1]
  by_cases hv:(evalV opn ev a).1=1
  rw [if_pos (hc.2 hv),if_neg nh0,if_pos hv]
  rw [if_neg (fun h=>hv (hc.1 h))]
  by_cases h1:(evalV opn ev b).2=0
  have nh1:¬ ¬ (evalV opn ev b).2=0:=fun h=>h h1
  rw [if_neg nh1,if_neg (by decide),if_neg (by decide),if_neg (by decide),if_neg nh0,if_neg hv,if_neg nh1]
  rfl
  rw [if_pos h1,if_neg nh0,if_neg hv,if_pos h1]
  rw [if_pos h0,if_pos h0]
 rw [hev2,e9]
 by_cases he:(evalV opn ev a).2=0
 rw [if_neg (fun h=>h he)]
 obtain ⟨sv1,pv1,hM1⟩:=hres.go he
 have hva:=eval_vok opn ev (by rw [← hevv];exact hK.ev) a (by omega) he
 rw [ta] at hva
 generalize (evalV opn ev a).1=v at hva hM1 ⊢
 have hv01:v=0∨v=1:=hva.b
 have hlen:(st++[v]).length=st.length+1:=by simp
 have hz:((st++[v]).length:Int) - 1=(st.length:Int):=by rw [hlen];simp
 have hil:st.length<(st++[v]).length:=by rw [hlen];omega
 have hat:(st++[v])[st.length]=v:=by simp
 have hmx:=(hM1.row.slv (X:=[]) (by simp)).max
 rcases hv01 with rfl|rfl
 refine W ?_
 refine WC_drawn 23 [] [] [(0,0),(1,0),(2,0),(3,1),(4,0),(5,0),(6,0),(7,0),(8,1),(9,0),(10,0),(11,0),(12,1),(13,0),(14,0),(15,0),(16,1),(17,0),(18,0),(19,1),(20,0),(21,0),(22,0)] rfl mixed (by kernel_rfl) (by kernel_rfl) (by kernel_rfl) (fun w1 hS1=>?_)
 replace hM1:=hM1.up hS1
 have hblkM:=hM1.blk
 have hblkN1:=hkept hM1
 have hsv:=hM1.row.slv (X:=[]) (by simp)
 unfold mchC at hblkM
 refine D ?_
 try refine WD_op rfl (WO_idx (i:=st.length) rfl rfl hsv rfl hz hil rfl ?_)
 refine D ?_
 try rw [hat]
 refine D ?_
 refine W ?_
 rw [if_neg (by decide)]
 refine CL rfl (evs1 rfl) rfl (pop_any hK hM1) ?_
 rintro _ w4 ⟨rfl,sv4,hM4⟩
 have hblkN4:=hkept hM4
 have hsl4:=hs'.ext (X':=[]) hM4.stp (fun b hb=>hb) (by simp)
 refine W ?_
 apply WL_pure (PR_loadNd rfl rfl hsl4 l1 (cb _ hM4.stp)) rfl
 refine CL rfl (evs2 rfl rfl) rfl (db _ _ _ _ _ _ hM4 hst (by show sh.length+nestN b≤16;omega)) ?_
 rintro _ w6 ⟨rfl,hres6⟩
 change ResE K w6 st at_ (evalV opn ev b) at hres6
 refine W ?_
 refine WR ?_
 refine .mk ⟨rfl,hun _ _ ?_⟩
 by_cases h1:(evalV opn ev b).2=0
 rw [if_neg (fun h=>h h1)]
 obtain ⟨sv6,pv6,hM6⟩:=hres6.go h1
 exact ⟨sv6,pv6,_,hM6,fun _=>rfl⟩
 rw [if_pos h1]
 obtain ⟨sv6,pv6,st6,hM6⟩:=hres6.stop h1
 exact ResE.of h1 hM6
 refine W ?_
 refine WC_drawn 23 [] [] [(0,0),(1,0),(2,0),(3,1),(4,0),(5,0),(6,0),(7,0),(8,1),(9,0),(10,0),(11,0),(12,1),(13,0),(14,0),(15,0),(16,1),(17,0),(18,0),(19,1),(20,0),(21,0),(22,0)] rfl mixed (by kernel_rfl) (by kernel_rfl) (by kernel_rfl) (fun w1 hS1=>?_)
 replace hM1:=hM1.up hS1
 have hblkM:=hM1.blk
 have hblkN1:=hkept hM1
 have hsv:=hM1.row.slv (X:=[]) (by simp)
 unfold mchC at hblkM
 refine D ?_
 try refine WD_op rfl (WO_idx (i:=st.length) rfl rfl hsv rfl hz hil rfl ?_)
 refine D ?_
 try rw [hat]
 refine D ?_
 refine W ?_
 rw [if_pos rfl]
 refine WR ?_
 exact .mk ⟨rfl,hun _ _ ⟨sv1,pv1,_,hM1,fun _=>rfl⟩⟩
 rw [if_pos he]
 obtain ⟨sv1,pv1,st1,hM1⟩:=hres.stop he
 refine W ?_
 refine WC_drawn 23 [] [] [(0,0),(1,0),(2,0),(3,1),(4,0),(5,0),(6,0),(7,0),(8,1),(9,0),(10,0),(11,0),(12,1),(13,0),(14,0),(15,0),(16,1),(17,0),(18,0),(19,1),(20,0),(21,0),(22,0)] rfl mixed (by kernel_rfl) (by kernel_rfl) (by kernel_rfl) (fun w1 hS1=>?_)
 replace hM1:=hM1.up hS1
 have hblkM:=hM1.blk
 have hblkN1:=hkept hM1
 unfold mchC at hblkM
 refine D ?_
 refine W ?_
 refine WR ?_
 exact .mk ⟨rfl,hun _ _ (ResE.of he hM1)⟩
theorem SlV.keepC {α:Type} [Flat α] {X:List Nat} {w w':World} {v:Value} {xs:List α} (h:SlV X w v xs) (hb:∀ b∈ob v,w'.heap[b]?=w.heap[b]?):SlV [] w' v xs:=by
 obtain ⟨p,c,rfl,hl,hm,hn,hc⟩:=h
 refine ⟨p,c,rfl,hl,hm,hn,fun i hi=>?_⟩
 obtain ⟨b,o,cs,rfl,hbl,hx,hr,hcell⟩:=hc i hi
 have e:=hb b (by simp [ob])
 rw [Array.getElem?_eq_getElem hbl] at e
 exact ⟨b,o,cs,rfl,(Array.getElem?_eq_some_iff.1 e).1,by simp,hr,fun j u hu=>(World.cell?_of_block (a:=⟨b,_,none⟩) (hb b (by simp [ob]))).trans (hcell j u hu)⟩
theorem EvalOk.kid2 {l:List Nd} {K:MK} {kv:Value} (hK:KOk K) (hk:K.nk=none) (hs:SlV K.own K.w0 kv l) {i:Nat} (hi:i<l.length) (ih:EvalOk l[i]) (ht:typeT l[i]≠0) :
 ∃ kv2 : Value, kv2.oneCell' = true ∧ (∀ w', Stp K.own K.w0 w' → ∀ j u, [Value.int .i64 l[i].kind, .int .i64 l[i].num, str l[i].word, kv2][j]? = some u → w'.cell? (elAddr kv i 4 j) = some u)∧
   ∀ (w : World) (sv pv : Value) (st : List Int) (s : Shp) (at_ : Int), Mch K w sv pv st [] at_ 0 false → StOk s st → s.length + nestN l[i] ≤ 16→
     Calls Tryz.prog 58 #[mP K,.agg #[.int .i64 l[i].kind,.int .i64 l[i].num,str l[i].word,kv2]] w (Ret fun r w'=>r=.tuple #[]∧ResE K w' st at_ (evalV (openM K.c K.kn) K.ev l[i])):=by
 obtain ⟨kv2,h1,h2⟩:=ndExt hs hi (Stp.refl _ _)
 exact ⟨kv2,h1.one,h2,fun w sv pv st s at_ hM hst hb=>ih K _ w sv pv st s at_ hK hk ⟨kv2,rfl,h1⟩ ht hM hst hb⟩
theorem tbl_L:∀ r∈tblP,(r.L.length=1∨(r.L.length=2∧(r.L.getD 0 0=8∨r.L.getD 0 0=9∨r.L.getD 0 0=10∨r.L.getD 0 0=11)))∧(∀ o∈r.L,o≠24∧o≠13∧o≠14):=by decide +kernel
theorem tbl_fold (r:PRow) (hr:r∈tblP):foldB 2 (r.L.map fun o=>⟨o,0⟩) r.ts=some [r.t]:=by
 have hb:=List.all_eq_true.1 tbl_ok r hr
 simp only [Bool.and_eq_true] at hb
 exact (okL_spec hb.1.2).2.2
theorem first_val {opn:Int→Bool} {ev:List Int} {o a b:Int} (h:o=8∨o=9∨o=10∨o=11):(valM opn ev ⟨o,0⟩ a b).2=0:=by
 rcases h with rfl|rfl|rfl|rfl<;>rfl
theorem foldB_cons {b:Nat} {x:Ins} {L:List Ins} {s r:Shp} (h:foldB b (x :: L) s=some r):∃ nx,nextM x s=some nx∧nx.length≤b∧foldB b L nx=some r:=by
 rw [foldB] at h
 cases hx:nextM x s with
 | none=>rw [hx] at h;cases h
 | some s1=>
   rw [hx] at h
   simp only at h
   split at h
   rename_i hl
   exact ⟨s1,rfl,hl,h⟩
   cases h
theorem firstE_app {a b:List (Int×Int)} (ha:∀ x∈a,x.2=0):firstE (a++b)=firstE b:=by
 induction a with
 | nil=>rfl
 | cons x r ih=>
   rw [List.cons_append,firstE,if_pos (ha x (by simp))]
   exact ih (fun y hy=>ha y (by simp [hy]))
set_option maxHeartbeats 4000000 in
theorem eval_plain {r:PRow} {n:Int} {l:List Nd} (hr:r∈tblP) (hts:l.map typeT=r.ts) (ih:∀ y∈l,EvalOk y) (hkid:∀ y∈l,typeT y≠0):EvalOk (.mk r.k n r.s l):=by
 intro K0 nv w sv pv st sh at_ hK0 hk0 hx ht hM hst hb
 obtain ⟨kv,rfl,hs⟩:=hx
 have hnk:∀ y∈l,nestN y<nestN (.mk r.k n r.s l):=fun y hy=>nest_kid (x:=.mk r.k n r.s l) hy
 have hev2:∀ opn ev,evalV opn ev (.mk r.k n r.s l)=combV opn ev r.k n r.s (l.map (evalV opn ev)):=fun opn ev=>evalV_eq _ _ _
 obtain ⟨⟨hk123,hk4,hk9⟩,hao,hlen12⟩:=tbl_k r hr
 obtain ⟨hL12,hLo⟩:=tbl_L r hr
 have hfold:=tbl_fold r hr
 obtain ⟨ov1,ov2,ov3⟩:=opsV_row r hr
 have hll:l.length=r.ts.length:=by rw [← hts];simp
 simp only [Nd.kind,Nd.num,Nd.word,Nd.kids] at hs ⊢
 have hbm:=hM.blk.lt
 have hobs:=fun x hx=>(hM.row.ob_le x hx).2
 have hpv:=hM.nt0 hk0
 have howl:∀ x∈K0.own,x<w.heap.size:=fun x hx=>Nat.lt_of_lt_of_le (Mch.own_lt hK0 x hx) hM.stp.size
 refine calls_of_WC2 (n:=132) Tryz.func58 rfl rfl rfl ?_
 refine W ?_
 refine WL_eff (OE_box rfl) rfl ?_
 rintro _ w1 ⟨b3,rfl,hb3,hblk,hS⟩
 replace hblk:w1.heap[b3]?=some (ndO r.k n r.s kv):=hblk
 replace hM:=(hM.up hS).keep hblk (fun h=>by have:=howl _ h;omega) (fun h=>by have:=hobs _ h;omega) (by rw [hpv];simp [ob])
 have hK:=hK0.keep (b:=b3) (o:=ndO r.k n r.s kv)
 have e0:K0.bm=(K0.keep b3 (ndO r.k n r.s kv)).bm:=rfl
 rw [show mP K0=mP (K0.keep b3 (ndO r.k n r.s kv)) from rfl]
 have hs':SlV (K0.keep b3 (ndO r.k n r.s kv)).own (K0.keep b3 (ndO r.k n r.s kv)).w0 kv l:=hs
 have hk:(K0.keep b3 (ndO r.k n r.s kv)).nk=none:=hk0
 have hun:∀ w' (z:Int×Int),ResE (K0.keep b3 (ndO r.k n r.s kv)) w' st at_ z→ResE K0 w' st at_ z:=fun w' z h=>h.un
 have hcE:K0.c=(K0.keep b3 (ndO r.k n r.s kv)).c:=rfl
 have hkE:K0.kn=(K0.keep b3 (ndO r.k n r.s kv)).kn:=rfl
 have heE:K0.ev=(K0.keep b3 (ndO r.k n r.s kv)).ev:=rfl
 rw [hcE,hkE,heE]
 have hkept:∀ {w:World} {sv pv:Value} {st:List Int} {sp:List Spn} {at_ er:Int} {dn:Bool},Mch (K0.keep b3 (ndO r.k n r.s kv)) w sv pv st sp at_ er dn→Blk w b3 27 [.int .i64 r.k,.int .i64 n,str r.s,kv]:=fun h=>h.kept
 have hne:b3≠(K0.keep b3 (ndO r.k n r.s kv)).bm:=by show b3≠K0.bm;omega
 generalize K0.keep b3 (ndO r.k n r.s kv)=K at *
 clear e0 hs hK0 hk0 howl hcE hkE heE
 generalize hopn:openM K.c K.kn=opn
 generalize hevv:K.ev=ev
 have hevo:EvOk ev:=by rw [← hevv];exact hK.ev
 have hblkN:=hkept hM
 have hsl:=hs'.ext (X':=[]) hM.stp (fun b hb=>hb) (by simp)
 have h1:r.k≠1∧r.k≠2∧r.k≠3:=by omega
 have hs1:r.k=6→¬ r.s=[97,110,100]:=fun h6 h=>hao ⟨h6,.inl h⟩
 have hs2:r.k=6→¬ r.s=[111,114]:=fun h6 h=>hao ⟨h6,.inr h⟩
 have hmax:=hsl.max
 have k6:r.k=6∨r.k≠6:=by omega
 rcases k6 with k6|k6
 all_goals repeat'(first|refine W1 ?_|omega|(exfalso;exact hs1 k6 (by assumption))|(exfalso;exact hs2 k6 (by assumption))|refine VG ?_ ?_<;>intro hg|refine VC ?_ ?_<;>intro hc)
 all_goals
  refine WC_cutB (σ:=Unit) (fun _=>[(0,mP K),(3,.pointer (some ⟨b3,0,none⟩))])
   (fun _ w'=>(∃ sv pv,Mch K w' sv pv (st++l.map fun y=>(evalV opn ev y).1) [] at_ 0 false)∧∀ y∈l,(evalV opn ev y).2=0) ?_ ?_
  refine WC_loop (σ:=Nat) (fun j=>[(0,mP K),(3,.pointer (some ⟨b3,0,none⟩)),(9,kv),(10,.int .i64 (l.length:Int)),(11,.int .i64 (j:Int))])
   (fun j w'=>j≤l.length∧(∃ sv pv,Mch K w' sv pv (st++(l.take j).map fun y=>(evalV opn ev y).1) [] at_ 0 false)∧∀ y∈l.take j,(evalV opn ev y).2=0) (fun j=>l.length - j) 0 ⟨rfl,rfl,rfl,rfl,rfl,trivial⟩ ⟨Nat.zero_le _,⟨_,_,by simpa using hM⟩,by simp⟩ ?_
  rintro j w2 ⟨hj,⟨sv1,pv1,hM1⟩,hok⟩
  have hsl1:=hs'.ext (X':=[]) hM1.stp (fun b hb=>hb) (by simp)
  by_cases hlt:j<l.length
  have hmem:=List.getElem_mem hlt
  obtain ⟨kj,oj,cj,dj⟩:=EvalOk.kid2 hK hk hs' hlt (ih _ hmem) (hkid _ hmem)
  rw [hopn,hevv] at dj
  have hn1:=hnk _ hmem
  have hstj:StOk (sh++(l.take j).map typeT) (st++(l.take j).map fun y=>(evalV opn ev y).1):=by
   refine hst.app ⟨by simp,fun i h h'=>?_⟩
   simp only [List.getElem_map]
   have hi:i<(l.take j).length:=by simpa using h
   have hmi:=List.getElem_mem hi
   exact eval_vok opn ev hevo _ (hkid _ (List.mem_of_mem_take hmi)) (hok _ hmi)
  have hbj:(sh++(l.take j).map typeT).length+nestN l[j]≤16:=by
   rw [List.length_append,List.length_map,List.length_take]
   omega
  have htk:l.take (j+1)=l.take j++[l[j]]:=List.take_succ_eq_append_getElem hlt
  focus repeat'(first|refine W1 ?_|omega|refine VG ?_ ?_<;>intro hg|refine VC ?_ ?_<;>intro hc)
  apply WL_pure (PR_loadNd rfl rfl hsl1 hlt (cj _ hM1.stp)) rfl
  refine WL_eff OE_alloc rfl ?_
  rintro _ w3 ⟨b5,rfl,hb5,e5,hS3⟩
  refine W ?_
  refine WL_eff0 (OE_storeA (us:=[.int .i64 l[j].kind,.int .i64 l[j].num,str l[j].word,kj]) rfl rfl rfl rfl (by intro u hu;simp at hu;rcases hu with rfl|rfl|rfl|rfl;exact rfl;exact rfl;exact rfl;exact oj) e5 rfl) ?_
  rintro _ w4 ⟨hT,k5⟩
  replace hM1:=hM1.up (hS3.own hT (fun c hc=>.inr (by simp at hc;omega)))
  clear e5 hT hS3
  refine W ?_
  refine CL rfl (evs2 rfl rfl) rfl (dj _ _ _ _ _ _ hM1 hstj hbj) ?_
  rintro _ w5 ⟨rfl,hres⟩
  by_cases he:(evalV opn ev l[j]).2=0
  obtain ⟨sv2,pv2,hM2⟩:=hres.go he
  have hblkM:=hM2.blk
  unfold mchC at hblkM
  refine W ?_
  refine WQ_loop (j+1) ⟨rfl,rfl,rfl,rfl,rfl,trivial⟩ ⟨hlt,⟨sv2,pv2,?_⟩,?_⟩ (by omega)
  rw [htk,List.map_append,← List.append_assoc]
  exact hM2
  intro y hy
  rw [htk,List.mem_append] at hy
  rcases hy with hy|hy
  exact hok y hy
  obtain rfl:y=l[j]:=by simpa using hy
  exact he
  obtain ⟨sv2,pv2,st2,hM2⟩:=hres.stop he
  have hblkM:=hM2.blk
  unfold mchC at hblkM
  refine W ?_
  refine WR ?_
  refine .mk ⟨rfl,hun _ _ ?_⟩
  have hfe:firstE (l.map (evalV opn ev))=(evalV opn ev l[j]).2:=by
   conv=>lhs;rw [← List.take_append_drop j l,List.map_append,List.drop_eq_getElem_cons hlt]
   rw [firstE_app (by intro x hx;obtain ⟨y,hy,rfl⟩:=List.mem_map.1 hx;exact hok y hy)]
   rw [List.map_cons,firstE,if_neg he]
  rw [hev2,plain_err opn ev n _ r hr (by rw [← hll];simp) (by rw [hfe];exact he),hfe]
  exact ResE.of he hM2
  obtain rfl:j=l.length:=by omega
  rw [List.take_length] at hM1 hok
  focus repeat'(first|refine W1 ?_|omega|refine VG ?_ ?_<;>intro hg|refine VC ?_ ?_<;>intro hc)
  exact WQ_cut () ⟨rfl,rfl,trivial⟩ ⟨⟨sv1,pv1,hM1⟩,hok⟩
  rintro _ w2 ⟨⟨sv1,pv1,hM1⟩,hok⟩
  have hblk2:=hkept hM1
  have hvs:l.map (evalV opn ev)=okv (l.map fun y=>(evalV opn ev y).1):=by
   unfold okv
   rw [List.map_map]
   exact List.map_congr_left (fun y hy=>Prod.ext rfl (hok y hy))
  have hstv:StOk r.ts (l.map fun y=>(evalV opn ev y).1):=by
   rw [← hts]
   refine ⟨by simp,fun i h h'=>?_⟩
   simp only [List.getElem_map]
   have hi:i<l.length:=by simpa using h
   have hmi:=List.getElem_mem hi
   exact eval_vok opn ev hevo _ (hkid _ hmi) (hok _ hmi)
  have hline:=plain_line opn ev n st (l.map fun y=>(evalV opn ev y).1) r hr hstv
  rw [← hvs] at hline
  rw [hev2]
  generalize combV opn ev r.k n r.s (l.map (evalV opn ev))=R at hline ⊢
  generalize (l.map fun y=>(evalV opn ev y).1)=vs at hstv hline hM1
  obtain ⟨hl1,hl2⟩:=hline
  have hXlt:∀ b∈K.own++ob sv1++ob pv1,b<w2.heap.size:=by
   intro b hb
   simp only [List.mem_append] at hb
   rcases hb with (hb|hb)|hb
   exact Nat.lt_of_lt_of_le (Mch.own_lt hK b hb) hM1.stp.size
   exact (hM1.row.ob_le b hb).2
   rw [hM1.nt0 hk] at hb;simp [ob] at hb
  refine W ?_
  refine CL rfl (evs1 rfl) rfl (operations_any (K.own++ob sv1++ob pv1) r.k n r.s kv _ hXlt ov2) ?_
  rintro rv w3 ⟨hrv,hS3⟩
  replace hM1:=hM1.up hS3
  have hLpos:0<(opsV r.k r.s).length:=by rw [ov1];omega
  have hrv0:=hrv.ext (X':=[]) (Stp.refl [] _) (by simp) (by simp)
  obtain ⟨bq,oo,hoo,hbq,hq1,hq2,hq3⟩:∃ bq oo,w3.heap[bq]?=some oo∧(∀ b∈ob rv,b=bq)∧bq∉K.own∧bq∉ob sv1∧bq∉ob pv1:=by
   obtain ⟨p,c,rfl,-,-,-,hcell⟩:=id hrv
   obtain ⟨bq,oq,csq,rfl,hbq,hxq,-⟩:=hcell 0 hLpos
   simp only [List.mem_append,not_or] at hxq
   exact ⟨bq,_,Array.getElem?_eq_getElem hbq,by simp [ob],hxq.1.1,hxq.1.2,hxq.2⟩
  have hM2:=hM1.keep hoo hq1 hq2 hq3
  have hK2:=hK.keep (b:=bq) (o:=oo)
  have hk2:(K.keep bq oo).nk=none:=hk
  have hrvK:∀ {w:World} {sv pv:Value} {st:List Int} {sp:List Spn} {at_ er:Int} {dn:Bool},Mch (K.keep bq oo) w sv pv st sp at_ er dn→SlV [] w rv (opsV r.k r.s):=fun h=>SlV.keepC hrv (fun b hb=>by rw [hbq b hb];exact h.kept.trans hoo.symm)
  have hun2:∀ w' (z:Int×Int),ResE (K.keep bq oo) w' st at_ z→ResE K0 w' st at_ z:=fun w' z h=>hun w' z h.un
  rw [show mP K=mP (K.keep bq oo) from rfl]
  have ho2:openM (K.keep bq oo).c (K.keep bq oo).kn=opn:=hopn
  have he2:(K.keep bq oo).ev=ev:=hevv
  generalize K.keep bq oo=K2 at *
  refine W ?_
  refine WC_loop (σ:=Nat) (fun i=>[(0,mP K2),(24,rv),(25,.int .i64 ((opsV r.k r.s).length:Int)),(26,.int .i64 (i:Int))])
   (fun i w'=>(i<r.L.length∧∃ sv pv st' ts',ts'.length≤2∧Mch K2 w' sv pv st' [] at_ 0 false∧StOk (sh++ts') st'∧foldB 2 ((r.L.drop i).map fun o=>⟨o,0⟩) ts'=some [r.t]∧runL opn ev (r.L.drop i) st'=runL opn ev r.L (st++vs))∨(i=r.L.length∧ResE K2 w' st at_ R)) (fun i=>r.L.length - i) 0 ⟨rfl,rfl,rfl,rfl,trivial⟩
   (.inl ⟨by omega,sv1,pv1,_,r.ts,by omega,hM2,hst.app hstv,hfold,rfl⟩) ?_
  rintro i w4 (⟨hi,sv2,pv2,st',ts',ht2,hM4,hst4,hf4,hr4⟩|⟨rfl,hres⟩)
  have hrv4:=hrvK hM4
  have hio:i<(opsV r.k r.s).length:=by omega
  have hdrop:r.L.drop i=r.L.getD i 0 :: r.L.drop (i+1):=by
   rw [List.drop_eq_getElem_cons hi]
   congr 1
   simp [List.getD,hi]
  have hop:=hLo (r.L.getD i 0) (by simp [List.getD,hi])
  rw [hdrop,List.map_cons] at hf4
  obtain ⟨nx,hn1,hn2,hn3⟩:=foldB_cons hf4
  have hx1:1≤nestN (.mk r.k n r.s l):=by rw [nestN_eq];omega
  have hx2:2≤nestN (.mk r.k n r.s l):=by
   have:0<l.length:=by omega
   have:=hnk _ (List.getElem_mem this)
   have h9:1≤nestN l[0]:=by rw [nestN_eq];omega
   omega
  have hnf:=next_frame (s:=sh) hn1 (by omega)
  have hget:=ov3 i hi
  rw [List.getElem?_map,List.getElem?_eq_getElem hio] at hget
  have hget2:fnV (opsV r.k r.s)[i].f=mget stepsL (r.L.getD i 0) .nilFunc:=by simpa using hget
  have hst16:st'.length≤100000:=by
   have h7:=hst4.1
   rw [List.length_append] at h7
   omega
  focus repeat'(first|refine W1 ?_|omega|refine VG ?_ ?_<;>intro hg|refine VC ?_ ?_<;>intro hc)
  refine WL_eff (OE_step (x:=⟨r.L.getD i 0,0⟩) hK2 hM4 hnf hst4 hst16 (by simp) (by show some _=some _;rw [← hget2]) rfl rfl) rfl ?_
  rintro _ w5 ⟨rfl,hstep⟩
  unfold StepR at hstep
  rw [if_neg hop.1,if_neg hop.2.1,if_neg hop.2.2,ho2,he2] at hstep
  rw [hdrop,runL] at hr4
  obtain ⟨sv6,pv6,st6,sp6,hM6,hok6⟩:=hstep
  replace hM6:=hM6.nosp hk2 (sp':=[])
  by_cases hlast:i+1=r.L.length
  have hd0:r.L.drop (i+1)=[]:=by rw [hlast];simp
  rw [hd0] at hr4
  refine W ?_
  refine WQ_loop (i+1) ⟨rfl,rfl,rfl,rfl,trivial⟩ (.inr ⟨hlast,?_⟩) (by omega)
  by_cases he:(valM opn ev ⟨r.L.getD i 0,0⟩ (topK st' 1) (topK st' 0)).2=0
  rw [if_pos he] at hr4
  rw [← hr4] at hl1 hl2
  obtain ⟨e1,e2⟩:=hok6 he
  rw [he] at hM6
  have hR0:R.2=0:=hl1.symm
  refine ⟨sv6,pv6,st6,by rw [hR0];exact hM6,fun _=>?_⟩
  rw [e1]
  exact hl2 hR0
  rw [if_neg he] at hr4
  rw [← hr4] at hl1 hl2
  have hR0:R.2=(valM opn ev ⟨r.L.getD i 0,0⟩ (topK st' 1) (topK st' 0)).2:=hl1.symm
  refine ⟨sv6,pv6,st6,by rw [hR0];exact hM6,fun h0=>absurd h0 (by rw [hR0];exact he)⟩
  have hi0:i=0∧r.L.length=2:=by omega
  have hfst:(valM opn ev ⟨r.L.getD i 0,0⟩ (topK st' 1) (topK st' 0)).2=0:=by
   rw [hi0.1]
   rcases hL12 with h|⟨-,h⟩
   omega
   exact first_val h
  rw [if_pos hfst] at hr4
  obtain ⟨e1,e2⟩:=hok6 hfst
  rw [hfst] at hM6
  have hvs4:=vstep_ok (opn:=opn) hevo hnf (by exact hop.1) (by exact hop.2.1) (by exact hop.2.2) hst4 hfst
  refine W ?_
  refine WQ_loop (i+1) ⟨rfl,rfl,rfl,rfl,trivial⟩ (.inl ⟨by omega,sv6,pv6,st6,nx,hn2,hM6,?_,hn3,?_⟩) (by omega)
  rw [e1];exact hvs4
  rw [e1];exact hr4
  focus repeat'(first|refine W1 ?_|omega|refine VG ?_ ?_<;>intro hg|refine VC ?_ ?_<;>intro hc)
  refine WR ?_
  exact .mk ⟨rfl,hun2 _ _ hres⟩
theorem eval_all (x:Nd):typeT x≠0→EvalOk x:=by
 induction x using Nd.ind with
 | h k n s l ih=>
 intro ht
 have hkid:∀ y∈l,typeT y≠0:=fun y hy=>typeT_kid (x:=.mk k n s l) ht hy
 rcases typed_view ht with ⟨rfl,hlf⟩|⟨rfl,a,b,c,rfl,ta,tb,tc⟩|⟨rfl,hs,a,b,rfl,ta,tb,ht2⟩|⟨r,hr,rfl,rfl,hts,htt⟩
 exact eval_leaf hlf
 exact eval_if (ih a (by simp) (hkid a (by simp))) (ih b (by simp) (hkid b (by simp))) (ih c (by simp) (hkid c (by simp))) ta (hkid b (by simp)) (hkid c (by simp))
 rcases hs with rfl|rfl
 exact eval_and (ih a (by simp) (hkid a (by simp))) (ih b (by simp) (hkid b (by simp))) ta tb
 exact eval_or (ih a (by simp) (hkid a (by simp))) (ih b (by simp) (hkid b (by simp))) ta tb
 exact eval_plain hr hts (fun y hy=>ih y hy (hkid y hy)) hkid
theorem VEval_any (nv:Value) (x:Nd) (kn:Int) (ev:List Int) (c:Cal) (hv cv zo zs hr:Value) (w:World) (hx:NdV [] w nv x) (ht:typeT x≠0) (hnest:nestN x≤16) (hcal:CalV w c hv cv zo zs hr) (hev:EvOk ev) (ho:zo.oneCell'=true∧zs.oneCell'=true∧hr.oneCell'=true) :
 Calls Tryz.prog 20 #[nv,evA' ev,calA c hv cv zo zs hr,.int .i64 kn] w (Ret fun r w'=>r=.tuple #[.int .i64 (if (evalV (openM c kn) ev x).2=0 then (evalV (openM c kn) ev x).1 else 0),.int .i64 (evalV (openM c kn) ev x).2]∧Stp [] w w'):=by
 obtain ⟨kv,rfl,hsk⟩:=hx
 have hone:=hsk.one
 refine calls_of_WC4 (n:=30) Tryz.func20 rfl rfl rfl ?_
 refine W ?_
 refine WL_eff (OE_box rfl) rfl ?_
 rintro _ w1 ⟨b4,rfl,hb4,k4,hS⟩
 replace k4:Blk w1 b4 27 [.int .i64 x.kind,.int .i64 x.num,str x.word,kv]:=k4
 refine WL_eff (OE_box rfl) rfl ?_
 rintro _ w2 ⟨b5,rfl,hb5,k5,hS2⟩
 replace k5:Blk w2 b5 29 (evC ev):=k5
 replace k4:=k4.up hS2
 replace hS:=hS.trans hS2
 refine WL_eff (OE_box rfl) rfl ?_
 rintro _ w3 ⟨b6,rfl,hb6,k6,hS3⟩
 replace k6:Blk w3 b6 37 (calC c hv cv zo zs hr):=k6
 replace k4:=k4.up hS3
 replace k5:=k5.up hS3
 replace hS:=hS.trans hS3
 clear hS2 hS3
 refine W ?_
 refine WL_build (vs:=[(0,evA' ev),(1,calA c hv cv zo zs hr),(2,.int .i64 kn),(7,.func (.func 57) #[] #[])]) rfl (buildM0 ev c hv cv zo zs hr kn) rfl ?_
 refine WL_eff (OE_box rfl) rfl ?_
 rintro _ w4 ⟨bm,rfl,hbm,km,hS4⟩
 replace km:Blk w4 bm 126 (evC ev++calC c hv cv zo zs hr++([.int .i64 kn,.slice none 0 0,.int .i64 0,.int .i64 0,.bool false,.func (.func 57) #[] #[]]:List Value)):=km
 have hbmw:w.heap.size≤bm:=Nat.le_trans hS.size hbm
 replace k4:=k4.up hS4
 replace hS:=hS.trans hS4
 clear k5 k6 hS4
 obtain ⟨K,e1,e2,hk,e4,e5,e6,e7,e8,e9,e10,e11,e12⟩:∃ K:MK,K.w0=w4∧K.bm=bm∧K.nk=none∧K.ev=ev∧K.c=c∧K.kn=kn∧K.hv=hv∧K.cv=cv∧K.zo=zo∧K.zs=zs∧K.hr=hr∧K.pr=[]:=⟨⟨w4,bm,none,ev,c,kn,hv,cv,zo,zs,hr,[]⟩,rfl,rfl,rfl,rfl,rfl,rfl,rfl,rfl,rfl,rfl,rfl,rfl⟩
 subst e1 e2 e4 e5 e6 e7 e8 e9 e10 e11
 have own_eq:K.own=[K.bm]:=by simp [MK.own,hk]
 have own_ge:∀ b∈K.own,w.heap.size≤b:=fun b hb=>by rw [own_eq] at hb;simp at hb;omega
 have hcw:=hcal.up hS
 have g1:1<w.heap.size:=by have:=block_lt_of_cell (hcal.len 0 0 rfl);simpa using this
 have g2:3<w.heap.size:=by have:=block_lt_of_cell (hcal.mov 0 0 rfl);simpa using this
 have hK:KOk K:=
  { hols := hcal.hols.ext hS (by simp) (fun b hb => .inr (own_ge b hb))
    clos:=hcal.clos.ext hS (by simp) (fun b hb=>.inr (own_ge b hb))
    ozo:=ho.1,ozs:=ho.2.1,ohr:=ho.2.2
    len:=hcw.len,mov:=hcw.mov
    bml:=km.lt
    nkl:=fun b hb=>by rw [hk] at hb;cases hb
    gl:=fun b hb=>by have:=own_ge b hb;omega
    cal:=hcal.ok
    ev:=hev }
 have hM:Mch K K.w0 (.slice none 0 0) (.slice none 0 0) [] [] 0 0 false:=
  { blk := by unfold mchC; rw [hk]; exact km
    row:=Row.nil
    nt:=fun b hb=>by rw [hk] at hb;cases hb
    nt0:=fun _=>rfl
    ap:=by simp [ob]
    stp:=Stp.refl _ _
    prot:=fun p hp=>by rw [e12] at hp;cases hp }
 have hx0:SlV K.own K.w0 kv x.kids:=hsk.ext hS (by simp) (fun b hb=>.inr (own_ge b hb))
 refine W ?_
 refine CL rfl (evs2 rfl rfl) rfl (eval_all x ht K _ _ _ _ [] [] 0 hK hk ⟨kv,rfl,hx0⟩ ht hM StOk.nil (by simpa using hnest)) ?_
 rintro _ w5 ⟨rfl,hres⟩
 have fin:∀ w',Stp K.own K.w0 w'→Stp [] w w':=fun w' h=>hS.own h (fun b hb=>.inr (own_ge b hb))
 by_cases he:(evalV (openM K.c K.kn) K.ev x).2=0
 rw [if_pos he]
 obtain ⟨sv,pv,hM5⟩:=hres.go he
 have hblk:=hM5.blk
 unfold mchC at hblk
 refine W ?_
 refine CL rfl (evs1 rfl) rfl (pop_any hK hM5) ?_
 rintro _ w6 ⟨rfl,sv6,hM6⟩
 refine W ?_
 refine WR ?_
 exact .mk ⟨by rw [he],fin _ hM6.stp⟩
 rw [if_neg he]
 obtain ⟨sv,pv,st2,hM5⟩:=hres.stop he
 have hblk:=hM5.blk
 unfold mchC at hblk
 focus repeat'(first|refine W1 ?_|omega|refine VG ?_ ?_<;>intro hg|refine VC ?_ ?_<;>intro hc)
 refine WC_drawn 6 [] [] [(0,0),(1,0),(2,0),(3,1),(4,0),(5,0)] rfl mixed (by kernel_rfl) (by kernel_rfl) (by kernel_rfl) (fun w1 hS1=>?_)
 replace hM5:=hM5.up hS1
 replace hblk:=hblk.up hS1
 refine D ?_
 refine W ?_
 refine WR ?_
 exact .mk ⟨rfl,fin _ hM5.stp⟩
def sr1:Str:=[100,97,121,32,43,32,51,32,100,97,121,115]
def sr2:Str:=[100,97,121,32,45,32,49,32,109,111,110,116,104,115]
def sr3:Str:=[105,102,32,116,114,117,101,32,116,104,101,110,32,100,97,121,32,101,108,115,101,32,115,101,114,118,101,100,32,101,110,100]
def sr4:Str:=[115,101,114,118,101,100]
def sr5:Str:=[50,49,52,55,52,56,51,54,52,55,32,43,32,49]
def xr1:Nd:=.mk 7 0 [100,97,121,115] [.mk 4 0 [100,97,121] [],.mk 1 3 [] []]
def xr2:Nd:=.mk 8 0 [109,111,110,116,104,115] [.mk 4 0 [100,97,121] [],.mk 1 1 [] []]
def xr3:Nd:=.mk 9 0 [] [.mk 2 1 [] [],.mk 4 0 [100,97,121] [],.mk 4 0 [115,101,114,118,101,100] []]
def xr4:Nd:=.mk 4 0 [115,101,114,118,101,100] []
def xr5:Nd:=.mk 6 0 [43] [.mk 1 2147483647 [] [],.mk 1 1 [] []]
theorem lvp1:parseE sr1=.ok xr1:=by kernel_rfl
theorem lvp2:parseE sr2=.ok xr2:=by kernel_rfl
theorem lvp3:parseE sr3=.ok xr3:=by kernel_rfl
theorem lvp4:parseE sr4=.ok xr4:=by kernel_rfl
theorem lvp5:parseE sr5=.ok xr5:=by kernel_rfl
def weekC:Cal:=⟨[false,false,false,false,false,true,true],[],[]⟩
def ev0:List Int:=[739616,-1,0,0,0,0,0]
theorem weekOk:CalOk weekC:=⟨rfl,by simp [weekC],by decide⟩
theorem ev0Ok:EvOk ev0:=evok16 (by omega) (by omega) (by omega) (by omega) (by omega) (by omega) (by omega)
theorem lvv1:evalV (openM weekC 0) ev0 xr1=(739619,0):=by
 simp only [xr1,evalV,List.map_cons,List.map_nil]
 kernel_rfl
theorem lvv2:evalV (openM weekC 0) ev0 xr2=(739585,0):=by
 simp only [xr2,evalV,List.map_cons,List.map_nil]
 kernel_rfl
theorem lvv3:evalV (openM weekC 0) ev0 xr3=(739616,0):=by
 simp only [xr3,evalV,List.map_cons,List.map_nil]
 kernel_rfl
theorem lvv4:(evalV (openM weekC 0) ev0 xr4).2=32:=by
 simp only [xr4,evalV,List.map_cons,List.map_nil]
 kernel_rfl
theorem lvv5:(evalV (openM weekC 0) ev0 xr5).2=5:=by
 simp only [xr5,evalV,List.map_cons,List.map_nil]
 kernel_rfl
theorem lvt1:typeT xr1=3∧nestN xr1≤16:=by
 simp only [xr1,typeT,nestN,List.map_cons,List.map_nil]
 exact ⟨by kernel_rfl,of_decide_eq_true (by kernel_rfl)⟩
theorem lvt2:typeT xr2=3∧nestN xr2≤16:=by
 simp only [xr2,typeT,nestN,List.map_cons,List.map_nil]
 exact ⟨by kernel_rfl,of_decide_eq_true (by kernel_rfl)⟩
theorem lvt3:typeT xr3=3∧nestN xr3≤16:=by
 simp only [xr3,typeT,nestN,List.map_cons,List.map_nil]
 exact ⟨by kernel_rfl,of_decide_eq_true (by kernel_rfl)⟩
theorem lvt4:typeT xr4=3∧nestN xr4≤16:=by
 simp only [xr4,typeT,nestN,List.map_cons,List.map_nil]
 exact ⟨by kernel_rfl,of_decide_eq_true (by kernel_rfl)⟩
theorem lvt5:typeT xr5=1∧nestN xr5≤16:=by
 simp only [xr5,typeT,nestN,List.map_cons,List.map_nil]
 exact ⟨by kernel_rfl,of_decide_eq_true (by kernel_rfl)⟩
def cd1:List Ins:=[⟨4,0⟩,⟨1,3⟩,⟨15,0⟩,⟨19,0⟩,⟨24,0⟩]
def cd2:List Ins:=[⟨4,0⟩,⟨1,2⟩,⟨18,0⟩,⟨24,0⟩]
theorem lvc1:verM cd1=(3,0):=by kernel_rfl
theorem lvc2:verM cd2=(3,0):=by kernel_rfl
theorem lvr1:runAll (openM weekC 0) ev0 cd1=(739620,[(739619,739620)],0):=by kernel_rfl
theorem lvr2:runAll (openM weekC 0) ev0 cd2=(739620,[(739617,739620)],0):=by kernel_rfl
open Go Go.Eng Go.RowKit Go.Proofs
abbrev weekA:Value:=calA weekC (.slice none 0 0) (.slice none 0 0) (.int .i64 0) (.slice none 0 0) (.int .i64 1000)
theorem buildW5 (w:World):(Instr.build 30 #[(5,.bool true),(6,.bool true)]).run Tryz.prog w=.ok (.agg #[.bool false,.bool false,.bool false,.bool false,.bool false,.bool true,.bool true]) w:=by kernel_rfl
theorem buildWk (w:World):(Instr.build 37 #[(0,.agg #[.bool false,.bool false,.bool false,.bool false,.bool false,.bool true,.bool true]),(4,.int .i64 1000)]).run Tryz.prog w=.ok weekA w:=by kernel_rfl
theorem buildE0 (w:World):(Instr.build 29 #[(0,.int .i64 739616),(1,.int .i64 (-1))]).run Tryz.prog w=.ok (evA' ev0) w:=by kernel_rfl
theorem weekV {w:World} (hL:LenG w) (hM:MovG w):CalV w weekC (.slice none 0 0) (.slice none 0 0) (.int .i64 0) (.slice none 0 0) (.int .i64 1000):=
 ⟨Row.slv (X:=[]) (Row.nil (base:=0) (T:=0)) (by simp),Row.slv (X:=[]) (Row.nil (base:=0) (T:=0)) (by simp),hL,hM,weekOk⟩
theorem week16_any (w:World):Calls Tryz.prog 48 #[] w (Ret fun r w'=>r=weekA∧Stp [] w w'):=by
 refine calls_of_WC0 (n:=3) Tryz.func48 rfl rfl ?_
 refine W ?_
 refine WL_eff OE_alloc rfl ?_
 rintro _ w1 ⟨b0,rfl,hb0,k0,hS⟩
 refine W ?_
 refine WL_build (vs:=[(5,.bool true),(6,.bool true)]) rfl (buildW5) rfl ?_
 refine WL_build (vs:=[(0,.agg #[.bool false,.bool false,.bool false,.bool false,.bool false,.bool true,.bool true]),(4,.int .i64 1000)]) rfl (buildWk) rfl ?_
 refine WL_eff0 (OE_storeA (us:=calC weekC (.slice none 0 0) (.slice none 0 0) (.int .i64 0) (.slice none 0 0) (.int .i64 1000)) rfl rfl rfl rfl (cal_one rfl rfl ⟨rfl,rfl,rfl⟩) k0 rfl) ?_
 rintro _ w2 ⟨hT,k0⟩
 refine W ?_
 refine WQ_retc rfl rfl rfl k0 rfl ?_
 exact .mk ⟨rfl,hS.own hT (fun c hc=>.inr (by simp at hc;omega))⟩
theorem gives_any (s:Str) (x:Nd) (d e:Int) (er:Value) (m:Int) (w:World) (hp:parseE s=.ok x) (ht:typeT x≠0∧nestN x≤16) (hv:evalV (openM weekC 0) ev0 x=(d,e)∨(d=0∧e≠0∧(evalV (openM weekC 0) ev0 x).2=e)) (he:d=0∨e=0) (hL:LenG w) (hM:MovG w) (hm:w.cell? ⟨2,0,none⟩=some (.int .i64 m)) (hv4:w.cell? ⟨5,0,none⟩=some er) (hev:er=.nilIface∨∃ te pe,er=.iface te pe) (hl:s.length≤1000000) :
 Calls Tryz.prog 50 #[str s,.int .i64 d,.int .i64 e] w (Ret fun r w'=>r=.bool true∧Stp [] w w'):=by
 have hd:(if (evalV (openM weekC 0) ev0 x).2=0 then (evalV (openM weekC 0) ev0 x).1 else 0)=d∧(evalV (openM weekC 0) ev0 x).2=e:=by
  rcases hv with h|⟨h1,h2,h3⟩
  rw [h]
  dsimp only
  rcases he with h0|h0
  subst h0
  exact ⟨by split<;>rfl,rfl⟩
  rw [if_pos h0]
  exact ⟨rfl,rfl⟩
  rw [h3,if_neg h2]
  exact ⟨h1.symm,rfl⟩
 refine calls_of_WC3 (n:=35) Tryz.func50 rfl rfl rfl ?_
 refine W ?_
 refine CL rfl (evs1 rfl) rfl (ExprP_any [] s er m _ (by simp) hL hm hv4 hev hl) ?_
 rintro r w1 ⟨hr,hS⟩
 rw [hp] at hr
 obtain ⟨kv,rfl,hkv⟩:=hr
 refine W ?_
 refine WL_eff OE_alloc rfl ?_
 rintro _ w2 ⟨b7,rfl,hb7,k7,hT⟩
 refine W ?_
 refine WL_eff0 (OE_storeA (us:=ndC x kv) rfl rfl rfl rfl (ndC_one hkv) k7 rfl) ?_
 rintro _ w3 ⟨hT2,k7⟩
 have hT3:=hT.own hT2 (fun c hc=>.inr (by simp at hc;omega))
 replace hkv:=hkv.up hT3
 replace hS:=hS.trans hT3
 clear hT hT2 hT3
 repeat'(first|refine W1 ?_|omega|refine VG ?_ ?_<;>intro hg|refine VC ?_ ?_<;>intro hc)
 refine WC_drawn 9 [] [] [(0,1),(1,0),(2,2),(3,2),(4,0),(5,0),(6,0),(7,0),(8,0)] rfl mixed (by kernel_rfl) (by kernel_rfl) (by kernel_rfl) (fun w1 hS1=>?_)
 have hT:=hS1
 replace k7:=k7.up hT
 replace hkv:=hkv.up hT
 replace hS:=hS.trans hT
 clear hT hS1
 refine D ?_
 refine WD_free rfl trivial (fun w'=>PR_build (vs:=[(0,.int .i64 739616),(1,.int .i64 (-1))]) rfl (buildE0)) rfl ?_
 refine D ?_
 refine WD_eff rfl trivial (OE_call rfl evs0 (week16_any _)) (fun _ _ h=>h.2) rfl ?_
 rintro _ w5 ⟨rfl,hT⟩
 replace k7:=k7.up hT
 replace hkv:=hkv.up hT
 replace hS:=hS.trans hT
 clear hT
 refine D ?_
 refine WD_eff rfl trivial (OE_call rfl (evs4 rfl rfl rfl rfl) (VEval_any _ x 0 ev0 weekC _ _ _ _ _ _ ⟨kv,rfl,hkv⟩ ht.1 ht.2 (weekV (hL.up hS) (hM.up hS)) ev0Ok ⟨rfl,rfl,rfl⟩)) (fun _ _ h=>h.2) rfl ?_
 rintro _ w6 ⟨rfl,hT⟩
 replace hS:=hS.trans hT
 clear hT
 rw [hd.1,hd.2]
 refine D ?_
 refine W ?_
 simp only [decide_true]
 refine W ?_
 refine WR ?_
 exact .mk ⟨by simp,hS⟩
theorem buildI1 (a:Int) (w:World):(Instr.build 51 #[(0,.int .i64 a)]).run Tryz.prog w=.ok (agg (⟨a,0⟩:Ins)) w:=by kernel_rfl
theorem buildI2 (a b:Int) (w:World):(Instr.build 51 #[(0,.int .i64 a),(1,.int .i64 b)]).run Tryz.prog w=.ok (agg (⟨a,b⟩:Ins)) w:=by kernel_rfl
theorem buildS5 (w:World):(Instr.buildSlice 40 5 #[(0,agg (⟨4,0⟩:Ins)),(1,agg (⟨1,3⟩:Ins)),(2,agg (⟨15,0⟩:Ins)),(3,agg (⟨19,0⟩:Ins)),(4,agg (⟨24,0⟩:Ins))]).run Tryz.prog w=.ok (.slice (some ⟨w.heap.size,0,none⟩) 5 5) (w.alloc (.cells (cd1.flatMap Flat.enc).toArray 51)):=by kernel_rfl
theorem buildS4 (w:World):(Instr.buildSlice 40 4 #[(0,agg (⟨4,0⟩:Ins)),(1,agg (⟨1,2⟩:Ins)),(2,agg (⟨18,0⟩:Ins)),(3,agg (⟨24,0⟩:Ins))]).run Tryz.prog w=.ok (.slice (some ⟨w.heap.size,0,none⟩) 4 4) (w.alloc (.cells (cd2.flatMap Flat.enc).toArray 51)):=by kernel_rfl
theorem buildSp2 (a b:Int) (w:World):(Instr.build 111 #[(0,.int .i64 a),(1,.int .i64 b)]).run Tryz.prog w=.ok (agg ((a,b):Spn)) w:=by kernel_rfl
theorem lives16_any (er:Value) (m:Int) (w:World) (hL:LenG w) (hM:MovG w) (hm:w.cell? ⟨2,0,none⟩=some (.int .i64 m)) (hv4:w.cell? ⟨5,0,none⟩=some er) (hev:er=.nilIface∨∃ te pe,er=.iface te pe) :
 Calls Tryz.prog 14 #[] w (Ret fun r w'=>r=.bool true∧Stp [] w w'):=by
 refine calls_of_WC0 (n:=81) Tryz.func14 rfl rfl ?_
 refine W ?_
 refine WL_build (vs:=[(0,.int .i64 739616),(1,.int .i64 (-1))]) rfl (buildE0) rfl ?_
 refine WL_eff OE_alloc rfl ?_
 rintro _ w1 ⟨b1,rfl,hb1,k1,hS⟩
 refine W ?_
 refine WL_eff0 (OE_storeA (us:=evC ev0) rfl rfl rfl rfl (ev_one _) k1 rfl) ?_
 rintro _ w2 ⟨hT,k1⟩
 replace hS:=hS.own hT (fun c hc=>.inr (by simp at hc;omega))
 clear hT
 refine W ?_
 refine WL_build (vs:=[(0,.int .i64 4)]) rfl (buildI1 _) rfl ?_
 refine WL_build (vs:=[(0,.int .i64 1),(1,.int .i64 3)]) rfl (buildI2 _ _) rfl ?_
 refine WL_build (vs:=[(0,.int .i64 15)]) rfl (buildI1 _) rfl ?_
 refine WL_build (vs:=[(0,.int .i64 19)]) rfl (buildI1 _) rfl ?_
 refine WL_build (vs:=[(0,.int .i64 24)]) rfl (buildI1 _) rfl ?_
 refine WL_eff (OE_buildSlice (vs:=[(0,agg (⟨4,0⟩:Ins)),(1,agg (⟨1,3⟩:Ins)),(2,agg (⟨15,0⟩:Ins)),(3,agg (⟨19,0⟩:Ins)),(4,agg (⟨24,0⟩:Ins))]) rfl (buildS5)) rfl ?_
 rintro cv1 w3 hN
 have hc1:SlV [] w3 cv1 cd1:=hN.slv (by simp) rfl rfl (by simp [maxLen,cd1])
 have hT:=NewSl.stp hN
 clear hN
 replace k1:=k1.up hT
 replace hS:=hS.trans hT
 clear hT
 refine W ?_
 refine WC_drawn 11 [] [] [(0,0),(1,1),(2,2),(3,2),(4,0),(5,0),(6,0),(7,0),(8,0),(9,0),(10,0)] rfl mixed (by kernel_rfl) (by kernel_rfl) (by kernel_rfl) (fun w1 hS1=>?_)
 have hT:=hS1
 replace k1:=k1.up hT
 replace hc1:=hc1.up hT
 replace hS:=hS.trans hT
 clear hT hS1
 refine D ?_
 refine WD_eff rfl trivial (OE_call rfl evs0 (week16_any _)) (fun _ _ h=>h.2) rfl ?_
 rintro _ w5 ⟨rfl,hT⟩
 replace k1:=k1.up hT
 replace hc1:=hc1.up hT
 replace hS:=hS.trans hT
 clear hT
 refine D ?_
 refine WD_eff rfl trivial (OE_call rfl (evs4 rfl rfl rfl rfl) (VRun_any cv1 cd1 3 0 ev0 weekC _ _ _ _ _ _ hc1 lvc1 (weekV (hL.up hS) (hM.up hS)) ev0Ok ⟨rfl,rfl,rfl⟩)) (fun _ _ h=>h.choose_spec.2.2) rfl ?_
 rintro _ w6 ⟨pv1,rfl,hp1⟩
 rw [lvr1] at hp1 ⊢
 dsimp only at hp1 ⊢
 have hsp1:=hp1.slv (X:=[]) (by simp)
 replace k1:=k1.up hp1.2
 replace hS:=hS.trans hp1.2
 clear hp1 hc1
 refine D ?_
 refine W ?_
 refine WC_drawn 15 [] [] [(0,0),(1,0),(2,0),(3,0),(5,1),(4,9),(6,2),(7,2),(8,0),(9,0),(10,0),(11,0),(12,0),(13,0),(14,0)] rfl mixed (by kernel_rfl) (by kernel_rfl) (by kernel_rfl) (fun w1 hS1=>?_)
 have hT:=hS1
 replace k1:=k1.up hT
 replace hsp1:=hsp1.up hT
 replace hS:=hS.trans hT
 clear hT hS1
 refine WD_free rfl trivial (fun w'=>PR_build (vs:=[(0,.int .i64 4)]) rfl (buildI1 _)) rfl ?_
 refine WD_free rfl trivial (fun w'=>PR_build (vs:=[(0,.int .i64 1),(1,.int .i64 2)]) rfl (buildI2 _ _)) rfl ?_
 refine WD_free rfl trivial (fun w'=>PR_build (vs:=[(0,.int .i64 18)]) rfl (buildI1 _)) rfl ?_
 refine WD_free rfl trivial (fun w'=>PR_build (vs:=[(0,.int .i64 24)]) rfl (buildI1 _)) rfl ?_
 refine D ?_
 apply WD_two rfl
 refine WD1_eff rfl trivial (OE_buildSlice (vs:=[(0,agg (⟨4,0⟩:Ins)),(1,agg (⟨1,2⟩:Ins)),(2,agg (⟨18,0⟩:Ins)),(3,agg (⟨24,0⟩:Ins))]) rfl (buildS4)) (fun _ _ h=>(NewSl.stp h).mono (by simp)) rfl ?_
 rintro cv2 w8 hN
 have hc2:SlV [] w8 cv2 cd2:=hN.slv (by simp) rfl rfl (by simp [maxLen,cd2])
 have hT:=NewSl.stp hN
 clear hN
 replace k1:=k1.up hT
 replace hsp1:=hsp1.up hT
 replace hS:=hS.trans hT
 clear hT
 refine WD_eff rfl trivial (OE_call rfl evs0 (week16_any _)) (fun _ _ h=>h.2) rfl ?_
 rintro _ w9 ⟨rfl,hT⟩
 replace k1:=k1.up hT
 replace hsp1:=hsp1.up hT
 replace hc2:=hc2.up hT
 replace hS:=hS.trans hT
 clear hT
 refine D ?_
 refine WD_eff rfl trivial (OE_call rfl (evs4 rfl rfl rfl rfl) (VRun_any cv2 cd2 3 0 ev0 weekC _ _ _ _ _ _ hc2 lvc2 (weekV (hL.up hS) (hM.up hS)) ev0Ok ⟨rfl,rfl,rfl⟩)) (fun _ _ h=>h.choose_spec.2.2) rfl ?_
 rintro _ w10 ⟨pv2,rfl,hp2⟩
 rw [lvr2] at hp2 ⊢
 dsimp only at hp2 ⊢
 have hsp2:=hp2.slv (X:=[]) (by simp)
 replace hsp1:=hsp1.up hp2.2
 replace hS:=hS.trans hp2.2
 clear hp2 hc2 k1
 refine D ?_
 refine W ?_
 simp only [eq_self,decide_true]
 refine WL_build (vs:=[(0,.int .i64 739619),(1,.int .i64 739620)]) rfl (buildSp2 _ _) rfl ?_
 refine WL_go rfl ?_
 refine WL_eff (OE_buildSlice (vs:=[(0,agg ((739619,739620):Spn))]) rfl (buildSSp _)) rfl ?_
 rintro bw w11 hN
 have hbw:SlV [] w11 bw [((739619,739620):Spn)]:=hN.slv (by simp) rfl rfl (by simp [maxLen])
 have hT:=NewSl.stp hN
 clear hN
 replace hsp1:=hsp1.up hT
 replace hsp2:=hsp2.up hT
 replace hS:=hS.trans hT
 clear hT
 refine WL_go rfl ?_
 refine CL rfl (evs2 rfl rfl) rfl (SameSpans_any _ bw _ _ _ hsp1 hbw) ?_
 rintro _ w12 ⟨rfl,hT⟩
 replace hsp2:=hsp2.up hT
 replace hS:=hS.trans hT
 clear hT
 simp only [eq_self,decide_true]
 refine W ?_
 simp only [eq_self,decide_true]
 refine WL_build (vs:=[(0,.int .i64 739617),(1,.int .i64 739620)]) rfl (buildSp2 _ _) rfl ?_
 refine WL_go rfl ?_
 refine WL_eff (OE_buildSlice (vs:=[(0,agg ((739617,739620):Spn))]) rfl (buildSSp _)) rfl ?_
 rintro bw w11 hN
 have hbw:SlV [] w11 bw [((739617,739620):Spn)]:=hN.slv (by simp) rfl rfl (by simp [maxLen])
 have hT:=NewSl.stp hN
 clear hN
 replace hsp2:=hsp2.up hT
 replace hS:=hS.trans hT
 clear hT
 refine WL_go rfl ?_
 refine CL rfl (evs2 rfl rfl) rfl (SameSpans_any _ bw _ _ _ hsp2 hbw) ?_
 rintro _ w12 ⟨rfl,hT⟩
 replace hsp2:=hsp2.up hT
 replace hS:=hS.trans hT
 clear hT
 simp only [eq_self,decide_true]
 refine W ?_
 refine CL rfl (evs3 rfl rfl rfl) rfl (gives_any sr1 xr1 739619 0 er m _ lvp1 ⟨by rw [lvt1.1];decide,lvt1.2⟩ (.inl lvv1) (by decide) (hL.up hS) (hM.up hS) (hS.cell (by simp) hm) (hS.cell (by simp) hv4) hev (by decide)) ?_
 rintro _ wg ⟨rfl,hT⟩
 replace hS:=hS.trans hT
 clear hT
 refine W ?_
 refine CL rfl (evs3 rfl rfl rfl) rfl (gives_any sr2 xr2 739585 0 er m _ lvp2 ⟨by rw [lvt2.1];decide,lvt2.2⟩ (.inl lvv2) (by decide) (hL.up hS) (hM.up hS) (hS.cell (by simp) hm) (hS.cell (by simp) hv4) hev (by decide)) ?_
 rintro _ wg ⟨rfl,hT⟩
 replace hS:=hS.trans hT
 clear hT
 refine W ?_
 refine CL rfl (evs3 rfl rfl rfl) rfl (gives_any sr3 xr3 739616 0 er m _ lvp3 ⟨by rw [lvt3.1];decide,lvt3.2⟩ (.inl lvv3) (by decide) (hL.up hS) (hM.up hS) (hS.cell (by simp) hm) (hS.cell (by simp) hv4) hev (by decide)) ?_
 rintro _ wg ⟨rfl,hT⟩
 replace hS:=hS.trans hT
 clear hT
 refine W ?_
 refine CL rfl (evs3 rfl rfl rfl) rfl (gives_any sr4 xr4 0 32 er m _ lvp4 ⟨by rw [lvt4.1];decide,lvt4.2⟩ (.inr ⟨rfl,by decide,lvv4⟩) (by decide) (hL.up hS) (hM.up hS) (hS.cell (by simp) hm) (hS.cell (by simp) hv4) hev (by decide)) ?_
 rintro _ wg ⟨rfl,hT⟩
 replace hS:=hS.trans hT
 clear hT
 refine W ?_
 refine CL rfl (evs3 rfl rfl rfl) rfl (gives_any sr5 xr5 0 5 er m _ lvp5 ⟨by rw [lvt5.1];decide,lvt5.2⟩ (.inr ⟨rfl,by decide,lvv5⟩) (by decide) (hL.up hS) (hM.up hS) (hS.cell (by simp) hm) (hS.cell (by simp) hv4) hev (by decide)) ?_
 rintro _ wg ⟨rfl,hT⟩
 replace hS:=hS.trans hT
 clear hT
 refine W ?_
 refine WR ?_
 exact .mk ⟨by simp,hS⟩
 refine WD1_eff rfl trivial (OE_call rfl evs0 (week16_any _)) (fun _ _ h=>h.2) rfl ?_
 rintro _ w9 ⟨rfl,hT⟩
 replace k1:=k1.up hT
 replace hsp1:=hsp1.up hT
 replace hS:=hS.trans hT
 clear hT
 refine WD_eff rfl trivial (OE_buildSlice (vs:=[(0,agg (⟨4,0⟩:Ins)),(1,agg (⟨1,2⟩:Ins)),(2,agg (⟨18,0⟩:Ins)),(3,agg (⟨24,0⟩:Ins))]) rfl (buildS4)) (fun _ _ h=>(NewSl.stp h).mono (by simp)) rfl ?_
 rintro cv2 w8 hN
 have hc2:SlV [] w8 cv2 cd2:=hN.slv (by simp) rfl rfl (by simp [maxLen,cd2])
 have hT:=NewSl.stp hN
 clear hN
 replace k1:=k1.up hT
 replace hsp1:=hsp1.up hT
 replace hS:=hS.trans hT
 clear hT
 refine D ?_
 refine WD_eff rfl trivial (OE_call rfl (evs4 rfl rfl rfl rfl) (VRun_any cv2 cd2 3 0 ev0 weekC _ _ _ _ _ _ hc2 lvc2 (weekV (hL.up hS) (hM.up hS)) ev0Ok ⟨rfl,rfl,rfl⟩)) (fun _ _ h=>h.choose_spec.2.2) rfl ?_
 rintro _ w10 ⟨pv2,rfl,hp2⟩
 rw [lvr2] at hp2 ⊢
 dsimp only at hp2 ⊢
 have hsp2:=hp2.slv (X:=[]) (by simp)
 replace hsp1:=hsp1.up hp2.2
 replace hS:=hS.trans hp2.2
 clear hp2 hc2 k1
 refine D ?_
 refine W ?_
 simp only [eq_self,decide_true]
 refine WL_build (vs:=[(0,.int .i64 739619),(1,.int .i64 739620)]) rfl (buildSp2 _ _) rfl ?_
 refine WL_go rfl ?_
 refine WL_eff (OE_buildSlice (vs:=[(0,agg ((739619,739620):Spn))]) rfl (buildSSp _)) rfl ?_
 rintro bw w11 hN
 have hbw:SlV [] w11 bw [((739619,739620):Spn)]:=hN.slv (by simp) rfl rfl (by simp [maxLen])
 have hT:=NewSl.stp hN
 clear hN
 replace hsp1:=hsp1.up hT
 replace hsp2:=hsp2.up hT
 replace hS:=hS.trans hT
 clear hT
 refine WL_go rfl ?_
 refine CL rfl (evs2 rfl rfl) rfl (SameSpans_any _ bw _ _ _ hsp1 hbw) ?_
 rintro _ w12 ⟨rfl,hT⟩
 replace hsp2:=hsp2.up hT
 replace hS:=hS.trans hT
 clear hT
 simp only [eq_self,decide_true]
 refine W ?_
 simp only [eq_self,decide_true]
 refine WL_build (vs:=[(0,.int .i64 739617),(1,.int .i64 739620)]) rfl (buildSp2 _ _) rfl ?_
 refine WL_go rfl ?_
 refine WL_eff (OE_buildSlice (vs:=[(0,agg ((739617,739620):Spn))]) rfl (buildSSp _)) rfl ?_
 rintro bw w11 hN
 have hbw:SlV [] w11 bw [((739617,739620):Spn)]:=hN.slv (by simp) rfl rfl (by simp [maxLen])
 have hT:=NewSl.stp hN
 clear hN
 replace hsp2:=hsp2.up hT
 replace hS:=hS.trans hT
 clear hT
 refine WL_go rfl ?_
 refine CL rfl (evs2 rfl rfl) rfl (SameSpans_any _ bw _ _ _ hsp2 hbw) ?_
 rintro _ w12 ⟨rfl,hT⟩
 replace hsp2:=hsp2.up hT
 replace hS:=hS.trans hT
 clear hT
 simp only [eq_self,decide_true]
 refine W ?_
 refine CL rfl (evs3 rfl rfl rfl) rfl (gives_any sr1 xr1 739619 0 er m _ lvp1 ⟨by rw [lvt1.1];decide,lvt1.2⟩ (.inl lvv1) (by decide) (hL.up hS) (hM.up hS) (hS.cell (by simp) hm) (hS.cell (by simp) hv4) hev (by decide)) ?_
 rintro _ wg ⟨rfl,hT⟩
 replace hS:=hS.trans hT
 clear hT
 refine W ?_
 refine CL rfl (evs3 rfl rfl rfl) rfl (gives_any sr2 xr2 739585 0 er m _ lvp2 ⟨by rw [lvt2.1];decide,lvt2.2⟩ (.inl lvv2) (by decide) (hL.up hS) (hM.up hS) (hS.cell (by simp) hm) (hS.cell (by simp) hv4) hev (by decide)) ?_
 rintro _ wg ⟨rfl,hT⟩
 replace hS:=hS.trans hT
 clear hT
 refine W ?_
 refine CL rfl (evs3 rfl rfl rfl) rfl (gives_any sr3 xr3 739616 0 er m _ lvp3 ⟨by rw [lvt3.1];decide,lvt3.2⟩ (.inl lvv3) (by decide) (hL.up hS) (hM.up hS) (hS.cell (by simp) hm) (hS.cell (by simp) hv4) hev (by decide)) ?_
 rintro _ wg ⟨rfl,hT⟩
 replace hS:=hS.trans hT
 clear hT
 refine W ?_
 refine CL rfl (evs3 rfl rfl rfl) rfl (gives_any sr4 xr4 0 32 er m _ lvp4 ⟨by rw [lvt4.1];decide,lvt4.2⟩ (.inr ⟨rfl,by decide,lvv4⟩) (by decide) (hL.up hS) (hM.up hS) (hS.cell (by simp) hm) (hS.cell (by simp) hv4) hev (by decide)) ?_
 rintro _ wg ⟨rfl,hT⟩
 replace hS:=hS.trans hT
 clear hT
 refine W ?_
 refine CL rfl (evs3 rfl rfl rfl) rfl (gives_any sr5 xr5 0 5 er m _ lvp5 ⟨by rw [lvt5.1];decide,lvt5.2⟩ (.inr ⟨rfl,by decide,lvv5⟩) (by decide) (hL.up hS) (hM.up hS) (hS.cell (by simp) hm) (hS.cell (by simp) hv4) hev (by decide)) ?_
 rintro _ wg ⟨rfl,hT⟩
 replace hS:=hS.trans hT
 clear hT
 refine W ?_
 refine WR ?_
 exact .mk ⟨by simp,hS⟩
theorem evs7 {n:Nat} {e:Env} {x1 x2 x3 x4 x5 x6 x7:Operand} {v1 v2 v3 v4 v5 v6 v7:Value} (h1:ev e x1=some v1) (h2:ev e x2=some v2) (h3:ev e x3=some v3) (h4:ev e x4=some v4) (h5:ev e x5=some v5) (h6:ev e x6=some v6) (h7:ev e x7=some v7):∀ a,Has n e a→#[x1,x2,x3,x4,x5,x6,x7].map a.eval=#[v1,v2,v3,v4,v5,v6,v7]:=
 fun a ha=>by simp [ha.ev h1,ha.ev h2,ha.ev h3,ha.ev h4,ha.ev h5,ha.ev h6,ha.ev h7]
theorem Gn.ne {t:Int} {d:Nat} {x:Nd} (h:Gn t d x):t≠0:=by
 induction h with
 | cond d t c a b h _ _ _ _ _ _=>omega
 | _=>decide
theorem errX_zero {x:Nd} (h:errX x=0):nestN x≤12∧typeT x≠0∧(exprF x).length≤200:=by
 unfold errX at h
 split at h
 rename_i h1
 split at h
 simp at h
 rename_i h2
 split at h
 simp at h
 exact ⟨h1,h2,by omega⟩
 simp at h
theorem errX_ver {x:Nd} (h:errX x=0):verM (exprF x)=(typeT x,0):=by
 obtain ⟨h1,h2,h3⟩:=errX_zero h
 exact verM_expr x h2 h1 h3
theorem same_any (v sv:Value) (code:List Ins) (t kn r e:Int) (sp:List Spn) (ev:List Int) (c:Cal) (hv cv zo zs hr:Value) (w:World) (hs:SlV [] w v code) (hver:verM code=(t,0)) (hcal:CalV w c hv cv zo zs hr) (hev:EvOk ev) (ho:zo.oneCell'=true∧zs.oneCell'=true∧hr.oneCell'=true)
 (hsp:SlV [] w sv sp) (hrun:runAll (openM c kn) ev code=(r,sp,e)) :
 Calls Tryz.prog 16 #[v,evA' ev,calA c hv cv zo zs hr,.int .i64 kn,.int .i64 r,sv,.int .i64 e] w (Ret fun q w'=>q=.bool true∧Stp [] w w'):=by
 refine calls_of_WC7 (n:=40) Tryz.func16 rfl rfl rfl ?_
 refine W ?_
 refine WL_eff (OE_box rfl) rfl ?_
 rintro _ w1 ⟨b8,rfl,hb8,k8,hS⟩
 replace k8:Blk w1 b8 29 (evC ev):=k8
 refine WL_eff (OE_box rfl) rfl ?_
 rintro _ w2 ⟨b9,rfl,hb9,k9,hT⟩
 replace k9:Blk w2 b9 37 (calC c hv cv zo zs hr):=k9
 replace k8:=k8.up hT
 replace hS:=hS.trans hT
 clear hT
 refine W ?_
 refine CL rfl (evs4 rfl rfl rfl rfl) rfl (VRun_any v code t kn ev c hv cv zo zs hr _ (hs.up hS) hver (hcal.up hS) hev ho) ?_
 rintro _ w3 ⟨pv,rfl,hp⟩
 rw [hrun] at hp ⊢
 dsimp only at hp ⊢
 have hps:=hp.slv (X:=[]) (by simp)
 replace hS:=hS.trans hp.2
 refine W ?_
 simp only [eq_self,decide_true]
 refine W ?_
 simp only [eq_self,decide_true]
 refine W ?_
 refine CL rfl (evs2 rfl rfl) rfl (SameSpans_any pv sv _ _ _ hps (hsp.up hS)) ?_
 rintro _ w4 ⟨rfl,hT⟩
 refine W ?_
 refine WR ?_
 exact .mk ⟨by simp,hS.trans hT⟩
theorem number8_any (y m d:Int) (w:World) (hy:1≤y) (hy2:y≤9999) (hm:1≤m) (hm2:m≤12) (hd:0≤d) (hd2:d≤100):Calls Tryz.prog 265 #[datV y m d] w (Ret fun r w'=>r=.int .i64 (dayM y m d)∧Stp [] w w'):=by
 obtain ⟨K,rfl⟩:∃ K:Nat,m=(K:Int)+1:=⟨(m - 1).toNat,by omega⟩
 have hK:K≤11:=by omega
 have hcm:=fun (k:Nat) (h:k≤12)=>(cumL_mono (y:=y) h (Nat.le_refl _))
 have hc12:=cum12 y
 have hs0:=startY_mono hy
 have hs1:=startY_mono hy2
 have hsa:startY 1=0:=by decide
 have hsb:startY 9999=3651694:=by decide
 have hc0:=fun (k:Nat) (h:k≤12)=>(cumL_mono (y:=y) (Nat.zero_le k) h)
 have hcz:cumL y 0=0:=rfl
 have h12:cumL y 12≤366:=by rw [hc12];split<;>omega
 refine calls_of_WC1 (n:=25) Tryz.func265 rfl rfl rfl ?_
 refine W ?_
 refine WL_eff (OE_box rfl) rfl ?_
 rintro _ w1 ⟨b,rfl,hb,hblk,hS⟩
 replace hblk:Blk w1 b 291 [.int .i64 y,.int .i64 ((K:Int)+1),.int .i64 d]:=hblk
 refine W ?_
 refine WC_drawn 8 [] [] [(0,0),(1,1),(3,0),(4,1),(2,2),(5,0),(6,0),(7,0)] rfl mixed (by kernel_rfl) (by kernel_rfl) (by kernel_rfl) (fun w1 hS1=>?_)
 replace hblk:=hblk.up hS1
 replace hS:=hS.trans hS1
 clear hS1
 refine D ?_
 refine WD_eff rfl trivial (OE_call rfl (evs1 rfl) (start8_any y _ hy (by omega))) (fun _ _ h=>by rw [h.2];exact Stp.refl _ _) rfl ?_
 rintro _ _ ⟨rfl,rfl⟩
 refine D ?_
 refine W ?_
 refine WC_loop (σ:=Nat) (fun k=>[(1,.pointer (some ⟨b,0,none⟩)),(3,.int .i64 (startY y+d - 1+cumL y k)),(4,.int .i64 ((k:Int)+1))])
  (fun k w'=>k≤K∧Stp [] w w'∧Blk w' b 291 [.int .i64 y,.int .i64 ((K:Int)+1),.int .i64 d]) (fun k=>K - k) 0 ⟨rfl,by simp [look_cons,cumL],rfl,trivial⟩ ⟨Nat.zero_le _,hS,hblk⟩ ?_
 clear hblk hS
 rintro k w2 ⟨hk,hS,hblk⟩
 have b1:=hcm k (by omega)
 have b2:=hc0 k (by omega)
 by_cases hlt:k<K
 have b3:=hcm (k+1) (by omega)
 have b4:=lengthM_pos (y:=y) (k:=k) (by omega)
 have hcs:cumL y (k+1)=cumL y k+lengthM y ((k:Int)+1):=rfl
 focus repeat'(first|refine W1 ?_|omega|refine VG ?_ ?_<;>intro hg|refine VC ?_ ?_<;>intro hc)
 refine CL rfl (evs2 rfl rfl) rfl (Length8_any y ((k:Int)+1) _ (by omega) (by omega)) ?_
 rintro _ _ ⟨rfl,rfl⟩
 refine W ?_
 refine WQ_loop (k+1) ⟨rfl,?_,?_,trivial⟩ ⟨hlt,hS,hblk⟩ (by omega)
 simp only [look_cons]
 simp
 omega
 simp only [look_cons]
 simp
 obtain rfl:k=K:=by omega
 focus repeat'(first|refine W1 ?_|omega|refine VG ?_ ?_<;>intro hg|refine VC ?_ ?_<;>intro hc)
 refine WR ?_
 refine .mk ⟨?_,hS⟩
 rw [dayM_cum y d k hK]
 congr 1
 omega
theorem Check8_any (y m d:Int) (w:World):Calls Tryz.prog 360 #[datV y m d] w (Ret fun r w'=>r=.int .i64 (if badD y m d then 5 else 0)∧Stp [] w w'):=by
 refine calls_of_WC1 (n:=36) Tryz.func360 rfl rfl rfl ?_
 refine W ?_
 refine WL_eff (OE_box rfl) rfl ?_
 rintro _ w1 ⟨b,rfl,hb,hblk,hS⟩
 replace hblk:Blk w1 b 291 [.int .i64 y,.int .i64 m,.int .i64 d]:=hblk
 refine W ?_
 refine WC_drawn 33 [] [] [(0,0),(1,1),(2,0),(3,0),(4,0),(5,1),(6,0),(7,0),(8,0),(9,0),(10,1),(11,0),(12,0),(13,0),(14,0),(15,1),(16,0),(17,0),(18,0),(19,0),(20,1),(21,0),(22,0),(23,0),(24,0),(25,1),(26,0),(27,1),(28,0),(29,1),(30,2),(31,0),(32,0)] rfl mixed (by kernel_rfl) (by kernel_rfl) (by kernel_rfl) (fun w1 hS1=>?_)
 replace hblk:=hblk.up hS1
 replace hS:=hS.trans hS1
 clear hS1
 by_cases hg:y<1∨9999<y∨m<1∨12<m∨d<1
 · have hbad:badD y m d:=by unfold badD;omega
   rw [if_pos hbad]
   repeat'(first|refine D1 ?_|omega|refine WD_splitN rfl rfl rfl rfl (fun hg=>?_) (fun hg=>?_)|(refine WD_splitBN rfl rfl rfl rfl (fun hg=>?_) (fun hg=>?_)<;>refine D1 ?_)|fail)
   all_goals repeat'(first|refine W1 ?_|omega|refine VG ?_ ?_<;>intro hg|refine VC ?_ ?_<;>intro hc)
   all_goals refine WR ?_
   all_goals exact .mk ⟨rfl,hS⟩
 · repeat'(first|refine D1 ?_|omega|refine WD_splitN rfl rfl rfl rfl (fun hg=>?_) (fun hg=>?_)|(refine WD_splitBN rfl rfl rfl rfl (fun hg=>?_) (fun hg=>?_)<;>refine D1 ?_)|fail)
   refine WD_eff rfl rfl (OE_call rfl (evs2 rfl rfl) (Length8_any y m _ (by omega) (by omega))) (fun _ _ h=>by rw [h.2];exact Stp.refl _ _) rfl ?_
   rintro _ w3 ⟨rfl,rfl⟩
   repeat'(first|refine D1 ?_|omega|refine WD_splitN rfl rfl rfl rfl (fun hg=>?_) (fun hg=>?_)|(refine WD_splitBN rfl rfl rfl rfl (fun hg=>?_) (fun hg=>?_)<;>refine D1 ?_)|fail)
   all_goals repeat'(first|refine W1 ?_|omega|refine VG ?_ ?_<;>intro hg|refine VC ?_ ?_<;>intro hc)
   refine WR ?_
   exact .mk ⟨by rw [if_pos (by unfold badD;omega)],hS⟩
   refine WR ?_
   exact .mk ⟨by rw [if_neg (by unfold badD;omega)],hS⟩
theorem Day8_any (y m d:Int) (w:World):Calls Tryz.prog 357 #[datV y m d] w (Ret fun r w'=>r=.tuple #[.int .i64 (if badD y m d then 0 else dayM y m d),.int .i64 (if badD y m d then 5 else 0)]∧Stp [] w w'):=by
 refine calls_of_WC1 (n:=12) Tryz.func357 rfl rfl rfl ?_
 refine W ?_
 refine WL_eff (OE_box rfl) rfl ?_
 rintro _ w1 ⟨b,rfl,hb,hblk,hS⟩
 replace hblk:Blk w1 b 291 [.int .i64 y,.int .i64 m,.int .i64 d]:=hblk
 refine W ?_
 refine CL rfl (evs1 rfl) rfl (Check8_any y m d _) ?_
 rintro _ w2 ⟨rfl,hT⟩
 replace hblk:=hblk.up hT
 replace hS:=hS.trans hT
 clear hT
 by_cases hbad:badD y m d
 rw [if_pos hbad,if_pos hbad]
 refine W ?_
 refine WR ?_
 exact .mk ⟨rfl,hS⟩
 rw [if_neg hbad,if_neg hbad]
 refine W ?_
 have h31:=lengthM_le y m
 unfold badD at hbad
 refine CL rfl (evs1 rfl) rfl (number8_any y m d _ (by omega) (by omega) (by omega) (by omega) (by omega) (by omega)) ?_
 rintro _ w3 ⟨rfl,hT⟩
 refine W ?_
 refine WR ?_
 exact .mk ⟨rfl,hS.trans hT⟩
theorem Weekday8_any (d:Int) (w:World) (h0:0≤d) (h1:d≤9000000000):Calls Tryz.prog 316 #[.int .i64 d] w (Ret fun r w'=>r=.int .i64 (d % 7)∧w'=w):=by
 refine calls_of_WC1 (n:=11) Tryz.func316 rfl rfl rfl ?_
 repeat'(first|refine W1 ?_|omega|refine VG ?_ ?_<;>intro hg|refine VC ?_ ?_<;>intro hc)
 refine WR ?_
 exact .mk ⟨rfl,rfl⟩
theorem Floor_any (a:Int) (w:World) (h0:-1000000000≤a) (h1:a≤1000000000):Calls Tryz.prog 263 #[.int .i64 a,.int .i64 12] w (Ret fun r w'=>r=.int .i64 (a / 12)∧w'=w):=by
 obtain ⟨T,hT⟩:∃ T,T=a.tdiv 12:=⟨_,rfl⟩
 obtain ⟨R,hR⟩:∃ R,R=a.tmod 12:=⟨_,rfl⟩
 have hs:(R<0∧T - 1=a / 12)∨(0≤R∧T=a / 12):=by
  rcases Int.lt_or_le a 0 with h|h
  have e1:a.tdiv 12=-((-a) / 12):=by
   rw [← Int.tdiv_eq_ediv_of_nonneg (by omega),Int.neg_tdiv];omega
  have e2:a.tmod 12=-((-a) % 12):=by
   rw [← Int.tmod_eq_emod_of_nonneg (by omega),Int.neg_tmod];omega
  rw [e1] at hT
  rw [e2] at hR
  omega
  rw [Int.tdiv_eq_ediv_of_nonneg h] at hT
  rw [Int.tmod_eq_emod_of_nonneg h] at hR
  omega
 have hr:-13<R∧R<13:=by
  rcases Int.lt_or_le a 0 with h|h
  have e2:a.tmod 12=-((-a) % 12):=by
   rw [← Int.tmod_eq_emod_of_nonneg (by omega),Int.neg_tmod];omega
  rw [e2] at hR
  omega
  rw [Int.tmod_eq_emod_of_nonneg h] at hR
  omega
 refine calls_of_WC2 (n:=16) Tryz.func263 rfl rfl rfl ?_
 refine W ?_
 refine WL_quo rfl rfl (by decide) (by rw [← hT];unfold I64;omega) rfl ?_
 rw [← hT]
 refine W ?_
 refine WL_rem rfl rfl (by decide) (by rw [← hR];unfold I64;omega) rfl ?_
 rw [← hR]
 clear hT hR
 repeat'(first|refine W1 ?_|omega|refine VG ?_ ?_<;>intro hg|refine VC ?_ ?_<;>intro hc)
 all_goals refine WR ?_
 all_goals exact .mk ⟨by congr 1;omega,rfl⟩
theorem epFix_eq (e g:Nat):epFix e g=if e=24∨(e=25∧11<g) then e+1 else e:=by
 unfold epFix
 rw [Bool.cond_eq_ite]
 congr 1
 simp [Nat.beq_eq,Nat.blt_eq]
theorem epSun_eq (e d:Nat):epSun e d=(if 44 - e<21 then 44 - e+30 else 44 - e)+7 - (d+(if 44 - e<21 then 44 - e+30 else 44 - e)) % 7:=by
 unfold epSun
 rw [Bool.cond_eq_ite]
 simp [Nat.blt_eq]
theorem tm30 (X:Int):(X.tmod 30<0∧-30<X.tmod 30∧X.tmod 30+30=X % 30)∨(0≤X.tmod 30∧X.tmod 30=X % 30):=by
 rcases Int.lt_or_le X 0 with h|h
 obtain ⟨Y,rfl⟩:∃ Y,X=-Y:=⟨-X,by omega⟩
 rw [Int.neg_tmod,Int.tmod_eq_emod_of_nonneg (by omega)]
 omega
 rw [Int.tmod_eq_emod_of_nonneg h]
 right
 omega
set_option maxRecDepth 100000 in
theorem Easter8_any (y:Int) (w:World):Calls Tryz.prog 356 #[.int .i64 y] w (Ret fun r w'=>r=.tuple #[.int .i64 (if y<1583∨9999<y then 0 else eastM y),.int .i64 (if y<1583∨9999<y then 5 else 0)]∧Stp [] w w'):=by
 refine calls_of_WC1 (n:=81) Tryz.func356 rfl rfl rfl ?_
 by_cases hy:y<1583∨9999<y
 · rw [if_pos hy,if_pos hy]
   repeat'(first|refine W1 ?_|omega|refine VG ?_ ?_<;>intro hg|refine VC ?_ ?_<;>intro hc)
   all_goals refine WR ?_
   all_goals exact .mk ⟨rfl,Stp.refl _ _⟩
 · rw [if_neg hy,if_neg hy]
   obtain ⟨k,rfl⟩:∃ k:Nat,y=(k:Int):=⟨y.toNat,by omega⟩
   have hk1:1583≤k:=by omega
   have hk2:k≤9999:=by omega
   rw [eastM_ref hk1 hk2]
   have g1:0≤(k:Int) % 19∧(k:Int) % 19≤18:=by omega
   have g2:15≤(k:Int) / 100∧(k:Int) / 100≤99:=by omega
   have hd31:=dayM_range (y:=(k:Int)) (m:=3) (d:=1) (by omega) (by omega) (by omega) (by omega) (by omega) (by show (1:Int)≤lengthM (k:Int) 3;rw [show lengthM (k:Int) 3=31 from rfl];decide)
   have hrf:refNat k=epSun (epFix (epNat k) (k % 19+1)) (5 * k / 4 - (3 * (k / 100+1) / 4 - 12) - 10):=rfl
   rw [epFix_eq] at hrf
   obtain ⟨T,hT⟩:∃ T,T=(11 * ((k:Int) % 19+1)+20+((8 * ((k:Int) / 100+1)+5) / 25 - 5) - (3 * ((k:Int) / 100+1) / 4 - 12)).tmod 30:=⟨_,rfl⟩
   have hep:((epNat k:Nat):Int)=(11 * ((k:Int) % 19+1)+20+((8 * ((k:Int) / 100+1)+5) / 25 - 5) - (3 * ((k:Int) / 100+1) / 4 - 12)) % 30:=by
    have e1:((k % 19:Nat):Int)=(k:Int) % 19:=by omega
    have e2:((k / 100:Nat):Int)=(k:Int) / 100:=by omega
    rw [← e1,← e2]
    unfold epNat
    have b2:15≤k / 100:=by omega
    have b3:k / 100≤99:=by omega
    generalize k / 100=c at b2 b3 ⊢
    generalize k % 19=g
    have e3:(8 * ((c:Int)+1)+5) / 25=(((8 * (c+1)+5) / 25:Nat):Int):=by omega
    have e4:3 * ((c:Int)+1) / 4=((3 * (c+1) / 4:Nat):Int):=by omega
    have b4:5≤(8 * (c+1)+5) / 25:=by omega
    have b5:12≤3 * (c+1) / 4∧3 * (c+1) / 4≤75:=by omega
    rw [e3,e4]
    generalize (8 * (c+1)+5) / 25=Z at b4 ⊢
    generalize 3 * (c+1) / 4=Y at b5 ⊢
    omega
   have htm:=tm30 (11 * ((k:Int) % 19+1)+20+((8 * ((k:Int) / 100+1)+5) / 25 - 5) - (3 * ((k:Int) / 100+1) / 4 - 12))
   rw [← hT,← hep] at htm
   have he30:epNat k<30:=Nat.mod_lt _ (by decide)
   have hTr:-30<T∧T<30:=by omega
   repeat'(first|refine W1 ?_|omega|refine VG ?_ ?_<;>intro hg|refine VC ?_ ?_<;>intro hc)
   refine WL_rem rfl rfl (by decide) (by rw [← hT];unfold I64;omega) rfl ?_
   rw [← hT]
   have hX:0≤3 * ((k:Int) / 100+1) / 4 - 12∧3 * ((k:Int) / 100+1) / 4 - 12≤63:=by omega
   obtain ⟨D,hD⟩:∃ D:Nat,D=5 * k / 4 - (3 * (k / 100+1) / 4 - 12) - 10:=⟨_,rfl⟩
   have hD2:5 * (k:Int) / 4 - (3 * ((k:Int) / 100+1) / 4 - 12) - 10=(D:Int):=by omega
   have hD3:D≤20000:=by omega
   have hG:((k % 19:Nat):Int)=(k:Int) % 19:=by omega
   rw [← hD] at hrf
   rw [hD2]
   clear hD hD2 hX hep g2 hT
   generalize epNat k=E at *
   generalize k % 19=G at *
   rw [← hG] at g1 ⊢
   clear hG
   repeat'(first|refine W1 ?_|omega|refine VG ?_ ?_<;>intro hg|refine VC ?_ ?_<;>intro hc)
   all_goals refine WL_build (vs:=[(0,.int .i64 (k:Int)),(1,.int .i64 3),(2,.int .i64 1)]) rfl (buildDt _ _ _) rfl ?_
   all_goals refine CL rfl (evs1 rfl) rfl (number8_any (k:Int) 3 1 _ (by omega) (by omega) (by omega) (by omega) (by omega) (by omega)) ?_
   all_goals rintro _ w1 ⟨rfl,hS⟩
   all_goals refine W ?_
   all_goals refine WR ?_
   all_goals refine .mk ⟨?_,hS⟩
   all_goals refine congrArg (fun z=>Value.tuple #[.int .i64 z,.int .i64 0]) ?_
   all_goals rw [hrf,epSun_eq]
   all_goals (repeat' split)
   all_goals omega
theorem AddMonths8_any (d n:Int) (w:World) (h0:0≤d) (h1:d≤3652058) :
 Calls Tryz.prog 200 #[.int .i64 d,.int .i64 n] w (Ret fun r w'=>r=.tuple #[.int .i64 (monM d n).1,.int .i64 (monM d n).2]∧Stp [] w w'):=by
 obtain ⟨y1,y2,m1,m2,d1,d2,hday⟩:=ofM_ok h0 h1
 have hin:inDays d=true:=inDays_iff.2 ⟨h0,h1⟩
 unfold monM
 refine calls_of_WC2 (n:=60) Tryz.func200 rfl rfl rfl ?_
 by_cases hn:n < -200000∨200000<n
 · rw [if_pos hn]
   repeat'(first|refine W1 ?_|omega|refine VG ?_ ?_<;>intro hg|refine VC ?_ ?_<;>intro hc)
   all_goals refine WR ?_
   all_goals exact .mk ⟨rfl,Stp.refl _ _⟩
 rw [if_neg hn,if_pos hin]
 repeat'(first|refine W1 ?_|omega|refine VG ?_ ?_<;>intro hg|refine VC ?_ ?_<;>intro hc)
 refine CL rfl (evs1 rfl) rfl (Of8_any d _ h0 h1) ?_
 rintro _ w1 ⟨rfl,hS⟩
 refine W ?_
 refine WL_eff OE_alloc rfl ?_
 rintro _ w2 ⟨b6,rfl,hb6,e6,hS2⟩
 refine W ?_
 refine WL_eff0 (OE_storeA (us:=[.int .i64 (ofM d).y,.int .i64 (ofM d).m,.int .i64 (ofM d).d]) rfl rfl rfl rfl (by intro u hu;simp at hu;rcases hu with rfl|rfl|rfl<;>rfl) e6 rfl) ?_
 rintro _ w3 ⟨hT,k6⟩
 have hb6w:w.heap.size≤b6:=by have:=hS.size;omega
 replace hS:=hS.trans (hS2.own hT (fun c hc=>.inr (by simp at hc;omega)))
 clear e6 hT hS2
 generalize hM:12 * (ofM d).y+(ofM d).m - 1+n=M
 refine W ?_
 rw [hM]
 refine CL rfl (evs2 rfl rfl) rfl (Floor_any M _ (by omega) (by omega)) ?_
 rintro _ _ ⟨rfl,rfl⟩
 by_cases hr:M<12∨120000≤M
 · rw [if_pos hr]
   repeat'(first|refine W1 ?_|omega|refine VG ?_ ?_<;>intro hg|refine VC ?_ ?_<;>intro hc)
   all_goals refine WR ?_
   all_goals exact .mk ⟨rfl,hS⟩
 rw [if_neg hr]
 have hl1:=lengthM_le (M / 12) (M % 12+1)
 have hl0:=lengthM_pos (y:=M / 12) (k:=(M % 12).toNat) (by omega)
 rw [show (((M % 12).toNat:Int))=M % 12 by omega] at hl0
 repeat'(first|refine W1 ?_|omega|refine VG ?_ ?_<;>intro hg|refine VC ?_ ?_<;>intro hc)
 refine WL_eff0 (OE_store1 (u:=.int .i64 (M / 12)) rfl rfl rfl rfl k6 (by simp)) ?_
 rintro _ w4 ⟨hS4,k6⟩
 refine W ?_
 have e12:M - 12 * (M / 12)+1=M % 12+1:=by omega
 rw [e12]
 refine WL_eff0 (OE_store1 (u:=.int .i64 (M % 12+1)) rfl rfl rfl rfl k6 (by simp)) ?_
 rintro _ w5 ⟨hS5,k6⟩
 replace hS:=(hS.own hS4 (fun c hc=>.inr (by simp at hc;omega))).own hS5 (fun c hc=>.inr (by simp at hc;omega))
 clear hS4 hS5
 refine W ?_
 refine WC_drawn 10 [] [9] [(0,0),(1,1),(2,0),(3,1),(4,0),(5,1),(6,2),(7,0),(8,0),(9,2)] rfl mixed (by kernel_rfl) (by kernel_rfl) (by kernel_rfl) (fun w1 hS1=>?_)
 replace k6:=k6.up hS1
 replace hS:=hS.trans hS1
 clear hS1
 refine D ?_
 refine WD_eff rfl trivial (OE_call rfl (evs2 rfl rfl) (Length8_any (M / 12) (M % 12+1) _ (by omega) (by omega))) (fun _ _ h=>by rw [h.2];exact Stp.refl _ _) rfl ?_
 rintro _ _ ⟨rfl,rfl⟩
 refine D ?_
 refine WD_late0 rfl trivial (OE_store1 (u:=.int .i64 (min (ofM d).d (lengthM (M / 12) (M % 12+1)))) rfl rfl rfl rfl k6 (by simp)) rfl ?_
 rintro _ w6 ⟨hS6,k6⟩
 replace hS:=hS.own hS6 (fun c hc=>.inr (by simp at hc;omega))
 refine D ?_
 refine W ?_
 refine CL rfl (evs1 rfl) rfl (number8_any (M / 12) (M % 12+1) (min (ofM d).d (lengthM (M / 12) (M % 12+1))) _ (by omega) (by omega) (by omega) (by omega) (by omega) (by omega)) ?_
 rintro _ w7 ⟨rfl,hS7⟩
 refine W ?_
 refine WR ?_
 exact .mk ⟨rfl,hS.trans hS7⟩
theorem hwithin10_any (n a b:Int) (w:World):Calls Tryz.prog 350 #[.int .i64 n,.int .i64 a,.int .i64 b] w (Ret fun r w'=>r=.bool (decide (a≤n∧n≤b))∧w'=w):=by
 refine calls_of_WC3 (n:=15) Tryz.func350 rfl rfl rfl ?_
 by_cases h1:n≥a
 by_cases h2:n≤b
 rw [decide_eq_true ⟨h1,h2⟩]
 focus repeat'(first|refine W1 ?_|omega|refine VG ?_ ?_<;>intro hg|refine VC ?_ ?_<;>intro hc)
 refine WR ?_
 exact .mk ⟨by simp [h2],rfl⟩
 rw [decide_eq_false (fun h=>h2 h.2)]
 focus repeat'(first|refine W1 ?_|omega|refine VG ?_ ?_<;>intro hg|refine VC ?_ ?_<;>intro hc)
 refine WR ?_
 exact .mk ⟨by simp [h2],rfl⟩
 rw [decide_eq_false (fun h=>h1 h.1)]
 focus repeat'(first|refine W1 ?_|omega|refine VG ?_ ?_<;>intro hg|refine VC ?_ ?_<;>intro hc)
 refine WR ?_
 exact .mk ⟨rfl,rfl⟩
def IsDay (o:Option Int) (r:Value):Prop:=∃ (n:Int) (b:Bool),r=.tuple #[.int .i64 n,.bool b]∧o=if b=true then some n else none
theorem Nominal_any (h:Hol) (y:Int) (w:World) (ho:HolOk h) (hy0:0≤y) (hy1:y≤10000) :
 Calls Tryz.prog 349 #[agg h,.int .i64 y] w (Ret fun r w'=>IsDay (nomM h y) r∧Stp [] w w'):=by
 have hf1:=ho.f1
 have hl1:=ho.l1
 refine calls_of_WC2 (n:=96) Tryz.func349 rfl rfl rfl ?_
 refine W ?_
 refine WL_eff (OE_box rfl) rfl ?_
 rintro _ w1 ⟨b,rfl,hb,hblk,hS⟩
 replace hblk:Blk w1 b 187 (Flat.enc h):=hblk
 by_cases hin:y<h.first∨h.last<y
 · repeat'(first|refine W1 ?_|omega|refine VG ?_ ?_<;>intro hg|refine VC ?_ ?_<;>intro hc)
   all_goals refine WR ?_
   all_goals refine .mk ⟨⟨_,false,rfl,?_⟩,hS⟩
   all_goals unfold nomM
   all_goals rw [if_pos hin]
   all_goals rfl
 have hnm:=nomM_P (h:=h) (y:=y) (by omega) (by omega)
 rw [hnm]
 have hk1:=ho.k1
 have hk2:=ho.k2
 by_cases k4:h.kind=4
 have e:nomP h y=((if y<1583∨9999<y then 0 else eastM y)+h.off,!decide (y<1583∨9999<y)):=by unfold nomP;rw [if_neg (by omega),if_neg (by omega),if_neg (by omega)]
 rw [e]
 obtain ⟨o1,o2⟩:=ho.off k4
 have hr:0≤(if y<1583∨9999<y then 0 else eastM y)∧(if y<1583∨9999<y then 0 else eastM y)≤3652058:=by
  split
  omega
  have:=eastM_range (y:=y) (by omega) (by omega)
  omega
 focus repeat'(first|refine W1 ?_|omega|refine VG ?_ ?_<;>intro hg|refine VC ?_ ?_<;>intro hc)
 refine CL rfl (evs1 rfl) rfl (Easter8_any y _) ?_
 rintro _ w2 ⟨rfl,hT⟩
 replace hblk:=hblk.up hT
 replace hS:=hS.trans hT
 refine W ?_
 refine WR ?_
 refine .mk ⟨⟨_,_,rfl,?_⟩,hS⟩
 by_cases hy:y<1583∨9999<y<;>simp [hy]
 by_cases k1:h.kind=1
 have e:nomP h y=(if badD y h.month h.day then 0 else dayM y h.month h.day,!decide (badD y h.month h.day)):=by unfold nomP;rw [if_pos k1]
 rw [e]
 focus repeat'(first|refine W1 ?_|omega|refine VG ?_ ?_<;>intro hg|refine VC ?_ ?_<;>intro hc)
 refine WL_build (vs:=[(0,.int .i64 y),(1,.int .i64 h.month),(2,.int .i64 h.day)]) rfl (buildDt _ _ _) rfl ?_
 refine CL rfl (evs1 rfl) rfl (Day8_any y _ _ _) ?_
 rintro _ w2 ⟨rfl,hT⟩
 replace hblk:=hblk.up hT
 replace hS:=hS.trans hT
 refine W ?_
 refine WR ?_
 refine .mk ⟨⟨_,_,rfl,?_⟩,hS⟩
 by_cases hb:badD y h.month h.day<;>simp [hb]
 obtain ⟨m1,m2⟩:=ho.month (by omega)
 obtain ⟨d1,d2⟩:=ho.wd (by omega)
 obtain ⟨f1,f2,f3,f4,f5⟩:=first_day (y:=y) (m:=h.month) (by omega) (by omega) m1 m2
 obtain ⟨f6,f7⟩:=fstW_range (y:=y) (wd:=h.wd) (by omega) (by omega) m1 m2
 have hfw:fstW y h.month h.wd=dayM y h.month 1+(h.wd - dayM y h.month 1 % 7+7) % 7:=rfl
 repeat'(first|refine W1 ?_|omega|refine VG ?_ ?_<;>intro hg|refine VC ?_ ?_<;>intro hc)
 refine WL_build (vs:=[(0,.int .i64 y),(1,.int .i64 h.month),(2,.int .i64 1)]) rfl (buildDt _ _ _) rfl ?_
 refine CL rfl (evs1 rfl) rfl (Day8_any y _ _ _) ?_
 rintro _ w2 ⟨rfl,hT⟩
 rw [if_neg f1,if_neg f1]
 replace hblk:=hblk.up hT
 replace hS:=hS.trans hT
 refine W ?_
 refine CL rfl (evs2 rfl rfl) rfl (Length8_any y _ _ (by omega) (by omega)) ?_
 rintro _ _ ⟨rfl,rfl⟩
 by_cases k3:h.kind=3
 have e:nomP h y=(fstW y h.month h.wd+(dayM y h.month 1+lengthM y h.month - 1 - fstW y h.month h.wd) / 7 * 7,true):=by unfold nomP;rw [if_neg (by omega),if_neg (by omega),if_pos k3]
 rw [e,if_pos rfl]
 generalize hB:dayM y h.month 1=B at *
 generalize hL:lengthM y h.month=L at *
 generalize fstW y h.month h.wd=F at *
 focus repeat'(first|refine W1 ?_|omega|refine VG ?_ ?_<;>intro hg|refine VC ?_ ?_<;>intro hc)
 refine WC_loop (σ:=Nat) (fun k=>[(2,.pointer (some ⟨b,0,none⟩)),(12,.int .i64 (B+L - 1 - (k:Int)))])
  (fun k w'=>F+(B+L - 1 - F) / 7 * 7≤B+L - 1 - (k:Int)∧Stp [] w w'∧Blk w' b 187 (Flat.enc h)) (fun k=>100 - k) 0 ⟨rfl,by simp [look_cons],trivial⟩ ⟨by omega,hS,hblk⟩ ?_
 clear hblk hS
 rintro k w3 ⟨hk,hS,hblk⟩
 refine W ?_
 refine WC_drawn 5 [] [] [(0,0),(2,0),(3,1),(1,2),(4,0)] rfl mixed (by kernel_rfl) (by kernel_rfl) (by kernel_rfl) (fun w1 hS1=>?_)
 replace hblk:=hblk.up hS1
 replace hS:=hS.trans hS1
 clear hS1
 refine D ?_
 refine WD_eff rfl trivial (OE_call rfl (evs1 rfl) (Weekday8_any _ _ (by omega) (by omega))) (fun _ _ h=>by rw [h.2];exact Stp.refl _ _) rfl ?_
 rintro _ _ ⟨rfl,rfl⟩
 refine D ?_
 by_cases hq:(B+L - 1 - (k:Int)) % 7=h.wd
 focus repeat'(first|refine W1 ?_|omega|refine VG ?_ ?_<;>intro hg|refine VC ?_ ?_<;>intro hc)
 refine WR ?_
 refine .mk ⟨⟨_,true,rfl,?_⟩,hS⟩
 rw [if_pos rfl]
 congr 1
 omega
 focus repeat'(first|refine W1 ?_|omega|refine VG ?_ ?_<;>intro hg|refine VC ?_ ?_<;>intro hc)
 refine WQ_loop (k+1) ⟨rfl,?_,trivial⟩ ⟨?_,hS,hblk⟩ (by omega)
 simp only [look_cons]
 simp
 omega
 omega
 have e:nomP h y=(fstW y h.month h.wd+7 * (h.nth - 1),decide (fstW y h.month h.wd+7 * (h.nth - 1)<dayM y h.month 1+lengthM y h.month)):=by unfold nomP;rw [if_neg (by omega),if_pos (by omega)]
 obtain ⟨n1,n2⟩:=ho.nth (by omega)
 rw [e]
 generalize hB:dayM y h.month 1=B at *
 generalize hL:lengthM y h.month=L at *
 generalize fstW y h.month h.wd=F at *
 focus repeat'(first|refine W1 ?_|omega|refine VG ?_ ?_<;>intro hg|refine VC ?_ ?_<;>intro hc)
 refine WC_loop (σ:=Nat) (fun k=>[(2,.pointer (some ⟨b,0,none⟩)),(10,.int .i64 (B+(k:Int))),(12,.int .i64 (B+L - 1))])
  (fun k w'=>B+(k:Int)≤F∧Stp [] w w'∧Blk w' b 187 (Flat.enc h)) (fun k=>100 - k) 0 ⟨rfl,by simp [look_cons],rfl,trivial⟩ ⟨by omega,hS,hblk⟩ ?_
 clear hblk hS
 rintro k w3 ⟨hk,hS,hblk⟩
 refine W ?_
 refine WC_drawn 5 [] [] [(0,0),(2,0),(3,1),(1,2),(4,0)] rfl mixed (by kernel_rfl) (by kernel_rfl) (by kernel_rfl) (fun w1 hS1=>?_)
 replace hblk:=hblk.up hS1
 replace hS:=hS.trans hS1
 clear hS1
 refine D ?_
 refine WD_eff rfl trivial (OE_call rfl (evs1 rfl) (Weekday8_any _ _ (by omega) (by omega))) (fun _ _ h=>by rw [h.2];exact Stp.refl _ _) rfl ?_
 rintro _ _ ⟨rfl,rfl⟩
 refine D ?_
 by_cases hq:(B+(k:Int)) % 7=h.wd
 obtain hFe:B+(k:Int)=F:=by omega
 rw [hFe] at hq ⊢
 focus repeat'(first|refine W1 ?_|omega|refine VG ?_ ?_<;>intro hg|refine VC ?_ ?_<;>intro hc)
 refine WR ?_
 refine .mk ⟨⟨_,_,rfl,?_⟩,hS⟩
 congr 1
 rw [eq_iff_iff,decide_eq_true_eq,decide_eq_true_eq]
 omega
 focus repeat'(first|refine W1 ?_|omega|refine VG ?_ ?_<;>intro hg|refine VC ?_ ?_<;>intro hc)
 refine WQ_loop (k+1) ⟨rfl,?_,rfl,trivial⟩ ⟨?_,hS,hblk⟩ (by omega)
 simp only [look_cons]
 simp
 omega
 omega
theorem Kept_any (h:Hol) (y:Int) (w:World) (ho:HolOk h) (hy0:0≤y) (hy1:y≤10000) :
 Calls Tryz.prog 333 #[agg h,.int .i64 y] w (Ret fun r w'=>IsDay (keptM h y) r∧Stp [] w w'):=by
 have hm1:=ho.m1
 have hm2:=ho.m2
 refine calls_of_WC2 (n:=52) Tryz.func333 rfl rfl rfl ?_
 refine W ?_
 refine WL_eff (OE_box rfl) rfl ?_
 rintro _ w1 ⟨b,rfl,hb,hblk,hS⟩
 replace hblk:Blk w1 b 187 (Flat.enc h):=hblk
 refine W ?_
 refine CL rfl (evs2 rfl rfl) rfl (Nominal_any h y _ ho hy0 hy1) ?_
 rintro _ w2 ⟨⟨n,ok,rfl,hn⟩,hT⟩
 replace hblk:=hblk.up hT
 replace hS:=hS.trans hT
 clear hT
 unfold keptM
 cases ok with
 | false=>
   rw [if_neg (by simp)] at hn
   rw [hn]
   refine W ?_
   refine WR ?_
   exact .mk ⟨⟨_,false,rfl,rfl⟩,hS⟩
 | true=>
   rw [if_pos rfl] at hn
   have hr:0≤n∧n≤3653000:=by
    by_cases hin:y<h.first∨h.last<y
    unfold nomM at hn
    rw [if_pos hin] at hn
    cases hn
    rw [nomM_P (by omega) (by omega)] at hn
    split at hn
    rename_i hp
    have:=nomP_range ho (by omega) (by omega) hp
    simp only [Option.some.injEq] at hn
    omega
    cases hn
   rw [hn]
   have hmv:=movM_near h.move n
   have fin:∀ r w',r=.tuple #[.int .i64 (movM h.move n),.bool (decide (0≤movM h.move n∧movM h.move n≤3652058))]→Stp [] w w'→
    Ret (fun r w'=>IsDay ((some n).bind fun d=>if inDays (movM h.move d)=true then some (movM h.move d) else none) r∧Stp [] w w') (.returned r) w':=by
    rintro _ w' rfl hS
    refine .mk ⟨⟨_,_,rfl,?_⟩,hS⟩
    simp only [Option.bind_some]
    rfl
   have hcases:(h.move=1∧n % 7=5∧movM h.move n=n+2)∨(h.move=2∧n % 7=5∧movM h.move n=n - 1)∨(h.move≠0∧n % 7=6∧movM h.move n=n+1)∨((h.move=0∨(n % 7≠5∧n % 7≠6))∧movM h.move n=n):=by
    unfold movM
    repeat' split
    all_goals omega
   clear hn
   generalize movM h.move n=R at *
   refine W ?_
   refine CL rfl (evs1 rfl) rfl (Weekday8_any n _ hr.1 (by omega)) ?_
   rintro _ _ ⟨rfl,rfl⟩
   rcases hcases with ⟨c1,c2,rfl⟩|⟨c1,c2,rfl⟩|⟨c1,c2,rfl⟩|⟨c1,rfl⟩
   all_goals repeat'(first|refine W1 ?_|omega|refine VG ?_ ?_<;>intro hg|refine VC ?_ ?_<;>intro hc)
   all_goals refine CL rfl (evs3 rfl rfl rfl) rfl (hwithin10_any _ 0 3652058 _) ?_
   all_goals rintro _ _ ⟨rfl,rfl⟩
   all_goals refine W ?_
   all_goals refine WR ?_
   all_goals exact fin _ _ rfl hS
theorem Is10_any (v:Value) (l:List Hol) (d:Int) (w:World) (hs:SlV [] w v l) (ho:∀ h∈l,HolOk h) (h0:0≤d) (h1:d≤3652058) :
 Calls Tryz.prog 318 #[v,.int .i64 d] w (Ret fun r w'=>r=.bool (isHolM l d)∧Stp [] w w'):=by
 obtain ⟨y1,y2,-⟩:=ofM_ok h0 h1
 have hin:inDays d=true:=inDays_iff.2 ⟨h0,h1⟩
 have hmax:=hs.max
 refine calls_of_WC2 (n:=49) Tryz.func318 rfl rfl rfl ?_
 refine W ?_
 refine CL rfl (evs1 rfl) rfl (Of8_any d _ h0 h1) ?_
 rintro _ w1 ⟨rfl,hS⟩
 refine W ?_
 refine WL_eff OE_alloc rfl ?_
 rintro _ w2 ⟨b5,rfl,hb5,e5,hS2⟩
 refine W ?_
 refine WL_eff0 (OE_storeA (us:=[.int .i64 (ofM d).y,.int .i64 (ofM d).m,.int .i64 (ofM d).d]) rfl rfl rfl rfl (by intro u hu;simp at hu;rcases hu with rfl|rfl|rfl<;>rfl) e5 rfl) ?_
 rintro _ w3 ⟨hT,k5⟩
 replace hS:=hS.trans (hS2.own hT (fun c hc=>.inr (by simp at hc;omega)))
 clear e5 hT hS2
 replace hs:=hs.up hS
 refine W ?_
 have hany:∀ k:Nat,k<3→(∃ h∈l,keptM h ((ofM d).y - 1+(k:Int))=some d)→isHolM l d=true:=by
  rintro k hk ⟨h,hh,hd⟩
  unfold isHolM
  rw [hin,Bool.true_and,List.any_eq_true]
  refine ⟨_,?_,List.any_eq_true.2 ⟨h,hh,decide_eq_true hd⟩⟩
  have:k=0∨k=1∨k=2:=by omega
  rcases this with rfl|rfl|rfl
  simp
  rw [show (ofM d).y - 1+((1:Nat):Int)=(ofM d).y by omega]
  simp
  rw [show (ofM d).y - 1+((2:Nat):Int)=(ofM d).y+1 by omega]
  simp
 refine WC_loop (σ:=Nat) (fun k=>[(0,v),(1,.int .i64 d),(5,.pointer (some ⟨b5,0,none⟩)),(7,.int .i64 ((ofM d).y - 1+(k:Int)))])
  (fun k w'=>k≤3∧(∀ j:Nat,j<k→∀ h∈l,¬ keptM h ((ofM d).y - 1+(j:Int))=some d)∧Stp [] w3 w') (fun k=>3 - k) 0 ⟨rfl,rfl,rfl,by simp [look_cons],trivial⟩ ⟨Nat.zero_le _,fun j hj=>absurd hj (Nat.not_lt_zero _),Stp.refl _ _⟩ ?_
 rintro k w4 ⟨hk,hno,hS4⟩
 have k5b:=k5.up hS4
 have hsb:=hs.up hS4
 by_cases hlt:k<3
 focus repeat'(first|refine W1 ?_|omega|refine VG ?_ ?_<;>intro hg|refine VC ?_ ?_<;>intro hc)
 refine WC_cutBB (σ:=Unit) (fun _=>[(0,v),(1,.int .i64 d),(5,.pointer (some ⟨b5,0,none⟩)),(7,.int .i64 ((ofM d).y - 1+(k:Int)))])
  (fun _ w'=>(∀ h∈l,¬ keptM h ((ofM d).y - 1+(k:Int))=some d)∧Stp [] w3 w') ?_ ?_
 refine WC_loop (σ:=Nat) (fun i=>[(0,v),(1,.int .i64 d),(5,.pointer (some ⟨b5,0,none⟩)),(7,.int .i64 ((ofM d).y - 1+(k:Int))),(8,.int .i64 (i:Int))])
  (fun i w'=>i≤l.length∧(∀ h∈l.take i,¬ keptM h ((ofM d).y - 1+(k:Int))=some d)∧Stp [] w3 w') (fun i=>l.length - i) 0 ⟨rfl,rfl,rfl,rfl,rfl,trivial⟩ ⟨Nat.zero_le _,by simp,hS4⟩ ?_
 clear k5b hsb
 rintro i w5 ⟨hi,hni,hS5⟩
 have k5b:=k5.up hS5
 have hsb:=hs.up hS5
 by_cases hil:i<l.length
 · have hok:=ho l[i] (List.getElem_mem hil)
   repeat'(first|refine W1 ?_|omega|refine VG ?_ ?_<;>intro hg|refine VC ?_ ?_<;>intro hc)
   refine CL rfl (evs2 rfl rfl) rfl (Kept_any l[i] ((ofM d).y - 1+(k:Int)) _ hok (by omega) (by omega)) ?_
   rintro _ w6 ⟨⟨n,ok,rfl,hn⟩,hS6⟩
   have next:keptM l[i] ((ofM d).y - 1+(k:Int))≠some d→∀ h∈l.take (i+1),¬ keptM h ((ofM d).y - 1+(k:Int))=some d:=by
    intro hne h hh
    rw [List.take_succ_eq_append_getElem hil,List.mem_append] at hh
    rcases hh with hh|hh
    exact hni h hh
    obtain rfl:h=l[i]:=by simpa using hh
    exact hne
   cases ok with
   | false=>
     rw [if_neg (by simp)] at hn
     refine W ?_
     exact WQ_loop (i+1) ⟨rfl,rfl,rfl,rfl,rfl,trivial⟩ ⟨hil,next (by rw [hn];simp),hS5.trans hS6⟩ (by omega)
   | true=>
     rw [if_pos rfl] at hn
     by_cases hnd:n=d
     subst hnd
     focus repeat'(first|refine W1 ?_|omega|refine VG ?_ ?_<;>intro hg|refine VC ?_ ?_<;>intro hc)
     refine WR ?_
     refine .mk ⟨?_,(hS.trans hS5).trans hS6⟩
     rw [hany k hlt ⟨_,List.getElem_mem hil,hn⟩]
     · repeat'(first|refine W1 ?_|omega|refine VG ?_ ?_<;>intro hg|refine VC ?_ ?_<;>intro hc)
       exact WQ_loop (i+1) ⟨rfl,rfl,rfl,rfl,rfl,trivial⟩ ⟨hil,next (by rw [hn];simpa using hnd),hS5.trans hS6⟩ (by omega)
 obtain rfl:i=l.length:=by omega
 rw [List.take_length] at hni
 focus repeat'(first|refine W1 ?_|omega|refine VG ?_ ?_<;>intro hg|refine VC ?_ ?_<;>intro hc)
 exact WQ_cut () ⟨rfl,rfl,rfl,rfl,trivial⟩ ⟨hni,hS5⟩
 rintro _ w5 ⟨hni,hS5⟩
 refine W ?_
 refine WQ_loop (k+1) ⟨rfl,rfl,rfl,?_,trivial⟩ ⟨hlt,fun j hj=>?_,hS5⟩ (by omega)
 simp only [look_cons]
 simp
 omega
 by_cases hjk:j=k
 subst hjk;exact hni
 exact hno j (by omega)
 obtain rfl:k=3:=by omega
 focus repeat'(first|refine W1 ?_|omega|refine VG ?_ ?_<;>intro hg|refine VC ?_ ?_<;>intro hc)
 refine WR ?_
 refine .mk ⟨?_,hS.trans hS4⟩
 have:isHolM l d=false:=by
  rw [Bool.eq_false_iff]
  intro h
  unfold isHolM at h
  rw [hin,Bool.true_and,List.any_eq_true] at h
  obtain ⟨y,hy,h⟩:=h
  obtain ⟨q,hq,hd⟩:=List.any_eq_true.1 h
  have hd:=of_decide_eq_true hd
  simp only [List.mem_cons,List.not_mem_nil,or_false] at hy
  rcases hy with rfl|rfl|rfl
  exact hno 0 (by omega) q hq (by simpa using hd)
  exact hno 1 (by omega) q hq (by rw [← hd];congr 1;omega)
  exact hno 2 (by omega) q hq (by rw [← hd];congr 1;omega)
 rw [this]
theorem cwithin11_any (d:Int) (w:World):Calls Tryz.prog 266 #[.int .i64 d] w (Ret fun r w'=>r=.bool (inDays d)∧w'=w):=by
 refine calls_of_WC1 (n:=9) Tryz.func266 rfl rfl rfl ?_
 unfold inDays
 by_cases h1:d≥0
 by_cases h2:d≤3652058
 rw [decide_eq_true ⟨h1,h2⟩]
 focus repeat'(first|refine W1 ?_|omega|refine VG ?_ ?_<;>intro hg|refine VC ?_ ?_<;>intro hc)
 refine WR ?_
 exact .mk ⟨by simp [h2],rfl⟩
 rw [decide_eq_false (fun h=>h2 h.2)]
 focus repeat'(first|refine W1 ?_|omega|refine VG ?_ ?_<;>intro hg|refine VC ?_ ?_<;>intro hc)
 refine WR ?_
 exact .mk ⟨by simp [h2],rfl⟩
 rw [decide_eq_false (fun h=>h1 h.1)]
 focus repeat'(first|refine W1 ?_|omega|refine VG ?_ ?_<;>intro hg|refine VC ?_ ?_<;>intro hc)
 refine WR ?_
 exact .mk ⟨rfl,rfl⟩
theorem closed11_any (d kn:Int) (c:Cal) (hv cv zo zs hr:Value) (w:World) (h:CalV w c hv cv zo zs hr) :
 Calls Tryz.prog 317 #[calA c hv cv zo zs hr,.int .i64 d,.int .i64 kn] w (Ret fun r w'=>r=.bool (cloM c.clos kn d)∧Stp [] w w'):=by
 have hcm:=h.clos.max
 refine calls_of_WC3 (n:=37) Tryz.func317 rfl rfl rfl ?_
 refine W ?_
 refine WL_eff (OE_box rfl) rfl ?_
 rintro _ w1 ⟨b3,rfl,hb3,hblk,hS⟩
 replace hblk:Blk w1 b3 37 (calC c hv cv zo zs hr):=hblk
 refine W ?_
 refine WC_loop (σ:=Nat) (fun k=>[(1,.int .i64 d),(2,.int .i64 kn),(3,.pointer (some ⟨b3,0,none⟩)),(7,.int .i64 (k:Int))])
  (fun k w'=>k≤c.clos.length∧cloM (c.clos.take k) kn d=false∧Stp [] w1 w') (fun k=>c.clos.length - k) 0 ⟨rfl,rfl,rfl,rfl,trivial⟩ ⟨Nat.zero_le _,rfl,Stp.refl _ _⟩ ?_
 rintro k w2 ⟨hk,hn,hS2⟩
 have kc:=hblk.up hS2
 have hcl:=(h.clos.up hS).up hS2
 by_cases hlt:k<c.clos.length
 have ht:cloM (c.clos.take (k+1)) kn d=(cloM (c.clos.take k) kn d || decide (c.clos[k].known≤kn∧c.clos[k].lo≤d∧d≤c.clos[k].hi)):=by
  unfold cloM
  rw [List.take_succ_eq_append_getElem hlt,List.any_append]
  simp
 rw [hn,Bool.false_or] at ht
 focus repeat'(first|refine W1 ?_|omega|refine VG ?_ ?_<;>intro hg|refine VC ?_ ?_<;>intro hc)
 refine WL_eff OE_alloc rfl ?_
 rintro _ w3 ⟨b8,rfl,hb8,e8,hS3⟩
 refine W ?_
 refine WL_eff0 (OE_storeA (us:=Flat.enc c.clos[k]) rfl rfl rfl rfl (Flat.one _) e8 rfl) ?_
 rintro _ w4 ⟨hT,k8⟩
 replace hS3:=hS3.own hT (fun c hc=>.inr (by simp at hc;omega))
 clear e8 hT
 replace kc:=kc.up hS3
 replace hcl:=hcl.up hS3
 replace hS2:=hS2.trans hS3
 by_cases hx:c.clos[k].known≤kn∧c.clos[k].lo≤d∧d≤c.clos[k].hi
 focus repeat'(first|refine W1 ?_|omega|refine VG ?_ ?_<;>intro hg|refine VC ?_ ?_<;>intro hc)
 refine WR ?_
 refine .mk ⟨?_,hS.trans hS2⟩
 have:cloM c.clos kn d=true:=by
  unfold cloM
  exact List.any_eq_true.2 ⟨c.clos[k],List.getElem_mem hlt,decide_eq_true hx⟩
 rw [this]
 · rw [decide_eq_false hx] at ht
   repeat'(first|refine W1 ?_|omega|refine VG ?_ ?_<;>intro hg|refine VC ?_ ?_<;>intro hc)
   all_goals exact WQ_loop (k+1) ⟨rfl,rfl,rfl,rfl,trivial⟩ ⟨hlt,ht,hS2⟩ (by omega)
 obtain rfl:k=c.clos.length:=by omega
 rw [List.take_length] at hn
 focus repeat'(first|refine W1 ?_|omega|refine VG ?_ ?_<;>intro hg|refine VC ?_ ?_<;>intro hc)
 refine WR ?_
 exact .mk ⟨by rw [hn],hS.trans hS2⟩
theorem Open11_any (d kn:Int) (c:Cal) (hv cv zo zs hr:Value) (w:World) (h:CalV w c hv cv zo zs hr) :
 Calls Tryz.prog 296 #[calA c hv cv zo zs hr,.int .i64 d,.int .i64 kn] w (Ret fun r w'=>r=.bool (openM c kn d)∧Stp [] w w'):=by
 refine calls_of_WC3 (n:=28) Tryz.func296 rfl rfl rfl ?_
 refine W ?_
 refine WL_eff (OE_box rfl) rfl ?_
 rintro _ w1 ⟨b3,rfl,hb3,hblk,hS⟩
 replace hblk:Blk w1 b3 37 (calC c hv cv zo zs hr):=hblk
 replace h:=h.up hS
 refine W ?_
 refine CL rfl (evs1 rfl) rfl (cwithin11_any d _) ?_
 rintro _ w1 ⟨rfl,rfl⟩
 unfold openM
 cases hd:inDays d with
 | false=>
   refine W ?_
   refine WR ?_
   exact .mk ⟨rfl,hS⟩
 | true=>
   obtain ⟨h0,h1⟩:=inDays_iff.1 hd
   have hi7:(d % 7).toNat<7:=by omega
   have hwk:=week_at c hv cv zo zs hr hi7
   refine W ?_
   refine CL rfl (evs1 rfl) rfl (Weekday8_any d _ h0 (by omega)) ?_
   rintro _ _ ⟨rfl,rfl⟩
   refine W ?_
   refine WL_idxA (len:=7) (i:=(d % 7).toNat) rfl rfl (by omega) hi7 rfl ?_
   refine WL_go rfl ?_
   refine WL_load_blk rfl rfl hblk hwk rfl ?_
   unfold shutM
   cases hw:c.week.getD (d % 7).toNat false with
   | true=>
     refine W ?_
     refine WR ?_
     exact .mk ⟨by simp,hS⟩
   | false=>
     rw [Bool.false_or]
     refine W ?_
     refine CL rfl (evs3 rfl rfl rfl) rfl (closed11_any d kn c hv cv zo zs hr _ h) ?_
     rintro _ w2 ⟨rfl,hS2⟩
     replace h:=h.up hS2
     replace hblk:=hblk.up hS2
     replace hS:=hS.trans hS2
     cases hc:cloM c.clos kn d with
     | true=>
       refine W ?_
       refine WR ?_
       exact .mk ⟨by simp,hS⟩
     | false=>
       rw [Bool.false_or]
       refine W ?_
       refine CL rfl (evs2 rfl rfl) rfl (Is10_any hv c.hols d _ h.hols h.ok.hols h0 h1) ?_
       rintro _ w3 ⟨rfl,hS3⟩
       refine W ?_
       refine WR ?_
       exact .mk ⟨by simp,hS.trans hS3⟩
theorem find11_any (d kn st:Int) (c:Cal) (hv cv zo zs hr:Value) (w:World) (h:CalV w c hv cv zo zs hr) (hst:st=1∨st=-1) :
 Calls Tryz.prog 262 #[calA c hv cv zo zs hr,.int .i64 d,.int .i64 kn,.int .i64 st] w (Ret fun r w'=>r=.tuple #[.int .i64 (findM (openM c kn) st d).1,.int .i64 (findM (openM c kn) st d).2]∧Stp [] w w'):=by
 refine calls_of_WC4 (n:=39) Tryz.func262 rfl rfl rfl ?_
 refine W ?_
 refine WL_eff (OE_box rfl) rfl ?_
 rintro _ w1 ⟨b4,rfl,hb4,hblk,hS⟩
 replace hblk:Blk w1 b4 37 (calC c hv cv zo zs hr):=hblk
 replace h:=h.up hS
 refine W ?_
 refine CL rfl (evs1 rfl) rfl (cwithin11_any d _) ?_
 rintro _ w1 ⟨rfl,rfl⟩
 unfold findM
 cases hd:inDays d with
 | false=>
   rw [if_neg (by simp)]
   refine W ?_
   refine WR ?_
   exact .mk ⟨rfl,hS⟩
 | true=>
   rw [if_pos rfl]
   obtain ⟨h0,h1⟩:=inDays_iff.1 hd
   refine W ?_
   refine WC_loop (σ:=Nat) (fun k=>[(1,.int .i64 d),(2,.int .i64 kn),(3,.int .i64 st),(4,.pointer (some ⟨b4,0,none⟩)),(10,.int .i64 (k:Int))])
    (fun k w'=>k≤1001∧findG (openM c kn) st (1001 - k) (d+st * (k:Int))=findG (openM c kn) st 1001 d∧Stp [] w1 w') (fun k=>1001 - k) 0 ⟨rfl,rfl,rfl,rfl,rfl,trivial⟩ ⟨Nat.zero_le _,by simp,Stp.refl _ _⟩ ?_
   rintro k w2 ⟨hk,hfg,hS2⟩
   have hblk2:=hblk.up hS2
   have h2:=h.up hS2
   have hsk:-1001≤st * (k:Int)∧st * (k:Int)≤1001:=by rcases hst with rfl|rfl<;>omega
   have hsk1:st * ((k+1:Nat):Int)=st * (k:Int)+st:=by rcases hst with rfl|rfl<;>omega
   by_cases hlt:k≤1000
   · have e1:1001 - k=(1001 - (k+1))+1:=by omega
     rw [e1,findG] at hfg
     generalize hX:st * (k:Int)=X at *
     repeat'(first|refine W1 ?_|omega|refine VG ?_ ?_<;>intro hg|refine VC ?_ ?_<;>intro hc)
     rw [hX]
     refine CL rfl (evs1 rfl) rfl (cwithin11_any (d+X) _) ?_
     rintro _ _ ⟨rfl,rfl⟩
     cases hd2:inDays (d+X) with
     | false=>
       rw [hd2,if_neg (by simp)] at hfg
       refine W ?_
       refine WR ?_
       rw [← hfg]
       exact .mk ⟨rfl,hS.trans hS2⟩
     | true=>
       rw [hd2,if_pos rfl] at hfg
       refine W ?_
       rw [hX]
       refine CL rfl (evs3 rfl rfl rfl) rfl (Open11_any (d+X) kn c hv cv zo zs hr _ h2) ?_
       rintro _ w3 ⟨rfl,hS3⟩
       cases ho:openM c kn (d+X) with
       | true=>
         rw [ho,if_pos rfl] at hfg
         refine W ?_
         rw [hX]
         refine WR ?_
         rw [← hfg]
         exact .mk ⟨rfl,(hS.trans hS2).trans hS3⟩
       | false=>
         rw [ho,if_neg (by simp)] at hfg
         refine W ?_
         refine WQ_loop (k+1) ⟨rfl,rfl,rfl,rfl,rfl,trivial⟩ ⟨by omega,?_,hS2.trans hS3⟩ (by omega)
         rw [hsk1,← Int.add_assoc]
         exact hfg
   obtain rfl:k=1001:=by omega
   rw [Nat.sub_self,findG] at hfg
   focus repeat'(first|refine W1 ?_|omega|refine VG ?_ ?_<;>intro hg|refine VC ?_ ?_<;>intro hc)
   refine WR ?_
   rw [← hfg]
   exact .mk ⟨rfl,hS.trans hS2⟩
theorem Next11_any (d kn:Int) (c:Cal) (hv cv zo zs hr:Value) (w:World) (h:CalV w c hv cv zo zs hr) :
 Calls Tryz.prog 195 #[calA c hv cv zo zs hr,.int .i64 d,.int .i64 kn] w (Ret fun r w'=>r=.tuple #[.int .i64 (findM (openM c kn) (1) d).1,.int .i64 (findM (openM c kn) (1) d).2]∧Stp [] w w'):=by
 refine calls_of_WC3 (n:=14) Tryz.func195 rfl rfl rfl ?_
 refine W ?_
 refine WL_eff (OE_box rfl) rfl ?_
 rintro _ w1 ⟨b3,rfl,hb3,hblk,hS⟩
 replace hblk:Blk w1 b3 37 (calC c hv cv zo zs hr):=hblk
 replace h:=h.up hS
 refine W ?_
 refine CL rfl (evs4 rfl rfl rfl rfl) rfl (find11_any d kn (1) c hv cv zo zs hr _ h (by omega)) ?_
 rintro _ w2 ⟨rfl,hS2⟩
 refine W ?_
 refine WR ?_
 exact .mk ⟨rfl,hS.trans hS2⟩
theorem Previous11_any (d kn:Int) (c:Cal) (hv cv zo zs hr:Value) (w:World) (h:CalV w c hv cv zo zs hr) :
 Calls Tryz.prog 196 #[calA c hv cv zo zs hr,.int .i64 d,.int .i64 kn] w (Ret fun r w'=>r=.tuple #[.int .i64 (findM (openM c kn) (-1) d).1,.int .i64 (findM (openM c kn) (-1) d).2]∧Stp [] w w'):=by
 refine calls_of_WC3 (n:=14) Tryz.func196 rfl rfl rfl ?_
 refine W ?_
 refine WL_eff (OE_box rfl) rfl ?_
 rintro _ w1 ⟨b3,rfl,hb3,hblk,hS⟩
 replace hblk:Blk w1 b3 37 (calC c hv cv zo zs hr):=hblk
 replace h:=h.up hS
 refine W ?_
 refine CL rfl (evs4 rfl rfl rfl rfl) rfl (find11_any d kn (-1) c hv cv zo zs hr _ h (by omega)) ?_
 rintro _ w2 ⟨rfl,hS2⟩
 refine W ?_
 refine WR ?_
 exact .mk ⟨rfl,hS.trans hS2⟩
theorem Add11_any (d n kn:Int) (c:Cal) (hv cv zo zs hr:Value) (w:World) (h:CalV w c hv cv zo zs hr) :
 Calls Tryz.prog 201 #[calA c hv cv zo zs hr,.int .i64 d,.int .i64 n,.int .i64 kn] w (Ret fun r w'=>r=.tuple #[.int .i64 (addM (openM c kn) d n).1,.int .i64 (addM (openM c kn) d n).2]∧Stp [] w w'):=by
 refine calls_of_WC4 (n:=46) Tryz.func201 rfl rfl rfl ?_
 refine W ?_
 refine WL_eff (OE_box rfl) rfl ?_
 rintro _ w1 ⟨b4,rfl,hb4,hblk,hS⟩
 replace hblk:Blk w1 b4 37 (calC c hv cv zo zs hr):=hblk
 replace h:=h.up hS
 refine W ?_
 refine CL rfl (evs1 rfl) rfl (cwithin11_any d _) ?_
 rintro _ w1 ⟨rfl,rfl⟩
 unfold addM
 cases hd:inDays d with
 | false=>
   rw [if_neg (by simp)]
   refine W ?_
   refine WR ?_
   exact .mk ⟨rfl,hS⟩
 | true=>
   rw [if_pos rfl]
   by_cases hn:n < -1000∨1000<n
   · rw [if_pos hn]
     repeat'(first|refine W1 ?_|omega|refine VG ?_ ?_<;>intro hg|refine VC ?_ ?_<;>intro hc)
     all_goals refine WR ?_
     all_goals exact .mk ⟨rfl,hS⟩
   rw [if_neg hn]
   by_cases hneg:n<0
   have hna:(-1) * n=(n.natAbs:Int):=by omega
   have hif:(if n<0 then (-1:Int) else 1)=-1:=by split<;>omega
   rw [hif]
   focus repeat'(first|refine W1 ?_|omega|refine VG ?_ ?_<;>intro hg|refine VC ?_ ?_<;>intro hc)
   refine WC_loop (σ:=Nat×Int) (fun q=>[(1,.int .i64 q.2),(2,.int .i64 n),(3,.int .i64 kn),(4,.pointer (some ⟨b4,0,none⟩)),(10,.int .i64 (-1)),(11,.int .i64 (q.1:Int))])
    (fun q w'=>q.1≤n.natAbs∧inDays q.2=true∧addG (openM c kn) (-1) (n.natAbs - q.1) q.2=addG (openM c kn) (-1) n.natAbs d∧Stp [] w1 w') (fun q=>n.natAbs - q.1) (0,d) ⟨rfl,rfl,rfl,rfl,rfl,rfl,trivial⟩ ⟨Nat.zero_le _,hd,rfl,Stp.refl _ _⟩ ?_
   rintro ⟨k,q⟩ w2 ⟨hk,hq,hfg,hS2⟩
   dsimp only at hk hq hfg ⊢
   have hblk2:=hblk.up hS2
   have h2:=h.up hS2
   have hqr:=inDays_iff.1 hq
   by_cases hlt:k<n.natAbs
   have e1:n.natAbs - k=(n.natAbs - (k+1))+1:=by omega
   rw [e1,addG] at hfg
   focus repeat'(first|refine W1 ?_|omega|refine VG ?_ ?_<;>intro hg|refine VC ?_ ?_<;>intro hc)
   refine CL rfl (evs4 rfl rfl rfl rfl) rfl (find11_any (q+(-1)) kn (-1) c hv cv zo zs hr _ h2 (by omega)) ?_
   rintro _ w3 ⟨rfl,hS3⟩
   by_cases he:(findM (openM c kn) (-1) (q+(-1))).2=0
   rw [if_pos he] at hfg
   rw [he]
   refine W ?_
   exact WQ_loop (k+1,(findM (openM c kn) (-1) (q+(-1))).1) ⟨rfl,rfl,rfl,rfl,rfl,rfl,trivial⟩ ⟨by dsimp only;omega,(findM_ok he).1,hfg,hS2.trans hS3⟩ (by dsimp only;omega)
   rw [if_neg he] at hfg
   focus repeat'(first|refine W1 ?_|omega|refine VG ?_ ?_<;>intro hg|refine VC ?_ ?_<;>intro hc)
   refine WR ?_
   rw [← hfg]
   exact .mk ⟨rfl,(hS.trans hS2).trans hS3⟩
   have e1:n.natAbs - k=0:=by omega
   rw [e1,addG] at hfg
   focus repeat'(first|refine W1 ?_|omega|refine VG ?_ ?_<;>intro hg|refine VC ?_ ?_<;>intro hc)
   refine WR ?_
   rw [← hfg]
   exact .mk ⟨rfl,hS.trans hS2⟩
   have hna:(1) * n=(n.natAbs:Int):=by omega
   have hif:(if n<0 then (-1:Int) else 1)=1:=by split<;>omega
   rw [hif]
   focus repeat'(first|refine W1 ?_|omega|refine VG ?_ ?_<;>intro hg|refine VC ?_ ?_<;>intro hc)
   refine WC_loop (σ:=Nat×Int) (fun q=>[(1,.int .i64 q.2),(2,.int .i64 n),(3,.int .i64 kn),(4,.pointer (some ⟨b4,0,none⟩)),(10,.int .i64 (1)),(11,.int .i64 (q.1:Int))])
    (fun q w'=>q.1≤n.natAbs∧inDays q.2=true∧addG (openM c kn) (1) (n.natAbs - q.1) q.2=addG (openM c kn) (1) n.natAbs d∧Stp [] w1 w') (fun q=>n.natAbs - q.1) (0,d) ⟨rfl,rfl,rfl,rfl,rfl,rfl,trivial⟩ ⟨Nat.zero_le _,hd,rfl,Stp.refl _ _⟩ ?_
   rintro ⟨k,q⟩ w2 ⟨hk,hq,hfg,hS2⟩
   dsimp only at hk hq hfg ⊢
   have hblk2:=hblk.up hS2
   have h2:=h.up hS2
   have hqr:=inDays_iff.1 hq
   by_cases hlt:k<n.natAbs
   have e1:n.natAbs - k=(n.natAbs - (k+1))+1:=by omega
   rw [e1,addG] at hfg
   focus repeat'(first|refine W1 ?_|omega|refine VG ?_ ?_<;>intro hg|refine VC ?_ ?_<;>intro hc)
   refine CL rfl (evs4 rfl rfl rfl rfl) rfl (find11_any (q+(1)) kn (1) c hv cv zo zs hr _ h2 (by omega)) ?_
   rintro _ w3 ⟨rfl,hS3⟩
   by_cases he:(findM (openM c kn) (1) (q+(1))).2=0
   rw [if_pos he] at hfg
   rw [he]
   refine W ?_
   exact WQ_loop (k+1,(findM (openM c kn) (1) (q+(1))).1) ⟨rfl,rfl,rfl,rfl,rfl,rfl,trivial⟩ ⟨by dsimp only;omega,(findM_ok he).1,hfg,hS2.trans hS3⟩ (by dsimp only;omega)
   rw [if_neg he] at hfg
   focus repeat'(first|refine W1 ?_|omega|refine VG ?_ ?_<;>intro hg|refine VC ?_ ?_<;>intro hc)
   refine WR ?_
   rw [← hfg]
   exact .mk ⟨rfl,(hS.trans hS2).trans hS3⟩
   have e1:n.natAbs - k=0:=by omega
   rw [e1,addG] at hfg
   focus repeat'(first|refine W1 ?_|omega|refine VG ?_ ?_<;>intro hg|refine VC ?_ ?_<;>intro hc)
   refine WR ?_
   rw [← hfg]
   exact .mk ⟨rfl,hS.trans hS2⟩
abbrev evA (ev:List Int):Value:=.agg (evC ev).toArray
def plC (ev:List Int) (c:Cal) (hv cv zo zs hr:Value) (kn:Int):List Value:=evC ev++calC c hv cv zo zs hr++[.int .i64 kn]
abbrev plA (ev:List Int) (c:Cal) (hv cv zo zs hr:Value) (kn:Int):Value:=.agg (plC ev c hv cv zo zs hr kn).toArray
abbrev nums (r:Int×Int):Value:=.tuple #[.int .i64 r.1,.int .i64 r.2]
def Num (a:Int):Prop:=-2147483647≤a∧a≤2147483647
theorem vOk.num {t v:Int} (h:vOk t v):Num v:=by unfold vOk at h;unfold Num;omega
theorem one16_any (b:Bool) (w:World):Calls Tryz.prog 198 #[.bool b] w (Ret fun r w'=>r=.int .i64 (oneB' b)∧w'=w):=by
 refine calls_of_WC1 (n:=4) Tryz.func198 rfl rfl rfl ?_
 cases b
 all_goals
  refine W ?_
  refine WR ?_
  exact .mk ⟨rfl,rfl⟩
theorem number16_any (n:Int) (w:World):Calls Tryz.prog 197 #[.int .i64 n] w (Ret fun r w'=>r=nums (numE n)∧w'=w):=by
 refine calls_of_WC1 (n:=11) Tryz.func197 rfl rfl rfl ?_
 unfold numE
 by_cases h:n < -2147483647∨2147483647<n
 · rw [if_pos h]
   repeat'(first|refine W1 ?_|omega|refine VG ?_ ?_<;>intro hg|refine VC ?_ ?_<;>intro hc)
   all_goals refine WR ?_
   all_goals exact .mk ⟨rfl,rfl⟩
 rw [if_neg h]
 focus repeat'(first|refine W1 ?_|omega|refine VG ?_ ?_<;>intro hg|refine VC ?_ ?_<;>intro hc)
 refine WR ?_
 exact .mk ⟨rfl,rfl⟩
theorem day16_any (n:Int) (w:World):Calls Tryz.prog 199 #[.int .i64 n] w (Ret fun r w'=>r=nums (dayE n)∧w'=w):=by
 refine calls_of_WC1 (n:=11) Tryz.func199 rfl rfl rfl ?_
 unfold dayE
 by_cases h:n<0∨3652058<n
 · rw [if_pos h]
   repeat'(first|refine W1 ?_|omega|refine VG ?_ ?_<;>intro hg|refine VC ?_ ?_<;>intro hc)
   all_goals refine WR ?_
   all_goals exact .mk ⟨rfl,rfl⟩
 rw [if_neg h]
 focus repeat'(first|refine W1 ?_|omega|refine VG ?_ ?_<;>intro hg|refine VC ?_ ?_<;>intro hc)
 refine WR ?_
 exact .mk ⟨rfl,rfl⟩
theorem operands_any (op:Int) (w:World) (h13:op≠13) (h14:op≠14) (h24:op≠24):Calls Tryz.prog 54 #[.int .i64 op] w (Ret fun r w'=>r=.int .i64 (arM op:Int)∧w'=w):=by
 refine calls_of_WC1 (n:=18) Tryz.func54 rfl rfl rfl ?_
 repeat'(first|refine W1 ?_|omega|refine VG ?_ ?_<;>intro hg|refine VC ?_ ?_<;>intro hc)
 all_goals refine WR ?_
 all_goals refine .mk ⟨?_,rfl⟩
 all_goals congr 1
 all_goals unfold arM
 all_goals (repeat' split)
 all_goals omega
section
variable {ev:List Int} {c:Cal} {hv cv zo zs hr:Value} {kn:Int} {w:World}
theorem single16_any (h:CalV w c hv cv zo zs hr) (op b:Int) (hb:Num b):Calls Tryz.prog 106 #[plA ev c hv cv zo zs hr kn,.int .i64 op,.int .i64 b] w (Ret fun r w'=>r=nums (sngM (openM c kn) op b)∧Stp [] w w'):=by
 unfold Num at hb
 refine calls_of_WC3 (n:=35) Tryz.func106 rfl rfl rfl ?_
 refine W ?_
 refine WL_eff (OE_box rfl) rfl ?_
 rintro _ w1 ⟨b3,rfl,hb3,hblk,hS⟩
 replace hblk:Blk w1 b3 114 (plC ev c hv cv zo zs hr kn):=hblk
 replace h:=h.up hS
 unfold sngM
 by_cases k8:op=8
 rw [if_pos k8]
 focus repeat'(first|refine W1 ?_|omega|refine VG ?_ ?_<;>intro hg|refine VC ?_ ?_<;>intro hc)
 refine WR ?_
 exact .mk ⟨rfl,hS⟩
 rw [if_neg k8]
 by_cases k19:op=19
 rw [if_pos k19]
 focus repeat'(first|refine W1 ?_|omega|refine VG ?_ ?_<;>intro hg|refine VC ?_ ?_<;>intro hc)
 refine WL_pure (PR_loadN_blk (us:=calC c hv cv zo zs hr) rfl rfl hblk rfl rfl) rfl ?_
 refine W ?_
 refine CL rfl (evs3 rfl rfl rfl) rfl (Next11_any b kn c hv cv zo zs hr _ h) ?_
 rintro _ w2 ⟨rfl,hS2⟩
 refine W ?_
 refine WR ?_
 exact .mk ⟨rfl,hS.trans hS2⟩
 rw [if_neg k19]
 by_cases k20:op=20
 rw [if_pos k20]
 focus repeat'(first|refine W1 ?_|omega|refine VG ?_ ?_<;>intro hg|refine VC ?_ ?_<;>intro hc)
 refine WL_pure (PR_loadN_blk (us:=calC c hv cv zo zs hr) rfl rfl hblk rfl rfl) rfl ?_
 refine W ?_
 refine CL rfl (evs3 rfl rfl rfl) rfl (Previous11_any b kn c hv cv zo zs hr _ h) ?_
 rintro _ w2 ⟨rfl,hS2⟩
 refine W ?_
 refine WR ?_
 exact .mk ⟨rfl,hS.trans hS2⟩
 rw [if_neg k20]
 repeat'(first|refine W1 ?_|omega|refine VG ?_ ?_<;>intro hg|refine VC ?_ ?_<;>intro hc)
 refine WR ?_
 exact .mk ⟨rfl,hS⟩
theorem double16_any (h:CalV w c hv cv zo zs hr) (op a b:Int) (ha:Num a) (hb:Num b) (h17:op=17→inDays a=true):Calls Tryz.prog 107 #[plA ev c hv cv zo zs hr kn,.int .i64 op,.int .i64 a,.int .i64 b] w (Ret fun r w'=>r=nums (dblM (openM c kn) op a b)∧Stp [] w w'):=by
 unfold Num at ha hb
 have hm:-4611686018427387904≤a * b∧a * b≤4611686018427387904:=by
  have h1:(a * b).natAbs≤2147483647 * 2147483647:=by rw [Int.natAbs_mul];exact Nat.mul_le_mul (by omega) (by omega)
  omega
 refine calls_of_WC4 (n:=101) Tryz.func107 rfl rfl rfl ?_
 refine W ?_
 refine WL_eff (OE_box rfl) rfl ?_
 rintro _ w1 ⟨b4,rfl,hb4,hblk,hS⟩
 replace hblk:Blk w1 b4 114 (plC ev c hv cv zo zs hr kn):=hblk
 replace h:=h.up hS
 unfold dblM
 by_cases k5:op=5
 rw [if_pos k5]
 focus repeat'(first|refine W1 ?_|omega|refine VG ?_ ?_<;>intro hg|refine VC ?_ ?_<;>intro hc)
 refine CL rfl (evs1 rfl) rfl (number16_any (a+b) _) ?_
 rintro _ _ ⟨rfl,rfl⟩
 refine W ?_
 refine WR ?_
 exact .mk ⟨rfl,hS⟩
 rw [if_neg k5]
 by_cases k6:op=6
 rw [if_pos k6]
 focus repeat'(first|refine W1 ?_|omega|refine VG ?_ ?_<;>intro hg|refine VC ?_ ?_<;>intro hc)
 refine CL rfl (evs1 rfl) rfl (number16_any (a - b) _) ?_
 rintro _ _ ⟨rfl,rfl⟩
 refine W ?_
 refine WR ?_
 exact .mk ⟨rfl,hS⟩
 rw [if_neg k6]
 by_cases k7:op=7
 rw [if_pos k7]
 focus repeat'(first|refine W1 ?_|omega|refine VG ?_ ?_<;>intro hg|refine VC ?_ ?_<;>intro hc)
 refine CL rfl (evs1 rfl) rfl (number16_any (a * b) _) ?_
 rintro _ _ ⟨rfl,rfl⟩
 refine W ?_
 refine WR ?_
 exact .mk ⟨rfl,hS⟩
 rw [if_neg k7]
 by_cases k9:op=9
 rw [if_pos k9]
 focus repeat'(first|refine W1 ?_|omega|refine VG ?_ ?_<;>intro hg|refine VC ?_ ?_<;>intro hc)
 refine CL rfl (evs1 rfl) rfl (one16_any (decide (a<b)) _) ?_
 rintro _ _ ⟨rfl,rfl⟩
 refine W ?_
 refine WR ?_
 exact .mk ⟨rfl,hS⟩
 rw [if_neg k9]
 by_cases k10:op=10
 rw [if_pos k10]
 focus repeat'(first|refine W1 ?_|omega|refine VG ?_ ?_<;>intro hg|refine VC ?_ ?_<;>intro hc)
 refine CL rfl (evs1 rfl) rfl (one16_any (decide (a≤b)) _) ?_
 rintro _ _ ⟨rfl,rfl⟩
 refine W ?_
 refine WR ?_
 exact .mk ⟨rfl,hS⟩
 rw [if_neg k10]
 by_cases k11:op=11
 rw [if_pos k11]
 focus repeat'(first|refine W1 ?_|omega|refine VG ?_ ?_<;>intro hg|refine VC ?_ ?_<;>intro hc)
 refine CL rfl (evs1 rfl) rfl (one16_any (decide (a=b)) _) ?_
 rintro _ _ ⟨rfl,rfl⟩
 refine W ?_
 refine WR ?_
 exact .mk ⟨rfl,hS⟩
 rw [if_neg k11]
 by_cases k15:op=15
 rw [if_pos k15]
 focus repeat'(first|refine W1 ?_|omega|refine VG ?_ ?_<;>intro hg|refine VC ?_ ?_<;>intro hc)
 refine CL rfl (evs1 rfl) rfl (day16_any (a+b) _) ?_
 rintro _ _ ⟨rfl,rfl⟩
 refine W ?_
 refine WR ?_
 exact .mk ⟨rfl,hS⟩
 rw [if_neg k15]
 by_cases k16:op=16
 rw [if_pos k16]
 focus repeat'(first|refine W1 ?_|omega|refine VG ?_ ?_<;>intro hg|refine VC ?_ ?_<;>intro hc)
 refine CL rfl (evs1 rfl) rfl (day16_any (a+7 * b) _) ?_
 rintro _ _ ⟨rfl,rfl⟩
 refine W ?_
 refine WR ?_
 exact .mk ⟨rfl,hS⟩
 rw [if_neg k16]
 by_cases k17:op=17
 rw [if_pos k17]
 obtain ⟨d0,d1⟩:=inDays_iff.1 (h17 k17)
 focus repeat'(first|refine W1 ?_|omega|refine VG ?_ ?_<;>intro hg|refine VC ?_ ?_<;>intro hc)
 refine CL rfl (evs2 rfl rfl) rfl (AddMonths8_any a b _ d0 d1) ?_
 rintro _ w2 ⟨rfl,hS2⟩
 refine W ?_
 refine WR ?_
 exact .mk ⟨rfl,hS.trans hS2⟩
 rw [if_neg k17]
 by_cases k18:op=18
 rw [if_pos k18]
 focus repeat'(first|refine W1 ?_|omega|refine VG ?_ ?_<;>intro hg|refine VC ?_ ?_<;>intro hc)
 refine WL_pure (PR_loadN_blk (us:=calC c hv cv zo zs hr) rfl rfl hblk rfl rfl) rfl ?_
 refine W ?_
 refine CL rfl (evs4 rfl rfl rfl rfl) rfl (Add11_any a b kn c hv cv zo zs hr _ h) ?_
 rintro _ w2 ⟨rfl,hS2⟩
 refine W ?_
 refine WR ?_
 exact .mk ⟨rfl,hS.trans hS2⟩
 rw [if_neg k18]
 by_cases k21:op=21
 rw [if_pos k21]
 focus repeat'(first|refine W1 ?_|omega|refine VG ?_ ?_<;>intro hg|refine VC ?_ ?_<;>intro hc)
 refine WR ?_
 exact .mk ⟨rfl,hS⟩
 rw [if_neg k21]
 by_cases k22:op=22
 rw [if_pos k22]
 focus repeat'(first|refine W1 ?_|omega|refine VG ?_ ?_<;>intro hg|refine VC ?_ ?_<;>intro hc)
 refine WR ?_
 exact .mk ⟨rfl,hS⟩
 rw [if_neg k22]
 repeat'(first|refine W1 ?_|omega|refine VG ?_ ?_<;>intro hg|refine VC ?_ ?_<;>intro hc)
 refine WR ?_
 exact .mk ⟨rfl,hS⟩
theorem field16_any (n:Int) (h0:0≤n) (h7:n<7):Calls Tryz.prog 105 #[evA ev,.int .i64 n] w (Ret fun r w'=>r=nums (fldM ev n)∧Stp [] w w'):=by
 refine calls_of_WC2 (n:=33) Tryz.func105 rfl rfl rfl ?_
 refine W ?_
 refine WL_eff (OE_box rfl) rfl ?_
 rintro _ w1 ⟨b2,rfl,hb2,hblk,hS⟩
 replace hblk:Blk w1 b2 29 (evC ev):=hblk
 unfold evC at hblk
 refine W ?_
 refine WL_build (vs:=[(0,.int .i64 (ev.getD 0 0)),(1,.int .i64 (ev.getD 1 0)),(2,.int .i64 (ev.getD 2 0)),(3,.int .i64 (ev.getD 3 0)),(4,.int .i64 (ev.getD 4 0)),(5,.int .i64 (ev.getD 5 0)),(6,.int .i64 (ev.getD 6 0))]) rfl (buildF7 _ _ _ _ _ _ _) rfl ?_
 refine WL_eff OE_alloc rfl ?_
 rintro _ w2 ⟨b6,rfl,hb6,e6,hS2⟩
 refine WL_eff0 (OE_storeA (us:=evC ev) rfl rfl rfl rfl (by intro u hu;simp [evC] at hu;rcases hu with rfl|rfl|rfl|rfl|rfl|rfl|rfl<;>rfl) e6 rfl) ?_
 rintro _ w3 ⟨hT,k6⟩
 have hSn:=hS2.own hT (fun c hc=>.inr (by simp at hc;omega))
 replace hblk:=hblk.up hSn
 replace hS:=hS.trans hSn
 clear e6 hT hS2 hSn
 unfold evC at k6
 unfold fldM
 by_cases hs:n=1∧ev.getD 1 0=-1
 rw [if_pos hs]
 obtain ⟨rfl,hs⟩:=hs
 focus repeat'(first|refine W1 ?_|omega|refine VG ?_ ?_<;>intro hg|refine VC ?_ ?_<;>intro hc)
 refine WR ?_
 exact .mk ⟨rfl,hS⟩
 rw [if_neg hs]
 have hn:n=0∨n=1∨n=2∨n=3∨n=4∨n=5∨n=6:=by omega
 rcases hn with rfl|rfl|rfl|rfl|rfl|rfl|rfl
 focus repeat'(first|refine W1 ?_|omega|refine VG ?_ ?_<;>intro hg|refine VC ?_ ?_<;>intro hc)
 refine CL rfl (evs2 rfl rfl) rfl (Around01_any 0 7 _ (by omega) (by unfold I64;omega)) ?_
 rintro _ w5 ⟨rfl,hS5⟩
 replace k6:=k6.up hS5
 replace hS:=hS.trans hS5
 refine W ?_
 try refine WL_idxA (len:=7) (i:=0) (z:=(if (0:Int)<0 then -((0:Int)+1) else 0) % 7) rfl rfl (by decide) (by decide) rfl ?_
 refine W ?_
 refine WR ?_
 exact .mk ⟨rfl,hS⟩
 focus repeat'(first|refine W1 ?_|omega|refine VG ?_ ?_<;>intro hg|refine VC ?_ ?_<;>intro hc)
 refine CL rfl (evs2 rfl rfl) rfl (Around01_any 1 7 _ (by omega) (by unfold I64;omega)) ?_
 rintro _ w5 ⟨rfl,hS5⟩
 replace k6:=k6.up hS5
 replace hS:=hS.trans hS5
 refine W ?_
 try refine WL_idxA (len:=7) (i:=1) (z:=(if (1:Int)<0 then -((1:Int)+1) else 1) % 7) rfl rfl (by decide) (by decide) rfl ?_
 refine W ?_
 refine WR ?_
 exact .mk ⟨rfl,hS⟩
 focus repeat'(first|refine W1 ?_|omega|refine VG ?_ ?_<;>intro hg|refine VC ?_ ?_<;>intro hc)
 refine CL rfl (evs2 rfl rfl) rfl (Around01_any 2 7 _ (by omega) (by unfold I64;omega)) ?_
 rintro _ w5 ⟨rfl,hS5⟩
 replace k6:=k6.up hS5
 replace hS:=hS.trans hS5
 refine W ?_
 try refine WL_idxA (len:=7) (i:=2) (z:=(if (2:Int)<0 then -((2:Int)+1) else 2) % 7) rfl rfl (by decide) (by decide) rfl ?_
 refine W ?_
 refine WR ?_
 exact .mk ⟨rfl,hS⟩
 focus repeat'(first|refine W1 ?_|omega|refine VG ?_ ?_<;>intro hg|refine VC ?_ ?_<;>intro hc)
 refine CL rfl (evs2 rfl rfl) rfl (Around01_any 3 7 _ (by omega) (by unfold I64;omega)) ?_
 rintro _ w5 ⟨rfl,hS5⟩
 replace k6:=k6.up hS5
 replace hS:=hS.trans hS5
 refine W ?_
 try refine WL_idxA (len:=7) (i:=3) (z:=(if (3:Int)<0 then -((3:Int)+1) else 3) % 7) rfl rfl (by decide) (by decide) rfl ?_
 refine W ?_
 refine WR ?_
 exact .mk ⟨rfl,hS⟩
 focus repeat'(first|refine W1 ?_|omega|refine VG ?_ ?_<;>intro hg|refine VC ?_ ?_<;>intro hc)
 refine CL rfl (evs2 rfl rfl) rfl (Around01_any 4 7 _ (by omega) (by unfold I64;omega)) ?_
 rintro _ w5 ⟨rfl,hS5⟩
 replace k6:=k6.up hS5
 replace hS:=hS.trans hS5
 refine W ?_
 try refine WL_idxA (len:=7) (i:=4) (z:=(if (4:Int)<0 then -((4:Int)+1) else 4) % 7) rfl rfl (by decide) (by decide) rfl ?_
 refine W ?_
 refine WR ?_
 exact .mk ⟨rfl,hS⟩
 focus repeat'(first|refine W1 ?_|omega|refine VG ?_ ?_<;>intro hg|refine VC ?_ ?_<;>intro hc)
 refine CL rfl (evs2 rfl rfl) rfl (Around01_any 5 7 _ (by omega) (by unfold I64;omega)) ?_
 rintro _ w5 ⟨rfl,hS5⟩
 replace k6:=k6.up hS5
 replace hS:=hS.trans hS5
 refine W ?_
 try refine WL_idxA (len:=7) (i:=5) (z:=(if (5:Int)<0 then -((5:Int)+1) else 5) % 7) rfl rfl (by decide) (by decide) rfl ?_
 refine W ?_
 refine WR ?_
 exact .mk ⟨rfl,hS⟩
 focus repeat'(first|refine W1 ?_|omega|refine VG ?_ ?_<;>intro hg|refine VC ?_ ?_<;>intro hc)
 refine CL rfl (evs2 rfl rfl) rfl (Around01_any 6 7 _ (by omega) (by unfold I64;omega)) ?_
 rintro _ w5 ⟨rfl,hS5⟩
 replace k6:=k6.up hS5
 replace hS:=hS.trans hS5
 refine W ?_
 try refine WL_idxA (len:=7) (i:=6) (z:=(if (6:Int)<0 then -((6:Int)+1) else 6) % 7) rfl rfl (by decide) (by decide) rfl ?_
 refine W ?_
 refine WR ?_
 exact .mk ⟨rfl,hS⟩
theorem value16_any (h:CalV w c hv cv zo zs hr) (x:Ins) (a b:Int) (ha:Num a) (hb:Num b) (h4:x.op=4→0≤x.n∧x.n<7) (h17:x.op=17→inDays a=true) (h13:x.op≠13) (h14:x.op≠14) (h24:x.op≠24) :
 Calls Tryz.prog 52 #[plA ev c hv cv zo zs hr kn,agg x,.int .i64 a,.int .i64 b] w (Ret fun r w'=>r=nums (valM (openM c kn) ev x a b)∧Stp [] w w'):=by
 refine calls_of_WC4 (n:=44) Tryz.func52 rfl rfl rfl ?_
 refine W ?_
 refine WL_eff (OE_box rfl) rfl ?_
 rintro _ w1 ⟨b4,rfl,hb4,hblk,hS⟩
 replace hblk:Blk w1 b4 114 (plC ev c hv cv zo zs hr kn):=hblk
 refine W ?_
 refine WL_eff (OE_box rfl) rfl ?_
 rintro _ w2 ⟨b5,rfl,hb5,hblk5,hS2⟩
 replace hblk5:Blk w2 b5 51 (Flat.enc x):=hblk5
 replace hblk:=hblk.up hS2
 replace hS:=hS.trans hS2
 replace h:=h.up hS
 clear hS2
 refine W ?_
 refine CL rfl (evs1 rfl) rfl (operands_any x.op _ h13 h14 h24) ?_
 rintro _ _ ⟨rfl,rfl⟩
 unfold valM
 by_cases k4:x.op=4
 rw [if_pos k4]
 have ha0:(arM x.op:Int)=0:=by rw [k4];rfl
 rw [ha0]
 focus repeat'(first|refine W1 ?_|omega|refine VG ?_ ?_<;>intro hg|refine VC ?_ ?_<;>intro hc)
 refine WL_pure (PR_loadN_blk (us:=evC ev) rfl rfl hblk rfl rfl) rfl ?_
 refine W ?_
 refine CL rfl (evs2 rfl rfl) rfl (field16_any x.n (h4 k4).1 (h4 k4).2) ?_
 rintro _ w3 ⟨rfl,hS3⟩
 refine W ?_
 refine WR ?_
 exact .mk ⟨rfl,hS.trans hS3⟩
 rw [if_neg k4]
 by_cases a0:arM x.op=0
 rw [if_pos a0]
 have ha0:(arM x.op:Int)=0:=by rw [a0];rfl
 rw [ha0]
 focus repeat'(first|refine W1 ?_|omega|refine VG ?_ ?_<;>intro hg|refine VC ?_ ?_<;>intro hc)
 refine WR ?_
 exact .mk ⟨rfl,hS⟩
 rw [if_neg a0]
 by_cases a1:arM x.op=1
 rw [if_pos a1]
 have ha0:(arM x.op:Int)=1:=by rw [a1];rfl
 rw [ha0]
 focus repeat'(first|refine W1 ?_|omega|refine VG ?_ ?_<;>intro hg|refine VC ?_ ?_<;>intro hc)
 refine CL rfl (evs3 rfl rfl rfl) rfl (single16_any h x.op b hb) ?_
 rintro _ w3 ⟨rfl,hS3⟩
 refine W ?_
 refine WR ?_
 exact .mk ⟨rfl,hS.trans hS3⟩
 rw [if_neg a1]
 repeat'(first|refine W1 ?_|omega|refine VG ?_ ?_<;>intro hg|refine VC ?_ ?_<;>intro hc)
 refine CL rfl (evs4 rfl rfl rfl rfl) rfl (double16_any h x.op a b ha hb h17) ?_
 rintro _ w3 ⟨rfl,hS3⟩
 refine W ?_
 refine WR ?_
 exact .mk ⟨rfl,hS.trans hS3⟩
end
end Go.Proofs.YtjdjdoefppebkaaGreatDoor
