/-
Merged by program out of own texts: Vev6, Vev7, Lvx1, Lvx2, Vla0, Src1, Vla10, Arg20, Arg21, Gos1.
-/
import Derived.Test.YtjdjdoefppebkaaGreatDoorM7
import Derived.JoinedOf
set_option linter.unusedVariables false
set_option linter.unusedSimpArgs false
namespace Go.Proofs.YtjdjdoefppebkaaGreatDoor
open Go Go.Eng Go.RowKit
theorem SlV.keepC {α:Type} [Zi α] {X:List Nat} {w w':World} {v:Value} {xs:List α} (h:SlV X w v xs) (hb:∀ b∈ob v,w'.heap[b]?=w.heap[b]?):SlV [] w' v xs:=by
 obtain ⟨p,c,rfl,hl,hm,hn,hc⟩:=h
 refine ⟨p,c,rfl,hl,hm,hn,fun i hi=>?_⟩
 obtain ⟨b,o,cs,rfl,hbl,hx,hr,hcell⟩:=hc i hi
 have e:=hb b (by simp [ob])
 rw [YaD hbl] at e
 exact ⟨b,o,cs,rfl,(Xl.1 e).1,by simp,hr,fun j u hu=>(World.cell?_of_block (a:=⟨b,_,none⟩) (hb b (by simp [ob]))).trans (hcell j u hu)⟩
theorem JC.kid2 {l:List Nd} {K:MK} {kv:Value} (hK:KOk K) (hk:K.nk=none) (hs:SlV K.own K.w0 kv l) {i:Nat} (hi:i<l.length) (ih:JC l[i]) (ht:Zd l[i]≠0) :
 ∃ kv2 : Value, kv2.oneCell' = true ∧ (∀ w', Stp K.own K.w0 w' → ∀ j u, [Value.int .i64 l[i].kind, .int .i64 l[i].num, str l[i].word, kv2][j]? = some u → w'.cell? (ZL kv i 4 j) = some u)∧
   ∀ (w : World) (sv pv : Value) (st : List Int) (s : Shp) (at_ : Int), Mch K w sv pv st [] at_ 0 false → JI s st → s.length + Zw l[i] ≤ 16→
     CC 58 #[mP K,.agg #[.int .i64 l[i].kind,.int .i64 l[i].num,str l[i].word,kv2]] w fun r w'=>r=.tuple #[]∧Z0N K w' st at_ (Z4 (Zv K.c K.kn) K.ev l[i]):=by
 obtain ⟨kv2,h1,h2⟩:=Zjd hs hi (Stp.refl _ _)
 exact ⟨kv2,h1.one,h2,fun w sv pv st s at_ hM hst hb=>ih K _ w sv pv st s at_ hK hk ⟨kv2,rfl,h1⟩ ht hM hst hb⟩
theorem ZpS:∀ r∈Z3c,(r.L.length=1∨(r.L.length=2∧(r.L.getD 0 0=8∨r.L.getD 0 0=9∨r.L.getD 0 0=10∨r.L.getD 0 0=11)))∧(∀ o∈r.L,o≠24∧o≠13∧o≠14):=by decide +kernel
theorem ZgX (r:Z9q) (hr:r∈Z3c):Z36 2 (r.L.map fun o=>⟨o,0⟩) r.ts=some [r.t]:=by
 have hb:=XD.1 Zgc r hr
 simp only [Xi] at hb
 exact (Z37 hb.1.2).2.2
theorem ZeB {opn:Int→Bool} {ev:List Int} {o a b:Int} (h:o=8∨o=9∨o=10∨o=11):(Jq opn ev ⟨o,0⟩ a b).2=0:=by
 rcases h with rfl|rfl|rfl|rfl<;>rfl
theorem Zcu {b:Nat} {x:Ins} {L:List Ins} {s r:Shp} (h:Z36 b (x :: L) s=some r):∃ nx,Jn x s=some nx∧nx.length≤b∧Z36 b L nx=some r:=by
 rw [Z36] at h
 cases hx:Jn x s with
 | none=>rw [hx] at h;cases h
 | some s1=>
   rw [hx] at h
   simp only at h
   split at h
   rename_i hl
   exact ⟨s1,rfl,hl,h⟩
   cases h
theorem Zcv {a b:List (Int×Int)} (ha:∀ x∈a,x.2=0):Jg (a++b)=Jg b:=by
 induction a with
 | nil=>rfl
 | cons x r ih=>
   rw [Xp,Jg,if_pos (ha x (by simp))]
   exact ih (fun y hy=>ha y (by simp [hy]))
set_option maxHeartbeats 4000000 in
theorem Zcw {r:Z9q} {n:Int} {l:List Nd} (hr:r∈Z3c) (hts:l.map Zd=r.ts) (ih:∀ y∈l,JC y) (hkid:∀ y∈l,Zd y≠0):JC (.mk r.k n r.s l):=by
 intro K0 nv w sv pv st sh at_ hK0 hk0 hx ht hM hst hb
 obtain ⟨kv,rfl,hs⟩:=hx
 have hnk:∀ y∈l,Zw y<Zw (.mk r.k n r.s l):=fun y hy=>Z1l (x:=.mk r.k n r.s l) hy
 have hev2:∀ opn ev,Z4 opn ev (.mk r.k n r.s l)=Zo opn ev r.k n r.s (l.map (Z4 opn ev)):=fun opn ev=>Z2r _ _ _
 obtain ⟨⟨hk123,hk4,hk9⟩,hao,hlen12⟩:=Zge r hr
 obtain ⟨hL12,hLo⟩:=ZpS r hr
 have hfold:=ZgX r hr
 obtain ⟨ov1,ov2,ov3⟩:=ZgV r hr
 have hll:l.length=r.ts.length:=by rw [← hts];simp
 simp only [Nd.kind,Nd.num,Nd.word,Nd.kids] at hs ⊢
 have hbm:=hM.blk.lt
 have hobs:=fun x hx=>(hM.row.ob_le x hx).2
 have hpv:=hM.nt0 hk0
 have howl:∀ x∈K0.own,x<w.heap.size:=fun x hx=>Xa (Mch.own_lt hK0 x hx) hM.stp.size
 refine cW2 132 Tryz.func58 ?_
 refine W ?_
 refine Z3 (Zs rfl) rfl ?_
 rintro _ w1 ⟨b3,rfl,hb3,hblk,hS⟩
 replace hblk:w1.heap[b3]?=some (ndO r.k n r.s kv):=hblk
 replace hM:=(hM.up hS).keep hblk (fun h=>by have:=howl _ h;omega) (fun h=>by have:=hobs _ h;omega) (by rw [hpv];simp [ob])
 have hK:=hK0.keep (b:=b3) (o:=ndO r.k n r.s kv)
 have e0:K0.bm=(K0.keep b3 (ndO r.k n r.s kv)).bm:=rfl
 rw [show mP K0=mP (K0.keep b3 (ndO r.k n r.s kv)) from rfl]
 have hs':SlV (K0.keep b3 (ndO r.k n r.s kv)).own (K0.keep b3 (ndO r.k n r.s kv)).w0 kv l:=hs
 have hk:(K0.keep b3 (ndO r.k n r.s kv)).nk=none:=hk0
 have hun:∀ w' (z:Int×Int),Z0N (K0.keep b3 (ndO r.k n r.s kv)) w' st at_ z→Z0N K0 w' st at_ z:=fun w' z h=>h.un
 have hcE:K0.c=(K0.keep b3 (ndO r.k n r.s kv)).c:=rfl
 have hkE:K0.kn=(K0.keep b3 (ndO r.k n r.s kv)).kn:=rfl
 have heE:K0.ev=(K0.keep b3 (ndO r.k n r.s kv)).ev:=rfl
 rw [hcE,hkE,heE]
 have hkept:∀ {w:World} {sv pv:Value} {st:List Int} {sp:List Spn} {at_ er:Int} {dn:Bool},Mch (K0.keep b3 (ndO r.k n r.s kv)) w sv pv st sp at_ er dn→Blk w b3 27 [.int .i64 r.k,.int .i64 n,str r.s,kv]:=fun h=>h.kept
 have hne:b3≠(K0.keep b3 (ndO r.k n r.s kv)).bm:=by show b3≠K0.bm;omega
 generalize K0.keep b3 (ndO r.k n r.s kv)=K at *
 clear e0 hs hK0 hk0 howl hcE hkE heE
 generalize hopn:Zv K.c K.kn=opn
 generalize hevv:K.ev=ev
 have hevo:Z49 ev:=by rw [← hevv];exact hK.ev
 have hblkN:=hkept hM
 have hsl:=hs'.ext (X':=[]) hM.stp (fun b hb=>hb) (by simp)
 have h1:r.k≠1∧r.k≠2∧r.k≠3:=by omega
 have hs1:r.k=6→¬ r.s=[97,110,100]:=fun h6 h=>hao ⟨h6,.inl h⟩
 have hs2:r.k=6→¬ r.s=[111,114]:=fun h6 h=>hao ⟨h6,.inr h⟩
 have hmax:=hsl.max
 have k6:r.k=6∨r.k≠6:=by omega
 rcases k6 with k6|k6
 all_goals repeat'(first|refine W1 ?_|omega|(exfalso;exact hs1 k6 (by assumption))|(exfalso;exact hs2 k6 (by assumption))|refine VG ?_ ?_<;>intro hg|refine VC ?_ ?_<;>intro hc)
 all_goals
  refine Z1K (σ:=Unit) (fun _=>[(0,mP K),(3,.pointer (some ⟨b3,0,none⟩))])
   (fun _ w'=>(∃ sv pv,Mch K w' sv pv (st++l.map fun y=>(Z4 opn ev y).1) [] at_ 0 false)∧∀ y∈l,(Z4 opn ev y).2=0) ?_ ?_
  refine ZD (σ:=Nat) (fun j=>[(0,mP K),(3,.pointer (some ⟨b3,0,none⟩)),(9,kv),(10,.int .i64 (l.length:Int)),(11,.int .i64 (j:Int))])
   (fun j w'=>j≤l.length∧(∃ sv pv,Mch K w' sv pv (st++(l.take j).map fun y=>(Z4 opn ev y).1) [] at_ 0 false)∧∀ y∈l.take j,(Z4 opn ev y).2=0) (fun j=>l.length - j) 0 ⟨rfl,rfl,rfl,rfl,rfl,trivial⟩ ⟨Xy _,⟨_,_,by simpa using hM⟩,by simp⟩ ?_
  rintro j w2 ⟨hj,⟨sv1,pv1,hM1⟩,hok⟩
  have hsl1:=hs'.ext (X':=[]) hM1.stp (fun b hb=>hb) (by simp)
  by_cases hlt:j<l.length
  have hmem:=Xg hlt
  obtain ⟨kj,oj,cj,dj⟩:=JC.kid2 hK hk hs' hlt (ih _ hmem) (hkid _ hmem)
  rw [hopn,hevv] at dj
  have hn1:=hnk _ hmem
  have hstj:JI (sh++(l.take j).map Zd) (st++(l.take j).map fun y=>(Z4 opn ev y).1):=by
   refine hst.app ⟨by simp,fun i h h'=>?_⟩
   simp only [YaC]
   have hi:i<(l.take j).length:=by simpa using h
   have hmi:=Xg hi
   exact Z0Z opn ev hevo _ (hkid _ (Yar hmi)) (hok _ hmi)
  have hbj:(sh++(l.take j).map Zd).length+Zw l[j]≤16:=by
   rw [Xb,XM,XR]
   omega
  have htk:l.take (j+1)=l.take j++[l[j]]:=Xu hlt
  focus repeat'(first|refine W1 ?_|omega|refine VG ?_ ?_<;>intro hg|refine VC ?_ ?_<;>intro hc)
  apply Z7 (ZC rfl rfl hsl1 hlt (cj _ hM1.stp)) rfl
  refine Z3 Z6 rfl ?_
  rintro _ w3 ⟨b5,rfl,hb5,e5,hS3⟩
  refine W ?_
  refine Z0 (Z1 (us:=[.int .i64 l[j].kind,.int .i64 l[j].num,str l[j].word,kj]) rfl rfl rfl rfl (by intro u hu;simp at hu;rcases hu with rfl|rfl|rfl|rfl;exact rfl;exact rfl;exact rfl;exact oj) e5 rfl) ?_
  rintro _ w4 ⟨hT,k5⟩
  replace hM1:=hM1.up (hS3.own hT (fun c hc=>.inr (by simp at hc;omega)))
  clear e5 hT hS3
  refine W ?_
  refine CL rfl (Z9 rfl rfl) rfl (dj _ _ _ _ _ _ hM1 hstj hbj) ?_
  rintro _ w5 ⟨rfl,hres⟩
  by_cases he:(Z4 opn ev l[j]).2=0
  obtain ⟨sv2,pv2,hM2⟩:=hres.go he
  have hblkM:=hM2.blk
  unfold Z1H at hblkM
  refine W ?_
  refine Zr (j+1) ⟨rfl,rfl,rfl,rfl,rfl,trivial⟩ ⟨hlt,⟨sv2,pv2,?_⟩,?_⟩ (by omega)
  rw [htk,Yaq,← Xr]
  exact hM2
  intro y hy
  rw [htk,Xt] at hy
  rcases hy with hy|hy
  exact hok y hy
  obtain rfl:y=l[j]:=by simpa using hy
  exact he
  obtain ⟨sv2,pv2,st2,hM2⟩:=hres.stop he
  have hblkM:=hM2.blk
  unfold Z1H at hblkM
  refine W ?_
  refine WR ?_
  refine .mk ⟨rfl,hun _ _ ?_⟩
  have hfe:Jg (l.map (Z4 opn ev))=(Z4 opn ev l[j]).2:=by
   conv=>lhs;rw [← XV j l,Yaq,Yaa hlt]
   rw [Zcv (by intro x hx;obtain ⟨y,hy,rfl⟩:=Yax.1 hx;exact hok y hy)]
   rw [Xn,Jg,if_neg he]
  rw [hev2,Z63 opn ev n _ r hr (by rw [← hll];simp) (by rw [hfe];exact he),hfe]
  exact Z0N.of he hM2
  obtain rfl:j=l.length:=by omega
  rw [XL] at hM1 hok
  focus repeat'(first|refine W1 ?_|omega|refine VG ?_ ?_<;>intro hg|refine VC ?_ ?_<;>intro hc)
  exact ZI () ⟨rfl,rfl,trivial⟩ ⟨⟨sv1,pv1,hM1⟩,hok⟩
  rintro _ w2 ⟨⟨sv1,pv1,hM1⟩,hok⟩
  have hblk2:=hkept hM1
  have hvs:l.map (Z4 opn ev)=okv (l.map fun y=>(Z4 opn ev y).1):=by
   unfold okv
   rw [YaX]
   exact List.map_congr_left (fun y hy=>Prod.ext rfl (hok y hy))
  have hstv:JI r.ts (l.map fun y=>(Z4 opn ev y).1):=by
   rw [← hts]
   refine ⟨by simp,fun i h h'=>?_⟩
   simp only [YaC]
   have hi:i<l.length:=by simpa using h
   have hmi:=Xg hi
   exact Z0Z opn ev hevo _ (hkid _ hmi) (hok _ hmi)
  have hline:=Z7z opn ev n st (l.map fun y=>(Z4 opn ev y).1) r hr hstv
  rw [← hvs] at hline
  rw [hev2]
  generalize Zo opn ev r.k n r.s (l.map (Z4 opn ev))=R at hline ⊢
  generalize (l.map fun y=>(Z4 opn ev y).1)=vs at hstv hline hM1
  obtain ⟨hl1,hl2⟩:=hline
  have hXlt:∀ b∈K.own++ob sv1++ob pv1,b<w2.heap.size:=by
   intro b hb
   simp only [Xt] at hb
   rcases hb with (hb|hb)|hb
   exact Xa (Mch.own_lt hK b hb) hM1.stp.size
   exact (hM1.row.ob_le b hb).2
   rw [hM1.nt0 hk] at hb;simp [ob] at hb
  refine W ?_
  refine CL rfl (Zp rfl) rfl (Z7X (K.own++ob sv1++ob pv1) r.k n r.s kv _ hXlt ov2) ?_
  rintro rv w3 ⟨hrv,hS3⟩
  replace hM1:=hM1.up hS3
  have hLpos:0<(Z9I r.k r.s).length:=by rw [ov1];omega
  have hrv0:=hrv.ext (X':=[]) (Stp.refl [] _) (by simp) (by simp)
  obtain ⟨bq,oo,hoo,hbq,hq1,hq2,hq3⟩:∃ bq oo,w3.heap[bq]?=some oo∧(∀ b∈ob rv,b=bq)∧bq∉K.own∧bq∉ob sv1∧bq∉ob pv1:=by
   obtain ⟨p,c,rfl,-,-,-,hcell⟩:=id hrv
   obtain ⟨bq,oq,csq,rfl,hbq,hxq,-⟩:=hcell 0 hLpos
   simp only [Xt,not_or] at hxq
   exact ⟨bq,_,YaD hbq,by simp [ob],hxq.1.1,hxq.1.2,hxq.2⟩
  have hM2:=hM1.keep hoo hq1 hq2 hq3
  have hK2:=hK.keep (b:=bq) (o:=oo)
  have hk2:(K.keep bq oo).nk=none:=hk
  have hrvK:∀ {w:World} {sv pv:Value} {st:List Int} {sp:List Spn} {at_ er:Int} {dn:Bool},Mch (K.keep bq oo) w sv pv st sp at_ er dn→SlV [] w rv (Z9I r.k r.s):=fun h=>SlV.keepC hrv (fun b hb=>by rw [hbq b hb];exact h.kept.trans hoo.symm)
  have hun2:∀ w' (z:Int×Int),Z0N (K.keep bq oo) w' st at_ z→Z0N K0 w' st at_ z:=fun w' z h=>hun w' z h.un
  rw [show mP K=mP (K.keep bq oo) from rfl]
  have ho2:Zv (K.keep bq oo).c (K.keep bq oo).kn=opn:=hopn
  have he2:(K.keep bq oo).ev=ev:=hevv
  generalize K.keep bq oo=K2 at *
  refine W ?_
  refine ZD (σ:=Nat) (fun i=>[(0,mP K2),(24,rv),(25,.int .i64 ((Z9I r.k r.s).length:Int)),(26,.int .i64 (i:Int))])
   (fun i w'=>(i<r.L.length∧∃ sv pv st' ts',ts'.length≤2∧Mch K2 w' sv pv st' [] at_ 0 false∧JI (sh++ts') st'∧Z36 2 ((r.L.drop i).map fun o=>⟨o,0⟩) ts'=some [r.t]∧Z3F opn ev (r.L.drop i) st'=Z3F opn ev r.L (st++vs))∨(i=r.L.length∧Z0N K2 w' st at_ R)) (fun i=>r.L.length - i) 0 ⟨rfl,rfl,rfl,rfl,trivial⟩
   (.inl ⟨by omega,sv1,pv1,_,r.ts,by omega,hM2,hst.app hstv,hfold,rfl⟩) ?_
  rintro i w4 (⟨hi,sv2,pv2,st',ts',ht2,hM4,hst4,hf4,hr4⟩|⟨rfl,hres⟩)
  have hrv4:=hrvK hM4
  have hio:i<(Z9I r.k r.s).length:=by omega
  have hdrop:r.L.drop i=r.L.getD i 0 :: r.L.drop (i+1):=by
   rw [Yaa hi]
   congr 1
   simp [List.getD,hi]
  have hop:=hLo (r.L.getD i 0) (by simp [List.getD,hi])
  rw [hdrop,Xn] at hf4
  obtain ⟨nx,hn1,hn2,hn3⟩:=Zcu hf4
  have hx1:1≤Zw (.mk r.k n r.s l):=by rw [Z09];omega
  have hx2:2≤Zw (.mk r.k n r.s l):=by
   have:0<l.length:=by omega
   have:=hnk _ (Xg this)
   have h9:1≤Zw l[0]:=by rw [Z09];omega
   omega
  have hnf:=Z1B (s:=sh) hn1 (by omega)
  have hget:=ov3 i hi
  rw [YaO,XA hio] at hget
  have hget2:fnV (Z9I r.k r.s)[i].f=Z2Z Z9C (r.L.getD i 0) .nilFunc:=by simpa using hget
  have hst16:st'.length≤100000:=by
   have h7:=hst4.1
   rw [Xb] at h7
   omega
  focus repeat'(first|refine W1 ?_|omega|refine VG ?_ ?_<;>intro hg|refine VC ?_ ?_<;>intro hc)
  refine Z3 (Zdg (x:=⟨r.L.getD i 0,0⟩) hK2 hM4 hnf hst4 hst16 (by simp) (by show some _=some _;rw [← hget2]) rfl rfl) rfl ?_
  rintro _ w5 ⟨rfl,hstep⟩
  unfold Z0k at hstep
  rw [if_neg hop.1,if_neg hop.2.1,if_neg hop.2.2,ho2,he2] at hstep
  rw [hdrop,Z3F] at hr4
  obtain ⟨sv6,pv6,st6,sp6,hM6,hok6⟩:=hstep
  replace hM6:=hM6.nosp hk2 (sp':=[])
  by_cases hlast:i+1=r.L.length
  have hd0:r.L.drop (i+1)=[]:=by rw [hlast];simp
  rw [hd0] at hr4
  refine W ?_
  refine Zr (i+1) ⟨rfl,rfl,rfl,rfl,trivial⟩ (.inr ⟨hlast,?_⟩) (by omega)
  by_cases he:(Jq opn ev ⟨r.L.getD i 0,0⟩ (Js st' 1) (Js st' 0)).2=0
  rw [if_pos he] at hr4
  rw [← hr4] at hl1 hl2
  obtain ⟨e1,e2⟩:=hok6 he
  rw [he] at hM6
  have hR0:R.2=0:=hl1.symm
  refine ⟨sv6,pv6,st6,by rw [hR0];exact hM6,fun _=>?_⟩
  rw [e1]
  exact hl2 hR0
  rw [if_neg he] at hr4
  rw [← hr4] at hl1 hl2
  have hR0:R.2=(Jq opn ev ⟨r.L.getD i 0,0⟩ (Js st' 1) (Js st' 0)).2:=hl1.symm
  refine ⟨sv6,pv6,st6,by rw [hR0];exact hM6,fun h0=>absurd h0 (by rw [hR0];exact he)⟩
  have hi0:i=0∧r.L.length=2:=by omega
  have hfst:(Jq opn ev ⟨r.L.getD i 0,0⟩ (Js st' 1) (Js st' 0)).2=0:=by
   rw [hi0.1]
   rcases hL12 with h|⟨-,h⟩
   omega
   exact ZeB h
  rw [if_pos hfst] at hr4
  obtain ⟨e1,e2⟩:=hok6 hfst
  rw [hfst] at hM6
  have hvs4:=ZaJ (opn:=opn) hevo hnf (by exact hop.1) (by exact hop.2.1) (by exact hop.2.2) hst4 hfst
  refine W ?_
  refine Zr (i+1) ⟨rfl,rfl,rfl,rfl,trivial⟩ (.inl ⟨by omega,sv6,pv6,st6,nx,hn2,hM6,?_,hn3,?_⟩) (by omega)
  rw [e1];exact hvs4
  rw [e1];exact hr4
  focus repeat'(first|refine W1 ?_|omega|refine VG ?_ ?_<;>intro hg|refine VC ?_ ?_<;>intro hc)
  refine WR ?_
  exact .mk ⟨rfl,hun2 _ _ hres⟩
theorem ZgY (x:Nd):Zd x≠0→JC x:=by
 induction x using Nd.ind with
 | h k n s l ih=>
 intro ht
 have hkid:∀ y∈l,Zd y≠0:=fun y hy=>Z34 (x:=.mk k n s l) ht hy
 rcases Z53 ht with ⟨rfl,hlf⟩|⟨rfl,a,b,c,rfl,ta,tb,tc⟩|⟨rfl,hs,a,b,rfl,ta,tb,ht2⟩|⟨r,hr,rfl,rfl,hts,htt⟩
 exact ZeA hlf
 exact ZiP (ih a (by simp) (hkid a (by simp))) (ih b (by simp) (hkid b (by simp))) (ih c (by simp) (hkid c (by simp))) ta (hkid b (by simp)) (hkid c (by simp))
 rcases hs with rfl|rfl
 exact ZgW (ih a (by simp) (hkid a (by simp))) (ih b (by simp) (hkid b (by simp))) ta tb
 exact ZiQ (ih a (by simp) (hkid a (by simp))) (ih b (by simp) (hkid b (by simp))) ta tb
 exact Zcw hr hts (fun y hy=>ih y hy (hkid y hy)) hkid
theorem Z6e (nv:Value) (x:Nd) (kn:Int) (ev:List Int) (c:Cal) (hv cv zo zs hr:Value) (w:World) (hx:NdV [] w nv x) (ht:Zd x≠0) (hnest:Zw x≤16) (hcal:Z56 w c hv cv zo zs hr) (hev:Z49 ev) (ho:zo.oneCell'=true∧zs.oneCell'=true∧hr.oneCell'=true) :
 CC 20 #[nv,Z9D ev,Z4h c hv cv zo zs hr,.int .i64 kn] w fun r w'=>r=.tuple #[.int .i64 (if (Z4 (Zv c kn) ev x).2=0 then (Z4 (Zv c kn) ev x).1 else 0),.int .i64 (Z4 (Zv c kn) ev x).2]∧Stp [] w w':=by
 obtain ⟨kv,rfl,hsk⟩:=hx
 have hone:=hsk.one
 refine cW4 30 Tryz.func20 ?_
 refine W ?_
 refine Z3 (Zs rfl) rfl ?_
 rintro _ w1 ⟨b4,rfl,hb4,k4,hS⟩
 replace k4:Blk w1 b4 27 [.int .i64 x.kind,.int .i64 x.num,str x.word,kv]:=k4
 refine Z3 (Zs rfl) rfl ?_
 rintro _ w2 ⟨b5,rfl,hb5,k5,hS2⟩
 replace k5:Blk w2 b5 29 (evC ev):=k5
 replace k4:=k4.up hS2
 replace hS:=hS.trans hS2
 refine Z3 (Zs rfl) rfl ?_
 rintro _ w3 ⟨b6,rfl,hb6,k6,hS3⟩
 replace k6:Blk w3 b6 37 (Z0i c hv cv zo zs hr):=k6
 replace k4:=k4.up hS3
 replace k5:=k5.up hS3
 replace hS:=hS.trans hS3
 clear hS2 hS3
 refine W ?_
 refine Ze (vs:=[(0,Z9D ev),(1,Z4h c hv cv zo zs hr),(2,.int .i64 kn),(7,.func (.func 57) #[] #[])]) rfl (ZiB ev c hv cv zo zs hr kn) rfl ?_
 refine Z3 (Zs rfl) rfl ?_
 rintro _ w4 ⟨bm,rfl,hbm,km,hS4⟩
 replace km:Blk w4 bm 126 (evC ev++Z0i c hv cv zo zs hr++([.int .i64 kn,.slice none 0 0,.int .i64 0,.int .i64 0,.bool false,.func (.func 57) #[] #[]]:List Value)):=km
 have hbmw:w.heap.size≤bm:=Xh hS.size hbm
 replace k4:=k4.up hS4
 replace hS:=hS.trans hS4
 clear k5 k6 hS4
 obtain ⟨K,e1,e2,hk,e4,e5,e6,e7,e8,e9,e10,e11,e12⟩:∃ K:MK,K.w0=w4∧K.bm=bm∧K.nk=none∧K.ev=ev∧K.c=c∧K.kn=kn∧K.hv=hv∧K.cv=cv∧K.zo=zo∧K.zs=zs∧K.hr=hr∧K.pr=[]:=⟨⟨w4,bm,none,ev,c,kn,hv,cv,zo,zs,hr,[]⟩,rfl,rfl,rfl,rfl,rfl,rfl,rfl,rfl,rfl,rfl,rfl,rfl⟩
 subst e1 e2 e4 e5 e6 e7 e8 e9 e10 e11
 have own_eq:K.own=[K.bm]:=by simp [MK.own,hk]
 have own_ge:∀ b∈K.own,w.heap.size≤b:=fun b hb=>by rw [own_eq] at hb;simp at hb;omega
 have hcw:=hcal.up hS
 have g1:1<w.heap.size:=by have:=block_lt_of_cell (hcal.len 0 0 rfl);simpa using this
 have g2:3<w.heap.size:=by have:=block_lt_of_cell (hcal.mov 0 0 rfl);simpa using this
 have hK:KOk K:=
  { hols := hcal.hols.ext hS (by simp) (fun b hb => .inr (own_ge b hb))
    clos:=hcal.clos.ext hS (by simp) (fun b hb=>.inr (own_ge b hb))
    ozo:=ho.1,ozs:=ho.2.1,ohr:=ho.2.2
    len:=hcw.len,mov:=hcw.mov
    bml:=km.lt
    nkl:=fun b hb=>by rw [hk] at hb;cases hb
    gl:=fun b hb=>by have:=own_ge b hb;omega
    cal:=hcal.ok
    ev:=hev }
 have hM:Mch K K.w0 (.slice none 0 0) (.slice none 0 0) [] [] 0 0 false:=
  { blk := by unfold Z1H; rw [hk]; exact km
    row:=Row.nil
    nt:=fun b hb=>by rw [hk] at hb;cases hb
    nt0:=fun _=>rfl
    ap:=by simp [ob]
    stp:=Stp.refl _ _
    prot:=fun p hp=>by rw [e12] at hp;cases hp }
 have hx0:SlV K.own K.w0 kv x.kids:=hsk.ext hS (by simp) (fun b hb=>.inr (own_ge b hb))
 refine W ?_
 refine CL rfl (Z9 rfl rfl) rfl (ZgY x ht K _ _ _ _ [] [] 0 hK hk ⟨kv,rfl,hx0⟩ ht hM JI.nil (by simpa using hnest)) ?_
 rintro _ w5 ⟨rfl,hres⟩
 have fin:∀ w',Stp K.own K.w0 w'→Stp [] w w':=fun w' h=>hS.own h (fun b hb=>.inr (own_ge b hb))
 by_cases he:(Z4 (Zv K.c K.kn) K.ev x).2=0
 rw [if_pos he]
 obtain ⟨sv,pv,hM5⟩:=hres.go he
 have hblk:=hM5.blk
 unfold Z1H at hblk
 refine W ?_
 refine CL rfl (Zp rfl) rfl (Z1Q hK hM5) ?_
 rintro _ w6 ⟨rfl,sv6,hM6⟩
 refine W ?_
 refine WR ?_
 exact .mk ⟨by rw [he],fin _ hM6.stp⟩
 rw [if_neg he]
 obtain ⟨sv,pv,st2,hM5⟩:=hres.stop he
 have hblk:=hM5.blk
 unfold Z1H at hblk
 focus repeat'(first|refine W1 ?_|omega|refine VG ?_ ?_<;>intro hg|refine VC ?_ ?_<;>intro hc)
 refine ZDr 6 [] [] [(0,0),(1,0),(2,0),(3,1),(4,0),(5,0)] (fun w1 hS1=>?_)
 replace hM5:=hM5.up hS1
 replace hblk:=hblk.up hS1
 refine D ?_
 refine W ?_
 refine WR ?_
 exact .mk ⟨rfl,fin _ hM5.stp⟩
def sr1:Str:=[100,97,121,32,43,32,51,32,100,97,121,115]
def sr2:Str:=[100,97,121,32,45,32,49,32,109,111,110,116,104,115]
def sr3:Str:=[105,102,32,116,114,117,101,32,116,104,101,110,32,100,97,121,32,101,108,115,101,32,115,101,114,118,101,100,32,101,110,100]
def sr4:Str:=[115,101,114,118,101,100]
def sr5:Str:=[50,49,52,55,52,56,51,54,52,55,32,43,32,49]
def xr1:Nd:=.mk 7 0 [100,97,121,115] [.mk 4 0 [100,97,121] [],.mk 1 3 [] []]
def xr2:Nd:=.mk 8 0 [109,111,110,116,104,115] [.mk 4 0 [100,97,121] [],.mk 1 1 [] []]
def xr3:Nd:=.mk 9 0 [] [.mk 2 1 [] [],.mk 4 0 [100,97,121] [],.mk 4 0 [115,101,114,118,101,100] []]
def xr4:Nd:=.mk 4 0 [115,101,114,118,101,100] []
def xr5:Nd:=.mk 6 0 [43] [.mk 1 2147483647 [] [],.mk 1 1 [] []]
theorem ZpT:Z1b sr1=.ok xr1:=by kernel_rfl
theorem ZpU:Z1b sr2=.ok xr2:=by kernel_rfl
theorem ZpV:Z1b sr3=.ok xr3:=by kernel_rfl
theorem ZpW:Z1b sr4=.ok xr4:=by kernel_rfl
theorem ZpX:Z1b sr5=.ok xr5:=by kernel_rfl
def Z13:Cal:=⟨[false,false,false,false,false,true,true],[],[]⟩
def ev0:List Int:=[739616,-1,0,0,0,0,0]
theorem Zn4:ZcZ Z13:=⟨rfl,by simp [Z13],by decide⟩
theorem Zdi:Z49 ev0:=Zco (by omega) (by omega) (by omega) (by omega) (by omega) (by omega) (by omega)
theorem ZpY:Z4 (Zv Z13 0) ev0 xr1=(739619,0):=by
 simp only [xr1,Z4,Xn,Xv]
 kernel_rfl
theorem ZpZ:Z4 (Zv Z13 0) ev0 xr2=(739585,0):=by
 simp only [xr2,Z4,Xn,Xv]
 kernel_rfl
theorem Zq0:Z4 (Zv Z13 0) ev0 xr3=(739616,0):=by
 simp only [xr3,Z4,Xn,Xv]
 kernel_rfl
theorem Zq1:(Z4 (Zv Z13 0) ev0 xr4).2=32:=by
 simp only [xr4,Z4,Xn,Xv]
 kernel_rfl
theorem Zq2:(Z4 (Zv Z13 0) ev0 xr5).2=5:=by
 simp only [xr5,Z4,Xn,Xv]
 kernel_rfl
theorem ZiR:Zd xr1=3∧Zw xr1≤16:=by
 simp only [xr1,Zd,Zw,Xn,Xv]
 exact ⟨by kernel_rfl,of_decide_eq_true (by kernel_rfl)⟩
theorem ZiS:Zd xr2=3∧Zw xr2≤16:=by
 simp only [xr2,Zd,Zw,Xn,Xv]
 exact ⟨by kernel_rfl,of_decide_eq_true (by kernel_rfl)⟩
theorem ZiT:Zd xr3=3∧Zw xr3≤16:=by
 simp only [xr3,Zd,Zw,Xn,Xv]
 exact ⟨by kernel_rfl,of_decide_eq_true (by kernel_rfl)⟩
theorem ZiU:Zd xr4=3∧Zw xr4≤16:=by
 simp only [xr4,Zd,Zw,Xn,Xv]
 exact ⟨by kernel_rfl,of_decide_eq_true (by kernel_rfl)⟩
theorem ZiV:Zd xr5=1∧Zw xr5≤16:=by
 simp only [xr5,Zd,Zw,Xn,Xv]
 exact ⟨by kernel_rfl,of_decide_eq_true (by kernel_rfl)⟩
def cd1:List Ins:=[⟨4,0⟩,⟨1,3⟩,⟨15,0⟩,⟨19,0⟩,⟨24,0⟩]
def cd2:List Ins:=[⟨4,0⟩,⟨1,2⟩,⟨18,0⟩,⟨24,0⟩]
theorem Zsk:Z89 cd1=(3,0):=by kernel_rfl
theorem Zq3:Z89 cd2=(3,0):=by kernel_rfl
theorem Zsl:Z0V (Zv Z13 0) ev0 cd1=(739620,[(739619,739620)],0):=by kernel_rfl
theorem Zq4:Z0V (Zv Z13 0) ev0 cd2=(739620,[(739617,739620)],0):=by kernel_rfl
open Go Go.Eng Go.RowKit Go.Proofs
abbrev Zje:Value:=Z4h Z13 (.slice none 0 0) (.slice none 0 0) (.int .i64 0) (.slice none 0 0) (.int .i64 1000)
theorem ZiW (w:World):(Instr.build 30 #[(5,.bool true),(6,.bool true)]).run Tryz.prog w=.ok (.agg #[.bool false,.bool false,.bool false,.bool false,.bool false,.bool true,.bool true]) w:=by kernel_rfl
theorem ZiX (w:World):(Instr.build 37 #[(0,.agg #[.bool false,.bool false,.bool false,.bool false,.bool false,.bool true,.bool true]),(4,.int .i64 1000)]).run Tryz.prog w=.ok Zje w:=by kernel_rfl
theorem Zdj (w:World):(Instr.build 29 #[(0,.int .i64 739616),(1,.int .i64 (-1))]).run Tryz.prog w=.ok (Z9D ev0) w:=by kernel_rfl
theorem Zdk {w:World} (hL:Z0M w) (hM:Z3I w):Z56 w Z13 (.slice none 0 0) (.slice none 0 0) (.int .i64 0) (.slice none 0 0) (.int .i64 1000):=
 ⟨Row.slv (X:=[]) (Row.nil (base:=0) (T:=0)) (by simp),Row.slv (X:=[]) (Row.nil (base:=0) (T:=0)) (by simp),hL,hM,Zn4⟩
theorem Z3N (w:World):CC 48 #[] w fun r w'=>r=Zje∧Stp [] w w':=by
 refine cW0 3 Tryz.func48 ?_
 refine W ?_
 refine Z3 Z6 rfl ?_
 rintro _ w1 ⟨b0,rfl,hb0,k0,hS⟩
 refine W ?_
 refine Ze (vs:=[(5,.bool true),(6,.bool true)]) rfl (ZiW) rfl ?_
 refine Ze (vs:=[(0,.agg #[.bool false,.bool false,.bool false,.bool false,.bool false,.bool true,.bool true]),(4,.int .i64 1000)]) rfl (ZiX) rfl ?_
 refine Z0 (Z1 (us:=Z0i Z13 (.slice none 0 0) (.slice none 0 0) (.int .i64 0) (.slice none 0 0) (.int .i64 1000)) rfl rfl rfl rfl (Z4C rfl rfl ⟨rfl,rfl,rfl⟩) k0 rfl) ?_
 rintro _ w2 ⟨hT,k0⟩
 refine W ?_
 refine Zu rfl rfl rfl k0 rfl ?_
 exact .mk ⟨rfl,hS.own hT (fun c hc=>.inr (by simp at hc;omega))⟩
theorem Z0t (s:Str) (x:Nd) (d e:Int) (er:Value) (m:Int) (w:World) (hp:Z1b s=.ok x) (ht:Zd x≠0∧Zw x≤16) (hv:Z4 (Zv Z13 0) ev0 x=(d,e)∨(d=0∧e≠0∧(Z4 (Zv Z13 0) ev0 x).2=e)) (he:d=0∨e=0) (hL:Z0M w) (hM:Z3I w) (hm:w.cell? ⟨2,0,none⟩=some (.int .i64 m)) (hv4:w.cell? ⟨5,0,none⟩=some er) (hev:er=.nilIface∨∃ te pe,er=.iface te pe) (hl:s.length≤1000000) :
 CC 50 #[str s,.int .i64 d,.int .i64 e] w fun r w'=>r=.bool true∧Stp [] w w':=by
 have hd:(if (Z4 (Zv Z13 0) ev0 x).2=0 then (Z4 (Zv Z13 0) ev0 x).1 else 0)=d∧(Z4 (Zv Z13 0) ev0 x).2=e:=by
  rcases hv with h|⟨h1,h2,h3⟩
  rw [h]
  dsimp only
  rcases he with h0|h0
  subst h0
  exact ⟨by split<;>rfl,rfl⟩
  rw [if_pos h0]
  exact ⟨rfl,rfl⟩
  rw [h3,if_neg h2]
  exact ⟨h1.symm,rfl⟩
 refine cW3 35 Tryz.func50 ?_
 refine W ?_
 refine CL rfl (Zp rfl) rfl (Zeb [] s er m _ (by simp) hL hm hv4 hev hl) ?_
 rintro r w1 ⟨hr,hS⟩
 rw [hp] at hr
 obtain ⟨kv,rfl,hkv⟩:=hr
 refine W ?_
 refine Z3 Z6 rfl ?_
 rintro _ w2 ⟨b7,rfl,hb7,k7,hT⟩
 refine W ?_
 refine Z0 (Z1 (us:=ndC x kv) rfl rfl rfl rfl (Zk hkv) k7 rfl) ?_
 rintro _ w3 ⟨hT2,k7⟩
 have hT3:=hT.own hT2 (fun c hc=>.inr (by simp at hc;omega))
 replace hkv:=hkv.up hT3
 replace hS:=hS.trans hT3
 clear hT hT2 hT3
 repeat'(first|refine W1 ?_|omega|refine VG ?_ ?_<;>intro hg|refine VC ?_ ?_<;>intro hc)
 refine ZDr 9 [] [] [(0,1),(1,0),(2,2),(3,2),(4,0),(5,0),(6,0),(7,0),(8,0)] (fun w1 hS1=>?_)
 have hT:=hS1
 replace k7:=k7.up hT
 replace hkv:=hkv.up hT
 replace hS:=hS.trans hT
 clear hT hS1
 refine D ?_
 refine ZE rfl trivial (fun w'=>Z0A (vs:=[(0,.int .i64 739616),(1,.int .i64 (-1))]) rfl (Zdj)) rfl ?_
 refine D ?_
 refine Zb rfl trivial (Z5 rfl Z4O (Z3N _)) (fun _ _ h=>h.2) rfl ?_
 rintro _ w5 ⟨rfl,hT⟩
 replace k7:=k7.up hT
 replace hkv:=hkv.up hT
 replace hS:=hS.trans hT
 clear hT
 refine D ?_
 refine Zb rfl trivial (Z5 rfl (Z3n rfl rfl rfl rfl) (Z6e _ x 0 ev0 Z13 _ _ _ _ _ _ ⟨kv,rfl,hkv⟩ ht.1 ht.2 (Zdk (hL.up hS) (hM.up hS)) Zdi ⟨rfl,rfl,rfl⟩)) (fun _ _ h=>h.2) rfl ?_
 rintro _ w6 ⟨rfl,hT⟩
 replace hS:=hS.trans hT
 clear hT
 rw [hd.1,hd.2]
 refine D ?_
 refine W ?_
 simp only [decide_true]
 refine W ?_
 refine WR ?_
 exact .mk ⟨by simp,hS⟩
theorem Z3O (a:Int) (w:World):(Instr.build 51 #[(0,.int .i64 a)]).run Tryz.prog w=.ok (agg (⟨a,0⟩:Ins)) w:=by kernel_rfl
theorem Zdl (a b:Int) (w:World):(Instr.build 51 #[(0,.int .i64 a),(1,.int .i64 b)]).run Tryz.prog w=.ok (agg (⟨a,b⟩:Ins)) w:=by kernel_rfl
theorem ZiY (w:World):(Instr.buildSlice 40 5 #[(0,agg (⟨4,0⟩:Ins)),(1,agg (⟨1,3⟩:Ins)),(2,agg (⟨15,0⟩:Ins)),(3,agg (⟨19,0⟩:Ins)),(4,agg (⟨24,0⟩:Ins))]).run Tryz.prog w=.ok (.slice (some ⟨w.heap.size,0,none⟩) 5 5) (w.alloc (.cells (cd1.flatMap Zi.enc).toArray 51)):=by kernel_rfl
theorem Zdm (w:World):(Instr.buildSlice 40 4 #[(0,agg (⟨4,0⟩:Ins)),(1,agg (⟨1,2⟩:Ins)),(2,agg (⟨18,0⟩:Ins)),(3,agg (⟨24,0⟩:Ins))]).run Tryz.prog w=.ok (.slice (some ⟨w.heap.size,0,none⟩) 4 4) (w.alloc (.cells (cd2.flatMap Zi.enc).toArray 51)):=by kernel_rfl
theorem Z5L (a b:Int) (w:World):(Instr.build 111 #[(0,.int .i64 a),(1,.int .i64 b)]).run Tryz.prog w=.ok (agg ((a,b):Spn)) w:=by kernel_rfl
theorem Zbs (er:Value) (m:Int) (w:World) (hL:Z0M w) (hM:Z3I w) (hm:w.cell? ⟨2,0,none⟩=some (.int .i64 m)) (hv4:w.cell? ⟨5,0,none⟩=some er) (hev:er=.nilIface∨∃ te pe,er=.iface te pe) :
 CC 14 #[] w fun r w'=>r=.bool true∧Stp [] w w':=by
 refine cW0 81 Tryz.func14 ?_
 refine W ?_
 refine Ze (vs:=[(0,.int .i64 739616),(1,.int .i64 (-1))]) rfl (Zdj) rfl ?_
 refine Z3 Z6 rfl ?_
 rintro _ w1 ⟨b1,rfl,hb1,k1,hS⟩
 refine W ?_
 refine Z0 (Z1 (us:=evC ev0) rfl rfl rfl rfl (Z6d _) k1 rfl) ?_
 rintro _ w2 ⟨hT,k1⟩
 replace hS:=hS.own hT (fun c hc=>.inr (by simp at hc;omega))
 clear hT
 refine W ?_
 refine Ze (vs:=[(0,.int .i64 4)]) rfl (Z3O _) rfl ?_
 refine Ze (vs:=[(0,.int .i64 1),(1,.int .i64 3)]) rfl (Zdl _ _) rfl ?_
 refine Ze (vs:=[(0,.int .i64 15)]) rfl (Z3O _) rfl ?_
 refine Ze (vs:=[(0,.int .i64 19)]) rfl (Z3O _) rfl ?_
 refine Ze (vs:=[(0,.int .i64 24)]) rfl (Z3O _) rfl ?_
 refine Z3 (Z2 (vs:=[(0,agg (⟨4,0⟩:Ins)),(1,agg (⟨1,3⟩:Ins)),(2,agg (⟨15,0⟩:Ins)),(3,agg (⟨19,0⟩:Ins)),(4,agg (⟨24,0⟩:Ins))]) rfl (ZiY)) rfl ?_
 rintro cv1 w3 hN
 have hc1:SlV [] w3 cv1 cd1:=hN.slv (by simp) rfl rfl (by simp [maxLen,cd1])
 have hT:=Zc.stp hN
 clear hN
 replace k1:=k1.up hT
 replace hS:=hS.trans hT
 clear hT
 refine W ?_
 refine ZDr 11 [] [] [(0,0),(1,1),(2,2),(3,2),(4,0),(5,0),(6,0),(7,0),(8,0),(9,0),(10,0)] (fun w1 hS1=>?_)
 have hT:=hS1
 replace k1:=k1.up hT
 replace hc1:=hc1.up hT
 replace hS:=hS.trans hT
 clear hT hS1
 refine D ?_
 refine Zb rfl trivial (Z5 rfl Z4O (Z3N _)) (fun _ _ h=>h.2) rfl ?_
 rintro _ w5 ⟨rfl,hT⟩
 replace k1:=k1.up hT
 replace hc1:=hc1.up hT
 replace hS:=hS.trans hT
 clear hT
 refine D ?_
 refine Zb rfl trivial (Z5 rfl (Z3n rfl rfl rfl rfl) (Z4k cv1 cd1 3 0 ev0 Z13 _ _ _ _ _ _ hc1 Zsk (Zdk (hL.up hS) (hM.up hS)) Zdi ⟨rfl,rfl,rfl⟩)) (fun _ _ h=>h.choose_spec.2.2) rfl ?_
 rintro _ w6 ⟨pv1,rfl,hp1⟩
 rw [Zsl] at hp1 ⊢
 dsimp only at hp1 ⊢
 have hsp1:=hp1.slv (X:=[]) (by simp)
 replace k1:=k1.up hp1.2
 replace hS:=hS.trans hp1.2
 clear hp1 hc1
 refine D ?_
 refine W ?_
 refine ZDr 15 [] [] [(0,0),(1,0),(2,0),(3,0),(5,1),(4,9),(6,2),(7,2),(8,0),(9,0),(10,0),(11,0),(12,0),(13,0),(14,0)] (fun w1 hS1=>?_)
 have hT:=hS1
 replace k1:=k1.up hT
 replace hsp1:=hsp1.up hT
 replace hS:=hS.trans hT
 clear hT hS1
 refine ZE rfl trivial (fun w'=>Z0A (vs:=[(0,.int .i64 4)]) rfl (Z3O _)) rfl ?_
 refine ZE rfl trivial (fun w'=>Z0A (vs:=[(0,.int .i64 1),(1,.int .i64 2)]) rfl (Zdl _ _)) rfl ?_
 refine ZE rfl trivial (fun w'=>Z0A (vs:=[(0,.int .i64 18)]) rfl (Z3O _)) rfl ?_
 refine ZE rfl trivial (fun w'=>Z0A (vs:=[(0,.int .i64 24)]) rfl (Z3O _)) rfl ?_
 refine D ?_
 apply Zjn rfl
 refine ZcF rfl trivial (Z2 (vs:=[(0,agg (⟨4,0⟩:Ins)),(1,agg (⟨1,2⟩:Ins)),(2,agg (⟨18,0⟩:Ins)),(3,agg (⟨24,0⟩:Ins))]) rfl (Zdm)) (fun _ _ h=>(Zc.stp h).mono (by simp)) rfl ?_
 rintro cv2 w8 hN
 have hc2:SlV [] w8 cv2 cd2:=hN.slv (by simp) rfl rfl (by simp [maxLen,cd2])
 have hT:=Zc.stp hN
 clear hN
 replace k1:=k1.up hT
 replace hsp1:=hsp1.up hT
 replace hS:=hS.trans hT
 clear hT
 refine Zb rfl trivial (Z5 rfl Z4O (Z3N _)) (fun _ _ h=>h.2) rfl ?_
 rintro _ w9 ⟨rfl,hT⟩
 replace k1:=k1.up hT
 replace hsp1:=hsp1.up hT
 replace hc2:=hc2.up hT
 replace hS:=hS.trans hT
 clear hT
 refine D ?_
 refine Zb rfl trivial (Z5 rfl (Z3n rfl rfl rfl rfl) (Z4k cv2 cd2 3 0 ev0 Z13 _ _ _ _ _ _ hc2 Zq3 (Zdk (hL.up hS) (hM.up hS)) Zdi ⟨rfl,rfl,rfl⟩)) (fun _ _ h=>h.choose_spec.2.2) rfl ?_
 rintro _ w10 ⟨pv2,rfl,hp2⟩
 rw [Zq4] at hp2 ⊢
 dsimp only at hp2 ⊢
 have hsp2:=hp2.slv (X:=[]) (by simp)
 replace hsp1:=hsp1.up hp2.2
 replace hS:=hS.trans hp2.2
 clear hp2 hc2 k1
 refine D ?_
 refine W ?_
 simp only [eq_self,decide_true]
 refine Ze (vs:=[(0,.int .i64 739619),(1,.int .i64 739620)]) rfl (Z5L _ _) rfl ?_
 refine Z59 rfl ?_
 refine Z3 (Z2 (vs:=[(0,agg ((739619,739620):Spn))]) rfl (Z4j _)) rfl ?_
 rintro bw w11 hN
 have hbw:SlV [] w11 bw [((739619,739620):Spn)]:=hN.slv (by simp) rfl rfl (by simp [maxLen])
 have hT:=Zc.stp hN
 clear hN
 replace hsp1:=hsp1.up hT
 replace hsp2:=hsp2.up hT
 replace hS:=hS.trans hT
 clear hT
 refine Z59 rfl ?_
 refine CL rfl (Z9 rfl rfl) rfl (Z1S _ bw _ _ _ hsp1 hbw) ?_
 rintro _ w12 ⟨rfl,hT⟩
 replace hsp2:=hsp2.up hT
 replace hS:=hS.trans hT
 clear hT
 simp only [eq_self,decide_true]
 refine W ?_
 simp only [eq_self,decide_true]
 refine Ze (vs:=[(0,.int .i64 739617),(1,.int .i64 739620)]) rfl (Z5L _ _) rfl ?_
 refine Z59 rfl ?_
 refine Z3 (Z2 (vs:=[(0,agg ((739617,739620):Spn))]) rfl (Z4j _)) rfl ?_
 rintro bw w11 hN
 have hbw:SlV [] w11 bw [((739617,739620):Spn)]:=hN.slv (by simp) rfl rfl (by simp [maxLen])
 have hT:=Zc.stp hN
 clear hN
 replace hsp2:=hsp2.up hT
 replace hS:=hS.trans hT
 clear hT
 refine Z59 rfl ?_
 refine CL rfl (Z9 rfl rfl) rfl (Z1S _ bw _ _ _ hsp2 hbw) ?_
 rintro _ w12 ⟨rfl,hT⟩
 replace hsp2:=hsp2.up hT
 replace hS:=hS.trans hT
 clear hT
 simp only [eq_self,decide_true]
 refine W ?_
 refine CL rfl (ZH rfl rfl rfl) rfl (Z0t sr1 xr1 739619 0 er m _ ZpT ⟨by rw [ZiR.1];decide,ZiR.2⟩ (.inl ZpY) (by decide) (hL.up hS) (hM.up hS) (hS.cell (by simp) hm) (hS.cell (by simp) hv4) hev (by decide)) ?_
 rintro _ wg ⟨rfl,hT⟩
 replace hS:=hS.trans hT
 clear hT
 refine W ?_
 refine CL rfl (ZH rfl rfl rfl) rfl (Z0t sr2 xr2 739585 0 er m _ ZpU ⟨by rw [ZiS.1];decide,ZiS.2⟩ (.inl ZpZ) (by decide) (hL.up hS) (hM.up hS) (hS.cell (by simp) hm) (hS.cell (by simp) hv4) hev (by decide)) ?_
 rintro _ wg ⟨rfl,hT⟩
 replace hS:=hS.trans hT
 clear hT
 refine W ?_
 refine CL rfl (ZH rfl rfl rfl) rfl (Z0t sr3 xr3 739616 0 er m _ ZpV ⟨by rw [ZiT.1];decide,ZiT.2⟩ (.inl Zq0) (by decide) (hL.up hS) (hM.up hS) (hS.cell (by simp) hm) (hS.cell (by simp) hv4) hev (by decide)) ?_
 rintro _ wg ⟨rfl,hT⟩
 replace hS:=hS.trans hT
 clear hT
 refine W ?_
 refine CL rfl (ZH rfl rfl rfl) rfl (Z0t sr4 xr4 0 32 er m _ ZpW ⟨by rw [ZiU.1];decide,ZiU.2⟩ (.inr ⟨rfl,by decide,Zq1⟩) (by decide) (hL.up hS) (hM.up hS) (hS.cell (by simp) hm) (hS.cell (by simp) hv4) hev (by decide)) ?_
 rintro _ wg ⟨rfl,hT⟩
 replace hS:=hS.trans hT
 clear hT
 refine W ?_
 refine CL rfl (ZH rfl rfl rfl) rfl (Z0t sr5 xr5 0 5 er m _ ZpX ⟨by rw [ZiV.1];decide,ZiV.2⟩ (.inr ⟨rfl,by decide,Zq2⟩) (by decide) (hL.up hS) (hM.up hS) (hS.cell (by simp) hm) (hS.cell (by simp) hv4) hev (by decide)) ?_
 rintro _ wg ⟨rfl,hT⟩
 replace hS:=hS.trans hT
 clear hT
 refine W ?_
 refine WR ?_
 exact .mk ⟨by simp,hS⟩
 refine ZcF rfl trivial (Z5 rfl Z4O (Z3N _)) (fun _ _ h=>h.2) rfl ?_
 rintro _ w9 ⟨rfl,hT⟩
 replace k1:=k1.up hT
 replace hsp1:=hsp1.up hT
 replace hS:=hS.trans hT
 clear hT
 refine Zb rfl trivial (Z2 (vs:=[(0,agg (⟨4,0⟩:Ins)),(1,agg (⟨1,2⟩:Ins)),(2,agg (⟨18,0⟩:Ins)),(3,agg (⟨24,0⟩:Ins))]) rfl (Zdm)) (fun _ _ h=>(Zc.stp h).mono (by simp)) rfl ?_
 rintro cv2 w8 hN
 have hc2:SlV [] w8 cv2 cd2:=hN.slv (by simp) rfl rfl (by simp [maxLen,cd2])
 have hT:=Zc.stp hN
 clear hN
 replace k1:=k1.up hT
 replace hsp1:=hsp1.up hT
 replace hS:=hS.trans hT
 clear hT
 refine D ?_
 refine Zb rfl trivial (Z5 rfl (Z3n rfl rfl rfl rfl) (Z4k cv2 cd2 3 0 ev0 Z13 _ _ _ _ _ _ hc2 Zq3 (Zdk (hL.up hS) (hM.up hS)) Zdi ⟨rfl,rfl,rfl⟩)) (fun _ _ h=>h.choose_spec.2.2) rfl ?_
 rintro _ w10 ⟨pv2,rfl,hp2⟩
 rw [Zq4] at hp2 ⊢
 dsimp only at hp2 ⊢
 have hsp2:=hp2.slv (X:=[]) (by simp)
 replace hsp1:=hsp1.up hp2.2
 replace hS:=hS.trans hp2.2
 clear hp2 hc2 k1
 refine D ?_
 refine W ?_
 simp only [eq_self,decide_true]
 refine Ze (vs:=[(0,.int .i64 739619),(1,.int .i64 739620)]) rfl (Z5L _ _) rfl ?_
 refine Z59 rfl ?_
 refine Z3 (Z2 (vs:=[(0,agg ((739619,739620):Spn))]) rfl (Z4j _)) rfl ?_
 rintro bw w11 hN
 have hbw:SlV [] w11 bw [((739619,739620):Spn)]:=hN.slv (by simp) rfl rfl (by simp [maxLen])
 have hT:=Zc.stp hN
 clear hN
 replace hsp1:=hsp1.up hT
 replace hsp2:=hsp2.up hT
 replace hS:=hS.trans hT
 clear hT
 refine Z59 rfl ?_
 refine CL rfl (Z9 rfl rfl) rfl (Z1S _ bw _ _ _ hsp1 hbw) ?_
 rintro _ w12 ⟨rfl,hT⟩
 replace hsp2:=hsp2.up hT
 replace hS:=hS.trans hT
 clear hT
 simp only [eq_self,decide_true]
 refine W ?_
 simp only [eq_self,decide_true]
 refine Ze (vs:=[(0,.int .i64 739617),(1,.int .i64 739620)]) rfl (Z5L _ _) rfl ?_
 refine Z59 rfl ?_
 refine Z3 (Z2 (vs:=[(0,agg ((739617,739620):Spn))]) rfl (Z4j _)) rfl ?_
 rintro bw w11 hN
 have hbw:SlV [] w11 bw [((739617,739620):Spn)]:=hN.slv (by simp) rfl rfl (by simp [maxLen])
 have hT:=Zc.stp hN
 clear hN
 replace hsp2:=hsp2.up hT
 replace hS:=hS.trans hT
 clear hT
 refine Z59 rfl ?_
 refine CL rfl (Z9 rfl rfl) rfl (Z1S _ bw _ _ _ hsp2 hbw) ?_
 rintro _ w12 ⟨rfl,hT⟩
 replace hsp2:=hsp2.up hT
 replace hS:=hS.trans hT
 clear hT
 simp only [eq_self,decide_true]
 refine W ?_
 refine CL rfl (ZH rfl rfl rfl) rfl (Z0t sr1 xr1 739619 0 er m _ ZpT ⟨by rw [ZiR.1];decide,ZiR.2⟩ (.inl ZpY) (by decide) (hL.up hS) (hM.up hS) (hS.cell (by simp) hm) (hS.cell (by simp) hv4) hev (by decide)) ?_
 rintro _ wg ⟨rfl,hT⟩
 replace hS:=hS.trans hT
 clear hT
 refine W ?_
 refine CL rfl (ZH rfl rfl rfl) rfl (Z0t sr2 xr2 739585 0 er m _ ZpU ⟨by rw [ZiS.1];decide,ZiS.2⟩ (.inl ZpZ) (by decide) (hL.up hS) (hM.up hS) (hS.cell (by simp) hm) (hS.cell (by simp) hv4) hev (by decide)) ?_
 rintro _ wg ⟨rfl,hT⟩
 replace hS:=hS.trans hT
 clear hT
 refine W ?_
 refine CL rfl (ZH rfl rfl rfl) rfl (Z0t sr3 xr3 739616 0 er m _ ZpV ⟨by rw [ZiT.1];decide,ZiT.2⟩ (.inl Zq0) (by decide) (hL.up hS) (hM.up hS) (hS.cell (by simp) hm) (hS.cell (by simp) hv4) hev (by decide)) ?_
 rintro _ wg ⟨rfl,hT⟩
 replace hS:=hS.trans hT
 clear hT
 refine W ?_
 refine CL rfl (ZH rfl rfl rfl) rfl (Z0t sr4 xr4 0 32 er m _ ZpW ⟨by rw [ZiU.1];decide,ZiU.2⟩ (.inr ⟨rfl,by decide,Zq1⟩) (by decide) (hL.up hS) (hM.up hS) (hS.cell (by simp) hm) (hS.cell (by simp) hv4) hev (by decide)) ?_
 rintro _ wg ⟨rfl,hT⟩
 replace hS:=hS.trans hT
 clear hT
 refine W ?_
 refine CL rfl (ZH rfl rfl rfl) rfl (Z0t sr5 xr5 0 5 er m _ ZpX ⟨by rw [ZiV.1];decide,ZiV.2⟩ (.inr ⟨rfl,by decide,Zq2⟩) (by decide) (hL.up hS) (hM.up hS) (hS.cell (by simp) hm) (hS.cell (by simp) hv4) hev (by decide)) ?_
 rintro _ wg ⟨rfl,hT⟩
 replace hS:=hS.trans hT
 clear hT
 refine W ?_
 refine WR ?_
 exact .mk ⟨by simp,hS⟩
theorem ZeC {x:Nd} (h:Z2z x=0):Zw x≤12∧Zd x≠0∧(Jm x).length≤200:=by
 unfold Z2z at h
 split at h
 rename_i h1
 split at h
 simp at h
 rename_i h2
 split at h
 simp at h
 exact ⟨h1,h2,by omega⟩
 simp at h
theorem Zbt {x:Nd} (h:Z2z x=0):Z89 (Jm x)=(Zd x,0):=by
 obtain ⟨h1,h2,h3⟩:=ZeC h
 exact ZdL x h2 h1 h3
theorem Z7Y (opn:Int→Bool) (ev:List Int) (hev:Z49 ev) (x:Nd) (ht:Zd x≠0):(Z0V opn ev (Jm x)).1=(if (Z4 opn ev x).2=0 then (Z4 opn ev x).1 else 0)∧(Z0V opn ev (Jm x)).2.2=(Z4 opn ev x).2:=by
 obtain ⟨a,b⟩:=ZaN opn ev hev x ht
 by_cases he:(Z4 opn ev x).2=0
 obtain ⟨sp,e⟩:=a he
 rw [e,if_pos he]
 exact ⟨rfl,he.symm⟩
 rw [b he,if_neg he]
 exact ⟨rfl,rfl⟩
theorem Z5M {P:Program} {n:Nat} {e:Env} {w:World} {d:Option Nat} {ty:TypeId} {pos:String} {af:Array Edge} {g:Option (Nat×Bool)} {X:List Nat} {v:Value} {l:List Rul} {i:Nat} {ki kd:Value} {x:Operand} {t:TypeId} {D:TypeDesc} (o:Nat) (us:List Value) [hu:Und P t D] (hA:JX D=true) [hsz:Siz P t 4] (hx:ev e x=some (.pointer (some (ZL v i 13 o)))) (hs:SlV X w v l) (hi:i<l.length)
 (hl:us.length=4) (hus:∀ j u,us[j]?=some u→(rlC l[i] ki kd)[o+j]?=some u) (hc:∀ j u,(rlC l[i] ki kd)[j]?=some u→w.cell? (ZL v i 13 j)=some u) :
 PR P n ⟨d,.load t x,ty,pos,af,g⟩ e w (.agg us.toArray):=by
 obtain ⟨p,l',c,rfl⟩:=hs.isSome hi
 refine Z3S (cs:=us) hA hx hl (fun j u hu=>?_)
 have:=hc (o+j) u (hus j u hu)
 simpa [ZL,XT] using this
theorem ZeD (r:Rul) (ki kd:Value):∀ j u,(ndC r.due kd)[j]?=some u→(rlC r ki kd)[7+j]?=some u:=fun j u hu=>by
 have hj:=(XC.1 hu).1
 simp at hj
 match j,hj with
 | 0,_|1,_|2,_|3,_=>exact hu
theorem ZeE (r:Rul) (ki kd:Value):∀ j u,(ndC r.cnd ki)[j]?=some u→(rlC r ki kd)[3+j]?=some u:=fun j u hu=>by
 have hj:=(XC.1 hu).1
 simp at hj
 match j,hj with
 | 0,_|1,_|2,_|3,_=>exact hu
theorem ZiZ (v0 v1 v2:Value) (l0 l1 l2:List Int) (kd kz:Int) (er:Value) (m:Int)  (w:World) (h0:SlV [] w v0 l0) (h1:SlV [] w v1 l1) (h2:SlV [] w v2 l2) (hi0:∀ a∈l0,I64 a) (hi1:∀ a∈l1,I64 a) (hi2:∀ a∈l2,I64 a) (hkd:I64 kd) (hkz:I64 kz) (hF:SlV [] w Z30 Zg) (hL:Z0M w) (hM:Z3I w) (hm:w.cell? ⟨2,0,none⟩=some (.int .i64 m)) (hv4:w.cell? ⟨5,0,none⟩=some er) (hev4:er=.nilIface∨∃ te pe,er=.iface te pe)  :
 CC 10 #[ZgR v0 v1 v2 kd kz] w fun r w'=>r=.bool true∧Stp [] w w':=by
 refine cW1 142 Tryz.func10 ?_
 refine W ?_
 refine Z3 (Zs rfl) rfl ?_
 rintro _ w1 ⟨b1,rfl,hb1,k1,hS⟩
 replace k1:Blk w1 b1 24 [v0,v1,v2,.int .i64 kd,.int .i64 kz]:=k1
 refine W ?_
 refine CL rfl (Zp rfl) rfl (Zct v0 v1 v2 l0 l1 l2 kd kz _ (h0.up hS) (h1.up hS) (h2.up hS) hi0 hi1 hi2 hkd hkz (hL.up hS) (hM.up hS)) ?_
 rintro _ w2 ⟨y,t,ky,ev,c,hv,cv,zo,zs,hr,kn,rfl,hg,hky,hev,hcal,ho,hcs,hkn,hT⟩
 replace k1:=k1.up hT
 replace hS:=hS.trans hT
 clear hT
 have hone:=hky.one
 refine W ?_
 refine Z3 Z6 rfl ?_
 rintro _ w3 ⟨b3,rfl,hb3,k3,hA⟩
 have lt3:=k3.lt
 refine Z3 Z6 rfl ?_
 rintro _ w4 ⟨b4,rfl,hb4,k4,hT⟩
 have gz4:=hA.size
 replace k3:=k3.up hT
 replace hA:=hA.trans hT
 clear hT
 have lt4:=k4.lt
 refine Z3 Z6 rfl ?_
 rintro _ w5 ⟨b5,rfl,hb5,k5,hT⟩
 have gz5:=hA.size
 replace k3:=k3.up hT
 replace k4:=k4.up hT
 replace hA:=hA.trans hT
 clear hT
 refine Z0 (Z1 (us:=ndC y ky) rfl rfl rfl rfl (Zk hky) k3 rfl) ?_
 rintro _ w6 ⟨hT,k3⟩
 replace k4:=k4.ext hT (by simp;omega)
 replace k5:=k5.ext hT (by simp;omega)
 replace hA:=hA.own hT (fun c hc=>.inr (by simp at hc;omega))
 clear hT
 refine Z0 (Z1 (us:=evC ev) rfl rfl rfl rfl (Z6d _) k4 rfl) ?_
 rintro _ w7 ⟨hT,k4⟩
 replace k3:=k3.ext hT (by simp;omega)
 replace k5:=k5.ext hT (by simp;omega)
 replace hA:=hA.own hT (fun c hc=>.inr (by simp at hc;omega))
 clear hT
 refine Z0 (Z1 (us:=Z0i c hv cv zo zs hr) rfl rfl rfl rfl (Z4C hcal.hols.one hcal.clos.one ho) k5 rfl) ?_
 rintro _ w8 ⟨hT,k5⟩
 replace k3:=k3.ext hT (by simp;omega)
 replace k4:=k4.ext hT (by simp;omega)
 replace hA:=hA.own hT (fun c hc=>.inr (by simp at hc;omega))
 clear hT gz4 gz5
 replace hky:=hky.up hA
 replace hcal:=hcal.up hA
 replace k1:=k1.up hA
 replace hS:=hS.trans hA
 clear hA
 clear hg hky
 refine W ?_
 refine CL rfl (Zp rfl) rfl (Zez v0 l0 _ (h0.up hS) hi0) ?_
 rintro _ wa ⟨rs,h4,hall,rfl,hT⟩
 replace k4:=k4.up hT
 replace k5:=k5.up hT
 replace hcal:=hcal.up hT
 replace hS:=hS.trans hT
 clear hT
 have hln:(rs.flatMap (J2 Zh)).length≤4000:=by have:=Z1c.total hall;omega
 have hpp:=ZaC Zg9 (fun x hx=>(hall x hx).ok) hln
 refine CL rfl (Zp rfl) rfl (Zea [] _ er m _ (by simp) (hL.up hS) (hS.cell (by simp) hm) (hS.cell (by simp) hv4) hev4 (by omega)) ?_
 rintro rv wb ⟨hr',hT⟩
 rw [hpp] at hr'
 obtain ⟨gv,rfl,hgv⟩:=hr'
 replace k4:=k4.up hT
 replace k5:=k5.up hT
 replace hcal:=hcal.up hT
 replace hS:=hS.trans hT
 clear hT
 clear hpp
 repeat'(first|refine W1 ?_|omega|refine VG ?_ ?_<;>intro hg|refine VC ?_ ?_<;>intro hc)
 all_goals try (exact absurd rfl (by assumption))
 have hlr:(rs.map RuleM.rul).length=rs.length:=XM ..
 have hmg:=hgv.max
 have hgv0:=hgv
 have k40:=k4
 have k50:=k5
 have hcal0:=hcal
 have hS0:=hS
 refine ZD (σ:=Nat) (fun i=>[(4,.pointer (some ⟨b4,0,none⟩)),(5,.pointer (some ⟨b5,0,none⟩)),(6,.int .i64 kn),(7,gv),(10,.int .i64 (i:Int))]) (fun i w'=>i≤rs.length∧Stp [] wb w') (fun i=>rs.length - i) 0 ⟨rfl,rfl,rfl,rfl,rfl,trivial⟩ ⟨Xy _,Stp.refl _ _⟩ ?_
 clear hgv k4 k5 hcal hS
 rintro i wi ⟨hi,hB⟩
 have hgv:=hgv0.up hB
 have k4:=k40.up hB
 have k5:=k50.up hB
 have hcal:=hcal0.up hB
 have hS:=hS0.trans hB
 by_cases hlt:i<rs.length
 have hli:i<(rs.map RuleM.rul).length:=by omega
 have hG:=hall _ (Xg hlt)
 have hri:(rs.map RuleM.rul)[i]=rs[i].rul:=by simp
 obtain ⟨ka,kb,hka,hkb,hca⟩:=ZgM hgv hli
 rw [hri] at hka hkb
 have hz1:JJ rs[i].cond≤1000:=Xh hG.cond.size (by decide)
 have hz2:JJ rs[i].due≤1000:=Xh hG.due.size (by decide)
 have hck:=hG.check
 focus repeat'(first|refine W1 ?_|omega|refine VG ?_ ?_<;>intro hg|refine VC ?_ ?_<;>intro hc)
 refine Z7 (Z58 rfl rfl hgv hli hca) rfl ?_
 rw [hri]
 refine CL rfl (Zp rfl) rfl (ZfJ _ rs[i].rul _ ⟨ka,kb,rfl,hka,hkb⟩ hz1 hz2 (hF.up hS) m (hS.cell (by simp) hm)) ?_
 rintro _ wc ⟨cv2,rfl,hcv,hT⟩
 obtain ⟨x1,d1,rfl,hx1,hd1⟩:=hcv [] (by simp)
 clear hcv
 replace hca:∀ j u,(rlC (rs.map RuleM.rul)[i] ka kb)[j]?=some u→_:=fun j u hj=>Ju hgv hli (hT.mono (by simp)) (hca j u hj)
 replace hgv:=hgv.up hT
 replace hka:=hka.up hT
 replace hkb:=hkb.up hT
 replace k4:=k4.up hT
 replace k5:=k5.up hT
 replace hcal:=hcal.up hT
 replace hS:=hS.trans hT
 replace hB:=hB.trans hT
 clear hT
 refine W ?_
 refine Z3 Z6 rfl ?_
 rintro _ wd ⟨b11,rfl,hb11,e0,hT⟩
 refine Z0 (Z1 (us:=crC (crF rs[i].rul) x1 d1) rfl rfl rfl rfl (Z5i hx1 hd1) e0 rfl) ?_
 rintro _ we ⟨hT2,e11⟩
 replace hT:=JK hT hb11 hT2
 clear hT2 e0 hb11
 replace hx1:=hx1.up hT
 replace hd1:=hd1.up hT
 replace hca:∀ j u,(rlC (rs.map RuleM.rul)[i] ka kb)[j]?=some u→_:=fun j u hj=>Ju hgv hli (hT.mono (by simp)) (hca j u hj)
 replace hgv:=hgv.up hT
 replace hka:=hka.up hT
 replace hkb:=hkb.up hT
 replace k4:=k4.up hT
 replace k5:=k5.up hT
 replace hcal:=hcal.up hT
 replace hS:=hS.trans hT
 replace hB:=hB.trans hT
 clear hT
 by_cases he:Z4H rs[i].rul=0
 · have hcr:crF rs[i].rul=⟨rs[i].rul.name,rs[i].rul.frm,rs[i].rul.on,Jm rs[i].rul.cnd,Jm rs[i].rul.due,rs[i].rul.unl,rs[i].rul.els⟩:=by unfold crF;rw [if_pos he]
   have heR:Z2z rs[i].cond=0∧Z2z rs[i].due=0:=by
    unfold Z4H at he
    rw [if_neg (by simpa using hck)] at he
    split at he
    rename_i hx;exact absurd he hx
    rename_i hx
    exact ⟨Classical.not_not.1 hx,he⟩
   rw [hcr] at e11 hx1 hd1
   replace hx1:SlV [] we x1 (Jm rs[i].cond):=hx1
   replace hd1:SlV [] we d1 (Jm rs[i].due):=hd1
   have hv1:=Zbt heR.1
   have hv2:=Zbt heR.2
   have ht1:Zd rs[i].cond=2:=hG.cond.type
   have ht2:Zd rs[i].due=3:=hG.due.type
   have n1:Zw rs[i].cond≤4:=hG.cond.nest
   have n2:Zw rs[i].due≤4:=hG.due.nest
   obtain ⟨ra,rb⟩:=Z7Y (Zv c kn) ev hev rs[i].cond (by omega)
   obtain ⟨rc,rd⟩:=Z7Y (Zv c kn) ev hev rs[i].due (by omega)
   have vk1:=Z0Z (Zv c kn) ev hev rs[i].cond (by omega)
   have vk2:=Z0Z (Zv c kn) ev hev rs[i].due (by omega)
   rw [ht1] at vk1
   rw [ht2] at vk2
   rw [he]
   simp only [crC] at e11
   repeat'(first|refine W1 ?_|omega|refine VG ?_ ?_<;>intro hg|refine VC ?_ ?_<;>intro hc)
   all_goals try (exact absurd rfl (by assumption))
   refine Z7 (Z58 rfl rfl hgv hli hca) rfl ?_
   rw [hri]
   refine CL rfl (Zp rfl) rfl (Z6p _ rs[i].rul m _ ⟨ka,kb,rfl,hka,hkb⟩ (hF.up hS) (hS.cell (by simp) hm)) ?_
   rintro _ wf ⟨rfl,hT⟩
   rw [hck]
   replace e11:=e11.up hT
   replace hx1:=hx1.up hT
   replace hd1:=hd1.up hT
   replace hca:∀ j u,(rlC (rs.map RuleM.rul)[i] ka kb)[j]?=some u→_:=fun j u hj=>Ju hgv hli (hT.mono (by simp)) (hca j u hj)
   replace hgv:=hgv.up hT
   replace hka:=hka.up hT
   replace hkb:=hkb.up hT
   replace k4:=k4.up hT
   replace k5:=k5.up hT
   replace hcal:=hcal.up hT
   replace hS:=hS.trans hT
   replace hB:=hB.trans hT
   clear hT
   repeat'(first|refine W1 ?_|omega|refine VG ?_ ?_<;>intro hg|refine VC ?_ ?_<;>intro hc)
   all_goals try (exact absurd rfl (by assumption))
   refine CL rfl (Z3n rfl rfl rfl rfl) rfl (Z4k x1 _ _ kn ev c hv cv zo zs hr _ hx1 hv1 hcal hev ho) ?_
   rintro _ wg ⟨pv,rfl,hp⟩
   have hT:=hp.2
   clear hp
   replace e11:=e11.up hT
   replace hd1:=hd1.up hT
   replace hca:∀ j u,(rlC (rs.map RuleM.rul)[i] ka kb)[j]?=some u→_:=fun j u hj=>Ju hgv hli (hT.mono (by simp)) (hca j u hj)
   replace hgv:=hgv.up hT
   replace hka:=hka.up hT
   replace hkb:=hkb.up hT
   replace k4:=k4.up hT
   replace k5:=k5.up hT
   replace hcal:=hcal.up hT
   replace hS:=hS.trans hT
   replace hB:=hB.trans hT
   clear hT
   rw [ra,rb]
   refine W ?_
   refine ZDr 14 [] [] [(0,0),(1,0),(2,0),(3,0),(4,1),(5,1),(6,1),(7,0),(8,2),(9,0),(10,0),(11,0),(12,0),(13,0)] (fun w1 hS1=>?_)
   have hT:=hS1
   clear hS1
   replace e11:=e11.up hT
   replace hd1:=hd1.up hT
   replace hca:∀ j u,(rlC (rs.map RuleM.rul)[i] ka kb)[j]?=some u→_:=fun j u hj=>Ju hgv hli (hT.mono (by simp)) (hca j u hj)
   replace hgv:=hgv.up hT
   replace hka:=hka.up hT
   replace hkb:=hkb.up hT
   replace k4:=k4.up hT
   replace k5:=k5.up hT
   replace hcal:=hcal.up hT
   replace hS:=hS.trans hT
   replace hB:=hB.trans hT
   clear hT
   refine D ?_
   refine ZN rfl trivial (fun w' hS'=>Z5M 3 (ndC rs[i].rul.cnd ka) rfl rfl (hgv.up hS') hli rfl (by rw [hri];exact ZeE _ ka kb) (fun j u hj=>Ju hgv hli (hS'.mono (by simp)) (hca j u hj))) rfl ?_
   refine D ?_
   refine Zb rfl trivial (Z5 rfl (Z3n rfl rfl rfl rfl) (Z6e _ rs[i].cond kn ev c hv cv zo zs hr _ ⟨ka,rfl,hka⟩ (by omega) (by omega) hcal hev ho)) (fun _ _ h=>h.2) rfl ?_
   rintro _ wh ⟨rfl,hT⟩
   replace e11:=e11.up hT
   replace hd1:=hd1.up hT
   replace hca:∀ j u,(rlC (rs.map RuleM.rul)[i] ka kb)[j]?=some u→_:=fun j u hj=>Ju hgv hli (hT.mono (by simp)) (hca j u hj)
   replace hgv:=hgv.up hT
   replace hka:=hka.up hT
   replace hkb:=hkb.up hT
   replace k4:=k4.up hT
   replace k5:=k5.up hT
   replace hcal:=hcal.up hT
   replace hS:=hS.trans hT
   replace hB:=hB.trans hT
   clear hT
   refine D ?_
   refine W ?_
   refine CL rfl (Z3n rfl rfl rfl rfl) rfl (Z4k d1 _ _ kn ev c hv cv zo zs hr _ hd1 hv2 hcal hev ho) ?_
   rintro _ wg ⟨pw,rfl,hp⟩
   have hT:=hp.2
   clear hp
   replace hca:∀ j u,(rlC (rs.map RuleM.rul)[i] ka kb)[j]?=some u→_:=fun j u hj=>Ju hgv hli (hT.mono (by simp)) (hca j u hj)
   replace hgv:=hgv.up hT
   replace hka:=hka.up hT
   replace hkb:=hkb.up hT
   replace k4:=k4.up hT
   replace k5:=k5.up hT
   replace hcal:=hcal.up hT
   replace hS:=hS.trans hT
   replace hB:=hB.trans hT
   clear hT
   rw [rc,rd]
   refine W ?_
   refine ZDr 14 [] [] [(0,0),(1,0),(2,0),(3,0),(4,1),(5,1),(6,1),(7,0),(8,2),(9,0),(10,0),(11,0),(12,0),(13,0)] (fun w1 hS1=>?_)
   have hT:=hS1
   clear hS1
   replace hca:∀ j u,(rlC (rs.map RuleM.rul)[i] ka kb)[j]?=some u→_:=fun j u hj=>Ju hgv hli (hT.mono (by simp)) (hca j u hj)
   replace hgv:=hgv.up hT
   replace hka:=hka.up hT
   replace hkb:=hkb.up hT
   replace k4:=k4.up hT
   replace k5:=k5.up hT
   replace hcal:=hcal.up hT
   replace hS:=hS.trans hT
   replace hB:=hB.trans hT
   clear hT
   refine D ?_
   refine ZN rfl trivial (fun w' hS'=>Z5M 7 (ndC rs[i].rul.due kb) rfl rfl (hgv.up hS') hli rfl (by rw [hri];exact ZeD _ ka kb) (fun j u hj=>Ju hgv hli (hS'.mono (by simp)) (hca j u hj))) rfl ?_
   refine D ?_
   refine Zb rfl trivial (Z5 rfl (Z3n rfl rfl rfl rfl) (Z6e _ rs[i].due kn ev c hv cv zo zs hr _ ⟨kb,rfl,hkb⟩ (by omega) (by omega) hcal hev ho)) (fun _ _ h=>h.2) rfl ?_
   rintro _ wh ⟨rfl,hT⟩
   replace hca:∀ j u,(rlC (rs.map RuleM.rul)[i] ka kb)[j]?=some u→_:=fun j u hj=>Ju hgv hli (hT.mono (by simp)) (hca j u hj)
   replace hgv:=hgv.up hT
   replace hka:=hka.up hT
   replace hkb:=hkb.up hT
   replace k4:=k4.up hT
   replace k5:=k5.up hT
   replace hcal:=hcal.up hT
   replace hS:=hS.trans hT
   replace hB:=hB.trans hT
   clear hT
   refine D ?_
   have hb1:0≤(if (Z4 (Zv c kn) ev rs[i].cond).2=0 then (Z4 (Zv c kn) ev rs[i].cond).1 else 0)∧(if (Z4 (Zv c kn) ev rs[i].cond).2=0 then (Z4 (Zv c kn) ev rs[i].cond).1 else 0)≤1:=by
    split
    rename_i h;rcases (vk1 h).b with h1|h1<;>omega
    omega
   have hb2:0≤(if (Z4 (Zv c kn) ev rs[i].due).2=0 then (Z4 (Zv c kn) ev rs[i].due).1 else 0)∧(if (Z4 (Zv c kn) ev rs[i].due).2=0 then (Z4 (Zv c kn) ev rs[i].due).1 else 0)≤3652058:=by
    split
    rename_i h;have:=(vk2 h).d;omega
    omega
   generalize (if (Z4 (Zv c kn) ev rs[i].cond).2=0 then (Z4 (Zv c kn) ev rs[i].cond).1 else 0)=q1 at *
   generalize (if (Z4 (Zv c kn) ev rs[i].due).2=0 then (Z4 (Zv c kn) ev rs[i].due).1 else 0)=q2 at *
   generalize (Z4 (Zv c kn) ev rs[i].cond).2=q3 at *
   generalize (Z4 (Zv c kn) ev rs[i].due).2=q4 at *
   repeat'(first|refine W1 ?_|omega|refine VG ?_ ?_<;>intro hg|refine VC ?_ ?_<;>intro hc)
   all_goals try (exact absurd rfl (by assumption))
   exact Zr (i+1) ⟨rfl,rfl,rfl,rfl,rfl,trivial⟩ ⟨hlt,hB⟩ (by omega)
 · repeat'(first|refine W1 ?_|omega|refine VG ?_ ?_<;>intro hg|refine VC ?_ ?_<;>intro hc)
   all_goals try (exact absurd (by assumption) he)
   exact Zr (i+1) ⟨rfl,rfl,rfl,rfl,rfl,trivial⟩ ⟨hlt,hB⟩ (by omega)
 have hie:i=rs.length:=by omega
 subst hie
 focus repeat'(first|refine W1 ?_|omega|refine VG ?_ ?_<;>intro hg|refine VC ?_ ?_<;>intro hc)
 refine CL rfl Z4O rfl (Zbs er m _ (hL.up hS) (hM.up hS) (hS.cell (by simp) hm) (hS.cell (by simp) hv4) hev4) ?_
 rintro _ wl ⟨rfl,hT⟩
 replace hS:=hS.trans hT
 clear hT
 refine W ?_
 refine WR ?_
 exact .mk ⟨rfl,hS⟩
end Go.Proofs.YtjdjdoefppebkaaGreatDoor
namespace Go.Eng
open Go Go.RowKit Go.Proofs
def Z7Z (P:Program) (w:World) (n:String) (d:DataW Unit):Prop:=∃ g t cs fuel p,P.globalNamed n=some g∧(P.globals[g]?).map (·.type)=some t∧w.var? P n=some cs∧DataW.trod (fun _=>()) P w 0 (fun _=>true) false fuel t cs.toList=some (d,p)
theorem Z4m {P:Program} {w:World}:∀ (l:List (String×DataW Unit)) (ps:List MemPlace),DataW.LaidVars P w l ps→∀ (n:String) (d:DataW Unit),(n,d)∈l→Z7Z P w n d
 | [],_,_,n,d,h=>by simp at h
 | (n0, d0) :: r, ps, hl, n, d, h => by
   obtain ⟨g,t,cs,fuel,p,q,h1,h2,h3,h4,h5,_⟩:=hl
   rcases Xf.1 h with h|h
   cases h
   exact ⟨g,t,cs,fuel,p,h1,h2,h3,h4⟩
   exact Z4m r q h5 n d h
theorem ZeF {P:Program} {w:World} {name:String} {g t e n:Nat} {k:IntKind} {zs:List Int} (h:Z7Z P w name (Lib.tabData k zs)) (hg:P.globalNamed name=some g) (hty:(P.globals[g]?).map (·.type)=some t) (ht:P.underlying t=some (.array n e)) (he:P.underlying e=some (.int k)) (hce:P.cellsOf e=1) (hct:P.cellsOf t=n):Lib.TabIs P w name k zs:=by
 obtain ⟨g',t',cs,fuel,p,hg',ht',hvar,hd⟩:=h
 obtain rfl:=XJ (hg.symm.trans hg')
 obtain rfl:=XJ (hty.symm.trans ht')
 unfold Lib.TabIs
 rw [hvar,← Lib.cells_of_tab ht he hce hct hd]
theorem Zcx {P:Program} {W:World} {name:String} {g t e n:Nat} {ss:List Str} (hg:P.globalNamed name=some g) (ht:(P.globals[g]?).map (·.type)=some t) (hu:P.underlying t=some (.array n e)) (he:P.underlying e=some .string) (hc:P.cellsOf e=1)
 (hn:ss.length=n) (h:Z7Z P W name (.agg (ss.map (fun s=>DataW.lit (.string s))))) :
 ∀ i (hi:i<ss.length),W.cell? ⟨g,i,none⟩=some (str ss[i]):=by
 obtain ⟨g0,t0,cs0,f0,p0,hg0,ht0,hv0,hd0⟩:=h
 obtain rfl:=XJ (hg.symm.trans hg0)
 obtain rfl:=XJ (ht.symm.trans ht0)
 obtain ⟨xs,m1,rfl,hx1,hlen,hn3,hel⟩:=DataW.trod_array hu hd0
 intro i hi
 have h1:=hel i (by omega)
 rw [hc,Nat.mul_one] at h1
 have hxi:xs[i]?=some (xs[i]'(by omega)):=XA (by omega)
 rw [hxi] at h1
 obtain ⟨s,e1,e2,_⟩:=DataW.trod_string he h1
 have e3:DataW.agg (ss.map (fun s=>DataW.lit (.string s)))=(DataW.agg (xs.map (·.1)):DataW Unit):=congrArg Prod.fst hx1
 simp only [DataW.agg.injEq] at e3
 have e4:(DataW.lit (.string ss[i]):DataW Unit)=(xs[i]'(by omega)).1:=by
  have h2:=congrArg (fun l=>l[i]?) e3
  simp only [YaO,hxi,XA hi,YaH,Xj] at h2
  exact h2
 rw [e2] at e4
 simp only [DataW.lit.injEq,Lit.string.injEq] at e4
 have hv:=World.var?_cell hg0 hv0 i
 rw [hv]
 have h5:cs0.toList[i]?=some (.string s):=by
  have h6:=congrArg (fun l=>l[0]?) e1
  simpa [Yac,List.getElem?_drop] using h6
 rw [← YaR,h5]
 congr 1
 simp only [str,e4]
theorem Zbu {P:Program} {W:World} {name:String} {g t:Nat} {ms:Array (String×TypeId)} {d:DataW Unit} (hg:P.globalNamed name=some g) (ht:(P.globals[g]?).map (·.type)=some t) (hu:P.underlying t=some (.interface ms)) (h:Z7Z P W name d) :
 ∃ er,W.cell? ⟨g,0,none⟩=some er∧(er=.nilIface∨∃ te pe,er=.iface te pe):=by
 obtain ⟨g0,t0,cs0,f0,p0,hg0,ht0,hv0,hd0⟩:=h
 obtain rfl:=XJ (hg.symm.trans hg0)
 obtain rfl:=XJ (ht.symm.trans ht0)
 have hv:=World.var?_cell hg0 hv0 0
 rw [hv]
 rw [← YaR]
 generalize cs0.toList=cs at *
 cases f0 with
 | zero=>simp [DataW.trod] at hd0
 | succ f=>
   unfold DataW.trod at hd0
   rw [hu] at hd0
   match cs,hd0 with
   | [],hd0=>simp at hd0
   | a :: b :: r,hd0=>simp at hd0
   | [x], hd0=>
     refine ⟨x,rfl,?_⟩
     cases x with
     | nilIface=>exact .inl rfl
     | iface u v=>exact .inr ⟨u,v,rfl⟩
     | _=>simp at hd0
end Go.Eng
namespace Go.Proofs.YtjdjdoefppebkaaGreatDoor
open Go Go.Eng Go.RowKit Go.Proofs
open Go Go.Eng Go.RowKit Go.Proofs Go.ChangeShapes Go.WideShapes Go.Deep
theorem ZeG {W:World} (h:Z7Z Tryz.prog W "rollbook/holiday.moves" Rows.laid_rollbook_holiday_moves):Z3I W:=by
 obtain ⟨g0,t0,cs0,f0,p0,hg0,ht0,hv0,hd0⟩:=h
 have hg:Tryz.prog.globalNamed "rollbook/holiday.moves" = some 3:=by kernel_rfl
 have ht:(Tryz.prog.globals[3]?).map (·.type)=some 345:=by kernel_rfl
 obtain rfl:=XJ (hg.symm.trans hg0)
 obtain rfl:=XJ (ht.symm.trans ht0)
 obtain ⟨xs,m1,rfl,hx1,hlen,hn3,hel⟩:=DataW.trod_array Tryz.underlying345 hd0
 have hc7:Tryz.prog.cellsOf 83=7:=by kernel_rfl
 have e3:(Rows.laid_rollbook_holiday_moves:DataW Unit)=.agg (xs.map (·.1)):=congrArg Prod.fst hx1
 have e4:(.agg [Lib.tabData .i64 [0,0,0,0,0,0,0],Lib.tabData .i64 [0,0,0,0,0,2,1],Lib.tabData .i64 [0,0,0,0,0,-1,1]]:DataW Unit)=.agg (xs.map (·.1)):=e3
 simp only [DataW.agg.injEq] at e4
 have row:∀ (k:Nat) (zs:List Int),k<3→[Lib.tabData .i64 [0,0,0,0,0,0,0],Lib.tabData .i64 [0,0,0,0,0,2,1],(Lib.tabData .i64 [0,0,0,0,0,-1,1]:DataW Unit)][k]?=some (Lib.tabData .i64 zs)→(cs0.toList.drop (k * 7)).take 7=zs.map fun z=>Value.int .i64 z:=by
  intro k zs hk hz
  have h1:=hel k hk
  rw [hc7] at h1
  rw [e4,YaO] at hz
  cases hx:xs[k]? with
  | none=>rw [hx] at hz;cases hz
  | some y=>
    rw [hx] at hz h1
    have hy:y=(Lib.tabData .i64 zs,y.2):=Prod.ext (XJ hz) rfl
    rw [hy] at h1
    exact Lib.cells_of_tab (t:=83) (e:=3) (n:=7) Tryz.underlying83 Tryz.underlying3 (by kernel_rfl) hc7 h1
 have r0:=row 0 _ (by omega) rfl
 have r1:=row 1 _ (by omega) rfl
 have r2:=row 2 _ (by omega) rfl
 have hcell:∀ (k:Nat) (zs:List Int) (j:Nat),(cs0.toList.drop (k * 7)).take 7=(zs.map fun z=>Value.int .i64 z)→j<7→j<zs.length→cs0.toList[k * 7+j]?=some (.int .i64 (zs.getD j 0)):=by
  intro k zs j hr hj hjl
  have h6:=congrArg (fun l=>l[j]?) hr
  simp only [Yac,List.getElem?_drop,YaO,if_pos hj] at h6
  rw [h6]
  simp [List.getD,hjl]
 intro i u hu
 have hi:=(XC.1 hu).1
 have hi21:i<21:=hi
 have hv:=World.var?_cell hg hv0 i
 rw [hv,← YaR]
 by_cases h7:i<7
 have h2:=hcell 0 _ i r0 h7 (by simpa using h7)
 rw [show 0 * 7+i=i by omega] at h2
 rw [h2]
 have hk:i=0∨i=1∨i=2∨i=3∨i=4∨i=5∨i=6:=by omega
 rcases hk with rfl|rfl|rfl|rfl|rfl|rfl|rfl<;>(simp [Z68] at hu;subst hu;rfl)
 by_cases h14:i<14
 have h2:=hcell 1 _ (i - 7) r1 (by omega) (by simp;omega)
 rw [show 1 * 7+(i - 7)=i by omega] at h2
 rw [h2]
 have hk:i=7∨i=8∨i=9∨i=10∨i=11∨i=12∨i=13:=by omega
 rcases hk with rfl|rfl|rfl|rfl|rfl|rfl|rfl<;>(simp [Z68] at hu;subst hu;rfl)
 have h2:=hcell 2 _ (i - 14) r2 (by omega) (by simp;omega)
 rw [show 2 * 7+(i - 14)=i by omega] at h2
 rw [h2]
 have hk:i=14∨i=15∨i=16∨i=17∨i=18∨i=19∨i=20:=by omega
 rcases hk with rfl|rfl|rfl|rfl|rfl|rfl|rfl<;>(simp [Z68] at hu;subst hu;rfl)
abbrev Z80:List (String×DataW Unit):=[("math/bits.deBruijn32tab",Rows.laid_math_bits_deBruijn32tab),("math/bits.deBruijn64tab",Rows.laid_math_bits_deBruijn64tab),("internal/strconv.uint64pow10",Rows.laid_internal_strconv_uint64pow10),("strconv.ErrRange",Rows.laid_strconv_ErrRange),("strconv.ErrSyntax",Rows.laid_strconv_ErrSyntax),("rollbook/date.lengths",Rows.laid_rollbook_date_lengths),("rollbook/holiday.moves",Rows.laid_rollbook_holiday_moves)]
abbrev Zbv:List (String×DataW Unit):=Z80++[("rollbook/types.fields",Rows.laid_rollbook_types_fields)]
theorem Zbw {W:World} (h1:Z7Z Tryz.prog W "rollbook/date.lengths" Rows.laid_rollbook_date_lengths):Z0M W:=by
 have h2:=ZeF (k:=.i64) (zs:=Z5r) (g:=1) (t:=322) (e:=3) (n:=13) h1 (by kernel_rfl) (by kernel_rfl) Tryz.underlying322 Tryz.underlying3 (by kernel_rfl) (by kernel_rfl)
 intro i u hu
 have hi:=(XC.1 hu).1
 rw [Lib.TabIs.cell h2 (g:=1) (by kernel_rfl) i hi]
 simp [List.getD,hu]
theorem Zcy {W:World} (h1:Z7Z Tryz.prog W "rollbook/types.fields" Rows.laid_rollbook_types_fields):SlV [] W Z30 Zg:=by
 have hc:=Zcx (g:=0) (t:=227) (e:=9) (n:=7) (ss:=Zg) (by kernel_rfl) (by kernel_rfl) Tryz.underlying227 Tryz.underlying9 (by kernel_rfl) rfl h1
 have hlt:0<W.heap.size:=block_lt_of_cell (a:=⟨0,0,none⟩) (hc 0 (by decide))
 refine ⟨some ⟨0,0,none⟩,7,rfl,by decide,by decide,(fun h=>by cases h),fun i hi=>⟨0,0,[str Zg[i]],rfl,hlt,by simp,rfl,fun j u hu=>?_⟩⟩
 have hj:j=0:=by
  have:=(XC.1 hu).1
  simp at this
  exact this
 subst hj
 simp at hu
 subst hu
 have:=hc i hi
 simpa [Zf.k,Zi.k] using this
structure Zjf (W:World):Prop where
 len:Z0M W
 mov:Z3I W
 err:∃ er,W.cell? ⟨5,0,none⟩=some er∧(er=.nilIface∨∃ te pe,er=.iface te pe)
theorem ZgZ {W:World} {l:List (String×DataW Unit)} {ps:List MemPlace} (h:DataW.LaidVars Tryz.prog W l ps) (h1:("rollbook/date.lengths",Rows.laid_rollbook_date_lengths)∈l) (h2:("rollbook/holiday.moves",Rows.laid_rollbook_holiday_moves)∈l) (h3:("strconv.ErrRange",Rows.laid_strconv_ErrRange)∈l):Zjf W:=
 ⟨Zbw (Z4m _ _ h _ _ h1),ZeG (Z4m _ _ h _ _ h2),Zbu (g:=5) (t:=303) (by kernel_rfl) (by kernel_rfl) Tryz.underlying303 (Z4m _ _ h _ _ h3)⟩
theorem Zn5 {W:World} (h:laidMetH Tryz.prog Zbv W):Zjf W∧SlV [] W Z30 Zg:=by
 rw [MakeChecks.laidMetH_plain _ _ _ (by kernel_rfl)] at h
 obtain ⟨ps,h,_⟩:=h
 exact ⟨ZgZ h (by simp [Zbv,Z80]) (by simp [Zbv,Z80]) (by simp [Zbv,Z80]),Zcy (Z4m _ _ h _ _ (by simp [Zbv,Z80]))⟩
section
variable {H:Type} {enc:TypeId×Value→H} {w:World} {base:Nat} {spare:Nat→Bool} {held:Bool}
theorem Zq5:Tryz.prog.cellsOf 22=1:=by kernel_rfl
theorem Zq6:Tryz.prog.cellsOf 24=5:=by kernel_rfl
set_option maxRecDepth 100000 in
theorem Zn6 {r:Reach} {b0:Nat} {v:Value} {d:DataW H} {p:List MemPlace} (hv:Value.okWide Tryz.prog w r b0 24 v) (h:DataW.Trod enc Tryz.prog w base spare held 24 v d p) :
 ∃ (v0 v1 v2:Value) (kd kz:Int) (l0 l1 l2:List Int),v=ZgR v0 v1 v2 kd kz∧SlV [] w v0 l0∧SlV [] w v1 l1∧SlV [] w v2 l2∧(∀ x∈l0,I64 x)∧(∀ x∈l1,I64 x)∧(∀ x∈l2,I64 x)∧I64 kd∧I64 kz:=by
 obtain ⟨cs,rfl,hsz⟩:=okWide_struct Tryz.underlying24 hv
 obtain ⟨fuel,h⟩:=h
 obtain ⟨xs,n,rfl,hx,hlen,hxl,hf⟩:=DataW.trod_struct Tryz.underlying24 h
 rw [Zq6] at hlen
 have h0:DataW.trod enc Tryz.prog w base spare held n 22 (((Value.agg cs).cells.toList.drop 0).take (Tryz.prog.cellsOf 22))=xs[0]?:=hf 0 _ rfl
 have h1:DataW.trod enc Tryz.prog w base spare held n 22 (((Value.agg cs).cells.toList.drop 1).take (Tryz.prog.cellsOf 22))=xs[1]?:=hf 1 _ rfl
 have h2:DataW.trod enc Tryz.prog w base spare held n 22 (((Value.agg cs).cells.toList.drop 2).take (Tryz.prog.cellsOf 22))=xs[2]?:=hf 2 _ rfl
 have h3:DataW.trod enc Tryz.prog w base spare held n 3 (((Value.agg cs).cells.toList.drop 3).take (Tryz.prog.cellsOf 3))=xs[3]?:=hf 3 _ rfl
 have h4:DataW.trod enc Tryz.prog w base spare held n 3 (((Value.agg cs).cells.toList.drop 4).take (Tryz.prog.cellsOf 3))=xs[4]?:=hf 4 _ rfl
 rw [k3] at h3 h4
 rw [Zq5] at h0 h1 h2
 have hcs:(Value.agg cs).cells.toList=cs.toList:=rfl
 rw [hcs] at h0 h1 h2 h3 h4 hlen
 rw [← Array.toArray_toList (xs:=cs)]
 generalize cs.toList=cl at *
 match cl,hlen,xs,hxl with
 | [c0, c1, c2, c3, c4], _, [y0, y1, y2, y3, y4], _=>
   simp only [List.drop,List.take] at h0 h1 h2 h3 h4
   obtain ⟨a,e3,-,ha⟩:=DataW.trod_int Tryz.underlying3 h3
   obtain ⟨b,e4,-,hb⟩:=DataW.trod_int Tryz.underlying3 h4
   obtain ⟨u0,l0,e0,hs0,hok0,-⟩:=Z76 Tryz.underlying22 (by kernel_rfl) Tryz.underlying3 h0
   obtain ⟨u1,l1,e1,hs1,hok1,-⟩:=Z76 Tryz.underlying22 (by kernel_rfl) Tryz.underlying3 h1
   obtain ⟨u2,l2,e2,hs2,hok2,-⟩:=Z76 Tryz.underlying22 (by kernel_rfl) Tryz.underlying3 h2
   obtain rfl:=(YaT e0).1
   obtain rfl:=(YaT e1).1
   obtain rfl:=(YaT e2).1
   obtain rfl:=(YaT e3).1
   obtain rfl:=(YaT e4).1
   exact ⟨c0,c1,c2,a,b,l0,l1,l2,rfl,hs0,hs1,hs2,hok0,hok1,hok2,by simpa [I64,Lit.wf,IntKind.min,IntKind.max,IntKind.signed,IntKind.bits] using ha,by simpa [I64,Lit.wf,IntKind.min,IntKind.max,IntKind.signed,IntKind.bits] using hb⟩
end
end Go.Proofs.YtjdjdoefppebkaaGreatDoor
namespace Go.Eng
open Go Go.RowKit Go.Proofs Go.ChangeShapes Go.WideShapes Go.Deep
def Z6f (P:Program) (lo n:Nat):Bool:=(List.range n).all fun i=>!((P.funcs[lo+i]?).any Func.goes)
theorem Z15 {P:Program} {lo n g:Nat} (h:Z6f P lo n=true) (h1:lo≤g) (h2:g<lo+n):(P.funcs[g]?).any Func.goes=false:=by
 have:=XD.1 h (g - lo) (Ybf.2 (by omega))
 rw [show lo+(g - lo)=g by omega] at this
 simpa using this
theorem ZqJ {P:Program} (h:∀ g:Nat,(P.funcs[g]?).any Func.goes=false) {c:OpenClaim} (hs:c.start=.entering):false=c.goesBy P:=by
 symm
 have hall:P.funcs.any Func.goes=false:=by
  rw [Array.any_eq_false]
  intro i hi hg
  have:=h i
  rw [YaD hi] at this
  simp only [Option.any_some] at this
  rw [this] at hg
  cases hg
 have hgo:∀ f,P.goes f=false:=by
  intro f
  unfold Program.goes
  rw [hall,Ybg,Bool.or_false]
  rw [Bool.eq_false_iff]
  intro hc
  have hc2:=hc
  simp [h] at hc2
 unfold OpenClaim.goesBy Program.goesAt Program.goesFrom
 rw [hs]
 cases hf:P.funcNamed c.func with
 | none=>rfl
 | some f=>simp [hgo]
theorem Zj0 {P:Program} {f:FuncId} {fn:Func} {s:ChangeSpec} {c:OpenClaim} (a1:c.wf (OpenSpec.ofChange s)=true) (a2:laidOutB P=true) (a3:mapsRowed P=true) (a4:fn.params.all (P.readableRec ·)=true) (a5:namedTie P c.named s.vars=true)
 (a6:((c.stops == []) && (P.stops == []) && (c.knobs == []) && (P.stopKnobs == []))=true)
 (h2:(c.inPlace == P.inPlace f)=true) (h3:(c.unfollowed == P.unfollowed f)=true) (h4:(c.recurses == P.recurses f)=true) (h5:(c.named == P.varsNamed f)=true)
 (h6 : ((c.maps == (fn.params.toList ++ s.plain.varTypes P).any (P.mapsRec ·)) && (c.ifaces == (fn.params.toList ++ s.plain.varTypes P).any (P.ifacesRec ·)) && (c.mapsOut == P.mapsAmong fn.resultTypes.toList) &&
   (c.loops == (fn.params.toList++s.plain.varTypes P).any (P.loopsFrom ·)) && (c.wideKeys == (fn.params.toList++s.plain.varTypes P++fn.resultTypes.toList).any (P.wideKeysFrom ·)) &&
   s.vars.all (P.varReadable ·) && fn.resultTypes.all (fun t=>P.readableRec t && decide (t<P.types.size)) && (c.ifacesOut == fn.resultTypes.toList.any (P.ifacesRec ·)) && (c.loopsOut == fn.resultTypes.toList.any (P.loopsFrom ·)) && (c.plainKeys == P.plainKeys) && c.shortTexts.isNone && P.stopsHeard && P.mayEnter && (c.lifted == P.liftsFinal) && (P.make == some c.make) && (c.kinds == (if c.domain.isEmpty then [] else fn.params.toList.map fun t=>match P.underlying t with|some (.int k)=>some k|_=>none)) && (c.pinned == c.pinnedBy) &&
   (c.veiled == (fn.params.toList++s.plain.varTypes P++fn.resultTypes.toList).any (P.veiledRec ·)) && c.veiledFits P fn.params.toList (fn.params.toList++s.plain.varTypes P++fn.resultTypes.toList))=true) :
 joinedFacts P f fn s c=true:=by
 simp only [Xi] at a6 h6
 unfold joinedFacts
 simp only [Xi]
 exact ⟨⟨⟨⟨⟨⟨⟨⟨⟨⟨⟨⟨⟨⟨⟨⟨⟨⟨⟨⟨⟨⟨⟨⟨⟨⟨⟨⟨⟨⟨⟨a1,a2⟩,a3⟩,a4⟩,a5⟩,a6.1.1.1⟩,a6.1.1.2⟩,a6.1.2⟩,a6.2⟩,h2⟩,h3⟩,h4⟩,h5⟩,h6.1.1.1.1.1.1.1.1.1.1.1.1.1.1.1.1.1.1⟩,h6.1.1.1.1.1.1.1.1.1.1.1.1.1.1.1.1.1.2⟩,h6.1.1.1.1.1.1.1.1.1.1.1.1.1.1.1.1.2⟩,h6.1.1.1.1.1.1.1.1.1.1.1.1.1.1.1.2⟩,h6.1.1.1.1.1.1.1.1.1.1.1.1.1.1.2⟩,h6.1.1.1.1.1.1.1.1.1.1.1.1.1.2⟩,h6.1.1.1.1.1.1.1.1.1.1.1.1.2⟩,h6.1.1.1.1.1.1.1.1.1.1.1.2⟩,h6.1.1.1.1.1.1.1.1.1.1.2⟩,h6.1.1.1.1.1.1.1.1.1.2⟩,h6.1.1.1.1.1.1.1.1.2⟩,h6.1.1.1.1.1.1.1.2⟩,h6.1.1.1.1.1.1.2⟩,h6.1.1.1.1.1.2⟩,h6.1.1.1.1.2⟩,h6.1.1.1.2⟩,h6.1.1.2⟩,h6.1.2⟩,h6.2⟩
end Go.Eng
namespace Go.Proofs.YtjdjdoefppebkaaGreatDoor
open Go Go.Eng Go.RowKit Go.Proofs Go.ChangeShapes Go.WideShapes Go.Deep
theorem Zq7:mapsRowed Tryz.prog=true:=by kernel_rfl
theorem Zh0:Tryz.prog.funcs.size=404:=by kernel_rfl
theorem ZeH:Z6f Tryz.prog 0 34=true:=by kernel_rfl
theorem ZeI:Z6f Tryz.prog 34 34=true:=by kernel_rfl
theorem ZeJ:Z6f Tryz.prog 68 34=true:=by kernel_rfl
theorem ZeK:Z6f Tryz.prog 102 34=true:=by kernel_rfl
theorem ZeL:Z6f Tryz.prog 136 34=true:=by kernel_rfl
theorem ZeM:Z6f Tryz.prog 170 34=true:=by kernel_rfl
theorem ZeN:Z6f Tryz.prog 204 34=true:=by kernel_rfl
theorem ZeO:Z6f Tryz.prog 238 34=true:=by kernel_rfl
theorem ZeP:Z6f Tryz.prog 272 34=true:=by kernel_rfl
theorem ZeQ:Z6f Tryz.prog 306 34=true:=by kernel_rfl
theorem Zcz:Z6f Tryz.prog 340 34=true:=by kernel_rfl
theorem ZcA:Z6f Tryz.prog 374 34=true:=by kernel_rfl
theorem Zq8:∀ g:Nat,(Tryz.prog.funcs[g]?).any Func.goes=false:=fun g=>by
 by_cases h:g<404
 by_cases h0:g<34
 exact Z15 ZeH (by omega) (by omega)
 by_cases h1:g<68
 exact Z15 ZeI (by omega) (by omega)
 by_cases h2:g<102
 exact Z15 ZeJ (by omega) (by omega)
 by_cases h3:g<136
 exact Z15 ZeK (by omega) (by omega)
 by_cases h4:g<170
 exact Z15 ZeL (by omega) (by omega)
 by_cases h5:g<204
 exact Z15 ZeM (by omega) (by omega)
 by_cases h6:g<238
 exact Z15 ZeN (by omega) (by omega)
 by_cases h7:g<272
 exact Z15 ZeO (by omega) (by omega)
 by_cases h8:g<306
 exact Z15 ZeP (by omega) (by omega)
 by_cases h9:g<340
 exact Z15 ZeQ (by omega) (by omega)
 by_cases h10:g<374
 exact Z15 Zcz (by omega) (by omega)
 exact Z15 ZcA (by omega) (by omega)
 rw [YaJ (by rw [Zh0];omega)]
 rfl
end Go.Proofs.YtjdjdoefppebkaaGreatDoor
