/-
Merged by program out of own texts: Vla3, Vla5, Pdy2, Eng4B, Vla6, Vla9.
-/
import Derived.Test.YtjdjdoefppebkaaGreatDoorM6
set_option linter.unusedVariables false
set_option linter.unusedSimpArgs false
namespace Go.Proofs.YtjdjdoefppebkaaGreatDoor
open Go Go.Eng Go.RowKit
theorem Zcw (v:Value) (l:List Int) (z:Int) (w:World) (hs:SlV [] w v l):CC 32 #[v,.int .i64 z] w fun r w'=>r=.bool (decide (z∈l))∧Stp [] w w':=by
 have hmax:=hs.max
 refine cW2 18 Tryz.func32 ?_
 refine W ?_
 refine Zv (σ:=Nat) (fun k=>[(0,v),(1,.int .i64 z),(5,.int .i64 (k:Int))]) (fun k w'=>k≤l.length∧Stp [] w w'∧∀ j (h:j<l.length),j<k→l[j]≠z) (fun k=>l.length - k) 0 ⟨rfl,rfl,rfl,trivial⟩ ⟨Xu _,Stp.refl _ _,fun j _ h=>absurd h (XB _)⟩ ?_
 rintro k w1 ⟨hk,hS,hno⟩
 replace hs:=hs.up hS
 by_cases hlt:k<l.length
 focus repeat'(first|refine W1 ?_|omega|refine VG ?_ ?_<;>intro hg|refine VC ?_ ?_<;>intro hc)
 refine WR ?_
 exact .mk ⟨by rw [decide_eq_true (by rw [← hc];exact Xh hlt)],hS⟩
 refine Zp (k+1) ⟨rfl,rfl,rfl,trivial⟩ ⟨hlt,hS,fun j h hj=>?_⟩ (by omega)
 by_cases e:j=k
 subst e;exact hc
 exact hno j h (by omega)
 focus repeat'(first|refine W1 ?_|omega|refine VG ?_ ?_<;>intro hg|refine VC ?_ ?_<;>intro hc)
 refine WR ?_
 exact .mk ⟨by
  rw [decide_eq_false]
  intro hm
  obtain ⟨j,hj,he⟩:=Xo hm
  exact hno j hj (by omega) he,hS⟩
theorem Z55 (z m:Int) (w:World) (hm:0≤m) (hm2:m≤4611686018427387903) (hz:I64 z):CC 17 #[.int .i64 z,.int .i64 m] w fun r w'=>∃ x:Int,r=.int .i64 x∧-m≤x∧x≤m∧Stp [] w w':=by
 refine cW2 12 Tryz.func17 ?_
 refine W ?_
 refine CL rfl (Zb rfl rfl) rfl (Zw z (2 * m+1) _ (by omega) hz) ?_
 rintro _ w1 ⟨rfl,hT⟩
 have hr:=Zs (if z<0 then -(z+1) else z) (2 * m+1) (by omega)
 generalize (if z<0 then -(z+1) else z) % (2 * m+1)=q at hr ⊢
 refine W ?_
 refine WR ?_
 exact .mk ⟨q - m,rfl,by omega,by omega,hT⟩
theorem Zcx (ev:List Int) (i:Nat) (hi:i<7) (v:Int) (hv:I64 v) (hev:Z1C ev) (w:World):CC 33 #[Z58 ev,.int .i64 (i:Int),.int .i64 v] w fun r w'=>∃ x:Int,r=Z58 (ev.set i x)∧Z1C (ev.set i x)∧Stp [] w w':=by
 have hlen:=hev.len
 match ev,hlen with
 | [a,b,c,d,e,f,g],_=>
 have e0:=hev.day
 have e1:=hev.served
 have e2:=hev.rest 2 (by omega) (by omega)
 have e3:=hev.rest 3 (by omega) (by omega)
 have e4:=hev.rest 4 (by omega) (by omega)
 have e5:=hev.rest 5 (by omega) (by omega)
 have e6:=hev.rest 6 (by omega) (by omega)
 simp only [Xq,Xy] at e0 e1 e2 e3 e4 e5 e6
 refine cW3 50 Tryz.func33 ?_
 refine W ?_
 refine Z3 (Zq rfl) rfl ?_
 rintro _ w1 ⟨b3,rfl,hb3,k3,hS⟩
 replace k3:Blk w1 b3 29 (evC [a,b,c,d,e,f,g]):=k3
 have lt3:=k3.lt
 refine Z3 Z6 rfl ?_
 rintro _ w2 ⟨b6,rfl,hb6,k6,hT⟩
 replace k3:=k3.up hT
 have gz:=hS.size
 replace hS:=hS.trans hT
 clear hT
 have ne:b3≠b6:=by omega
 have gb3:w.heap.size≤b3:=by omega
 have gb6:w.heap.size≤b6:=by omega
 have hv3:I64 (v.tmod 3):=by
  unfold I64 at hv ⊢
  have h1:=Int.natAbs_tmod v 3
  have h2:(v.tmod 3).natAbs<3:=by rw [h1];exact Nat.mod_lt _ (by decide)
  omega
 have hi7:i=0∨i=1∨i=2∨i=3∨i=4∨i=5∨i=6:=by omega
 rcases hi7 with rfl|rfl|rfl|rfl|rfl|rfl|rfl
 focus repeat'(first|refine W1 ?_|omega|refine VG ?_ ?_<;>intro hg|refine VC ?_ ?_<;>intro hc)
 refine CL rfl (Zb rfl rfl) rfl (Zw v 60 _ (by decide) hv) ?_
 rintro _ w3 ⟨rfl,hT⟩
 have hr:=Zs (if v<0 then -(v+1) else v) 60 (by decide)
 generalize (if v<0 then -(v+1) else v) % 60=q at hr ⊢
 replace k3:=k3.up hT
 replace k6:=k6.up hT
 replace hS:=hS.trans hT
 clear hT
 refine W ?_
 refine Z1 (Zc (u:=.int .i64 (739616+q)) rfl rfl rfl rfl k3 (by simp [evC])) ?_
 rintro _ w4 ⟨hT,k3⟩
 replace k3:Blk w4 b3 29 (evC ([a,b,c,d,e,f,g].set 0 (739616+q))):=k3
 replace k6:=k6.ext hT (by simpa using fun h:b6=b3=>ne h.symm)
 replace hS:=hS.own hT (fun q hq=>.inr (by simp at hq;omega))
 clear hT
 refine W ?_
 refine Z1 (Z2 (us:=evC ([a,b,c,d,e,f,g].set 0 (739616+q))) rfl rfl rfl rfl (JQ _) k6 rfl) ?_
 rintro _ wz ⟨hT,k6⟩
 replace hS:=hS.own hT (fun q hq=>.inr (by simp at hq;omega))
 refine W ?_
 refine Zk rfl rfl rfl k6 rfl ?_
 exact .mk ⟨739616+q,rfl,Z1x (by omega) e1 e2 e3 e4 e5 e6,hS⟩
 focus repeat'(first|refine W1 ?_|omega|refine VG ?_ ?_<;>intro hg|refine VC ?_ ?_<;>intro hc)
 refine CL rfl (Zb rfl rfl) rfl (Zw v 60 _ (by decide) hv) ?_
 rintro _ w3 ⟨rfl,hT⟩
 have hr:=Zs (if v<0 then -(v+1) else v) 60 (by decide)
 generalize (if v<0 then -(v+1) else v) % 60=q at hr ⊢
 replace k3:=k3.up hT
 replace k6:=k6.up hT
 replace hS:=hS.trans hT
 clear hT
 refine W ?_
 refine Z1 (Zc (u:=.int .i64 (739616+q)) rfl rfl rfl rfl k3 (by simp [evC])) ?_
 rintro _ w4 ⟨hT,k3⟩
 replace k3:Blk w4 b3 29 (evC ([a,b,c,d,e,f,g].set 1 (739616+q))):=k3
 replace k6:=k6.ext hT (by simpa using fun h:b6=b3=>ne h.symm)
 replace hS:=hS.own hT (fun q hq=>.inr (by simp at hq;omega))
 clear hT
 refine W ?_
 refine ZgK rfl rfl (by decide) hv3 rfl ?_
 focus repeat'(first|refine W1 ?_|omega|refine VG ?_ ?_<;>intro hg|refine VC ?_ ?_<;>intro hc)
 refine Z1 (Zc (u:=.int .i64 (-1)) rfl rfl rfl rfl k3 (by simp [evC])) ?_
 rintro _ w5 ⟨hT,k3⟩
 replace k3:Blk w5 b3 29 (evC ([a,b,c,d,e,f,g].set 1 (-1))):=k3
 replace k6:=k6.ext hT (by simpa using fun h:b6=b3=>ne h.symm)
 replace hS:=hS.own hT (fun q hq=>.inr (by simp at hq;omega))
 clear hT
 refine W ?_
 refine Z1 (Z2 (us:=evC ([a,b,c,d,e,f,g].set 1 (-1))) rfl rfl rfl rfl (JQ _) k6 rfl) ?_
 rintro _ wz ⟨hT,k6⟩
 replace hS:=hS.own hT (fun q hq=>.inr (by simp at hq;omega))
 refine W ?_
 refine Zk rfl rfl rfl k6 rfl ?_
 exact .mk ⟨-1,rfl,Z1x e0 (by omega) e2 e3 e4 e5 e6,hS⟩
 refine Z1 (Z2 (us:=evC ([a,b,c,d,e,f,g].set 1 (739616+q))) rfl rfl rfl rfl (JQ _) k6 rfl) ?_
 rintro _ wz ⟨hT,k6⟩
 replace hS:=hS.own hT (fun q hq=>.inr (by simp at hq;omega))
 refine W ?_
 refine Zk rfl rfl rfl k6 rfl ?_
 exact .mk ⟨739616+q,rfl,Z1x e0 (by omega) e2 e3 e4 e5 e6,hS⟩
 focus repeat'(first|refine W1 ?_|omega|refine VG ?_ ?_<;>intro hg|refine VC ?_ ?_<;>intro hc)
 refine CL rfl (Zb rfl rfl) rfl (Z55 v 1000 _ (by decide) (by decide) hv) ?_
 rintro _ w3 ⟨x,rfl,hr1,hr2,hT⟩
 replace k3:=k3.up hT
 replace k6:=k6.up hT
 replace hS:=hS.trans hT
 clear hT
 refine W ?_
 refine Z1 (Zc (u:=.int .i64 (x)) rfl rfl rfl rfl k3 (by simp [evC])) ?_
 rintro _ w4 ⟨hT,k3⟩
 replace k3:Blk w4 b3 29 (evC ([a,b,c,d,e,f,g].set 2 (x))):=k3
 replace k6:=k6.ext hT (by simpa using fun h:b6=b3=>ne h.symm)
 replace hS:=hS.own hT (fun q hq=>.inr (by simp at hq;omega))
 clear hT
 refine W ?_
 refine Z1 (Z2 (us:=evC ([a,b,c,d,e,f,g].set 2 (x))) rfl rfl rfl rfl (JQ _) k6 rfl) ?_
 rintro _ wz ⟨hT,k6⟩
 replace hS:=hS.own hT (fun q hq=>.inr (by simp at hq;omega))
 refine W ?_
 refine Zk rfl rfl rfl k6 rfl ?_
 exact .mk ⟨x,rfl,Z1x e0 e1 (by omega) e3 e4 e5 e6,hS⟩
 focus repeat'(first|refine W1 ?_|omega|refine VG ?_ ?_<;>intro hg|refine VC ?_ ?_<;>intro hc)
 refine CL rfl (Zb rfl rfl) rfl (Zw v 64 _ (by decide) hv) ?_
 rintro _ w3 ⟨rfl,hT⟩
 have hr:=Zs (if v<0 then -(v+1) else v) 64 (by decide)
 generalize (if v<0 then -(v+1) else v) % 64=q at hr ⊢
 replace k3:=k3.up hT
 replace k6:=k6.up hT
 replace hS:=hS.trans hT
 clear hT
 refine W ?_
 refine Z1 (Zc (u:=.int .i64 (q)) rfl rfl rfl rfl k3 (by simp [evC])) ?_
 rintro _ w4 ⟨hT,k3⟩
 replace k3:Blk w4 b3 29 (evC ([a,b,c,d,e,f,g].set 3 (q))):=k3
 replace k6:=k6.ext hT (by simpa using fun h:b6=b3=>ne h.symm)
 replace hS:=hS.own hT (fun q hq=>.inr (by simp at hq;omega))
 clear hT
 refine W ?_
 refine Z1 (Z2 (us:=evC ([a,b,c,d,e,f,g].set 3 (q))) rfl rfl rfl rfl (JQ _) k6 rfl) ?_
 rintro _ wz ⟨hT,k6⟩
 replace hS:=hS.own hT (fun q hq=>.inr (by simp at hq;omega))
 refine W ?_
 refine Zk rfl rfl rfl k6 rfl ?_
 exact .mk ⟨q,rfl,Z1x e0 e1 e2 (by omega) e4 e5 e6,hS⟩
 focus repeat'(first|refine W1 ?_|omega|refine VG ?_ ?_<;>intro hg|refine VC ?_ ?_<;>intro hc)
 refine CL rfl (Zb rfl rfl) rfl (Zw v 64 _ (by decide) hv) ?_
 rintro _ w3 ⟨rfl,hT⟩
 have hr:=Zs (if v<0 then -(v+1) else v) 64 (by decide)
 generalize (if v<0 then -(v+1) else v) % 64=q at hr ⊢
 replace k3:=k3.up hT
 replace k6:=k6.up hT
 replace hS:=hS.trans hT
 clear hT
 refine W ?_
 refine Z1 (Zc (u:=.int .i64 (q)) rfl rfl rfl rfl k3 (by simp [evC])) ?_
 rintro _ w4 ⟨hT,k3⟩
 replace k3:Blk w4 b3 29 (evC ([a,b,c,d,e,f,g].set 4 (q))):=k3
 replace k6:=k6.ext hT (by simpa using fun h:b6=b3=>ne h.symm)
 replace hS:=hS.own hT (fun q hq=>.inr (by simp at hq;omega))
 clear hT
 refine W ?_
 refine Z1 (Z2 (us:=evC ([a,b,c,d,e,f,g].set 4 (q))) rfl rfl rfl rfl (JQ _) k6 rfl) ?_
 rintro _ wz ⟨hT,k6⟩
 replace hS:=hS.own hT (fun q hq=>.inr (by simp at hq;omega))
 refine W ?_
 refine Zk rfl rfl rfl k6 rfl ?_
 exact .mk ⟨q,rfl,Z1x e0 e1 e2 e3 (by omega) e5 e6,hS⟩
 focus repeat'(first|refine W1 ?_|omega|refine VG ?_ ?_<;>intro hg|refine VC ?_ ?_<;>intro hc)
 refine CL rfl (Zb rfl rfl) rfl (Zw v 16 _ (by decide) hv) ?_
 rintro _ w3 ⟨rfl,hT⟩
 have hr:=Zs (if v<0 then -(v+1) else v) 16 (by decide)
 generalize (if v<0 then -(v+1) else v) % 16=q at hr ⊢
 replace k3:=k3.up hT
 replace k6:=k6.up hT
 replace hS:=hS.trans hT
 clear hT
 refine W ?_
 refine Z1 (Zc (u:=.int .i64 (q)) rfl rfl rfl rfl k3 (by simp [evC])) ?_
 rintro _ w4 ⟨hT,k3⟩
 replace k3:Blk w4 b3 29 (evC ([a,b,c,d,e,f,g].set 5 (q))):=k3
 replace k6:=k6.ext hT (by simpa using fun h:b6=b3=>ne h.symm)
 replace hS:=hS.own hT (fun q hq=>.inr (by simp at hq;omega))
 clear hT
 refine W ?_
 refine Z1 (Z2 (us:=evC ([a,b,c,d,e,f,g].set 5 (q))) rfl rfl rfl rfl (JQ _) k6 rfl) ?_
 rintro _ wz ⟨hT,k6⟩
 replace hS:=hS.own hT (fun q hq=>.inr (by simp at hq;omega))
 refine W ?_
 refine Zk rfl rfl rfl k6 rfl ?_
 exact .mk ⟨q,rfl,Z1x e0 e1 e2 e3 e4 (by omega) e6,hS⟩
 focus repeat'(first|refine W1 ?_|omega|refine VG ?_ ?_<;>intro hg|refine VC ?_ ?_<;>intro hc)
 refine CL rfl (Zb rfl rfl) rfl (Z55 v 2147483647 _ (by decide) (by decide) hv) ?_
 rintro _ w3 ⟨x,rfl,hr1,hr2,hT⟩
 replace k3:=k3.up hT
 replace k6:=k6.up hT
 replace hS:=hS.trans hT
 clear hT
 refine W ?_
 refine Z1 (Zc (u:=.int .i64 (x)) rfl rfl rfl rfl k3 (by simp [evC])) ?_
 rintro _ w4 ⟨hT,k3⟩
 replace k3:Blk w4 b3 29 (evC ([a,b,c,d,e,f,g].set 6 (x))):=k3
 replace k6:=k6.ext hT (by simpa using fun h:b6=b3=>ne h.symm)
 replace hS:=hS.own hT (fun q hq=>.inr (by simp at hq;omega))
 clear hT
 refine W ?_
 refine Z1 (Z2 (us:=evC ([a,b,c,d,e,f,g].set 6 (x))) rfl rfl rfl rfl (JQ _) k6 rfl) ?_
 rintro _ wz ⟨hT,k6⟩
 replace hS:=hS.own hT (fun q hq=>.inr (by simp at hq;omega))
 refine W ?_
 refine Zk rfl rfl rfl k6 rfl ?_
 exact .mk ⟨x,rfl,Z1x e0 e1 e2 e3 e4 e5 (by omega),hS⟩
theorem Zav {code:List Ins} {t n:Int} (h:Z57 code=(t,0)) (hn:(⟨4,n⟩:Ins)∈code):0≤n∧n<7:=by
 obtain ⟨_,_,sh,_,_,_,_,_,hgood⟩:=Z9g h
 obtain ⟨i,hi,hx⟩:=Xo hn
 obtain ⟨s,nx,hg⟩:=hgood i hi
 have hnx:=hg.next
 rw [show code.getD i ⟨0,0⟩=⟨4,n⟩ by rw [List.getD_eq_getElem?_getD,List.getElem?_eq_getElem hi,hx];rfl] at hnx
 unfold J5 at hnx
 dsimp only at hnx
 split at hnx
 rename_i hc
 obtain ⟨c1,-⟩:=hc
 simp [ZS] at c1
 omega
 cases hnx
theorem Zgw (v0 v1 v2:Value) (l0 l1 l2:List Int) (kd kz:Int) (er:Value) (m:Int) (zs:List Int) (w:World) (h0:SlV [] w v0 l0) (h1:SlV [] w v1 l1) (h2:SlV [] w v2 l2) (hi0:∀ a∈l0,I64 a) (hi1:∀ a∈l1,I64 a) (hi2:∀ a∈l2,I64 a) (hkd:I64 kd) (hkz:I64 kz) (hF:SlV [] w Z2l Z8) (hL:JY w) (hM:Z1S w) (hm:w.cell? ⟨2,0,none⟩=some (.int .i64 m)) (hv4:w.cell? ⟨5,0,none⟩=some er) (hev4:er=.nilIface∨∃ te pe,er=.iface te pe) (hzl:zs.length=7) (hz:∀ z∈zs,I64 z) :
 CC 9 #[Z9j v0 v1 v2 kd kz,.agg (zs.map fun z=>Value.int .i64 z).toArray] w fun r w'=>r=.bool true∧Stp [] w w':=by
 refine cW2 99 Tryz.func9 ?_
 refine W ?_
 refine Z3 (Zq rfl) rfl ?_
 rintro _ w1 ⟨b1,rfl,hb1,k1,hS⟩
 replace k1:Blk w1 b1 24 [v0,v1,v2,.int .i64 kd,.int .i64 kz]:=k1
 refine Z3 (Zq rfl) rfl ?_
 rintro _ w1b ⟨b2,rfl,hb2,k2,hT⟩
 replace k2:Blk w1b b2 83 (zs.map fun z=>Value.int .i64 z):=k2
 replace k1:=k1.up hT
 replace hS:=hS.trans hT
 clear hT
 refine W ?_
 refine CL rfl (Zr rfl) rfl (Z3F v0 v1 v2 l0 l1 l2 kd kz _ (h0.up hS) (h1.up hS) (h2.up hS) hi0 hi1 hi2 hkd hkz (hL.up hS) (hM.up hS)) ?_
 rintro _ w2 ⟨y,t,ky,ev,c,hv,cv,zo,zs_,hr,kn,rfl,hg,hky,hev,hcal,ho,hcs,hkn,hT⟩
 replace k1:=k1.up hT
 replace k2:=k2.up hT
 replace hS:=hS.trans hT
 clear hT
 have hone:=hky.one
 refine W ?_
 refine Z3 Z6 rfl ?_
 rintro _ w3 ⟨b3,rfl,hb3,k3,hA⟩
 have lt3:=k3.lt
 refine Z3 Z6 rfl ?_
 rintro _ w4 ⟨b4,rfl,hb4,k4,hT⟩
 have gz4:=hA.size
 replace k3:=k3.up hT
 replace hA:=hA.trans hT
 clear hT
 have lt4:=k4.lt
 refine Z3 Z6 rfl ?_
 rintro _ w5 ⟨b5,rfl,hb5,k5,hT⟩
 have gz5:=hA.size
 replace k3:=k3.up hT
 replace k4:=k4.up hT
 replace hA:=hA.trans hT
 clear hT
 refine Z1 (Z2 (us:=ndC y ky) rfl rfl rfl rfl (Zh hky) k3 rfl) ?_
 rintro _ w6 ⟨hT,k3⟩
 replace k4:=k4.ext hT (by simp;omega)
 replace k5:=k5.ext hT (by simp;omega)
 replace hA:=hA.own hT (fun c hc=>.inr (by simp at hc;omega))
 clear hT
 refine Z1 (Z2 (us:=evC ev) rfl rfl rfl rfl (JQ _) k4 rfl) ?_
 rintro _ w7 ⟨hT,k4⟩
 replace k3:=k3.ext hT (by simp;omega)
 replace k5:=k5.ext hT (by simp;omega)
 replace hA:=hA.own hT (fun c hc=>.inr (by simp at hc;omega))
 clear hT
 refine Z1 (Z2 (us:=J7 c hv cv zo zs_ hr) rfl rfl rfl rfl (Z03 hcal.hols.one hcal.clos.one ho) k5 rfl) ?_
 rintro _ w8 ⟨hT,k5⟩
 replace k3:=k3.ext hT (by simp;omega)
 replace k4:=k4.ext hT (by simp;omega)
 replace hA:=hA.own hT (fun c hc=>.inr (by simp at hc;omega))
 clear hT gz4 gz5
 replace hky:=hky.up hA
 replace hcal:=hcal.up hA
 replace k1:=k1.up hA
 replace k2:=k2.up hA
 replace hS:=hS.trans hA
 clear hA
 have hty:=hg.type
 have htn:Z9 y≠0:=by rw [hty];exact hg.ne
 have hn5:Zn y≤5:=hg.nest
 have hn16:Zn y≤16:=by omega
 refine W ?_
 refine CL rfl (Zr rfl) rfl (Z1k _ y _ (Xi hg.size (by decide)) ⟨ky,rfl,hky⟩ (hF.up hS)) ?_
 rintro _ w9 ⟨xv,rfl,hxv,hT⟩
 have hc0:=hxv [] (by simp)
 clear hxv
 replace k1:=k1.up hT
 replace k3:=k3.up hT
 replace k4:=k4.up hT
 replace k5:=k5.up hT
 replace hky:=hky.up hT
 replace hcal:=hcal.up hT
 replace k2:=k2.up hT
 replace hS:=hS.trans hT
 clear hT
 by_cases he:Z3h y=0
 · rw [if_pos he] at hc0
   rw [he]
   have hver:=Z68 he
   repeat'(first|refine W1 ?_|omega|refine VG ?_ ?_<;>intro hg|refine VC ?_ ?_<;>intro hc)
   all_goals try (exact absurd rfl (by assumption))
   refine CL rfl (Zr rfl) rfl (Zds y _ _ (Z8q y (Xi hg.size (by decide))) ⟨ky,rfl,hky⟩ (hF.up hS)) ?_
   rintro uv wu ⟨hur,hT⟩
   have hu:=hur.slv (X:=[]) (by simp)
   clear hur
   replace k1:=k1.up hT
   replace k3:=k3.up hT
   replace k4:=k4.up hT
   replace k5:=k5.up hT
   replace hky:=hky.up hT
   replace hcal:=hcal.up hT
   replace k2:=k2.up hT
   replace hc0:=hc0.up hT
   replace hS:=hS.trans hT
   clear hT
   refine W ?_
   have lt2:=k2.lt
   refine Z3 Z6 rfl ?_
   rintro _ wb ⟨b6,rfl,hb6,k6,hT⟩
   refine Z1 (Z2 (us:=evC ev) rfl rfl rfl rfl (JQ _) k6 rfl) ?_
   rintro _ wc ⟨hT2,k6⟩
   have hB:=Je hT hb6 hT2
   clear hT hT2
   refine W ?_
   refine Z0m (σ:=List Int) (fun _=>[(5,.pointer (some ⟨b3,0,none⟩)),(6,.pointer (some ⟨b4,0,none⟩)),(7,.pointer (some ⟨b5,0,none⟩)),(8,.int .i64 kn),(9,xv),(12,.pointer (some ⟨b6,0,none⟩))])
    (fun e2 w'=>Blk w' b6 29 (evC e2)∧Z1C e2∧(∀ j:Nat,j<7→(j:Int)∈Z1m y→e2.getD j 0=ev.getD j 0)∧Stp [] wu w') ?_ ?_
   refine Zv (σ:=Nat×List Int) (fun q=>[(3,.pointer (some ⟨b2,0,none⟩)),(11,uv),(5,.pointer (some ⟨b3,0,none⟩)),(6,.pointer (some ⟨b4,0,none⟩)),(7,.pointer (some ⟨b5,0,none⟩)),(8,.int .i64 kn),(9,xv),(12,.pointer (some ⟨b6,0,none⟩)),(13,.int .i64 (q.1:Int))])
    (fun q w'=>q.1≤7∧Blk w' b6 29 (evC q.2)∧Z1C q.2∧(∀ j:Nat,j<7→(j:Int)∈Z1m y→q.2.getD j 0=ev.getD j 0)∧Stp [] wu w') (fun q=>7 - q.1) (0,ev) ⟨rfl,rfl,rfl,rfl,rfl,rfl,rfl,rfl,rfl,trivial⟩ ⟨Xu _,k6,hev,fun _ _ _=>rfl,hB⟩ ?_
   clear k6 hB
   rintro ⟨i,e2⟩ wi ⟨hi,k6,hev2,hu2,hB⟩
   dsimp only at hi k6 hev2 hu2 ⊢
   by_cases hlt:i<7
   have hlt2:(i:Int)<7:=by omega
   focus repeat'(first|refine W1 ?_|omega|refine VG ?_ ?_<;>intro hg|refine VC ?_ ?_<;>intro hc)
   refine CL rfl (Zb rfl rfl) rfl (Zcw uv _ (i:Int) _ (hu.up hB)) ?_
   rintro _ wj ⟨rfl,hT⟩
   replace k6:=k6.up hT
   replace hB:=hB.trans hT
   clear hT
   by_cases hm:(i:Int)∈Z1m y
   · rw [decide_eq_true hm]
     repeat'(first|refine W1 ?_|omega|refine VG ?_ ?_<;>intro hg|refine VC ?_ ?_<;>intro hc)
     all_goals try (exact absurd rfl (by assumption))
     exact Zp (i+1,e2) ⟨rfl,rfl,rfl,rfl,rfl,rfl,rfl,rfl,rfl,trivial⟩ ⟨hlt,k6,hev2,hu2,hB⟩ (by dsimp only;omega)
   · rw [decide_eq_false hm]
     have k2':=k2.up hB
     have hiz:i<zs.length:=by omega
     have hzi:=hz _ (Xh hiz)
     have hci:(zs.map fun z=>Value.int .i64 z)[0+i * 1]?=some (.int .i64 zs[i]):=by simp [hiz]
     have nb:b2≠b6:=by omega
     have g6:wu.heap.size≤b6:=hb6
     repeat'(first|refine W1 ?_|omega|refine VG ?_ ?_<;>intro hg|refine VC ?_ ?_<;>intro hc)
     all_goals try (exact absurd rfl (by assumption))
     refine ZDr 7 [] [6] [(0,1),(1,0),(2,0),(3,0),(4,1),(5,2),(6,2)] (fun w1 hS1=>?_)
     replace k6:=k6.up hS1
     replace k2':=k2'.up hS1
     replace hB:=hB.trans hS1
     clear hS1
     refine D ?_
     refine WD_read rfl trivial (fun w' hS'=>Z1f rfl rfl ((k2'.up hS').cell hci)) rfl ?_
     refine WD_eff rfl trivial (Z5 rfl (Zu rfl rfl rfl) (Zcx e2 i hlt zs[i] hzi hev2 _)) (fun _ _ h=>h.choose_spec.2.2) rfl ?_
     rintro _ wk ⟨x,rfl,hok2,hT⟩
     replace k6:=k6.up hT
     replace hB:=hB.trans hT
     clear hT
     refine D ?_
     refine WD_late0 rfl trivial (Z2 (us:=evC (e2.set i x)) rfl rfl rfl rfl (JQ _) k6 rfl) rfl ?_
     rintro _ wl ⟨hT,k6⟩
     replace hB:=hB.own hT (fun q hq=>.inr (by simp at hq;subst hq;exact g6))
     clear hT
     refine D ?_
     refine W ?_
     refine Zp (i+1,e2.set i x) ⟨rfl,rfl,rfl,rfl,rfl,rfl,rfl,rfl,rfl,trivial⟩ ⟨hlt,k6,hok2,fun j hj hju=>?_,hB⟩ (by dsimp only;omega)
     have hji:j≠i:=fun h=>hm (by rw [← h];exact hju)
     rw [← hu2 j hj hju]
     simp only [List.getD_eq_getElem?_getD]
     rw [List.getElem?_set_ne (fun h=>hji h.symm)]
   have hi7:i=7:=by omega
   subst hi7
   focus repeat'(first|refine W1 ?_|omega|refine VG ?_ ?_<;>intro hg|refine VC ?_ ?_<;>intro hc)
   exact ZC e2 ⟨rfl,rfl,rfl,rfl,rfl,rfl,trivial⟩ ⟨k6,hev2,hu2,hB⟩
   rintro e2 wi ⟨k6,hev2,hu2,hB⟩
   have hfe:∀ n:Int,(⟨4,n⟩:Ins)∈J4 y→Z2v ev n=Z2v e2 n:=by
    intro n hn
    have hv:=Zav hver hn
    have hu3:=hu2 n.toNat (by omega) (by rw [ZaO,X2 hv.1];exact (by
     have:=(ZbG n.toNat (by omega) y htn).1 (by rw [X2 hv.1];exact hn)
     rw [X2 hv.1] at this
     exact this))
    unfold Z2v
    by_cases h1:n=1
    subst h1
    rw [show (1:Int).toNat=1 from rfl] at hu3 ⊢
    rw [hu3]
    rw [if_neg (fun h=>h1 h.1),if_neg (fun h=>h1 h.1),hu3]
   have hrun:=Z80 (o:=Zg c kn) hfe
   obtain ⟨ra,rb⟩:=Z69 (Zg c kn) ev hev y htn
   obtain ⟨rc,rd⟩:=Z69 (Zg c kn) e2 hev2 y htn
   replace k1:=k1.up hB
   replace k3:=k3.up hB
   replace k4:=k4.up hB
   replace k5:=k5.up hB
   replace hky:=hky.up hB
   replace hcal:=hcal.up hB
   replace hc0:=hc0.up hB
   replace hS:=hS.trans hB
   clear hB
   refine W ?_
   refine CL rfl (Z15 rfl rfl rfl rfl) rfl (Z1w xv (J4 y) (Z9 y) kn ev c hv cv zo zs_ hr _ hc0 hver hcal hev ho) ?_
   rintro _ wR ⟨pv,rfl,hp⟩
   have hsp:=hp.slv (X:=[]) (by simp)
   have hT:=hp.2
   clear hp
   replace k1:=k1.up hT
   replace k3:=k3.up hT
   replace k4:=k4.up hT
   replace k5:=k5.up hT
   replace hky:=hky.up hT
   replace hcal:=hcal.up hT
   replace hc0:=hc0.up hT
   replace k6:=k6.up hT
   replace hS:=hS.trans hT
   clear hT
   refine W ?_
   refine CL rfl (Z15 rfl rfl rfl rfl) rfl (Z2e _ y kn ev c hv cv zo zs_ hr _ ⟨ky,rfl,hky⟩ htn hn16 hcal hev ho) ?_
   rintro _ wE ⟨rfl,hT⟩
   replace k1:=k1.up hT
   replace k3:=k3.up hT
   replace k4:=k4.up hT
   replace k5:=k5.up hT
   replace hky:=hky.up hT
   replace hcal:=hcal.up hT
   replace hc0:=hc0.up hT
   replace k6:=k6.up hT
   replace hsp:=hsp.up hT
   replace hS:=hS.trans hT
   clear hT
   refine W ?_
   refine CL rfl (Z15 rfl rfl rfl rfl) rfl (Z2e _ y kn e2 c hv cv zo zs_ hr _ ⟨ky,rfl,hky⟩ htn hn16 hcal hev2 ho) ?_
   rintro _ wE ⟨rfl,hT⟩
   replace k1:=k1.up hT
   replace k3:=k3.up hT
   replace k4:=k4.up hT
   replace k5:=k5.up hT
   replace hky:=hky.up hT
   replace hcal:=hcal.up hT
   replace hc0:=hc0.up hT
   replace k6:=k6.up hT
   replace hsp:=hsp.up hT
   replace hS:=hS.trans hT
   clear hT
   rw [← ra,← rb,← rc,← rd,← hrun]
   refine W ?_
   refine CL rfl (ZjV rfl rfl rfl rfl rfl rfl rfl) rfl (Z6a xv pv (J4 y) (Z9 y) kn _ _ _ e2 _ hv cv zo zs_ hr _ hc0 hver hcal hev2 ho hsp hrun.symm) ?_
   rintro _ ws ⟨rfl,hT⟩
   replace hS:=hS.trans hT
   clear hT
   refine W ?_
   simp only [eq_self,decide_true]
   refine W ?_
   simp only [eq_self,decide_true]
   refine W ?_
   refine CL rfl Z3f rfl (JA er m _ (hL.up hS) (hM.up hS) (hS.cell (by simp) hm) (hS.cell (by simp) hv4) hev4) ?_
   rintro _ wl ⟨rfl,hT⟩
   replace hS:=hS.trans hT
   clear hT
   refine W ?_
   refine WR ?_
   exact .mk ⟨by simp,hS⟩
 · repeat'(first|refine W1 ?_|omega|refine VG ?_ ?_<;>intro hg|refine VC ?_ ?_<;>intro hc)
   all_goals try (exact absurd rfl (by assumption))
   refine CL rfl Z3f rfl (JA er m _ (hL.up hS) (hM.up hS) (hS.cell (by simp) hm) (hS.cell (by simp) hv4) hev4) ?_
   rintro _ wl ⟨rfl,hT⟩
   replace hS:=hS.trans hT
   clear hT
   refine W ?_
   refine WR ?_
   exact .mk ⟨rfl,hS⟩
theorem Z4N {p q:Int→Bool}:∀ (n:Nat) (a:Int),(∀ x,a≤x→x<a+n→p x=true→q x=true)→JF p a n≤JF q a n
 | 0,a,h=>Xm _
 | n + 1, a, h => by
   unfold JF
   have ih:=Z4N (p:=p) (q:=q) n (a+1) (fun x h1 h2=>h x (by omega) (by omega))
   by_cases hp:p a=true
   rw [if_pos hp,if_pos (h a (XN _) (by omega) hp)]
   omega
   rw [if_neg hp]
   omega
theorem Z5k (p q:Int→Bool):∀ (n:Nat) (a:Int),JF (fun d=>p d || q d) a n≤JF p a n+JF q a n
 | 0,a=>Xu _
 | n + 1, a => by
   unfold JF
   have ih:=Z5k p q n (a+1)
   cases p a<;>cases q a<;>simp<;>omega
theorem Z9s (p:Int→Bool):∀ (n:Nat) (a:Int),JF p a n+JF (fun d=>!p d) a n=n
 | 0,a=>rfl
 | n + 1, a => by
   unfold JF
   have ih:=Z9s p n (a+1)
   cases p a<;>simp<;>omega
theorem Z56 (x:Int):∀ (n:Nat) (a:Int),JF (fun d=>decide (d=x)) a n≤1
 | 0,a=>Xu _
 | n + 1, a => by
   unfold JF
   by_cases h:a=x
   rw [Z2f _ n (a+1) (fun y h1 h2=>by simp;omega)]
   split<;>omega
   rw [if_neg (by simpa using h)]
   have:=Z56 x n (a+1)
   omega
theorem Z6g:∀ (l:List Int) (n:Nat) (a:Int),JF (fun d=>decide (d∈l)) a n≤l.length
 | [],n,a=>by rw [Z2f _ n a (fun y h1 h2=>by simp)];exact Xu _
 | x :: l, n, a => by
   have h1:=Z4N (p:=fun d=>decide (d∈x :: l)) (q:=fun d=>decide (d=x) || decide (d∈l)) n a (fun y _ _ h=>by simpa using h)
   have h2:=Z5k (fun d=>decide (d=x)) (fun d=>decide (d∈l)) n a
   have h3:=Z56 x n a
   have h4:=Z6g l n a
   simp only [Xc]
   omega
theorem Z9t (p:Int→Bool) {n m:Nat} (h:n≤m) (a:Int):JF p a n≤JF p a m:=by
 obtain ⟨k,rfl⟩:∃ k,m=n+k:=⟨m - n,by omega⟩
 rw [Z1y]
 omega
def wkP (d:Int):Bool:=decide (d % 7=0∨d % 7=5∨d % 7=6)
theorem Zcy (a:Int):JF wkP a 7≤3:=by
 simp only [JF,wkP,decide_eq_true_eq]
 repeat' split
 all_goals omega
theorem Z73:∀ (m:Nat) (a:Int),JF wkP a (7 * m)≤3 * m
 | 0,a=>by simp [JF]
 | m + 1, a => by
   rw [show 7 * (m+1)=7+7 * m by omega,Z1y]
   have h1:=Zcy a
   have h2:=Z73 m (a+(7:Nat))
   omega
theorem Z6h {α β:Type} (f:α→List β) (k:Nat):∀ l:List α,(∀ x∈l,(f x).length≤k)→(l.flatMap f).length≤k * l.length
 | [],_=>by simp
 | x :: l, h => by
   have h1:=h x (by simp)
   have h2:=Z6h f k l (fun y hy=>h y (by simp [hy]))
   rw [Yas,Xd,Xc,Nat.mul_succ]
   omega
theorem Zaw {a d:Int} (ha:0≤a) (h:a≤d) (hn:d<a+2996) (hd:d≤3652058):(ofM a).y≤(ofM d).y∧(ofM d).y≤(ofM a).y+9:=by
 obtain ⟨_,_,_,_,_,_,_,_,s1,s2⟩:=Z6N ha (by omega:a≤3652058)
 obtain ⟨_,_,_,_,_,_,_,_,s3,s4⟩:=Z6N (by omega:0≤d) hd
 constructor
 by_cases hc:(ofM d).y+1≤(ofM a).y
 have:=Z0U hc
 omega
 omega
 by_cases hc:(ofM a).y+10≤(ofM d).y
 have h1:=Z0U hc
 have h2:Jt ((ofM a).y+1)+3285≤Jt ((ofM a).y+10):=by unfold Jt;omega
 omega
 omega
def Z2G (l:List Hol) (y:Int):List Int:=(List.range 12).flatMap fun (k:Nat)=>l.filterMap fun h=>Z13 h (y+(k:Int) - 1)
theorem Z9u (l:List Hol) (y:Int):(Z2G l y).length≤l.length * 12:=by
 have:=Z6h (fun (k:Nat)=>l.filterMap fun h=>Z13 h (y+(k:Int) - 1)) l.length (List.range 12) (fun k _=>List.length_filterMap_le _ _)
 rw [List.length_range] at this
 exact this
theorem Zgi {l:List Hol} {a d:Int} (ha:0≤a) (h:a≤d) (hn:d<a+2996) (hd:d≤3652058) (hh:Z3y l d=true):d∈Z2G l (ofM a).y:=by
 obtain ⟨n1,n2⟩:=Zaw ha h hn hd
 unfold Z3y at hh
 rw [Xg] at hh
 obtain ⟨y,hy,hx⟩:=XO.1 hh.2
 obtain ⟨x,hx1,hx2⟩:=XO.1 hx
 have hk:=of_decide_eq_true hx2
 have hy2:(ofM d).y - 1≤y∧y≤(ofM d).y+1:=by
  simp only [Xf,Xk,or_false] at hy
  omega
 unfold Z2G
 refine List.mem_flatMap.2 ⟨(y - (ofM a).y+1).toNat,Yat.2 (by omega),List.mem_filterMap.2 ⟨x,hx1,?_⟩⟩
 rw [show (ofM a).y+((y - (ofM a).y+1).toNat:Int) - 1=y by omega]
 exact hk
def Z2H (l:List Clo):List Int:=l.flatMap fun x=>[x.lo,x.lo+1,x.lo+2,x.lo+3,x.lo+4,x.lo+5]
theorem Zgj {l:List Clo} (hl:∀ x∈l,Z71 x) {kn d:Int} (h:Z6p l kn d=true):d∈Z2H l:=by
 obtain ⟨x,hx,h2⟩:=XO.1 h
 have h3:=of_decide_eq_true h2
 obtain ⟨_,_,_,c4,_,_⟩:=hl x hx
 unfold Z2H
 refine List.mem_flatMap.2 ⟨x,hx,?_⟩
 simp only [Xf,Xk,or_false]
 omega
theorem Z74 {c:Cal} (hc:Z72 c) (kn a:Int) (ha:0≤a) (hb:a+2996≤3652059):1001≤JF (Zg c kn) a 2996:=by
 obtain ⟨b0,b5,b6,hw⟩:=hc.wk
 have h0:=Z9s (Zg c kn) 2996 a
 have h1:JF (fun d=>!Zg c kn d) a 2996≤JF (fun d=>wkP d || ((decide (d∈Z2H c.clos)) || decide (d∈Z2G c.hols (ofM a).y))) a 2996:=by
  refine Z4N _ _ fun x h1 h2 hx=>?_
  have hi:ZD x=true:=by unfold ZD;simp;omega
  have hs:Z5M c kn x=true:=by
   simp only [Zg,hi,Bool.true_and,Bool.not_not] at hx
   exact hx
  unfold Z5M at hs
  rw [XU,XU] at hs
  rw [XU,XU]
  rcases hs with (hs|hs)|hs
  left
  rw [hw] at hs
  unfold wkP
  have h7:x % 7=0∨x % 7=1∨x % 7=2∨x % 7=3∨x % 7=4∨x % 7=5∨x % 7=6:=by omega
  rcases h7 with h|h|h|h|h|h|h<;>rw [h] at hs ⊢<;>first|decide|(exact absurd hs (fun h=>by cases h))
  right;left
  simpa using Zgj hc.cl hs
  right;right
  simpa using Zgi ha h1 (by omega) (by omega) hs
 have h2:=Z5k wkP (fun d=>(decide (d∈Z2H c.clos)) || decide (d∈Z2G c.hols (ofM a).y)) 2996 a
 have h3:=Z5k (fun d=>decide (d∈Z2H c.clos)) (fun d=>decide (d∈Z2G c.hols (ofM a).y)) 2996 a
 have h4:=Z73 428 a
 have h5:=Z6g (Z2H c.clos) 2996 a
 have h6:=Z6g (Z2G c.hols (ofM a).y) 2996 a
 have h7:=Z9u c.hols (ofM a).y
 have h8:=hc.h3
 have h9:(Z2H c.clos).length≤6 * c.clos.length:=Z6h _ 6 _ (fun x _=>by simp)
 have h10:=hc.c3
 rw [show 7 * 428=2996 from rfl] at h4
 omega
theorem Zcz {c:Cal} (hc:Z72 c) {kn a b r:Int} (h:Z0V (Zg c kn) a b=(r,0)):∀ s∈ZT 18 a b r,s.2≤s.1+3000:=by
 obtain ⟨h1,h2,h3,h4⟩:=Z3G h
 have hr:ZD r=true:=by
  have:=Z42 (opn:=Zg c kn) (d:=a) (n:=b) (by rw [h])
  rw [h] at this
  exact this
 rw [Zx] at h1 hr
 intro s hs
 unfold ZT at hs
 rw [if_neg (by decide),if_neg (by decide),if_pos rfl] at hs
 split at hs
 rename_i hb
 rw [if_neg (by omega)] at h4
 obtain ⟨g1,g2,-,-⟩:=Z7X _ _ _ _ h4
 simp at hs
 subst hs
 by_cases hl:2996≤(r - a).toNat
 have:=Z9t (Zg c kn) hl (a+1)
 have h5:=Z74 hc kn (a+1) (by omega) (by omega)
 omega
 show r≤a+1+3000
 omega
 split at hs
 rename_i hb0 hb
 rw [if_pos hb] at h4
 obtain ⟨g1,g2,-,-⟩:=Z7Y _ _ _ _ h4
 simp at hs
 subst hs
 by_cases hl:2996≤(a - r).toNat
 have:=Z9t (Zg c kn) hl r
 have h5:=Z74 hc kn r (by omega) (by omega)
 omega
 show a - 1≤r+3000
 omega
 simp at hs
theorem Zax {c:Cal} (hc:Z72 c) {kn:Int} {ev:List Int} {x:Ins} {a b:Int} (h:(ZH (Zg c kn) ev x a b).2=0):∀ s∈ZT x.op a b (ZH (Zg c kn) ev x a b).1,s.2≤s.1+3000:=by
 intro s hs
 by_cases h19:x.op=19
 have e:ZH (Zg c kn) ev x a b=ZF (Zg c kn) 1 b:=by unfold ZH;rw [h19];rfl
 rw [e] at h hs
 obtain ⟨f1,f2,_⟩:=Z6b (show ZF (Zg c kn) 1 b=((ZF (Zg c kn) 1 b).1,0) from Prod.ext rfl h)
 unfold ZT at hs
 rw [if_pos h19] at hs
 simp at hs
 subst hs
 dsimp only
 omega
 by_cases h20:x.op=20
 have e:ZH (Zg c kn) ev x a b=ZF (Zg c kn) (-1) b:=by unfold ZH;rw [h20];rfl
 rw [e] at h hs
 obtain ⟨f1,f2,_⟩:=Z6c (show ZF (Zg c kn) (-1) b=((ZF (Zg c kn) (-1) b).1,0) from Prod.ext rfl h)
 unfold ZT at hs
 rw [if_neg h19,if_pos h20] at hs
 simp at hs
 subst hs
 dsimp only
 omega
 by_cases h18:x.op=18
 have e:ZH (Zg c kn) ev x a b=Z0V (Zg c kn) a b:=by unfold ZH;rw [h18];rfl
 rw [e] at h hs
 rw [h18] at hs
 exact Zcz hc (Prod.ext rfl h) s hs
 unfold ZT at hs
 rw [if_neg h19,if_neg h20,if_neg h18] at hs
 simp at hs
theorem Z1z {o:Int→Bool} {ev:List Int} {C:List Ins} (Q:Spn→Prop) (hQ:∀ (x:Ins) (a b:Int),(ZH o ev x a b).2=0→∀ s∈ZT x.op a b (ZH o ev x a b).1,Q s):∀ (f i:Nat) (st:List Int) (sp:List Spn),(∀ s∈sp,Q s)→∀ s∈(Z0c o ev C f i st sp).2.1,Q s
 | 0,i,st,sp,h=>by simp [Z0c]
 | f + 1, i, st, sp, h => by
   rw [Z0c]
   split
   exact h
   split
   exact Z1z Q hQ f _ _ _ h
   split
   exact Z1z Q hQ f _ _ _ h
   split
   rename_i he
   refine Z1z Q hQ f _ _ _ fun s hs=>?_
   rcases Xn.1 hs with h1|h1
   exact h s h1
   exact hQ _ _ _ he s h1
   simp
theorem Z81 {c:Cal} (hc:Z72 c) (kn:Int) (ev:List Int) (C:List Ins):∀ s∈(J1 (Zg c kn) ev C).2.1,s.2≤s.1+3000:=Z1z (fun s=>s.2≤s.1+3000) (fun _ _ _ h=>Zax hc h) _ _ _ _ (by simp)
def Z9v (s:Spn):Prop:=0≤s.1∧s.1≤3652059∧-1≤s.2∧s.2≤3652058
theorem Zep {o:Int→Bool} {ev:List Int} {x:Ins} {a b:Int} (h:(ZH o ev x a b).2=0):∀ s∈ZT x.op a b (ZH o ev x a b).1,Z9v s:=by
 intro s hs
 unfold Z9v
 by_cases h19:x.op=19
 have e:ZH o ev x a b=ZF o 1 b:=by unfold ZH;rw [h19];rfl
 rw [e] at h hs
 obtain ⟨f1,f2⟩:=Z0W h
 rw [Zx] at f1 f2
 unfold ZT at hs
 rw [if_pos h19] at hs
 simp at hs
 subst hs
 dsimp only
 omega
 by_cases h20:x.op=20
 have e:ZH o ev x a b=ZF o (-1) b:=by unfold ZH;rw [h20];rfl
 rw [e] at h hs
 obtain ⟨f1,f2⟩:=Z0W h
 rw [Zx] at f1 f2
 unfold ZT at hs
 rw [if_neg h19,if_pos h20] at hs
 simp at hs
 subst hs
 dsimp only
 omega
 by_cases h18:x.op=18
 have e:ZH o ev x a b=Z0V o a b:=by unfold ZH;rw [h18];rfl
 rw [e] at h hs
 have f1:=Z42 h
 obtain ⟨f2,-,-,-⟩:=Z3G (show Z0V o a b=((Z0V o a b).1,0) from Prod.ext rfl h)
 rw [Zx] at f1 f2
 unfold ZT at hs
 rw [if_neg h19,if_neg h20,if_pos h18] at hs
 split at hs
 simp at hs
 subst hs
 dsimp only
 omega
 split at hs
 simp at hs
 subst hs
 dsimp only
 omega
 simp at hs
 unfold ZT at hs
 rw [if_neg h19,if_neg h20,if_neg h18] at hs
 simp at hs
theorem Zay (o:Int→Bool) (ev:List Int) (C:List Ins):∀ s∈(J1 o ev C).2.1,Z9v s:=Z1z Z9v (fun _ _ _ h=>Zep h) _ _ _ _ (by simp)
end Go.Proofs.YtjdjdoefppebkaaGreatDoor
namespace Go.EngB
open Go Go.Eng Go.RowKit Go.Proofs
structure StpB (S:Nat×List Nat) (w w':World):Prop where
 os:w'.os=w.os
 tape:w'.tape=w.tape
 output:w'.output=w.output
 size:w.heap.size≤w'.heap.size
 block:∀ b,b<S.1→b∉S.2→w'.heap[b]?=w.heap[b]?
theorem StpB.refl (S:Nat×List Nat) (w:World):StpB S w w:=⟨rfl,rfl,rfl,Xm _,fun _ _ _=>rfl⟩
theorem StpB.trans {S:Nat×List Nat} {a b c:World} (h:StpB S a b) (k:StpB S b c):StpB S a c:=
 ⟨k.os.trans h.os,k.tape.trans h.tape,k.output.trans h.output,Xi h.size k.size,fun x hx hn=>(k.block x hx hn).trans (h.block x hx hn)⟩
theorem StpB.of {B:Nat} {S:List Nat} {w w':World} (h:Stp S w w') (hB:B≤w.heap.size) (hS:∀ b∈S,B≤b):StpB (B,[]) w w':=
 ⟨h.os,h.tape,h.output,h.size,fun b hb _=>h.block b (Xa hb hB) (fun hm=>by have:=hS b hm;omega)⟩
theorem StpB.blk {B b T:Nat} {cs:List Value} {w w':World} (h:StpB (B,[]) w w') (hb:Blk w b T cs) (hl:b<B):Blk w' b T cs:=by
 unfold Blk at *
 rw [h.block b hl (by simp)]
 exact hb
section any
variable {P:Program} {ops:Array Oper} {md:Region.Mode} {S:Nat×List Nat} {Lt:Nat→Bool}
theorem wp_noQ {o:Oper} {a:Act} {w:World} {K:Act→World→Prop} {Q:Exit→Act→World→Prop} (h:o.wp P a w K (fun _ _ _=>False)):o.wp P a w K Q:=by
 unfold Oper.wp at *
 generalize (execOp a.eval o).run P w=r at *
 cases r with
 | ok n w'=>
   cases n<;>simp only [Oper.upon] at h ⊢
   case enter f args=>
    refine Calls.mono h (fun e w'' he=>?_)
    cases e with
    | returned v=>exact he
    | panicked c=>exact he.elim
    | outgrown=>obtain ⟨_,_,hf⟩:=he;exact hf.elim
   all_goals exact h
 | halt x w'=>cases x<;>simp only [Oper.upon] at h
theorem wpOp_noQ {i:Nat} {K:Act→World→Prop} {Q:Exit→Act→World→Prop} {a:Act} {w:World} (h:wpOp P ops (fun _ _ _=>False) i K a w):wpOp P ops Q i K a w:=by
 unfold wpOp at *
 cases ho:ops[i]? with
 | none=>simp only [ho] at h ⊢;exact h
 | some o=>
   simp only [ho] at h ⊢
   split
   rename_i hw
   simp only [hw,if_true] at h
   rcases h with h|⟨_,_,_,hf⟩
   exact .inl (wp_noQ h)
   exact hf.elim
   rename_i hw;simp only [hw] at h;exact h
def wpAnyE (P:Program) (md:Region.Mode) (ops:Array Oper) (S:Nat×List Nat) (Lt:Nat→Bool) (Z:Act→World→Prop):Nat→Array Bool→Act→World→Prop
 | 0,listed,a,w=>Region.ready md ops listed=[]∧Z a w
 | fuel + 1, listed, a, w=>
   (Region.ready md ops listed=[]→Z a w)∧
   ∀ i∈Region.ready md ops listed,wpOp P ops (fun _ _ _=>False) i (fun a' w'=>(StpB S w w'∨Lt i=true)∧wpAnyE P md ops S Lt Z fuel (listed.setIfInBounds i true) a' w') a w
theorem wpAny_of_E {Z:Act→World→Prop} {Q:Exit→Act→World→Prop} (hZ:∀ a w,Z a w→Q .normal a w):∀ (fuel:Nat) (listed:Array Bool) (a:Act) (w:World),
 wpAnyE P md ops S Lt Z fuel listed a w→wpAny P md ops Q fuel listed a w
 | 0,_,_,_,h=>⟨h.1,hZ _ _ h.2⟩
 | fuel+1,_,_,_,h=>⟨fun h0=>hZ _ _ (h.1 h0),fun i hi=>wpOp_mono (fun a' w' hk=>wpAny_of_E hZ fuel _ a' w' hk.2) (wpOp_noQ (h.2 i hi))⟩
def YE (P:Program) (ops:Array Oper) (R:World→World→Prop) (o:Oper) (v:Value) (a:Act) (w:World):Prop:=
 (Region.wanted o (yielded ops a.tmps)=true∧∀ w',R w w'→(execOp a.eval o).run P w'=.ok (.value v) w')∨
 (Region.wanted o (yielded ops a.tmps)=false∧v=undef)
theorem YE.same {R:World→World→Prop} {o:Oper} {v:Value} {a a':Act} {w:World} (hy:YE P ops R o v a w) (he:execOp a'.eval o=execOp a.eval o)
 (hw:Region.wanted o (yielded ops a'.tmps)=Region.wanted o (yielded ops a.tmps)):YE P ops R o v a' w:=by
 unfold YE at *
 rw [he,hw]
 exact hy
theorem first_E {Z:Act→World→Prop} {R:World→World→Prop} (hR0:∀ w,R w w) (hRt:∀ a b c,R a b→R b c→R a c) {i:Nat} {oi:Oper} {v:Value} (hi:ops[i]?=some oi)
 (hRs:∀ j oj,ops[j]?=some oj→(∀ e∈oj.after,Region.binds md e=true→e.on≠i)→j≠i→∀ w w',(StpB S w w'∨Lt j=true)→R w w')
 (hsel:∀ (j:Nat) (o:Oper) cs b,ops[j]?=some o→o.op≠.select cs b) :
 ∀ (fuel : Nat) (listed : Array Bool) (a : Act) (w : World),
   (∀ j oj,ops[j]?=some oj→j≠i→listed.getD j true=false→(∀ e∈oj.after,Region.binds md e=true→e.on≠i)→oi.apart ops oj=true)→
   (StpB S w w∨Lt i=true→True)→i∈Region.ready md ops listed→YE P ops R oi v a w→
   wpAnyE P md ops S Lt Z fuel (listed.setIfInBounds i true) (a.put oi.dst v) w→wpAnyE P md ops S Lt Z (fuel+1) listed a w:=by
 have now:∀ (fuel:Nat) (listed:Array Bool) (a:Act) (w:World),YE P ops R oi v a w→wpAnyE P md ops S Lt Z fuel (listed.setIfInBounds i true) (a.put oi.dst v) w→
  wpOp P ops (fun _ _ _=>False) i (fun a' w'=>(StpB S w w'∨Lt i=true)∧wpAnyE P md ops S Lt Z fuel (listed.setIfInBounds i true) a' w') a w:=by
  intro fuel listed a w hy H
  unfold wpOp
  simp only [hi]
  rcases hy with ⟨hw,hv⟩|⟨hw,rfl⟩
  simp only [hw,if_true,Oper.wp,hv w (hR0 w),Oper.upon];exact .inl ⟨.inl (StpB.refl _ _),H⟩
  simp only [hw,XE,if_false];exact ⟨.inl (StpB.refl _ _),H⟩
 intro fuel
 induction fuel with
 | zero=>
   intro listed a w _ _ hr hy H
   refine ⟨fun h=>(by rw [h] at hr;cases hr),fun j hj=>?_⟩
   by_cases hji:j=i
   subst hji;exact now _ _ _ _ hy H
   have:=ready_mono hj hji
   rw [H.1] at this
   cases this
 | succ fuel ih=>
   intro listed a w hfree hx hr hy H
   refine ⟨fun h=>(by rw [h] at hr;cases hr),fun j hj=>?_⟩
   by_cases hji:j=i
   subst hji;exact now _ _ _ _ hy H
   have h1:=H.2 j (ready_mono hj hji)
   obtain ⟨hjun,oj,hoj,hall⟩:=mem_ready.1 hj
   have hnot:∀ e∈oj.after,Region.binds md e=true→e.on≠i:=fun e he hb heq=>by
    have h1:=hall e he hb
    have h0:=(mem_ready.1 hr).1
    rw [heq] at h1
    rcases X8 i listed.size with h'|h'
    simp [h'] at h0 h1;rw [h0] at h1;cases h1
    simp [Array.getElem?_eq_none h'] at h1
   have hap:=hfree j oj hoj hji hjun hnot
   obtain ⟨p1,p2,p3⟩:=Oper.apart_spec hap
   have keep:∀ (a:Act),YE P ops R oi v a w→∀ u,YE P ops R oi v (a.put oj.dst u) w:=fun a hy u=>
    hy.same (execOp_put oi (fun cs b=>hsel i oi cs b hi) a oj.dst u p3) (wanted_put oi a oj.dst u p3)
   have keepD:∀ (a:Act) d,YE P ops R oi v a w→YE P ops R oi v { a with defers:=d :: a.defers } w:=fun a d hy=>hy.same rfl rfl
   have later:∀ (a:Act) w',(StpB S w w'∨Lt j=true)→YE P ops R oi v a w→YE P ops R oi v a w':=fun a w' hs hy=>by
    rcases hy with ⟨hw,hv⟩|hw
    exact .inl ⟨hw,fun w'' h''=>hv w'' (hRt _ _ _ (hRs j oj hoj hnot hji w w' hs) h'')⟩
    exact .inr hw
   have hfree':∀ k ok,ops[k]?=some ok→k≠i→(listed.setIfInBounds j true).getD k true=false→
    (∀ e∈ok.after,Region.binds md e=true→e.on≠i)→oi.apart ops ok=true:=fun k ok hk hki hun hno=>by
    refine hfree k ok hk hki ?_ hno
    by_cases hjk:j=k
    subst hjk;exact hjun
    rw [getD_set_ne true hjk] at hun;exact hun
   have fin:∀ a' w',YE P ops R oi v a' w→(StpB S w w'∨Lt j=true)∧wpAnyE P md ops S Lt Z fuel ((listed.setIfInBounds i true).setIfInBounds j true) (a'.put oi.dst v) w'→
    (StpB S w w'∨Lt j=true)∧wpAnyE P md ops S Lt Z (fuel+1) (listed.setIfInBounds j true) a' w':=by
    rintro a' w' hy' ⟨hs,hk⟩
    refine ⟨hs,ih _ a' w' hfree' (fun _=>trivial) (ready_mono hr (Ne.symm hji)) (later a' w' hs hy') ?_⟩
    rw [Yam _ _ hji]
    exact hk
   have hsj:∀ cs b,oj.op≠.select cs b:=fun cs b=>hsel j oj cs b hoj
   unfold wpOp at *
   simp only [hoj] at *
   rw [wanted_put oj a oi.dst v p1] at h1
   split
   · rename_i hw
     simp only [hw,if_true] at h1
     rcases h1 with h1|⟨_,_,_,hf⟩
     case inr=>exact hf.elim
     refine .inl ?_
     unfold Oper.wp at *
     rw [execOp_put oj hsj a oi.dst v p1] at h1
     generalize (execOp a.eval oj).run P w=r at *
     cases r with
     | ok n w'=>
       cases n<;>simp only [Oper.upon] at h1 ⊢
       case value u=>exact fin _ _ (keep a hy u) (by rw [← Act.put_comm a v u p2];exact h1)
       case skip=>exact fin _ _ (keep a hy _) (by rw [← Act.put_comm a v undef p2];exact h1)
       case defer d=>
        refine fin _ _ (keep _ (keepD a d hy) _) ?_
        rw [← Act.put_comm _ v undef p2,← Act.put_defers]
        exact h1
       case enter f args=>
        refine Calls.mono h1 fun e w'' he=>?_
        cases e with
        | returned u=>exact fin _ _ (keep a hy u) (by rw [← Act.put_comm a v u p2];exact he)
        | panicked c=>exact he
        | outgrown=>exact he
       case row row args=>exact Rows.mono h1 fun u w'' he=>fin _ _ (keep a hy u) (by rw [← Act.put_comm a v u p2];exact he)
     | halt x w'=>
       cases x<;>simp only [Oper.upon] at h1
   rename_i hw
   simp only [hw] at h1
   exact fin _ _ (keep a hy _) (by rw [← Act.put_comm a v undef p2];exact h1)
end any
def bound (ops:Array Oper) (Lt:List Nat) (i:Nat):Bool:=
 Lt.all fun j=>j == i || (match ops[j]? with|some oj=>oj.after.any (fun e=>Region.binds .any e && e.on == i)|none=>true)
def bits (m:Nat):List Nat:=(List.range 64).filter (fun j=>m.testBit j)
def subs:List Nat→List (List Nat)
 | []=>[[]]
 | x :: r=>subs r++(subs r).map (x :: ·)
def lst (listed:Array Bool) (is rem:List Nat):Array Bool:=Array.ofFn (n:=listed.size) fun j=>listed[j] || (is.contains j.val && !rem.contains j.val)
def wt:List (Nat×Nat)→Nat
 | []=>0
 | (_,k) :: r=>(if k<100000 then 1 else (bits (k - 100000)).length)+wt r
theorem wt_small {i k:Nat} {r:List (Nat×Nat)} (h:k<100000):wt ((i,k) :: r)=wt r+1:=by simp [wt,h];omega
def checkS (ops:Array Oper) (Lt:List Nat):List (Nat×Nat)→Option Nat→Array Bool→Bool
 | [],sk,listed=>sk.isNone && (Region.ready .any ops listed).isEmpty
 | (i,0) :: r,sk,listed=>(Region.ready .any ops listed).contains i && Region.free .any ops listed i && checkS ops Lt r sk (listed.setIfInBounds i true)
 | (i,1) :: r,sk,listed=>(Region.ready .any ops listed).contains i && Region.free .any ops listed i && bound ops Lt i && checkS ops Lt r sk (listed.setIfInBounds i true)
 | (i,2) :: r,sk,listed=>if sk=some i then checkS ops Lt r none listed else Region.ready .any ops listed == [i] && checkS ops Lt r sk (listed.setIfInBounds i true)
 | (i, q + 3) :: r, sk, listed => if sk = some q ∧ q + 3 < 100000 then (Region.ready .any ops listed == [i] && checkS ops Lt r sk (listed.setIfInBounds i true)) else sk.isNone && if q + 3 < 100000 then (Region.ready .any ops listed == [i, q] && checkS ops Lt r none (listed.setIfInBounds i true) && Region.ready .any ops (listed.setIfInBounds q true) == [i] && checkS ops Lt r (some q) ((listed.setIfInBounds q true).setIfInBounds i true))
   else (subs (bits (q+3 - 100000))).all (fun rem=>rem.isEmpty || Region.ready .any ops (lst listed (bits (q+3 - 100000)) rem) == rem) && checkS ops Lt r none (lst listed (bits (q+3 - 100000)) [])
def checkD (ops:Array Oper) (Lt:List Nat) (ord:List (Nat×Nat)) (listed:Array Bool):Bool:=checkS ops Lt ord none listed
def delO (q:Nat):List (Nat×Nat)→List (Nat×Nat)
 | []=>[]
 | (i,2) :: r=>if i=q then r else (i,2) :: delO q r
 | (i,0) :: r=>(i,0) :: delO q r
 | (i,1) :: r=>(i,1) :: delO q r
 | (i,k+3) :: r=>if k=q∧k+3<100000 then (i,2) :: delO q r else (i,k+3) :: delO q r
theorem checkS_del {ops:Array Oper} {Lt:List Nat} {q:Nat}:∀ (r:List (Nat×Nat)) (listed:Array Bool),checkS ops Lt r (some q) listed=true→checkS ops Lt (delO q r) none listed=true∧wt r=wt (delO q r)+1
 | [],listed,h=>by simp [checkS] at h
 | (i, 0) :: r, listed, h => by
   simp only [checkS,Xg] at h
   obtain ⟨h1,h2⟩:=checkS_del r _ h.2
   simp only [delO,checkS,Xg]
   exact ⟨⟨h.1,h1⟩,by simp [wt,h2];omega⟩
 | (i, 1) :: r, listed, h => by
   simp only [checkS,Xg] at h
   obtain ⟨h1,h2⟩:=checkS_del r _ h.2
   simp only [delO,checkS,Xg]
   exact ⟨⟨h.1,h1⟩,by simp [wt,h2];omega⟩
 | (i, 2) :: r, listed, h => by
   by_cases e:i=q
   subst e
   simp only [checkS,if_pos] at h
   simp only [delO,if_pos]
   exact ⟨h,by simp [wt];omega⟩
   have e':¬ (some q=some i):=by simpa using fun h=>e h.symm
   simp only [checkS,if_neg e',Xg] at h
   obtain ⟨h1,h2⟩:=checkS_del r _ h.2
   simp only [delO,if_neg e,checkS]
   refine ⟨?_,by simp [wt,h2];omega⟩
   rw [if_neg (by simp)]
   simp only [Xg]
   exact ⟨h.1,h1⟩
 | (i, k + 3) :: r, listed, h => by
   by_cases e:k=q∧k+3<100000
   simp only [checkS] at h
   rw [if_pos ⟨by rw [e.1],e.2⟩] at h
   simp only [Xg] at h
   obtain ⟨h1,h2⟩:=checkS_del r _ h.2
   simp only [delO,if_pos e,checkS]
   refine ⟨?_,by rw [wt_small e.2,wt_small (by decide),h2]⟩
   rw [if_neg (by simp)]
   simp only [Xg]
   exact ⟨h.1,h1⟩
   simp only [checkS] at h
   rw [if_neg (fun h'=>e ⟨(XG h'.1).symm,h'.2⟩)] at h
   simp at h
structure WD (P:Program) (n:Nat) (ops:Array Oper) (S:Nat×List Nat) (Lt:List Nat) (Q:Exit→Act→World→Prop) (ord:List (Nat×Nat)) (e:Env) (w:World):Prop where
 h:∀ listed:Array Bool,Region.noSelect ops=true→checkD ops Lt ord listed=true→∀ a,Has n e a→wpAnyE P .any ops S (fun j=>Lt.contains j) (fun a w=>Q .normal a w) (wt ord) listed a w
section rules
variable {P:Program} {n:Nat} {Q:Exit→Act→World→Prop} {e:Env} {w:World} {ops:Array Oper} {S:Nat×List Nat} {Lt:List Nat} {rest:List (Nat×Nat)}
theorem WC_drawn {id:Nat} {l:List Oper} (m:Nat) (S:Nat×List Nat) (Lt:List Nat) (ord:List (Nat×Nat)) (hlm:l.length=m) (hm:P.follows .mixedOrders=true) (hs:Region.noSelect l.toArray=true) (hl:Nat.beq (wt ord) l.length=true)
 (hB:checkD l.toArray Lt ord (Array.replicate m false)=true)
 (h:∀ w',Stp [] w w'→WD P n l.toArray S Lt Q ord e w'):WC P n (.region id l.toArray true) Q e w:=by
 subst hlm
 refine ⟨fun a ha=>wp_region_any hm ?_⟩
 have h1:=(h { w with drawn:=w.drawn+1 } (Stp.drew [] w)).h _ hs hB a ha
 have h2:=wpAny_of_E (Q:=Q) (fun a w hz=>hz) _ _ _ _ h1
 rw [XY hl] at h2
 simpa using h2
theorem WD_nil (h:WQ n Q .normal e w):WD P n ops S Lt Q [] e w:=
 ⟨fun _ _ hB a ha=>⟨by simpa [checkD,checkS] using hB,h.h a ha⟩⟩
def gdOk (ops:Array Oper) (e:Env):Option (Nat×Bool)→Prop
 | none=>True
 | some (j,b)=>yld ops e j=some (.bool b)
theorem wanted_ok {o:Oper} {a:Act} (ha:Has n e a) (hg:gdOk ops e o.guard):Region.wanted o (yielded ops a.tmps)=true:=by
 unfold Region.wanted
 cases hgd:o.guard with
 | none=>rfl
 | some jb=>
   obtain ⟨j,b⟩:=jb
   rw [hgd] at hg
   simp [Z3m ha hg]
theorem WD_step0 {i d:Nat} {o:Oper} {v:Value} (hi:ops[i]?=some o) (hd:o.dst=some d) (hY:∀ a,Has n e a→YE P ops (fun _ _=>True) o v a w) (hdn:Nat.blt d n=true)
 (k:WD P n ops S Lt Q rest ((d,v) :: e) w):WD P n ops S Lt Q ((i,0) :: rest) e w:=by
 refine ⟨fun listed hs hB a ha=>?_⟩
 simp only [checkD,checkS,Xg] at hB
 obtain ⟨⟨h1,h2⟩,h3⟩:=hB
 have hk:=k.h _ hs h3 _ (ha.put (v:=v) hdn)
 rw [← hd] at hk
 rw [wt_small (by decide)]
 exact first_E (R:=fun _ _=>True) (fun _=>trivial) (fun _ _ _ _ _=>trivial) hi (fun _ _ _ _ _ _ _ _=>trivial) (Region.noSelect_spec hs) _ _ _ _ (Region.free_spec hi h2) (fun _=>trivial) (by simpa using h1) (hY a ha) hk
theorem bound_spec {i j:Nat} {oj:Oper} (hb:bound ops Lt i=true) (hj:ops[j]?=some oj) (hn:∀ e∈oj.after,Region.binds .any e=true→e.on≠i) (hji:j≠i):Lt.contains j=false:=by
 cases hc:Lt.contains j with
 | false=>rfl
 | true=>
   have hm:j∈Lt:=by simpa using hc
   have:=(Xv.1 hb) j hm
   simp only [hj,XU,beq_iff_eq,hji,false_or] at this
   obtain ⟨e,he,hbe⟩:=Array.any_eq_true'.1 this
   simp only [Xg,beq_iff_eq] at hbe
   exact absurd hbe.2 (hn e he hbe.1)
theorem WD_step1 {i d:Nat} {o:Oper} {v:Value} (hi:ops[i]?=some o) (hd:o.dst=some d) (hY:∀ a,Has n e a→YE P ops (StpB S) o v a w) (hdn:Nat.blt d n=true)
 (k:WD P n ops S Lt Q rest ((d,v) :: e) w):WD P n ops S Lt Q ((i,1) :: rest) e w:=by
 refine ⟨fun listed hs hB a ha=>?_⟩
 simp only [checkD,checkS,Xg] at hB
 obtain ⟨⟨⟨h1,h2⟩,hb⟩,h3⟩:=hB
 have hk:=k.h _ hs h3 _ (ha.put (v:=v) hdn)
 rw [← hd] at hk
 rw [wt_small (by decide)]
 refine first_E (R:=StpB S) (fun w=>StpB.refl _ w) (fun _ _ _ h k=>h.trans k) hi (fun j oj hj hn hji w w' hs=>?_) (Region.noSelect_spec hs) _ _ _ _ (Region.free_spec hi h2) (fun _=>trivial) (by simpa using h1) (hY a ha) hk
 rcases hs with hs|hs
 exact hs
 rw [bound_spec hb hj hn hji] at hs;cases hs
variable {i d:Nat} {op:Op} {ty:TypeId} {pos:String} {af:Array Edge} {gd:Option (Nat×Bool)} {v:Value}
theorem WD_free (hi:ops[i]?=some ⟨some d,op,ty,pos,af,gd⟩) (hg:gdOk ops e gd) (hp:∀ w',PR P n ⟨some d,op,ty,pos,af,gd⟩ e w' v) (hdn:Nat.blt d n=true)
 (k:WD P n ops S Lt Q rest ((d,v) :: e) w):WD P n ops S Lt Q ((i,0) :: rest) e w:=
 WD_step0 hi rfl (fun a ha=>.inl ⟨wanted_ok ha hg,fun w' _=>(hp w').h a ha⟩) hdn k
theorem WD_read (hi:ops[i]?=some ⟨some d,op,ty,pos,af,gd⟩) (hg:gdOk ops e gd) (hp:∀ w',StpB S w w'→PR P n ⟨some d,op,ty,pos,af,gd⟩ e w' v) (hdn:Nat.blt d n=true)
 (k:WD P n ops S Lt Q rest ((d,v) :: e) w):WD P n ops S Lt Q ((i,1) :: rest) e w:=
 WD_step1 hi rfl (fun a ha=>.inl ⟨wanted_ok ha hg,fun w' hw=>(hp w' hw).h a ha⟩) hdn k
theorem WD_pass0 (hi:ops[i]?=some ⟨some d,op,ty,pos,af,gd⟩) (hg:noB ops e gd=true) (hdn:Nat.blt d n=true)
 (k:WD P n ops S Lt Q rest ((d,undef) :: e) w):WD P n ops S Lt Q ((i,0) :: rest) e w:=
 WD_step0 hi rfl (fun a ha=>.inr ⟨Z0i ha hg,rfl⟩) hdn k
theorem WD_pass1 (hi:ops[i]?=some ⟨some d,op,ty,pos,af,gd⟩) (hg:noB ops e gd=true) (hdn:Nat.blt d n=true)
 (k:WD P n ops S Lt Q rest ((d,undef) :: e) w):WD P n ops S Lt Q ((i,1) :: rest) e w:=
 WD_step1 hi rfl (fun a ha=>.inr ⟨Z0i ha hg,rfl⟩) hdn k
structure WD1 (P:Program) (n:Nat) (ops:Array Oper) (S:Nat×List Nat) (Lt:List Nat) (Q:Exit→Act→World→Prop) (i:Nat) (ord:List (Nat×Nat)) (e:Env) (w:World):Prop where
 h : ∀ listed : Array Bool, Region.noSelect ops = true → checkD ops Lt ord (listed.setIfInBounds i true) = true → ∀ a, Has n e a→
   wpOp P ops (fun _ _ _=>False) i (fun a' w'=>(StpB S w w'∨Lt.contains i=true)∧wpAnyE P .any ops S (fun j=>Lt.contains j) (fun a w=>Q .normal a w) (wt ord) (listed.setIfInBounds i true) a' w') a w
theorem WD1_mk {o:Oper} {dst:Option Nat} {G:Value→World→Prop} (hi:ops[i]?=some o) (hdst:o.dst=dst) (hg:gdOk ops e o.guard) (hp:OE P n o e w (fun v w'=>(StpB S w w'∨Lt.contains i=true)∧G v w'))
 (k:∀ v w' a',G v w'→∀ a,Has n e a→a'=a.put dst v→∃ e',Has n e' a'∧WD P n ops S Lt Q rest e' w'):WD1 P n ops S Lt Q i rest e w:=by
 refine ⟨fun listed hs h3 a ha=>?_⟩
 unfold wpOp
 simp only [hi]
 rw [if_pos (wanted_ok ha hg)]
 refine .inl (Oper.wp_mono ?_ (hp.h a ha _))
 rintro a' w' ⟨v,rfl,hs',hG⟩
 obtain ⟨e',he',hk⟩:=k v w' (a.put o.dst v) hG a ha (by rw [hdst])
 exact ⟨hs',hk.h _ hs h3 _ he'⟩
theorem WD_one (h:WD1 P n ops S Lt Q i rest e w):WD P n ops S Lt Q ((i,2) :: rest) e w:=by
 refine ⟨fun listed hs hB a ha=>?_⟩
 simp only [checkD,checkS] at hB
 rw [if_neg (by simp)] at hB
 simp only [Xg,beq_iff_eq] at hB
 obtain ⟨h1,h3⟩:=hB
 rw [wt_small (by decide)]
 refine ⟨fun h0=>absurd (h1 ▸ h0) (by simp),fun j hj=>?_⟩
 rw [h1] at hj
 obtain rfl:j=i:=by simpa using hj
 exact h.h _ hs h3 a ha
theorem WD_two {q:Nat} (hq:Nat.blt (q+3) 100000=true) (h1:WD1 P n ops S Lt Q i rest e w) (h2:WD1 P n ops S Lt Q q ((i,2) :: delO q rest) e w):WD P n ops S Lt Q ((i,q+3) :: rest) e w:=by
 refine ⟨fun listed hs hB a ha=>?_⟩
 have hq':q+3<100000:=XD hq
 simp only [checkD,checkS] at hB
 rw [if_neg (by simp),if_pos hq'] at hB
 simp only [Xg,beq_iff_eq] at hB
 obtain ⟨_,⟨⟨hr,hr1⟩,hr2⟩,h3⟩:=hB
 obtain ⟨h4,h5⟩:=checkS_del _ _ h3
 have hw:wt ((i,q+3) :: rest)=wt rest+1:=wt_small hq'
 rw [hw]
 refine ⟨fun h0=>absurd (hr ▸ h0) (by simp),fun j hj=>?_⟩
 rw [hr] at hj
 have c2:checkD ops Lt ((i,2) :: delO q rest) (listed.setIfInBounds q true)=true:=by
  simp only [checkD,checkS]
  rw [if_neg (by simp)]
  simp only [Xg,beq_iff_eq]
  exact ⟨hr2,h4⟩
 have hw2:wt rest=wt ((i,2) :: delO q rest):=by rw [wt_small (by decide),h5]
 have hj':j=i∨j=q:=by simpa using hj
 rcases hj' with rfl|rfl
 exact h1.h _ hs hr1 a ha
 rw [hw2]
 exact h2.h _ hs c2 a ha
theorem subs_mem:∀ {is rem:List Nat},rem.Sublist is→rem∈subs is
 | [],rem,h=>by simp at h;simp [subs,h]
 | x :: r, rem, h => by
   simp only [subs,Xn,XP]
   cases h with
   | cons _ h=>exact .inl (subs_mem h)
   | cons_cons _ h=>exact .inr ⟨_,subs_mem h,rfl⟩
theorem lst_all (listed:Array Bool) (is:List Nat):lst listed is is=listed:=by
 apply Array.ext
 simp [lst]
 intro j h1 h2
 simp only [lst,Yaq]
 cases is.contains j<;>simp
theorem lst_step {listed:Array Bool} {is rem:List Nat} {j:Nat} (hn:rem.Nodup) (hr:rem.Sublist is) (hj:j∈rem):(lst listed is rem).setIfInBounds j true=lst listed is (rem.erase j):=by
 apply Array.ext
 simp [lst]
 intro m h1 h2
 have hm:m<listed.size:=by simpa [lst] using h2
 rw [Array.getElem_setIfInBounds]
 simp only [lst,Yaq]
 by_cases e:j=m
 subst e
 have h3:is.contains j=true:=by simpa using hr.subset hj
 have h4:(rem.erase j).contains j=false:=by
  have:=hn.not_mem_erase (a:=j)
  simpa using this
 simp only [h3,h4,if_true,Bool.not_false,YaA,Bool.or_true]
 rw [if_neg e]
 have:(rem.erase j).contains m=rem.contains m:=by
  rw [XV]
  simp only [List.contains_iff_mem]
  exact List.mem_erase_of_ne (fun h=>e h.symm)
 rw [this]
 simpa [lst] using hm
theorem WD_set {q:Nat} (is:List Nat) (J:List Nat→World→Prop) (hq:Nat.ble 100000 (q+3)=true) (his:bits (q+3 - 100000)=is) (hnd:is.Nodup) (h0:J is w)
 (step:∀ rem j w',rem.Sublist is→j∈rem→J rem w'→∃ o,ops[j]?=some o∧o.dst=none∧gdOk ops e o.guard∧OE P n o e w' (fun _ w''=>(StpB S w' w''∨Lt.contains j=true)∧J (rem.erase j) w''))
 (fin:∀ w',J [] w'→WD P n ops S Lt Q rest e w'):WD P n ops S Lt Q ((i,q+3) :: rest) e w:=by
 refine ⟨fun listed hs hB a ha=>?_⟩
 have hq':¬ q+3<100000:=Nat.not_lt.2 (XD hq)
 have hw:wt ((i,q+3) :: rest)=is.length+wt rest:=by simp only [wt];rw [if_neg hq',his]
 rw [hw]
 simp only [checkD,checkS] at hB
 rw [if_neg (by simp),if_neg hq',his] at hB
 simp only [Xg] at hB
 obtain ⟨_,hall,hrest⟩:=hB
 have hready:∀ rem:List Nat,rem.Sublist is→0<rem.length→Region.ready .any ops (lst listed is rem)=rem:=fun rem hr h0=>by
  have:=Xv.1 hall rem (subs_mem hr)
  cases rem with
  | nil=>simp at h0
  | cons x r=>simpa using this
 have key:∀ (k:Nat) (rem:List Nat),rem.length=k→rem.Sublist is→∀ w' a,Has n e a→J rem w'→wpAnyE P .any ops S (fun j=>Lt.contains j) (fun a w=>Q .normal a w) (k+wt rest) (lst listed is rem) a w':=by
  intro k
  induction k with
  | zero=>
    intro rem hl hr w' a ha hJ
    obtain rfl:=Xz.1 hl
    rw [XM]
    exact (fin w' hJ).h _ hs hrest a ha
  | succ k ih=>
    intro rem hl hr w' a ha hJ
    rw [show k+1+wt rest=(k+wt rest)+1 by omega]
    refine ⟨fun h=>?_,fun j hj=>?_⟩
    rw [hready rem hr (by omega)] at h
    subst h
    simp at hl
    rw [hready rem hr (by omega)] at hj
    obtain ⟨o,hi,hdst,hg,hp⟩:=step rem j w' hr hj hJ
    unfold wpOp
    simp only [hi]
    rw [if_pos (wanted_ok ha hg)]
    refine .inl (Oper.wp_mono ?_ (hp.h a ha _))
    rintro a' w'' ⟨v,rfl,hs',hJ'⟩
    refine ⟨hs',?_⟩
    rw [lst_step (hr.nodup hnd) hr hj,hdst]
    exact ih _ (by rw [List.length_erase_of_mem hj];omega) (List.erase_sublist.trans hr) w'' _ ha hJ'
 have:=key is.length is rfl (List.Sublist.refl _) w a ha h0
 rwa [lst_all] at this
theorem WD_only {o:Oper} {dst:Option Nat} {G:Value→World→Prop} (hi:ops[i]?=some o) (hdst:o.dst=dst) (hg:gdOk ops e o.guard) (hp:OE P n o e w (fun v w'=>(StpB S w w'∨Lt.contains i=true)∧G v w'))
 (k:∀ v w' a',G v w'→∀ a,Has n e a→a'=a.put dst v→∃ e',Has n e' a'∧WD P n ops S Lt Q rest e' w'):WD P n ops S Lt Q ((i,2) :: rest) e w:=
 WD_one (WD1_mk hi hdst hg hp k)
theorem WD_pass2 (hi:ops[i]?=some ⟨some d,op,ty,pos,af,gd⟩) (hg:noB ops e gd=true) (hdn:Nat.blt d n=true)
 (k:WD P n ops S Lt Q rest ((d,undef) :: e) w):WD P n ops S Lt Q ((i,2) :: rest) e w:=by
 refine WD_one ⟨fun listed hs h3 a ha=>?_⟩
 unfold wpOp
 simp only [hi]
 have hw:=Z0i (o:=⟨some d,op,ty,pos,af,gd⟩) ha hg
 rw [if_neg (by simp [hw])]
 exact ⟨.inl (StpB.refl _ _),k.h _ hs h3 _ (ha.put (v:=undef) hdn)⟩
theorem WD1_eff {G:Value→World→Prop} (hi:ops[i]?=some ⟨some d,op,ty,pos,af,gd⟩) (hg:gdOk ops e gd) (hp:OE P n ⟨some d,op,ty,pos,af,gd⟩ e w G) (hG:∀ v w',G v w'→StpB S w w') (hdn:Nat.blt d n=true)
 (k:∀ v w',G v w'→WD P n ops S Lt Q rest ((d,v) :: e) w'):WD1 P n ops S Lt Q i rest e w:=
 WD1_mk (G:=G) hi rfl hg (hp.mono fun v w' h=>⟨.inl (hG v w' h),h⟩) (fun v w' a' h a ha e=>⟨_,by rw [e];exact ha.put hdn,k v w' h⟩)
theorem WD_eff {G:Value→World→Prop} (hi:ops[i]?=some ⟨some d,op,ty,pos,af,gd⟩) (hg:gdOk ops e gd) (hp:OE P n ⟨some d,op,ty,pos,af,gd⟩ e w G) (hG:∀ v w',G v w'→StpB S w w') (hdn:Nat.blt d n=true)
 (k:∀ v w',G v w'→WD P n ops S Lt Q rest ((d,v) :: e) w'):WD P n ops S Lt Q ((i,2) :: rest) e w:=
 WD_only (G:=G) hi rfl hg (hp.mono fun v w' h=>⟨.inl (hG v w' h),h⟩) (fun v w' a' h a ha e=>⟨_,by rw [e];exact ha.put hdn,k v w' h⟩)
theorem WD_eff0 {G:Value→World→Prop} (hi:ops[i]?=some ⟨none,op,ty,pos,af,gd⟩) (hg:gdOk ops e gd) (hp:OE P n ⟨none,op,ty,pos,af,gd⟩ e w G) (hG:∀ v w',G v w'→StpB S w w')
 (k:∀ v w',G v w'→WD P n ops S Lt Q rest e w'):WD P n ops S Lt Q ((i,2) :: rest) e w:=
 WD_only (G:=G) hi rfl hg (hp.mono fun v w' h=>⟨.inl (hG v w' h),h⟩) (fun v w' a' h a ha e=>⟨_,by rw [e];exact ha,k v w' h⟩)
theorem WD_late {G:Value→World→Prop} (hi:ops[i]?=some ⟨some d,op,ty,pos,af,gd⟩) (hg:gdOk ops e gd) (hp:OE P n ⟨some d,op,ty,pos,af,gd⟩ e w G) (hL:Lt.contains i=true) (hdn:Nat.blt d n=true)
 (k:∀ v w',G v w'→WD P n ops S Lt Q rest ((d,v) :: e) w'):WD P n ops S Lt Q ((i,2) :: rest) e w:=
 WD_only (G:=G) hi rfl hg (hp.mono fun v w' h=>⟨.inr hL,h⟩) (fun v w' a' h a ha e=>⟨_,by rw [e];exact ha.put hdn,k v w' h⟩)
theorem WD_late0 {G:Value→World→Prop} (hi:ops[i]?=some ⟨none,op,ty,pos,af,gd⟩) (hg:gdOk ops e gd) (hp:OE P n ⟨none,op,ty,pos,af,gd⟩ e w G) (hL:Lt.contains i=true)
 (k:∀ v w',G v w'→WD P n ops S Lt Q rest e w'):WD P n ops S Lt Q ((i,2) :: rest) e w:=
 WD_only (G:=G) hi rfl hg (hp.mono fun v w' h=>⟨.inr hL,h⟩) (fun v w' a' h a ha e=>⟨_,by rw [e];exact ha,k v w' h⟩)
end rules
end Go.EngB
namespace Go.Proofs.YtjdjdoefppebkaaGreatDoor
open Go Go.Eng Go.RowKit
theorem Zeq (w:World):(Instr.buildSlice 31 0 #[]).run Tryz.prog w=.ok (.slice (some ⟨w.heap.size,0,none⟩) 0 0) (w.alloc (.cells #[] 187)):=by kernel_rfl
set_option maxHeartbeats 1000000 in
theorem Z6v (c:Cal) (hv cv zo zs hr:Value) (l:List Int) (w:World) (hcal:Z1D w c hv cv zo zs hr) (ho:zo.oneCell'=true∧zs.oneCell'=true∧hr.oneCell'=true) (hl:l.length=4) (hz:∀ z∈l,I64 z) (hc3:c.clos.length≤3) :
 CC 29 #[Z1v c hv cv zo zs hr,.agg (l.map fun z=>Value.int .i64 z).toArray] w fun r w'=>∃ (c':Cal) (hv' cv':Value),r=Z1v c' hv' cv' zo zs hr∧Z1D w' c' hv' cv' zo zs hr∧Stp [] w w':=by
 obtain ⟨z0,z1,z2,z3,rfl⟩:∃ z0 z1 z2 z3,l=[z0,z1,z2,z3]:=by
  match l,hl with
  | [z0,z1,z2,z3],_=>exact ⟨z0,z1,z2,z3,rfl⟩
 simp only [Xl,Xs]
 refine cW2 57 Tryz.func29 ?_
 refine W ?_
 refine Z3 (Zq rfl) rfl ?_
 rintro _ w1 ⟨b2,rfl,hb2,k2,hS⟩
 replace k2:Blk w1 b2 37 (J7 c hv cv zo zs hr):=k2
 refine Z3 (Zq rfl) rfl ?_
 rintro _ w2 ⟨b3,rfl,hb3,k3,hT⟩
 replace k3:Blk w2 b3 79 [.int .i64 z0,.int .i64 z1,.int .i64 z2,.int .i64 z3]:=k3
 replace k2:=k2.up hT
 replace hS:=hS.trans hT
 clear hT
 have lt2:=k2.lt
 have lt3:=k3.lt
 refine Z3 Z6 rfl ?_
 rintro _ w3 ⟨b4,rfl,hb4,k4,hT⟩
 have g2:=hS.size
 replace k2:=k2.up hT
 replace k3:=k3.up hT
 replace hS:=hS.trans hT
 clear hT
 have n4:b2≠b4∧b3≠b4∧w.heap.size≤b4:=by omega
 have lt4:=k4.lt
 refine W ?_
 refine CL rfl (Zb rfl rfl) rfl (Zw z0 120 _ (by decide) (hz _ (by simp))) ?_
 rintro _ wc ⟨rfl,hT⟩
 replace k2:=k2.up hT
 replace k3:=k3.up hT
 replace k4:=k4.up hT
 replace hS:=hS.trans hT
 clear hT
 have hr0:=Zs (if z0<0 then -(z0+1) else z0) 120 (by decide)
 generalize (if z0<0 then -(z0+1) else z0) % 120=x0 at hr0 ⊢
 refine W ?_
 have hcw:=hcal.up hS
 refine Z1E (σ:=Nat×Clo) (fun q=>[(2,.pointer (some ⟨b2,0,none⟩)),(3,.pointer (some ⟨b3,0,none⟩)),(4,.pointer (some ⟨b4,0,none⟩)),(6,.pointer (some ⟨q.1,0,none⟩))]) (fun q w'=>Blk w' q.1 77 (Za.enc q.2)∧wc.heap.size≤q.1∧Stp [] wc w') ?_ ?_
 have hB:Stp [] wc wc:=Stp.refl [] wc
 have k3':=k3
 refine ZDr 14 [] [13] [(0,0),(1,0),(2,0),(3,1),(6,0),(7,1),(4,15),(5,0),(8,15),(9,0),(10,0),(11,0),(12,2),(13,2)] (fun w1 hS1=>?_)
 replace k3':=k3'.up hS1
 replace hB:=hB.trans hS1
 clear hS1
 refine D ?_
 apply WD_two rfl
 refine WD1_eff rfl trivial (Z5 rfl (Zb rfl rfl) (Zw z1 10 _ (by decide) (hz _ (by simp)))) (fun _ _ h=>h.2) rfl ?_
 rintro _ wk ⟨rfl,hT⟩
 replace k3':=k3'.up hT
 replace hB:=hB.trans hT
 clear hT
 have hr1:=Zs (if z1<0 then -(z1+1) else z1) 10 (by decide)
 generalize (if z1<0 then -(z1+1) else z1) % 10=x1 at hr1 ⊢
 refine D ?_
 apply WD_two rfl
 refine WD1_eff rfl trivial (Z5 rfl (Zb rfl rfl) (Zw z2 80 _ (by decide) (hz _ (by simp)))) (fun _ _ h=>h.2) rfl ?_
 rintro _ wk ⟨rfl,hT⟩
 replace k3':=k3'.up hT
 replace hB:=hB.trans hT
 clear hT
 have hr2:=Zs (if z2<0 then -(z2+1) else z2) 80 (by decide)
 generalize (if z2<0 then -(z2+1) else z2) % 80=x2 at hr2 ⊢
 refine D ?_
 refine WD_free rfl trivial (fun w'=>Jq (vs:=[(0,.int .i64 (739616+x0 - 20)),(1,.int .i64 (739616+x0 - 20+x1)),(2,.int .i64 (739616+x2 - 10))]) rfl (Z4d _ _ _)) rfl ?_
 refine WD_eff rfl trivial Z6 (fun _ _ h=>h.choose_spec.2.2.2) rfl ?_
 rintro _ wk ⟨b6,rfl,hb6,k6,hT⟩
 have g6:wc.heap.size≤b6:=by have:=hB.size;omega
 have n6:b3≠b6:=by have:=k3'.lt;omega
 replace k3':=k3'.up hT
 replace hB:=hB.trans hT
 clear hT
 refine D ?_
 refine WD_late0 rfl trivial (Z2 (us:=Za.enc (⟨739616+x0 - 20,739616+x0 - 20+x1,739616+x2 - 10⟩:Clo)) rfl rfl rfl rfl (Za.one _) k6 rfl) rfl ?_
 rintro _ wk ⟨hT,k6⟩
 replace hB:=hB.own hT (fun q hq=>.inr (by simp at hq;subst hq;exact g6))
 clear hT
 refine D ?_
 exact ZC (b6,(⟨739616+x0 - 20,739616+x0 - 20+x1,739616+x2 - 10⟩:Clo)) ⟨rfl,rfl,rfl,rfl,trivial⟩ ⟨k6,g6,hB⟩
 refine WD1_eff rfl trivial Z6 (fun _ _ h=>h.choose_spec.2.2.2) rfl ?_
 rintro _ wk ⟨b6,rfl,hb6,k6,hT⟩
 have g6:wc.heap.size≤b6:=by have:=hB.size;omega
 have n6:b3≠b6:=by have:=k3'.lt;omega
 replace k3':=k3'.up hT
 replace hB:=hB.trans hT
 clear hT
 refine D ?_
 refine WD_eff rfl trivial (Z5 rfl (Zb rfl rfl) (Zw z2 80 _ (by decide) (hz _ (by simp)))) (fun _ _ h=>h.2) rfl ?_
 rintro _ wk ⟨rfl,hT⟩
 replace k3':=k3'.up hT
 replace k6:=k6.up hT
 replace hB:=hB.trans hT
 clear hT
 have hr2:=Zs (if z2<0 then -(z2+1) else z2) 80 (by decide)
 generalize (if z2<0 then -(z2+1) else z2) % 80=x2 at hr2 ⊢
 refine D ?_
 refine WD_free rfl trivial (fun w'=>Jq (vs:=[(0,.int .i64 (739616+x0 - 20)),(1,.int .i64 (739616+x0 - 20+x1)),(2,.int .i64 (739616+x2 - 10))]) rfl (Z4d _ _ _)) rfl ?_
 refine D ?_
 refine WD_late0 rfl trivial (Z2 (us:=Za.enc (⟨739616+x0 - 20,739616+x0 - 20+x1,739616+x2 - 10⟩:Clo)) rfl rfl rfl rfl (Za.one _) k6 rfl) rfl ?_
 rintro _ wk ⟨hT,k6⟩
 replace hB:=hB.own hT (fun q hq=>.inr (by simp at hq;subst hq;exact g6))
 clear hT
 refine D ?_
 exact ZC (b6,(⟨739616+x0 - 20,739616+x0 - 20+x1,739616+x2 - 10⟩:Clo)) ⟨rfl,rfl,rfl,rfl,trivial⟩ ⟨k6,g6,hB⟩
 refine WD1_eff rfl trivial Z6 (fun _ _ h=>h.choose_spec.2.2.2) rfl ?_
 rintro _ wk ⟨b6,rfl,hb6,k6,hT⟩
 have g6:wc.heap.size≤b6:=by have:=hB.size;omega
 have n6:b3≠b6:=by have:=k3'.lt;omega
 replace k3':=k3'.up hT
 replace hB:=hB.trans hT
 clear hT
 refine D ?_
 refine WD_eff rfl trivial (Z5 rfl (Zb rfl rfl) (Zw z1 10 _ (by decide) (hz _ (by simp)))) (fun _ _ h=>h.2) rfl ?_
 rintro _ wk ⟨rfl,hT⟩
 replace k3':=k3'.up hT
 replace k6:=k6.up hT
 replace hB:=hB.trans hT
 clear hT
 have hr1:=Zs (if z1<0 then -(z1+1) else z1) 10 (by decide)
 generalize (if z1<0 then -(z1+1) else z1) % 10=x1 at hr1 ⊢
 refine D ?_
 refine WD_eff rfl trivial (Z5 rfl (Zb rfl rfl) (Zw z2 80 _ (by decide) (hz _ (by simp)))) (fun _ _ h=>h.2) rfl ?_
 rintro _ wk ⟨rfl,hT⟩
 replace k3':=k3'.up hT
 replace k6:=k6.up hT
 replace hB:=hB.trans hT
 clear hT
 have hr2:=Zs (if z2<0 then -(z2+1) else z2) 80 (by decide)
 generalize (if z2<0 then -(z2+1) else z2) % 80=x2 at hr2 ⊢
 refine D ?_
 refine WD_free rfl trivial (fun w'=>Jq (vs:=[(0,.int .i64 (739616+x0 - 20)),(1,.int .i64 (739616+x0 - 20+x1)),(2,.int .i64 (739616+x2 - 10))]) rfl (Z4d _ _ _)) rfl ?_
 refine D ?_
 refine WD_late0 rfl trivial (Z2 (us:=Za.enc (⟨739616+x0 - 20,739616+x0 - 20+x1,739616+x2 - 10⟩:Clo)) rfl rfl rfl rfl (Za.one _) k6 rfl) rfl ?_
 rintro _ wk ⟨hT,k6⟩
 replace hB:=hB.own hT (fun q hq=>.inr (by simp at hq;subst hq;exact g6))
 clear hT
 refine D ?_
 exact ZC (b6,(⟨739616+x0 - 20,739616+x0 - 20+x1,739616+x2 - 10⟩:Clo)) ⟨rfl,rfl,rfl,rfl,trivial⟩ ⟨k6,g6,hB⟩
 rintro ⟨b6,x⟩ wd ⟨k6,g6,hB⟩
 dsimp only at k6 g6 ⊢
 replace k2:=k2.up hB
 replace k3:=k3.up hB
 replace k4:=k4.up hB
 replace hcw:=hcw.up hB
 replace hS:=hS.trans hB
 clear hB
 refine W ?_
 have lt2:=k2.lt
 have lt3:=k3.lt
 have lt4:=k4.lt
 have lt6:=k6.lt
 refine Z3 Z6 rfl ?_
 rintro _ we0 ⟨b7,rfl,hb7,k7,hT⟩
 refine Z1 (Z2 (us:=J7 c hv cv zo zs hr) rfl rfl rfl rfl (Z03 hcw.hols.one hcw.clos.one ho) k7 rfl) ?_
 rintro _ we ⟨hT2,k7⟩
 have hB:=Je hT hb7 hT2
 clear hT hT2
 have n7:b2≠b7∧b3≠b7∧b4≠b7:=by omega
 have lt7:=k7.lt
 have hcw0:=hcw
 have k20:=k2
 replace hcw:=hcw.up hB
 replace k2:=k2.up hB
 replace k3:=k3.up hB
 replace k4:=k4.up hB
 replace k6:=k6.up hB
 have l2:=k2.lt
 have l6:=k6.lt
 have l4:=k4.lt
 refine W ?_
 refine Z1E (σ:=Value) (fun q=>[(2,.pointer (some ⟨b2,0,none⟩)),(3,.pointer (some ⟨b3,0,none⟩)),(4,.pointer (some ⟨b4,0,none⟩)),(7,.pointer (some ⟨b7,0,none⟩))]) (fun q w'=>Blk w' b7 37 (J7 { c with clos:=c.clos++[x] } hv q zo zs hr)∧SlV [b7,b4] w' q (c.clos++[x])∧Stp [b7] we w') ?_ ?_
 refine Go.EngB.WC_drawn 9 (we.heap.size,[]) [8] [(1,0),(2,1),(4,1),(0,8),(3,8),(5,2),(6,2),(7,0),(8,2)] rfl mixed (by kernel_rfl) (by kernel_rfl) (by kernel_rfl) (fun w1 hW=>?_)
 refine Go.EngB.WD_free rfl trivial (fun w'=>ZL rfl) rfl ?_
 refine Go.EngB.WD_read rfl trivial (fun w' hS'=>Zy rfl rfl (hS'.blk (k2.up hW) l2) rfl) rfl ?_
 refine Go.EngB.WD_read rfl trivial (fun w' hS'=>ZU rfl rfl (hS'.blk (k6.up hW) l6) rfl) rfl ?_
 apply Go.EngB.WD_two rfl
 refine Go.EngB.WD1_eff rfl trivial (Z0 (vs:=[]) rfl (Z6d)) (fun _ _ h=>Go.EngB.StpB.of (Z7.stp h) hW.size (by simp)) rfl ?_
 rintro bv wk hN
 have hrow:Row [] wk we.heap.size 77 bv ([]:List Clo):=hN.row hW.size rfl rfl (by simp [maxLen])
 replace hW:=hW.trans (Z7.stp hN)
 clear hN
 apply Go.EngB.WD_two rfl
 refine Go.EngB.WD1_eff rfl trivial (ZV (X:=[]) (base:=we.heap.size) rfl (by decide) rfl rfl hrow (hcw.clos.ext hW (by simp) (fun b hb=>.inr (hrow.ob_le b (by simpa using hb)).1)) (by simp only [Xe];omega) (by simp only [Xe,maxLen];omega) hW.size) (fun _ _ h=>Go.EngB.StpB.of h.2.1 hW.size (fun b hb=>(hrow.ob_le b hb).1)) rfl ?_
 rintro bv2 wk2 ⟨hrow2,hT,hob2⟩
 rw [XL] at hrow2
 replace hW:=hW.own hT (fun b hb=>.inr (hrow.ob_le b hb).1)
 clear hT hob2 hrow
 refine Go.EngB.WD_eff rfl trivial (Z0 (vs:=[(0,agg x)]) rfl (Z4e _)) (fun _ _ h=>Go.EngB.StpB.of (Z7.stp h) hW.size (by simp)) rfl ?_
 rintro bw wj hN
 have hbw:SlV (ob bv2++[]) wj bw [x]:=hN.slv (fun b hb=>(hrow2.ob_le b (by simpa using hb)).2) rfl rfl (by simp [maxLen])
 replace hrow2:=hrow2.up (Z7.stp hN)
 replace hW:=hW.trans (Z7.stp hN)
 clear hN
 refine Go.EngB.WD_eff rfl trivial (ZV (X:=[]) (base:=we.heap.size) rfl (by decide) rfl rfl hrow2 hbw (by simp only [Xc,Xe];omega) (by simp only [Xc,Xe,maxLen];omega) hW.size) (fun _ _ h=>Go.EngB.StpB.of h.2.1 hW.size (fun b hb=>(hrow2.ob_le b hb).1)) rfl ?_
 rintro bv3 wk3 ⟨hrow3,hT,-⟩
 replace hW:=hW.own hT (fun b hb=>.inr (hrow2.ob_le b hb).1)
 clear hT hrow2 hbw
 refine Go.EngB.WD_free rfl trivial (fun w'=>ZL rfl) rfl ?_
 have hcv':=hrow3.slv (X:=[b7,b4]) (fun b hb=>by
  simp at hb
  rcases hb with rfl|rfl
  exact lt7
  exact l4)
 refine Go.EngB.WD_late0 rfl trivial (Zc (u:=bv3) rfl rfl hcv'.cells hcv'.one (k7.up hW) (by simp [J7])) rfl ?_
 rintro _ wk4 ⟨hT,k7⟩
 refine Go.EngB.WD_nil ?_
 exact ZC bv3 ⟨rfl,rfl,rfl,rfl,trivial⟩ ⟨k7,hcv'.ext hT (fun b hb=>by simp at hb;simp [hb]) (fun _ h=>.inl h),(hW.mono (by simp)).trans hT⟩
 refine Go.EngB.WD1_eff rfl trivial (Z0 (vs:=[(0,agg x)]) rfl (Z4e _)) (fun _ _ h=>Go.EngB.StpB.of (Z7.stp h) hW.size (by simp)) rfl ?_
 rintro bw wj hN
 have hbw:SlV (ob bv++[]) wj bw [x]:=hN.slv (fun b hb=>(hrow.ob_le b (by simpa using hb)).2) rfl rfl (by simp [maxLen])
 replace hrow:=hrow.up (Z7.stp hN)
 replace hW:=hW.trans (Z7.stp hN)
 clear hN
 refine Go.EngB.WD_eff rfl trivial (ZV (X:=[]) (base:=we.heap.size) rfl (by decide) rfl rfl hrow (hcw.clos.ext hW (by simp) (fun b hb=>.inr (hrow.ob_le b (by simpa using hb)).1)) (by simp only [Xe];omega) (by simp only [Xe,maxLen];omega) hW.size) (fun _ _ h=>Go.EngB.StpB.of h.2.1 hW.size (fun b hb=>(hrow.ob_le b hb).1)) rfl ?_
 rintro bv2 wk2 ⟨hrow2,hT,hob2⟩
 rw [XL] at hrow2
 replace hbw:SlV (ob bv2++[]) wk2 bw [x]:=hbw.ext hT (fun b hb=>by simp [hb]) (fun b hb=>by
  rcases hob2 b (by simpa using hb) with h|h
  exact .inl (by simp [h])
  exact .inr h)
 replace hW:=hW.own hT (fun b hb=>.inr (hrow.ob_le b hb).1)
 clear hT hob2 hrow
 refine Go.EngB.WD_eff rfl trivial (ZV (X:=[]) (base:=we.heap.size) rfl (by decide) rfl rfl hrow2 hbw (by simp only [Xc,Xe];omega) (by simp only [Xc,Xe,maxLen];omega) hW.size) (fun _ _ h=>Go.EngB.StpB.of h.2.1 hW.size (fun b hb=>(hrow2.ob_le b hb).1)) rfl ?_
 rintro bv3 wk3 ⟨hrow3,hT,-⟩
 replace hW:=hW.own hT (fun b hb=>.inr (hrow2.ob_le b hb).1)
 clear hT hrow2 hbw
 refine Go.EngB.WD_free rfl trivial (fun w'=>ZL rfl) rfl ?_
 have hcv':=hrow3.slv (X:=[b7,b4]) (fun b hb=>by
  simp at hb
  rcases hb with rfl|rfl
  exact lt7
  exact l4)
 refine Go.EngB.WD_late0 rfl trivial (Zc (u:=bv3) rfl rfl hcv'.cells hcv'.one (k7.up hW) (by simp [J7])) rfl ?_
 rintro _ wk4 ⟨hT,k7⟩
 refine Go.EngB.WD_nil ?_
 exact ZC bv3 ⟨rfl,rfl,rfl,rfl,trivial⟩ ⟨k7,hcv'.ext hT (fun b hb=>by simp at hb;simp [hb]) (fun _ h=>.inl h),(hW.mono (by simp)).trans hT⟩
 refine Go.EngB.WD1_eff rfl trivial (Z0 (vs:=[(0,agg x)]) rfl (Z4e _)) (fun _ _ h=>Go.EngB.StpB.of (Z7.stp h) hW.size (by simp)) rfl ?_
 rintro bw wj hN
 have hbw:SlV [] wj bw [x]:=hN.slv (by simp) rfl rfl (by simp [maxLen])
 replace hW:=hW.trans (Z7.stp hN)
 clear hN
 refine Go.EngB.WD_eff rfl trivial (Z0 (vs:=[]) rfl (Z6d)) (fun _ _ h=>Go.EngB.StpB.of (Z7.stp h) hW.size (by simp)) rfl ?_
 rintro bv wk hN
 have hrow:Row [] wk we.heap.size 77 bv ([]:List Clo):=hN.row hW.size rfl rfl (by simp [maxLen])
 have hobn:∀ b∈ob bv,wj.heap.size≤b:=fun b hb=>((hN.row (X:=[]) (Xm _) rfl rfl (by simp [maxLen]):Row [] wk wj.heap.size 77 bv ([]:List Clo)).ob_le b hb).1
 replace hbw:SlV (ob bv++[]) wk bw [x]:=hbw.ext (Z7.stp hN) (by simp) (fun b hb=>.inr (hobn b (by simpa using hb)))
 replace hW:=hW.trans (Z7.stp hN)
 clear hN
 refine Go.EngB.WD_eff rfl trivial (ZV (X:=[]) (base:=we.heap.size) rfl (by decide) rfl rfl hrow (hcw.clos.ext hW (by simp) (fun b hb=>.inr (hrow.ob_le b (by simpa using hb)).1)) (by simp only [Xe];omega) (by simp only [Xe,maxLen];omega) hW.size) (fun _ _ h=>Go.EngB.StpB.of h.2.1 hW.size (fun b hb=>(hrow.ob_le b hb).1)) rfl ?_
 rintro bv2 wk2 ⟨hrow2,hT,hob2⟩
 rw [XL] at hrow2
 replace hbw:SlV (ob bv2++[]) wk2 bw [x]:=hbw.ext hT (fun b hb=>by simp [hb]) (fun b hb=>by
  rcases hob2 b (by simpa using hb) with h|h
  exact .inl (by simp [h])
  exact .inr h)
 replace hW:=hW.own hT (fun b hb=>.inr (hrow.ob_le b hb).1)
 clear hT hob2 hrow
 refine Go.EngB.WD_eff rfl trivial (ZV (X:=[]) (base:=we.heap.size) rfl (by decide) rfl rfl hrow2 hbw (by simp only [Xc,Xe];omega) (by simp only [Xc,Xe,maxLen];omega) hW.size) (fun _ _ h=>Go.EngB.StpB.of h.2.1 hW.size (fun b hb=>(hrow2.ob_le b hb).1)) rfl ?_
 rintro bv3 wk3 ⟨hrow3,hT,-⟩
 replace hW:=hW.own hT (fun b hb=>.inr (hrow2.ob_le b hb).1)
 clear hT hrow2 hbw
 refine Go.EngB.WD_free rfl trivial (fun w'=>ZL rfl) rfl ?_
 have hcv':=hrow3.slv (X:=[b7,b4]) (fun b hb=>by
  simp at hb
  rcases hb with rfl|rfl
  exact lt7
  exact l4)
 refine Go.EngB.WD_late0 rfl trivial (Zc (u:=bv3) rfl rfl hcv'.cells hcv'.one (k7.up hW) (by simp [J7])) rfl ?_
 rintro _ wk4 ⟨hT,k7⟩
 refine Go.EngB.WD_nil ?_
 exact ZC bv3 ⟨rfl,rfl,rfl,rfl,trivial⟩ ⟨k7,hcv'.ext hT (fun b hb=>by simp at hb;simp [hb]) (fun _ h=>.inl h),(hW.mono (by simp)).trans hT⟩
 rintro cv2 wf ⟨k7,hcv2,hB2⟩
 have g7:wd.heap.size≤b7:=hb7
 have hBt:=hB.own hB2 (fun q hq=>.inr (by simp at hq;subst hq;exact g7))
 replace k2:=k2.ext hB2 (by simpa using n7.1)
 replace k3:=k3.ext hB2 (by simpa using n7.2.1)
 replace k4:=k4.ext hB2 (by simpa using n7.2.2)
 replace hS:=hS.trans hBt
 have hhv:=hcal.hols.up hS
 have hmh:=hhv.max
 clear hcw hcw0 hB hB2 hBt k20 k6
 refine W ?_
 refine Z0f (len:=4) (i:=3) (z:=3) rfl rfl (by decide) (by decide) rfl ?_
 refine W ?_
 refine CL rfl (Zb rfl rfl) rfl (Zw z3 8 _ (by decide) (hz _ (by simp))) ?_
 rintro _ wg ⟨rfl,hT⟩
 replace k2:=k2.up hT
 replace k4:=k4.up hT
 replace k7:=k7.up hT
 replace hcv2:=hcv2.up hT
 replace hhv:=hhv.up hT
 replace hS:=hS.trans hT
 clear hT k3
 have hr3:=Zs (if z3<0 then -(z3+1) else z3) 8 (by decide)
 generalize (if z3<0 then -(z3+1) else z3) % 8=q3 at hr3 ⊢
 obtain ⟨k,rfl⟩:∃ k:Nat,q3=(k:Int):=⟨q3.toNat,by omega⟩
 have few:=hcal.ok.few
 by_cases hk:k<c.hols.length
 have hki:(k:Int)<(c.hols.length:Int):=by omega
 have hs1:=hhv.slc (l:=0) (r:=k) (by omega) (by omega)
 rw [YaR] at hs1
 have hs2:=hhv.slc (l:=k+1) (r:=c.hols.length) (by omega) (Xm _)
 rw [XC] at hs2
 have l2':=k2.lt
 have l7':=k7.lt
 have l4':=k4.lt
 focus repeat'(first|refine W1 ?_|omega|refine VG ?_ ?_<;>intro hg|refine VC ?_ ?_<;>intro hc)
 refine Go.EngB.WC_drawn 14 (wg.heap.size,[]) [13] [(1,0),(2,1),(3,0),(4,0),(6,0),(7,1),(8,0),(9,0),(10,0),(0,2),(5,2),(11,2),(12,0),(13,2)] rfl mixed (by kernel_rfl) (by kernel_rfl) (by kernel_rfl) (fun w1 hW=>?_)
 refine Go.EngB.WD_free rfl trivial (fun w'=>ZL rfl) rfl ?_
 refine Go.EngB.WD_read rfl trivial (fun w' hS'=>Zy rfl rfl (hS'.blk (k2.up hW) l2') rfl) rfl ?_
 refine Go.EngB.WD_free rfl trivial (fun w'=>ZK rfl) rfl ?_
 refine Go.EngB.WD_free rfl trivial (fun w'=>Z3p rfl hhv rfl rfl (Nat.le_of_lt hk)) rfl ?_
 refine Go.EngB.WD_free rfl trivial (fun w'=>ZL rfl) rfl ?_
 refine Go.EngB.WD_read rfl trivial (fun w' hS'=>Zy rfl rfl (hS'.blk (k2.up hW) l2') rfl) rfl ?_
 refine Go.EngB.WD_free rfl trivial (fun w'=>ZK rfl) rfl ?_
 refine Go.EngB.WD_free rfl trivial (fun w'=>Z78 rfl rfl (by unfold I64;omega)) rfl ?_
 refine Go.EngB.WD_free rfl trivial (fun w'=>Z5q (l:=k+1) rfl hhv rfl (by omega) (by omega)) rfl ?_
 refine Go.EngB.WD_eff rfl trivial (Z0 (vs:=[]) rfl (Zeq)) (fun _ _ h=>Go.EngB.StpB.of (Z7.stp h) hW.size (by simp)) rfl ?_
 rintro bv wk hN
 have hrow:Row [] wk wg.heap.size 187 bv ([]:List Hol):=hN.row hW.size rfl rfl (by simp [maxLen])
 replace hW:=hW.trans (Z7.stp hN)
 clear hN
 refine Go.EngB.WD_eff rfl trivial (ZV (X:=[]) (base:=wg.heap.size) rfl (by decide) rfl rfl hrow (hs1.ext hW (by simp) (fun b hb=>.inr (hrow.ob_le b (by simpa using hb)).1)) (by rw [Xw];simp only [Xe];omega) (by rw [Xw];simp only [Xe,maxLen];omega) hW.size) (fun _ _ h=>Go.EngB.StpB.of h.2.1 hW.size (fun b hb=>(hrow.ob_le b hb).1)) rfl ?_
 rintro bv2 wk2 ⟨hrow2,hT,-⟩
 rw [XL] at hrow2
 replace hW:=hW.own hT (fun b hb=>.inr (hrow.ob_le b hb).1)
 clear hT hrow
 refine Go.EngB.WD_eff rfl trivial (ZV (X:=[]) (base:=wg.heap.size) rfl (by decide) rfl rfl hrow2 (hs2.ext hW (by simp) (fun b hb=>.inr (hrow2.ob_le b (by simpa using hb)).1)) (by rw [Xw,Yad];omega) (by rw [Xw,Yad];simp only [maxLen];omega) hW.size) (fun _ _ h=>Go.EngB.StpB.of h.2.1 hW.size (fun b hb=>(hrow2.ob_le b hb).1)) rfl ?_
 rintro bv3 wk3 ⟨hrow3,hT,-⟩
 replace hW:=hW.own hT (fun b hb=>.inr (hrow2.ob_le b hb).1)
 clear hT hrow2
 refine Go.EngB.WD_free rfl trivial (fun w'=>ZL rfl) rfl ?_
 have hh':=hrow3.slv (X:=[b7,b4]) (fun b hb=>by
  simp at hb
  rcases hb with rfl|rfl
  exact l7'
  exact l4')
 replace k7:=k7.up hW
 replace k4:=k4.up hW
 replace hcv2:=hcv2.up hW
 replace hS:=hS.trans hW
 refine Go.EngB.WD_late0 rfl trivial (Zc (u:=bv3) rfl rfl hh'.cells hh'.one k7 (by simp [J7])) rfl ?_
 rintro _ wk4 ⟨hT,k7⟩
 replace k7:Blk wk4 b7 37 (J7 ⟨c.week,c.hols.take k++c.hols.drop (k+1),c.clos++[x]⟩ bv3 cv2 zo zs hr):=k7
 replace k4:=k4.ext hT (by simpa using n7.2.2)
 replace hcv2:=hcv2.ext hT (fun b hb=>by simp at hb;simp [hb]) (fun _ h=>.inl h)
 replace hh':=hh'.ext hT (fun b hb=>by simp at hb;simp [hb]) (fun _ h=>.inl h)
 replace hS:=hS.own hT (fun q hq=>.inr (by simp at hq;subst hq;omega))
 clear hT hW hrow3
 refine Go.EngB.WD_nil ?_
 refine W ?_
 refine Z1 (Z2 (us:=J7 ⟨c.week,c.hols.take k++c.hols.drop (k+1),c.clos++[x]⟩ bv3 cv2 zo zs hr) rfl rfl rfl rfl (Z03 hh'.one hcv2.one ho) k4 rfl) ?_
 rintro _ wk5 ⟨hT,k4⟩
 replace hcv2:=hcv2.ext (X':=[]) hT (fun b hb=>by simp at hb;simp [hb]) (by simp)
 replace hh':=hh'.ext (X':=[]) hT (fun b hb=>by simp at hb;simp [hb]) (by simp)
 replace hS:=hS.own hT (fun q hq=>.inr (by simp at hq;subst hq;exact n4.2.2))
 refine W ?_
 refine Zk rfl rfl rfl k4 rfl ?_
 exact .mk ⟨⟨c.week,c.hols.take k++c.hols.drop (k+1),c.clos++[x]⟩,bv3,cv2,rfl,⟨hh',hcv2,hcal.len.up hS,hcal.mov.up hS,⟨hcal.ok.week,fun h hh=>hcal.ok.hols h (by
  rcases Xn.1 hh with h1|h1
  exact Yab h1
  exact YaC h1),by simp only [Xd,Xw,Yad];omega⟩⟩,hS⟩
 focus repeat'(first|refine W1 ?_|omega|refine VG ?_ ?_<;>intro hg|refine VC ?_ ?_<;>intro hc)
 refine Z1 (Z2 (us:=J7 { c with clos:=c.clos++[x] } hv cv2 zo zs hr) rfl rfl rfl rfl (Z03 hcal.hols.one hcv2.one ho) k4 rfl) ?_
 rintro _ wk5 ⟨hT,k4⟩
 replace hcv2:=hcv2.ext (X':=[]) hT (fun b hb=>by simp at hb;simp [hb]) (by simp)
 replace hS:=hS.own hT (fun q hq=>.inr (by simp at hq;subst hq;exact n4.2.2))
 refine W ?_
 refine Zk rfl rfl rfl k4 rfl ?_
 exact .mk ⟨{ c with clos:=c.clos++[x] },hv,cv2,rfl,⟨hcal.hols.up hS,hcv2,hcal.len.up hS,hcal.mov.up hS,⟨hcal.ok.week,hcal.ok.hols,hcal.ok.few⟩⟩,hS⟩
def Zaz (o o':Int→Bool) (s:Spn):Prop:=∀ d,s.1≤d→d≤s.2→d≤s.1+3000→o d=o' d
theorem Z9w (c c':Cal) (hv cv hv' cv' zo zs hr sv:Value) (kn:Int) (sp:List Spn) (w:World) (hcal:Z1D w c hv cv zo zs hr) (hcal':Z1D w c' hv' cv' zo zs hr) (hsp:SlV [] w sv sp) (hrg:∀ s∈sp,Z9v s) :
 CC 30 #[Z1v c hv cv zo zs hr,Z1v c' hv' cv' zo zs hr,.int .i64 kn,sv] w fun r w'=>∃ b:Bool,r=.bool b∧(b=true→∀ s∈sp,Zaz (Zg c kn) (Zg c' kn) s)∧Stp [] w w':=by
 refine cW4 50 Tryz.func30 ?_
 refine W ?_
 refine Z3 (Zq rfl) rfl ?_
 rintro _ w1 ⟨b4,rfl,hb4,k4,hS⟩
 replace k4:Blk w1 b4 37 (J7 c hv cv zo zs hr):=k4
 refine Z3 (Zq rfl) rfl ?_
 rintro _ w2 ⟨b5,rfl,hb5,k5,hT⟩
 replace k5:Blk w2 b5 37 (J7 c' hv' cv' zo zs hr):=k5
 replace k4:=k4.up hT
 replace hS:=hS.trans hT
 clear hT
 replace hsp:=hsp.up hS
 replace hcal:=hcal.up hS
 replace hcal':=hcal'.up hS
 refine W ?_
 have hsp0:=hsp
 have k40:=k4
 have k50:=k5
 have hcal0:=hcal
 have hcal0':=hcal'
 have hmx:=hsp.max
 refine Zv (σ:=Nat) (fun i=>[(2,.int .i64 kn),(3,sv),(4,.pointer (some ⟨b4,0,none⟩)),(5,.pointer (some ⟨b5,0,none⟩)),(9,.int .i64 (i:Int))]) (fun i w'=>i≤sp.length∧(∀ j (h:j<sp.length),j<i→Zaz (Zg c kn) (Zg c' kn) sp[j])∧Stp [] w2 w') (fun i=>sp.length - i) 0 ⟨rfl,rfl,rfl,rfl,rfl,trivial⟩ ⟨Xu _,fun j h hj=>absurd hj (XB _),Stp.refl _ _⟩ ?_
 clear hsp k4 k5 hcal hcal'
 rintro i wi ⟨hi,hall,hB⟩
 have hsp:=hsp0.up hB
 by_cases hlt:i<sp.length
 have hlt2:(i:Int)<(sp.length:Int):=by omega
 obtain ⟨r1,r2,r3,r4⟩:=hrg _ (Xh hlt)
 focus repeat'(first|refine W1 ?_|omega|refine VG ?_ ?_<;>intro hg|refine VC ?_ ?_<;>intro hc)
 refine Z9b (σ:=Unit) (fun _=>[(2,.int .i64 kn),(3,sv),(4,.pointer (some ⟨b4,0,none⟩)),(5,.pointer (some ⟨b5,0,none⟩)),(9,.int .i64 (i:Int))]) (fun _ w'=>Zaz (Zg c kn) (Zg c' kn) sp[i]∧Stp [] w2 w') ?_ ?_
 refine Zv (σ:=Int) (fun d=>[(2,.int .i64 kn),(3,sv),(4,.pointer (some ⟨b4,0,none⟩)),(5,.pointer (some ⟨b5,0,none⟩)),(9,.int .i64 (i:Int)),(10,.int .i64 d)]) (fun d w'=>sp[i].1≤d∧d≤sp[i].1+3001∧(∀ e,sp[i].1≤e→e<d→Zg c kn e=Zg c' kn e)∧Stp [] w2 w') (fun d=>(sp[i].1+3001 - d).toNat) sp[i].1 ⟨rfl,rfl,rfl,rfl,rfl,rfl,trivial⟩ ⟨XN _,by omega,fun e h1 h2=>by omega,hB⟩ ?_
 clear hsp hB
 rintro d wj ⟨hd1,hd2,hal,hB⟩
 have hsp:=hsp0.up hB
 have k4:=k40.up hB
 have k5:=k50.up hB
 by_cases hin:d≤sp[i].2∧d≤sp[i].1+3000
 obtain ⟨hin1,hin2⟩:=hin
 focus repeat'(first|refine W1 ?_|omega|refine VG ?_ ?_<;>intro hg|refine VC ?_ ?_<;>intro hc)
 refine ZDr 9 [] [] [(0,1),(1,0),(2,0),(4,1),(5,0),(6,0),(3,2),(7,2),(8,0)] (fun w1 hS1=>?_)
 replace k4:=k4.up hS1
 replace k5:=k5.up hS1
 replace hB:=hB.trans hS1
 clear hS1
 refine D ?_
 refine WD_eff rfl trivial (Z5 rfl (Zu rfl rfl rfl) (Z9e d kn c hv cv zo zs hr _ (hcal0.up hB))) (fun _ _ h=>h.2) rfl ?_
 rintro _ wk ⟨rfl,hT⟩
 replace k4:=k4.up hT
 replace k5:=k5.up hT
 replace hB:=hB.trans hT
 clear hT
 refine D ?_
 refine WD_eff rfl trivial (Z5 rfl (Zu rfl rfl rfl) (Z9e d kn c' hv' cv' zo zs hr _ (hcal0'.up hB))) (fun _ _ h=>h.2) rfl ?_
 rintro _ wk ⟨rfl,hT⟩
 replace hB:=hB.trans hT
 clear hT
 refine D ?_
 focus repeat'(first|refine W1 ?_|omega|refine VG ?_ ?_<;>intro hg|refine VC ?_ ?_<;>intro hc)
 refine WR ?_
 exact .mk ⟨false,rfl,(fun h=>by cases h),hS.trans hB⟩
 refine Zp (d+1) ⟨rfl,rfl,rfl,rfl,rfl,rfl,trivial⟩ ⟨by omega,by omega,fun e h1 h2=>?_,hB⟩ (by omega)
 by_cases he:e=d
 subst he
 simpa using hc
 exact hal e h1 (by omega)
 · repeat'(first|refine W1 ?_|omega|refine VG ?_ ?_<;>intro hg|refine VC ?_ ?_<;>intro hc)
   all_goals exact ZC () ⟨rfl,rfl,rfl,rfl,rfl,trivial⟩ ⟨fun e h1 h2 h3=>hal e h1 (by omega),hB⟩
 rintro _ wj ⟨ha,hB⟩
 refine W ?_
 refine Zp (i+1) ⟨rfl,rfl,rfl,rfl,rfl,trivial⟩ ⟨hlt,fun j h hj=>?_,hB⟩ (by omega)
 by_cases hji:j=i
 subst hji;exact ha
 exact hall j h (by omega)
 have hie:i=sp.length:=by omega
 subst hie
 focus repeat'(first|refine W1 ?_|omega|refine VG ?_ ?_<;>intro hg|refine VC ?_ ?_<;>intro hc)
 refine WR ?_
 exact .mk ⟨true,rfl,fun _ s hs=>by
  obtain ⟨j,hj,rfl⟩:=Xo hs
  exact hall j hj hj,hS.trans hB⟩
theorem ZjZ (v0 v1 v2:Value) (l0 l1 l2:List Int) (kd kz:Int) (er:Value) (m:Int) (dz:List Int) (w:World) (h0:SlV [] w v0 l0) (h1:SlV [] w v1 l1) (h2:SlV [] w v2 l2) (hi0:∀ a∈l0,I64 a) (hi1:∀ a∈l1,I64 a) (hi2:∀ a∈l2,I64 a) (hkd:I64 kd) (hkz:I64 kz) (hF:SlV [] w Z2l Z8) (hL:JY w) (hM:Z1S w) (hm:w.cell? ⟨2,0,none⟩=some (.int .i64 m)) (hv4:w.cell? ⟨5,0,none⟩=some er) (hev4:er=.nilIface∨∃ te pe,er=.iface te pe) (hdl:dz.length=4) (hdz:∀ z∈dz,I64 z) :
 CC 8 #[Z9j v0 v1 v2 kd kz,.agg (dz.map fun z=>Value.int .i64 z).toArray] w fun r w'=>r=.bool true∧Stp [] w w':=by
 refine cW2 63 Tryz.func8 ?_
 refine W ?_
 refine Z3 (Zq rfl) rfl ?_
 rintro _ w1 ⟨b1,rfl,hb1,k1,hS⟩
 replace k1:Blk w1 b1 24 [v0,v1,v2,.int .i64 kd,.int .i64 kz]:=k1
 refine Z3 (Zq rfl) rfl ?_
 rintro _ w1b ⟨b2,rfl,hb2,k2,hT⟩
 replace k2:Blk w1b b2 79 (dz.map fun z=>Value.int .i64 z):=k2
 replace k1:=k1.up hT
 replace hS:=hS.trans hT
 clear hT
 obtain ⟨d0,d1,d2,d3,rfl⟩:∃ d0 d1 d2 d3,dz=[d0,d1,d2,d3]:=by
  match dz,hdl with
  | [d0,d1,d2,d3],_=>exact ⟨d0,d1,d2,d3,rfl⟩
 simp only [Xl,Xs] at k2
 refine W ?_
 refine CL rfl (Zr rfl) rfl (Z3F v0 v1 v2 l0 l1 l2 kd kz _ (h0.up hS) (h1.up hS) (h2.up hS) hi0 hi1 hi2 hkd hkz (hL.up hS) (hM.up hS)) ?_
 rintro _ w2 ⟨y,t,ky,ev,c,hv,cv,zo,zs,hr,kn,rfl,hg,hky,hev,hcal,ho,hcs,hkn,hT⟩
 replace k1:=k1.up hT
 replace k2:=k2.up hT
 replace hS:=hS.trans hT
 clear hT
 have hone:=hky.one
 refine W ?_
 refine Z3 Z6 rfl ?_
 rintro _ w3 ⟨b3,rfl,hb3,k3,hA⟩
 have lt3:=k3.lt
 refine Z3 Z6 rfl ?_
 rintro _ w4 ⟨b4,rfl,hb4,k4,hT⟩
 have gz4:=hA.size
 replace k3:=k3.up hT
 replace hA:=hA.trans hT
 clear hT
 have lt4:=k4.lt
 refine Z3 Z6 rfl ?_
 rintro _ w5 ⟨b5,rfl,hb5,k5,hT⟩
 have gz5:=hA.size
 replace k3:=k3.up hT
 replace k4:=k4.up hT
 replace hA:=hA.trans hT
 clear hT
 refine Z1 (Z2 (us:=ndC y ky) rfl rfl rfl rfl (Zh hky) k3 rfl) ?_
 rintro _ w6 ⟨hT,k3⟩
 replace k4:=k4.ext hT (by simp;omega)
 replace k5:=k5.ext hT (by simp;omega)
 replace hA:=hA.own hT (fun c hc=>.inr (by simp at hc;omega))
 clear hT
 refine Z1 (Z2 (us:=evC ev) rfl rfl rfl rfl (JQ _) k4 rfl) ?_
 rintro _ w7 ⟨hT,k4⟩
 replace k3:=k3.ext hT (by simp;omega)
 replace k5:=k5.ext hT (by simp;omega)
 replace hA:=hA.own hT (fun c hc=>.inr (by simp at hc;omega))
 clear hT
 refine Z1 (Z2 (us:=J7 c hv cv zo zs hr) rfl rfl rfl rfl (Z03 hcal.hols.one hcal.clos.one ho) k5 rfl) ?_
 rintro _ w8 ⟨hT,k5⟩
 replace k3:=k3.ext hT (by simp;omega)
 replace k4:=k4.ext hT (by simp;omega)
 replace hA:=hA.own hT (fun c hc=>.inr (by simp at hc;omega))
 clear hT gz4 gz5
 replace hky:=hky.up hA
 replace hcal:=hcal.up hA
 replace k1:=k1.up hA
 replace k2:=k2.up hA
 replace hS:=hS.trans hA
 clear hA
 have hty:=hg.type
 have htn:Z9 y≠0:=by rw [hty];exact hg.ne
 have hn5:Zn y≤5:=hg.nest
 have hn16:Zn y≤16:=by omega
 refine W ?_
 refine CL rfl (Zr rfl) rfl (Z1k _ y _ (Xi hg.size (by decide)) ⟨ky,rfl,hky⟩ (hF.up hS)) ?_
 rintro _ w9 ⟨xv,rfl,hxv,hT⟩
 have hc0:=hxv [] (by simp)
 clear hxv
 replace k1:=k1.up hT
 replace k3:=k3.up hT
 replace k4:=k4.up hT
 replace k5:=k5.up hT
 replace hky:=hky.up hT
 replace hcal:=hcal.up hT
 replace k2:=k2.up hT
 replace hS:=hS.trans hT
 clear hT
 by_cases he:Z3h y=0
 · rw [if_pos he] at hc0
   rw [he]
   have hver:=Z68 he
   repeat'(first|refine W1 ?_|omega|refine VG ?_ ?_<;>intro hg|refine VC ?_ ?_<;>intro hc)
   all_goals try (exact absurd rfl (by assumption))
   refine CL rfl (Zb rfl rfl) rfl (Z6v c hv cv zo zs hr [d0,d1,d2,d3] _ hcal ho hdl hdz hcs.c3) ?_
   rintro _ wc ⟨c',hv',cv',rfl,hcal',hT⟩
   replace k1:=k1.up hT
   replace k3:=k3.up hT
   replace k4:=k4.up hT
   replace k5:=k5.up hT
   replace hky:=hky.up hT
   replace hcal:=hcal.up hT
   replace k2:=k2.up hT
   replace hc0:=hc0.up hT
   replace hS:=hS.trans hT
   clear hT
   refine Z3 Z6 rfl ?_
   rintro _ wd ⟨b6,rfl,hb6,k6,hT⟩
   refine Z1 (Z2 (us:=J7 c' hv' cv' zo zs hr) rfl rfl rfl rfl (Z03 hcal'.hols.one hcal'.clos.one ho) k6 rfl) ?_
   rintro _ we ⟨hT2,k6⟩
   replace hT:=Je hT hb6 hT2
   clear hT2
   replace k1:=k1.up hT
   replace k3:=k3.up hT
   replace k4:=k4.up hT
   replace k5:=k5.up hT
   replace hky:=hky.up hT
   replace hcal:=hcal.up hT
   replace hcal':=hcal'.up hT
   replace k2:=k2.up hT
   replace hc0:=hc0.up hT
   replace hS:=hS.trans hT
   clear hT
   refine W ?_
   refine CL rfl (Z15 rfl rfl rfl rfl) rfl (Z1w xv (J4 y) (Z9 y) kn ev c hv cv zo zs hr _ hc0 hver hcal hev ho) ?_
   rintro _ wR ⟨pv,rfl,hp⟩
   have hsp:=hp.slv (X:=[]) (by simp)
   have hT:=hp.2
   clear hp
   replace k1:=k1.up hT
   replace k3:=k3.up hT
   replace k4:=k4.up hT
   replace k5:=k5.up hT
   replace hky:=hky.up hT
   replace hcal:=hcal.up hT
   replace hc0:=hc0.up hT
   replace k6:=k6.up hT
   replace hcal':=hcal'.up hT
   replace hS:=hS.trans hT
   clear hT
   have hrunE:J1 (Zg c kn) ev (J4 y)=((J1 (Zg c kn) ev (J4 y)).1,(J1 (Zg c kn) ev (J4 y)).2.1,(J1 (Zg c kn) ev (J4 y)).2.2):=rfl
   have hshort:=Z81 hcs kn ev (J4 y)
   have hrng:=Zay (Zg c kn) ev (J4 y)
   generalize (J1 (Zg c kn) ev (J4 y)).1=r1 at *
   generalize (J1 (Zg c kn) ev (J4 y)).2.1=r2 at *
   generalize (J1 (Zg c kn) ev (J4 y)).2.2=r3 at *
   by_cases hr3:r3=0
   · subst hr3
     repeat'(first|refine W1 ?_|omega|refine VG ?_ ?_<;>intro hg|refine VC ?_ ?_<;>intro hc)
     all_goals try (exact absurd rfl (by assumption))
     refine CL rfl (Z15 rfl rfl rfl rfl) rfl (Z9w c c' hv cv hv' cv' zo zs hr pv kn r2 _ hcal hcal' hsp hrng) ?_
     rintro _ wA ⟨b,rfl,hal,hT⟩
     replace k1:=k1.up hT
     replace k3:=k3.up hT
     replace k4:=k4.up hT
     replace k5:=k5.up hT
     replace hky:=hky.up hT
     replace hcal:=hcal.up hT
     replace hc0:=hc0.up hT
     replace k6:=k6.up hT
     replace hcal':=hcal'.up hT
     replace hsp:=hsp.up hT
     replace hS:=hS.trans hT
     clear hT
     cases b with
     | false=>
       repeat'(first|refine W1 ?_|omega|refine VG ?_ ?_<;>intro hg|refine VC ?_ ?_<;>intro hc)
       all_goals try (exact absurd rfl (by assumption))
       refine CL rfl Z3f rfl (JA er m _ (hL.up hS) (hM.up hS) (hS.cell (by simp) hm) (hS.cell (by simp) hv4) hev4) ?_
       rintro _ wl ⟨rfl,hT⟩
       replace hS:=hS.trans hT
       clear hT
       refine W ?_
       refine WR ?_
       exact .mk ⟨rfl,hS⟩
     | true=>
       repeat'(first|refine W1 ?_|omega|refine VG ?_ ?_<;>intro hg|refine VC ?_ ?_<;>intro hc)
       all_goals try (exact absurd rfl (by assumption))
       have hrun':J1 (Zg c' kn) ev (J4 y)=(r1,r2,0):=Z7Z hrunE (fun s hs d h1 h2=>hal rfl s hs d h1 h2 (by have:=hshort s hs;omega))
       refine CL rfl (ZjV rfl rfl rfl rfl rfl rfl rfl) rfl (Z6a xv pv (J4 y) (Z9 y) kn r1 0 r2 ev c' hv' cv' zo zs hr _ hc0 hver hcal' hev ho hsp hrun') ?_
       rintro _ ws ⟨rfl,hT⟩
       replace hS:=hS.trans hT
       clear hT
       refine W ?_
       refine CL rfl Z3f rfl (JA er m _ (hL.up hS) (hM.up hS) (hS.cell (by simp) hm) (hS.cell (by simp) hv4) hev4) ?_
       rintro _ wl ⟨rfl,hT⟩
       replace hS:=hS.trans hT
       clear hT
       refine W ?_
       refine WR ?_
       exact .mk ⟨by simp,hS⟩
   · repeat'(first|refine W1 ?_|omega|refine VG ?_ ?_<;>intro hg|refine VC ?_ ?_<;>intro hc)
     all_goals try (exact absurd (by assumption) hr3)
     refine CL rfl Z3f rfl (JA er m _ (hL.up hS) (hM.up hS) (hS.cell (by simp) hm) (hS.cell (by simp) hv4) hev4) ?_
     rintro _ wl ⟨rfl,hT⟩
     replace hS:=hS.trans hT
     clear hT
     refine W ?_
     refine WR ?_
     exact .mk ⟨rfl,hS⟩
 · repeat'(first|refine W1 ?_|omega|refine VG ?_ ?_<;>intro hg|refine VC ?_ ?_<;>intro hc)
   all_goals try (exact absurd rfl (by assumption))
   refine CL rfl Z3f rfl (JA er m _ (hL.up hS) (hM.up hS) (hS.cell (by simp) hm) (hS.cell (by simp) hv4) hev4) ?_
   rintro _ wl ⟨rfl,hT⟩
   replace hS:=hS.trans hT
   clear hT
   refine W ?_
   refine WR ?_
   exact .mk ⟨rfl,hS⟩
end Go.Proofs.YtjdjdoefppebkaaGreatDoor
