/-
Contracts and plain laws, merged out of own texts.
-/
import Derived.Test.YtgdicjnjhchooaaGreatDoorM7
import Derived.JoinedOf
set_option linter.unusedVariables false
set_option linter.unusedSimpArgs false
set_option maxHeartbeats 4000000
set_option maxRecDepth 20000
namespace Go.Proofs.YtgdicjnjhchooaaGreatDoor
open Go Go.Eng Go.RowKit Go.Proofs Go.ChangeShapes Go.WideShapes Go.Deep
theorem ZfP {W:World} (h:Z7D Tryz.prog W "rollbook/holiday.moves" Rows.laid_rollbook_holiday_moves):Z2d W:=by
 obtain ⟨g0,t0,cs0,f0,p0,jw,lm,jB,dx⟩:=h;have hg:Tryz.prog.globalNamed "rollbook/holiday.moves" = some 2:=by kernel_rfl
 have ht:(Tryz.prog.globals[2]?).map (·.type)=some 367:=by kernel_rfl
 obtain rfl:=XU (hg.symm.trans jw);obtain rfl:=XU (ht.symm.trans lm);obtain ⟨xs,m1,rfl,fZ,ak,dJ,cZ⟩:=DataW.trod_array Tryz.underlying367 dx;have sS:Tryz.prog.cellsOf 230=7:=by kernel_rfl
 have e3:(Rows.laid_rollbook_holiday_moves:DataW Unit)=.agg (xs.map (·.1)):=congrArg Prod.fst fZ;have e4:(.agg [Lib.tabData .i64 [0,0,0,0,0,0,0],Lib.tabData .i64 [0,0,0,0,0,2,1],Lib.tabData .i64 [0,0,0,0,0,-1,1]]:DataW Unit)=.agg (xs.map (·.1)):=e3;simp only [DataW.agg.injEq] at e4;have row:∀ (k:Nat) (zs:List Int),k<3->[Lib.tabData .i64 [0,0,0,0,0,0,0],Lib.tabData .i64 [0,0,0,0,0,2,1],(Lib.tabData .i64 [0,0,0,0,0,-1,1]:DataW Unit)][k]?=some (Lib.tabData .i64 zs)->(cs0.toList.drop (k * 7)).take 7=zs.map λz=>Value.int .i64 z:=by
  intro k zs hk hz;have h1:=cZ k hk;rw [sS] at h1;rw [e4,Yai] at hz;cases hx:xs[k]? with
  | none=>rw [hx] at hz;cases hz
  | some y=>
    rw [hx] at hz h1;have hy:y=(Lib.tabData .i64 zs,y.2):=Prod.ext (XU hz) rfl;rw [hy] at h1;exact Lib.cells_of_tab (t:=230) (e:=3) (n:=7) Tryz.underlying230 Tryz.underlying3 (by kernel_rfl) sS h1
 have r0:=row 0 _ (by omega) rfl;have r1:=row 1 _ (by omega) rfl;have r2:=row 2 _ (by omega) rfl;have am:∀ (k:Nat) (zs:List Int) (j:Nat),(cs0.toList.drop (k * 7)).take 7=(zs.map λz=>Value.int .i64 z)->j<7->j<zs.length->cs0.toList[k * 7+j]?=some (.I (zs.getD j 0)):=by
  intro k zs j hr hj aT;have h6:=congrArg (λl=>l[j]?) hr;simp only [Yaq,YbF,Yai,if_pos hj] at h6;rw [h6];simp [List.getD,aT]
 intro i u hu;have hi:=(Xw.1 hu).1;have wF:i<21:=hi;have hv:=World.var?_cell hg jB i;rw [hv,<- YaR];by_cases h7:i<7;have h2:=am 0 _ i r0 h7 (by simpa using h7);rw [show 0 * 7+i=i by omega] at h2;rw [h2];have hk:i=0\/i=1\/i=2\/i=3\/i=4\/i=5\/i=6:=by omega
 rcases hk with rfl|rfl|rfl|rfl|rfl|rfl|rfl<;>(simp [Z3p] at hu;subst hu;rfl)
 by_cases cw:i<14;have h2:=am 1 _ (i - 7) r1 (by omega) (by simp;omega);rw [show 1 * 7+(i - 7)=i by omega] at h2;rw [h2];have hk:i=7\/i=8\/i=9\/i=10\/i=11\/i=12\/i=13:=by omega
 rcases hk with rfl|rfl|rfl|rfl|rfl|rfl|rfl<;>(simp [Z3p] at hu;subst hu;rfl)
 have h2:=am 2 _ (i - 14) r2 (by omega) (by simp;omega);rw [show 2 * 7+(i - 14)=i by omega] at h2;rw [h2];have hk:i=14\/i=15\/i=16\/i=17\/i=18\/i=19\/i=20:=by omega
 rcases hk with rfl|rfl|rfl|rfl|rfl|rfl|rfl<;>(simp [Z3p] at hu;subst hu;rfl)
abbrev Z7E:List (String×DataW Unit):=[("math/bits.deBruijn32tab",Rows.laid_math_bits_deBruijn32tab),("math/bits.deBruijn64tab",Rows.laid_math_bits_deBruijn64tab),("internal/strconv.uint64pow10",Rows.laid_internal_strconv_uint64pow10),("strconv.ErrRange",Rows.laid_strconv_ErrRange),("strconv.ErrSyntax",Rows.laid_strconv_ErrSyntax),("rollbook/date.lengths",Rows.laid_rollbook_date_lengths),("rollbook/holiday.moves",Rows.laid_rollbook_holiday_moves)]
abbrev ZbR:List (String×DataW Unit):=Z7E++[("rollbook/types.fields",Rows.laid_rollbook_types_fields)]
theorem ZbS {W:World} (h1:Z7D Tryz.prog W "rollbook/date.lengths" Rows.laid_rollbook_date_lengths):Z0K W:=by
 have h2:=ZfO (k:=.i64) (zs:=Z2m) (g:=1) (t:=328) (e:=3) (n:=13) h1 (by kernel_rfl) (by kernel_rfl) Tryz.underlying328 Tryz.underlying3 (by kernel_rfl) (by kernel_rfl);intro i u hu;have hi:=(Xw.1 hu).1;rw [Lib.TabIs.cell h2 (g:=1) (by kernel_rfl) i hi];simp [List.getD,hu]
theorem Zdg {W:World} (h1:Z7D Tryz.prog W "rollbook/types.fields" Rows.laid_rollbook_types_fields):SlV [] W Zag Zj:=by
 have hc:=Zdf (g:=0) (t:=307) (e:=9) (n:=7) (ss:=Zj) (by kernel_rfl) (by kernel_rfl) Tryz.underlying307 Tryz.underlying9 (by kernel_rfl) rfl h1;have hlt:0<W.heap.size:=block_lt_of_cell (a:=⟨0,0,none⟩) (hc 0 (by decide));refine ⟨some ⟨0,0,none⟩,7,rfl,by decide,by decide,(λh=>by cases h),λi hi=>⟨0,0,[str Zj[i]],rfl,hlt,by simp,rfl,λj u hu=>?_⟩⟩;have hj:j=0:=by
  have:=(Xw.1 hu).1;simp at this;exact this
 subst hj;simp at hu;subst hu;have:=hc i hi;simpa [Z6.k,Z2.k] using this
structure ZmM (W:World):Prop where
 len:Z0K W
 mov:Z2d W
 err:∃ er,W.cell? ⟨5,0,none⟩=some er/\(er=.nilIface\/∃ te pe,er=.iface te pe)
theorem ZjC {W:World} {l:List (String×DataW Unit)} {ps:List MemPlace} (h:DataW.LaidVars Tryz.prog W l ps) (h1:("rollbook/date.lengths",Rows.laid_rollbook_date_lengths)∈l) (h2:("rollbook/holiday.moves",Rows.laid_rollbook_holiday_moves)∈l) (h3:("strconv.ErrRange",Rows.laid_strconv_ErrRange)∈l):ZmM W:=
 ⟨ZbS (Z3G _ _ h _ _ h1),ZfP (Z3G _ _ h _ _ h2),ZbQ (g:=5) (t:=339) (by kernel_rfl) (by kernel_rfl) Tryz.underlying339 (Z3G _ _ h _ _ h3)⟩
theorem ZqZ {W:World} (h:laidMetH Tryz.prog ZbR W):ZmM W/\SlV [] W Zag Zj:=by
 rw [MakeChecks.laidMetH_plain _ _ _ (by kernel_rfl)] at h;obtain ⟨ps,h,_⟩:=h;exact ⟨ZjC h (by simp [ZbR,Z7E]) (by simp [ZbR,Z7E]) (by simp [ZbR,Z7E]),Zdg (Z3G _ _ h _ _ (by simp [ZbR,Z7E]))⟩
end Go.Proofs.YtgdicjnjhchooaaGreatDoor
namespace Go.Eng
open Go Go.RowKit Go.Proofs Go.ChangeShapes Go.WideShapes Go.Deep
def Z5j (P:Program) (lo n:Nat):Bool:=(List.range n).all λi=>!((P.funcs[lo+i]?).any Func.goes)
theorem Z0i {P:Program} {lo n g:Nat} (h:Z5j P lo n=true) (h1:lo<=g) (h2:g<lo+n):(P.funcs[g]?).any Func.goes=false:=by
 have:=XQ.1 h (g - lo) (List.mem_range.2 (by omega));rw [show lo+(g - lo)=g by omega] at this;simpa using this
theorem Zux {P:Program} (h:∀ g:Nat,(P.funcs[g]?).any Func.goes=false) {c:OpenClaim} (hs:c.start=.entering):false=c.goesBy P:=by
 symm;have aP:P.funcs.any Func.goes=false:=by
  rw [Array.any_eq_false];intro i hi hg;have:=h i;rw [Array.getElem?_eq_getElem hi] at this;simp only [Option.any_some] at this;rw [this] at hg;cases hg
 have fj:∀ f,P.goes f=false:=by
  intro f;unfold Program.goes;rw [aP,Ybs,Bool.or_false];rw [YaH];intro hc;have eC:=hc;simp [h] at eC
 unfold OpenClaim.goesBy Program.goesAt Program.goesFrom;rw [hs];cases hf:P.funcNamed c.func with
 | none=>rfl
 | some f=>simp [fj]
theorem Zmu {P:Program} {f:FuncId} {fn:Func} {s:ChangeSpec} {c:OpenClaim} (a1:c.wf (OpenSpec.ofChange s)=true) (a2:laidOutB P=true) (a3:mapsRowed P=true) (a4:fn.params.all (P.readableRec ·)=true) (a5:namedTie P c.named s.vars=true)
 (a6:((c.stops == []) && (P.stops == []) && (c.knobs == []) && (P.stopKnobs == []))=true)
 (h2:(c.inPlace == P.inPlace f)=true) (h3:(c.unfollowed == P.unfollowed f)=true) (h4:(c.recurses == P.recurses f)=true) (h5:(c.named == P.varsNamed f)=true)
 (h6 : ((c.maps == (fn.params.toList ++ s.plain.varTypes P).any (P.mapsRec ·)) && (c.ifaces == (fn.params.toList ++ s.plain.varTypes P).any (P.ifacesRec ·)) && (c.mapsOut == P.mapsAmong fn.resultTypes.toList) &&
   (c.loops == (fn.params.toList++s.plain.varTypes P).any (P.loopsFrom ·)) && (c.wideKeys == (fn.params.toList++s.plain.varTypes P++fn.resultTypes.toList).any (P.wideKeysFrom ·)) &&
   s.vars.all (P.varReadable ·) && fn.resultTypes.all (λt=>P.readableRec t && decide (t<P.types.size)) && (c.ifacesOut == fn.resultTypes.toList.any (P.ifacesRec ·)) && (c.loopsOut == fn.resultTypes.toList.any (P.loopsFrom ·)) && (c.plainKeys == P.plainKeys) && c.shortTexts.isNone && P.stopsHeard && P.mayEnter && (c.lifted == P.liftsFinal) && (P.make == some c.make) && (c.kinds == (if c.domain.isEmpty then [] else fn.params.toList.map λt=>match P.underlying t with|some (.int k)=>some k|_=>none)) && (c.pinned == c.pinnedBy) &&
   (c.veiled == (fn.params.toList++s.plain.varTypes P++fn.resultTypes.toList).any (P.veiledRec ·)) && c.veiledFits P fn.params.toList (fn.params.toList++s.plain.varTypes P++fn.resultTypes.toList))=true) :
 joinedFacts P f fn s c=true:=by
 simp only [Xf] at a6 h6;unfold joinedFacts;simp only [Xf];exact ⟨⟨⟨⟨⟨⟨⟨⟨⟨⟨⟨⟨⟨⟨⟨⟨⟨⟨⟨⟨⟨⟨⟨⟨⟨⟨⟨⟨⟨⟨⟨a1,a2⟩,a3⟩,a4⟩,a5⟩,a6.1.1.1⟩,a6.1.1.2⟩,a6.1.2⟩,a6.2⟩,h2⟩,h3⟩,h4⟩,h5⟩,h6.1.1.1.1.1.1.1.1.1.1.1.1.1.1.1.1.1.1⟩,h6.1.1.1.1.1.1.1.1.1.1.1.1.1.1.1.1.1.2⟩,h6.1.1.1.1.1.1.1.1.1.1.1.1.1.1.1.1.2⟩,h6.1.1.1.1.1.1.1.1.1.1.1.1.1.1.1.2⟩,h6.1.1.1.1.1.1.1.1.1.1.1.1.1.1.2⟩,h6.1.1.1.1.1.1.1.1.1.1.1.1.1.2⟩,h6.1.1.1.1.1.1.1.1.1.1.1.1.2⟩,h6.1.1.1.1.1.1.1.1.1.1.1.2⟩,h6.1.1.1.1.1.1.1.1.1.1.2⟩,h6.1.1.1.1.1.1.1.1.1.2⟩,h6.1.1.1.1.1.1.1.1.2⟩,h6.1.1.1.1.1.1.1.2⟩,h6.1.1.1.1.1.1.2⟩,h6.1.1.1.1.1.2⟩,h6.1.1.1.1.2⟩,h6.1.1.1.2⟩,h6.1.1.2⟩,h6.1.2⟩,h6.2⟩
end Go.Eng
namespace Go.Proofs.YtgdicjnjhchooaaGreatDoor
open Go Go.Eng Go.RowKit Go.Proofs Go.ChangeShapes Go.WideShapes Go.Deep
theorem Zut:mapsRowed Tryz.prog=true:=by kernel_rfl
theorem ZjD:Tryz.prog.funcs.size=435:=by kernel_rfl
theorem ZfQ:Z5j Tryz.prog 0 34=true:=by kernel_rfl
theorem ZfR:Z5j Tryz.prog 34 34=true:=by kernel_rfl
theorem ZfS:Z5j Tryz.prog 68 34=true:=by kernel_rfl
theorem ZfT:Z5j Tryz.prog 102 34=true:=by kernel_rfl
theorem ZfU:Z5j Tryz.prog 136 34=true:=by kernel_rfl
theorem ZfV:Z5j Tryz.prog 170 34=true:=by kernel_rfl
theorem ZfW:Z5j Tryz.prog 204 34=true:=by kernel_rfl
theorem ZfX:Z5j Tryz.prog 238 34=true:=by kernel_rfl
theorem ZfY:Z5j Tryz.prog 272 34=true:=by kernel_rfl
theorem ZfZ:Z5j Tryz.prog 306 34=true:=by kernel_rfl
theorem Zdh:Z5j Tryz.prog 340 34=true:=by kernel_rfl
theorem Zdi:Z5j Tryz.prog 374 34=true:=by kernel_rfl
theorem Zdj:Z5j Tryz.prog 408 27=true:=by kernel_rfl
theorem Zuu:∀ g:Nat,(Tryz.prog.funcs[g]?).any Func.goes=false:=λg=>by
 by_cases h:g<435;by_cases h0:g<34;exact Z0i ZfQ (by omega) (by omega);by_cases h1:g<68;exact Z0i ZfR (by omega) (by omega);by_cases h2:g<102;exact Z0i ZfS (by omega) (by omega);by_cases h3:g<136;exact Z0i ZfT (by omega) (by omega);by_cases h4:g<170;exact Z0i ZfU (by omega) (by omega);by_cases h5:g<204;exact Z0i ZfV (by omega) (by omega);by_cases h6:g<238;exact Z0i ZfW (by omega) (by omega);by_cases h7:g<272;exact Z0i ZfX (by omega) (by omega);by_cases h8:g<306;exact Z0i ZfY (by omega) (by omega);by_cases h9:g<340;exact Z0i ZfZ (by omega) (by omega);by_cases gt:g<374;exact Z0i Zdh (by omega) (by omega);by_cases xO:g<408;exact Z0i Zdi (by omega) (by omega);exact Z0i Zdj (by omega) (by omega);rw [Ya3 (by rw [ZjD];omega)];rfl
end Go.Proofs.YtgdicjnjhchooaaGreatDoor
