/- Own texts of this claim, part 9: short, merged. -/
import Derived.Test.YthaobmpdjcoheaaGreatZ1
set_option maxRecDepth 100000
set_option maxHeartbeats 40000000
set_option linter.defProp false
set_option linter.unusedVariables false
set_option linter.unusedSimpArgs false
namespace Go.Proofs.YthaobmpdjcoheaaGreat
namespace bf
def Uw(c1:aM)(bB:Int)(jg:iz)(w:World)(e:Int→World→Prop):Prop:=bO 60 g0 jg w fun a6 a_=>M Pg 210 [.pointer (c1),.int .i64 (bB)] (B .i64) a_ fun bX b2=>if (bX != (0:Int))=true then (e bX b2) else (ex (L g0 a6 b2) fun cT=>M Pg 216 [.pointer (c1),g0.enc (cT)] (bw (B .i64) (B .i64)) b2 fun a2 b3=>if (a2.2 != (0:Int))=true then (e a2.2 b3) else (dl b3 fun cN=>ex (bK c1) fun fO=>ex (L ek (fO.add 3) cN) fun dU=>ex (L (B .i64) (a6.add 0) cN) fun eA=>ex (L g0 a6 cN) fun fu=>qk iB .i64 dU eA (⟨fu,bB,a2.1⟩:rM) cN fun dQ=>dl dQ fun c2=>ex (L ek (fO.add 4) c2) fun cW=>ex (L (B .i64) (a6.add 1) c2) fun hL=>ex (L (B .i64) (a6.add 0) c2) fun gh=>qk (B .i64) .i64 cW hL gh c2 fun ew=>dl ew fun e4=>ex (L ek (fO.add 5) e4) fun mN=>ex (L (B .i64) (a6.add 0) e4) fun l1=>qk lD .i64 mN l1 (⟨(1:Int),bB⟩:qT) e4 fun ix=>M Pg 215 [.pointer (c1),.int .i64 (bB)] dZ ix fun fA e5=>e (0:Int) e5))
theorem agZ{c1 bB jg w e}(h:Uw c1 bB jg w e):M Pg 170 [.pointer c1,.int .i64 bB,g0.enc jg] (B .i64) w e:=by
 have ga:=en 8 (dB [0,1,2,4,7,8,3,5,6,9,10] .j)
 have rT:=en 9 (dB [0,1,2,4,6,3,5,7,8] .j)
 have Dz:=en 10 (dB [0,1,2,4,6,7,3,5,8] .j)
 exact bq 54 Tryz.func170 rfl rfl br
def xm(bS:aM)(rq:Int)(ami:Addr)(aG1:Addr)(aEN:Addr)(b2:World)(e:cm→World→Prop):Prop:=if (rq==(3:Int))=true then (ex (bK bS) fun cg=>ex (L aD (cg.add 1) b2) fun cT=>e (cm.mk (.func 220) (List.toArray [.pointer (cT)]) (List.toArray [])) b2) else (if (rq==(4:Int))=true then (e (cm.mk (.func 221) (List.toArray []) (List.toArray [.pointer (some ami)])) b2) else (if (rq==(5:Int))=true then (e (cm.mk (.func 222) (List.toArray []) (List.toArray [.pointer (some aG1)])) b2) else (e (cm.mk (.func 223) (List.toArray []) (List.toArray [.pointer (some aEN)])) b2)))
def Ux(bS:aM)(rq:Int)(w:World)(e:cm→World→Prop):Prop:=dl w fun cA=>ex (bK bS) fun eO=>ex (L aD (eO.add 1) cA) fun eA=>ex (L aD (eO.add 1) cA) fun fu=>ex (L aD (eO.add 1) cA) fun bJ=>sH (bO 107 gg cm.nil cA fun lc fW=>sH (bO 143 gg cm.nil fW fun i_ eE=>bO 143 gg cm.nil eE fun ja e4=>bd gg lc (cm.mk (.func 217) (List.toArray [.pointer (eA)]) (List.toArray [])) e4 fun ep=>bE ((L aD (eO.add 1) ep) fu)<|bE ((L aD (eO.add 1) ep) bJ)<|bd gg i_ (cm.mk (.func 218) (List.toArray [.pointer (fu)]) (List.toArray [])) ep fun e5=>bE ((L aD (eO.add 1) e5) bJ)<|bd gg ja (cm.mk (.func 219) (List.toArray [.pointer (bJ)]) (List.toArray [])) e5 fun f_=>xm bS rq lc i_ ja f_ e) (bO 143 gg cm.nil fW fun wb gR=>bO 143 gg cm.nil gR fun Bb gT=>bd gg lc (cm.mk (.func 217) (List.toArray [.pointer (eA)]) (List.toArray [])) gT fun iy=>bE ((L aD (eO.add 1) iy) fu)<|bE ((L aD (eO.add 1) iy) bJ)<|bd gg Bb (cm.mk (.func 218) (List.toArray [.pointer (fu)]) (List.toArray [])) iy fun lu=>bE ((L aD (eO.add 1) lu) bJ)<|bd gg wb (cm.mk (.func 219) (List.toArray [.pointer (bJ)]) (List.toArray [])) lu fun mn=>xm bS rq lc Bb wb mn e)) (sH (bO 143 gg cm.nil cA fun oY kP=>sH (bO 107 gg cm.nil kP fun uN vT=>bO 143 gg cm.nil vT fun xC uy=>bd gg uN (cm.mk (.func 217) (List.toArray [.pointer (eA)]) (List.toArray [])) uy fun oc=>bE ((L aD (eO.add 1) oc) fu)<|bE ((L aD (eO.add 1) oc) bJ)<|bd gg oY (cm.mk (.func 218) (List.toArray [.pointer (fu)]) (List.toArray [])) oc fun p2=>bE ((L aD (eO.add 1) p2) bJ)<|bd gg xC (cm.mk (.func 219) (List.toArray [.pointer (bJ)]) (List.toArray [])) p2 fun qH=>xm bS rq uN oY xC qH e) (bO 143 gg cm.nil kP fun Xf vU=>bO 107 gg cm.nil vU fun NU S0=>bd gg NU (cm.mk (.func 217) (List.toArray [.pointer (eA)]) (List.toArray [])) S0 fun sv=>bE ((L aD (eO.add 1) sv) fu)<|bE ((L aD (eO.add 1) sv) bJ)<|bd gg oY (cm.mk (.func 218) (List.toArray [.pointer (fu)]) (List.toArray [])) sv fun tl=>bE ((L aD (eO.add 1) tl) bJ)<|bd gg Xf (cm.mk (.func 219) (List.toArray [.pointer (bJ)]) (List.toArray [])) tl fun aIB=>xm bS rq NU oY Xf aIB e)) (bO 143 gg cm.nil cA fun I2 xf=>sH (bO 107 gg cm.nil xf fun Dl xg=>bO 143 gg cm.nil xg fun Xh CD=>bd gg Dl (cm.mk (.func 217) (List.toArray [.pointer (eA)]) (List.toArray [])) CD fun AF=>bE ((L aD (eO.add 1) AF) fu)<|bE ((L aD (eO.add 1) AF) bJ)<|bd gg Xh (cm.mk (.func 218) (List.toArray [.pointer (fu)]) (List.toArray [])) AF fun Im=>bE ((L aD (eO.add 1) Im) bJ)<|bd gg I2 (cm.mk (.func 219) (List.toArray [.pointer (bJ)]) (List.toArray [])) Im fun Io=>xm bS rq Dl Xh I2 Io e) (bO 143 gg cm.nil xf fun Xi aIC=>bO 107 gg cm.nil aIC fun Xj aID=>bd gg Xj (cm.mk (.func 217) (List.toArray [.pointer (eA)]) (List.toArray [])) aID fun S2=>bE ((L aD (eO.add 1) S2) fu)<|bE ((L aD (eO.add 1) S2) bJ)<|bd gg Xi (cm.mk (.func 218) (List.toArray [.pointer (fu)]) (List.toArray [])) S2 fun afE=>bE ((L aD (eO.add 1) afE) bJ)<|bd gg I2 (cm.mk (.func 219) (List.toArray [.pointer (bJ)]) (List.toArray [])) afE fun CF=>xm bS rq Xj Xi I2 CF e)))
theorem ag0{bS rq w e}(h:Ux bS rq w e):M Pg 171 [.pointer bS,.int .i64 rq] gg w e:=by
 have ga:=en 2 (dB [0,1,2,5,6,7,10,11,12,3,4,8,9,13,14] (.d 15 16 17 (.l 16 17 (dB [17,18,19,20] .j) (dB [16,18,19,20] .j)) (.l 15 17 (dB [17,18,19,20] .j) (dB [15,18,19,20] .j)) (.l 15 16 (dB [16,18,19,20] .j) (dB [15,18,19,20] .j))))
 have iI:=hy (bx:=Addr×Addr×Addr) 3 (fun s w=>xm bS rq s.1 s.2.1 s.2.2 w e) (fun g s=>ae (ae (ae (ae (ae g 0 (.pointer bS)) 1 (.int .i64 rq)) 5 (.pointer (some s.1))) 6 (.pointer (some s.2.1))) 7 (.pointer (some s.2.2)))
 exact bq 38 Tryz.func171 rfl rfl br
def Uy(bS:aM)(g1:Int)(w:World)(e:Int→World→Prop):Prop:=M Pg 224 [.int .i64 (g1)] bk w fun bp bm=>if (!bp)=true then (e (120:Int) bm) else (ex (bK bS) fun b1=>ex (L (B .i64) (b1.add 1) bm) fun cJ=>if (decide (g1>cJ))=true then (e (128:Int) bm) else (ex (L (B .i64) (b1.add 2) bm) fun bQ=>if (decide (g1<bQ))=true then (e (126:Int) bm) else (e (0:Int) bm)))
theorem ag1{bS g1 w e}(h:Uy bS g1 w e):M Pg 172 [.pointer bS,.int .i64 g1] (B .i64) w e:=
 bq 23 Tryz.func172 rfl rfl br
def Uz(r6:(Option Nat))(w:World)(e:cm→World→Prop):Prop:=bO 216 ek r6 w fun aY bm=>e (cm.mk (.func 225) (List.toArray []) (List.toArray [.pointer (some aY)])) bm
theorem ag2{r6 w e}(h:Uz r6 w e):M Pg 173 [.map r6] gg w e:=
 bq 4 Tryz.func173 rfl rfl br
def UA(aN:aM)(g1:Int)(w:World)(e:(eI×Int)→World→Prop):Prop:=bO 292 dJ kn w fun aA aV=>if ((decide (g1<(0:Int)))||(decide (g1>(1125899906842624:Int))))=true then (bd dJ aA (⟨(0:Int),(0:Int)⟩:eI) aV fun a_=>ex (L dJ aA a_) fun cJ=>e (cJ,(110:Int)) a_) else (ex (bK aN) fun cg=>ex (L (B .i64) (cg.add 1) aV) fun cT=>if (decide (g1<cT))=true then (bd dJ aA (⟨(0:Int),(0:Int)⟩:eI) aV fun b3=>ex (L dJ aA b3) fun dM=>e (dM,(113:Int)) b3) else (M Pg 226 [.pointer (aN),.int .i64 (g1)] (B .i64) aV fun bo cN=>if (bo==(0:Int))=true then (bd dJ aA (⟨(0:Int),(0:Int)⟩:eI) cN fun cu=>ex (L dJ aA cu) fun eA=>e (eA,(114:Int)) cu) else (ex (L X (cg.add 0) cN) fun fu=>ex (cM fu 2 (IntKind.i64.wrap (bo-(1:Int)))) fun jC=>ex (L dJ jC cN) fun jM=>bd dJ aA jM cN fun fW=>ex (L dJ aA fW) fun hL=>e (hL,(0:Int)) fW)))
theorem ag3{aN g1 w e}(h:UA aN g1 w e):M Pg 174 [.pointer aN,.int .i64 g1] (bw dJ (B .i64)) w e:=
 bq 37 Tryz.func174 rfl rfl br
def MA(bS:af)(jm:cm)(b0:Int)(aV:World)(gB:Int→World→Prop)(e:Int→World→Prop):Prop:=if (decide (b0<(bS.len:Int)))=true then (ex (cM bS 2 b0) fun bY=>ex (L p_ bY aV) fun bQ=>tK Pg jm [p_.enc (bQ)] bk aV fun fm bH=>if fm=true then (e b0 bH) else (gB ((IntKind.i64.wrap (b0+(1:Int)))) bH)) else (e (-1:Int) aV)
def UB(bS:af)(jm:cm)(w:World)(e:Int→World→Prop):Prop:=e2 (fun (s:Int) w aa=>MA bS jm s w aa e) ((0:Int)) w
theorem ag4{bS jm w e}(h:UB bS jm w e):M Pg 175 [X.enc bS,jm.enc] (B .i64) w e:=by
 have iU:=hf (bx:=Int) 3 (fun s w aa=>MA bS jm s w aa e) (fun g s=>ae (ae (ae (ae g 0 (X.enc bS)) 1 (jm.enc)) 7 (.int .i64 ((bS.len:Int)))) 8 (.int .i64 s))
 exact bq 19 Tryz.func175 rfl rfl br
def Fj(dd:aM)(bW:Int)(xM:cm)(a_:World)(e:Int→World→Prop):Prop:=ex (bK dd) fun bY=>ex (L (B .i64) (bY.add 1) a_) fun bQ=>bd (B .i64) (bY.add 1) (IntKind.i64.wrap (bQ+(1:Int))) a_ fun bH=>ex (L X (bY.add 0) bH) fun cH=>ex (cM cH 2 bW) fun eN=>tK Pg xM [.pointer (some eN)] dZ bH fun bo cN=>e (0:Int) cN
def UC(dd:aM)(bW:Int)(LC:Int)(xM:cm)(w:World)(e:Int→World→Prop):Prop:=M Pg 183 [.pointer (dd),.int .i64 (bW)] bk w fun dm cu=>if (!dm)=true then (e (70:Int) cu) else (ex (bK dd) fun gw=>ex (L bk (gw.add 2) cu) fun bJ=>if bJ=true then (e (71:Int) cu) else (if (decide (LC>(4194304:Int)))=true then (e (72:Int) cu) else (ex (L (B .i64) (gw.add 3) cu) fun jM=>if (jM==(1:Int))=true then (ex (L X (gw.add 4) cu) fun cW=>M Pg 103 [.pointer (dd),X.enc (cW)] dZ cu fun mH ei=>e (71:Int) ei) else (ex (L (B .i64) (gw.add 3) cu) fun kS=>if (decide (kS>(1:Int)))=true then (ex (L (B .i64) (gw.add 3) cu) fun gI=>bd (B .i64) (gw.add 3) (IntKind.i64.wrap (gI-(1:Int))) cu fun ep=>Fj dd bW xM ep e) else (Fj dd bW xM cu e)))))
theorem ag5{dd bW LC xM w e}(h:UC dd bW LC xM w e):M Pg 177 [.pointer dd,.int .i64 bW,.int .i64 LC,xM.enc] (B .i64) w e:=by
 have iI:=hy (bx:=Unit) 13 (fun s w=>Fj dd bW xM w e) (fun g s=>ae (ae (ae g 0 (.pointer dd)) 1 (.int .i64 bW)) 3 (xM.enc))
 exact bq 62 Tryz.func177 rfl rfl br
def UD(fY:aM)(w:World)(e:Unit→World→Prop):Prop:=ex (bK fY) fun aY=>ex (L X (aY.add 0) w) fun ea=>bd (B .i64) (aY.add 1) (ea.len:Int) w fun aV=>e () aV
theorem ag6{fY w e}(h:UD fY w e):M Pg 178 [.pointer fY] dZ w e:=
 bq 10 Tryz.func178 rfl rfl br
def UE(fC:Int)(w:World)(e:Bool→World→Prop):Prop:=e ((decide (fC≥(1:Int)))&&(decide (fC≤(1125899906842624:Int)))) w
theorem ag7{fC w e}(h:UE fC w e):M Pg 179 [.int .i64 fC] bk w e:=
 bq 9 Tryz.func179 rfl rfl br
def UG(dt:aM)(w:World)(e:Bool→World→Prop):Prop:=ex (bK dt) fun aY=>ex (oi (aY.add 4) 2 3 (0:Int)) fun aA=>ex (L bk (aA.add 1) w) fun de=>ex (fun x=>de=true→(bK dt) x) fun b1=>ex (fun x=>de=true→(oi (b1.add 4) 2 3 (1:Int)) x) fun bY=>ex (fun x=>de=true→(L bk (bY.add 1) w) x) fun bQ=>e (de&&bQ) w
theorem ag9{dt w e}(h:UG dt w e):M Pg 180 [.pointer dt] bk w e:=
 bq 17 Tryz.func180 rfl rfl br
def MC(h_:Nat)(w:World)(e:Nat→World→Prop):Prop:=e (Int.toNat (bits .andNot .u64 (h_:Int) (9223372036854775808:Int))) w
theorem UH{h_ w e}(h:MC h_ w e):M Pg 181 [.float .f64 h_] gP w e:=
 bq 7 Tryz.func181 rfl rfl br
def UI(w:World)(e:aM→World→Prop):Prop:=uf w fun jV dF=>bO 218 p9 (⟨(some jV),(0:Int),(0:Int)⟩:xw) dF fun aA aV=>e (some aA) aV
theorem aha{w e}(h:UI w e):M Pg 182 [] aD w e:=
 bq 4 Tryz.func182 rfl rfl br
def UJ(dd:aM)(bW:Int)(w:World)(e:Bool→World→Prop):Prop:=ex (fun x=>(decide (bW≥(0:Int)))=true→(bK dd) x) fun aA=>ex (fun x=>(decide (bW≥(0:Int)))=true→(L X (aA.add 0) w) x) fun de=>e ((decide (bW≥(0:Int)))&&(decide (bW<(de.len:Int)))) w
theorem ahb{dd bW w e}(h:UJ dd bW w e):M Pg 183 [.pointer dd,.int .i64 bW] bk w e:=
 bq 16 Tryz.func183 rfl rfl br
def UK(eP:af)(w:World)(e:(af×Int×Int)→World→Prop):Prop:=if (decide ((eP.len:Int)<(8:Int)))=true then (e ((⟨none,0,0⟩:af),(0:Int),(31:Int)) w) else (M Pg 228 [X.enc (eP)] (B .u32) w fun gf cB=>if (decide ((IntKind.i64.wrap gf)>(65536:Int)))=true then (e ((⟨none,0,0⟩:af),(0:Int),(30:Int)) cB) else (if (decide ((IntKind.i64.wrap gf)>(IntKind.i64.wrap ((eP.len:Int)-(8:Int)))))=true then (e ((⟨none,0,0⟩:af),(0:Int),(31:Int)) cB) else (dl cB fun aV=>ex (Sub eP 1 0 (4:Int) ((eP).cap:Int)) fun aep=>ex (Sub eP 1 (8:Int) (IntKind.i64.wrap ((8:Int)+(IntKind.i64.wrap gf))) ((eP).cap:Int)) fun w7=>ex (Sub eP 1 (4:Int) ((eP).len:Int) ((eP).cap:Int)) fun H7=>M Pg 196 [X.enc (aep),X.enc (w7)] (B .u32) aV fun fm bH=>M Pg 228 [X.enc (H7)] (B .u32) bH fun hh cn=>if (fm != hh)=true then (e ((⟨none,0,0⟩:af),(0:Int),(32:Int)) cn) else (ta 5 (B .u8) ([]:List Int) cn fun fO cu=>ex (Sub eP 1 (8:Int) (IntKind.i64.wrap ((8:Int)+(IntKind.i64.wrap gf))) ((eP).cap:Int)) fun Cw=>tE 5 (B .u8) 1 1 (⟨some fO,0,0⟩:af) Cw cu fun mg dP=>ex (Sub mg 1 0 (IntKind.i64.wrap gf) (IntKind.i64.wrap gf)) fun Lx=>e (Lx,(IntKind.i64.wrap ((8:Int)+(IntKind.i64.wrap gf))),(0:Int)) dP))))
theorem ahc{eP w e}(h:UK eP w e):M Pg 184 [X.enc eP] (mm X (B .i64) (B .i64)) w e:=by
 have ga:=en 9 (dB [0,1,2,3,4,5,7,8,6,9,10,11] .j)
 exact bq 46 Tryz.func184 rfl rfl br
def UL(fY:aM)(bB:Addr)(w:World)(e:Unit→World→Prop):Prop:=ex (L X bB w) fun ea=>yI 5 (B .u8) 1 (0:Int) (ea.len:Int) (ea.len:Int) w fun bj aV=>ex (bK fY) fun bY=>bd X (bY.add 0) bj aV fun bV=>dl bV fun bH=>ex (L X (bY.add 0) bH) fun cH=>ex (L X bB bH) fun dM=>Dy (B .u8) 1 cH dM bH fun bo cN=>bd (B .i64) (bY.add 1) (bo:Int) cN fun cu=>e () cu
theorem ahd{fY bB w e}(h:UL fY bB w e):M Pg 185 [.pointer fY,.pointer (some bB)] dZ w e:=by
 have ga:=en 2 (dB [0,1,2,3,4,5,6,7,8,9] .j)
 exact bq 18 Tryz.func185 rfl rfl br
def MD(ft:aM)(w:World)(e:Int→World→Prop)(et:er→World→Prop):Prop:=dl w fun cB=>ex (bK ft) fun aA=>ex (L (B .i64) (aA.add 1) cB) fun de=>ex (L X (aA.add 0) cB) fun dN=>if (decide (de≥(dN.len:Int)))=true then (et (er.mk 259 (jO.enc ((⟨(22:Int)⟩:j3)))) cB) else (ex (L (B .i64) (aA.add 1) cB) fun cJ=>bd (B .i64) (aA.add 1) (IntKind.i64.wrap (cJ+(1:Int))) cB fun bV=>dl bV fun bH=>ex (L X (aA.add 0) bH) fun cH=>ex (L (B .i64) (aA.add 1) bH) fun dM=>ex (cM cH 1 (IntKind.i64.wrap (dM-(1:Int)))) fun fG=>ex (L (B .u8) fG bH) fun e7=>e e7 bH)
theorem ahe{ft:aM}{w:World}{e:Int→World→Prop}{et:er→World→Prop}(h:MD ft w e et):nS Pg 186 [.pointer (ft)] (B .u8) w et e:=by
 unfold MD at h
 refine q3 33 Tryz.func186 rfl rfl (Nat.le_of_ble_eq_true rfl)<|wp_seq<|bz _ rfl<|y rfl<|bh<|wp_seq<|wp_seq ?_
 obtain⟨cB,arc,h⟩:=ov h
 refine pq 10 mixed rfl (by kernel_rfl) (by intro c a d v w h; cases d<;>exact h) arc (fun ak=>?_)
 refine gi 0 3 (.pointer (ft)) ak rfl rfl ?_
 obtain⟨aA,DU,h⟩:=h
 refine oe 1 4 DU ak rfl rfl<|hr 2 5 aA 1 Tryz.underlying257 ds ak rfl rfl rfl<|gi 4 7 (.pointer (ft)) ak rfl rfl<|oe 5 8 DU ak rfl rfl<|hr 6 9 aA 0 Tryz.underlying257 vr ak rfl rfl rfl ?_
 obtain⟨de,arM,h⟩:=h
 refine ia 3 6 arM ds ak rfl rfl ?_
 obtain⟨dN,arR,h⟩:=h
 refine ia 7 10 arR vr ak rfl rfl<|fg 8 11 ak rfl rfl rfl (fun _=>jZ (s:=dN) rfl Tryz.underlying189 rfl)<|fg 9 12 ak rfl rfl rfl (fun _=>HQ (a:=de) (l:=(dN.len:Int)) rfl rfl rfl)<|kL (by kernel_rfl)<|fE h rfl (fun _ h=>?_) fun _ h=>?_
 ·refine bz _ rfl<|a5 13 rfl rfl rfl (yV (bc:=(22:Int)) rfl rfl)<|a5 14 rfl rfl rfl (yW (v:=jO.enc ((⟨(22:Int)⟩:j3))) rfl Tryz.underlying259 rfl rfl)<|ev rfl (.free rfl) (CH (v:=(er.mk 259 (jO.enc ((⟨(22:Int)⟩:j3))))) rfl rfl ⟨_,_,rfl⟩ ?_)
  exact se (P:=Pg) (fn:=Tryz.f186) h
 ·refine wp_skip<|wp_seq<|bz _ rfl<|y rfl<|Iv _ DU rfl rfl<|hs _ _ _ Tryz.underlying257 ds rfl rfl rfl<|hV ds h rfl rfl fun cJ _ h=>a5 _ rfl rfl rfl (pg rfl rfl rfl)<|Iv _ DU rfl rfl<|hs _ _ _ Tryz.underlying257 ds rfl rfl rfl<|jS ds h rfl rfl rfl fun bV h=>bh ?_
  refine wp_seq ?_
  obtain⟨bH,arz,h⟩:=ov h
  refine pq 12 mixed rfl (by kernel_rfl) (by intro c a d v w h; cases d<;>exact h) arz (fun ak=>?_)
  refine gi 0 22 (.pointer (ft)) ak rfl rfl<|oe 1 23 DU ak rfl rfl<|hr 2 24 aA 0 Tryz.underlying257 vr ak rfl rfl rfl<|gi 4 26 (.pointer (ft)) ak rfl rfl<|oe 5 27 DU ak rfl rfl<|hr 6 28 aA 1 Tryz.underlying257 ds ak rfl rfl rfl ?_
  obtain⟨cH,Qf,h⟩:=h
  refine ia 3 25 Qf vr ak rfl rfl ?_
  obtain⟨dM,P2,h⟩:=h
  refine ia 7 29 P2 ds ak rfl rfl<|fg 8 30 ak rfl rfl rfl (fun _=>yX (a:=dM) (l:=(1:Int)) rfl rfl rfl) ?_
  obtain⟨fG,aoz,h⟩:=h
  refine fg 9 31 ak rfl rfl rfl (fun _=>kv (s:=cH) (k:=.i64) (i:=(IntKind.i64.wrap (dM-(1:Int)))) rfl Tryz.underlying189 HF rfl rfl aoz) ?_
  obtain⟨e7,yp,h⟩:=h
  refine ia 10 32 yp HF ak rfl rfl<|E3 11 2 (.int .u8 (e7)) ak rfl rfl<|kL (by kernel_rfl)<|wp_ret ?_
  exact l2 h rfl rfl
def MF(ft:aM)(bW:Int)(fH:Int)(aV:World)(gB:Int×Int→World→Prop)(e:Int→World→Prop)(et:er→World→Prop):Prop:=nS Pg 186 [.pointer (ft)] (B .u8) aV et fun bX b2=>if (((fH==(63:Int))&&(decide (bX>(1:Int))))||((decide (fH>(0:Int)))&&(bX==(0:Int))))=true then (et (er.mk 259 (jO.enc ((⟨(23:Int)⟩:j3)))) b2) else (ex (iP fH (IntKind.u64.wrap ((IntKind.u64.wrap (bits .and .u8 bX (127:Int)))*2^(min (fH).toNat IntKind.u64.bits)))) fun d8=>if (decide (bX<(128:Int)))=true then (e (bits .or .u64 bW d8) b2) else (gB ((bits .or .u64 bW d8),(IntKind.u64.wrap (fH+(7:Int)))) b2))
def ME(ft:aM)(w:World)(e:Int→World→Prop)(et:er→World→Prop):Prop:=e2 (fun (s:Int×Int) w aa=>MF ft s.1 s.2 w aa e et) ((0:Int),(0:Int)) w
theorem ahf{ft:aM}{w:World}{e:Int→World→Prop}{et:er→World→Prop}(h:ME ft w e et):nS Pg 187 [.pointer (ft)] (B .u64) w et e:=by
 unfold ME at h
 refine q3 36 Tryz.func187 rfl rfl (Nat.le_of_ble_eq_true rfl)<|wp_seq<|bz _ rfl<|y rfl<|bh<|wp_seq<|bz _ rfl<|y rfl<|bh<|wp_seq<|bz _ rfl<|y rfl ?_
 refine bh<|wp_block<|s7 (bx:=Int×Int) (dw:=fun g (s:Int×Int)=>ae (ae (ae (g) 0 (.pointer (ft))) 3 (.int .u64 (s.1))) 4 (.int .u64 (s.2))) (ml:=((0:Int),(0:Int))) (aQ (aQ (aQ rfl rfl) rfl) rfl) h ?_
 rintro⟨bW,fH⟩ g aV gB h
 unfold MF at h
 refine wp_seq<|wp_block<|wp_seq<|bz _ rfl<|y rfl<|ev rfl (.free rfl) (zd (d:=(some 9)) rfl (fT (k:=186) (m:=[.pointer (ft)]) rfl OB rfl) h ?_ ?_)
 ·exact fun _ _ h=>se (P:=Pg) (fn:=Tryz.f187) h
 intro bX b2 h
 refine y rfl<|bh<|wp_seq<|wp_seq<|bz _ rfl<|y rfl<|a5 _ rfl rfl rfl (iL rfl rfl rfl)<|y rfl<|b9 (g:=(fH==(63:Int))) (d:=(some 13)) rfl (.cq 2 12 true (fH==(63:Int)) rfl rfl rfl rfl) rfl (fun R=>c0 (v:=.int .u8 (bX)) rfl rfl)<|b9 (g:=(fH==(63:Int))) (d:=(some 14)) rfl (.cq 2 12 true (fH==(63:Int)) rfl rfl rfl rfl) rfl (fun R=>vA (k:=.u8) (a:=bX) (l:=(1:Int)) rfl (dg R) rfl)<|a5 15 rfl rfl rfl (m6 (a:=(fH==(63:Int))) (l:=(decide (bX>(1:Int)))) rfl rfl rfl rfl)<|y rfl ?_
 refine b9 (g:=(!((fH==(63:Int))&&(decide (bX>(1:Int)))))) (d:=(some 17)) rfl (.no 6 16 true ((fH==(63:Int))&&(decide (bX>(1:Int)))) rfl rfl rfl rfl) rfl (fun R=>c0 (v:=.int .u64 (fH)) rfl rfl)<|b9 (g:=(!((fH==(63:Int))&&(decide (bX>(1:Int)))))) (d:=(some 18)) rfl (.no 6 16 true ((fH==(63:Int))&&(decide (bX>(1:Int)))) rfl rfl rfl rfl) rfl (fun R=>vA (k:=.u64) (a:=fH) (l:=(0:Int)) rfl (dg R) rfl)<|b9 (g:=(!((fH==(63:Int))&&(decide (bX>(1:Int)))))) (d:=(some 19)) rfl (.no 6 16 true ((fH==(63:Int))&&(decide (bX>(1:Int)))) rfl rfl rfl rfl) rfl (fun R=>c0 (v:=.bool ((decide (fH>(0:Int))))) rfl (dg R))<|b9 (g:=((!((fH==(63:Int))&&(decide (bX>(1:Int)))))&&(decide (fH>(0:Int))))) (d:=(some 20)) rfl (.cq 9 19 (!((fH==(63:Int))&&(decide (bX>(1:Int))))) (decide (fH>(0:Int))) rfl rfl rfl rfl) rfl (fun R=>c0 (v:=.int .u8 (bX)) rfl rfl)<|b9 (g:=((!((fH==(63:Int))&&(decide (bX>(1:Int)))))&&(decide (fH>(0:Int))))) (d:=(some 21)) rfl (.cq 9 19 (!((fH==(63:Int))&&(decide (bX>(1:Int))))) (decide (fH>(0:Int))) rfl rfl rfl rfl) rfl (fun R=>iL (k:=.u8) (a:=bX) (l:=(0:Int)) rfl (dg R) rfl)<|b9 (g:=(!((fH==(63:Int))&&(decide (bX>(1:Int)))))) (d:=(some 22)) rfl (.no 6 16 true ((fH==(63:Int))&&(decide (bX>(1:Int)))) rfl rfl rfl rfl) rfl (fun R=>HR (cX:=(!((fH==(63:Int))&&(decide (bX>(1:Int)))))) (a:=(decide (fH>(0:Int)))) (l:=(bX==(0:Int))) R rfl rfl rfl rfl)<|a5 23 rfl rfl rfl (mG (a:=((fH==(63:Int))&&(decide (bX>(1:Int))))) (c:=((decide (fH>(0:Int)))&&(bX==(0:Int)))) rfl rfl rfl rfl)<|bh<|fE h rfl (fun _ h=>?_) fun _ h=>?_
 ·refine bz _ rfl<|a5 24 rfl rfl rfl (yV (bc:=(23:Int)) rfl rfl)<|a5 25 rfl rfl rfl (yW (v:=jO.enc ((⟨(23:Int)⟩:j3))) rfl Tryz.underlying259 rfl rfl)<|ev rfl (.free rfl) (CH (v:=(er.mk 259 (jO.enc ((⟨(23:Int)⟩:j3))))) rfl rfl ⟨_,_,rfl⟩ ?_)
  exact se (P:=Pg) (fn:=Tryz.f187) h
 ·refine wp_skip<|wp_seq<|bz _ rfl<|y rfl<|y rfl<|a5 28 rfl rfl rfl (K_ (a:=bX) (l:=(127:Int)) rfl rfl rfl)<|a5 29 rfl rfl rfl (uk (a:=(bits .and .u8 bX (127:Int))) rfl Tryz.underlying5 Tryz.underlying195 rfl)<|y rfl ?_
  obtain⟨d8,ao9,h⟩:=h
  refine a5 31 rfl rfl rfl (Lf (a:=(IntKind.u64.wrap (bits .and .u8 bX (127:Int)))) (l:=fH) (r:=d8) rfl rfl rfl ao9)<|a5 32 rfl rfl rfl (Le (a:=bW) (l:=d8) rfl rfl rfl)<|y rfl<|bh<|wp_seq<|bz _ rfl<|y rfl<|a5 _ rfl rfl rfl (me rfl rfl rfl)<|bh<|fE h rfl (fun _ h=>?_) fun _ h=>?_
  ·refine wp_seq<|bz _ rfl<|y rfl<|y rfl<|bh<|wp_ret ?_
   exact l2 h rfl rfl
  ·refine wp_skip<|bz _ rfl<|y rfl<|a5 _ rfl rfl rfl (pg rfl rfl rfl)<|y rfl<|bh ?_
   exact⟨((bits .or .u64 bW d8),(IntKind.u64.wrap (fH+(7:Int)))),_,arr (aQ (aQ (aQ rfl rfl) rfl) rfl),h⟩
def MH(ft:aM)(bW:Int)(b0:Int)(aV:World)(gB:Int×Int→World→Prop)(e:Nat→World→Prop)(et:er→World→Prop):Prop:=if (decide (b0<(8:Int)))=true then (ex (iP (8:Int) (IntKind.u64.wrap (bW*2^(min ((8:Int)).toNat IntKind.u64.bits)))) fun d6=>nS Pg 186 [.pointer (ft)] (B .u8) aV et fun a3 bV=>gB ((bits .or .u64 d6 (IntKind.u64.wrap a3)),(IntKind.i64.wrap (b0+(1:Int)))) bV) else (M Pg 229 [.float .f64 ((Int.toNat bW))] (B .u64) aV fun a2 b3=>if (a2 != bW)=true then (et (er.mk 259 (jO.enc ((⟨(25:Int)⟩:j3)))) b3) else (e (Int.toNat bW) b3))
def MG(ft:aM)(w:World)(e:Nat→World→Prop)(et:er→World→Prop):Prop:=e2 (fun (s:Int×Int) w aa=>MH ft s.1 s.2 w aa e et) ((0:Int),(0:Int)) w
theorem ahg{ft:aM}{w:World}{e:Nat→World→Prop}{et:er→World→Prop}(h:MG ft w e et):nS Pg 188 [.pointer (ft)] gP w et e:=by
 unfold MG at h
 refine q3 23 Tryz.func188 rfl rfl (Nat.le_of_ble_eq_true rfl)<|wp_seq<|bz _ rfl<|y rfl<|bh<|wp_seq<|bz _ rfl<|y rfl<|bh<|wp_seq<|wp_seq<|bz _ rfl ?_
 refine y rfl<|bh<|wp_block<|s7 (bx:=Int×Int) (dw:=fun g (s:Int×Int)=>ae (ae (ae (g) 0 (.pointer (ft))) 3 (.int .u64 (s.1))) 5 (.int .i64 (s.2))) (ml:=((0:Int),(0:Int))) (aQ (aQ (aQ rfl rfl) rfl) rfl) h ?_
 rintro⟨bW,b0⟩ g aV gB h
 unfold MH at h
 refine wp_seq<|bz _ rfl<|a5 _ rfl rfl rfl (me rfl rfl rfl)<|bh<|wp_seq<|fE h rfl (fun _ h=>?_) fun _ h=>?_
 ·refine wp_skip<|wp_seq<|wp_block<|bz _ rfl<|y rfl ?_
  obtain⟨d6,ao8,h⟩:=h
  refine a5 8 rfl rfl rfl (Lf (a:=bW) (l:=(8:Int)) (r:=d6) rfl rfl rfl ao8)<|y rfl<|ev rfl (.free rfl) (zd (d:=(some 10)) rfl (fT (k:=186) (m:=[.pointer (ft)]) rfl OB rfl) h ?_ ?_)
  ·exact fun _ _ h=>se (P:=Pg) (fn:=Tryz.f188) h
  intro a3 bV h
  refine a5 11 rfl rfl rfl (uk (a:=a3) rfl Tryz.underlying5 Tryz.underlying195 rfl)<|a5 12 rfl rfl rfl (Le (a:=d6) (l:=(IntKind.u64.wrap a3)) rfl rfl rfl)<|y rfl<|bh<|bz _ rfl<|a5 _ rfl rfl rfl (pg rfl rfl rfl)<|y rfl<|bh ?_
  exact⟨((bits .or .u64 d6 (IntKind.u64.wrap a3)),(IntKind.i64.wrap (b0+(1:Int)))),_,arr (aQ (aQ (aQ rfl rfl) rfl) rfl),h⟩
 ·refine wp_exit<|wp_seq<|bz _ rfl<|y rfl<|a5 15 rfl rfl rfl (RQ (l:=bW) rfl OI rfl)<|y rfl<|bh<|wp_seq<|wp_seq<|bz _ rfl<|y rfl<|fv amZ rfl rfl h fun a2 b3 h=>?_
  refine y rfl<|a5 _ rfl rfl rfl (hg rfl rfl rfl)<|bh<|fE h rfl (fun _ h=>?_) fun _ h=>?_
  ·refine bz _ rfl<|a5 20 rfl rfl rfl (yV (bc:=(25:Int)) rfl rfl)<|a5 21 rfl rfl rfl (yW (v:=jO.enc ((⟨(25:Int)⟩:j3))) rfl Tryz.underlying259 rfl rfl)<|ev rfl (.free rfl) (CH (v:=(er.mk 259 (jO.enc ((⟨(25:Int)⟩:j3))))) rfl rfl ⟨_,_,rfl⟩ ?_)
   exact se (P:=Pg) (fn:=Tryz.f188) h
  ·refine wp_skip<|wp_seq<|bz _ rfl<|y rfl<|y rfl<|bh<|wp_ret ?_
   exact l2 h rfl rfl
def MI(ft:aM)(w:World)(e:(List UInt8)→World→Prop)(et:er→World→Prop):Prop:=nS Pg 187 [.pointer (ft)] (B .u64) w et fun gf cB=>if (decide (gf>(1000:Int)))=true then (et (er.mk 259 (jO.enc ((⟨(24:Int)⟩:j3)))) cB) else (dl cB fun aV=>ex (bK ft) fun b1=>ex (L X (b1.add 0) aV) fun cJ=>ex (L (B .i64) (b1.add 1) aV) fun bQ=>if (decide ((IntKind.u64.wrap (IntKind.i64.wrap ((cJ.len:Int)-bQ)))<gf))=true then (et (er.mk 259 (jO.enc ((⟨(22:Int)⟩:j3)))) aV) else (ex (L (B .i64) (b1.add 1) aV) fun cT=>bd (B .i64) (b1.add 1) (IntKind.i64.wrap (cT+(IntKind.i64.wrap gf))) aV fun b3=>dl b3 fun cn=>ex (L X (b1.add 0) cn) fun cK=>ex (L (B .i64) (b1.add 1) cn) fun e7=>ex (L (B .i64) (b1.add 1) cn) fun dU=>ex (Sub cK 1 (IntKind.i64.wrap (e7-(IntKind.i64.wrap gf))) dU ((cK).cap:Int)) fun Cw=>ex (tq Cw cn) fun H5=>e H5 cn))
theorem ahh{ft:aM}{w:World}{e:(List UInt8)→World→Prop}{et:er→World→Prop}(h:MI ft w e et):nS Pg 189 [.pointer (ft)] qF w et e:=by
 unfold MI at h
 refine q3 51 Tryz.func189 rfl rfl (Nat.le_of_ble_eq_true rfl)<|wp_seq<|bz _ rfl<|y rfl<|bh<|wp_seq<|bz _ rfl<|y rfl<|ev rfl (.free rfl) (zd (d:=(some 5)) rfl (fT (k:=187) (m:=[.pointer (ft)]) rfl OC rfl) h ?_ ?_)
 ·exact fun _ _ h=>se (P:=Pg) (fn:=Tryz.f189) h
 intro gf cB h
 refine y rfl<|bh<|wp_seq<|wp_seq<|bz _ rfl<|y rfl<|a5 _ rfl rfl rfl (vA rfl rfl rfl)<|bh<|fE h rfl (fun _ h=>?_) fun _ h=>?_
 ·refine bz _ rfl<|a5 8 rfl rfl rfl (yV (bc:=(24:Int)) rfl rfl)<|a5 9 rfl rfl rfl (yW (v:=jO.enc ((⟨(24:Int)⟩:j3))) rfl Tryz.underlying259 rfl rfl)<|ev rfl (.free rfl) (CH (v:=(er.mk 259 (jO.enc ((⟨(24:Int)⟩:j3))))) rfl rfl ⟨_,_,rfl⟩ ?_)
  exact se (P:=Pg) (fn:=Tryz.f189) h
 ·refine wp_skip<|wp_seq<|wp_seq ?_
  obtain⟨aV,arp,h⟩:=ov h
  refine pq 13 mixed rfl (by kernel_rfl) (by intro c a d v w h; cases d<;>exact h) arp (fun ak=>?_)
  refine gi 0 10 (.pointer (ft)) ak rfl rfl ?_
  obtain⟨b1,Bx,h⟩:=h
  refine oe 1 11 Bx ak rfl rfl<|hr 2 12 b1 0 Tryz.underlying257 vr ak rfl rfl rfl<|gi 5 15 (.pointer (ft)) ak rfl rfl<|oe 6 16 Bx ak rfl rfl<|hr 7 17 b1 1 Tryz.underlying257 ds ak rfl rfl rfl<|gi 11 21 (.int .u64 (gf)) ak rfl rfl ?_
  obtain⟨cJ,arT,h⟩:=h
  refine ia 3 13 arT vr ak rfl rfl<|fg 4 14 ak rfl rfl rfl (fun _=>jZ (s:=cJ) rfl Tryz.underlying189 rfl) ?_
  obtain⟨bQ,Qd,h⟩:=h
  refine ia 8 18 Qd ds ak rfl rfl<|fg 9 19 ak rfl rfl rfl (fun _=>yX (a:=(cJ.len:Int)) (l:=bQ) rfl rfl rfl)<|fg 10 20 ak rfl rfl rfl (fun _=>uk (a:=(IntKind.i64.wrap ((cJ.len:Int)-bQ))) rfl Tryz.underlying3 Tryz.underlying195 rfl)<|fg 12 22 ak rfl rfl rfl (fun _=>me (a:=(IntKind.u64.wrap (IntKind.i64.wrap ((cJ.len:Int)-bQ)))) (l:=gf) rfl rfl rfl)<|kL (by kernel_rfl)<|fE h rfl (fun _ h=>?_) fun _ h=>?_
  ·refine bz _ rfl<|a5 23 rfl rfl rfl (yV (bc:=(22:Int)) rfl rfl)<|a5 24 rfl rfl rfl (yW (v:=jO.enc ((⟨(22:Int)⟩:j3))) rfl Tryz.underlying259 rfl rfl)<|ev rfl (.free rfl) (CH (v:=(er.mk 259 (jO.enc ((⟨(22:Int)⟩:j3))))) rfl rfl ⟨_,_,rfl⟩ ?_)
   exact se (P:=Pg) (fn:=Tryz.f189) h
  ·refine wp_skip<|wp_seq<|bz _ rfl<|y rfl<|Iv _ Bx rfl rfl<|hs _ _ _ Tryz.underlying257 ds rfl rfl rfl<|hV ds h rfl rfl fun cT _ h=>y rfl<|a5 30 rfl rfl rfl (uk (a:=gf) rfl Tryz.underlying195 Tryz.underlying3 rfl)<|a5 _ rfl rfl rfl (pg rfl rfl rfl)<|Iv _ Bx rfl rfl<|hs _ _ _ Tryz.underlying257 ds rfl rfl rfl ?_
   refine jS ds h rfl rfl rfl fun b3 h=>bh<|wp_seq ?_
   obtain⟨cn,PW,h⟩:=ov h
   refine pq 18 mixed rfl (by kernel_rfl) (by intro c a d v w h; cases d<;>exact h) PW (fun ak=>?_)
   refine gi 0 34 (.pointer (ft)) ak rfl rfl<|oe 1 35 Bx ak rfl rfl<|hr 2 36 b1 0 Tryz.underlying257 vr ak rfl rfl rfl<|gi 4 38 (.pointer (ft)) ak rfl rfl<|oe 5 39 Bx ak rfl rfl<|hr 6 40 b1 1 Tryz.underlying257 ds ak rfl rfl rfl<|gi 8 42 (.int .u64 (gf)) ak rfl rfl<|fg 9 43 ak rfl rfl rfl (fun _=>uk (a:=gf) rfl Tryz.underlying195 Tryz.underlying3 rfl)<|gi 11 45 (.pointer (ft)) ak rfl rfl<|oe 12 46 Bx ak rfl rfl<|hr 13 47 b1 1 Tryz.underlying257 ds ak rfl rfl rfl ?_
   obtain⟨cK,BO,h⟩:=h
   refine ia 3 37 BO vr ak rfl rfl ?_
   obtain⟨e7,yp,h⟩:=h
   refine ia 7 41 yp ds ak rfl rfl<|fg 10 44 ak rfl rfl rfl (fun _=>yX (a:=e7) (l:=(IntKind.i64.wrap gf)) rfl rfl rfl) ?_
   obtain⟨dU,P3,h⟩:=h
   refine ia 14 48 P3 ds ak rfl rfl ?_
   obtain⟨Cw,aqV,h⟩:=h
   refine fg 15 49 ak rfl rfl rfl (fun _=>Lg (s:=cK) (m:=(IntKind.i64.wrap (e7-(IntKind.i64.wrap gf)))) (h:=dU) rfl Tryz.underlying189 HF rfl rfl rfl aqV) ?_
   obtain⟨H5,aqW,h⟩:=h
   refine tg (i:=16) (d:=(some 50)) (fun A=>(tq Cw A) H5) ak (by kernel_rfl) (by kernel_rfl) rfl (.free rfl) rfl (fun A ab=>RA (l:=Cw) (r:=H5) rfl Tryz.underlying189 Tryz.underlying5 Tryz.underlying9 rfl ab) aqW<|E3 17 2 (.string ⟨(H5).toArray⟩) ak rfl rfl<|kL (by kernel_rfl)<|wp_ret ?_
   exact l2 h rfl rfl
def IE(eV:Nat)(e3:Bool)(a_:World)(e:(Nat×Int)→World→Prop):Prop:=if e3=true then (e (eV,(0:Int)) a_) else (M Pg 231 [.float .f64 (eV)] (bw gP (B .i64)) a_ fun bX b2=>ex (iP (52:Int) (Int.fdiv (bX.1:Int) (2^(min ((52:Int)).toNat IntKind.u64.bits)))) fun d8=>e ((Int.toNat (bits .or .u64 (bits .andNot .u64 (bX.1:Int) (9218868437227405312:Int)) (4602678819172646912:Int))),(IntKind.i64.wrap (bX.2+(IntKind.i64.wrap ((IntKind.i64.wrap ((IntKind.i64.wrap (bits .and .u64 d8 (2047:Int)))-(1023:Int)))+(1:Int)))))) b2)
def MJ(eV:Nat)(w:World)(e:(Nat×Int)→World→Prop):Prop:=if (fQ .eql eV (0:Nat))=true then (e (eV,(0:Int)) w) else (M Pg 138 [.float .f64 (eV),.int .i64 ((0:Int))] bk w fun gf cB=>if gf=true then (IE eV true cB e) else (M Pg 230 [.float .f64 (eV)] bk cB fun bo cN=>IE eV bo cN e))
theorem UN{eV w e}(h:MJ eV w e):M Pg 191 [.float .f64 eV] (bw gP (B .i64)) w e:=by
 have o9:=pQ (bx:=Bool) [3,4,5] [6] (fun s w=>IE eV s w e) (fun g s=>ae (ae g 0 (.float .f64 eV)) 15 (.bool s))
 exact bq 38 Tryz.func191 rfl rfl br
def IG(a3:(Nat×Int))(anE:Int)(aCo:Nat)(ei:World)(e:Nat→World→Prop):Prop:=ex (iP (52:Int) (IntKind.u64.wrap ((IntKind.u64.wrap (IntKind.i64.wrap (anE+(1023:Int))))*2^(min ((52:Int)).toNat IntKind.u64.bits)))) fun d20=>ex (xo .mul aCo (Int.toNat (bits .or .u64 (bits .andNot .u64 (a3.1:Int) (9218868437227405312:Int)) d20))) fun aJj=>e aJj ei
def IF(ow:Nat)(o3:Int)(lZ:Bool)(b2:World)(e:Nat→World→Prop):Prop:=if lZ=true then (e ow b2) else (M Pg 231 [.float .f64 (ow)] (bw gP (B .i64)) b2 fun a3 bV=>ex (iP (52:Int) (Int.fdiv (a3.1:Int) (2^(min ((52:Int)).toNat IntKind.u64.bits)))) fun d9=>if (decide ((IntKind.i64.wrap ((IntKind.i64.wrap (o3+a3.2))+(IntKind.i64.wrap ((bits .and .i64 (IntKind.i64.wrap d9) (2047:Int))-(1023:Int)))))<(-1075:Int)))=true then (M Pg 232 [.float .f64 ((0:Nat)),.float .f64 (a3.1)] gP bV fun hh cn=>e hh cn) else (if (decide ((IntKind.i64.wrap ((IntKind.i64.wrap (o3+a3.2))+(IntKind.i64.wrap ((bits .and .i64 (IntKind.i64.wrap d9) (2047:Int))-(1023:Int)))))>(1023:Int)))=true then (if (fQ .lss a3.1 (0:Nat))=true then (M Pg 233 [.int .i64 ((-1:Int))] gP bV fun eo cA=>e eo cA) else (M Pg 233 [.int .i64 ((1:Int))] gP bV fun fU db=>e fU db)) else (if (decide ((IntKind.i64.wrap ((IntKind.i64.wrap (o3+a3.2))+(IntKind.i64.wrap ((bits .and .i64 (IntKind.i64.wrap d9) (2047:Int))-(1023:Int)))))<(-1022:Int)))=true then (IG a3 (IntKind.i64.wrap ((IntKind.i64.wrap ((IntKind.i64.wrap (o3+a3.2))+(IntKind.i64.wrap ((bits .and .i64 (IntKind.i64.wrap d9) (2047:Int))-(1023:Int)))))+(53:Int))) (4368491638549381120:Nat) bV e) else (IG a3 (IntKind.i64.wrap ((IntKind.i64.wrap (o3+a3.2))+(IntKind.i64.wrap ((bits .and .i64 (IntKind.i64.wrap d9) (2047:Int))-(1023:Int))))) (4607182418800017408:Nat) bV e))))
def MK(ow:Nat)(o3:Int)(w:World)(e:Nat→World→Prop):Prop:=if (fQ .eql ow (0:Nat))=true then (e ow w) else (M Pg 138 [.float .f64 (ow),.int .i64 ((0:Int))] bk w fun bp bm=>if bp=true then (IF ow o3 true bm e) else (M Pg 230 [.float .f64 (ow)] bk bm fun dV fZ=>IF ow o3 dV fZ e))
theorem UO{ow o3 w e}(h:MK ow o3 w e):M Pg 193 [.float .f64 ow,.int .i64 o3] gP w e:=by
 have iI:=fun {a3:(Nat×Int)}=>hy (bx:=Int×Nat) 20 (fun s w=>IG a3 s.1 s.2 w e) (fun g s=>ae (ae (ae g 6 (.int .u64 ((a3.1:Int)))) 1 (.int .i64 (s.1))) 7 (.float .f64 (s.2)))
 have o9:=pQ (bx:=Bool) [3,4,5] [6] (fun s w=>IF ow o3 s w e) (fun g s=>ae (ae (ae g 0 (.float .f64 ow)) 1 (.int .i64 o3)) 18 (.bool s))
 exact bq 63 Tryz.func193 rfl rfl br
def UP(bi:Int)(bB:Addr)(w:World)(e:Unit→World→Prop):Prop:=ex (L (B .i64) bB w) fun ea=>bd (B .i64) bB (max ea bi) w fun aV=>e () aV
theorem ahj{bi bB w e}(h:UP bi bB w e):M Pg 194 [.int .i64 bi,.pointer (some bB)] dZ w e:=
 bq 6 Tryz.func194 rfl rfl br
def UQ(eP:af)(bW:Int)(w:World)(e:af→World→Prop):Prop:=ex (iP (24:Int) (Int.fdiv bW (2^(min ((24:Int)).toNat IntKind.u32.bits)))) fun d3=>ex (iP (16:Int) (Int.fdiv bW (2^(min ((16:Int)).toNat IntKind.u32.bits)))) fun d4=>ex (iP (8:Int) (Int.fdiv bW (2^(min ((8:Int)).toNat IntKind.u32.bits)))) fun d5=>l6 5 (B .u8) 1 1 eP [(IntKind.u8.wrap d3),(IntKind.u8.wrap d4),(IntKind.u8.wrap d5),(IntKind.u8.wrap bW)] w fun fm bH=>e fm bH
theorem ahk{eP bW w e}(h:UQ eP bW w e):M Pg 195 [X.enc eP,.int .u32 bW] X w e:=
 bq 19 Tryz.func195 rfl rfl br
def UR(Ku:af)(yC:af)(w:World)(e:Int→World→Prop):Prop:=M Pg 234 [.int .u32 ((4294967295:Int)),X.enc (Ku)] (B .u32) w fun bp bm=>M Pg 234 [.int .u32 (bp),X.enc (yC)] (B .u32) bm fun aI a_=>e (bits .xor .u32 IntKind.u32.max aI) a_
theorem ahl{Ku yC w e}(h:UR Ku yC w e):M Pg 196 [X.enc Ku,X.enc yC] (B .u32) w e:=
 bq 10 Tryz.func196 rfl rfl br
def US(fY:aM)(bB:Addr)(w:World)(e:Unit→World→Prop):Prop:=dl w fun bm=>ex (bK fY) fun a6=>ex (L X (a6.add 0) bm) fun dN=>ex (L X bB bm) fun cJ=>tE 5 (B .u8) 1 1 dN cJ bm fun a3 bV=>bd X (a6.add 0) a3 bV fun b3=>e () b3
theorem ahm{fY bB w e}(h:US fY bB w e):M Pg 197 [.pointer fY,.pointer (some bB)] dZ w e:=by
 have ga:=en 1 (dB [0,1,2,3,4,5,6,7,8,9] .j)
 exact bq 12 Tryz.func197 rfl rfl br
def UT(c1:mT)(w:World)(e:Int→World→Prop):Prop:=bO 197 gj c1 w fun aY bm=>ex (L gj aY bm) fun de=>M Pg 235 [gj.enc (de)] bk bm fun aI a_=>if (!aI)=true then (e (21:Int) a_) else (ex (L qF (aY.add 4) a_) fun bQ=>if (decide ((bQ.length:Int)>(1000:Int)))=true then (e (24:Int) a_) else (e (0:Int) a_))
theorem ahn{c1 w e}(h:UT c1 w e):M Pg 198 [gj.enc c1] (B .i64) w e:=
 bq 12 Tryz.func198 rfl rfl br
def ML(cC:Int)(Xy:af)(Kb:Int)(ix:World)(aju:af×Int→World→Prop)(e:af→World→Prop):Prop:=if (decide (Kb≥(0:Int)))=true then (ex (iP (IntKind.u64.wrap Kb) (Int.fdiv cC (2^(min ((IntKind.u64.wrap Kb)).toNat IntKind.u64.bits)))) fun d27=>l6 5 (B .u8) 1 1 Xy [(IntKind.u8.wrap d27)] ix fun iX gR=>aju (iX,(IntKind.i64.wrap (Kb-(8:Int)))) gR) else (e Xy ix)
def UU(eP:af)(LO:mT)(w:World)(e:af→World→Prop):Prop:=bO 197 gj LO w fun aA aV=>ex (L (B .i64) (aA.add 0) aV) fun dN=>l6 5 (B .u8) 1 1 eP [(IntKind.u8.wrap dN)] aV fun fm bH=>ex (L (B .i64) (aA.add 0) bH) fun dM=>if (dM==(1:Int))=true then (ex (L (B .u64) (aA.add 1) bH) fun cK=>M Pg 236 [X.enc (fm),.int .u64 (cK)] X bH fun eo cA=>e eo cA) else (if (dM==(2:Int))=true then (ex (L (B .i64) (aA.add 2) bH) fun eA=>ex (iP (1:Int) (IntKind.u64.wrap ((IntKind.u64.wrap eA)*2^(min ((1:Int)).toNat IntKind.u64.bits)))) fun d15=>ex (L (B .i64) (aA.add 2) bH) fun bJ=>ex (iP (63:Int) (Int.fdiv bJ (2^(min ((63:Int)).toNat IntKind.i64.bits)))) fun d17=>M Pg 236 [X.enc (fm),.int .u64 ((bits .xor .u64 d15 (IntKind.u64.wrap d17)))] X bH fun w3 fW=>e w3 fW) else (if (dM==(3:Int))=true then (ex (L gP (aA.add 3) bH) fun gh=>M Pg 229 [.float .f64 (gh)] (B .u64) bH fun cC ew=>e2 (fun (s:af×Int) w aa=>ML cC s.1 s.2 w aa e) (fm,(56:Int)) ew) else (dl bH fun iy=>ex (L qF (aA.add 4) iy) fun ky=>ex (L qF (aA.add 4) iy) fun mP=>M Pg 236 [X.enc (fm),.int .u64 ((IntKind.u64.wrap (ky.length:Int)))] X iy fun ed lu=>bE ((L qF (aA.add 4) lu) ky)<|bE ((L qF (aA.add 4) lu) mP)<|NY 5 ed mP lu fun nH kP=>bE ((L qF (aA.add 4) kP) ky)<|e nH kP)))
theorem aho{eP LO w e}(h:UU eP LO w e):M Pg 199 [X.enc eP,gj.enc LO] X w e:=by
 have iU:=fun {cC}=>hf (bx:=af×Int) 11 (fun s w aa=>ML cC s.1 s.2 w aa e) (fun g s=>ae (ae (ae g 5 (.int .u64 cC)) 0 (X.enc (s.1))) 6 (.int .i64 (s.2)))
 have ga:=en 15 (dB [0,1,6,2,3,4,7,5,8,9] .j)
 exact bq 61 Tryz.func199 rfl rfl br
def UW(c1:aM)(bB:Int)(w:World)(e:Int→World→Prop):Prop:=if ((decide (bB<(1:Int)))||(decide (bB>(1125899906842624:Int))))=true then (e (151:Int) w) else (ex (bK c1) fun aA=>ex (L (B .i64) (aA.add 2) w) fun de=>if (decide (bB≤de))=true then (e (152:Int) w) else (e (0:Int) w))
theorem ahs{c1 bB w e}(h:UW c1 bB w e):M Pg 210 [.pointer c1,.int .i64 bB] (B .i64) w e:=
 bq 19 Tryz.func210 rfl rfl br
def UX(bS:aM)(yy:Int)(w:World)(e:(eI×Bool)→World→Prop):Prop:=bO 292 dJ kn w fun aA aV=>ex (bK bS) fun b1=>ex (L ek (b1.add 0) aV) fun cJ=>ex (iq aD .i64 cJ yy aV) fun El=>if (!(((El.getD (none:Option Addr),El.isSome)).2))=true then (bd dJ aA (⟨(0:Int),(0:Int)⟩:eI) aV fun bH=>ex (L dJ aA bH) fun cH=>e (cH,false) bH) else (M Pg 243 [.pointer (((El.getD (none:Option Addr),El.isSome)).1)] (bw dJ bk) aV fun hh cn=>bd dJ aA hh.1 cn fun cA=>ex (L dJ aA cA) fun dU=>e (dU,hh.2) cA)
theorem aht{bS yy w e}(h:UX bS yy w e):M Pg 211 [.pointer bS,.int .i64 yy] (bw dJ bk) w e:=
 bq 24 Tryz.func211 rfl rfl br
def UY(jD:Int)(w:World)(e:Bool→World→Prop):Prop:=e ((decide (jD≥(0:Int)))&&(decide (jD<(4096:Int)))) w
theorem ahu{jD w e}(h:UY jD w e):M Pg 212 [.int .i64 jD] bk w e:=
 bq 9 Tryz.func212 rfl rfl br
def UZ(bi:Int)(w:World)(e:Int→World→Prop):Prop:=if ((decide (bi<(0:Int)))||(decide (bi>(1000000000000000:Int))))=true then (e (40:Int) w) else (e (0:Int) w)
theorem ahv{bi w e}(h:UZ bi w e):M Pg 213 [.int .i64 bi] (B .i64) w e:=
 bq 9 Tryz.func213 rfl rfl br
def Fk(bB:Int)(j0:Int)(eO:Addr)(akR:aM)(ew:World)(mQ:Int→World→Prop)(e:Int→World→Prop):Prop:=ex (L (B .i64) (eO.add 1) ew) fun gI=>M Pg 246 [.pointer (akR),.int .i64 (bB),.int .i64 (gI)] (B .i64) ew fun w4 ep=>mQ ((IntKind.i64.wrap (j0+(1:Int)))) ep
def MN(bB:Int)(lO:af)(a6:Addr)(j0:Int)(b3:World)(mQ:Int→World→Prop)(e:Int→World→Prop):Prop:=if (decide (j0<(lO.len:Int)))=true then (ex (cM lO 2 j0) fun fG=>ex (L hP fG b3) fun e7=>bO 87 hP Di b3 fun eO db=>bd hP eO e7 db fun dP=>dl dP fun dQ=>ex (L ek (a6.add 0) dQ) fun jM=>ex (L (B .i64) (eO.add 0) dQ) fun cW=>ex (iq aD .i64 jM cW dQ) fun r5=>if (!(((r5.getD (none:Option Addr),r5.isSome)).2))=true then (M Pg 245 [] aD dQ fun yY ix=>dl ix fun fZ=>ex (L ek (a6.add 0) fZ) fun mO=>ex (L (B .i64) (eO.add 0) fZ) fun oP=>qk aD .i64 mO oP yY fZ fun gR=>Fk bB j0 eO yY gR mQ e) else (Fk bB j0 eO (((r5.getD (none:Option Addr),r5.isSome)).1) dQ mQ e)) else (e (0:Int) b3)
def U0(bS:aM)(bB:Int)(lO:af)(w:World)(e:Int→World→Prop):Prop:=if ((decide (bB<(1:Int)))||(decide (bB>(1125899906842624:Int))))=true then (e (120:Int) w) else (ex (bK bS) fun a6=>ex (L (B .i64) (a6.add 1) w) fun dN=>if (decide (bB≤dN))=true then (e (121:Int) w) else (M Pg 244 [.pointer (bS),.int .i64 (bB),X.enc (lO)] (B .i64) w fun bX b2=>if (bX != (0:Int))=true then (e bX b2) else (e2 (fun (s:Int) w aa=>MN bB lO a6 s w aa e) ((0:Int)) b2)))
theorem ahw{bS bB lO w e}(h:U0 bS bB lO w e):M Pg 214 [.pointer bS,.int .i64 bB,X.enc lO] (B .i64) w e:=by
 have ga:=en 12 (dB [0,1,2,4,3,5,6,7,8,9,10,11] .j)
 have rT:=en 15 (dB [0,1,2,4,6,3,5,7] .j)
 have iI:=fun {j0} {eO} {mQ}=>hy (bx:=aM) 16 (fun s w=>Fk bB j0 eO s w mQ e) (fun g s=>ae (ae (ae (ae (ae (ae (ae g 0 (.pointer bS)) 1 (.int .i64 bB)) 9 (.pointer (some eO))) 33 (X.enc lO)) 34 (.int .i64 ((lO.len:Int)))) 35 (.int .i64 j0)) 10 (.pointer s))
 have iU:=fun {a6}=>hf (bx:=Int) 10 (fun s w aa=>MN bB lO a6 s w aa e) (fun g s=>ae (ae (ae (ae (ae g 0 (.pointer bS)) 1 (.int .i64 bB)) 33 (X.enc lO)) 34 (.int .i64 ((lO.len:Int)))) 35 (.int .i64 s))
 exact bq 65 Tryz.func214 rfl rfl br
def U1(c1:aM)(bB:Int)(w:World)(e:Unit→World→Prop):Prop:=ex (bK c1) fun aA=>ex (L (B .i64) (aA.add 2) w) fun de=>bd (B .i64) (aA.add 2) (max de bB) w fun a_=>e () a_
theorem ahx{c1 bB w e}(h:U1 c1 bB w e):M Pg 215 [.pointer c1,.int .i64 bB] dZ w e:=
 bq 13 Tryz.func215 rfl rfl br
def Fm(aA:Addr)(bY:Addr)(zM:Addr)(Cc:Bool)(r5:(Option Int))(ti:Bool)(f_:World)(e:(Int×Int)→World→Prop):Prop:=if ti=true then (e ((0:Int),(155:Int)) f_) else (if (!Cc)=true then (e ((0:Int),(159:Int)) f_) else (if ((r5.getD (0:Int),r5.isSome)).2=true then (e ((0:Int),(160:Int)) f_) else (ex (L bk (aA.add 3) f_) fun oP=>if (!oP)=true then (ex (L (B .i64) (zM.add 1) f_) fun kg=>ex (L (B .i64) (aA.add 2) f_) fun lx=>M Pg 247 [.int .i64 (kg),.int .i64 (lx)] (bw (B .i64) (B .i64)) f_ fun tf gT=>if (tf.2 != (0:Int))=true then (e ((0:Int),(162:Int)) gT) else (e ((0:Int),(0:Int)) gT)) else (dl f_ fun jj=>ex (L (B .i64) (aA.add 2) jj) fun zf=>ex (L gP (bY.add 1) jj) fun zg=>M Pg 248 [.int .i64 (zf),.float .f64 (zg)] (bw (B .i64) (B .i64)) jj fun qt mn=>ex (L (B .i64) (zM.add 1) mn) fun ni=>ex (L (B .i64) (aA.add 2) mn) fun kh=>if (decide (ni<(IntKind.i64.wrap (kh+qt.1))))=true then (e ((0:Int),(161:Int)) mn) else (e (qt.1,(0:Int)) mn)))))
def Fl(aA:Addr)(bY:Addr)(lP:(Option qT))(zM:Addr)(Cc:Bool)(dP:World)(e:(Int×Int)→World→Prop):Prop:=dl dP fun dQ=>ex (L ek (bY.add 4) dQ) fun jM=>ex (L (B .i64) (aA.add 1) dQ) fun cW=>ex (iq (B .i64) .i64 jM cW dQ) fun r5=>ex (L (B .i64) (aA.add 0) dQ) fun gh=>if (decide (gh<(1:Int)))=true then (e ((0:Int),(156:Int)) dQ) else (if ((lP.getD nQ,lP.isSome)).2=true then (e ((0:Int),(157:Int)) dQ) else (ex (L ek (bY.add 5) dQ) fun kS=>ex (rK kS dQ) fun aBC=>if (decide ((aBC:Int)≥(5000:Int)))=true then (e ((0:Int),(158:Int)) dQ) else (ex (L (B .i64) (aA.add 1) dQ) fun mN=>M Pg 212 [.int .i64 (mN)] bk dQ fun gO fM=>if (!gO)=true then (e ((0:Int),(153:Int)) fM) else (ex (L (B .i64) (aA.add 2) fM) fun kT=>if (decide (kT<(1:Int)))=true then (Fm aA bY zM Cc r5 true fM e) else (ex (L (B .i64) (aA.add 2) fM) fun p4=>M Pg 213 [.int .i64 (p4)] (B .i64) fM fun aFN aIz=>Fm aA bY zM Cc r5 (aFN != (0:Int)) aIz e)))))
def U2(c1:aM)(sd:iz)(w:World)(e:(Int×Int)→World→Prop):Prop:=bO 60 g0 sd w fun aA aV=>dl aV fun a_=>ex (bK c1) fun bY=>ex (L ek (bY.add 5) a_) fun bQ=>ex (L (B .i64) (aA.add 0) a_) fun cT=>ex (iq lD .i64 bQ cT a_) fun lP=>bO 104 lD nQ a_ fun eN cN=>bd lD eN (((lP.getD nQ,lP.isSome)).1) cN fun cA=>dl cA fun sv=>ex (L aD ((bY.add 0).add 0) sv) fun L7=>ex (L (B .i64) (aA.add 1) sv) fun L8=>sH (M Pg 211 [.pointer (L7),.int .i64 (L8)] (bw dJ bk) sv fun Lj tl=>bO 292 dJ kn tl fun I1 AE=>bd dJ I1 Lj.1 AE fun xf=>Fl aA bY lP I1 Lj.2 xf e) (bO 292 dJ kn sv fun Dl xg=>M Pg 211 [.pointer (L7),.int .i64 (L8)] (bw dJ bk) xg fun Lk S1=>bd dJ Dl Lk.1 S1 fun AF=>Fl aA bY lP Dl Lk.2 AF e)
theorem ahy{c1 sd w e}(h:U2 c1 sd w e):M Pg 216 [.pointer c1,g0.enc sd] (bw (B .i64) (B .i64)) w e:=by
 have ga:=en 2 (dB [0,1,2,4,3,5,6,7,8,9,10,11,12] .j)
 have rT:=en 4 (dB [0,1,2,4,3,5,6,7,8,9,10,11] .j)
 have Dz:=en 24 (dB [0,2,3,4,1,5,6,7,8,9,10,11] .j)
 have o9:=fun {aA} {bY} {zM} {Cc} {r5:(Option Int)}=>pQ (bx:=Bool) [4,5,6,7,8] [9] (fun s w=>Fm aA bY zM Cc r5 s w e) (fun g s=>ae (ae (ae (ae (ae (ae g 0 (.pointer c1)) 3 (.pointer (some aA))) 8 (.pointer (some zM))) 9 (.bool Cc)) 11 (.bool (((r5.getD (0:Int),r5.isSome)).2))) 74 (.bool s))
 have al9:=en 3 (dB [0,1,2,3,5,4,6] (.l 7 11 (dB [8,9,10,11,12,13] .j) (dB [7,8,9,10,12,13] .j)))
 have iI:=fun {aA} {bY} {lP:(Option qT)}=>hy (bx:=Addr×Bool) 4 (fun s w=>Fl aA bY lP s.1 s.2 w e) (fun g s=>ae (ae (ae (ae (ae g 0 (.pointer c1)) 3 (.pointer (some aA))) 7 (.bool (((lP.getD nQ,lP.isSome)).2))) 8 (.pointer (some s.1))) 9 (.bool (s.2)))
 exact bq 111 Tryz.func216 rfl rfl br
def Fo(iH:Int)(aA:Addr)(cu:World)(e:Int→World→Prop):Prop:=ex (L ek (aA.add 5) cu) fun eA=>qk lD .i64 eA iH (⟨(3:Int),(0:Int)⟩:qT) cu fun dP=>e (0:Int) dP
def U3(c1:aM)(iH:Int)(w:World)(e:Int→World→Prop):Prop:=ex (bK c1) fun aA=>ex (L ek (aA.add 5) w) fun de=>ex (iq lD .i64 de iH w) fun jr=>bO 104 lD nQ w fun bY bV=>bd lD bY (((jr.getD nQ,jr.isSome)).1) bV fun bH=>if (decide (iH<(1:Int)))=true then (e (156:Int) bH) else (ex (L (B .i64) (bY.add 0) bH) fun cH=>if (cH==(2:Int))=true then (e (157:Int) bH) else (ex (fun x=>(!(((jr.getD nQ,jr.isSome)).2))=true→(bK c1) x) fun eN=>ex (fun x=>(!(((jr.getD nQ,jr.isSome)).2))=true→(L ek (eN.add 5) bH) x) fun cK=>ex (fun x=>(!(((jr.getD nQ,jr.isSome)).2))=true→(rK cK bH) x) fun Ko=>if ((!(((jr.getD nQ,jr.isSome)).2))&&(decide ((Ko:Int)≥(5000:Int))))=true then (e (158:Int) bH) else (ex (L ek (aA.add 3) bH) fun bJ=>ex (iq iB .i64 bJ iH bH) fun uc=>bO 135 iB qV bH fun rO ei=>bd iB rO (((uc.getD qV,uc.isSome)).1) ei fun eE=>if ((uc.getD qV,uc.isSome)).2=true then (ex (L iB rO eE) fun kS=>M Pg 249 [.pointer (c1),iB.enc (kS)] dZ eE fun m9 e4=>Fo iH aA e4 e) else (Fo iH aA eE e))))
theorem ahz{c1 iH w e}(h:U3 c1 iH w e):M Pg 217 [.pointer c1,.int .i64 iH] (B .i64) w e:=by
 have iI:=fun {aA}=>hy (bx:=Unit) 12 (fun s w=>Fo iH aA w e) (fun g s=>ae (ae g 0 (.pointer c1)) 1 (.int .i64 iH))
 exact bq 55 Tryz.func217 rfl rfl br
def MO(c1:aM)(bB:Int)(b1:Addr)(cP:Addr)(b3:World)(mQ:Unit→World→Prop)(e:Int→World→Prop):Prop:=k4 cP b3 fun aEU cN=>if (Option.isSome aEU)=true then (ex (kk iB .i64 cP cN) fun amm=>bO 135 iB qV cN fun hQ dP=>bd iB hQ amm.2 dP fun dQ=>ex (L (B .i64) (hQ.add 4) dQ) fun jM=>if (decide (jM≤bB))=true then (e (160:Int) dQ) else (mQ () dQ)) else (ex (L aD ((b1.add 0).add 0) cN) fun hL=>M Pg 251 [.pointer (hL),.int .i64 (bB)] (B .i64) cN fun pi eE=>M Pg 215 [.pointer (c1),.int .i64 (bB)] dZ eE fun m9 e4=>e (0:Int) e4)
def U4(c1:aM)(bB:Int)(w:World)(e:Int→World→Prop):Prop:=M Pg 250 [.int .i64 (bB)] bk w fun bp bm=>if (!bp)=true then (e (151:Int) bm) else (ex (bK c1) fun b1=>ex (L ek (b1.add 3) bm) fun cJ=>H0 cJ bm fun cP bV=>e2 (fun (s:Unit) w aa=>MO c1 bB b1 cP w aa e) () bV)
theorem ahA{c1 bB w e}(h:U4 c1 bB w e):M Pg 218 [.pointer c1,.int .i64 bB] (B .i64) w e:=by
 have iU:=fun {b1} {cP}=>hf (bx:=Unit) 5 (fun s w aa=>MO c1 bB b1 cP w aa e) (fun g s=>ae (ae (ae g 0 (.pointer c1)) 1 (.int .i64 bB)) 14 (.pointer (some cP)))
 exact bq 33 Tryz.func218 rfl rfl br
def U5(c1:aM)(pe:Int)(w:World)(e:Int→World→Prop):Prop:=ex (bK c1) fun aA=>ex (L aD ((aA.add 0).add 0) w) fun de=>M Pg 252 [.pointer (de),.int .i64 (pe)] (B .i64) w fun aI a_=>M Pg 118 [.int .i64 (aI)] (B .i64) a_ fun a3 bV=>e a3 bV
theorem ahB{c1 pe w e}(h:U5 c1 pe w e):M Pg 219 [.pointer c1,.int .i64 pe] (B .i64) w e:=
 bq 13 Tryz.func219 rfl rfl br
def U8(c1:aM)(bB:Int)(D_:Int)(w:World)(e:Int→World→Prop):Prop:=if ((decide (bB<(1:Int)))||(decide (bB>(1125899906842624:Int))))=true then (e (151:Int) w) else (ex (bK c1) fun a6=>ex (L ek (a6.add 5) w) fun dN=>ex (iq lD .i64 dN D_ w) fun QR=>bO 104 lD nQ w fun cg bH=>bd lD cg (QR.getD nQ) bH fun b3=>ex (L (B .i64) (cg.add 0) b3) fun dM=>if (dM==(2:Int))=true then (ex (L (B .i64) (cg.add 1) b3) fun cK=>if (cK != bB)=true then (e (157:Int) b3) else (e (0:Int) b3)) else (if (dM==(1:Int))=true then (ex (L ek (a6.add 3) b3) fun dU=>ex (iq iB .i64 dU D_ b3) fun qj=>bO 135 iB qV b3 fun gw dQ=>bd iB gw (qj.getD qV) dQ fun c2=>ex (L (B .i64) (gw.add 4) c2) fun cW=>if (decide (bB<cW))=true then (e (152:Int) c2) else (dl c2 fun ei=>ex (L aD ((a6.add 0).add 0) ei) fun gh=>ex (L iB gw ei) fun kS=>M Pg 253 [.pointer (c1),iB.enc (kS)] X ei fun m9 e4=>bE ((L aD ((a6.add 0).add 0) e4) gh)<|M Pg 214 [.pointer (gh),.int .i64 (bB),X.enc (m9)] (B .i64) e4 fun yY ix=>bE ((L iB gw ix) kS)<|ex (L iB gw ix) fun mO=>M Pg 249 [.pointer (c1),iB.enc (mO)] dZ ix fun sj ls=>ex (L ek (a6.add 5) ls) fun lx=>qk lD .i64 lx D_ (⟨(2:Int),bB⟩:qT) ls fun gT=>M Pg 215 [.pointer (c1),.int .i64 (bB)] dZ gT fun Am iy=>e (0:Int) iy)) else (e (163:Int) b3)))
theorem ahC{c1 bB D_ w e}(h:U8 c1 bB D_ w e):M Pg 220 [.pointer c1,.int .i64 bB,.int .i64 D_] (B .i64) w e:=by
 have ga:=en 15 (dB [0,1,2,3,5,6,4,7,8,9] .j)
 exact bq 64 Tryz.func220 rfl rfl br
def U9(fC:Int)(iH:Int)(b0:Addr)(w:World)(e:Int→World→Prop):Prop:=ex (L gg b0 w) fun de=>sJ Pg de [.int .i64 (iH)] (B .i64) w fun aI a_=>e aI a_
theorem ahD{fC iH b0 w e}(h:U9 fC iH b0 w e):M Pg 221 [.int .i64 fC,.int .i64 iH,.pointer (some b0)] (B .i64) w e:=
 bq 9 Tryz.func221 rfl rfl br
def U_(fC:Int)(bB:Int)(b0:Addr)(w:World)(e:Int→World→Prop):Prop:=ex (L gg b0 w) fun de=>sJ Pg de [.int .i64 (fC)] (B .i64) w fun aI a_=>e aI a_
theorem ahE{fC bB b0 w e}(h:U_ fC bB b0 w e):M Pg 222 [.int .i64 fC,.int .i64 bB,.pointer (some b0)] (B .i64) w e:=
 bq 9 Tryz.func222 rfl rfl br
def Va(fC:Int)(bB:Int)(b0:Addr)(w:World)(e:Int→World→Prop):Prop:=ex (L gg b0 w) fun de=>sJ Pg de [.int .i64 (fC)] (B .i64) w fun aI a_=>e aI a_
theorem ahF{fC bB b0 w e}(h:Va fC bB b0 w e):M Pg 223 [.int .i64 fC,.int .i64 bB,.pointer (some b0)] (B .i64) w e:=
 bq 9 Tryz.func223 rfl rfl br
def Vb(fC:Int)(w:World)(e:Bool→World→Prop):Prop:=e ((decide (fC≥(0:Int)))&&(decide (fC≤(1125899906842624:Int)))) w
theorem ahG{fC w e}(h:Vb fC w e):M Pg 224 [.int .i64 fC] bk w e:=
 bq 9 Tryz.func224 rfl rfl br
def Vc(aN:aM)(g1:Int)(w:World)(e:Int→World→Prop):Prop:=bO 290 aD aN w fun aA aV=>bO 2 (B .i64) g1 aV fun b1 b2=>ex (L aD aA b2) fun bQ=>ex (bK bQ) fun cP=>ex (L X (cP.add 0) b2) fun cH=>M Pg 254 [.int .i64 ((cH.len:Int)),((cm.mk (.func 255) (List.toArray []) (List.toArray [.pointer (some aA),.pointer (some b1)]))).enc] (B .i64) b2 fun hh cn=>e hh cn
theorem ahH{aN g1 w e}(h:Vc aN g1 w e):M Pg 226 [.pointer aN,.int .i64 g1] (B .i64) w e:=
 bq 12 Tryz.func226 rfl rfl br
def Vd(eP:af)(w:World)(e:Int→World→Prop):Prop:=dl w fun cB=>ex (cM eP 1 (0:Int)) fun aA=>ex (cM eP 1 (1:Int)) fun a6=>ex (cM eP 1 (2:Int)) fun b1=>ex (cM eP 1 (3:Int)) fun bY=>ex (L (B .u8) aA cB) fun bQ=>ex (iP (24:Int) (IntKind.u32.wrap ((IntKind.u32.wrap bQ)*2^(min ((24:Int)).toNat IntKind.u32.bits)))) fun d8=>ex (L (B .u8) a6 cB) fun cH=>ex (iP (16:Int) (IntKind.u32.wrap ((IntKind.u32.wrap cH)*2^(min ((16:Int)).toNat IntKind.u32.bits)))) fun d10=>ex (L (B .u8) b1 cB) fun cK=>ex (iP (8:Int) (IntKind.u32.wrap ((IntKind.u32.wrap cK)*2^(min ((8:Int)).toNat IntKind.u32.bits)))) fun d12=>ex (L (B .u8) bY cB) fun dU=>e (bits .or .u32 (bits .or .u32 (bits .or .u32 d8 d10) d12) (IntKind.u32.wrap dU)) cB
theorem ahI{eP w e}(h:Vd eP w e):M Pg 228 [X.enc eP] (B .u32) w e:=by
 have ga:=en 2 (dB [0,1,5,6,11,12,17,18,2,3,4,7,8,9,10,13,14,15,16,19,20,21,22] .j)
 exact bq 25 Tryz.func228 rfl rfl br
def Ve(eV:Nat)(w:World)(e:Int→World→Prop):Prop:=M Pg 87 [.float .f64 (eV)] (B .i64) w fun gf cB=>if (gf==(0:Int))=true then (M Pg 256 [.int .u64 ((0:Int))] (bw gP bk) cB fun bj aV=>e (bj.1:Int) aV) else (e (eV:Int) cB)
theorem ahJ{eV w e}(h:Ve eV w e):M Pg 229 [.float .f64 eV] (B .u64) w e:=
 bq 16 Tryz.func229 rfl rfl br
def Vg(eV:Nat)(w:World)(e:Bool→World→Prop):Prop:=e (fQ .neq eV eV) w
theorem ahL{eV w e}(h:Vg eV w e):M Pg 230 [.float .f64 eV] bk w e:=
 bq 6 Tryz.func230 rfl rfl br
def Vh(h_:Nat)(w:World)(e:(Nat×Int)→World→Prop):Prop:=M Pg 181 [.float .f64 (h_)] gP w fun gf cB=>if (fQ .lss gf (4503599627370496:Nat))=true then (ex (xo .mul h_ (4841369599423283200:Nat)) fun Iu=>e (Iu,(-52:Int)) cB) else (e (h_,(0:Int)) cB)
theorem ahM{h_ w e}(h:Vh h_ w e):M Pg 231 [.float .f64 h_] (bw gP (B .i64)) w e:=
 bq 10 Tryz.func231 rfl rfl br
def MQ(e3:Int)(Oc:Int)(LI:Int)(cN:World)(v2:Int×Int→World→Prop)(v1:Int×Int→World→Prop)(e:Int→World→Prop):Prop:=if (decide (LI<(8:Int)))=true then (ex (iP (1:Int) (Int.fdiv Oc (2^(min ((1:Int)).toNat IntKind.u32.bits)))) fun d13=>v1 ((bits .xor .u32 d13 (bits .and .u32 (IntKind.u32.wrap (0-(bits .and .u32 Oc (1:Int)))) (3988292384:Int))),(IntKind.i64.wrap (LI+(1:Int)))) cN) else (v2 (Oc,(IntKind.i64.wrap (e3+(1:Int)))) cN)
def MP(hS:af)(XL:Int)(e3:Int)(a_:World)(v2:Int×Int→World→Prop)(e:Int→World→Prop):Prop:=if (decide (e3<(hS.len:Int)))=true then (ex (cM hS 1 e3) fun cg=>ex (L (B .u8) cg a_) fun cT=>e2 (fun (s:Int×Int) w aa=>MQ e3 s.1 s.2 w v2 aa e) ((bits .xor .u32 XL (IntKind.u32.wrap cT)),(0:Int)) a_) else (e XL a_)
def Vi(aN:Int)(hS:af)(w:World)(e:Int→World→Prop):Prop:=e2 (fun (s:Int×Int) w aa=>MP hS s.1 s.2 w aa e) (aN,(0:Int)) w
theorem ahN{aN hS w e}(h:Vi aN hS w e):M Pg 234 [.int .u32 aN,X.enc hS] (B .u32) w e:=by
 have iU:=fun {e3} {v2}=>hf (bx:=Int×Int) 7 (fun s w aa=>MQ e3 s.1 s.2 w v2 aa e) (fun g s=>ae (ae (ae (ae (ae g 7 (X.enc hS)) 8 (.int .i64 ((hS.len:Int)))) 9 (.int .i64 e3)) 0 (.int .u32 (s.1))) 17 (.int .i64 (s.2)))
 have Eg:=hf (bx:=Int×Int) 3 (fun s w aa=>MP hS s.1 s.2 w aa e) (fun g s=>ae (ae (ae (ae g 7 (X.enc hS)) 8 (.int .i64 ((hS.len:Int)))) 0 (.int .u32 (s.1))) 9 (.int .i64 (s.2)))
 exact bq 29 Tryz.func234 rfl rfl br
def Vj(c1:mT)(w:World)(e:Bool→World→Prop):Prop:=bO 197 gj c1 w fun aY bm=>dl bm fun aV=>ex (L (B .u64) (aY.add 1) aV) fun dN=>ex (L (B .i64) (aY.add 2) aV) fun cJ=>ex (L gP (aY.add 3) aV) fun bQ=>ex (L qF (aY.add 4) aV) fun cT=>ex (L (B .i64) (aY.add 0) aV) fun cH=>if (cH==(1:Int))=true then (e (((cJ==(0:Int))&&((bQ:Int)==(0:Int)))&&(cT==([]:List UInt8))) aV) else (if (cH==(2:Int))=true then (e (((dN==(0:Int))&&((bQ:Int)==(0:Int)))&&(cT==([]:List UInt8))) aV) else (if (cH==(3:Int))=true then (e (((dN==(0:Int))&&(cJ==(0:Int)))&&(cT==([]:List UInt8))) aV) else (if (cH==(4:Int))=true then (e (((dN==(0:Int))&&(cJ==(0:Int)))&&((bQ:Int)==(0:Int))) aV) else (e false aV))))
theorem ahO{c1 w e}(h:Vj c1 w e):M Pg 235 [gj.enc c1] bk w e:=by
 have ga:=en 2 (dB [0,3,6,10,1,2,4,5,7,8,9,13,14,15,11,12,16] .j)
 exact bq 58 Tryz.func235 rfl rfl br
def MR(tH:af)(wV:Int)(a_:World)(v2:af×Int→World→Prop)(e:af→World→Prop):Prop:=if (decide (wV≥(128:Int)))=true then (l6 5 (B .u8) 1 1 tH [(bits .or .u8 (IntKind.u8.wrap wV) (128:Int))] a_ fun a2 b3=>ex (iP (7:Int) (Int.fdiv wV (2^(min ((7:Int)).toNat IntKind.u64.bits)))) fun d11=>v2 (a2,d11) b3) else (l6 5 (B .u8) 1 1 tH [(IntKind.u8.wrap wV)] a_ fun fU db=>e fU db)
def Vk(eP:af)(bW:Int)(w:World)(e:af→World→Prop):Prop:=e2 (fun (s:af×Int) w aa=>MR s.1 s.2 w aa e) (eP,bW) w
theorem ahP{eP bW w e}(h:Vk eP bW w e):M Pg 236 [X.enc eP,.int .u64 bW] X w e:=by
 have iU:=hf (bx:=af×Int) 2 (fun s w aa=>MR s.1 s.2 w aa e) (fun g s=>ae (ae g 0 (X.enc (s.1))) 1 (.int .u64 (s.2)))
 exact bq 20 Tryz.func236 rfl rfl br
def Vl(aN:aM)(w:World)(e:(eI×Bool)→World→Prop):Prop:=bO 292 dJ kn w fun aY bm=>ex (bK aN) fun a6=>ex (L X (a6.add 0) bm) fun dN=>if ((dN.len:Int)==(0:Int))=true then (bd dJ aY (⟨(0:Int),(0:Int)⟩:eI) bm fun b2=>ex (L dJ aY b2) fun bQ=>e (bQ,false) b2) else (dl bm fun bH=>ex (L X (a6.add 0) bH) fun cH=>ex (L X (a6.add 0) bH) fun dM=>ex (cM cH 2 (IntKind.i64.wrap ((dM.len:Int)-(1:Int)))) fun fG=>ex (L dJ fG bH) fun e7=>bd dJ aY e7 bH fun cu=>ex (L dJ aY cu) fun eA=>e (eA,true) cu)
theorem ahR{aN w e}(h:Vl aN w e):M Pg 243 [.pointer aN] (bw dJ bk) w e:=by
 have ga:=en 4 (dB [0,1,2,4,5,6,3,7,8,9,10,11,12,13] .j)
 exact bq 23 Tryz.func243 rfl rfl br
def MU(bS:aM)(bB:Int)(lO:af)(jr:Nat)(y4:Int)(bV:World)(NE:Int→World→Prop)(e:Int→World→Prop):Prop:=if (decide (y4<(lO.len:Int)))=true then (ex (cM lO 2 y4) fun dE=>ex (L hP dE bV) fun dM=>bO 87 hP Di bV fun fG cA=>bd hP fG dM cA fun cu=>ex (L (B .i64) (fG.add 0) cu) fun eA=>ex (iq fq .i64 (some jr) eA cu) fun s8=>bO 164 fq qW cu fun jC c2=>bd fq jC (((s8.getD qW,s8.isSome)).1) c2 fun fW=>ex (L (B .i64) (fG.add 0) fW) fun hL=>M Pg 211 [.pointer (bS),.int .i64 (hL)] (bw dJ bk) fW fun pi eE=>bO 292 dJ kn eE fun rP ep=>bd dJ rP pi.1 ep fun fM=>ex (L (B .i64) (fG.add 0) fM) fun hj=>M Pg 258 [.int .i64 (hj)] bk fM fun fA e5=>if (!fA)=true then (e (123:Int) e5) else (if ((s8.getD qW,s8.isSome)).2=true then (e (124:Int) e5) else (ex (L (B .i64) (rP.add 0) e5) fun mO=>if (decide (mO≥bB))=true then (e (121:Int) e5) else (ex (L (B .i64) (fG.add 0) e5) fun oP=>M Pg 259 [.pointer (bS),.int .i64 (oP)] bk e5 fun iX gR=>if iX=true then (e (125:Int) gR) else (ex (L (B .i64) (fG.add 0) gR) fun k6=>qk fq .i64 (some jr) k6 (⟨⟩:oV) gR fun iy=>NE ((IntKind.i64.wrap (y4+(1:Int)))) iy))))) else (e (0:Int) bV)
def Vm(bS:aM)(bB:Int)(lO:af)(w:World)(e:Int→World→Prop):Prop:=if (decide ((lO.len:Int)>(100:Int)))=true then (e (122:Int) w) else (uf w fun jr aV=>e2 (fun (s:Int) w aa=>MU bS bB lO jr s w aa e) ((0:Int)) aV)
theorem ahS{bS bB lO w e}(h:Vm bS bB lO w e):M Pg 244 [.pointer bS,.int .i64 bB,X.enc lO] (B .i64) w e:=by
 have iU:=fun {jr}=>hf (bx:=Int) 6 (fun s w aa=>MU bS bB lO jr s w aa e) (fun g s=>ae (ae (ae (ae (ae (ae g 0 (.pointer bS)) 1 (.int .i64 bB)) 7 (.map ((some jr)))) 18 (X.enc lO)) 19 (.int .i64 ((lO.len:Int)))) 20 (.int .i64 s))
 exact bq 60 Tryz.func244 rfl rfl br
def Vn(w:World)(e:aM→World→Prop):Prop:=bO 328 v9 (⟨(⟨none,0,0⟩:af),(0:Int)⟩:xy) w fun lG cB=>e (some lG) cB
theorem ahT{w e}(h:Vn w e):M Pg 245 [] aD w e:=
 bq 3 Tryz.func245 rfl rfl br
def Vo(aN:aM)(bB:Int)(LP:Int)(w:World)(e:Int→World→Prop):Prop:=if ((decide (bB<(1:Int)))||(decide (bB>(1125899906842624:Int))))=true then (e (110:Int) w) else (M Pg 243 [.pointer (aN)] (bw dJ bk) w fun bj aV=>bO 292 dJ kn aV fun bY bV=>bd dJ bY bj.1 bV fun bH=>ex (fun x=>bj.2=true→(L (B .i64) (bY.add 0) bH) x) fun cH=>ex (fun x=>(!(bj.2&&(decide (bB≤cH))))=true→(bK aN) x) fun eN=>ex (fun x=>(!(bj.2&&(decide (bB≤cH))))=true→(L (B .i64) (eN.add 1) bH) x) fun cK=>if ((bj.2&&(decide (bB≤cH)))||(decide (bB≤cK)))=true then (e (111:Int) bH) else (ex (bK aN) fun fO=>ex (L X (fO.add 0) bH) fun dU=>if (decide ((dU.len:Int)≥(10000:Int)))=true then (e (112:Int) bH) else (ex (L X (fO.add 0) bH) fun eA=>l6 292 dJ 2 16 eA [(⟨bB,LP⟩:eI)] bH fun gy c2=>bd X (fO.add 0) gy c2 fun ei=>e (0:Int) ei)))
theorem ahU{aN bB LP w e}(h:Vo aN bB LP w e):M Pg 246 [.pointer aN,.int .i64 bB,.int .i64 LP] (B .i64) w e:=
 bq 53 Tryz.func246 rfl rfl br
def Vp(jD:Int)(hS:Int)(w:World)(e:(Int×Int)→World→Prop):Prop:=ta 2 (B .i64) [jD,hS] w fun aA aV=>M Pg 260 [X.enc ((⟨some aA,2,2⟩:af))] (bw (B .i64) (B .i64)) aV fun aI a_=>e (aI.1,aI.2) a_
theorem ahV{jD hS w e}(h:Vp jD hS w e):M Pg 247 [.int .i64 jD,.int .i64 hS] (bw (B .i64) (B .i64)) w e:=
 bq 12 Tryz.func247 rfl rfl br
def Vq(bi:Int)(HY:Nat)(w:World)(e:(Int×Int)→World→Prop):Prop:=M Pg 213 [.int .i64 (bi)] (B .i64) w fun bp bm=>if (bp != (0:Int))=true then (e ((0:Int),bp) bm) else (M Pg 38 [.float .f64 (HY)] (B .i64) bm fun aI a_=>if (aI != (0:Int))=true then (e ((0:Int),aI) a_) else (M Pg 95 [.int .i64 (bi),.float .f64 (HY)] (bw (B .i64) (B .i64)) a_ fun a3 bV=>e (a3.1,a3.2) bV))
theorem ahW{bi HY w e}(h:Vq bi HY w e):M Pg 248 [.int .i64 bi,.float .f64 HY] (bw (B .i64) (B .i64)) w e:=
 bq 23 Tryz.func248 rfl rfl br
def Vr(c1:aM)(fk:rM)(w:World)(e:Unit→World→Prop):Prop:=bO 135 iB fk w fun aA aV=>dl aV fun a_=>ex (bK c1) fun bY=>ex (L ek (bY.add 3) a_) fun bQ=>ex (L (B .i64) ((aA.add 0).add 0) a_) fun cT=>Hv iB .i64 bQ cT a_ fun b3=>dl b3 fun cn=>ex (L ek (bY.add 4) cn) fun cK=>ex (L (B .i64) ((aA.add 0).add 1) cn) fun e7=>Hv (B .i64) .i64 cK e7 cn fun cu=>e () cu
theorem ahX{c1 fk w e}(h:Vr c1 fk w e):M Pg 249 [.pointer c1,iB.enc fk] dZ w e:=by
 have ga:=en 2 (dB [0,1,2,4,5,3,6,7] .j)
 have rT:=en 3 (dB [0,1,2,4,5,3,6,7] .j)
 exact bq 18 Tryz.func249 rfl rfl br
def Vt(fC:Int)(w:World)(e:Bool→World→Prop):Prop:=e ((decide (fC≥(0:Int)))&&(decide (fC≤(1125899906842624:Int)))) w
theorem ahZ{fC w e}(h:Vt fC w e):M Pg 250 [.int .i64 fC] bk w e:=
 bq 9 Tryz.func250 rfl rfl br
def Vu(bS:aM)(bB:Int)(w:World)(e:Int→World→Prop):Prop:=M Pg 224 [.int .i64 (bB)] bk w fun bp bm=>if (!bp)=true then (e (120:Int) bm) else (ex (bK bS) fun b1=>ex (L (B .i64) (b1.add 1) bm) fun cJ=>bd (B .i64) (b1.add 1) (max cJ bB) bm fun bV=>e (0:Int) bV)
theorem ah0{bS bB w e}(h:Vu bS bB w e):M Pg 251 [.pointer bS,.int .i64 bB] (B .i64) w e:=
 bq 17 Tryz.func251 rfl rfl br
def MW(b1:Addr)(fG:Addr)(cA:World)(mv:Unit→World→Prop)(e:Int→World→Prop):Prop:=k4 fG cA fun aEV db=>if (Option.isSome aEV)=true then (ex (kk aD .i64 fG db) fun amn=>ex (L (B .i64) (b1.add 2) db) fun jM=>M Pg 261 [.pointer (amn.2),.int .i64 (jM)] (B .i64) db fun w3 fW=>mv () fW) else (e (0:Int) db)
def Vv(bS:aM)(pe:Int)(w:World)(e:Int→World→Prop):Prop:=M Pg 224 [.int .i64 (pe)] bk w fun bp bm=>if (!bp)=true then (e (120:Int) bm) else (ex (bK bS) fun b1=>ex (L (B .i64) (b1.add 1) bm) fun cJ=>if (decide (pe>cJ))=true then (e (128:Int) bm) else (ex (L (B .i64) (b1.add 2) bm) fun bQ=>bd (B .i64) (b1.add 2) (max bQ pe) bm fun bH=>ex (L ek (b1.add 0) bH) fun cH=>H0 cH bH fun fG cn=>e2 (fun (s:Unit) w aa=>MW b1 fG w aa e) () cn))
theorem ah1{bS pe w e}(h:Vv bS pe w e):M Pg 252 [.pointer bS,.int .i64 pe] (B .i64) w e:=by
 have iU:=fun {b1} {fG}=>hf (bx:=Unit) 8 (fun s w aa=>MW b1 fG w aa e) (fun g s=>ae (ae g 0 (.pointer bS)) 31 (.pointer (some fG)))
 exact bq 42 Tryz.func252 rfl rfl br
def IH(aBD:af)(fM:World)(e:af→World→Prop):Prop:=e aBD fM
def Vw(c1:aM)(fk:rM)(w:World)(e:af→World→Prop):Prop:=bO 135 iB fk w fun aA aV=>ex (L (B .i64) ((aA.add 0).add 1) aV) fun dN=>ex (bK c1) fun bY=>ex (L aD ((bY.add 0).add 0) aV) fun bQ=>M Pg 211 [.pointer (bQ),.int .i64 (dN)] (bw dJ bk) aV fun fm bH=>bO 292 dJ kn bH fun eN cN=>bd dJ eN fm.1 cN fun cA=>ex (L bk ((aA.add 0).add 3) cA) fun dU=>if (!dU)=true then (ex (L (B .i64) (eN.add 1) cA) fun eA=>ex (L (B .i64) ((aA.add 0).add 2) cA) fun fu=>ta 87 hP [(⟨dN,(IntKind.i64.wrap (eA+fu))⟩:fw)] cA fun jC c2=>e (⟨some jC,1,1⟩:af) c2) else (ex (L (B .i64) (eN.add 1) cA) fun cW=>ex (L (B .i64) ((aA.add 0).add 2) cA) fun hL=>ex (L (B .i64) (aA.add 5) cA) fun gh=>ta 87 hP [(⟨dN,(IntKind.i64.wrap ((IntKind.i64.wrap (cW-hL))-gh))⟩:fw)] cA fun ja e4=>ex (L (B .i64) (aA.add 5) e4) fun hj=>if (decide (hj>(0:Int)))=true then (ex (L aD ((bY.add 0).add 0) e4) fun kT=>M Pg 211 [.pointer (kT),.int .i64 ((IntKind.i64.wrap ((4096:Int)+dN)))] (bw dJ bk) e4 fun dV fZ=>bO 292 dJ kn fZ fun wb gR=>bd dJ wb dV.1 gR fun h7=>ex (L (B .i64) (wb.add 1) h7) fun k6=>ex (L (B .i64) (aA.add 5) h7) fun mq=>l6 87 hP 2 16 (⟨some ja,1,1⟩:af) [(⟨(IntKind.i64.wrap ((4096:Int)+dN)),(IntKind.i64.wrap (k6+mq))⟩:fw)] h7 fun ed lu=>IH ed lu e) else (IH (⟨some ja,1,1⟩:af) e4 e))
theorem ah2{c1 fk w e}(h:Vw c1 fk w e):M Pg 253 [.pointer c1,iB.enc fk] X w e:=by
 have iI:=hy (bx:=af) 10 (fun s w=>IH s w e) (fun g s=>ae g 8 (X.enc s))
 exact bq 75 Tryz.func253 rfl rfl br
def MX(jm:cm)(nz:Int)(Qx:Int)(a_:World)(v2:Int×Int→World→Prop)(e:Int→World→Prop):Prop:=if (decide (nz<Qx))=true then (ex (iP (1:Int) (Int.fdiv (IntKind.u64.wrap (IntKind.i64.wrap (nz+Qx))) (2^(min ((1:Int)).toNat IntKind.u64.bits)))) fun d7=>tK Pg jm [.int .i64 ((IntKind.i64.wrap d7))] bk a_ fun fm bH=>if (!fm)=true then (v2 ((IntKind.i64.wrap ((IntKind.i64.wrap d7)+(1:Int))),Qx) bH) else (v2 (nz,(IntKind.i64.wrap d7)) bH)) else (e nz a_)
def Vx(bi:Int)(jm:cm)(w:World)(e:Int→World→Prop):Prop:=e2 (fun (s:Int×Int) w aa=>MX jm s.1 s.2 w aa e) ((0:Int),bi) w
theorem ah3{bi jm w e}(h:Vx bi jm w e):M Pg 254 [.int .i64 bi,jm.enc] (B .i64) w e:=by
 have iU:=hf (bx:=Int×Int) 3 (fun s w aa=>MX jm s.1 s.2 w aa e) (fun g s=>ae (ae (ae g 1 (jm.enc)) 5 (.int .i64 (s.1))) 6 (.int .i64 (s.2)))
 exact bq 26 Tryz.func254 rfl rfl br
def Vy(Ka:Int)(bB:Addr)(b0:Addr)(w:World)(e:Bool→World→Prop):Prop:=dl w fun aV=>ex (L aD bB aV) fun dN=>ex (bK dN) fun bY=>ex (L X (bY.add 0) aV) fun bQ=>ex (cM bQ 2 Ka) fun cP=>ex (L (B .i64) (cP.add 0) aV) fun cH=>ex (L (B .i64) b0 aV) fun dM=>e (decide (cH>dM)) aV
theorem ah4{Ka bB b0 w e}(h:Vy Ka bB b0 w e):M Pg 255 [.int .i64 Ka,.pointer (some bB),.pointer (some b0)] bk w e:=by
 have ga:=en 2 (dB [4,0,1,2,3,5,6,7,8,9,10] .j)
 exact bq 15 Tryz.func255 rfl rfl br
def MY(hS:Int)(bm:World)(e:(Nat×Bool)→World→Prop):Prop:=if (fQ .neq (Int.toNat hS) (Int.toNat hS))=true then (e ((0:Nat),false) bm) else (e ((Int.toNat hS),true) bm)
def Vz(s5:Int)(w:World)(e:(Nat×Bool)→World→Prop):Prop:=if (s5==(0:Int))=true then (e ((Int.toNat (9221120237041090561:Int)),true) w) else (ex (iP (63:Int) (Int.fdiv s5 (2^(min ((63:Int)).toNat IntKind.u64.bits)))) fun d5=>if (d5==(1:Int))=true then (MY (bits .andNot .u64 s5 (9223372036854775808:Int)) w e) else (MY (bits .xor .u64 IntKind.u64.max s5) w e))
theorem ah5{s5 w e}(h:Vz s5 w e):M Pg 256 [.int .u64 s5] (bw gP bk) w e:=by
 have iI:=hy (bx:=Int) 7 (fun s w=>MY s w e) (fun g s=>ae g 4 (.int .u64 s))
 exact bq 22 Tryz.func256 rfl rfl br
def VA(wM:Int)(w:World)(e:Bool→World→Prop):Prop:=e ((decide (wM≥(0:Int)))&&(decide (wM<(8192:Int)))) w
theorem ah6{wM w e}(h:VA wM w e):M Pg 258 [.int .i64 wM] bk w e:=
 bq 9 Tryz.func258 rfl rfl br
def Fx(y4:Bool)(bV:World)(e:Bool→World→Prop):Prop:=e y4 bV
def VB(bS:aM)(yy:Int)(w:World)(e:Bool→World→Prop):Prop:=ex (bK bS) fun aA=>ex (L ek (aA.add 0) w) fun de=>ex (iq aD .i64 de yy w) fun jr=>if ((jr.getD (none:Option Addr),jr.isSome)).2=true then (M Pg 262 [.pointer (((jr.getD (none:Option Addr),jr.isSome)).1)] X w fun a2 b3=>Fx (decide ((a2.len:Int)≥(10000:Int))) b3 e) else (Fx false w e)
theorem ah7{bS yy w e}(h:VB bS yy w e):M Pg 259 [.pointer bS,.int .i64 yy] bk w e:=by
 have o9:=pQ (bx:=Bool) [2,3,4,5,6] [7] (fun s w=>Fx s w e) (fun g s=>ae g 22 (.bool s))
 exact bq 23 Tryz.func259 rfl rfl br
def II(b0:Int)(aHB:Int)(bV:World)(gB:Int×Int→World→Prop)(e:(Int×Int)→World→Prop):Prop:=gB (aHB,(IntKind.i64.wrap (b0+(1:Int)))) bV
def M0(fY:af)(Ia:Int)(b0:Int)(aV:World)(gB:Int×Int→World→Prop)(e:(Int×Int)→World→Prop):Prop:=if (decide (b0<(fY.len:Int)))=true then (ex (cM fY 1 b0) fun cP=>ex (L (B .i64) cP aV) fun cH=>M Pg 213 [.int .i64 (cH)] (B .i64) aV fun hh cn=>if (hh != (0:Int))=true then (e ((0:Int),(40:Int)) cn) else (if (decide (Ia≤(1000000000000000:Int)))=true then (II b0 (IntKind.i64.wrap (Ia+cH)) cn gB e) else (II b0 Ia cn gB e))) else (M Pg 213 [.int .i64 (Ia)] (B .i64) aV fun fU db=>if (fU != (0:Int))=true then (e ((0:Int),(40:Int)) db) else (e (Ia,(0:Int)) db))
def VD(fY:af)(w:World)(e:(Int×Int)→World→Prop):Prop:=e2 (fun (s:Int×Int) w aa=>M0 fY s.1 s.2 w aa e) ((0:Int),(0:Int)) w
theorem ah9{fY w e}(h:VD fY w e):M Pg 260 [X.enc fY] (bw (B .i64) (B .i64)) w e:=by
 have iI:=fun {b0} {gB}=>hy (bx:=Int) 10 (fun s w=>II b0 s w gB e) (fun g s=>ae (ae (ae (ae g 7 (X.enc fY)) 8 (.int .i64 ((fY.len:Int)))) 9 (.int .i64 b0)) 4 (.int .i64 s))
 have iU:=hf (bx:=Int×Int) 4 (fun s w aa=>M0 fY s.1 s.2 w aa e) (fun g s=>ae (ae (ae (ae g 7 (X.enc fY)) 8 (.int .i64 ((fY.len:Int)))) 4 (.int .i64 (s.1))) 9 (.int .i64 (s.2)))
 exact bq 26 Tryz.func260 rfl rfl br
def VE(aN:aM)(pe:Int)(w:World)(e:Int→World→Prop):Prop:=if ((decide (pe<(0:Int)))||(decide (pe>(1125899906842624:Int))))=true then (e (110:Int) w) else (ex (bK aN) fun aA=>ex (L (B .i64) (aA.add 1) w) fun de=>bd (B .i64) (aA.add 1) (max de pe) w fun a_=>ex (L (B .i64) (aA.add 1) a_) fun cJ=>M Pg 226 [.pointer (aN),.int .i64 (cJ)] (B .i64) a_ fun a3 bV=>ex (L X (aA.add 0) bV) fun cH=>yI 292 dJ 16 kn (IntKind.i64.wrap ((cH.len:Int)-(max (IntKind.i64.wrap (a3-(1:Int))) (0:Int)))) (IntKind.i64.wrap ((cH.len:Int)-(max (IntKind.i64.wrap (a3-(1:Int))) (0:Int)))) bV fun hh cn=>ex (L X (aA.add 0) cn) fun e7=>ex (Sub e7 2 (max (IntKind.i64.wrap (a3-(1:Int))) (0:Int)) ((e7).len:Int) ((e7).cap:Int)) fun Sl=>Dy dJ 2 hh Sl cn fun fU db=>ex (Sub hh 2 0 (hh.len:Int) (hh.len:Int)) fun uu=>bd X (aA.add 0) uu db fun c2=>e (0:Int) c2)
theorem aia{aN pe w e}(h:VE aN pe w e):M Pg 261 [.pointer aN,.int .i64 pe] (B .i64) w e:=
 bq 55 Tryz.func261 rfl rfl br
def VF(aN:aM)(w:World)(e:af→World→Prop):Prop:=ex (bK aN) fun aY=>ex (L X (aY.add 0) w) fun ea=>yI 292 dJ 16 kn (ea.len:Int) (ea.len:Int) w fun bj aV=>ex (L X (aY.add 0) aV) fun cJ=>Dy dJ 2 bj cJ aV fun a3 bV=>e bj bV
theorem aib{aN w e}(h:VF aN w e):M Pg 262 [.pointer aN] X w e:=
 bq 17 Tryz.func262 rfl rfl br
end bf
end Go.Proofs.YthaobmpdjcoheaaGreat
