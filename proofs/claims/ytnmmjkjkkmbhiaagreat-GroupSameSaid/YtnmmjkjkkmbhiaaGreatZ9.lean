/- Own texts of this claim, part 9: short, merged. -/
import Derived.Test.YtnmmjkjkkmbhiaaGreatZ1
set_option maxRecDepth 100000
set_option maxHeartbeats 40000000
set_option linter.defProp false
set_option linter.unusedVariables false
set_option linter.unusedSimpArgs false
namespace Go.Proofs.YtnmmjkjkkmbhiaaGreat
namespace ba
def Ig(aR:Addr)(gm:Addr)(cO:World)(By:Unit→World→Prop)(j:Int→World→Prop):Prop:=Ge gm cO fun awK cQ=>if (Option.isSome awK)=true then (ex (mJ aM .i64 gm cQ) fun afF=>ex (M (D .i64) (aR.add 2) cQ) fun fM=>L Pg 217 [.pointer (afF.2),.int .i64 (fM)] (D .i64) cQ fun sP fB=>By () fB) else (j (0:Int) cQ)
def P5(db:aU)(m8:Int)(w:World)(j:Int→World→Prop):Prop:=L Pg 149 [.int .i64 (m8)] bi w fun aP a6=>if (!aP)=true then (j (120:Int) a6) else (ex (bI db) fun aR=>ex (M (D .i64) (aR.add 1) a6) fun cr=>if (decide (m8>cr))=true then (j (128:Int) a6) else (ex (M (D .i64) (aR.add 2) a6) fun cZ=>br (D .i64) (aR.add 2) (max cZ m8) a6 fun bQ=>ex (M dK (aR.add 0) bQ) fun cy=>GQ cy bQ fun gm b3=>e7 (fun (s:Unit) w aa=>Ig aR gm w aa j) () b3))
theorem aby{db m8 w j}(h:P5 db m8 w j):L Pg 208 [.pointer db,.int .i64 m8] (D .i64) w j:=by
 have hT:=fun {aR} {gm}=>gK (bE:=Unit) 8 (fun s w aa=>Ig aR gm w aa j) (fun g s=>av (av g 0 (.pointer db)) 31 (.pointer (some gm)))
 exact aX 42 Tryz.func208 rfl rfl bf
def Ii(fA:Int)(Jm:Int)(DP:Int)(cU:World)(ja:Int×Int→World→Prop)(IW:Int×Int→World→Prop)(j:Int→World→Prop):Prop:=if (decide (DP<(8:Int)))=true then (ex (hB (1:Int) (Int.fdiv Jm (2^(min ((1:Int)).toNat IntKind.u32.bits)))) fun d13=>IW ((bits .xor .u32 d13 (bits .and .u32 (IntKind.u32.wrap (0-(bits .and .u32 Jm (1:Int)))) (3988292384:Int))),(IntKind.i64.wrap (DP+(1:Int)))) cU) else (ja (Jm,(IntKind.i64.wrap (fA+(1:Int)))) cU)
def Ih(c1:X)(Sm:Int)(fA:Int)(bb:World)(ja:Int×Int→World→Prop)(j:Int→World→Prop):Prop:=if (decide (fA<(c1.len:Int)))=true then (ex (cz c1 1 fA) fun cw=>ex (M (D .u8) cw bb) fun cl=>e7 (fun (s:Int×Int) w aa=>Ii fA s.1 s.2 w ja aa j) ((bits .xor .u32 Sm (IntKind.u32.wrap cl)),(0:Int)) bb) else (j Sm bb)
def P6(g6:Int)(c1:X)(w:World)(j:Int→World→Prop):Prop:=e7 (fun (s:Int×Int) w aa=>Ih c1 s.1 s.2 w aa j) (g6,(0:Int)) w
theorem abz{g6 c1 w j}(h:P6 g6 c1 w j):L Pg 209 [.int .u32 g6,O.enc c1] (D .u32) w j:=by
 have hT:=fun {fA} {ja}=>gK (bE:=Int×Int) 7 (fun s w aa=>Ii fA s.1 s.2 w ja aa j) (fun g s=>av (av (av (av (av g 7 (O.enc c1)) 8 (.int .i64 ((c1.len:Int)))) 9 (.int .i64 fA)) 0 (.int .u32 (s.1))) 17 (.int .i64 (s.2)))
 have C0:=gK (bE:=Int×Int) 3 (fun s w aa=>Ih c1 s.1 s.2 w aa j) (fun g s=>av (av (av (av g 7 (O.enc c1)) 8 (.int .i64 ((c1.len:Int)))) 0 (.int .u32 (s.1))) 9 (.int .i64 (s.2)))
 exact aX 29 Tryz.func209 rfl rfl bf
def P8(g6:aU)(w:World)(j:(ei×Bool)→World→Prop):Prop:=ch 210 cX iy w fun aY a6=>ex (bI g6) fun bh=>ex (M O (bh.add 0) a6) fun dn=>if ((dn.len:Int)==(0:Int))=true then (br cX aY (⟨(0:Int),(0:Int)⟩:ei) a6 fun bK=>ex (M cX aY bK) fun cZ=>j (cZ,false) bK) else (ds a6 fun bQ=>ex (M O (bh.add 0) bQ) fun cy=>ex (M O (bh.add 0) bQ) fun dg=>ex (cz cy 2 (IntKind.i64.wrap ((dg.len:Int)-(1:Int)))) fun gm=>ex (M cX gm bQ) fun eU=>br cX aY eU bQ fun cM=>ex (M cX aY cM) fun fo=>j (fo,true) cM)
theorem abB{g6 w j}(h:P8 g6 w j):L Pg 211 [.pointer g6] (bJ cX bi) w j:=by
 have gH:=eT 4 (da [0,1,2,4,5,6,3,7,8,9,10,11,12,13] .e)
 exact aX 23 Tryz.func211 rfl rfl bf
def Ij(db:aU)(bl:Int)(ke:X)(jd:Nat)(tM:Int)(bH:World)(is:Int→World→Prop)(j:Int→World→Prop):Prop:=if (decide (tM<(ke.len:Int)))=true then (ex (cz ke 2 tM) fun jE=>ex (M jC jE bH) fun dg=>ch 174 jC BE bH fun gm cO=>br jC gm dg cO fun cM=>ex (M (D .i64) (gm.add 0) cM) fun fo=>ex (fO jn .i64 (some jd) fo cM) fun iC=>ch 161 jn oT cM fun eC eG=>br jn eC (((iC.getD oT,iC.isSome)).1) eG fun fB=>ex (M (D .i64) (gm.add 0) fB) fun kU=>L Pg 198 [.pointer (db),.int .i64 (kU)] (bJ cX bi) fB fun ca fc=>ch 210 cX iy fc fun dl gw=>br cX dl ca.1 gw fun hq=>ex (M (D .i64) (gm.add 0) hq) fun oL=>L Pg 218 [.int .i64 (oL)] bi hq fun cB gQ=>if (!cB)=true then (j (123:Int) gQ) else (if ((iC.getD oT,iC.isSome)).2=true then (j (124:Int) gQ) else (ex (M (D .i64) (dl.add 0) gQ) fun qQ=>if (decide (qQ≥bl))=true then (j (121:Int) gQ) else (ex (M (D .i64) (gm.add 0) gQ) fun nQ=>L Pg 219 [.pointer (db),.int .i64 (nQ)] bi gQ fun vx mE=>if vx=true then (j (125:Int) mE) else (ex (M (D .i64) (gm.add 0) mE) fun nR=>nb jn .i64 (some jd) nR (⟨⟩:nW) mE fun jM=>is ((IntKind.i64.wrap (tM+(1:Int)))) jM))))) else (j (0:Int) bH)
def P9(db:aU)(bl:Int)(ke:X)(w:World)(j:Int→World→Prop):Prop:=if (decide ((ke.len:Int)>(100:Int)))=true then (j (122:Int) w) else (pf w fun jd aV=>e7 (fun (s:Int) w aa=>Ij db bl ke jd s w aa j) ((0:Int)) aV)
theorem abC{db bl ke w j}(h:P9 db bl ke w j):L Pg 212 [.pointer db,.int .i64 bl,O.enc ke] (D .i64) w j:=by
 have hT:=fun {jd}=>gK (bE:=Int) 6 (fun s w aa=>Ij db bl ke jd s w aa j) (fun g s=>av (av (av (av (av (av g 0 (.pointer db)) 1 (.int .i64 bl)) 7 (.map ((some jd)))) 18 (O.enc ke)) 19 (.int .i64 ((ke.len:Int)))) 20 (.int .i64 s))
 exact aX 60 Tryz.func212 rfl rfl bf
def P_(w:World)(j:aU→World→Prop):Prop:=ch 238 tb (⟨(⟨none,0,0⟩:X),(0:Int)⟩:ue) w fun dM cK=>j (some dM) cK
theorem abD{w j}(h:P_ w j):L Pg 213 [] aM w j:=
 aX 3 Tryz.func213 rfl rfl bf
def Qa(g6:aU)(bl:Int)(vI:Int)(w:World)(j:Int→World→Prop):Prop:=if ((decide (bl<(1:Int)))||(decide (bl>(1125899906842624:Int))))=true then (j (110:Int) w) else (L Pg 211 [.pointer (g6)] (bJ cX bi) w fun ck aV=>ch 210 cX iy aV fun bU bH=>br cX bU ck.1 bH fun bQ=>ex (fun x=>ck.2=true→(M (D .i64) (bU.add 0) bQ) x) fun cy=>ex (fun x=>(!(ck.2&&(decide (bl≤cy))))=true→(bI g6) x) fun cs=>ex (fun x=>(!(ck.2&&(decide (bl≤cy))))=true→(M (D .i64) (cs.add 1) bQ) x) fun dc=>if ((ck.2&&(decide (bl≤cy)))||(decide (bl≤dc)))=true then (j (111:Int) bQ) else (ex (bI g6) fun e4=>ex (M O (e4.add 0) bQ) fun cV=>if (decide ((cV.len:Int)≥(10000:Int)))=true then (j (112:Int) bQ) else (ex (M O (e4.add 0) bQ) fun fo=>kG 210 cX 2 16 fo [(⟨bl,vI⟩:ei)] bQ fun hI eG=>br O (e4.add 0) hI eG fun e9=>j (0:Int) e9)))
theorem abE{g6 bl vI w j}(h:Qa g6 bl vI w j):L Pg 214 [.pointer g6,.int .i64 bl,.int .i64 vI] (D .i64) w j:=
 aX 53 Tryz.func214 rfl rfl bf
def Qb(cC:Int)(c1:Int)(w:World)(j:(Int×Int)→World→Prop):Prop:=pI 2 (D .i64) [cC,c1] w fun aI aV=>L Pg 220 [O.enc ((⟨some aI,2,2⟩:X))] (bJ (D .i64) (D .i64)) aV fun cT bb=>j (cT.1,cT.2) bb
theorem abF{cC c1 w j}(h:Qb cC c1 w j):L Pg 215 [.int .i64 cC,.int .i64 c1] (bJ (D .i64) (D .i64)) w j:=
 aX 12 Tryz.func215 rfl rfl bf
def Qc(bq:Int)(oz:Nat)(w:World)(j:(Int×Int)→World→Prop):Prop:=L Pg 200 [.int .i64 (bq)] (D .i64) w fun aP a6=>if (aP != (0:Int))=true then (j ((0:Int),aP) a6) else (L Pg 12 [.float .f64 (oz)] (D .i64) a6 fun cT bb=>if (cT != (0:Int))=true then (j ((0:Int),cT) bb) else (L Pg 221 [.int .i64 (bq),.float .f64 (oz)] (bJ (D .i64) (D .i64)) bb fun cF bH=>j (cF.1,cF.2) bH))
theorem abG{bq oz w j}(h:Qc bq oz w j):L Pg 216 [.int .i64 bq,.float .f64 oz] (bJ (D .i64) (D .i64)) w j:=
 aX 23 Tryz.func216 rfl rfl bf
def Qd(g6:aU)(m8:Int)(w:World)(j:Int→World→Prop):Prop:=if ((decide (m8<(0:Int)))||(decide (m8>(1125899906842624:Int))))=true then (j (110:Int) w) else (ex (bI g6) fun aI=>ex (M (D .i64) (aI.add 1) w) fun dr=>br (D .i64) (aI.add 1) (max dr m8) w fun bb=>ex (M (D .i64) (aI.add 1) bb) fun cr=>L Pg 151 [.pointer (g6),.int .i64 (cr)] (D .i64) bb fun cF bH=>ex (M O (aI.add 0) bH) fun cy=>vn 210 cX 16 iy (IntKind.i64.wrap ((cy.len:Int)-(max (IntKind.i64.wrap (cF-(1:Int))) (0:Int)))) (IntKind.i64.wrap ((cy.len:Int)-(max (IntKind.i64.wrap (cF-(1:Int))) (0:Int)))) bH fun dt b3=>ex (M O (aI.add 0) b3) fun eU=>ex (Sub eU 2 (max (IntKind.i64.wrap (cF-(1:Int))) (0:Int)) ((eU).len:Int) ((eU).cap:Int)) fun ax5=>zP cX 2 dt ax5 b3 fun ga cQ=>ex (Sub dt 2 0 (dt.len:Int) (dt.len:Int)) fun rB=>br O (aI.add 0) rB cQ fun eG=>j (0:Int) eG)
theorem abH{g6 m8 w j}(h:Qd g6 m8 w j):L Pg 217 [.pointer g6,.int .i64 m8] (D .i64) w j:=
 aX 55 Tryz.func217 rfl rfl bf
def Qe(CT:Int)(w:World)(j:Bool→World→Prop):Prop:=j ((decide (CT≥(0:Int)))&&(decide (CT<(8192:Int)))) w
theorem abI{CT w j}(h:Qe CT w j):L Pg 218 [.int .i64 CT] bi w j:=
 aX 9 Tryz.func218 rfl rfl bf
def Bh(tM:Bool)(bH:World)(j:Bool→World→Prop):Prop:=j tM bH
def Qf(db:aU)(vg:Int)(w:World)(j:Bool→World→Prop):Prop:=ex (bI db) fun aI=>ex (M dK (aI.add 0) w) fun dr=>ex (fO aM .i64 dr vg w) fun jd=>if ((jd.getD (none:Option Addr),jd.isSome)).2=true then (L Pg 222 [.pointer (((jd.getD (none:Option Addr),jd.isSome)).1)] O w fun dq bX=>Bh (decide ((dq.len:Int)≥(10000:Int))) bX j) else (Bh false w j)
theorem abJ{db vg w j}(h:Qf db vg w j):L Pg 219 [.pointer db,.int .i64 vg] bi w j:=by
 have qw:=tr (bE:=Bool) [2,3,4,5,6] [7] (fun s w=>Bh s w j) (fun g s=>av g 22 (.bool s))
 exact aX 23 Tryz.func219 rfl rfl bf
def EB(dm:Int)(ayX:Int)(bH:World)(j3:Int×Int→World→Prop)(j:(Int×Int)→World→Prop):Prop:=j3 (ayX,(IntKind.i64.wrap (dm+(1:Int)))) bH
def Il(e6:X)(DL:Int)(dm:Int)(aV:World)(j3:Int×Int→World→Prop)(j:(Int×Int)→World→Prop):Prop:=if (decide (dm<(e6.len:Int)))=true then (ex (cz e6 1 dm) fun eH=>ex (M (D .i64) eH aV) fun cy=>L Pg 200 [.int .i64 (cy)] (D .i64) aV fun dt b3=>if (dt != (0:Int))=true then (j ((0:Int),(40:Int)) b3) else (if (decide (DL≤(1000000000000000:Int)))=true then (EB dm (IntKind.i64.wrap (DL+cy)) b3 j3 j) else (EB dm DL b3 j3 j))) else (L Pg 200 [.int .i64 (DL)] (D .i64) aV fun ga cQ=>if (ga != (0:Int))=true then (j ((0:Int),(40:Int)) cQ) else (j (DL,(0:Int)) cQ))
def Qh(e6:X)(w:World)(j:(Int×Int)→World→Prop):Prop:=e7 (fun (s:Int×Int) w aa=>Il e6 s.1 s.2 w aa j) ((0:Int),(0:Int)) w
theorem abL{e6 w j}(h:Qh e6 w j):L Pg 220 [O.enc e6] (bJ (D .i64) (D .i64)) w j:=by
 have kJ:=fun {dm} {j3}=>kv (bE:=Int) 10 (fun s w=>EB dm s w j3 j) (fun g s=>av (av (av (av g 7 (O.enc e6)) 8 (.int .i64 ((e6.len:Int)))) 9 (.int .i64 dm)) 4 (.int .i64 s))
 have hT:=gK (bE:=Int×Int) 4 (fun s w aa=>Il e6 s.1 s.2 w aa j) (fun g s=>av (av (av (av g 7 (O.enc e6)) 8 (.int .i64 ((e6.len:Int)))) 4 (.int .i64 (s.1))) 9 (.int .i64 (s.2)))
 exact aX 26 Tryz.func220 rfl rfl bf
def Im(bq:Int)(gh:(Nat×Int))(d12:Int)(hI:(Int×Int))(aza:Bool)(fc:World)(j:(Int×Int)→World→Prop):Prop:=if aza=true then (j ((0:Int),(11:Int)) fc) else (ex (hB (IntKind.u64.wrap (IntKind.i64.wrap (gh.2-(53:Int)))) (IntKind.u64.wrap (hI.2*2^(min ((IntKind.u64.wrap (IntKind.i64.wrap (gh.2-(53:Int))))).toNat IntKind.u64.bits)))) fun d21=>L Pg 227 [.bool ((!((decide (bq<(0:Int)))==(decide (d12<(0:Int)))))),.int .u64 (d21)] (bJ (D .i64) (D .i64)) fc fun ru fU=>j (ru.1,ru.2) fU)
def ED(bq:Int)(d12:Int)(awL:Int)(kS:World)(j:(Int×Int)→World→Prop):Prop:=L Pg 227 [.bool ((!((decide (bq<(0:Int)))==(decide (d12<(0:Int)))))),.int .u64 (awL)] (bJ (D .i64) (D .i64)) kS fun hl lD=>j (hl.1,hl.2) lD
def EC(bq:Int)(mi:Nat)(tL:Bool)(bK:World)(j:(Int×Int)→World→Prop):Prop:=if tL=true then (if (bq==(0:Int))=true then (j ((0:Int),(10:Int)) bK) else (j ((0:Int),(11:Int)) bK)) else (L Pg 223 [.float .f64 (mi)] (bJ g2 (D .i64)) bK fun gh bQ=>L Pg 224 [.float .f64 (gh.1),.int .i64 ((53:Int))] g2 bQ fun dt b3=>ex (vV .i64 dt) fun d12=>L Pg 226 [.int .i64 (bq)] (D .u64) b3 fun pO cM=>L Pg 226 [.int .i64 (d12)] (D .u64) cM fun fS fm=>L Pg 225 [.int .u64 (pO),.int .u64 (fS)] (bJ (D .u64) (D .u64)) fm fun hI eG=>if ((hI.1==(0:Int))&&(hI.2==(0:Int)))=true then (j ((0:Int),(0:Int)) eG) else (if (decide ((IntKind.i64.wrap (gh.2-(53:Int)))≥(0:Int)))=true then (if ((hI.1 != (0:Int))||(decide ((IntKind.i64.wrap (gh.2-(53:Int)))≥(64:Int))))=true then (Im bq gh d12 hI true eG j) else (L Pg 171 [.int .u64 (hI.2)] (D .i64) eG fun cB gQ=>Im bq gh d12 hI (decide ((IntKind.i64.wrap (cB+(IntKind.i64.wrap (gh.2-(53:Int)))))>(64:Int))) gQ j)) else (L Pg 228 [.int .u64 (hI.1),.int .u64 (hI.2),.int .u64 ((IntKind.u64.wrap (IntKind.i64.wrap (0-(IntKind.i64.wrap (gh.2-(53:Int)))))))] (qO (D .u64) bi bi) eG fun ly h9=>if ((!ly.2.2)||(((!((decide (bq<(0:Int)))==(decide (d12<(0:Int)))))&&ly.2.1)&&(decide (ly.1≥(9223372036854775808:Int)))))=true then (j ((0:Int),(11:Int)) h9) else (if ((!((decide (bq<(0:Int)))==(decide (d12<(0:Int)))))&&ly.2.1)=true then (ED bq d12 (IntKind.u64.wrap (ly.1+(1:Int))) h9 j) else (ED bq d12 ly.1 h9 j)))))
def Qi(bq:Int)(mi:Nat)(w:World)(j:(Int×Int)→World→Prop):Prop:=L Pg 44 [.float .f64 (mi)] (D .i64) w fun aP a6=>if (aP==(0:Int))=true then (j ((0:Int),(10:Int)) a6) else (if (aP==(1:Int))=true then (EC bq mi (aP==(1:Int)) a6 j) else (EC bq mi (aP==(6:Int)) a6 j))
theorem abM{bq mi w j}(h:Qi bq mi w j):L Pg 221 [.int .i64 bq,.float .f64 mi] (bJ (D .i64) (D .i64)) w j:=by
 have qw:=fun {gh:(Nat×Int)} {d12} {hI:(Int×Int)}=>tr (bE:=Bool) [7,8,9,10,11,12] [] (fun s w=>Im bq gh d12 hI s w j) (fun g s=>av (av (av (av g 9 (.int .i64 ((IntKind.i64.wrap (gh.2-(53:Int)))))) 10 (.bool ((!((decide (bq<(0:Int)))==(decide (d12<(0:Int)))))))) 12 (.int .u64 (hI.2))) 68 (.bool s))
 have kJ:=fun {d12}=>kv (bE:=Int) 25 (fun s w=>ED bq d12 s w j) (fun g s=>av (av g 10 (.bool ((!((decide (bq<(0:Int)))==(decide (d12<(0:Int)))))))) 13 (.int .u64 s))
 have U2:=kv (bE:=Bool) 7 (fun s w=>EC bq mi s w j) (fun g s=>av (av (av g 0 (.int .i64 bq)) 1 (.float .f64 mi)) 20 (.bool s))
 exact aX 110 Tryz.func221 rfl rfl bf
def Qj(g6:aU)(w:World)(j:X→World→Prop):Prop:=ex (bI g6) fun aY=>ex (M O (aY.add 0) w) fun ez=>vn 210 cX 16 iy (ez.len:Int) (ez.len:Int) w fun ck aV=>ex (M O (aY.add 0) aV) fun cr=>zP cX 2 ck cr aV fun cF bH=>j ck bH
theorem abN{g6 w j}(h:Qj g6 w j):L Pg 222 [.pointer g6] O w j:=
 aX 17 Tryz.func222 rfl rfl bf
def Qk(et:Nat)(w:World)(j:(Nat×Int)→World→Prop):Prop:=L Pg 230 [.float .f64 (et)] (bJ g2 (D .i64)) w fun fT cK=>j (fT.1,fT.2) cK
theorem abO{et w j}(h:Qk et w j):L Pg 223 [.float .f64 et] (bJ g2 (D .i64)) w j:=
 aX 12 Tryz.func223 rfl rfl bf
def Ql(ml:Nat)(mT:Int)(w:World)(j:Nat→World→Prop):Prop:=L Pg 232 [.float .f64 (ml),.int .i64 (mT)] g2 w fun aP a6=>j aP a6
theorem abP{ml mT w j}(h:Ql ml mT w j):L Pg 224 [.float .f64 ml,.int .i64 mT] g2 w j:=
 aX 11 Tryz.func224 rfl rfl bf
def Qm(jk:Int)(xe:Int)(w:World)(j:(Int×Int)→World→Prop):Prop:=ex (hB (32:Int) (Int.fdiv jk (2^(min ((32:Int)).toNat IntKind.u64.bits)))) fun d3=>ex (hB (32:Int) (Int.fdiv xe (2^(min ((32:Int)).toNat IntKind.u64.bits)))) fun d4=>ex (hB (32:Int) (Int.fdiv (IntKind.u64.wrap ((bits .and .u64 jk (4294967295:Int))*(bits .and .u64 xe (4294967295:Int)))) (2^(min ((32:Int)).toNat IntKind.u64.bits)))) fun d5=>ex (hB (32:Int) (Int.fdiv (IntKind.u64.wrap ((IntKind.u64.wrap (d3*(bits .and .u64 xe (4294967295:Int))))+d5)) (2^(min ((32:Int)).toNat IntKind.u64.bits)))) fun d6=>ex (hB (32:Int) (Int.fdiv (IntKind.u64.wrap ((bits .and .u64 (IntKind.u64.wrap ((IntKind.u64.wrap (d3*(bits .and .u64 xe (4294967295:Int))))+d5)) (4294967295:Int))+(IntKind.u64.wrap ((bits .and .u64 jk (4294967295:Int))*d4)))) (2^(min ((32:Int)).toNat IntKind.u64.bits)))) fun d7=>j ((IntKind.u64.wrap ((IntKind.u64.wrap ((IntKind.u64.wrap (d3*d4))+d6))+d7)),(IntKind.u64.wrap (jk*xe))) w
theorem abQ{jk xe w j}(h:Qm jk xe w j):L Pg 225 [.int .u64 jk,.int .u64 xe] (bJ (D .u64) (D .u64)) w j:=
 aX 51 Tryz.func225 rfl rfl bf
def Qn(bq:Int)(w:World)(j:Int→World→Prop):Prop:=if (decide (bq<(0:Int)))=true then (j (IntKind.u64.wrap (0-(IntKind.u64.wrap bq))) w) else (j (IntKind.u64.wrap bq) w)
theorem abR{bq w j}(h:Qn bq w j):L Pg 226 [.int .i64 bq] (D .u64) w j:=
 aX 10 Tryz.func226 rfl rfl bf
def Qo(Da:Bool)(bW:Int)(w:World)(j:(Int×Int)→World→Prop):Prop:=if (Da&&(decide (bW≤(9223372036854775808:Int))))=true then (j ((IntKind.i64.wrap (0-(IntKind.i64.wrap bW))),(0:Int)) w) else (if ((!Da)&&(decide (bW<(9223372036854775808:Int))))=true then (j ((IntKind.i64.wrap bW),(0:Int)) w) else (j ((0:Int),(11:Int)) w))
theorem abS{Da bW w j}(h:Qo Da bW w j):L Pg 227 [.bool Da,.int .u64 bW] (bJ (D .i64) (D .i64)) w j:=
 aX 24 Tryz.func227 rfl rfl bf
def Qp(wu:Int)(yr:Int)(ie:Int)(w:World)(j:(Int×Bool×Bool)→World→Prop):Prop:=if (decide (ie≥(128:Int)))=true then (j ((0:Int),true,true) w) else (if (decide (ie>(64:Int)))=true then (ex (hB (IntKind.u64.wrap (ie-(64:Int))) (Int.fdiv wu (2^(min ((IntKind.u64.wrap (ie-(64:Int)))).toNat IntKind.u64.bits)))) fun d4=>ex (hB (IntKind.u64.wrap ((128:Int)-ie)) (IntKind.u64.wrap (wu*2^(min ((IntKind.u64.wrap ((128:Int)-ie))).toNat IntKind.u64.bits)))) fun d5=>j (d4,((d5 != (0:Int))||(yr != (0:Int))),true) w) else (if (ie==(64:Int))=true then (j (wu,(yr != (0:Int)),true) w) else (ex (hB ie (Int.fdiv yr (2^(min (ie).toNat IntKind.u64.bits)))) fun d6=>ex (hB (IntKind.u64.wrap ((64:Int)-ie)) (IntKind.u64.wrap (wu*2^(min ((IntKind.u64.wrap ((64:Int)-ie))).toNat IntKind.u64.bits)))) fun d7=>ex (hB (IntKind.u64.wrap ((64:Int)-ie)) (IntKind.u64.wrap (yr*2^(min ((IntKind.u64.wrap ((64:Int)-ie))).toNat IntKind.u64.bits)))) fun d8=>ex (hB ie (Int.fdiv wu (2^(min (ie).toNat IntKind.u64.bits)))) fun d9=>j ((bits .or .u64 d6 d7),(d8 != (0:Int)),(d9==(0:Int))) w)))
theorem abT{wu yr ie w j}(h:Qp wu yr ie w j):L Pg 228 [.int .u64 wu,.int .u64 yr,.int .u64 ie] (qO (D .u64) bi bi) w j:=
 aX 51 Tryz.func228 rfl rfl bf
def EE(et:Nat)(fA:Bool)(bb:World)(j:(Nat×Int)→World→Prop):Prop:=if fA=true then (j (et,(0:Int)) bb) else (L Pg 234 [.float .f64 (et)] (bJ g2 (D .i64)) bb fun fK bK=>ex (hB (52:Int) (Int.fdiv (fK.1:Int) (2^(min ((52:Int)).toNat IntKind.u64.bits)))) fun d8=>j ((Int.toNat (bits .or .u64 (bits .andNot .u64 (fK.1:Int) (9218868437227405312:Int)) (4602678819172646912:Int))),(IntKind.i64.wrap (fK.2+(IntKind.i64.wrap ((IntKind.i64.wrap ((IntKind.i64.wrap (bits .and .u64 d8 (2047:Int)))-(1023:Int)))+(1:Int)))))) bK)
def Io(et:Nat)(w:World)(j:(Nat×Int)→World→Prop):Prop:=if (gS .eql et (0:Nat))=true then (j (et,(0:Int)) w) else (L Pg 94 [.float .f64 (et),.int .i64 ((0:Int))] bi w fun fT cK=>if fT=true then (EE et true cK j) else (L Pg 233 [.float .f64 (et)] bi cK fun hz cU=>EE et hz cU j))
theorem Qr{et w j}(h:Io et w j):L Pg 230 [.float .f64 et] (bJ g2 (D .i64)) w j:=by
 have qw:=tr (bE:=Bool) [3,4,5] [6] (fun s w=>EE et s w j) (fun g s=>av (av g 0 (.float .f64 et)) 15 (.bool s))
 exact aX 38 Tryz.func230 rfl rfl bf
def EG(cF:(Nat×Int))(agS:Int)(aur:Nat)(e9:World)(j:Nat→World→Prop):Prop:=ex (hB (52:Int) (IntKind.u64.wrap ((IntKind.u64.wrap (IntKind.i64.wrap (agS+(1023:Int))))*2^(min ((52:Int)).toNat IntKind.u64.bits)))) fun d20=>ex (xk .mul aur (Int.toNat (bits .or .u64 (bits .andNot .u64 (cF.1:Int) (9218868437227405312:Int)) d20))) fun aAf=>j aAf e9
def EF(ml:Nat)(mT:Int)(tL:Bool)(bK:World)(j:Nat→World→Prop):Prop:=if tL=true then (j ml bK) else (L Pg 234 [.float .f64 (ml)] (bJ g2 (D .i64)) bK fun cF bH=>ex (hB (52:Int) (Int.fdiv (cF.1:Int) (2^(min ((52:Int)).toNat IntKind.u64.bits)))) fun d9=>if (decide ((IntKind.i64.wrap ((IntKind.i64.wrap (mT+cF.2))+(IntKind.i64.wrap ((bits .and .i64 (IntKind.i64.wrap d9) (2047:Int))-(1023:Int)))))<(-1075:Int)))=true then (L Pg 235 [.float .f64 ((0:Nat)),.float .f64 (cF.1)] g2 bH fun dt b3=>j dt b3) else (if (decide ((IntKind.i64.wrap ((IntKind.i64.wrap (mT+cF.2))+(IntKind.i64.wrap ((bits .and .i64 (IntKind.i64.wrap d9) (2047:Int))-(1023:Int)))))>(1023:Int)))=true then (if (gS .lss cF.1 (0:Nat))=true then (L Pg 236 [.int .i64 ((-1:Int))] g2 bH fun dZ cO=>j dZ cO) else (L Pg 236 [.int .i64 ((1:Int))] g2 bH fun ga cQ=>j ga cQ)) else (if (decide ((IntKind.i64.wrap ((IntKind.i64.wrap (mT+cF.2))+(IntKind.i64.wrap ((bits .and .i64 (IntKind.i64.wrap d9) (2047:Int))-(1023:Int)))))<(-1022:Int)))=true then (EG cF (IntKind.i64.wrap ((IntKind.i64.wrap ((IntKind.i64.wrap (mT+cF.2))+(IntKind.i64.wrap ((bits .and .i64 (IntKind.i64.wrap d9) (2047:Int))-(1023:Int)))))+(53:Int))) (4368491638549381120:Nat) bH j) else (EG cF (IntKind.i64.wrap ((IntKind.i64.wrap (mT+cF.2))+(IntKind.i64.wrap ((bits .and .i64 (IntKind.i64.wrap d9) (2047:Int))-(1023:Int))))) (4607182418800017408:Nat) bH j))))
def Ip(ml:Nat)(mT:Int)(w:World)(j:Nat→World→Prop):Prop:=if (gS .eql ml (0:Nat))=true then (j ml w) else (L Pg 94 [.float .f64 (ml),.int .i64 ((0:Int))] bi w fun aP a6=>if aP=true then (EF ml mT true a6 j) else (L Pg 233 [.float .f64 (ml)] bi a6 fun wX hA=>EF ml mT wX hA j))
theorem Qs{ml mT w j}(h:Ip ml mT w j):L Pg 232 [.float .f64 ml,.int .i64 mT] g2 w j:=by
 have kJ:=fun {cF:(Nat×Int)}=>kv (bE:=Int×Nat) 20 (fun s w=>EG cF s.1 s.2 w j) (fun g s=>av (av (av g 6 (.int .u64 ((cF.1:Int)))) 1 (.int .i64 (s.1))) 7 (.float .f64 (s.2)))
 have qw:=tr (bE:=Bool) [3,4,5] [6] (fun s w=>EF ml mT s w j) (fun g s=>av (av (av g 0 (.float .f64 ml)) 1 (.int .i64 mT)) 18 (.bool s))
 exact aX 63 Tryz.func232 rfl rfl bf
def Qt(et:Nat)(w:World)(j:Bool→World→Prop):Prop:=j (gS .neq et et) w
theorem abV{et w j}(h:Qt et w j):L Pg 233 [.float .f64 et] bi w j:=
 aX 6 Tryz.func233 rfl rfl bf
def Qu(jk:Nat)(w:World)(j:(Nat×Int)→World→Prop):Prop:=L Pg 127 [.float .f64 (jk)] g2 w fun fT cK=>if (gS .lss fT (4503599627370496:Nat))=true then (ex (xk .mul jk (4841369599423283200:Nat)) fun rJ=>j (rJ,(-52:Int)) cK) else (j (jk,(0:Int)) cK)
theorem abW{jk w j}(h:Qu jk w j):L Pg 234 [.float .f64 jk] (bJ g2 (D .i64)) w j:=
 aX 10 Tryz.func234 rfl rfl bf
end ba
end Go.Proofs.YtnmmjkjkkmbhiaaGreat
