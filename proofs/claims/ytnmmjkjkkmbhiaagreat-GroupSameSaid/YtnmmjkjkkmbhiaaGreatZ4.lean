/- Own texts of this claim, part 4: short, merged. -/
import Derived.Test.YtnmmjkjkkmbhiaaGreatZ1
set_option maxRecDepth 100000
set_option maxHeartbeats 40000000
set_option linter.defProp false
set_option linter.unusedVariables false
set_option linter.unusedSimpArgs false
namespace Go.Proofs.YtnmmjkjkkmbhiaaGreat
namespace ba
def Bn(bq:aU)(bC:Int)(aI:Addr)(cw:Addr)(pm:Bool)(eG:World)(j:(iv×Int)→World→Prop):Prop:=if pm=true then (br ej aI (⟨(0:Int),(0:Int),(0:Int),rR⟩:iv) eG fun fB=>ex (M ej aI fB) fun kU=>j (kU,(93:Int)) fB) else (ex (bI bq) fun ps=>ex (M O (ps.add 2) eG) fun j0=>L Pg 115 [O.enc (j0),.int .i64 (bC),.int .i64 ((IntKind.i64.wrap (bC+(1:Int))))] O eG fun ru fU=>br O (ps.add 2) ru fU fun hq=>ex (M ej cw hq) fun oL=>br ej aI oL hq fun gQ=>ex (M ej aI gQ) fun ns=>j (ns,(0:Int)) gQ)
def Ra(bq:aU)(bC:Int)(w:World)(j:(iv×Int)→World→Prop):Prop:=ch 140 ej ix w fun aI aV=>L Pg 113 [.pointer (bq),.int .i64 (bC)] (bJ ej (D .i64)) aV fun cT bb=>ch 140 ej ix bb fun cw bQ=>br ej cw cT.1 bQ fun bX=>if (cT.2 != (0:Int))=true then (ex (M ej cw bX) fun dg=>br ej aI dg bX fun cU=>ex (M ej aI cU) fun eU=>j (eU,cT.2) cU) else (ex (M (D .i64) (cw.add 1) bX) fun cV=>L Pg 114 [.pointer (bq),.int .i64 (cV)] bi bX fun ga cQ=>if ga=true then (Bn bq bC aI cw true cQ j) else (ex (M (D .i64) (cw.add 2) cQ) fun eE=>L Pg 114 [.pointer (bq),.int .i64 (eE)] bi cQ fun vy kS=>Bn bq bC aI cw vy kS j))
theorem acB{bq bC w j}(h:Ra bq bC w j):L Pg 63 [.pointer bq,.int .i64 bC] (bJ ej (D .i64)) w j:=by
 have qw:=fun {aI} {cw}=>tr (bE:=Bool) [5,6,7,8,9] [] (fun s w=>Bn bq bC aI cw s w j) (fun g s=>av (av (av (av (av g 0 (.pointer bq)) 1 (.int .i64 bC)) 4 (.pointer (some aI))) 6 (.pointer (some cw))) 27 (.bool s))
 exact aX 41 Tryz.func63 rfl rfl bf
def Rb(cv:aU)(bl:Int)(mF:g4)(w:World)(j:Unit→World→Prop):Prop:=ch 56 eB mF w fun bh bb=>ex (M (D .i64) ((bh.add 2).add 0) bb) fun cr=>ex (M dT ((bh.add 2).add 2) bb) fun cZ=>L Pg 116 [.pointer (cv),.int .i64 (cr),.string ⟨(cZ).toArray⟩] cJ bb fun gh bQ=>j () bQ
theorem acC{cv bl mF w j}(h:Rb cv bl mF w j):L Pg 64 [.pointer cv,.int .i64 bl,eB.enc mF] cJ w j:=
 aX 14 Tryz.func64 rfl rfl bf
def Rc(cv:aU)(lS:Int)(mF:g4)(w:World)(j:Unit→World→Prop):Prop:=ch 56 eB mF w fun bh bb=>ds bb fun bK=>ex (bI cv) fun cw=>ex (M aM (cw.add 1) bK) fun cl=>ex (M (D .i64) (bh.add 1) bK) fun cy=>L Pg 51 [.pointer (cl),.int .i64 (cy)] (bJ O (D .i64)) bK fun dt b3=>if (dt.2==(0:Int))=true then (ex (M (D .i64) (bh.add 1) b3) fun eU=>L Pg 54 [.pointer (cv),.int .i64 (lS),eB.enc ((⟨(2:Int),eU,hf,dt.1⟩:g4))] cJ b3 fun pO cM=>j () cM) else (j () b3)
theorem acD{cv lS mF w j}(h:Rc cv lS mF w j):L Pg 65 [.pointer cv,.int .i64 lS,eB.enc mF] cJ w j:=by
 have gH:=eT 2 (da [0,1,2,4,3,5,6,7,8,9,10,11] .e)
 exact aX 27 Tryz.func65 rfl rfl bf
def Rd(cv:aU)(lS:Int)(mF:g4)(w:World)(j:Unit→World→Prop):Prop:=ch 56 eB mF w fun bh bb=>ex (M dA (bh.add 2) bb) fun cr=>ch 53 dA hf bb fun cw bQ=>br dA cw cr bQ fun bX=>ds bX fun b3=>ex (bI cv) fun gm=>ex (M aM (gm.add 1) b3) fun eU=>ex (M (D .i64) (cw.add 1) b3) fun cV=>ex (M (D .i64) (cw.add 0) b3) fun fo=>ex (M dT (cw.add 2) b3) fun hr=>L Pg 117 [.pointer (eU),.int .i64 (cV),.int .i64 (fo),.string ⟨(hr).toArray⟩] (D .i64) b3 fun vw du=>if (vw==(0:Int))=true then (ex (M (D .i64) (cw.add 1) du) fun gx=>ex (M (D .i64) (cw.add 0) du) fun kU=>L Pg 54 [.pointer (cv),.int .i64 (lS),eB.enc ((⟨(4:Int),gx,(⟨kU,(0:Int),([]:List UInt8)⟩:eA),(⟨none,0,0⟩:X)⟩:g4))] cJ du fun ca fc=>j () fc) else (j () du)
theorem acE{cv lS mF w j}(h:Rd cv lS mF w j):L Pg 66 [.pointer cv,.int .i64 lS,eB.enc mF] cJ w j:=by
 have gH:=eT 3 (da [0,1,2,4,6,8,3,5,7,9,10,11] .e)
 exact aX 30 Tryz.func66 rfl rfl bf
def Re(uC:Int)(vN:g4)(dm:Addr)(fA:Addr)(w:World)(j:Unit→World→Prop):Prop:=ch 56 eB vN w fun aR bK=>ex (M aM dm bK) fun cZ=>ex (M aM fA bK) fun cl=>ex (M eB aR bK) fun cy=>L Pg 68 [.pointer (cZ),.pointer (cl),.int .i64 (uC),eB.enc (cy)] cJ bK fun dt b3=>j () b3
theorem acF{uC vN dm fA w j}(h:Re uC vN dm fA w j):L Pg 67 [.int .i64 uC,eB.enc vN,.pointer (some dm),.pointer (some fA)] cJ w j:=
 aX 11 Tryz.func67 rfl rfl bf
def EI(aS:aU)(iU:aU)(l0:Nat)(Ak:Int)(GY:Int)(vL:World)(adp:Int→World→Prop)(j:Unit→World→Prop):Prop:=if (decide (GY≤Ak))=true then (ex (fO dT .i64 (some l0) GY vL) fun aup=>L Pg 55 [.pointer (aS),.pointer (iU),.int .i64 (GY),.string ⟨((aup.getD ([]:List UInt8))).toArray⟩] cJ vL fun aBR azJ=>adp ((IntKind.i64.wrap (GY+(1:Int)))) azJ) else (j () vL)
def II(aS:aU)(iU:aU)(l0:Nat)(hn:X)(Ak:Int)(NP:Int)(p0:World)(ado:Int×Int→World→Prop)(j:Unit→World→Prop):Prop:=if (decide (NP<(hn.len:Int)))=true then (ex (cz hn 3 NP) fun adN=>ex (M dA adN p0) fun azZ=>ch 53 dA hf p0 fun BI azI=>br dA BI azZ azI fun vK=>ex (M (D .i64) (BI.add 0) vK) fun az0=>ex (M dT (BI.add 2) vK) fun zm=>nb dT .i64 (some l0) az0 zm vK fun ZM=>ex (M (D .i64) (BI.add 0) ZM) fun az1=>ado (az1,(IntKind.i64.wrap (NP+(1:Int)))) ZM) else (e7 (fun (s:Int) w aa=>EI aS iU l0 Ak s w aa j) ((1:Int)) p0)
def IH(aS:aU)(iU:aU)(cw:Addr)(ly:X)(Vj:X)(NO:Int)(lD:World)(adn:X×Int→World→Prop)(j:Unit→World→Prop):Prop:=if (decide (NO<(ly.len:Int)))=true then (ex (cz ly 1 NO) fun adL=>ex (M (D .i64) adL lD) fun xb=>ex (M dK (cw.add 8) lD) fun zl=>ex (fO O .i64 zl xb lD) fun auo=>kG 54 O 1 24 Vj [(auo.getD (⟨none,0,0⟩:X))] lD fun ki sV=>adn (ki,(IntKind.i64.wrap (NO+(1:Int)))) sV) else (pf lD fun l0 D8=>L Pg 120 [O.enc (Vj)] O D8 fun hn xa=>e7 (fun (s:Int×Int) w aa=>II aS iU l0 hn s.1 s.2 w aa j) ((0:Int),(0:Int)) xa)
def Rf(aS:aU)(iU:aU)(r4:Int)(vO:g4)(w:World)(j:Unit→World→Prop):Prop:=ch 56 eB vO w fun aR bK=>ex (bI iU) fun cw=>ex (M dK (cw.add 8) bK) fun cl=>ex (fO O .i64 cl r4 bK) fun d_=>ds bK fun b3=>ex (fun x=>(!(((d_.getD (⟨none,0,0⟩:X),d_.isSome)).2))=true→(bI iU) x) fun gm=>ex (fun x=>(!(((d_.getD (⟨none,0,0⟩:X),d_.isSome)).2))=true→(M bi (gm.add 7) b3) x) fun eU=>ex (fun x=>(!(((d_.getD (⟨none,0,0⟩:X),d_.isSome)).2||eU))=true→(bI iU) x) fun hC=>ex (fun x=>(!(((d_.getD (⟨none,0,0⟩:X),d_.isSome)).2||eU))=true→(M (D .i64) (aR.add 1) b3) x) fun fo=>ex (fun x=>(!(((d_.getD (⟨none,0,0⟩:X),d_.isSome)).2||eU))=true→(M (D .i64) (hC.add 6) b3) x) fun hr=>if ((((d_.getD (⟨none,0,0⟩:X),d_.isSome)).2||eU)||(fo != hr))=true then (j () b3) else (ds b3 fun du=>ex (M dK (cw.add 8) du) fun fM=>ex (M O (aR.add 5) du) fun gx=>nb O .i64 fM r4 gx du fun e9=>ex (M dK (cw.add 8) e9) fun fy=>ex (nu fy e9) fun atz=>L Pg 118 [.pointer (aS),.int .i64 ((atz:Int))] bi e9 fun ru fU=>if (!ru)=true then (j () fU) else (br bi (cw.add 7) true fU fun hq=>ex (M dK (cw.add 8) hq) fun oL=>L Pg 119 [.map (oL)] qN hq fun cB gQ=>L Pg 56 [(cB).enc] O gQ fun ly h9=>e7 (fun (s:X×Int) w aa=>IH aS iU cw ly s.1 s.2 w aa j) ((⟨none,0,0⟩:X),(0:Int)) h9))
theorem acG{aS iU r4 vO w j}(h:Rf aS iU r4 vO w j):L Pg 68 [.pointer aS,.pointer iU,.int .i64 r4,eB.enc vO] cJ w j:=by
 have gH:=eT 3 (da [0,1,2,3,4,5,6,7,8,10,11,12,9,13,14,15] .e)
 have r3:=eT 4 (da [0,1,2,4,5,3,6,7] .e)
 have hT:=fun {l0} {Ak}=>gK (bE:=Int) 22 (fun s w aa=>EI aS iU l0 Ak s w aa j) (fun g s=>av (av (av (av (av g 0 (.pointer aS)) 1 (.pointer iU)) 13 (.map ((some l0)))) 14 (.int .i64 Ak)) 17 (.int .i64 s))
 have C0:=fun {l0} {hn:X}=>gK (bE:=Int×Int) 16 (fun s w aa=>II aS iU l0 hn s.1 s.2 w aa j) (fun g s=>av (av (av (av (av (av (av g 0 (.pointer aS)) 1 (.pointer iU)) 13 (.map ((some l0)))) 84 (O.enc hn)) 85 (.int .i64 ((hn.len:Int)))) 14 (.int .i64 (s.1))) 86 (.int .i64 (s.2)))
 have VG:=fun {cw} {ly:X}=>gK (bE:=X×Int) 9 (fun s w aa=>IH aS iU cw ly s.1 s.2 w aa j) (fun g s=>av (av (av (av (av (av g 0 (.pointer aS)) 1 (.pointer iU)) 66 (O.enc ly)) 67 (.int .i64 ((ly.len:Int)))) 10 (O.enc (s.1))) 68 (.int .i64 (s.2)))
 exact aX 110 Tryz.func68 rfl rfl bf
def Rg(uC:Int)(vN:g4)(dm:Addr)(fA:Addr)(w:World)(j:Unit→World→Prop):Prop:=ch 56 eB vN w fun aR bK=>ex (M aM dm bK) fun cZ=>ex (M (D .i64) (fA.add 2) bK) fun cl=>ex (M eB aR bK) fun cy=>L Pg 70 [.pointer (cZ),.int .i64 (cl),.int .i64 (uC),eB.enc (cy)] cJ bK fun dt b3=>j () b3
theorem acH{uC vN dm fA w j}(h:Rg uC vN dm fA w j):L Pg 69 [.int .i64 uC,eB.enc vN,.pointer (some dm),.pointer (some fA)] cJ w j:=
 aX 12 Tryz.func69 rfl rfl bf
def Bo(aS:aU)(bC:Int)(aR:Addr)(dg:aU)(dl:Addr)(azb:Bool)(l9:World)(j:Unit→World→Prop):Prop:=if azb=true then (j () l9) else (ds l9 fun sU=>ex (M (D .i64) ((aR.add 2).add 0) sU) fun p2=>ex (M dT (dl.add 0) sU) fun mH=>L Pg 116 [.pointer (dg),.int .i64 (p2),.string ⟨(mH).toArray⟩] cJ sU fun kA pZ=>ex (M (D .i64) ((aR.add 2).add 0) pZ) fun A6=>L Pg 87 [.pointer (aS),.int .i64 (bC),.int .i64 (A6)] cJ pZ fun X4 D8=>j () D8)
def Rh(aS:aU)(bC:Int)(r4:Int)(vO:g4)(w:World)(j:Unit→World→Prop):Prop:=ch 56 eB vO w fun aR bK=>ex (bI aS) fun cw=>ex (M O (cw.add 1) bK) fun cl=>ex (cz cl 1 bC) fun jE=>ex (M aM jE bK) fun dg=>ds bK fun cU=>ex (bI dg) fun e4=>ex (M dK (e4.add 9) cU) fun cV=>ex (M (D .i64) ((aR.add 2).add 0) cU) fun fo=>ex (fO aM .i64 cV fo cU) fun iC=>ds cU fun du=>ex (fun x=>(!(!(((iC.getD (none:Option Addr),iC.isSome)).2)))=true→(bI dg) x) fun kF=>ex (fun x=>(!(!(((iC.getD (none:Option Addr),iC.isSome)).2)))=true→(M bi (kF.add 7) du) x) fun gx=>ex (fun x=>(!((!(((iC.getD (none:Option Addr),iC.isSome)).2))||(!gx)))=true→(bI dg) x) fun kZ=>ex (fun x=>(!((!(((iC.getD (none:Option Addr),iC.isSome)).2))||(!gx)))=true→(M (D .i64) (aR.add 1) du) x) fun fy=>ex (fun x=>(!((!(((iC.getD (none:Option Addr),iC.isSome)).2))||(!gx)))=true→(M (D .i64) (kZ.add 6) du) x) fun j0=>if (((!(((iC.getD (none:Option Addr),iC.isSome)).2))||(!gx))||(fy != j0))=true then (j () du) else (ex (bI (((iC.getD (none:Option Addr),iC.isSome)).1)) fun dl=>ex (M dK (dl.add 1) du) fun mG=>ex (fO jn .i64 mG r4 du) fun F5=>ch 161 jn oT du fun pu gQ=>br jn pu (((F5.getD oT,F5.isSome)).1) gQ fun hA=>if ((F5.getD oT,F5.isSome)).2=true then (j () hA) else (ex (M dK (dl.add 1) hA) fun qQ=>ex (nu qQ hA) fun atA=>L Pg 118 [.pointer (aS),.int .i64 ((atA:Int))] bi hA fun vx mE=>ex (M dK (dl.add 1) mE) fun nR=>nb jn .i64 nR r4 (⟨⟩:nW) mE fun jM=>if vx=true then (Bo aS bC aR dg dl true jM j) else (ex (M dK (dl.add 1) jM) fun A8=>ex (nu A8 jM) fun atB=>L Pg 118 [.pointer (aS),.int .i64 ((atB:Int))] bi jM fun yW p0=>Bo aS bC aR dg dl (!yW) p0 j)))
theorem acJ{aS bC r4 vO w j}(h:Rh aS bC r4 vO w j):L Pg 70 [.pointer aS,.int .i64 bC,.int .i64 r4,eB.enc vO] cJ w j:=by
 have gH:=eT 3 (da [0,1,2,4,5,3,6,7,8,9,10,11,12] .e)
 have r3:=eT 4 (da [0,1,2,3,4,5,6,7,8,9,10,12,13,14,11,15,16,17] .e)
 have Jt:=eT 10 (da [0,1,2,4,5,6,3,7,8] .e)
 have qw:=fun {aR} {dg} {dl} {iC:(Option aU)}=>tr (bE:=Bool) [2,3,4,5,6,7,8,9,10] [] (fun s w=>Bo aS bC aR dg dl s w j) (fun g s=>av (av (av (av (av (av g 0 (.pointer aS)) 1 (.int .i64 bC)) 7 (.pointer (some aR))) 8 (.pointer dg)) 9 (.pointer (((iC.getD (none:Option Addr),iC.isSome)).1))) 83 (.bool s))
 exact aX 99 Tryz.func70 rfl rfl bf
def Ri(bq:aU)(bC:Int)(w:World)(j:Int→World→Prop):Prop:=L Pg 113 [.pointer (bq),.int .i64 (bC)] (bJ ej (D .i64)) w fun aP a6=>ch 140 ej ix a6 fun aR bK=>br ej aR aP.1 bK fun bH=>if (aP.2 != (0:Int))=true then (j aP.2 bH) else (ex (M ej aR bH) fun cl=>L Pg 112 [.pointer (bq),ej.enc (cl)] (D .i64) bH fun dq bX=>j dq bX)
theorem acK{bq bC w j}(h:Ri bq bC w j):L Pg 71 [.pointer bq,.int .i64 bC] (D .i64) w j:=
 aX 19 Tryz.func71 rfl rfl bf
def Bp(aP:(iv×Int))(bQ:World)(j:Int→World→Prop):Prop:=j aP.2 bQ
def Rj(bq:aU)(bC:Int)(w:World)(j:Int→World→Prop):Prop:=L Pg 113 [.pointer (bq),.int .i64 (bC)] (bJ ej (D .i64)) w fun aP a6=>ch 140 ej ix a6 fun aR bK=>br ej aR aP.1 bK fun bH=>if (aP.2==(0:Int))=true then (ex (bI bq) fun jE=>ex (M O (jE.add 2) bH) fun dg=>L Pg 115 [O.enc (dg),.int .i64 (bC),.int .i64 ((IntKind.i64.wrap (bC+(1:Int))))] O bH fun hz cU=>br O (jE.add 2) hz cU fun cM=>Bp aP cM j) else (Bp aP bH j)
theorem acL{bq bC w j}(h:Rj bq bC w j):L Pg 72 [.pointer bq,.int .i64 bC] (D .i64) w j:=by
 have kJ:=fun {aP:(iv×Int)}=>kv (bE:=Unit) 5 (fun s w=>Bp aP w j) (fun g s=>av g 6 (.int .i64 (aP.2)))
 exact aX 27 Tryz.func72 rfl rfl bf
def Rk(aS:aU)(bC:Int)(Fb:dz)(w:World)(j:Int→World→Prop):Prop:=ex (fun x=>(!(decide (bC<(0:Int))))=true→(bI aS) x) fun bh=>ex (fun x=>(!(decide (bC<(0:Int))))=true→(M O (bh.add 1) w) x) fun dn=>if ((decide (bC<(0:Int)))||(decide (bC≥(dn.len:Int))))=true then (j (251:Int) w) else (ex (bI aS) fun bU=>ex (M O (bU.add 1) w) fun cZ=>ex (cz cZ 1 bC) fun eH=>ex (M aM eH w) fun cy=>v9 Pg Fb [.pointer (cy)] cJ w fun dt b3=>j (0:Int) b3)
theorem acM{aS bC Fb w j}(h:Rk aS bC Fb w j):L Pg 73 [.pointer aS,.int .i64 bC,Fb.enc] (D .i64) w j:=
 aX 27 Tryz.func73 rfl rfl bf
def Rl(l7:aU)(bl:Addr)(dm:Addr)(fA:Addr)(w:World)(j:Unit→World→Prop):Prop:=ds w fun bb=>ex (M aM bl bb) fun cr=>ex (bI cr) fun cw=>ex (M aM (cw.add 2) bb) fun cl=>ex (M (D .i64) dm bb) fun cy=>ex (M bi fA bb) fun dg=>L Pg 75 [.pointer (cl),.int .i64 (cy),.bool (dg)] (D .i64) bb fun hz cU=>bk ((M aM bl cU) cr)<|j () cU
theorem acN{l7 bl dm fA w j}(h:Rl l7 bl dm fA w j):L Pg 74 [.pointer l7,.pointer (some bl),.pointer (some dm),.pointer (some fA)] cJ w j:=by
 have gH:=eT 1 (da [0,1,2,3,4,5,6] .e)
 exact aX 12 Tryz.func74 rfl rfl bf
def Bq(aV:World)(j:Int→World→Prop):Prop:=j (0:Int) aV
def Rm(bq:aU)(ms:Int)(vo:Bool)(w:World)(j:Int→World→Prop):Prop:=L Pg 111 [.pointer (bq),.int .i64 (ms)] bi w fun cT bb=>if (!cT)=true then (j (90:Int) bb) else (if vo=true then (ex (bI bq) fun cw=>ex (M dK (cw.add 3) bb) fun cl=>nb jn .i64 cl ms (⟨⟩:nW) bb fun bX=>Bq bX j) else (ex (bI bq) fun cs=>ex (M dK (cs.add 3) bb) fun dc=>C6 jn .i64 dc ms bb fun cO=>Bq cO j))
theorem acO{bq ms vo w j}(h:Rm bq ms vo w j):L Pg 75 [.pointer bq,.int .i64 ms,.bool vo] (D .i64) w j:=by
 have kJ:=kv (bE:=Unit) 7 (fun s w=>Bq w j) (fun g s=>g)
 exact aX 25 Tryz.func75 rfl rfl bf
def Rn(cv:aU)(bl:Addr)(dm:Addr)(w:World)(j:Unit→World→Prop):Prop:=ds w fun aV=>ex (bI cv) fun aR=>ex (M aM (aR.add 0) aV) fun cr=>ex (M (D .i64) bl aV) fun cZ=>ex (M O dm aV) fun cl=>L Pg 77 [.pointer (cr),.int .i64 (cZ),O.enc (cl)] cJ aV fun dq bX=>j () bX
theorem acP{cv bl dm w j}(h:Rn cv bl dm w j):L Pg 76 [.pointer cv,.pointer (some bl),.pointer (some dm)] cJ w j:=by
 have gH:=eT 1 (da [0,1,2,3,4,5,6] .e)
 exact aX 11 Tryz.func76 rfl rfl bf
def Ro(cN:aU)(bW:Int)(ve:X)(w:World)(j:Unit→World→Prop):Prop:=ex (bI cN) fun bh=>br (D .i64) (bh.add 3) (max bW (0:Int)) w fun bb=>ex (M O (bh.add 4) bb) fun cr=>tf (D .i64) 1 (0:Int) cr bb fun bH=>ex (M O (bh.add 4) bH) fun cl=>ex (Sub cl 1 0 (0:Int) (0:Int)) fun YD=>q1 3 (D .i64) 1 8 YD ve bH fun dt b3=>br O (bh.add 4) dt b3 fun cO=>j () cO
theorem acQ{cN bW ve w j}(h:Ro cN bW ve w j):L Pg 77 [.pointer cN,.int .i64 bW,O.enc ve] cJ w j:=
 aX 25 Tryz.func77 rfl rfl bf
def Rp(cv:aU)(bl:Addr)(w:World)(j:Unit→World→Prop):Prop:=ds w fun a6=>ex (bI cv) fun bh=>ex (M aM (bh.add 0) a6) fun dn=>ex (M O bl a6) fun cr=>L Pg 79 [.pointer (dn),O.enc (cr)] cJ a6 fun cF bH=>j () bH
theorem acR{cv bl w j}(h:Rp cv bl w j):L Pg 78 [.pointer cv,.pointer (some bl)] cJ w j:=by
 have gH:=eT 1 (da [0,1,2,3,4,5] .e)
 exact aX 9 Tryz.func78 rfl rfl bf
def Br(lA:Int)(e4:Addr)(Ma:Int)(fm:World)(mL:Int→World→Prop)(j:Unit→World→Prop):Prop:=ex (M O (e4.add 0) fm) fun hL=>ex (Sub hL 1 0 Ma Ma) fun GW=>br O (e4.add 0) GW fm fun fB=>br (D .i64) (e4.add 1) Ma fB fun e9=>mL ((IntKind.i64.wrap (lA+(1:Int)))) e9
def IM(tu:X)(aI:Addr)(cZ:X)(lA:Int)(bX:World)(mL:Int→World→Prop)(j:Unit→World→Prop):Prop:=if (decide (lA<(cZ.len:Int)))=true then (ex (M O (aI.add 0) bX) fun dc=>ex (cz dc 2 lA) fun e4=>ex (M (D .i64) (e4.add 1) bX) fun cV=>if (decide (lA<(tu.len:Int)))=true then (ds bX fun fc=>ex (cz tu 1 lA) fun nZ=>ex (M (D .i64) nZ fc) fun iI=>ex (M O (e4.add 0) fc) fun mG=>ex (M (D .i64) (e4.add 1) fc) fun qP=>Br lA e4 (IntKind.i64.wrap (cV+(min (max iI (0:Int)) (IntKind.i64.wrap ((mG.len:Int)-qP))))) fc mL j) else (Br lA e4 cV bX mL j)) else (j () bX)
def IL(cN:aU)(tu:X)(w:World)(j:Unit→World→Prop):Prop:=ex (bI cN) fun aI=>ex (M bi (aI.add 2) w) fun dr=>if dr=true then (j () w) else (br bi (aI.add 2) true w fun bb=>br (D .i64) (aI.add 3) (0:Int) bb fun bK=>ex (M O (aI.add 0) bK) fun cZ=>e7 (fun (s:Int) w aa=>IM tu aI cZ s w aa j) ((0:Int)) bK)
theorem Rq{cN tu w j}(h:IL cN tu w j):L Pg 79 [.pointer cN,O.enc tu] cJ w j:=by
 have gH:=eT 9 (da [0,1,2,3,6,7,8,11,12,13,4,5,9,10,14,15,16,17,18] .e)
 have kJ:=fun {lA} {e4} {mL} {cZ:X}=>kv (bE:=Int) 10 (fun s w=>Br lA e4 s w mL j) (fun g s=>av (av (av (av (av (av g 0 (.pointer cN)) 1 (O.enc tu)) 5 (.pointer ((some e4)))) 21 (.int .i64 ((cZ.len:Int)))) 22 (.int .i64 lA)) 6 (.int .i64 s))
 have hT:=fun {aI} {cZ:X}=>gK (bE:=Int) 4 (fun s w aa=>IM tu aI cZ s w aa j) (fun g s=>av (av (av (av g 0 (.pointer cN)) 1 (O.enc tu)) 21 (.int .i64 ((cZ.len:Int)))) 22 (.int .i64 s))
 exact aX 72 Tryz.func79 rfl rfl bf
def Rs(cv:aU)(bl:Addr)(dm:Addr)(w:World)(j:Unit→World→Prop):Prop:=ex (bI cv) fun bh=>ex (M aM (bh.add 0) w) fun dn=>L Pg 81 [.pointer (dn)] bi w fun fK bK=>if fK=true then (ex (M aM (bh.add 0) bK) fun cl=>L Pg 82 [.pointer (cl)] cJ bK fun dq bX=>ex (M aM bl bX) fun dc=>L Pg 15 [.pointer (dc),.pointer (cv)] (D .i64) bX fun dZ cO=>br (D .i64) dm dZ cO fun cQ=>j () cQ) else (j () bK)
theorem acT{cv bl dm w j}(h:Rs cv bl dm w j):L Pg 80 [.pointer cv,.pointer (some bl),.pointer (some dm)] cJ w j:=
 aX 17 Tryz.func80 rfl rfl bf
def Rt(cN:aU)(w:World)(j:Bool→World→Prop):Prop:=ex (bI cN) fun aY=>ex (M bi (aY.add 2) w) fun ez=>j ez w
theorem acU{cN w j}(h:Rt cN w j):L Pg 81 [.pointer cN] bi w j:=
 aX 7 Tryz.func81 rfl rfl bf
def Ru(cN:aU)(w:World)(j:Unit→World→Prop):Prop:=ex (bI cN) fun aY=>br bi (aY.add 2) false w fun a6=>j () a6
theorem acV{cN w j}(h:Ru cN w j):L Pg 82 [.pointer cN] cJ w j:=
 aX 5 Tryz.func82 rfl rfl bf
def Rv(jL:Int)(bl:Addr)(w:World)(j:Unit→World→Prop):Prop:=ex (M aM bl w) fun ez=>ex (bI ez) fun bh=>ex (M dK (bh.add 8) w) fun dn=>ex (fO O .i64 dn jL w) fun vl=>if (!(((vl.getD (⟨none,0,0⟩:X),vl.isSome)).2))=true then (ds w fun bH=>ex (M aM bl bH) fun cl=>ex (M aM bl bH) fun cy=>ex (bI cy) fun cs=>ex (M (D .i64) (cs.add 6) bH) fun dc=>L Pg 54 [.pointer (cl),.int .i64 (jL),eB.enc ((⟨(1:Int),dc,hf,(⟨none,0,0⟩:X)⟩:g4))] cJ bH fun dZ cO=>bk ((M aM bl cO) cy)<|bk ((M (D .i64) (cs.add 6) cO) dc)<|j () cO) else (j () w)
theorem acW{jL bl w j}(h:Rv jL bl w j):L Pg 83 [.int .i64 jL,.pointer (some bl)] cJ w j:=by
 have gH:=eT 3 (da [1,0,2,3,4,5,6,7] .e)
 exact aX 24 Tryz.func83 rfl rfl bf
def Rw(cv:(Option Nat))(w:World)(j:dz→World→Prop):Prop:=ch 64 dK cv w fun aY a6=>j (dz.mk (.func 121) (List.toArray []) (List.toArray [.pointer (some aY)])) a6
theorem acX{cv w j}(h:Rw cv w j):L Pg 84 [.map cv] qN w j:=
 aX 4 Tryz.func84 rfl rfl bf
def Rx(jL:Int)(bl:Addr)(dm:Addr)(w:World)(j:Unit→World→Prop):Prop:=ds w fun aV=>ex (M aM bl aV) fun dn=>ex (bI dn) fun bU=>ex (M dK (bU.add 9) aV) fun cZ=>ex (M (D .i64) dm aV) fun cl=>ex (fO aM .i64 cZ cl aV) fun d_=>ex (bI (d_.getD (none:Option Addr))) fun cs=>ex (M dK (cs.add 1) aV) fun dc=>ex (fO jn .i64 dc jL aV) fun Ar=>ch 161 jn oT aV fun hC cQ=>br jn hC (((Ar.getD oT,Ar.isSome)).1) cQ fun fm=>if (!(((Ar.getD oT,Ar.isSome)).2))=true then (ds fm fun du=>ex (M aM bl du) fun fM=>ex (M aM bl du) fun gx=>ex (M (D .i64) dm du) fun kU=>L Pg 86 [.pointer (gx),.int .i64 (kU)] eB du fun ca fc=>bk ((M aM bl fc) fM)<|L Pg 54 [.pointer (fM),.int .i64 (jL),eB.enc (ca)] cJ fc fun a3 gw=>bk ((M aM bl gw) gx)<|bk ((M (D .i64) dm gw) kU)<|j () gw) else (j () fm)
theorem acY{jL bl dm w j}(h:Rx jL bl dm w j):L Pg 85 [.int .i64 jL,.pointer (some bl),.pointer (some dm)] cJ w j:=by
 have gH:=eT 1 (da [9,0,1,2,3,4,5,6,7,8,10,11,12,13,14,15,16] .e)
 have r3:=eT 3 (da [1,0,2,3,4,5] .e)
 exact aX 28 Tryz.func85 rfl rfl bf
def IN(cv:aU)(nk:Int)(w:World)(j:g4→World→Prop):Prop:=ch 56 eB rR w fun aI aV=>ds aV fun bb=>ex (bI cv) fun bU=>ex (M (D .i64) (bU.add 6) bb) fun cZ=>ex (M dK (bU.add 9) bb) fun cl=>ex (fO aM .i64 cl nk bb) fun d_=>ex (bI (d_.getD (none:Option Addr))) fun cs=>ex (M dT (cs.add 0) bb) fun dc=>br eB aI (⟨(3:Int),(0:Int),(⟨nk,cZ,dc⟩:eA),(⟨none,0,0⟩:X)⟩:g4) bb fun cO=>ex (M eB aI cO) fun cV=>j cV cO
theorem acZ{cv:aU}{nk:Int}{w:World}{j:g4→World→Prop}(h:IN cv nk w j):L Pg 86 [.pointer (cv),.int .i64 (nk)] eB w j:=by
 unfold IN at h
 refine pw 21 Tryz.func86 rfl rfl (Nat.le_of_ble_eq_true rfl)<|wp_seq<|bv _ rfl<|q6 Az ym h rfl fun aI aV h=>bp<|wp_seq ?_
 obtain⟨bb,La,h⟩:=nx h
 refine oJ 17 mixed rfl (by kernel_rfl) (by intro o a d v w h; cases d<;>exact h) La (fun G=>?_)
 refine bY 0 5 (.int .i64 (nk)) G rfl rfl<|bY 1 6 (.pointer (cv)) G rfl rfl ?_
 obtain⟨bU,tk,h⟩:=h
 refine nt 2 7 tk G rfl rfl<|hZ 3 8 bU 6 Tryz.underlying66 ew G rfl rfl rfl<|bY 5 10 (.pointer (cv)) G rfl rfl<|nt 6 11 tk G rfl rfl<|hZ 7 12 bU 9 Tryz.underlying66 Gi G rfl rfl rfl<|bY 9 14 (.int .i64 (nk)) G rfl rfl ?_
 obtain⟨cZ,yf,h⟩:=h
 refine hN 4 9 yf ew G rfl rfl ?_
 obtain⟨cl,CL,h⟩:=h
 refine hN 8 13 CL Gi G rfl rfl ?_
 obtain⟨d_,Cv,h⟩:=h
 refine oA (i:=10) (d:=(some 15)) (fun y=>(fO aM .i64 cl nk y) d_) G (by kernel_rfl) (by kernel_rfl) rfl (.free rfl) rfl (fun y Z=>Nc (T:=aM) (r:=cl) (key:=nk) (u:=d_) (aL:=(none:Option Addr)) rfl Tryz.underlying64 Tryz.underlying3 (UA) rfl rfl Z) Cv ?_
 obtain⟨cs,Cl,h⟩:=h
 refine nt 11 16 Cl G rfl rfl<|hZ 12 17 cs 0 Tryz.underlying164 pg G rfl rfl rfl ?_
 obtain⟨dc,yd,h⟩:=h
 refine hN 13 18 yd pg G rfl rfl<|bd 14 19 G rfl rfl rfl (fun _=>Dg (a9:=nk) (ct:=cZ) (eo:=dc) rfl rfl rfl rfl)<|bd 15 20 G rfl rfl rfl (fun _=>M7 (a9:=(3:Int)) (eo:=(⟨nk,cZ,dc⟩:eA)) rfl rfl rfl)<|bA (i:=16) (by kernel_rfl) ?_
 obtain⟨cO,CI,CB,h⟩:=qM h
 refine sL (d:=none) rfl (.free rfl) rfl (qH (T:=eB) (u:=(⟨(3:Int),(0:Int),(⟨nk,cZ,dc⟩:eA),(⟨none,0,0⟩:X)⟩:g4)) (a:=aI) rfl Az rfl rfl CB CI) ⟨(g8 (by kernel_rfl) (g8 (by kernel_rfl) (g8 (by kernel_rfl) (g8 (by kernel_rfl) c_)))),?_⟩
 refine ef (by kernel_rfl)<|wp_ret ?_
 obtain⟨cV,CJ,h⟩:=h
 exact ph rfl (.cons (.cell (T:=eB) (u:=cV) (a:=aI) Az rfl CJ) .nil) ⟨cV,rfl,h⟩
def Ry(aS:aU)(bC:Int)(tI:Int)(w:World)(j:Unit→World→Prop):Prop:=ch 3 (D .i64) bC w fun bh bb=>ds bb fun bK=>ex (bI aS) fun cw=>ex (M O (cw.add 1) bK) fun cl=>ex (M (D .i64) bh bK) fun cy=>ex (cz cl 1 cy) fun cs=>ex (M aM cs bK) fun dc=>ch 57 aM (none:Option Addr) bK fun e4 cM=>br aM e4 dc cM fun cQ=>ex (M aM e4 cQ) fun hr=>ex (bI hr) fun eC=>ex (M dK (eC.add 3) cQ) fun fM=>ex (fO dT .i64 fM tI cQ) fun L1=>ch 56 eB rR cQ fun kZ fc=>br eB kZ (⟨(5:Int),(0:Int),(⟨tI,(0:Int),(L1.getD ([]:List UInt8))⟩:eA),(⟨none,0,0⟩:X)⟩:g4) fc fun jj=>L Pg 52 [.pointer (aS),((dz.mk (.func 122) (List.toArray []) (List.toArray [.pointer (some bh),.pointer (some e4),.pointer (some kZ)]))).enc] cJ jj fun ru fU=>j () fU
theorem ac0{aS bC tI w j}(h:Ry aS bC tI w j):L Pg 87 [.pointer aS,.int .i64 bC,.int .i64 tI] cJ w j:=by
 have gH:=eT 2 (da [0,1,2,3,4,5,6,7,8] .e)
 exact aX 27 Tryz.func87 rfl rfl bf
def Bu(nM:Int)(FT:X)(du:World)(p8:X×Int→World→Prop)(j:(X×Int)→World→Prop):Prop:=p8 (FT,(IntKind.i64.wrap (nM+(1:Int)))) du
def IP(fu:Int)(aR:Addr)(dq:X)(Aj:X)(nM:Int)(cM:World)(p8:X×Int→World→Prop)(j:(X×Int)→World→Prop):Prop:=if (decide (nM<(dq.len:Int)))=true then (ex (cz dq 1 nM) fun kF=>ex (M (D .i64) kF cM) fun gx=>ex (M dK (aR.add 0) cM) fun kU=>ex (fO aM .i64 kU gx cM) fun aun=>L Pg 125 [.pointer ((aun.getD (none:Option Addr))),.int .i64 (fu)] (bJ cX (D .i64)) cM fun dJ jj=>ch 210 cX iy jj fun um hq=>br cX um dJ.1 hq fun ik=>if (dJ.2==(0:Int))=true then (ex (M (D .i64) (um.add 1) ik) fun il=>kG 174 jC 2 16 Aj [(⟨gx,il⟩:h0)] ik fun AJ rF=>Bu nM AJ rF p8 j) else (Bu nM Aj ik p8 j)) else (j (Aj,(0:Int)) cM)
def Rz(db:aU)(fu:Int)(w:World)(j:(X×Int)→World→Prop):Prop:=L Pg 123 [.pointer (db),.int .i64 (fu)] (D .i64) w fun aP a6=>if (aP != (0:Int))=true then (j ((⟨none,0,0⟩:X),aP) a6) else (ex (bI db) fun aR=>ex (M dK (aR.add 0) a6) fun cr=>L Pg 124 [.map (cr)] qN a6 fun cF bH=>L Pg 56 [(cF).enc] O bH fun dq bX=>e7 (fun (s:X×Int) w aa=>IP fu aR dq s.1 s.2 w aa j) ((⟨none,0,0⟩:X),(0:Int)) bX)
theorem ac1{db fu w j}(h:Rz db fu w j):L Pg 88 [.pointer db,.int .i64 fu] (bJ O (D .i64)) w j:=by
 have kJ:=fun {nM} {p8} {dq:X}=>kv (bE:=X) 12 (fun s w=>Bu nM s w p8 j) (fun g s=>av (av (av (av (av (av g 0 (.pointer db)) 1 (.int .i64 fu)) 23 (O.enc dq)) 24 (.int .i64 ((dq.len:Int)))) 25 (.int .i64 nM)) 7 (O.enc s))
 have hT:=fun {aR} {dq:X}=>gK (bE:=X×Int) 7 (fun s w aa=>IP fu aR dq s.1 s.2 w aa j) (fun g s=>av (av (av (av (av (av g 0 (.pointer db)) 1 (.int .i64 fu)) 23 (O.enc dq)) 24 (.int .i64 ((dq.len:Int)))) 7 (O.enc (s.1))) 25 (.int .i64 (s.2)))
 exact aX 51 Tryz.func88 rfl rfl bf
def RA(wc:Int)(w:World)(j:Int→World→Prop):Prop:=if (wc==(120:Int))=true then (j (151:Int) w) else (if (wc==(128:Int))=true then (j (164:Int) w) else (if (wc==(126:Int))=true then (j (165:Int) w) else (if (wc==(127:Int))=true then (j (159:Int) w) else (j wc w))))
theorem ac2{wc w j}(h:RA wc w j):L Pg 89 [.int .i64 wc] (D .i64) w j:=
 aX 13 Tryz.func89 rfl rfl bf
def RC(db:aU)(w:World)(j:Int→World→Prop):Prop:=ex (bI db) fun aY=>ex (M (D .i64) (aY.add 1) w) fun ez=>j ez w
theorem ac4{db w j}(h:RC db w j):L Pg 90 [.pointer db] (D .i64) w j:=
 aX 7 Tryz.func90 rfl rfl bf
def RD(db:aU)(w:World)(j:Int→World→Prop):Prop:=ex (bI db) fun aY=>ex (M (D .i64) (aY.add 2) w) fun ez=>j ez w
theorem ac5{db w j}(h:RD db w j):L Pg 91 [.pointer db] (D .i64) w j:=
 aX 7 Tryz.func91 rfl rfl bf
end ba
end Go.Proofs.YtnmmjkjkkmbhiaaGreat
