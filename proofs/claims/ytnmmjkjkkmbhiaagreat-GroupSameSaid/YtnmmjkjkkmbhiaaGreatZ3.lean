/- Own texts of this claim, part 3: short, merged. -/
import Derived.Test.YtnmmjkjkkmbhiaaGreatZ1
set_option maxRecDepth 100000
set_option maxHeartbeats 40000000
set_option linter.defProp false
set_option linter.unusedVariables false
set_option linter.unusedSimpArgs false
namespace Go.Proofs.YtnmmjkjkkmbhiaaGreat
namespace ba
def PT(aS:aU)(bC:Int)(HA:jB)(w:World)(j:(Int×Int)→World→Prop):Prop:=ch 38 ft HA w fun bh bb=>L Pg 49 [.pointer (aS),.int .i64 (bC)] (bJ aM (D .i64)) bb fun fK bK=>if (fK.2 != (0:Int))=true then (j ((0:Int),fK.2) bK) else (ex (M (D .i64) (bh.add 0) bK) fun cl=>ex (fun x=>(!(decide (cl<(1:Int))))=true→(M (D .i64) (bh.add 0) bK) x) fun cy=>if ((decide (cl<(1:Int)))||(decide (cy>(6:Int))))=true then (j ((0:Int),(192:Int)) bK) else (ex (bI fK.1) fun cs=>ex (M bi (cs.add 7) bK) fun dc=>if (!dc)=true then (j ((0:Int),(253:Int)) bK) else (ex (M (D .i64) (cs.add 10) bK) fun eU=>if (decide (eU≥(1000:Int)))=true then (j ((0:Int),(254:Int)) bK) else (ds bK fun cM=>ex (M (D .i64) (cs.add 10) cM) fun fo=>ex (M ft bh cM) fun hr=>L Pg 23 [ft.enc (hr)] O cM fun vw du=>bk ((M (D .i64) (cs.add 10) du) fo)<|ex (gi vw du) fun ax6=>L Pg 55 [.pointer (aS),.pointer (fK.1),.int .i64 ((IntKind.i64.wrap (fo+(1:Int)))),.string ⟨(ax6).toArray⟩] cJ du fun ca fc=>ex (M (D .i64) (cs.add 10) fc) fun iI=>j (iI,(0:Int)) fc))))
theorem abn{aS bC HA w j}(h:PT aS bC HA w j):L Pg 19 [.pointer aS,.int .i64 bC,ft.enc HA] (bJ (D .i64) (D .i64)) w j:=by
 have gH:=eT 11 (da [0,1,2,3,4,5,6,7,8,9,10] .e)
 exact aX 56 Tryz.func19 rfl rfl bf
def PX(w:World)(j:jB→World→Prop):Prop:=ch 38 ft xH w fun dM cK=>br ft dM (⟨(1:Int),(1:Int),(0:Int),(7:Int),(1000:Int),false⟩:jB) cK fun a6=>ex (M ft dM a6) fun dr=>j dr a6
theorem abA{w j}(h:PX w j):L Pg 20 [] ft w j:=
 aX 2 Tryz.func20 rfl rfl bf
def Ik(aR:Addr)(dq:X)(Aj:X)(nM:Int)(cM:World)(p8:X×Int→World→Prop)(j:X→World→Prop):Prop:=if (decide (nM<(dq.len:Int)))=true then (ex (cz dq 1 nM) fun hg=>ex (M (D .i64) hg cM) fun hL=>ex (M dK (aR.add 3) cM) fun fM=>ex (fO dT .i64 fM hL cM) fun L1=>kG 53 dA 3 32 Aj [(⟨hL,(0:Int),(L1.getD ([]:List UInt8))⟩:eA)] cM fun dJ jj=>p8 (dJ,(IntKind.i64.wrap (nM+(1:Int)))) jj) else (j Aj cM)
def P7(aS:aU)(bC:Int)(w:World)(j:X→World→Prop):Prop:=L Pg 49 [.pointer (aS),.int .i64 (bC)] (bJ aM (D .i64)) w fun aP a6=>if (aP.2 != (0:Int))=true then (j (⟨none,0,0⟩:X) a6) else (ex (bI aP.1) fun aR=>ex (M dK (aR.add 3) a6) fun cr=>L Pg 57 [.map (cr)] qN a6 fun cF bH=>L Pg 56 [(cF).enc] O bH fun dq bX=>e7 (fun (s:X×Int) w aa=>Ik aR dq s.1 s.2 w aa j) ((⟨none,0,0⟩:X),(0:Int)) bX)
theorem abK{aS bC w j}(h:P7 aS bC w j):L Pg 21 [.pointer aS,.int .i64 bC] O w j:=by
 have hT:=fun {aR} {dq:X} {aP:(aU×Int)}=>gK (bE:=X×Int) 7 (fun s w aa=>Ik aR dq s.1 s.2 w aa j) (fun g s=>av (av (av (av (av g 5 (.pointer (aP.1))) 23 (O.enc dq)) 24 (.int .i64 ((dq.len:Int)))) 7 (O.enc (s.1))) 25 (.int .i64 (s.2)))
 exact aX 42 Tryz.func21 rfl rfl bf
def Qg(aS:aU)(bC:Int)(w:World)(j:aU→World→Prop):Prop:=L Pg 49 [.pointer (aS),.int .i64 (bC)] (bJ aM (D .i64)) w fun aP a6=>if (aP.2 != (0:Int))=true then (j (none:Option Addr) a6) else (ex (bI aP.1) fun aR=>ex (M aM (aR.add 4) a6) fun cr=>j cr a6)
theorem abU{aS bC w j}(h:Qg aS bC w j):L Pg 22 [.pointer aS,.int .i64 bC] aM w j:=
 aX 19 Tryz.func22 rfl rfl bf
def Iq(AE:Int)(hC:Addr)(FT:X)(pm:Int)(eG:World)(vW:X×Int→World→Prop)(j:X→World→Prop):Prop:=if (decide (pm<((⟨some hC,4,4⟩:X).len:Int)))=true then (ex (cz (⟨some hC,4,4⟩:X) 1 pm) fun kZ=>ex (M (D .i64) kZ eG) fun fy=>kG 133 fh 5 48 FT [(⟨(2:Int),(0:Int),fy,(0:Nat),([]:List UInt8)⟩:ib)] eG fun a3 gw=>vW (a3,(IntKind.i64.wrap (pm+(1:Int)))) gw) else (kG 133 fh 5 48 FT [(⟨(1:Int),AE,(0:Int),(0:Nat),([]:List UInt8)⟩:ib)] eG fun wX hA=>L Pg 58 [O.enc (wX)] (bJ O (D .i64)) hA fun AJ rF=>j AJ.1 rF)
def Bi(aY:Addr)(AE:Int)(bb:World)(j:X→World→Prop):Prop:=ex (M (D .i64) (aY.add 0) bb) fun cr=>pI 133 fh [(⟨(1:Int),(IntKind.u64.wrap cr),(0:Int),(0:Nat),([]:List UInt8)⟩:ib)] bb fun cw bQ=>ex (M (D .i64) (aY.add 1) bQ) fun cy=>ex (M (D .i64) (aY.add 2) bQ) fun dg=>ex (M (D .i64) (aY.add 3) bQ) fun dc=>ex (M (D .i64) (aY.add 4) bQ) fun eU=>pI 2 (D .i64) [cy,dg,dc,eU] bQ fun hC cQ=>e7 (fun (s:X×Int) w aa=>Iq AE hC s.1 s.2 w aa j) ((⟨some cw,1,1⟩:X),(0:Int)) cQ
def Qq(jk:jB)(w:World)(j:X→World→Prop):Prop:=ch 38 ft jk w fun aY a6=>ex (M bi (aY.add 5) a6) fun nR=>if nR=true then (Bi aY (1:Int) a6 j) else (Bi aY (0:Int) a6 j)
theorem abX{jk w j}(h:Qq jk w j):L Pg 23 [ft.enc jk] O w j:=by
 have hT:=fun {AE} {hC}=>gK (bE:=X×Int) 7 (fun s w aa=>Iq AE hC s.1 s.2 w aa j) (fun g s=>av (av (av (av (av g 3 (.int .u64 AE)) 24 (O.enc ((⟨some hC,4,4⟩:X)))) 25 (.int .i64 (((⟨some hC,4,4⟩:X).len:Int)))) 4 (O.enc (s.1))) 26 (.int .i64 (s.2)))
 have kJ:=fun {aY}=>kv (bE:=Int) 5 (fun s w=>Bi aY s w j) (fun g s=>av (av g 1 (.pointer (some aY))) 3 (.int .u64 s))
 exact aX 46 Tryz.func23 rfl rfl bf
def Qv(aS:aU)(bC:Int)(w:World)(j:Int→World→Prop):Prop:=L Pg 49 [.pointer (aS),.int .i64 (bC)] (bJ aM (D .i64)) w fun aP a6=>if (aP.2 != (0:Int))=true then (j (0:Int) a6) else (ex (bI aP.1) fun aR=>ex (M (D .i64) (aR.add 5) a6) fun cr=>j cr a6)
theorem abY{aS bC w j}(h:Qv aS bC w j):L Pg 24 [.pointer aS,.int .i64 bC] (D .i64) w j:=
 aX 19 Tryz.func24 rfl rfl bf
def Ir(cG:aU)(w:World)(j:Int→World→Prop):Prop:=ex (bI cG) fun aY=>ex (M (D .i64) (aY.add 2) w) fun ez=>j ez w
theorem Qw{cG w j}(h:Ir cG w j):L Pg 25 [.pointer cG] (D .i64) w j:=
 aX 7 Tryz.func25 rfl rfl bf
def Qx(aS:aU)(bC:Int)(w:World)(j:Int→World→Prop):Prop:=L Pg 49 [.pointer (aS),.int .i64 (bC)] (bJ aM (D .i64)) w fun aP a6=>if (aP.2 != (0:Int))=true then (j (0:Int) a6) else (ex (bI aP.1) fun aR=>ex (M aM (aR.add 1) a6) fun cr=>L Pg 50 [.pointer (cr)] (D .i64) a6 fun cF bH=>j cF bH)
theorem abZ{aS bC w j}(h:Qx aS bC w j):L Pg 26 [.pointer aS,.int .i64 bC] (D .i64) w j:=
 aX 20 Tryz.func26 rfl rfl bf
def Is(ck:X)(tM:Int)(bH:World)(is:Int→World→Prop)(j:X→World→Prop):Prop:=if (decide (tM<(ck.len:Int)))=true then (ex (cz ck 9 tM) fun jE=>ex (M O ((jE.add 3).add 5) bH) fun dg=>L Pg 60 [O.enc (dg)] O bH fun hz cU=>ex (cz ck 9 tM) fun hC=>br O ((hC.add 3).add 5) hz cU fun cQ=>is ((IntKind.i64.wrap (tM+(1:Int)))) cQ) else (j ck bH)
def Qy(aS:aU)(w:World)(j:X→World→Prop):Prop:=ex (bI aS) fun aY=>ex (M aM (aY.add 2) w) fun ez=>L Pg 59 [.pointer (ez)] O w fun ck aV=>e7 (fun (s:Int) w aa=>Is ck s w aa j) ((0:Int)) aV
theorem ab0{aS w j}(h:Qy aS w j):L Pg 27 [.pointer aS] O w j:=by
 have hT:=fun {ck:X}=>gK (bE:=Int) 4 (fun s w aa=>Is ck s w aa j) (fun g s=>av (av (av g 3 (O.enc ck)) 11 (.int .i64 ((ck.len:Int)))) 12 (.int .i64 s))
 exact aX 29 Tryz.func27 rfl rfl bf
def It(aS:aU)(bC:Int)(aR:Addr)(dc:X)(nM:Int)(cM:World)(p8:Int→World→Prop)(j:Int→World→Prop):Prop:=if (decide (nM<(dc.len:Int)))=true then (ex (cz dc 7 nM) fun hg=>ex (M ta hg cM) fun hL=>ch 147 ta I7 cM fun kF fB=>br ta kF hL fB fun e9=>ds e9 fun fc=>ex (bI aS) fun nZ=>ex (M aM (nZ.add 2) fc) fun iI=>ex (M (D .i64) (kF.add 0) fc) fun mG=>ex (M eB (kF.add 1) fc) fun qP=>L Pg 62 [.pointer (iI),.int .i64 (bC),.int .i64 (mG),eB.enc (qP)] (bJ (D .i64) (D .i64)) fc fun AI ik=>p8 ((IntKind.i64.wrap (nM+(1:Int)))) ik) else (br O (aR.add 2) (⟨none,0,0⟩:X) cM fun hA=>j (0:Int) hA)
def Qz(aS:aU)(bC:Int)(w:World)(j:Int→World→Prop):Prop:=L Pg 49 [.pointer (aS),.int .i64 (bC)] (bJ aM (D .i64)) w fun aP a6=>if (aP.2 != (0:Int))=true then (j aP.2 a6) else (ex (bI aP.1) fun aR=>ex (M aM (aR.add 1) a6) fun cr=>ex (bI cr) fun cw=>ex (M aM (cw.add 0) a6) fun cl=>L Pg 61 [.pointer (cl)] (D .i64) a6 fun dq bX=>if (dq != (0:Int))=true then (j dq bX) else (ex (M O (aR.add 2) bX) fun dc=>e7 (fun (s:Int) w aa=>It aS bC aR dc s w aa j) ((0:Int)) bX))
theorem ab1{aS bC w j}(h:Qz aS bC w j):L Pg 28 [.pointer aS,.int .i64 bC] (D .i64) w j:=by
 have gH:=eT 11 (da [0,1,2,4,5,7,3,6,8,9] .e)
 have hT:=fun {aR} {dc:X} {aP:(aU×Int)}=>gK (bE:=Int) 9 (fun s w aa=>It aS bC aR dc s w aa j) (fun g s=>av (av (av (av (av (av g 0 (.pointer aS)) 1 (.int .i64 bC)) 5 (.pointer (aP.1))) 32 (O.enc dc)) 33 (.int .i64 ((dc.len:Int)))) 34 (.int .i64 s))
 exact aX 52 Tryz.func28 rfl rfl bf
def qS(cs:Addr)(azd:dz)(fU:World)(j:Int→World→Prop):Prop:=ex (M (D .i64) (cs.add 1) fU) fun mG=>ex (M eB (cs.add 3) fU) fun qP=>v9 Pg azd [.int .i64 (mG),eB.enc (qP)] cJ fU fun AI ik=>j (0:Int) ik
def QA(aS:aU)(fu:Int)(w:World)(j:Int→World→Prop):Prop:=ch 24 aM aS w fun aI aV=>ex (M aM aI aV) fun dn=>ex (bI dn) fun bU=>ex (M aM (bU.add 2) aV) fun cZ=>L Pg 63 [.pointer (cZ),.int .i64 (fu)] (bJ ej (D .i64)) aV fun gh bQ=>ch 140 ej ix bQ fun cs cU=>br ej cs gh.1 cU fun cO=>if (gh.2 != (0:Int))=true then (j gh.2 cO) else (ex (M aM aI cO) fun cV=>ex (M (D .i64) (cs.add 2) cO) fun fo=>L Pg 49 [.pointer (cV),.int .i64 (fo)] (bJ aM (D .i64)) cO fun fS fm=>ch 57 aM (none:Option Addr) fm fun kF fB=>br aM kF fS.1 fB fun e9=>if (fS.2 != (0:Int))=true then (j fS.2 e9) else (ex (M aM kF e9) fun fy=>ex (M (D .i64) ((cs.add 3).add 0) e9) fun ns=>if (ns==(1:Int))=true then (ex (M aM kF e9) fun qQ=>qS cs (dz.mk (.func 65) (List.toArray [.pointer (qQ)]) (List.toArray [])) e9 j) else (if (ns==(3:Int))=true then (ex (M aM kF e9) fun nQ=>qS cs (dz.mk (.func 66) (List.toArray [.pointer (nQ)]) (List.toArray [])) e9 j) else (if (ns==(2:Int))=true then (qS cs (dz.mk (.func 67) (List.toArray []) (List.toArray [.pointer (some aI),.pointer (some kF)])) e9 j) else (if (ns==(4:Int))=true then (qS cs (dz.mk (.func 69) (List.toArray []) (List.toArray [.pointer (some aI),.pointer (some cs)])) e9 j) else (qS cs (dz.mk (.func 64) (List.toArray [.pointer (fy)]) (List.toArray [])) e9 j))))))
theorem ab2{aS fu w j}(h:QA aS fu w j):L Pg 29 [.pointer aS,.int .i64 fu] (D .i64) w j:=by
 have kJ:=fun {cs}=>kv (bE:=dz) 18 (fun s w=>qS cs s w j) (fun g s=>av (av g 5 (.pointer (some cs))) 8 (s.enc))
 exact aX 56 Tryz.func29 rfl rfl bf
def QC(aS:aU)(fu:Int)(w:World)(j:Int→World→Prop):Prop:=ex (bI aS) fun aI=>ex (M aM (aI.add 2) w) fun dr=>L Pg 71 [.pointer (dr),.int .i64 (fu)] (D .i64) w fun cT bb=>j cT bb
theorem ab3{aS fu w j}(h:QC aS fu w j):L Pg 30 [.pointer aS,.int .i64 fu] (D .i64) w j:=
 aX 11 Tryz.func30 rfl rfl bf
def QD(aS:aU)(fu:Int)(w:World)(j:Int→World→Prop):Prop:=ex (bI aS) fun aI=>ex (M aM (aI.add 2) w) fun dr=>L Pg 72 [.pointer (dr),.int .i64 (fu)] (D .i64) w fun cT bb=>j cT bb
theorem ab4{aS fu w j}(h:QD aS fu w j):L Pg 31 [.pointer aS,.int .i64 fu] (D .i64) w j:=
 aX 11 Tryz.func31 rfl rfl bf
def QE(aS:aU)(bC:Int)(vo:Bool)(w:World)(j:Int→World→Prop):Prop:=ch 24 aM aS w fun bh bb=>ch 3 (D .i64) bC bb fun bU bH=>ch 4 bi vo bH fun eH bX=>ex (M aM bh bX) fun dg=>ex (M (D .i64) bU bX) fun dc=>L Pg 73 [.pointer (dg),.int .i64 (dc),((dz.mk (.func 74) (List.toArray []) (List.toArray [.pointer (some bh),.pointer (some bU),.pointer (some eH)]))).enc] (D .i64) bX fun dZ cO=>j dZ cO
theorem ab5{aS bC vo w j}(h:QE aS bC vo w j):L Pg 32 [.pointer aS,.int .i64 bC,.bool vo] (D .i64) w j:=
 aX 11 Tryz.func32 rfl rfl bf
def QF(aS:aU)(bC:Int)(jS:Int)(FO:X)(w:World)(j:Int→World→Prop):Prop:=ch 3 (D .i64) jS w fun aR bK=>ch 39 O FO bK fun cw bQ=>L Pg 73 [.pointer (aS),.int .i64 (bC),((dz.mk (.func 76) (List.toArray []) (List.toArray [.pointer (some aR),.pointer (some cw)]))).enc] (D .i64) bQ fun dq bX=>j dq bX
theorem ab6{aS bC jS FO w j}(h:QF aS bC jS FO w j):L Pg 33 [.pointer aS,.int .i64 bC,.int .i64 jS,O.enc FO] (D .i64) w j:=
 aX 13 Tryz.func33 rfl rfl bf
def QG(aS:aU)(bC:Int)(ve:X)(w:World)(j:Int→World→Prop):Prop:=ch 39 O ve w fun bh bb=>L Pg 73 [.pointer (aS),.int .i64 (bC),((dz.mk (.func 78) (List.toArray []) (List.toArray [.pointer (some bh)]))).enc] (D .i64) bb fun fK bK=>j fK bK
theorem ab7{aS bC ve w j}(h:QG aS bC ve w j):L Pg 34 [.pointer aS,.int .i64 bC,O.enc ve] (D .i64) w j:=
 aX 11 Tryz.func34 rfl rfl bf
def QH(aS:aU)(bC:Int)(w:World)(j:Int→World→Prop):Prop:=ch 24 aM aS w fun aI aV=>ch 25 (D .i64) (0:Int) aV fun aR bK=>br (D .i64) aR (0:Int) bK fun bH=>ex (M aM aI bH) fun cl=>L Pg 73 [.pointer (cl),.int .i64 (bC),((dz.mk (.func 80) (List.toArray []) (List.toArray [.pointer (some aI),.pointer (some aR)]))).enc] (D .i64) bH fun dq bX=>ex (M (D .i64) aR bX) fun dc=>j (max dc dq) bX
theorem ab8{aS bC w j}(h:QH aS bC w j):L Pg 35 [.pointer aS,.int .i64 bC] (D .i64) w j:=
 aX 14 Tryz.func35 rfl rfl bf
def Bk(pm:Int)(e9:World)(vW:Int→World→Prop)(j:Int→World→Prop):Prop:=vW ((IntKind.i64.wrap (pm+(1:Int)))) e9
def Iu(aS:aU)(aR:Addr)(ga:X)(pm:Int)(eG:World)(vW:Int→World→Prop)(j:Int→World→Prop):Prop:=if (decide (pm<(ga.len:Int)))=true then (ex (cz ga 1 pm) fun ps=>ex (M (D .i64) ps eG) fun j0=>ch 3 (D .i64) (0:Int) eG fun dl gw=>br (D .i64) dl j0 gw fun hq=>ds hq fun ik=>ex (M aM aR ik) fun il=>ex (bI il) fun un=>ex (M dK (un.add 3) ik) fun qQ=>ex (M (D .i64) dl ik) fun nQ=>ex (fO dT .i64 qQ nQ ik) fun VM=>if ((VM.getD ([]:List UInt8),VM.isSome)).2=true then (Bk pm ik vW j) else (L Pg 52 [.pointer (aS),((dz.mk (.func 85) (List.toArray []) (List.toArray [.pointer (some aR),.pointer (some dl)]))).enc] cJ ik fun vy kS=>Bk pm kS vW j)) else (j (0:Int) eG)
def Bj(aS:aU)(aR:Addr)(bQ:World)(j:Int→World→Prop):Prop:=ex (M aM aR bQ) fun cy=>ex (bI cy) fun cs=>ex (M dK (cs.add 9) bQ) fun dc=>L Pg 84 [.map (dc)] qN bQ fun dZ cO=>L Pg 56 [(dZ).enc] O cO fun ga cQ=>e7 (fun (s:Int) w aa=>Iu aS aR ga s w aa j) ((0:Int)) cQ
def QI(aS:aU)(bC:Int)(w:World)(j:Int→World→Prop):Prop:=L Pg 49 [.pointer (aS),.int .i64 (bC)] (bJ aM (D .i64)) w fun aP a6=>ch 57 aM (none:Option Addr) a6 fun aR bK=>br aM aR aP.1 bK fun bH=>if (aP.2 != (0:Int))=true then (j aP.2 bH) else (ex (M aM aR bH) fun xb=>ex (bI xb) fun v5=>ex (M (D .i64) (v5.add 6) bH) fun p2=>ex (fun x=>(decide (p2>(0:Int)))=true→(M aM aR bH) x) fun mH=>ex (fun x=>(decide (p2>(0:Int)))=true→(bI mH) x) fun BH=>ex (fun x=>(decide (p2>(0:Int)))=true→(M bi (BH.add 7) bH) x) fun Hx=>if ((decide (p2>(0:Int)))&&(!Hx))=true then (L Pg 52 [.pointer (aS),((dz.mk (.func 83) (List.toArray []) (List.toArray [.pointer (some aR)]))).enc] cJ bH fun aBP D7=>Bj aS aR D7 j) else (Bj aS aR bH j))
theorem ab9{aS bC w j}(h:QI aS bC w j):L Pg 36 [.pointer aS,.int .i64 bC] (D .i64) w j:=by
 have gH:=eT 10 (da [0,1,2,3,4,5,6,7,8,9,10] .e)
 have kJ:=fun {pm} {vW} {aR} {ga:X}=>kv (bE:=Unit) 13 (fun s w=>Bk pm w vW j) (fun g s=>av (av (av (av (av g 0 (.pointer aS)) 5 (.pointer (some aR))) 40 (O.enc ga)) 41 (.int .i64 ((ga.len:Int)))) 42 (.int .i64 pm))
 have hT:=fun {aR} {ga:X}=>gK (bE:=Int) 8 (fun s w aa=>Iu aS aR ga s w aa j) (fun g s=>av (av (av (av (av g 0 (.pointer aS)) 5 (.pointer (some aR))) 40 (O.enc ga)) 41 (.int .i64 ((ga.len:Int)))) 42 (.int .i64 s))
 have U2:=fun {aR}=>kv (bE:=Unit) 7 (fun s w=>Bj aS aR w j) (fun g s=>av (av g 0 (.pointer aS)) 5 (.pointer (some aR)))
 exact aX 60 Tryz.func36 rfl rfl bf
def Iv(aS:aU)(bC:Int)(dq:X)(DQ:Int)(cO:World)(By:Int→World→Prop)(j:Int→World→Prop):Prop:=if (decide (DQ<(dq.len:Int)))=true then (ex (cz dq 1 DQ) fun oU=>ex (M (D .i64) oU cO) fun hr=>L Pg 87 [.pointer (aS),.int .i64 (bC),.int .i64 (hr)] cJ cO fun vw du=>By ((IntKind.i64.wrap (DQ+(1:Int)))) du) else (j (0:Int) cO)
def QJ(aS:aU)(bC:Int)(w:World)(j:Int→World→Prop):Prop:=L Pg 49 [.pointer (aS),.int .i64 (bC)] (bJ aM (D .i64)) w fun aP a6=>if (aP.2 != (0:Int))=true then (j aP.2 a6) else (ex (bI aP.1) fun aR=>ex (M dK (aR.add 3) a6) fun cr=>L Pg 57 [.map (cr)] qN a6 fun cF bH=>L Pg 56 [(cF).enc] O bH fun dq bX=>e7 (fun (s:Int) w aa=>Iv aS bC dq s w aa j) ((0:Int)) bX)
theorem aca{aS bC w j}(h:QJ aS bC w j):L Pg 37 [.pointer aS,.int .i64 bC] (D .i64) w j:=by
 have hT:=fun {dq:X}=>gK (bE:=Int) 6 (fun s w aa=>Iv aS bC dq s w aa j) (fun g s=>av (av (av (av (av g 0 (.pointer aS)) 1 (.int .i64 bC)) 23 (O.enc dq)) 24 (.int .i64 ((dq.len:Int)))) 25 (.int .i64 s))
 exact aX 34 Tryz.func37 rfl rfl bf
def QK(cG:aU)(fu:Int)(w:World)(j:(X×Int)→World→Prop):Prop:=ex (bI cG) fun aI=>ex (M aM ((aI.add 0).add 0) w) fun dr=>L Pg 88 [.pointer (dr),.int .i64 (fu)] (bJ O (D .i64)) w fun cT bb=>L Pg 89 [.int .i64 (cT.2)] (D .i64) bb fun cF bH=>j (cT.1,cF) bH
theorem acb{cG fu w j}(h:QK cG fu w j):L Pg 38 [.pointer cG,.int .i64 fu] (bJ O (D .i64)) w j:=
 aX 21 Tryz.func38 rfl rfl bf
def QL(vr:kX)(w:World)(j:Int→World→Prop):Prop:=ch 94 b5 vr w fun aY a6=>ex (M aM (aY.add 0) a6) fun dr=>L Pg 90 [.pointer (dr)] (D .i64) a6 fun cT bb=>j cT bb
theorem acd{vr w j}(h:QL vr w j):L Pg 39 [b5.enc vr] (D .i64) w j:=
 aX 6 Tryz.func39 rfl rfl bf
def QN(vr:kX)(w:World)(j:Int→World→Prop):Prop:=ch 94 b5 vr w fun aY a6=>ex (M aM (aY.add 0) a6) fun dr=>L Pg 91 [.pointer (dr)] (D .i64) a6 fun cT bb=>j cT bb
theorem acf{vr w j}(h:QN vr w j):L Pg 40 [b5.enc vr] (D .i64) w j:=
 aX 6 Tryz.func40 rfl rfl bf
def Ix(cC:X)(c1:X)(hx:Int)(aV:World)(j3:Int→World→Prop)(j:Bool→World→Prop):Prop:=if (decide (hx<(cC.len:Int)))=true then (ds aV fun bK=>ex (cz cC 6 hx) fun cw=>ex (cz c1 6 hx) fun eH=>ex (M kn (cw.add 0) bK) fun cy=>ex (M kn (eH.add 0) bK) fun dg=>ex (fun x=>(!(!(hd.iQ cy dg)))=true→(cz cC 6 hx) x) fun gm=>ex (fun x=>(!(!(hd.iQ cy dg)))=true→(cz c1 6 hx) x) fun e4=>ex (fun x=>(!(!(hd.iQ cy dg)))=true→(M (D .i64) (gm.add 4) bK) x) fun cV=>ex (fun x=>(!(!(hd.iQ cy dg)))=true→(M (D .i64) (e4.add 4) bK) x) fun fo=>ex (fun x=>(!((!(hd.iQ cy dg))||(cV != fo)))=true→(cz cC 6 hx) x) fun hg=>ex (fun x=>(!((!(hd.iQ cy dg))||(cV != fo)))=true→(cz c1 6 hx) x) fun eC=>ex (fun x=>(!((!(hd.iQ cy dg))||(cV != fo)))=true→(M (D .i64) (hg.add 5) bK) x) fun fM=>ex (fun x=>(!((!(hd.iQ cy dg))||(cV != fo)))=true→(M (D .i64) (eC.add 5) bK) x) fun gx=>if (((!(hd.iQ cy dg))||(cV != fo))||(fM != gx))=true then (j false bK) else (j3 ((IntKind.i64.wrap (hx+(1:Int)))) bK)) else (j true aV)
def QO(cC:X)(c1:X)(w:World)(j:Bool→World→Prop):Prop:=if ((cC.len:Int)!=(c1.len:Int))=true then (j false w) else (e7 (fun (s:Int) w aa=>Ix cC c1 s w aa j) ((0:Int)) w)
theorem acg{cC c1 w j}(h:QO cC c1 w j):L Pg 41 [O.enc cC,O.enc c1] bi w j:=by
 have gH:=eT 7 (da [0,1,2,3,5,6,7,8,4,9,10,11,12,13,14,15,17,18,19,20,16,21,22,23,24,25,26,27,28,30,31,32,33,29,34,35,36] .e)
 have hT:=gK (bE:=Int) 5 (fun s w aa=>Ix cC c1 s w aa j) (fun g s=>av (av (av g 0 (O.enc cC)) 1 (O.enc c1)) 5 (.int .i64 s))
 exact aX 54 Tryz.func41 rfl rfl bf
def Iy(aY:Addr)(fK:X)(Vl:X)(k_:Int)(b3:World)(pq:X×Int→World→Prop)(j:X→World→Prop):Prop:=if (decide (k_<(fK.len:Int)))=true then (ex (cz fK 1 k_) fun e4=>ex (M (D .i64) e4 b3) fun cV=>ex (M dK (aY.add 3) b3) fun fo=>ex (fO ic .i64 fo cV b3) fun iC=>kG 171 ic 6 48 Vl [(iC.getD rQ)] b3 fun sP fB=>pq (sP,(IntKind.i64.wrap (k_+(1:Int)))) fB) else (j Vl b3)
def QP(cG:aU)(w:World)(j:X→World→Prop):Prop:=ex (bI cG) fun aY=>ex (M dK (aY.add 3) w) fun ez=>L Pg 92 [.map (ez)] qN w fun ck aV=>L Pg 56 [(ck).enc] O aV fun fK bK=>e7 (fun (s:X×Int) w aa=>Iy aY fK s.1 s.2 w aa j) ((⟨none,0,0⟩:X),(0:Int)) bK
theorem ach{cG w j}(h:QP cG w j):L Pg 42 [.pointer cG] O w j:=by
 have hT:=fun {aY} {fK:X}=>gK (bE:=X×Int) 4 (fun s w aa=>Iy aY fK s.1 s.2 w aa j) (fun g s=>av (av (av (av (av g 0 (.pointer cG)) 11 (O.enc fK)) 12 (.int .i64 ((fK.len:Int)))) 3 (O.enc (s.1))) 13 (.int .i64 (s.2)))
 exact aX 28 Tryz.func42 rfl rfl bf
def Iz(cC:X)(c1:X)(hx:Int)(aV:World)(j3:Int→World→Prop)(j:Bool→World→Prop):Prop:=if (decide (hx<(cC.len:Int)))=true then (ds aV fun bK=>ex (cz cC 2 hx) fun cw=>ex (cz c1 2 hx) fun eH=>ex (M (D .i64) (cw.add 0) bK) fun cy=>ex (M (D .i64) (eH.add 0) bK) fun dg=>ex (fun x=>(!(cy != dg))=true→(cz cC 2 hx) x) fun gm=>ex (fun x=>(!(cy != dg))=true→(cz c1 2 hx) x) fun e4=>ex (fun x=>(!(cy != dg))=true→(M (D .i64) (gm.add 1) bK) x) fun cV=>ex (fun x=>(!(cy != dg))=true→(M (D .i64) (e4.add 1) bK) x) fun fo=>if ((cy != dg)||(cV != fo))=true then (j false bK) else (j3 ((IntKind.i64.wrap (hx+(1:Int)))) bK)) else (j true aV)
def QQ(cC:X)(c1:X)(w:World)(j:Bool→World→Prop):Prop:=if ((cC.len:Int)!=(c1.len:Int))=true then (j false w) else (e7 (fun (s:Int) w aa=>Iz cC c1 s w aa j) ((0:Int)) w)
theorem aci{cC c1 w j}(h:QQ cC c1 w j):L Pg 43 [O.enc cC,O.enc c1] bi w j:=by
 have gH:=eT 7 (da [0,1,2,3,5,6,7,8,4,9,10,11,12,13,14,15,17,18,19,20,16,21,22,23] .e)
 have hT:=gK (bE:=Int) 5 (fun s w aa=>Iz cC c1 s w aa j) (fun g s=>av (av (av g 0 (O.enc cC)) 1 (O.enc c1)) 5 (.int .i64 s))
 exact aX 41 Tryz.func43 rfl rfl bf
def IA(et:Nat)(w:World)(j:Int→World→Prop):Prop:=if (gS .neq et et)=true then (j (0:Int) w) else (if ((et:Int)==(0:Int))=true then (j (4:Int) w) else (if ((et:Int)==(9223372036854775808:Int))=true then (j (3:Int) w) else (L Pg 94 [.float .f64 (et),.int .i64 ((-1:Int))] bi w fun fT cK=>if fT=true then (j (1:Int) cK) else (L Pg 94 [.float .f64 (et),.int .i64 ((1:Int))] bi cK fun ck aV=>if ck=true then (j (6:Int) aV) else (if (gS .lss et (0:Nat))=true then (j (2:Int) aV) else (j (5:Int) aV))))))
theorem QR{et w j}(h:IA et w j):L Pg 44 [.float .f64 et] (D .i64) w j:=
 aX 25 Tryz.func44 rfl rfl bf
def QS(cC:Nat)(c1:Nat)(w:World)(j:Int→World→Prop):Prop:=L Pg 95 [.float .f64 (cC)] (D .u64) w fun aP a6=>L Pg 95 [.float .f64 (c1)] (D .u64) a6 fun cT bb=>if (decide (aP<cT))=true then (j (-1:Int) bb) else (if (decide (aP>cT))=true then (j (1:Int) bb) else (j (0:Int) bb))
theorem acj{cC c1 w j}(h:QS cC c1 w j):L Pg 45 [.float .f64 cC,.float .f64 c1] (D .i64) w j:=
 aX 19 Tryz.func45 rfl rfl bf
def IC(aP:(aU×X×Int))(cw:Addr)(k_:Int)(b3:World)(pq:Int→World→Prop)(j:(aU×Int)→World→Prop):Prop:=if (decide (k_<(aP.2.1.len:Int)))=true then (ex (cz aP.2.1 1 k_) fun e4=>ex (M O e4 b3) fun cV=>L Pg 97 [.pointer ((some cw)),O.enc (cV)] bi b3 fun ga cQ=>if (!ga)=true then (j ((none:Option Addr),(230:Int)) cQ) else (pq ((IntKind.i64.wrap (k_+(1:Int)))) cQ)) else (j ((some cw),(0:Int)) b3)
def IB(cN:aU)(ls:Int)(w:World)(j:(aU×Int)→World→Prop):Prop:=L Pg 96 [.pointer (cN),.int .i64 (ls)] (qO aM O (D .i64)) w fun aP a6=>if (aP.2.2 != (0:Int))=true then (j ((none:Option Addr),aP.2.2) a6) else (pf a6 fun vl bb=>ch 145 xw (⟨aP.1,(0:Int),(some vl)⟩:ub) bb fun cw bQ=>e7 (fun (s:Int) w aa=>IC aP cw s w aa j) ((0:Int)) bQ)
theorem QT{cN ls w j}(h:IB cN ls w j):L Pg 46 [.pointer cN,.int .i64 ls] (bJ aM (D .i64)) w j:=by
 have hT:=fun {aP:(aU×X×Int)} {cw}=>gK (bE:=Int) 7 (fun s w aa=>IC aP cw s w aa j) (fun g s=>av (av (av (av g 9 (.pointer ((some cw)))) 26 (O.enc (aP.2.1))) 27 (.int .i64 ((aP.2.1.len:Int)))) 28 (.int .i64 s))
 exact aX 38 Tryz.func46 rfl rfl bf
def QU(Du:Nat)(w:World)(j:(aU×Int)→World→Prop):Prop:=L Pg 12 [.float .f64 (Du)] (D .i64) w fun fT cK=>if (fT != (0:Int))=true then (j ((none:Option Addr),(150:Int)) cK) else (L Pg 98 [] aM cK fun ck aV=>pf aV fun At bK=>pf bK fun d_ bQ=>pf bQ fun aum b3=>ch 99 xC (⟨(⟨ck⟩:kX),Du,(0:Int),(some At),(some d_),(some aum)⟩:qZ) b3 fun e4 cM=>j ((some e4),(0:Int)) cM)
theorem ack{Du w j}(h:QU Du w j):L Pg 47 [.float .f64 Du] (bJ aM (D .i64)) w j:=
 aX 15 Tryz.func47 rfl rfl bf
def QV(cv:aU)(c1:Int)(w:World)(j:Unit→World→Prop):Prop:=ex (bI cv) fun aI=>br (D .i64) (aI.add 6) c1 w fun aV=>br bi (aI.add 7) false aV fun bb=>br (D .i64) (aI.add 10) (0:Int) bb fun bK=>pf bK fun auq bH=>pf bH fun aul bX=>br dK (aI.add 8) (some auq) bX fun cU=>br dK (aI.add 9) (some aul) cU fun cO=>j () cO
theorem acl{cv c1 w j}(h:QV cv c1 w j):L Pg 48 [.pointer cv,.int .i64 c1] cJ w j:=
 aX 22 Tryz.func48 rfl rfl bf
def QW(aS:aU)(bC:Int)(w:World)(j:(aU×Int)→World→Prop):Prop:=ex (fun x=>(!(decide (bC<(0:Int))))=true→(bI aS) x) fun aI=>ex (fun x=>(!(decide (bC<(0:Int))))=true→(M O (aI.add 1) w) x) fun dr=>if ((decide (bC<(0:Int)))||(decide (bC≥(dr.len:Int))))=true then (j ((none:Option Addr),(251:Int)) w) else (ex (bI aS) fun aR=>ex (M O (aR.add 1) w) fun cr=>ex (cz cr 1 bC) fun cw=>ex (M aM cw w) fun cl=>ex (bI cl) fun jE=>ex (M aM (jE.add 0) w) fun dg=>L Pg 81 [.pointer (dg)] bi w fun hz cU=>if hz=true then (j ((none:Option Addr),(252:Int)) cU) else (ex (M O (aR.add 1) cU) fun cV=>ex (cz cV 1 bC) fun oU=>ex (M aM oU cU) fun hr=>j (hr,(0:Int)) cU))
theorem acm{aS bC w j}(h:QW aS bC w j):L Pg 49 [.pointer aS,.int .i64 bC] (bJ aM (D .i64)) w j:=
 aX 37 Tryz.func49 rfl rfl bf
def QY(cC:aU)(w:World)(j:Int→World→Prop):Prop:=ex (bI cC) fun aY=>ex (M (D .i64) (aY.add 1) w) fun ez=>j ez w
theorem aco{cC w j}(h:QY cC w j):L Pg 50 [.pointer cC] (D .i64) w j:=
 aX 7 Tryz.func50 rfl rfl bf
def Bl(cC:aU)(bb:World)(j:(X×Int)→World→Prop):Prop:=L Pg 101 [.pointer (cC)] O bb fun fK bK=>j (fK,(0:Int)) bK
def QZ(cC:aU)(c1:Int)(w:World)(j:(X×Int)→World→Prop):Prop:=L Pg 99 [.pointer (cC),.int .i64 (c1)] (D .i64) w fun aP a6=>if (aP != (0:Int))=true then (j ((⟨none,0,0⟩:X),aP) a6) else (ex (bI cC) fun eH=>ex (M (D .i64) (eH.add 1) a6) fun cy=>if (decide (c1>cy))=true then (pI 133 fh [(⟨(1:Int),(1:Int),(0:Int),(0:Nat),([]:List UInt8)⟩:ib),(⟨(2:Int),(0:Int),c1,(0:Nat),([]:List UInt8)⟩:ib)] a6 fun cs cU=>L Pg 100 [.pointer (cC),O.enc ((⟨some cs,2,2⟩:X))] (D .i64) cU fun dZ cO=>if (dZ != (0:Int))=true then (j ((⟨none,0,0⟩:X),dZ) cO) else (br (D .i64) (eH.add 1) c1 cO fun cQ=>Bl cC cQ j)) else (Bl cC a6 j))
theorem acp{cC c1 w j}(h:QZ cC c1 w j):L Pg 51 [.pointer cC,.int .i64 c1] (bJ O (D .i64)) w j:=by
 have kJ:=kv (bE:=Unit) 10 (fun s w=>Bl cC w j) (fun g s=>av g 0 (.pointer cC))
 exact aX 35 Tryz.func51 rfl rfl bf
def IE(wa:dz)(dr:X)(tL:Int)(bK:World)(adq:Int→World→Prop)(j:Unit→World→Prop):Prop:=if (decide (tL<(dr.len:Int)))=true then (v9 Pg wa [.int .i64 (tL)] cJ bK fun gh bQ=>adq ((IntKind.i64.wrap (tL+(1:Int)))) bQ) else (j () bK)
def Q0(aS:aU)(wa:dz)(w:World)(j:Unit→World→Prop):Prop:=ex (bI aS) fun aI=>ex (M O (aI.add 1) w) fun dr=>e7 (fun (s:Int) w aa=>IE wa dr s w aa j) ((0:Int)) w
theorem acq{aS wa w j}(h:Q0 aS wa w j):L Pg 52 [.pointer aS,wa.enc] cJ w j:=by
 have hT:=fun {dr:X}=>gK (bE:=Int) 2 (fun s w aa=>IE wa dr s w aa j) (fun g s=>av (av (av g 1 (wa.enc)) 9 (.int .i64 ((dr.len:Int)))) 10 (.int .i64 s))
 exact aX 17 Tryz.func52 rfl rfl bf
def Q1(jL:Int)(bl:Addr)(dm:Addr)(w:World)(j:Unit→World→Prop):Prop:=ex (M aM bl w) fun dr=>ex (M (D .i64) dm w) fun dn=>L Pg 54 [.pointer (dr),.int .i64 (jL),eB.enc ((⟨(1:Int),dn,hf,(⟨none,0,0⟩:X)⟩:g4))] cJ w fun fK bK=>j () bK
theorem acr{jL bl dm w j}(h:Q1 jL bl dm w j):L Pg 53 [.int .i64 jL,.pointer (some bl),.pointer (some dm)] cJ w j:=
 aX 9 Tryz.func53 rfl rfl bf
def Q2(cv:aU)(G2:Int)(mF:g4)(w:World)(j:Unit→World→Prop):Prop:=ch 56 eB mF w fun bh bb=>ds bb fun bK=>ex (bI cv) fun cw=>ex (M O (cw.add 2) bK) fun cl=>ex (M eB bh bK) fun cy=>kG 147 ta 7 80 cl [(⟨G2,cy⟩:qW)] bK fun dZ cO=>bk ((M eB bh cO) cy)<|br O (cw.add 2) dZ cO fun fm=>j () fm
theorem acs{cv G2 mF w j}(h:Q2 cv G2 mF w j):L Pg 54 [.pointer cv,.int .i64 G2,eB.enc mF] cJ w j:=by
 have gH:=eT 2 (da [0,1,2,3,5,4,6,7,8,9,10,11,12] .e)
 exact aX 18 Tryz.func54 rfl rfl bf
def Q3(aS:aU)(iU:aU)(tI:Int)(nq:(List UInt8))(w:World)(j:Unit→World→Prop):Prop:=ch 57 aM iU w fun aR bK=>ch 3 (D .i64) tI bK fun cw bQ=>ds bQ fun bX=>ex (M aM aR bX) fun dg=>ex (bI dg) fun gm=>ex (M dK (gm.add 9) bX) fun eU=>ex (M (D .i64) cw bX) fun cV=>pf bX fun iC cQ=>ch 164 xx (⟨nq,(some iC)⟩:uc) cQ fun eC eG=>nb aM .i64 eU cV (some eC) eG fun fB=>ds fB fun e9=>ex (M aM aR e9) fun fy=>ex (M aM aR e9) fun j0=>ex (bI j0) fun dl=>ex (M (D .i64) (dl.add 10) e9) fun mG=>ex (M (D .i64) cw e9) fun qP=>ex (bI fy) fun pu=>br (D .i64) (pu.add 10) (max mG qP) e9 fun gQ=>L Pg 52 [.pointer (aS),((dz.mk (.func 102) (List.toArray []) (List.toArray [.pointer (some aR),.pointer (some cw)]))).enc] cJ gQ fun wX hA=>j () hA
theorem acu{aS iU tI nq w j}(h:Q3 aS iU tI nq w j):L Pg 55 [.pointer aS,.pointer iU,.int .i64 tI,.string ⟨nq.toArray⟩] cJ w j:=by
 have gH:=eT 2 (da [5,0,1,2,3,4,6,7,8,9] .e)
 have r3:=eT 3 (da [0,1,2,3,4,5,6,7,8,9] .e)
 exact aX 29 Tryz.func55 rfl rfl bf
def IF(cv:(Option Nat))(w:World)(j:dz→World→Prop):Prop:=ch 61 dK cv w fun aY a6=>j (dz.mk (.func 105) (List.toArray []) (List.toArray [.pointer (some aY)])) a6
theorem Q4{cv w j}(h:IF cv w j):L Pg 57 [.map cv] qN w j:=
 aX 4 Tryz.func57 rfl rfl bf
def IG(e6:X)(c1:X)(dm:Int)(aV:World)(j3:X×Int→World→Prop)(j:(X×Int)→World→Prop):Prop:=if (decide (dm<(e6.len:Int)))=true then (ex (cz e6 5 dm) fun bU=>ex (M fh bU aV) fun cZ=>ch 133 fh q0 aV fun eH bX=>br fh eH cZ bX fun b3=>ex (M fh eH b3) fun dc=>L Pg 106 [fh.enc (dc)] (D .i64) b3 fun dZ cO=>if (dZ != (0:Int))=true then (j ((⟨none,0,0⟩:X),dZ) cO) else (ex (M fh eH cO) fun fo=>L Pg 107 [O.enc (c1),fh.enc (fo)] O cO fun fS fm=>j3 (fS,(IntKind.i64.wrap (dm+(1:Int)))) fm)) else (j (c1,(0:Int)) aV)
def Q5(e6:X)(w:World)(j:(X×Int)→World→Prop):Prop:=if (decide ((e6.len:Int)>(1000:Int)))=true then (j ((⟨none,0,0⟩:X),(20:Int)) w) else (e7 (fun (s:X×Int) w aa=>IG e6 s.1 s.2 w aa j) ((⟨none,0,0⟩:X),(0:Int)) w)
theorem acv{e6 w j}(h:Q5 e6 w j):L Pg 58 [O.enc e6] (bJ O (D .i64)) w j:=by
 have hT:=gK (bE:=X×Int) 6 (fun s w aa=>IG e6 s.1 s.2 w aa j) (fun g s=>av (av (av (av g 11 (O.enc e6)) 12 (.int .i64 ((e6.len:Int)))) 4 (O.enc (s.1))) 13 (.int .i64 (s.2)))
 exact aX 27 Tryz.func58 rfl rfl bf
def Q6(bq:aU)(w:World)(j:X→World→Prop):Prop:=ex (bI bq) fun aY=>ex (M O (aY.add 2) w) fun ez=>L Pg 108 [O.enc (ez)] O w fun ck aV=>j ck aV
theorem acw{bq w j}(h:Q6 bq w j):L Pg 59 [.pointer bq] O w j:=
 aX 8 Tryz.func59 rfl rfl bf
def Q8(db:X)(w:World)(j:X→World→Prop):Prop:=if db.a.isNone=true then (j (⟨none,0,0⟩:X) w) else (pI 53 dA ([]:List eA) w fun aY a6=>q1 53 dA 3 32 (⟨some aY,0,0⟩:X) db a6 fun ck aV=>j ck aV)
theorem acy{db w j}(h:Q8 db w j):L Pg 60 [O.enc db] O w j:=
 aX 8 Tryz.func60 rfl rfl bf
def EH(dq:Int)(cM:World)(j:Int→World→Prop):Prop:=j dq cM
def Q9(oG:aU)(w:World)(j:Int→World→Prop):Prop:=ex (bI oG) fun aY=>ex (M bi (aY.add 4) w) fun ez=>if ez=true then (j (81:Int) w) else (ds w fun aV=>ex (M aM (aY.add 2) aV) fun dn=>ex (M (D .i64) (aY.add 3) aV) fun cr=>L Pg 110 [.pointer (dn),.int .i64 (cr)] (D .i64) aV fun cF bH=>L Pg 109 [.pointer (oG),.int .i64 (cF)] (D .i64) bH fun dq bX=>bk ((M aM (aY.add 2) bX) dn)<|bk ((M (D .i64) (aY.add 3) bX) cr)<|if (dq==(0:Int))=true then (ex (M (D .i64) ((aY.add 0).add 0) bX) fun fo=>br (D .i64) ((aY.add 0).add 1) fo bX fun fm=>EH dq fm j) else (EH dq bX j))
theorem acz{oG w j}(h:Q9 oG w j):L Pg 61 [.pointer oG] (D .i64) w j:=by
 have gH:=eT 4 (da [0,1,2,3,5,6,7,4,8,9,10,11] .e)
 have kJ:=fun {dq}=>kv (bE:=Unit) 7 (fun s w=>EH dq w j) (fun g s=>av g 3 (.int .i64 dq))
 exact aX 31 Tryz.func61 rfl rfl bf
def Bm(bq:aU)(lS:Int)(tN:Int)(aR:Addr)(k_:Bool)(b3:World)(j:(Int×Int)→World→Prop):Prop:=if k_=true then (j ((0:Int),(90:Int)) b3) else (ex (bI bq) fun gm=>ex (M (D .i64) (gm.add 1) b3) fun eU=>ex (M eB aR b3) fun cV=>L Pg 112 [.pointer (bq),ej.enc ((⟨(IntKind.i64.wrap (eU+(1:Int))),lS,tN,cV⟩:iv))] (D .i64) b3 fun ga cQ=>if (ga != (0:Int))=true then (j ((0:Int),ga) cQ) else (br (D .i64) (gm.add 1) (IntKind.i64.wrap (eU+(1:Int))) cQ fun du=>j ((IntKind.i64.wrap (eU+(1:Int))),(0:Int)) du))
def Q_(bq:aU)(lS:Int)(tN:Int)(F7:g4)(w:World)(j:(Int×Int)→World→Prop):Prop:=ch 56 eB F7 w fun aR bK=>L Pg 111 [.pointer (bq),.int .i64 (lS)] bi bK fun cF bH=>if (!cF)=true then (Bm bq lS tN aR true bH j) else (L Pg 111 [.pointer (bq),.int .i64 (tN)] bi bH fun ca fc=>Bm bq lS tN aR (!ca) fc j)
theorem acA{bq lS tN F7 w j}(h:Q_ bq lS tN F7 w j):L Pg 62 [.pointer bq,.int .i64 lS,.int .i64 tN,eB.enc F7] (bJ (D .i64) (D .i64)) w j:=by
 have qw:=fun {aR}=>tr (bE:=Bool) [5,6,7,8,9] [] (fun s w=>Bm bq lS tN aR s w j) (fun g s=>av (av (av (av (av g 0 (.pointer bq)) 1 (.int .i64 lS)) 2 (.int .i64 tN)) 7 (.pointer (some aR))) 21 (.bool s))
 exact aX 42 Tryz.func62 rfl rfl bf
end ba
end Go.Proofs.YtnmmjkjkkmbhiaaGreat
