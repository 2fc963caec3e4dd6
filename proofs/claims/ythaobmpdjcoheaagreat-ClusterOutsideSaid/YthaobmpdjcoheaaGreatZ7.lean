/- Own texts of this claim, part 7: short, merged. -/
import Derived.Test.YthaobmpdjcoheaaGreatZ1
set_option maxRecDepth 100000
set_option maxHeartbeats 40000000
set_option linter.defProp false
set_option linter.unusedVariables false
set_option linter.unusedSimpArgs false
namespace Go.Proofs.YthaobmpdjcoheaaGreat
namespace bj
def Uc(bf:aN)(oP:Int)(w:World)(j:Bool→World→Prop):Prop:=ex (fun x=>(decide (oP≥(0:Int)))=true→(bM bf) x) fun aA=>ex (fun x=>(decide (oP≥(0:Int)))=true→(L (B .i64) (aA.add 0) w) x) fun dk=>j ((decide (oP≥(0:Int)))&&(decide (oP<dk))) w
theorem agK{bf oP w j}(h:Uc bf oP w j):M Pg 124 [.pointer bf,.int .i64 oP] bo w j:=
 bu 15 Tryz.func124 rfl rfl bw
def Ud(sd:(Option Nat))(w:World)(j:cw→World→Prop):Prop:=bQ 97 eC sd w fun a1 bl=>j (cw.mk (.func 176) (List.toArray []) (List.toArray [.pointer (some a1)])) bl
theorem agL{sd w j}(h:Ud sd w j):M Pg 125 [.map sd] gw w j:=
 bu 4 Tryz.func125 rfl rfl bw
def Ft(b5:Int)(aCd:af)(bZ:World)(gN:af×Int→World→Prop)(j:af→World→Prop):Prop:=gN (aCd,(IntKind.i64.wrap (b5+(1:Int)))) bZ
def A5(c2:af)(b5:Int)(zR:Bool)(amF:Bool)(cA:World)(gN:af×Int→World→Prop)(j:af→World→Prop):Prop:=if (!amF)=true then (mn 4 bo 1 1 c2 [zR] cA fun ps dV=>Ft b5 ps dV gN j) else (Ft b5 c2 cA gN j)
def MO(ds:aN)(c2:af)(b5:Int)(aY:World)(gN:af×Int→World→Prop)(j:af→World→Prop):Prop:=if (decide (b5<(2:Int)))=true then (ex (Xd (⟨#[true,false],rfl⟩:(Vector Bool 2)) b5) fun zR=>ex (bM ds) fun dE=>ex (oA (dE.add 4) 2 3 b5) fun e0=>ex (L bo (e0.add 0) aY) fun cQ=>ex (L (B .i64) (dE.add 12) aY) fun hY=>if (hY != (0:Int))=true then (ex (oA (dE.add 10) 2 1 b5) fun pH=>ex (L bo pH aY) fun k8=>A5 c2 b5 zR k8 aY gN j) else (A5 c2 b5 zR cQ aY gN j)) else (j c2 aY)
def Ue(ds:aN)(w:World)(j:af→World→Prop):Prop:=fh (fun (s:af×Int) w ab=>MO ds s.1 s.2 w ab j) ((⟨none,0,0⟩:af),(0:Int)) w
theorem agM{ds w j}(h:Ue ds w j):M Pg 126 [.pointer ds] X w j:=by
 have jt:=fun {c2} {b5} {zR} {gN}=>iz (bC:=Bool) 9 (fun s w=>A5 c2 b5 zR s w gN j) (fun g s=>ae (ae (ae (ae (ae (ae g 0 (.pointer ds)) 3 (X.enc c2)) 5 (.bool zR)) 7 ((qM bo 2).enc ((⟨#[true,false],rfl⟩:(Vector Bool 2))))) 8 (.int .i64 b5)) 6 (.bool s))
 have KK:=fun {b5} {gN}=>iz (bC:=af) 11 (fun s w=>Ft b5 s w gN j) (fun g s=>ae (ae (ae (ae g 0 (.pointer ds)) 7 ((qM bo 2).enc ((⟨#[true,false],rfl⟩:(Vector Bool 2))))) 8 (.int .i64 b5)) 3 (X.enc s))
 have ju:=hJ (bC:=af×Int) 4 (fun s w ab=>MO ds s.1 s.2 w ab j) (fun g s=>ae (ae (ae (ae g 0 (.pointer ds)) 7 ((qM bo 2).enc ((⟨#[true,false],rfl⟩:(Vector Bool 2))))) 3 (X.enc (s.1))) 8 (.int .i64 (s.2)))
 exact bu 38 Tryz.func126 rfl rfl bw
def Uf(ds:aN)(kb:Bool)(w:World)(j:iO→World→Prop):Prop:=bQ 60 hd zO w fun aA aY=>if kb=true then (dw aY fun bc=>ex (bM ds) fun b2=>ex (L (B .i64) ((b2.add 0).add 0) bc) fun bS=>ex (L (B .i64) ((b2.add 0).add 1) bc) fun cH=>ex (L (B .i64) ((b2.add 0).add 3) bc) fun cJ=>bi hd aA (⟨(IntKind.i64.wrap ((IntKind.i64.wrap ((2:Int)*bS))-(1:Int))),cH,cJ,true⟩:iO) bc fun cu=>ex (L hd aA cu) fun cQ=>j cQ cu) else (dw aY fun cC=>ex (bM ds) fun e1=>ex (L (B .i64) ((e1.add 0).add 0) cC) fun eO=>ex (L (B .i64) ((e1.add 0).add 2) cC) fun ep=>ex (L (B .i64) ((e1.add 0).add 3) cC) fun bL=>bi hd aA (⟨(IntKind.i64.wrap ((2:Int)*eO)),ep,bL,false⟩:iO) cC fun db=>ex (L hd aA db) fun cY=>j cY db)
theorem agN{ds kb w j}(h:Uf ds kb w j):M Pg 127 [.pointer ds,.bool kb] hd w j:=by
 have gC:=eI 3 (dJ [0,1,2,3,7,8,9,10,12,13,14,15,4,5,6,11,16,17,18] .l)
 have r0:=eI 4 (dJ [0,1,2,3,6,7,8,9,11,12,13,14,4,5,10,15,16,17] .l)
 exact bu 41 Tryz.func127 rfl rfl bw
def Ug(qQ:aN)(GA:Int)(w:World)(j:Int→World→Prop):Prop:=ex (bM qQ) fun aA=>ex (L bo (aA.add 4) w) fun dk=>bi bo (aA.add 4) (dk||(GA==(71:Int))) w fun bc=>j GA bc
theorem agO{qQ GA w j}(h:Ug qQ GA w j):M Pg 128 [.pointer qQ,.int .i64 GA] (B .i64) w j:=
 bu 17 Tryz.func128 rfl rfl bw
def Uh(dm:aN)(b0:Int)(w:World)(j:Int→World→Prop):Prop:=M Pg 177 [.pointer (dm),.int .i64 (b0),.int .i64 ((0:Int)),((cw.mk (.func 178) #[] #[])).enc] (B .i64) w fun bq bl=>j bq bl
theorem agP{dm b0 w j}(h:Uh dm b0 w j):M Pg 129 [.pointer dm,.int .i64 b0] (B .i64) w j:=
 bu 8 Tryz.func129 rfl rfl bw
def Uj(bf:aN)(kR:hc)(w:World)(j:Int→World→Prop):Prop:=bQ 64 eQ kR w fun aA aY=>ex (bM bf) fun b1=>ex (L X (b1.add 2) aY) fun b_=>if (decide ((b_.len:Int)≥(1000:Int)))=true then (j (91:Int) aY) else (dw aY fun bZ=>ex (L X (b1.add 2) bZ) fun cH=>ex (L eQ aA bZ) fun cJ=>mn 64 eQ 10 80 cH [cJ] bZ fun eB cC=>bG ((L eQ aA cC) cJ)<|bi X (b1.add 2) eB cC fun dU=>j (0:Int) dU)
theorem agR{bf kR w j}(h:Uj bf kR w j):M Pg 130 [.pointer bf,eQ.enc kR] (B .i64) w j:=by
 have gC:=eI 4 (dJ [0,1,2,3,4,5,6,7,8,9,10] .l)
 exact bu 21 Tryz.func130 rfl rfl bw
def Uk(bf:aN)(cd:Int)(w:World)(j:(hc×Int)→World→Prop):Prop:=bQ 64 eQ lw w fun aA aY=>ex (fun x=>(!(decide (cd<(0:Int))))=true→(bM bf) x) fun b1=>ex (fun x=>(!(decide (cd<(0:Int))))=true→(L X (b1.add 2) aY) x) fun b_=>if ((decide (cd<(0:Int)))||(decide (cd≥(b_.len:Int))))=true then (bi eQ aA (⟨(0:Int),(0:Int),(0:Int),uU⟩:hc) aY fun bZ=>ex (L eQ aA bZ) fun cH=>j (cH,(92:Int)) bZ) else (ex (bM bf) fun dE=>ex (L X (dE.add 2) aY) fun dD=>ex (cT dD 10 cd) fun fS=>ex (L eQ fS aY) fun fm=>bi eQ aA fm aY fun cA=>ex (L eQ aA cA) fun eO=>j (eO,(0:Int)) cA)
theorem agS{bf cd w j}(h:Uk bf cd w j):M Pg 131 [.pointer bf,.int .i64 cd] (bB eQ (B .i64)) w j:=
 bu 25 Tryz.func131 rfl rfl bw
def Ul(bf:aN)(oP:Int)(w:World)(j:Bool→World→Prop):Prop:=ex (bM bf) fun aA=>ex (L eC (aA.add 3) w) fun dk=>ex (iD fF .i64 dk oP w) fun jI=>bQ 164 fF q2 w fun b2 bZ=>bi fF b2 (((jI.getD q2,jI.isSome)).1) bZ fun bJ=>j (((jI.getD q2,jI.isSome)).2) bJ
theorem agT{bf oP w j}(h:Ul bf oP w j):M Pg 132 [.pointer bf,.int .i64 oP] bo w j:=
 bu 17 Tryz.func132 rfl rfl bw
def Um(bV:af)(cd:Int)(Eu:Int)(w:World)(j:af→World→Prop):Prop:=ex (Sub bV 10 cd Eu (bV.len:Int)) fun aeM=>if (cd==Eu)=true then (j bV w) else (dw w fun bc=>ex (Sub bV 10 0 cd ((bV).cap:Int)) fun xl=>ex (Sub bV 10 Eu ((bV).len:Int) ((bV).cap:Int)) fun Is=>tO 64 eQ 10 80 xl Is bc fun dB bJ=>ex (Sub dB 10 (dB.len:Int) (bV.len:Int) ((dB).cap:Int)) fun aeL=>wG eQ 10 lw aeL bJ fun cV=>j dB cV)
theorem agU{bV cd Eu w j}(h:Um bV cd Eu w j):M Pg 133 [X.enc bV,.int .i64 cd,.int .i64 Eu] X w j:=by
 have gC:=eI 6 (dJ [0,1,2,3,4,5,6,7] .l)
 exact bu 33 Tryz.func133 rfl rfl bw
def A6(fX:World)(j:Int→World→Prop):Prop:=j (0:Int) fX
def Fw(ds:aN)(kb:Bool)(mE:Bool)(cj:Addr)(acz:Addr)(cC:World)(j:Int→World→Prop):Prop:=ex (L bo (acz.add 0) cC) fun dP=>ex (fun x=>dP=true→(L m7 acz cC) x) fun eO=>ex (fun x=>dP=true→(L m7 cj cC) x) fun ep=>if (dP&&(!(lS.cB eO ep)))=true then (j (175:Int) cC) else (dw cC fun dV=>ex (bM ds) fun kE=>ex (L m7 cj dV) fun cY=>M Pg 136 [.bool (kb)] (B .i64) dV fun mR ev=>bG ((L m7 cj ev) cY)<|ex (oA (kE.add 4) 2 3 mR) fun rW=>bi m7 rW cY ev fun eD=>ex (fun x=>(!mE)=true→(bM ds) x) fun Jk=>ex (fun x=>(!mE)=true→(L (B .i64) (Jk.add 12) eD) x) fun gi=>if ((!mE)&&(gi==(0:Int)))=true then (bi (B .i64) (kE.add 12) (3:Int) eD fun gp=>A6 gp j) else (A6 eD j))
def Fv(ds:aN)(kb:Bool)(mE:Bool)(cj:Addr)(cu:World)(j:Int→World→Prop):Prop:=dw cu fun gV=>ex (bM ds) fun Bu=>sT (M Pg 136 [.bool (kb)] (B .i64) gV fun sw g6=>ex (oA (Bu.add 4) 2 3 sw) fun Jl=>ex (L m7 Jl g6) fun mj=>bQ 210 m7 q3 g6 fun Bv lp=>bi m7 Bv mj lp fun mA=>Fw ds kb mE cj Bv mA j) (bQ 210 m7 q3 gV fun pa k6=>M Pg 136 [.bool (kb)] (B .i64) k6 fun qD o1=>ex (oA (Bu.add 4) 2 3 qD) fun xR=>ex (L m7 xR o1) fun AX=>bi m7 pa AX o1 fun ou=>Fw ds kb mE cj pa ou j)
def Fu(ds:aN)(kb:Bool)(mE:Bool)(fi:Int)(lL:Bool)(b3:World)(j:Int→World→Prop):Prop:=if lL=true then (j (174:Int) b3) else (bQ 210 m7 q3 b3 fun cj bJ=>bi m7 cj (⟨true,mE,(0:Int)⟩:lS) bJ fun b6=>if mE=true then (bi (B .i64) (cj.add 2) fi b6 fun nY=>Fv ds kb mE cj nY j) else (Fv ds kb mE cj b6 j))
def Un(ds:aN)(kb:Bool)(mE:Bool)(fi:Int)(w:World)(j:Int→World→Prop):Prop:=if mE=true then (M Pg 179 [.int .i64 (fi)] bo w fun cL qa=>Fu ds kb mE fi (!cL) qa j) else (Fu ds kb mE fi false w j)
theorem agV{ds kb mE fi w j}(h:Un ds kb mE fi w j):M Pg 134 [.pointer ds,.bool kb,.bool mE,.int .i64 fi] (B .i64) w j:=by
 have gC:=eI 10 (dJ [0,1,4,5,3,2,6,7] .l)
 have jt:=iz (bC:=Unit) 13 (fun s w=>A6 w j) (fun g s=>g)
 have r0:=eI 7 (dJ [0,1,3,4] (.e 2 7 (dJ [5,6,7,8] .l) (dJ [2,5,6,8] .l)))
 have KK:=fun {cj}=>iz (bC:=Addr) 8 (fun s w=>Fw ds kb mE cj s w j) (fun g s=>ae (ae (ae (ae (ae g 0 (.pointer ds)) 1 (.bool kb)) 2 (.bool mE)) 9 (.pointer (some cj))) 10 (.pointer (some s)))
 have aBQ:=fun {cj}=>iz (bC:=Unit) 7 (fun s w=>Fv ds kb mE cj w j) (fun g s=>ae (ae (ae (ae g 0 (.pointer ds)) 1 (.bool kb)) 2 (.bool mE)) 9 (.pointer (some cj)))
 have rv:=sb (bC:=Bool) [2,3,4,5] [] (fun s w=>Fu ds kb mE fi s w j) (fun g s=>ae (ae (ae (ae (ae g 0 (.pointer ds)) 1 (.bool kb)) 2 (.bool mE)) 3 (.int .i64 fi)) 16 (.bool s))
 exact bu 55 Tryz.func134 rfl rfl bw
def Uo(ds:aN)(w:World)(j:(Int×Bool)→World→Prop):Prop:=M Pg 180 [.pointer (ds)] bo w fun gv cG=>ex (fun x=>(!(!gv))=true→(bM ds) x) fun a9=>ex (fun x=>(!(!gv))=true→(L (B .i64) (a9.add 12) cG) x) fun dQ=>if ((!gv)||(dQ != (0:Int)))=true then (j ((0:Int),false) cG) else (dw cG fun b3=>ex (bM ds) fun cj=>ex (oA (cj.add 4) 2 3 (0:Int)) fun cZ=>ex (oA (cj.add 4) 2 3 (1:Int)) fun dE=>ex (L (B .i64) (cZ.add 2) b3) fun dD=>ex (L (B .i64) (dE.add 2) b3) fun cQ=>j ((max dD cQ),true) b3)
theorem agW{ds w j}(h:Uo ds w j):M Pg 135 [.pointer ds] (bB (B .i64) bo) w j:=by
 have gC:=eI 4 (dJ [0,1,2,3,4,6,7,8,9,10,5,11,12,13,14] .l)
 exact bu 27 Tryz.func135 rfl rfl bw
def Up(Lv:Bool)(w:World)(j:Int→World→Prop):Prop:=if Lv=true then (j (0:Int) w) else (j (1:Int) w)
theorem agX{Lv w j}(h:Up Lv w j):M Pg 136 [.bool Lv] (B .i64) w j:=
 bu 4 Tryz.func136 rfl rfl bw
def C_(aog:Nat)(aY:World)(j:Bool→World→Prop):Prop:=j (ga .gtr aog (9218868437227405311:Nat)) aY
def MQ(e7:Nat)(Iu:Int)(w:World)(j:Bool→World→Prop):Prop:=if (Iu==(0:Int))=true then (M Pg 181 [.float .f64 (e7)] g4 w fun aI bc=>C_ aI bc j) else (if (decide (Iu<(0:Int)))=true then (C_ (Op.negFloat .f64 e7) w j) else (C_ e7 w j))
theorem Uq{e7 Iu w j}(h:MQ e7 Iu w j):M Pg 138 [.float .f64 e7,.int .i64 Iu] bo w j:=by
 have jt:=iz (bC:=Nat) 6 (fun s w=>C_ s w j) (fun g s=>ae g 0 (.float .f64 s))
 exact bu 15 Tryz.func138 rfl rfl bw
def Ur(e7:Nat)(w:World)(j:Int→World→Prop):Prop:=if (ga .neq e7 e7)=true then (j (0:Int) w) else (ex (jd (63:Int) (Int.fdiv (e7:Int) (2^(min ((63:Int)).toNat IntKind.u64.bits)))) fun d2=>if (d2==(1:Int))=true then (j (bits .xor .u64 IntKind.u64.max (e7:Int)) w) else (j (bits .or .u64 (e7:Int) (9223372036854775808:Int)) w))
theorem agY{e7 w j}(h:Ur e7 w j):M Pg 139 [.float .f64 e7] (B .u64) w j:=
 bu 16 Tryz.func139 rfl rfl bw
def Ut(uw:Nat)(w:World)(j:(aN×Int)→World→Prop):Prop:=M Pg 38 [.float .f64 (uw)] (B .i64) w fun gv cG=>if (gv != (0:Int))=true then (j ((none:Option Addr),(150:Int)) cG) else (M Pg 182 [] aE cG fun bm aY=>ur aY fun EC b3=>ur b3 fun l7 bJ=>ur bJ fun aCV cu=>bQ 72 Bq (⟨(⟨bm⟩:m6),uw,(0:Int),(some EC),(some l7),(some aCV)⟩:tL) cu fun fZ cA=>j ((some fZ),(0:Int)) cA)
theorem ag0{uw w j}(h:Ut uw w j):M Pg 140 [.float .f64 uw] (bB aE (B .i64)) w j:=
 bu 15 Tryz.func140 rfl rfl bw
def MS(a1:Addr)(bm:(af×Int×Int))(uD:af)(xo:Int)(gb:World)(Jb:Int→World→Prop)(j:(j3×Bool)→World→Prop):Prop:=if (decide (xo<(uD.len:Int)))=true then (ex (cT uD 5 xo) fun pH=>ex (L gy pH gb) fun k8=>bQ 197 gy tN gb fun rW eD=>bi gy rW k8 eD fun fX=>ex (L (B .i64) (rW.add 0) fX) fun eE=>if (eE != (2:Int))=true then (bi fY a1 (⟨(0:Int),(0:Int),(0:Int),(0:Int),(0:Int),false⟩:j3) fX fun fe=>ex (L fY a1 fe) fun iM=>j (iM,false) fe) else (Jb ((IntKind.i64.wrap (xo+(1:Int)))) fX)) else (ex (cT bm.1 5 (0:Int)) fun wy=>ex (L (B .u64) (wy.add 1) gb) fun kw=>M Pg 113 [.int .i64 ((IntKind.i64.wrap kw))] bo gb fun sv hX=>if (!sv)=true then (bi fY a1 (⟨(0:Int),(0:Int),(0:Int),(0:Int),(0:Int),false⟩:j3) hX fun iL=>ex (L fY a1 iL) fun kg=>j (kg,false) iL) else (dw hX fun jy=>ex (cT bm.1 5 (0:Int)) fun Bv=>ex (cT bm.1 5 (1:Int)) fun Gf=>ex (cT bm.1 5 (2:Int)) fun xQ=>ex (cT bm.1 5 (3:Int)) fun pa=>ex (cT bm.1 5 (4:Int)) fun uV=>ex (cT bm.1 5 (5:Int)) fun uW=>ex (L (B .u64) (Bv.add 1) jy) fun tw=>ex (L (B .i64) (Gf.add 2) jy) fun tx=>ex (L (B .i64) (xQ.add 2) jy) fun AX=>ex (L (B .i64) (pa.add 2) jy) fun rO=>ex (L (B .i64) (uV.add 2) jy) fun Fi=>ex (L (B .u64) (uW.add 1) jy) fun o3=>bi fY a1 (⟨(IntKind.i64.wrap tw),tx,AX,rO,Fi,(o3==(1:Int))⟩:j3) jy fun p_=>ex (L fY a1 p_) fun qd=>j (qd,true) p_))
def MR(e2:af)(w:World)(j:(j3×Bool)→World→Prop):Prop:=bQ 142 fY Dz w fun a1 bl=>M Pg 93 [X.enc (e2)] (mz X (B .i64) (B .i64)) bl fun bm aY=>ex (fun x=>(!((bm.2.2 != (0:Int))||((bm.1.len:Int)!=(6:Int))))=true→(cT bm.1 5 (0:Int)) x) fun b2=>ex (fun x=>(!((bm.2.2 != (0:Int))||((bm.1.len:Int)!=(6:Int))))=true→(L (B .i64) (b2.add 0) aY) x) fun bS=>ex (fun x=>(!(((bm.2.2 != (0:Int))||((bm.1.len:Int)!=(6:Int)))||(bS != (1:Int))))=true→(cT bm.1 5 (5:Int)) x) fun cZ=>ex (fun x=>(!(((bm.2.2 != (0:Int))||((bm.1.len:Int)!=(6:Int)))||(bS != (1:Int))))=true→(L (B .i64) (cZ.add 0) aY) x) fun cJ=>ex (fun x=>(!((((bm.2.2 != (0:Int))||((bm.1.len:Int)!=(6:Int)))||(bS != (1:Int)))||(cJ != (1:Int))))=true→(cT bm.1 5 (0:Int)) x) fun e0=>ex (fun x=>(!((((bm.2.2 != (0:Int))||((bm.1.len:Int)!=(6:Int)))||(bS != (1:Int)))||(cJ != (1:Int))))=true→(L (B .u64) (e0.add 1) aY) x) fun cQ=>ex (fun x=>(!(((((bm.2.2 != (0:Int))||((bm.1.len:Int)!=(6:Int)))||(bS != (1:Int)))||(cJ != (1:Int)))||(decide (cQ>(6:Int)))))=true→(cT bm.1 5 (5:Int)) x) fun fZ=>ex (fun x=>(!(((((bm.2.2 != (0:Int))||((bm.1.len:Int)!=(6:Int)))||(bS != (1:Int)))||(cJ != (1:Int)))||(decide (cQ>(6:Int)))))=true→(L (B .u64) (fZ.add 1) aY) x) fun dP=>if ((((((bm.2.2 != (0:Int))||((bm.1.len:Int)!=(6:Int)))||(bS != (1:Int)))||(cJ != (1:Int)))||(decide (cQ>(6:Int))))||(decide (dP>(1:Int))))=true then (bi fY a1 (⟨(0:Int),(0:Int),(0:Int),(0:Int),(0:Int),false⟩:j3) aY fun df=>ex (L fY a1 df) fun ep=>j (ep,false) df) else (ex (Sub bm.1 5 (1:Int) (5:Int) ((bm.1).cap:Int)) fun uD=>fh (fun (s:Int) w ab=>MS a1 bm uD s w ab j) ((0:Int)) aY)
theorem ag1{e2:af}{w:World}{j:(j3×Bool)→World→Prop}(h:MR e2 w j):M Pg 141 [X.enc (e2)] (bB fY bo) w j:=by
 unfold MR at h
 refine oH 98 Tryz.func141 rfl rfl (Nat.le_of_ble_eq_true rfl)<|wp_seq<|a4 _ rfl<|oJ sh wX h rfl fun a1 bl h=>o rfl<|aU<|wp_seq<|a4 _ rfl<|o rfl<|ew anS rfl rfl h fun bm aY h=>o rfl<|fb _ _ rfl rfl rfl ?_
 refine fb _ _ rfl rfl rfl<|fb _ _ rfl rfl rfl<|o rfl<|o rfl<|o rfl<|aU<|wp_seq<|wp_seq<|a4 _ rfl<|o rfl<|aP _ rfl rfl rfl (g1 rfl rfl rfl)<|o rfl ?_
 refine bn (g:=(!(bm.2.2 != (0:Int)))) (d:=(some 18)) rfl (.no 2 17 true (bm.2.2 != (0:Int)) rfl rfl rfl rfl) rfl (fun O=>cs (v:=X.enc (bm.1)) rfl rfl)<|bn (g:=(!(bm.2.2 != (0:Int)))) (d:=(some 19)) rfl (.no 2 17 true (bm.2.2 != (0:Int)) rfl rfl rfl rfl) rfl (fun O=>jZ (s:=bm.1) rfl Tryz.underlying190 (cc O))<|bn (g:=(!(bm.2.2 != (0:Int)))) (d:=(some 20)) rfl (.no 2 17 true (bm.2.2 != (0:Int)) rfl rfl rfl rfl) rfl (fun O=>g1 (k:=.i64) (a:=(bm.1.len:Int)) (e:=(6:Int)) rfl (cc O) rfl)<|aP 21 rfl rfl rfl (i_ (a:=(bm.2.2 != (0:Int))) (c:=((bm.1.len:Int)!=(6:Int))) rfl rfl rfl rfl)<|o rfl<|bn (g:=(!((bm.2.2 != (0:Int))||((bm.1.len:Int)!=(6:Int))))) (d:=(some 23)) rfl (.no 7 22 true ((bm.2.2 != (0:Int))||((bm.1.len:Int)!=(6:Int))) rfl rfl rfl rfl) rfl (fun O=>cs (v:=X.enc (bm.1)) rfl rfl) ?_
 obtain⟨b2,PF,h⟩:=h
 refine bn (g:=(!((bm.2.2 != (0:Int))||((bm.1.len:Int)!=(6:Int))))) (d:=(some 24)) rfl (.no 7 22 true ((bm.2.2 != (0:Int))||((bm.1.len:Int)!=(6:Int))) rfl rfl rfl rfl) rfl (fun O=>kd (s:=bm.1) (k:=.i64) (i:=(0:Int)) rfl Tryz.underlying190 ma (cc O) rfl (PF O))<|bn (g:=(!((bm.2.2 != (0:Int))||((bm.1.len:Int)!=(6:Int))))) (d:=(some 25)) rfl (.no 7 22 true ((bm.2.2 != (0:Int))||((bm.1.len:Int)!=(6:Int))) rfl rfl rfl rfl) rfl (fun O=>iI (a:=b2) (off:=0) rfl Tryz.underlying197 rfl rfl xd (by decide) (cc O)) ?_
 obtain⟨bS,QJ,h⟩:=h
 refine bn (g:=(!((bm.2.2 != (0:Int))||((bm.1.len:Int)!=(6:Int))))) (d:=(some 26)) rfl (.no 7 22 true ((bm.2.2 != (0:Int))||((bm.1.len:Int)!=(6:Int))) rfl rfl rfl rfl) rfl (fun O=>hM (T:=(B .i64)) (u:=bS) (a:=(b2.add 0)) rfl xd (cc O) (QJ O))<|bn (g:=(!((bm.2.2 != (0:Int))||((bm.1.len:Int)!=(6:Int))))) (d:=(some 27)) rfl (.no 7 22 true ((bm.2.2 != (0:Int))||((bm.1.len:Int)!=(6:Int))) rfl rfl rfl rfl) rfl (fun O=>g1 (k:=.i64) (a:=bS) (e:=(1:Int)) rfl (cc O) rfl)<|aP 28 rfl rfl rfl (i_ (a:=((bm.2.2 != (0:Int))||((bm.1.len:Int)!=(6:Int)))) (c:=(bS != (1:Int))) rfl rfl rfl rfl)<|o rfl<|bn (g:=(!(((bm.2.2 != (0:Int))||((bm.1.len:Int)!=(6:Int)))||(bS != (1:Int))))) (d:=(some 30)) rfl (.no 14 29 true (((bm.2.2 != (0:Int))||((bm.1.len:Int)!=(6:Int)))||(bS != (1:Int))) rfl rfl rfl rfl) rfl (fun O=>cs (v:=X.enc (bm.1)) rfl rfl) ?_
 obtain⟨cZ,PI,h⟩:=h
 refine bn (g:=(!(((bm.2.2 != (0:Int))||((bm.1.len:Int)!=(6:Int)))||(bS != (1:Int))))) (d:=(some 31)) rfl (.no 14 29 true (((bm.2.2 != (0:Int))||((bm.1.len:Int)!=(6:Int)))||(bS != (1:Int))) rfl rfl rfl rfl) rfl (fun O=>kd (s:=bm.1) (k:=.i64) (i:=(5:Int)) rfl Tryz.underlying190 ma (cc O) rfl (PI O))<|bn (g:=(!(((bm.2.2 != (0:Int))||((bm.1.len:Int)!=(6:Int)))||(bS != (1:Int))))) (d:=(some 32)) rfl (.no 14 29 true (((bm.2.2 != (0:Int))||((bm.1.len:Int)!=(6:Int)))||(bS != (1:Int))) rfl rfl rfl rfl) rfl (fun O=>iI (a:=cZ) (off:=0) rfl Tryz.underlying197 rfl rfl xd (by decide) (cc O)) ?_
 obtain⟨cJ,Hu,h⟩:=h
 refine bn (g:=(!(((bm.2.2 != (0:Int))||((bm.1.len:Int)!=(6:Int)))||(bS != (1:Int))))) (d:=(some 33)) rfl (.no 14 29 true (((bm.2.2 != (0:Int))||((bm.1.len:Int)!=(6:Int)))||(bS != (1:Int))) rfl rfl rfl rfl) rfl (fun O=>hM (T:=(B .i64)) (u:=cJ) (a:=(cZ.add 0)) rfl xd (cc O) (Hu O))<|bn (g:=(!(((bm.2.2 != (0:Int))||((bm.1.len:Int)!=(6:Int)))||(bS != (1:Int))))) (d:=(some 34)) rfl (.no 14 29 true (((bm.2.2 != (0:Int))||((bm.1.len:Int)!=(6:Int)))||(bS != (1:Int))) rfl rfl rfl rfl) rfl (fun O=>g1 (k:=.i64) (a:=cJ) (e:=(1:Int)) rfl (cc O) rfl)<|aP 35 rfl rfl rfl (i_ (a:=(((bm.2.2 != (0:Int))||((bm.1.len:Int)!=(6:Int)))||(bS != (1:Int)))) (c:=(cJ != (1:Int))) rfl rfl rfl rfl)<|o rfl<|bn (g:=(!((((bm.2.2 != (0:Int))||((bm.1.len:Int)!=(6:Int)))||(bS != (1:Int)))||(cJ != (1:Int))))) (d:=(some 37)) rfl (.no 21 36 true ((((bm.2.2 != (0:Int))||((bm.1.len:Int)!=(6:Int)))||(bS != (1:Int)))||(cJ != (1:Int))) rfl rfl rfl rfl) rfl (fun O=>cs (v:=X.enc (bm.1)) rfl rfl) ?_
 obtain⟨e0,ao4,h⟩:=h
 refine bn (g:=(!((((bm.2.2 != (0:Int))||((bm.1.len:Int)!=(6:Int)))||(bS != (1:Int)))||(cJ != (1:Int))))) (d:=(some 38)) rfl (.no 21 36 true ((((bm.2.2 != (0:Int))||((bm.1.len:Int)!=(6:Int)))||(bS != (1:Int)))||(cJ != (1:Int))) rfl rfl rfl rfl) rfl (fun O=>kd (s:=bm.1) (k:=.i64) (i:=(0:Int)) rfl Tryz.underlying190 ma (cc O) rfl (ao4 O))<|bn (g:=(!((((bm.2.2 != (0:Int))||((bm.1.len:Int)!=(6:Int)))||(bS != (1:Int)))||(cJ != (1:Int))))) (d:=(some 39)) rfl (.no 21 36 true ((((bm.2.2 != (0:Int))||((bm.1.len:Int)!=(6:Int)))||(bS != (1:Int)))||(cJ != (1:Int))) rfl rfl rfl rfl) rfl (fun O=>iI (a:=e0) (off:=1) rfl Tryz.underlying197 rfl rfl si (by decide) (cc O)) ?_
 obtain⟨cQ,B7,h⟩:=h
 refine bn (g:=(!((((bm.2.2 != (0:Int))||((bm.1.len:Int)!=(6:Int)))||(bS != (1:Int)))||(cJ != (1:Int))))) (d:=(some 40)) rfl (.no 21 36 true ((((bm.2.2 != (0:Int))||((bm.1.len:Int)!=(6:Int)))||(bS != (1:Int)))||(cJ != (1:Int))) rfl rfl rfl rfl) rfl (fun O=>hM (T:=(B .u64)) (u:=cQ) (a:=(e0.add 1)) rfl si (cc O) (B7 O))<|bn (g:=(!((((bm.2.2 != (0:Int))||((bm.1.len:Int)!=(6:Int)))||(bS != (1:Int)))||(cJ != (1:Int))))) (d:=(some 41)) rfl (.no 21 36 true ((((bm.2.2 != (0:Int))||((bm.1.len:Int)!=(6:Int)))||(bS != (1:Int)))||(cJ != (1:Int))) rfl rfl rfl rfl) rfl (fun O=>ss (k:=.u64) (a:=cQ) (e:=(6:Int)) rfl (cc O) rfl)<|aP 42 rfl rfl rfl (i_ (a:=((((bm.2.2 != (0:Int))||((bm.1.len:Int)!=(6:Int)))||(bS != (1:Int)))||(cJ != (1:Int)))) (c:=(decide (cQ>(6:Int)))) rfl rfl rfl rfl)<|o rfl<|bn (g:=(!(((((bm.2.2 != (0:Int))||((bm.1.len:Int)!=(6:Int)))||(bS != (1:Int)))||(cJ != (1:Int)))||(decide (cQ>(6:Int)))))) (d:=(some 44)) rfl (.no 28 43 true (((((bm.2.2 != (0:Int))||((bm.1.len:Int)!=(6:Int)))||(bS != (1:Int)))||(cJ != (1:Int)))||(decide (cQ>(6:Int)))) rfl rfl rfl rfl) rfl (fun O=>cs (v:=X.enc (bm.1)) rfl rfl) ?_
 obtain⟨fZ,ao6,h⟩:=h
 refine bn (g:=(!(((((bm.2.2 != (0:Int))||((bm.1.len:Int)!=(6:Int)))||(bS != (1:Int)))||(cJ != (1:Int)))||(decide (cQ>(6:Int)))))) (d:=(some 45)) rfl (.no 28 43 true (((((bm.2.2 != (0:Int))||((bm.1.len:Int)!=(6:Int)))||(bS != (1:Int)))||(cJ != (1:Int)))||(decide (cQ>(6:Int)))) rfl rfl rfl rfl) rfl (fun O=>kd (s:=bm.1) (k:=.i64) (i:=(5:Int)) rfl Tryz.underlying190 ma (cc O) rfl (ao6 O))<|bn (g:=(!(((((bm.2.2 != (0:Int))||((bm.1.len:Int)!=(6:Int)))||(bS != (1:Int)))||(cJ != (1:Int)))||(decide (cQ>(6:Int)))))) (d:=(some 46)) rfl (.no 28 43 true (((((bm.2.2 != (0:Int))||((bm.1.len:Int)!=(6:Int)))||(bS != (1:Int)))||(cJ != (1:Int)))||(decide (cQ>(6:Int)))) rfl rfl rfl rfl) rfl (fun O=>iI (a:=fZ) (off:=1) rfl Tryz.underlying197 rfl rfl si (by decide) (cc O)) ?_
 obtain⟨dP,Hn,h⟩:=h
 refine bn (g:=(!(((((bm.2.2 != (0:Int))||((bm.1.len:Int)!=(6:Int)))||(bS != (1:Int)))||(cJ != (1:Int)))||(decide (cQ>(6:Int)))))) (d:=(some 47)) rfl (.no 28 43 true (((((bm.2.2 != (0:Int))||((bm.1.len:Int)!=(6:Int)))||(bS != (1:Int)))||(cJ != (1:Int)))||(decide (cQ>(6:Int)))) rfl rfl rfl rfl) rfl (fun O=>hM (T:=(B .u64)) (u:=dP) (a:=(fZ.add 1)) rfl si (cc O) (Hn O))<|bn (g:=(!(((((bm.2.2 != (0:Int))||((bm.1.len:Int)!=(6:Int)))||(bS != (1:Int)))||(cJ != (1:Int)))||(decide (cQ>(6:Int)))))) (d:=(some 48)) rfl (.no 28 43 true (((((bm.2.2 != (0:Int))||((bm.1.len:Int)!=(6:Int)))||(bS != (1:Int)))||(cJ != (1:Int)))||(decide (cQ>(6:Int)))) rfl rfl rfl rfl) rfl (fun O=>ss (k:=.u64) (a:=dP) (e:=(1:Int)) rfl (cc O) rfl)<|aP 49 rfl rfl rfl (i_ (a:=(((((bm.2.2 != (0:Int))||((bm.1.len:Int)!=(6:Int)))||(bS != (1:Int)))||(cJ != (1:Int)))||(decide (cQ>(6:Int))))) (c:=(decide (dP>(1:Int)))) rfl rfl rfl rfl)<|aU<|eb h rfl (fun _ h=>?_) fun _ h=>?_
 ·refine wp_seq<|a4 _ rfl<|aP 50 rfl rfl rfl (H7  rfl)<|jp sh h rfl rfl rfl fun df h=>o rfl<|aU<|wp_ret ?_
  obtain⟨ep,Qy,h⟩:=h
  exact om rfl (.cons (.cell (T:=fY) (u:=ep) (a:=a1) sh rfl Qy) (.cons (.tmp (v:=.bool (false)) rfl) .nil)) ⟨(ep,false),rfl,h⟩
 ·refine wp_skip<|wp_seq<|wp_seq<|a4 _ rfl<|o rfl ?_
  obtain⟨uD,Qi,h⟩:=h
  refine aP 52 rfl rfl rfl (LI (s:=bm.1) (m:=(1:Int)) (h:=(5:Int)) rfl Tryz.underlying190 ma rfl rfl rfl Qi)<|aP _ rfl rfl rfl (jZ rfl Tryz.underlying190 rfl)<|o rfl<|aU<|wp_block<|rE (bC:=Int) (dp:=fun g (s:Int)=>ae (ae (ae (ae (ae (g) 2 (.pointer (some a1))) 4 (X.enc (bm.1))) 52 (X.enc (uD))) 53 (.int .i64 ((uD.len:Int)))) 54 (.int .i64 (s))) (lI:=((0:Int))) (aC (aC (aC (aC (aC rfl rfl) rfl) rfl) rfl) rfl) h ?_
  rintro xo g gb Jb h
  unfold MS at h
  refine wp_seq<|a4 _ rfl<|aP _ rfl rfl rfl (jw rfl rfl rfl)<|aU<|wp_seq<|eb h rfl (fun _ h=>?_) fun _ h=>?_
  ·refine wp_skip<|wp_seq<|wp_block<|wp_seq<|a4 _ rfl ?_
   obtain⟨pH,ao9,h⟩:=h
   refine aP 56 rfl rfl rfl (kd (s:=uD) (k:=.i64) (i:=xo) rfl Tryz.underlying190 ma rfl rfl ao9)<|gQ ma h rfl rfl fun k8 _ h=>oJ ma wY h rfl fun rW eD h=>jp ma h rfl rfl rfl fun fX h=>aU<|wp_seq<|a4 _ rfl<|gk _ _ _ Tryz.underlying197 xd rfl rfl rfl<|gQ xd h rfl rfl fun eE _ h=>aP _ rfl rfl rfl (g1 rfl rfl rfl)<|aU<|eb h rfl (fun _ h=>?_) fun _ h=>?_
   ·refine wp_seq<|a4 _ rfl<|aP 61 rfl rfl rfl (H7  rfl)<|jp sh h rfl rfl rfl fun fe h=>o rfl<|aU<|wp_ret ?_
    obtain⟨iM,QB,h⟩:=h
    exact om rfl (.cons (.cell (T:=fY) (u:=iM) (a:=a1) sh rfl QB) (.cons (.tmp (v:=.bool (false)) rfl) .nil)) ⟨(iM,false),rfl,h⟩
   ·refine wp_skip<|a4 _ rfl<|aP _ rfl rfl rfl (ni rfl rfl rfl)<|o rfl<|aU ?_
    exact⟨((IntKind.i64.wrap (xo+(1:Int)))),_,aX (aC (aC (aC (aC (aC rfl rfl) rfl) rfl) rfl) rfl),h⟩
  ·refine wp_exit<|wp_seq<|wp_seq<|a4 _ rfl<|o rfl ?_
   obtain⟨wy,apb,h⟩:=h
   refine aP 64 rfl rfl rfl (kd (s:=bm.1) (k:=.i64) (i:=(0:Int)) rfl Tryz.underlying190 ma rfl rfl apb)<|gk _ _ _ Tryz.underlying197 si rfl rfl rfl<|gQ si h rfl rfl fun kw _ h=>aP 67 rfl rfl rfl (sr (a:=kw) rfl Tryz.underlying195 Tryz.underlying3 rfl)<|ew am0 rfl rfl h fun sv hX h=>aP _ rfl rfl rfl (nj rfl rfl)<|aU<|eb h rfl (fun _ h=>?_) fun _ h=>?_
   ·refine wp_seq<|a4 _ rfl<|aP 70 rfl rfl rfl (H7  rfl)<|jp sh h rfl rfl rfl fun iL h=>o rfl<|aU<|wp_ret ?_
    obtain⟨kg,B8,h⟩:=h
    exact om rfl (.cons (.cell (T:=fY) (u:=kg) (a:=a1) sh rfl B8) (.cons (.tmp (v:=.bool (false)) rfl) .nil)) ⟨(kg,false),rfl,h⟩
   ·refine wp_skip<|wp_seq ?_
    obtain⟨jy,arY,h⟩:=n9 h
    refine o2 29 mixed rfl (by kernel_rfl) (by intro c a d v w h; cases d<;>exact h) arY (fun ai=>?_)
    refine gj 0 71 (X.enc (bm.1)) ai rfl rfl ?_
    obtain⟨Bv,apd,h⟩:=h
    refine fl 1 72 ai rfl rfl rfl (fun _=>kd (s:=bm.1) (k:=.i64) (i:=(0:Int)) rfl Tryz.underlying190 ma rfl rfl apd)<|g_ 2 73 Bv 1 Tryz.underlying197 si ai rfl rfl rfl<|gj 5 76 (X.enc (bm.1)) ai rfl rfl ?_
    obtain⟨Gf,ape,h⟩:=h
    refine fl 6 77 ai rfl rfl rfl (fun _=>kd (s:=bm.1) (k:=.i64) (i:=(1:Int)) rfl Tryz.underlying190 ma rfl rfl ape)<|g_ 7 78 Gf 2 Tryz.underlying197 cS ai rfl rfl rfl<|gj 9 80 (X.enc (bm.1)) ai rfl rfl ?_
    obtain⟨xQ,GU,h⟩:=h
    refine fl 10 81 ai rfl rfl rfl (fun _=>kd (s:=bm.1) (k:=.i64) (i:=(2:Int)) rfl Tryz.underlying190 ma rfl rfl GU)<|g_ 11 82 xQ 2 Tryz.underlying197 cS ai rfl rfl rfl<|gj 13 84 (X.enc (bm.1)) ai rfl rfl ?_
    obtain⟨pa,PC,h⟩:=h
    refine fl 14 85 ai rfl rfl rfl (fun _=>kd (s:=bm.1) (k:=.i64) (i:=(3:Int)) rfl Tryz.underlying190 ma rfl rfl PC)<|g_ 15 86 pa 2 Tryz.underlying197 cS ai rfl rfl rfl<|gj 17 88 (X.enc (bm.1)) ai rfl rfl ?_
    obtain⟨uV,PD,h⟩:=h
    refine fl 18 89 ai rfl rfl rfl (fun _=>kd (s:=bm.1) (k:=.i64) (i:=(4:Int)) rfl Tryz.underlying190 ma rfl rfl PD)<|g_ 19 90 uV 2 Tryz.underlying197 cS ai rfl rfl rfl<|gj 21 92 (X.enc (bm.1)) ai rfl rfl ?_
    obtain⟨uW,apf,h⟩:=h
    refine fl 22 93 ai rfl rfl rfl (fun _=>kd (s:=bm.1) (k:=.i64) (i:=(5:Int)) rfl Tryz.underlying190 ma rfl rfl apf)<|g_ 23 94 uW 1 Tryz.underlying197 si ai rfl rfl rfl ?_
    obtain⟨tw,aso,h⟩:=h
    refine hy 3 74 aso si ai rfl rfl<|fl 4 75 ai rfl rfl rfl (fun _=>sr (a:=tw) rfl Tryz.underlying195 Tryz.underlying3 rfl) ?_
    obtain⟨tx,asp,h⟩:=h
    refine hy 8 79 asp cS ai rfl rfl ?_
    obtain⟨AX,asq,h⟩:=h
    refine hy 12 83 asq cS ai rfl rfl ?_
    obtain⟨rO,QG,h⟩:=h
    refine hy 16 87 QG cS ai rfl rfl ?_
    obtain⟨Fi,asr,h⟩:=h
    refine hy 20 91 asr cS ai rfl rfl ?_
    obtain⟨o3,QH,h⟩:=h
    refine hy 24 95 QH si ai rfl rfl<|fl 25 96 ai rfl rfl rfl (fun _=>gn (a:=o3) (e:=(1:Int)) rfl rfl rfl)<|fl 26 97 ai rfl rfl rfl (fun _=>R6 (bh:=(IntKind.i64.wrap tw)) (bY:=tx) (ei:=AX) (gg:=rO) (mh:=Fi) (v3:=(o3==(1:Int))) rfl rfl rfl rfl rfl rfl rfl)<|fq (i:=27) (by kernel_rfl) ?_
    obtain⟨p_,ar4,arw,h⟩:=sD h
    refine uu (d:=none) rfl (.free rfl) rfl (st (T:=fY) (u:=(⟨(IntKind.i64.wrap tw),tx,AX,rO,Fi,(o3==(1:Int))⟩:j3)) (a:=a1) rfl sh rfl rfl arw ar4) ⟨(hA (by kernel_rfl) (hA (by kernel_rfl) (hA (by kernel_rfl) (hA (by kernel_rfl) (hA (by kernel_rfl) (hA (by kernel_rfl) h9)))))),?_⟩
    refine A2 28 3 (.bool (true)) ai rfl rfl<|kM (by kernel_rfl)<|wp_ret ?_
    obtain⟨qd,Hs,h⟩:=h
    exact om rfl (.cons (.cell (T:=fY) (u:=qd) (a:=a1) sh rfl Hs) (.cons (.tmp (v:=.bool (true)) rfl) .nil)) ⟨(qd,true),rfl,h⟩
def Uu(dm:aN)(b0:Int)(w:World)(j:(af×Int)→World→Prop):Prop:=M Pg 183 [.pointer (dm),.int .i64 (b0)] bo w fun bq bl=>if (!bq)=true then (j ((⟨none,0,0⟩:af),(70:Int)) bl) else (ex (bM dm) fun b1=>ex (L bo (b1.add 2) bl) fun b_=>if b_=true then (j ((⟨none,0,0⟩:af),(71:Int)) bl) else (ex (L X (b1.add 0) bl) fun bS=>ex (cT bS 2 b0) fun cZ=>ex (L X (cZ.add 0) bl) fun cJ=>yX 5 (B .u8) 1 (0:Int) (cJ.len:Int) (cJ.len:Int) bl fun g8 cu=>ex (L X (b1.add 0) cu) fun fm=>ex (cT fm 2 b0) fun e1=>ex (L X (e1.add 0) cu) fun eO=>DQ (B .u8) 1 g8 eO cu fun mf dU=>j (g8,(0:Int)) dU))
theorem ag2{dm b0 w j}(h:Uu dm b0 w j):M Pg 142 [.pointer dm,.int .i64 b0] (bB X (B .i64)) w j:=
 bu 38 Tryz.func142 rfl rfl bw
def MT(e2:af)(c2:af)(Oz:Int)(aY:World)(gN:af×Int→World→Prop)(j:(af×Int)→World→Prop):Prop:=ex (Sub e2 1 Oz ((e2).len:Int) ((e2).cap:Int)) fun xl=>M Pg 184 [X.enc (xl)] (mz X (B .i64) (B .i64)) aY fun a7 bZ=>if (a7.2.2 != (0:Int))=true then (j (c2,Oz) bZ) else (mn 189 X 1 24 c2 [a7.1] bZ fun bs cV=>gN (bs,(IntKind.i64.wrap (Oz+a7.2.1))) cV)
def Uv(e2:af)(w:World)(j:(af×Int)→World→Prop):Prop:=fh (fun (s:af×Int) w ab=>MT e2 s.1 s.2 w ab j) ((⟨none,0,0⟩:af),(0:Int)) w
theorem ag3{e2 w j}(h:Uv e2 w j):M Pg 143 [X.enc e2] (bB X (B .i64)) w j:=by
 have ju:=hJ (bC:=af×Int) 4 (fun s w ab=>MT e2 s.1 s.2 w ab j) (fun g s=>ae (ae (ae g 0 (X.enc e2)) 4 (X.enc (s.1))) 5 (.int .i64 (s.2)))
 exact bu 28 Tryz.func143 rfl rfl bw
def Uw(dm:aN)(b0:Int)(tR:af)(w:World)(j:Int→World→Prop):Prop:=bQ 189 X tR w fun a9 bc=>ex (L X a9 bc) fun b_=>M Pg 177 [.pointer (dm),.int .i64 (b0),.int .i64 ((b_.len:Int)),((cw.mk (.func 185) (List.toArray []) (List.toArray [.pointer (some a9)]))).enc] (B .i64) bc fun a7 bZ=>j a7 bZ
theorem ag4{dm b0 tR w j}(h:Uw dm b0 tR w j):M Pg 144 [.pointer dm,.int .i64 b0,X.enc tR] (B .i64) w j:=
 bu 13 Tryz.func144 rfl rfl bw
def Ux(dm:aN)(b0:Int)(w:World)(j:Int→World→Prop):Prop:=M Pg 183 [.pointer (dm),.int .i64 (b0)] bo w fun bq bl=>if (!bq)=true then (j (0:Int) bl) else (ex (bM dm) fun b1=>ex (L X (b1.add 0) bl) fun b_=>ex (cT b_ 2 b0) fun cj=>ex (L (B .i64) (cj.add 1) bl) fun cH=>j cH bl)
theorem ag5{dm b0 w j}(h:Ux dm b0 w j):M Pg 145 [.pointer dm,.int .i64 b0] (B .i64) w j:=
 bu 17 Tryz.func145 rfl rfl bw
def IY(fP:Addr)(bt:Addr)(b5:Addr)(fi:Addr)(zd:eF)(w:World)(j:World→Prop):Prop:=if (!(eF.isNil zd))=true then (ex (TP 259 j4 Ge zd) fun Lt=>bQ 259 j4 Ge w fun b2 bZ=>bi j4 b2 Lt.1 bZ fun bJ=>if (!Lt.2)=true then (False) else (dw bJ fun b6=>ex (L (B .i64) fP b6) fun dD=>ex (L (B .i64) (b2.add 0) b6) fun cQ=>bi X bt (⟨none,0,0⟩:af) b6 fun cC=>bG ((L (B .i64) (b2.add 0) cC) cQ)<|bi (B .i64) b5 dD cC fun df=>bG ((L (B .i64) (b2.add 0) df) cQ)<|bi (B .i64) fi cQ df fun dV=>j dV)) else (j w)
theorem Uy{fP:Addr}{bt:Addr}{b5:Addr}{fi:Addr}{zd:eF}{u px:FrameMode}{w:World}{j:World→Prop}(Kq:Ji u zd px)(h:IY fP bt b5 fi zd w j):CallsD Pg 146 (List.toArray [.pointer (some fP),.pointer (some bt),.pointer (some b5),.pointer (some fi)]) u w fun l tu J=>(∃ v,l=.returned v)∧tu=px∧j J:=by
 unfold IY at h
 refine ali 21 Tryz.func146 rfl rfl (Nat.le_of_ble_eq_true rfl) fun oI bd hu=>wpS_seq<|aJg [0,1] rfl<|aGY (v:=zd) (d:=(some 7)) rfl rfl rfl rfl hu Kq<|aGZ (d:=(some 4)) rfl rfl rfl (CB (v:=(zd).enc) rfl rfl)<|aGX (wpS_of_wp ?_)
 refine wp_seq<|a4 _ rfl<|o rfl<|aP 9 rfl rfl rfl (Sl (v:=zd) rfl Tryz.underlying20 rfl)<|aU<|eb h rfl (fun _ h=>?_) fun _ h=>?_
 ·refine wp_seq<|a4 _ rfl<|o rfl ?_
  obtain⟨Lt,ard,h⟩:=h
  refine aP 12 rfl rfl rfl (R1 (T:=j4) (z:=Ge) (v:=zd) (p:=Lt) rfl ⟨_,Tryz.underlying259,rfl⟩ Hz rfl ard)<|o rfl<|fb _ _ rfl rfl rfl<|fb _ _ rfl rfl rfl<|oJ RE Hz h rfl fun b2 bZ h=>jp RE h rfl rfl rfl fun bJ h=>o rfl<|aU<|wp_seq<|wp_seq<|a4 _ rfl<|o rfl ?_
  refine aP _ rfl rfl rfl (nj rfl rfl)<|aU<|eb h rfl (fun _ h=>?_) fun _ h=>?_
  ·refine a4 _ rfl<|o rfl ?_
   exact h.elim
  ·refine wp_skip ?_
   obtain⟨b6,Qx,h⟩:=n9 h
   refine o2 6 mixed rfl (by kernel_rfl) (by intro c a d v w h; cases d<;>exact h) Qx (fun ai=>?_)
   refine g_ 1 19 b2 0 Tryz.underlying259 xe ai rfl rfl rfl ?_
   obtain⟨dD,B6,h⟩:=h
   refine hy 0 18 B6 cU ai rfl rfl ?_
   obtain⟨cQ,B7,h⟩:=h
   refine hy 2 20 B7 xe ai rfl rfl<|fq (i:=3) (by kernel_rfl) ?_
   obtain⟨cC,arO,aro,h⟩:=sD h
   obtain⟨aqg,h⟩:=h
   refine uu (d:=none) rfl (.free rfl) rfl (st (T:=X) (u:=(⟨none,0,0⟩:af)) (a:=bt) rfl vC rfl rfl aro arO) ⟨(fc (fun _=>aqg) (hA (by kernel_rfl) h9)),?_⟩
   refine fq (i:=4) (by kernel_rfl) ?_
   obtain⟨df,Qq,arp,h⟩:=sD h
   obtain⟨aqs,h⟩:=h
   refine uu (d:=none) rfl (.free rfl) rfl (st (T:=(B .i64)) (u:=dD) (a:=b5) rfl cU rfl rfl arp Qq) ⟨(fc (fun _=>aqs) (hA (by kernel_rfl) h9)),?_⟩
   refine fq (i:=5) (by kernel_rfl) ?_
   obtain⟨dV,Qr,arq,h⟩:=sD h
   refine uu (d:=none) rfl (.free rfl) rfl (st (T:=(B .i64)) (u:=cQ) (a:=fi) rfl xe rfl rfl arq Qr) ⟨(hA (by kernel_rfl) (hA (by kernel_rfl) h9)),?_⟩
   refine kM (by kernel_rfl) ?_
   exact YQ rfl h
 ·refine wp_skip ?_
  exact YQ rfl h
def zy(a1:Addr)(b2:Addr)(b6:World)(j:m5→World→Prop)(eG:eF→World→Prop):Prop:=ex (L gy b2 b6) fun dD=>bi gy a1 dD b6 fun cV=>ex (L gy a1 cV) fun fm=>j fm cV
def MU(fJ:aN)(w:World)(j:m5→World→Prop)(eG:eF→World→Prop):Prop:=bQ 197 gy tN w fun a1 bl=>n3 Pg 186 [.pointer (fJ)] (B .u8) bl eG fun bm aY=>bQ 197 gy tN aY fun b2 bZ=>bi gy b2 (⟨(IntKind.i64.wrap bm),(0:Int),(0:Int),(0:Nat),([]:List UInt8)⟩:m5) bZ fun bJ=>ex (L (B .i64) (b2.add 0) bJ) fun dP=>if (dP==(1:Int))=true then (n3 Pg 187 [.pointer (fJ)] (B .u64) bJ eG fun fI df=>bi (B .u64) (b2.add 1) fI df fun dV=>zy a1 b2 dV j eG) else (if (dP==(2:Int))=true then (n3 Pg 187 [.pointer (fJ)] (B .u64) bJ eG fun ea db=>ex (jd (1:Int) (Int.fdiv ea (2^(min ((1:Int)).toNat IntKind.u64.bits)))) fun d19=>bi (B .i64) (b2.add 2) (bits .xor .i64 (IntKind.i64.wrap d19) (IntKind.i64.wrap (0-(IntKind.i64.wrap (bits .and .u64 ea (1:Int)))))) db fun eJ=>zy a1 b2 eJ j eG) else (if (dP==(3:Int))=true then (n3 Pg 188 [.pointer (fJ)] g4 bJ eG fun cI eK=>bi g4 (b2.add 3) cI eK fun eD=>zy a1 b2 eD j eG) else (if (dP==(4:Int))=true then (n3 Pg 189 [.pointer (fJ)] qN bJ eG fun g3 fX=>bi qN (b2.add 4) g3 fX fun fe=>zy a1 b2 fe j eG) else (eG (eF.mk 259 (j4.enc ((⟨(21:Int)⟩:kj)))) bJ))))
theorem ag6{fJ:aN}{w:World}{j:m5→World→Prop}{eG:eF→World→Prop}(h:MU fJ w j eG):n3 Pg 147 [.pointer (fJ)] gy w eG j:=by
 unfold MU at h
 refine oH 42 Tryz.func147 rfl rfl (Nat.le_of_ble_eq_true rfl)<|wp_seq<|a4 _ rfl<|oJ ma wY h rfl fun a1 bl h=>aU<|wp_seq<|a4 _ rfl<|o rfl<|ey rfl (.free rfl) (zt (d:=(some 6)) rfl (fD (k:=186) (m:=[.pointer (fJ)]) rfl O3 rfl) h ?_ ?_)
 ·exact fun _ _ h=>sn (P:=Pg) (fn:=Tryz.f147) h
 intro bm aY h
 refine aP 7 rfl rfl rfl (sr (a:=bm) rfl Tryz.underlying5 Tryz.underlying194 rfl)<|aP 8 rfl rfl rfl (R8 (bh:=(IntKind.i64.wrap bm)) rfl rfl)<|oJ ma wY h rfl fun b2 bZ h=>jp ma h rfl rfl rfl fun bJ h=>aU<|vQ (bC:=Unit) (eM:=fun (s:Unit) w=>zy a1 b2 w j eG) (dp:=fun g (s:Unit)=>ae (ae (g) 2 (.pointer (some a1))) 3 (.pointer (some b2))) ?_ ?_
 ·rintro⟨⟩ g b6 h
  unfold zy at h
  refine wp_seq<|a4 _ rfl<|gQ ma h rfl rfl fun dD _ h=>jp ma h rfl rfl rfl fun cV h=>aU<|wp_ret ?_
  obtain⟨fm,yE,h⟩:=h
  exact om rfl (.cons (.cell (T:=gy) (u:=fm) (a:=a1) ma rfl yE) .nil) ⟨fm,rfl,h⟩
 ·refine wp_seq<|a4 _ rfl<|gk _ _ _ Tryz.underlying197 xd rfl rfl rfl<|gQ xd h rfl rfl fun dP _ h=>aU<|wp_block<|wp_seq<|a4 _ rfl<|aP _ rfl rfl rfl (gn rfl rfl rfl)<|o rfl<|aU<|eb h rfl (fun _ h=>?_) fun _ h=>?_
  ·refine a4 _ rfl<|o rfl<|ey rfl (.free rfl) (zt (d:=(some 16)) rfl (fD (k:=187) (m:=[.pointer (fJ)]) rfl O4 rfl) h ?_ ?_)
   ·exact fun _ _ h=>sn (P:=Pg) (fn:=Tryz.f147) h
   intro fI df h
   refine gk _ _ _ Tryz.underlying197 si rfl rfl rfl<|jp si h rfl rfl rfl fun dV h=>aU ?_
   exact⟨(),_,aX (aC (aC rfl rfl) rfl),h⟩
  ·refine wp_seq<|a4 _ rfl<|aP _ rfl rfl rfl (gn rfl rfl rfl)<|o rfl<|aU<|eb h rfl (fun _ h=>?_) fun _ h=>?_
   ·refine wp_seq<|a4 _ rfl<|o rfl<|ey rfl (.free rfl) (zt (d:=(some 21)) rfl (fD (k:=187) (m:=[.pointer (fJ)]) rfl O4 rfl) h ?_ ?_)
    ·exact fun _ _ h=>sn (P:=Pg) (fn:=Tryz.f147) h
    intro ea db h
    refine o rfl<|aU<|a4 _ rfl<|o rfl ?_
    obtain⟨d19,apC,h⟩:=h
    refine aP 23 rfl rfl rfl (So (a:=ea) (e:=(1:Int)) (r:=d19) rfl rfl rfl apC)<|aP 24 rfl rfl rfl (sr (a:=d19) rfl Tryz.underlying195 Tryz.underlying2 rfl)<|o rfl<|aP 26 rfl rfl rfl (Ly (a:=ea) (e:=(1:Int)) rfl rfl rfl)<|aP 27 rfl rfl rfl (sr (a:=(bits .and .u64 ea (1:Int))) rfl Tryz.underlying195 Tryz.underlying2 rfl)<|aP 28 rfl rfl rfl (LG (a:=(IntKind.i64.wrap (bits .and .u64 ea (1:Int)))) rfl rfl)<|aP 29 rfl rfl rfl (Sr (a:=(IntKind.i64.wrap d19)) (e:=(IntKind.i64.wrap (0-(IntKind.i64.wrap (bits .and .u64 ea (1:Int)))))) rfl rfl rfl)<|gk _ _ _ Tryz.underlying197 cS rfl rfl rfl<|jp cS h rfl rfl rfl fun eJ h=>aU ?_
    exact⟨(),_,aX (aC (aC rfl rfl) rfl),h⟩
   ·refine wp_seq<|a4 _ rfl<|aP _ rfl rfl rfl (gn rfl rfl rfl)<|o rfl<|aU<|eb h rfl (fun _ h=>?_) fun _ h=>?_
    ·refine a4 _ rfl<|o rfl<|ey rfl (.free rfl) (zt (d:=(some 34)) rfl (fD (k:=188) (m:=[.pointer (fJ)]) rfl ank rfl) h ?_ ?_)
     ·exact fun _ _ h=>sn (P:=Pg) (fn:=Tryz.f147) h
     intro cI eK h
     refine gk _ _ _ Tryz.underlying197 qv rfl rfl rfl<|jp qv h rfl rfl rfl fun eD h=>aU ?_
     exact⟨(),_,aX (aC (aC rfl rfl) rfl),h⟩
    ·refine wp_seq<|a4 _ rfl<|aP _ rfl rfl rfl (gn rfl rfl rfl)<|o rfl<|aU<|eb h rfl (fun _ h=>?_) fun _ h=>?_
     ·refine a4 _ rfl<|o rfl<|ey rfl (.free rfl) (zt (d:=(some 39)) rfl (fD (k:=189) (m:=[.pointer (fJ)]) rfl anl rfl) h ?_ ?_)
      ·exact fun _ _ h=>sn (P:=Pg) (fn:=Tryz.f147) h
      intro g3 fX h
      refine gk _ _ _ Tryz.underlying197 Lk rfl rfl rfl<|jp Lk h rfl rfl rfl fun fe h=>aU ?_
      exact⟨(),_,aX (aC (aC rfl rfl) rfl),h⟩
     ·refine a4 _ rfl<|aP 11 rfl rfl rfl (za (bh:=(21:Int)) rfl rfl)<|aP 12 rfl rfl rfl (zb (v:=j4.enc ((⟨(21:Int)⟩:kj))) rfl Tryz.underlying259 rfl rfl)<|ey rfl (.free rfl) (C0 (v:=(eF.mk 259 (j4.enc ((⟨(21:Int)⟩:kj))))) rfl rfl ⟨_,_,rfl⟩ ?_)
      exact sn (P:=Pg) (fn:=Tryz.f147) h
end bj
end Go.Proofs.YthaobmpdjcoheaaGreat
