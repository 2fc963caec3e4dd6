/- Own texts of this claim, part 7: short, merged. -/
import Derived.Test.YthaobmpdjcoheaaGreatZ1
set_option maxRecDepth 100000
set_option maxHeartbeats 40000000
set_option linter.defProp false
set_option linter.unusedVariables false
set_option linter.unusedSimpArgs false
namespace Go.Proofs.YthaobmpdjcoheaaGreat
namespace bf
def TP(bi:aM)(oA:Int)(w:World)(e:Bool→World→Prop):Prop:=ex (fun x=>(decide (oA≥(0:Int)))=true→(bK bi) x) fun aA=>ex (fun x=>(decide (oA≥(0:Int)))=true→(L (B .i64) (aA.add 0) w) x) fun de=>e ((decide (oA≥(0:Int)))&&(decide (oA<de))) w
theorem agk{bi oA w e}(h:TP bi oA w e):M Pg 124 [.pointer bi,.int .i64 oA] bk w e:=
 bq 15 Tryz.func124 rfl rfl br
def TQ(r6:(Option Nat))(w:World)(e:cm→World→Prop):Prop:=bO 97 ek r6 w fun aY bm=>e (cm.mk (.func 176) (List.toArray []) (List.toArray [.pointer (some aY)])) bm
theorem agl{r6 w e}(h:TQ r6 w e):M Pg 125 [.map r6] gg w e:=
 bq 4 Tryz.func125 rfl rfl br
def Fb(b0:Int)(aBE:af)(bV:World)(gB:af×Int→World→Prop)(e:af→World→Prop):Prop:=gB (aBE,(IntKind.i64.wrap (b0+(1:Int)))) bV
def AP(cZ:af)(b0:Int)(zB:Bool)(amf:Bool)(cu:World)(gB:af×Int→World→Prop)(e:af→World→Prop):Prop:=if (!amf)=true then (l6 4 bk 1 1 cZ [zB] cu fun ph dQ=>Fb b0 ph dQ gB e) else (Fb b0 cZ cu gB e)
def Mn(dt:aM)(cZ:af)(b0:Int)(aV:World)(gB:af×Int→World→Prop)(e:af→World→Prop):Prop:=if (decide (b0<(2:Int)))=true then (ex (WT (⟨#[true,false],rfl⟩:(Vector Bool 2)) b0) fun zB=>ex (bK dt) fun dE=>ex (oi (dE.add 4) 2 3 b0) fun eN=>ex (L bk (eN.add 0) aV) fun cK=>ex (L (B .i64) (dE.add 12) aV) fun hL=>if (hL != (0:Int))=true then (ex (oi (dE.add 10) 2 1 b0) fun py=>ex (L bk py aV) fun kS=>AP cZ b0 zB kS aV gB e) else (AP cZ b0 zB cK aV gB e)) else (e cZ aV)
def TR(dt:aM)(w:World)(e:af→World→Prop):Prop:=e2 (fun (s:af×Int) w aa=>Mn dt s.1 s.2 w aa e) ((⟨none,0,0⟩:af),(0:Int)) w
theorem agm{dt w e}(h:TR dt w e):M Pg 126 [.pointer dt] X w e:=by
 have iI:=fun {cZ} {b0} {zB} {gB}=>hy (bx:=Bool) 9 (fun s w=>AP cZ b0 zB s w gB e) (fun g s=>ae (ae (ae (ae (ae (ae g 0 (.pointer dt)) 3 (X.enc cZ)) 5 (.bool zB)) 7 ((qE bk 2).enc ((⟨#[true,false],rfl⟩:(Vector Bool 2))))) 8 (.int .i64 b0)) 6 (.bool s))
 have Hk:=fun {b0} {gB}=>hy (bx:=af) 11 (fun s w=>Fb b0 s w gB e) (fun g s=>ae (ae (ae (ae g 0 (.pointer dt)) 7 ((qE bk 2).enc ((⟨#[true,false],rfl⟩:(Vector Bool 2))))) 8 (.int .i64 b0)) 3 (X.enc s))
 have iU:=hf (bx:=af×Int) 4 (fun s w aa=>Mn dt s.1 s.2 w aa e) (fun g s=>ae (ae (ae (ae g 0 (.pointer dt)) 7 ((qE bk 2).enc ((⟨#[true,false],rfl⟩:(Vector Bool 2))))) 3 (X.enc (s.1))) 8 (.int .i64 (s.2)))
 exact bq 38 Tryz.func126 rfl rfl br
def TS(dt:aM)(jX:Bool)(w:World)(e:iz→World→Prop):Prop:=bO 60 g0 zy w fun aA aV=>if jX=true then (dl aV fun a_=>ex (bK dt) fun bY=>ex (L (B .i64) ((bY.add 0).add 0) a_) fun bQ=>ex (L (B .i64) ((bY.add 0).add 1) a_) fun cT=>ex (L (B .i64) ((bY.add 0).add 3) a_) fun cH=>bd g0 aA (⟨(IntKind.i64.wrap ((IntKind.i64.wrap ((2:Int)*bQ))-(1:Int))),cT,cH,true⟩:iz) a_ fun cn=>ex (L g0 aA cn) fun cK=>e cK cn) else (dl aV fun cA=>ex (bK dt) fun eO=>ex (L (B .i64) ((eO.add 0).add 0) cA) fun eA=>ex (L (B .i64) ((eO.add 0).add 2) cA) fun fu=>ex (L (B .i64) ((eO.add 0).add 3) cA) fun bJ=>bd g0 aA (⟨(IntKind.i64.wrap ((2:Int)*eA)),fu,bJ,false⟩:iz) cA fun c2=>ex (L g0 aA c2) fun cW=>e cW c2)
theorem agn{dt jX w e}(h:TS dt jX w e):M Pg 127 [.pointer dt,.bool jX] g0 w e:=by
 have ga:=en 3 (dB [0,1,2,3,7,8,9,10,12,13,14,15,4,5,6,11,16,17,18] .j)
 have rT:=en 4 (dB [0,1,2,3,6,7,8,9,11,12,13,14,4,5,10,15,16,17] .j)
 exact bq 41 Tryz.func127 rfl rfl br
def TT(qJ:aM)(Gm:Int)(w:World)(e:Int→World→Prop):Prop:=ex (bK qJ) fun aA=>ex (L bk (aA.add 4) w) fun de=>bd bk (aA.add 4) (de||(Gm==(71:Int))) w fun a_=>e Gm a_
theorem ago{qJ Gm w e}(h:TT qJ Gm w e):M Pg 128 [.pointer qJ,.int .i64 Gm] (B .i64) w e:=
 bq 17 Tryz.func128 rfl rfl br
def TU(dd:aM)(bW:Int)(w:World)(e:Int→World→Prop):Prop:=M Pg 177 [.pointer (dd),.int .i64 (bW),.int .i64 ((0:Int)),((cm.mk (.func 178) #[] #[])).enc] (B .i64) w fun bp bm=>e bp bm
theorem agp{dd bW w e}(h:TU dd bW w e):M Pg 129 [.pointer dd,.int .i64 bW] (B .i64) w e:=
 bq 8 Tryz.func129 rfl rfl br
def TW(bi:aM)(kz:gZ)(w:World)(e:Int→World→Prop):Prop:=bO 64 eC kz w fun aA aV=>ex (bK bi) fun b1=>ex (L X (b1.add 2) aV) fun cJ=>if (decide ((cJ.len:Int)≥(1000:Int)))=true then (e (91:Int) aV) else (dl aV fun bV=>ex (L X (b1.add 2) bV) fun cT=>ex (L eC aA bV) fun cH=>l6 64 eC 10 80 cT [cH] bV fun eo cA=>bE ((L eC aA cA) cH)<|bd X (b1.add 2) eo cA fun dP=>e (0:Int) dP)
theorem agr{bi kz w e}(h:TW bi kz w e):M Pg 130 [.pointer bi,eC.enc kz] (B .i64) w e:=by
 have ga:=en 4 (dB [0,1,2,3,4,5,6,7,8,9,10] .j)
 exact bq 21 Tryz.func130 rfl rfl br
def TX(bi:aM)(b8:Int)(w:World)(e:(gZ×Int)→World→Prop):Prop:=bO 64 eC lb w fun aA aV=>ex (fun x=>(!(decide (b8<(0:Int))))=true→(bK bi) x) fun b1=>ex (fun x=>(!(decide (b8<(0:Int))))=true→(L X (b1.add 2) aV) x) fun cJ=>if ((decide (b8<(0:Int)))||(decide (b8≥(cJ.len:Int))))=true then (bd eC aA (⟨(0:Int),(0:Int),(0:Int),uL⟩:gZ) aV fun bV=>ex (L eC aA bV) fun cT=>e (cT,(92:Int)) bV) else (ex (bK bi) fun dE=>ex (L X (dE.add 2) aV) fun dM=>ex (cM dM 10 b8) fun fG=>ex (L eC fG aV) fun e7=>bd eC aA e7 aV fun cu=>ex (L eC aA cu) fun eA=>e (eA,(0:Int)) cu)
theorem ags{bi b8 w e}(h:TX bi b8 w e):M Pg 131 [.pointer bi,.int .i64 b8] (bw eC (B .i64)) w e:=
 bq 25 Tryz.func131 rfl rfl br
def TY(bi:aM)(oA:Int)(w:World)(e:Bool→World→Prop):Prop:=ex (bK bi) fun aA=>ex (L ek (aA.add 3) w) fun de=>ex (iq fq .i64 de oA w) fun jr=>bO 164 fq qW w fun bY bV=>bd fq bY (((jr.getD qW,jr.isSome)).1) bV fun bH=>e (((jr.getD qW,jr.isSome)).2) bH
theorem agt{bi oA w e}(h:TY bi oA w e):M Pg 132 [.pointer bi,.int .i64 oA] bk w e:=
 bq 17 Tryz.func132 rfl rfl br
def TZ(bS:af)(b8:Int)(Ec:Int)(w:World)(e:af→World→Prop):Prop:=ex (Sub bS 10 b8 Ec (bS.len:Int)) fun aeo=>if (b8==Ec)=true then (e bS w) else (dl w fun a_=>ex (Sub bS 10 0 b8 ((bS).cap:Int)) fun w7=>ex (Sub bS 10 Ec ((bS).len:Int) ((bS).cap:Int)) fun H7=>tE 64 eC 10 80 w7 H7 a_ fun fm bH=>ex (Sub fm 10 (fm.len:Int) (bS.len:Int) ((fm).cap:Int)) fun aen=>wm eC 10 lb aen bH fun cN=>e fm cN)
theorem agu{bS b8 Ec w e}(h:TZ bS b8 Ec w e):M Pg 133 [X.enc bS,.int .i64 b8,.int .i64 Ec] X w e:=by
 have ga:=en 6 (dB [0,1,2,3,4,5,6,7] .j)
 exact bq 33 Tryz.func133 rfl rfl br
def AQ(fM:World)(e:Int→World→Prop):Prop:=e (0:Int) fM
def Ff(dt:aM)(jX:Bool)(ms:Bool)(cg:Addr)(ab9:Addr)(cA:World)(e:Int→World→Prop):Prop:=ex (L bk (ab9.add 0) cA) fun dU=>ex (fun x=>dU=true→(L mV ab9 cA) x) fun eA=>ex (fun x=>dU=true→(L mV cg cA) x) fun fu=>if (dU&&(!(lA.cs eA fu)))=true then (e (175:Int) cA) else (dl cA fun dQ=>ex (bK dt) fun lc=>ex (L mV cg dQ) fun cW=>M Pg 136 [.bool (jX)] (B .i64) dQ fun mH ei=>bE ((L mV cg ei) cW)<|ex (oi (lc.add 4) 2 3 mH) fun rP=>bd mV rP cW ei fun ep=>ex (fun x=>(!ms)=true→(bK dt) x) fun IZ=>ex (fun x=>(!ms)=true→(L (B .i64) (IZ.add 12) ep) x) fun kT=>if ((!ms)&&(kT==(0:Int)))=true then (bd (B .i64) (lc.add 12) (3:Int) ep fun fZ=>AQ fZ e) else (AQ ep e))
def Fe(dt:aM)(jX:Bool)(ms:Bool)(cg:Addr)(cn:World)(e:Int→World→Prop):Prop:=dl cn fun gR=>ex (bK dt) fun Bb=>sH (M Pg 136 [.bool (jX)] (B .i64) gR fun tf gT=>ex (oi (Bb.add 4) 2 3 tf) fun I0=>ex (L mV I0 gT) fun mP=>bO 210 mV qX gT fun Bc lv=>bd mV Bc mP lv fun mn=>Ff dt jX ms cg Bc mn e) (bO 210 mV qX gR fun oY kP=>M Pg 136 [.bool (jX)] (B .i64) kP fun qu oN=>ex (oi (Bb.add 4) 2 3 qu) fun xC=>ex (L mV xC oN) fun AI=>bd mV oY AI oN fun oc=>Ff dt jX ms cg oY oc e)
def Fc(dt:aM)(jX:Bool)(ms:Bool)(e3:Int)(lZ:Bool)(b2:World)(e:Int→World→Prop):Prop:=if lZ=true then (e (174:Int) b2) else (bO 210 mV qX b2 fun cg bH=>bd mV cg (⟨true,ms,(0:Int)⟩:lA) bH fun b3=>if ms=true then (bd (B .i64) (cg.add 2) e3 b3 fun nN=>Fe dt jX ms cg nN e) else (Fe dt jX ms cg b3 e))
def T0(dt:aM)(jX:Bool)(ms:Bool)(e3:Int)(w:World)(e:Int→World→Prop):Prop:=if ms=true then (M Pg 179 [.int .i64 (e3)] bk w fun mi qH=>Fc dt jX ms e3 (!mi) qH e) else (Fc dt jX ms e3 false w e)
theorem agv{dt jX ms e3 w e}(h:T0 dt jX ms e3 w e):M Pg 134 [.pointer dt,.bool jX,.bool ms,.int .i64 e3] (B .i64) w e:=by
 have ga:=en 10 (dB [0,1,4,5,3,2,6,7] .j)
 have iI:=hy (bx:=Unit) 13 (fun s w=>AQ w e) (fun g s=>g)
 have rT:=en 7 (dB [0,1,3,4] (.l 2 7 (dB [5,6,7,8] .j) (dB [2,5,6,8] .j)))
 have Hk:=fun {cg}=>hy (bx:=Addr) 8 (fun s w=>Ff dt jX ms cg s w e) (fun g s=>ae (ae (ae (ae (ae g 0 (.pointer dt)) 1 (.bool jX)) 2 (.bool ms)) 9 (.pointer (some cg))) 10 (.pointer (some s)))
 have aBh:=fun {cg}=>hy (bx:=Unit) 7 (fun s w=>Fe dt jX ms cg w e) (fun g s=>ae (ae (ae (ae g 0 (.pointer dt)) 1 (.bool jX)) 2 (.bool ms)) 9 (.pointer (some cg)))
 have o9:=pQ (bx:=Bool) [2,3,4,5] [] (fun s w=>Fc dt jX ms e3 s w e) (fun g s=>ae (ae (ae (ae (ae g 0 (.pointer dt)) 1 (.bool jX)) 2 (.bool ms)) 3 (.int .i64 e3)) 16 (.bool s))
 exact bq 55 Tryz.func134 rfl rfl br
def T1(dt:aM)(w:World)(e:(Int×Bool)→World→Prop):Prop:=M Pg 180 [.pointer (dt)] bk w fun gf cB=>ex (fun x=>(!(!gf))=true→(bK dt) x) fun a6=>ex (fun x=>(!(!gf))=true→(L (B .i64) (a6.add 12) cB) x) fun dN=>if ((!gf)||(dN != (0:Int)))=true then (e ((0:Int),false) cB) else (dl cB fun b2=>ex (bK dt) fun cg=>ex (oi (cg.add 4) 2 3 (0:Int)) fun cP=>ex (oi (cg.add 4) 2 3 (1:Int)) fun dE=>ex (L (B .i64) (cP.add 2) b2) fun dM=>ex (L (B .i64) (dE.add 2) b2) fun cK=>e ((max dM cK),true) b2)
theorem agw{dt w e}(h:T1 dt w e):M Pg 135 [.pointer dt] (bw (B .i64) bk) w e:=by
 have ga:=en 4 (dB [0,1,2,3,4,6,7,8,9,10,5,11,12,13,14] .j)
 exact bq 27 Tryz.func135 rfl rfl br
def T2(K7:Bool)(w:World)(e:Int→World→Prop):Prop:=if K7=true then (e (0:Int) w) else (e (1:Int) w)
theorem agx{K7 w e}(h:T2 K7 w e):M Pg 136 [.bool K7] (B .i64) w e:=
 bq 4 Tryz.func136 rfl rfl br
def CR(anK:Nat)(aV:World)(e:Bool→World→Prop):Prop:=e (fQ .gtr anK (9218868437227405311:Nat)) aV
def Mp(eV:Nat)(H9:Int)(w:World)(e:Bool→World→Prop):Prop:=if (H9==(0:Int))=true then (M Pg 181 [.float .f64 (eV)] gP w fun aI a_=>CR aI a_ e) else (if (decide (H9<(0:Int)))=true then (CR (Op.negFloat .f64 eV) w e) else (CR eV w e))
theorem T3{eV H9 w e}(h:Mp eV H9 w e):M Pg 138 [.float .f64 eV,.int .i64 H9] bk w e:=by
 have iI:=hy (bx:=Nat) 6 (fun s w=>CR s w e) (fun g s=>ae g 0 (.float .f64 s))
 exact bq 15 Tryz.func138 rfl rfl br
def T4(eV:Nat)(w:World)(e:Int→World→Prop):Prop:=if (fQ .neq eV eV)=true then (e (0:Int) w) else (ex (iP (63:Int) (Int.fdiv (eV:Int) (2^(min ((63:Int)).toNat IntKind.u64.bits)))) fun d2=>if (d2==(1:Int))=true then (e (bits .xor .u64 IntKind.u64.max (eV:Int)) w) else (e (bits .or .u64 (eV:Int) (9223372036854775808:Int)) w))
theorem agy{eV w e}(h:T4 eV w e):M Pg 139 [.float .f64 eV] (B .u64) w e:=
 bq 16 Tryz.func139 rfl rfl br
def T6(um:Nat)(w:World)(e:(aM×Int)→World→Prop):Prop:=M Pg 38 [.float .f64 (um)] (B .i64) w fun gf cB=>if (gf != (0:Int))=true then (e ((none:Option Addr),(150:Int)) cB) else (M Pg 182 [] aD cB fun bj aV=>uf aV fun El b2=>uf b2 fun lP bH=>uf bH fun aCm cn=>bO 72 A8 (⟨(⟨bj⟩:mU),um,(0:Int),(some El),(some lP),(some aCm)⟩:tB) cn fun fO cu=>e ((some fO),(0:Int)) cu)
theorem agA{um w e}(h:T6 um w e):M Pg 140 [.float .f64 um] (bw aD (B .i64)) w e:=
 bq 15 Tryz.func140 rfl rfl br
def Mr(aY:Addr)(bj:(af×Int×Int))(uu:af)(w_:Int)(fW:World)(IQ:Int→World→Prop)(e:(jN×Bool)→World→Prop):Prop:=if (decide (w_<(uu.len:Int)))=true then (ex (cM uu 5 w_) fun py=>ex (L gj py fW) fun kS=>bO 197 gj tD fW fun rP ep=>bd gj rP kS ep fun fM=>ex (L (B .i64) (rP.add 0) fM) fun hj=>if (hj != (2:Int))=true then (bd fN aY (⟨(0:Int),(0:Int),(0:Int),(0:Int),(0:Int),false⟩:jN) fM fun e5=>ex (L fN aY e5) fun oO=>e (oO,false) e5) else (IQ ((IntKind.i64.wrap (w_+(1:Int)))) fM)) else (ex (cM bj.1 5 (0:Int)) fun wb=>ex (L (B .u64) (wb.add 1) fW) fun kg=>M Pg 113 [.int .i64 ((IntKind.i64.wrap kg))] bk fW fun sk h7=>if (!sk)=true then (bd fN aY (⟨(0:Int),(0:Int),(0:Int),(0:Int),(0:Int),false⟩:jN) h7 fun iy=>ex (L fN aY iy) fun ky=>e (ky,false) iy) else (dl h7 fun jj=>ex (cM bj.1 5 (0:Int)) fun Bc=>ex (cM bj.1 5 (1:Int)) fun F3=>ex (cM bj.1 5 (2:Int)) fun xB=>ex (cM bj.1 5 (3:Int)) fun oY=>ex (cM bj.1 5 (4:Int)) fun uM=>ex (cM bj.1 5 (5:Int)) fun uN=>ex (L (B .u64) (Bc.add 1) jj) fun tm=>ex (L (B .i64) (F3.add 2) jj) fun tn=>ex (L (B .i64) (xB.add 2) jj) fun AI=>ex (L (B .i64) (oY.add 2) jj) fun rH=>ex (L (B .i64) (uM.add 2) jj) fun E2=>ex (L (B .u64) (uN.add 1) jj) fun oQ=>bd fN aY (⟨(IntKind.i64.wrap tm),tn,AI,rH,E2,(oQ==(1:Int))⟩:jN) jj fun p2=>ex (L fN aY p2) fun qM=>e (qM,true) p2))
def Mq(eP:af)(w:World)(e:(jN×Bool)→World→Prop):Prop:=bO 142 fN Dh w fun aY bm=>M Pg 93 [X.enc (eP)] (mm X (B .i64) (B .i64)) bm fun bj aV=>ex (fun x=>(!((bj.2.2 != (0:Int))||((bj.1.len:Int)!=(6:Int))))=true→(cM bj.1 5 (0:Int)) x) fun bY=>ex (fun x=>(!((bj.2.2 != (0:Int))||((bj.1.len:Int)!=(6:Int))))=true→(L (B .i64) (bY.add 0) aV) x) fun bQ=>ex (fun x=>(!(((bj.2.2 != (0:Int))||((bj.1.len:Int)!=(6:Int)))||(bQ != (1:Int))))=true→(cM bj.1 5 (5:Int)) x) fun cP=>ex (fun x=>(!(((bj.2.2 != (0:Int))||((bj.1.len:Int)!=(6:Int)))||(bQ != (1:Int))))=true→(L (B .i64) (cP.add 0) aV) x) fun cH=>ex (fun x=>(!((((bj.2.2 != (0:Int))||((bj.1.len:Int)!=(6:Int)))||(bQ != (1:Int)))||(cH != (1:Int))))=true→(cM bj.1 5 (0:Int)) x) fun eN=>ex (fun x=>(!((((bj.2.2 != (0:Int))||((bj.1.len:Int)!=(6:Int)))||(bQ != (1:Int)))||(cH != (1:Int))))=true→(L (B .u64) (eN.add 1) aV) x) fun cK=>ex (fun x=>(!(((((bj.2.2 != (0:Int))||((bj.1.len:Int)!=(6:Int)))||(bQ != (1:Int)))||(cH != (1:Int)))||(decide (cK>(6:Int)))))=true→(cM bj.1 5 (5:Int)) x) fun fO=>ex (fun x=>(!(((((bj.2.2 != (0:Int))||((bj.1.len:Int)!=(6:Int)))||(bQ != (1:Int)))||(cH != (1:Int)))||(decide (cK>(6:Int)))))=true→(L (B .u64) (fO.add 1) aV) x) fun dU=>if ((((((bj.2.2 != (0:Int))||((bj.1.len:Int)!=(6:Int)))||(bQ != (1:Int)))||(cH != (1:Int)))||(decide (cK>(6:Int))))||(decide (dU>(1:Int))))=true then (bd fN aY (⟨(0:Int),(0:Int),(0:Int),(0:Int),(0:Int),false⟩:jN) aV fun db=>ex (L fN aY db) fun fu=>e (fu,false) db) else (ex (Sub bj.1 5 (1:Int) (5:Int) ((bj.1).cap:Int)) fun uu=>e2 (fun (s:Int) w aa=>Mr aY bj uu s w aa e) ((0:Int)) aV)
theorem agB{eP:af}{w:World}{e:(jN×Bool)→World→Prop}(h:Mq eP w e):M Pg 141 [X.enc (eP)] (bw fN bk) w e:=by
 unfold Mq at h
 refine q3 98 Tryz.func141 rfl rfl (Nat.le_of_ble_eq_true rfl)<|wp_seq<|bz _ rfl<|o0 r_ wI h rfl fun aY bm h=>y rfl<|bh<|wp_seq<|bz _ rfl<|y rfl<|fv anl rfl rfl h fun bj aV h=>y rfl<|gW _ _ rfl rfl rfl ?_
 refine gW _ _ rfl rfl rfl<|gW _ _ rfl rfl rfl<|y rfl<|y rfl<|y rfl<|bh<|wp_seq<|wp_seq<|bz _ rfl<|y rfl<|a5 _ rfl rfl rfl (hg rfl rfl rfl)<|y rfl ?_
 refine b9 (g:=(!(bj.2.2 != (0:Int)))) (d:=(some 18)) rfl (.no 2 17 true (bj.2.2 != (0:Int)) rfl rfl rfl rfl) rfl (fun R=>c0 (v:=X.enc (bj.1)) rfl rfl)<|b9 (g:=(!(bj.2.2 != (0:Int)))) (d:=(some 19)) rfl (.no 2 17 true (bj.2.2 != (0:Int)) rfl rfl rfl rfl) rfl (fun R=>jZ (s:=bj.1) rfl Tryz.underlying190 (dg R))<|b9 (g:=(!(bj.2.2 != (0:Int)))) (d:=(some 20)) rfl (.no 2 17 true (bj.2.2 != (0:Int)) rfl rfl rfl rfl) rfl (fun R=>hg (k:=.i64) (a:=(bj.1.len:Int)) (l:=(6:Int)) rfl (dg R) rfl)<|a5 21 rfl rfl rfl (mG (a:=(bj.2.2 != (0:Int))) (c:=((bj.1.len:Int)!=(6:Int))) rfl rfl rfl rfl)<|y rfl<|b9 (g:=(!((bj.2.2 != (0:Int))||((bj.1.len:Int)!=(6:Int))))) (d:=(some 23)) rfl (.no 7 22 true ((bj.2.2 != (0:Int))||((bj.1.len:Int)!=(6:Int))) rfl rfl rfl rfl) rfl (fun R=>c0 (v:=X.enc (bj.1)) rfl rfl) ?_
 obtain⟨bY,Pa,h⟩:=h
 refine b9 (g:=(!((bj.2.2 != (0:Int))||((bj.1.len:Int)!=(6:Int))))) (d:=(some 24)) rfl (.no 7 22 true ((bj.2.2 != (0:Int))||((bj.1.len:Int)!=(6:Int))) rfl rfl rfl rfl) rfl (fun R=>kv (s:=bj.1) (k:=.i64) (i:=(0:Int)) rfl Tryz.underlying190 lT (dg R) rfl (Pa R))<|b9 (g:=(!((bj.2.2 != (0:Int))||((bj.1.len:Int)!=(6:Int))))) (d:=(some 25)) rfl (.no 7 22 true ((bj.2.2 != (0:Int))||((bj.1.len:Int)!=(6:Int))) rfl rfl rfl rfl) rfl (fun R=>lX (a:=bY) (off:=0) rfl Tryz.underlying197 rfl rfl wZ (by decide) (dg R)) ?_
 obtain⟨bQ,Qd,h⟩:=h
 refine b9 (g:=(!((bj.2.2 != (0:Int))||((bj.1.len:Int)!=(6:Int))))) (d:=(some 26)) rfl (.no 7 22 true ((bj.2.2 != (0:Int))||((bj.1.len:Int)!=(6:Int))) rfl rfl rfl rfl) rfl (fun R=>kb (T:=(B .i64)) (u:=bQ) (a:=(bY.add 0)) rfl wZ (dg R) (Qd R))<|b9 (g:=(!((bj.2.2 != (0:Int))||((bj.1.len:Int)!=(6:Int))))) (d:=(some 27)) rfl (.no 7 22 true ((bj.2.2 != (0:Int))||((bj.1.len:Int)!=(6:Int))) rfl rfl rfl rfl) rfl (fun R=>hg (k:=.i64) (a:=bQ) (l:=(1:Int)) rfl (dg R) rfl)<|a5 28 rfl rfl rfl (mG (a:=((bj.2.2 != (0:Int))||((bj.1.len:Int)!=(6:Int)))) (c:=(bQ != (1:Int))) rfl rfl rfl rfl)<|y rfl<|b9 (g:=(!(((bj.2.2 != (0:Int))||((bj.1.len:Int)!=(6:Int)))||(bQ != (1:Int))))) (d:=(some 30)) rfl (.no 14 29 true (((bj.2.2 != (0:Int))||((bj.1.len:Int)!=(6:Int)))||(bQ != (1:Int))) rfl rfl rfl rfl) rfl (fun R=>c0 (v:=X.enc (bj.1)) rfl rfl) ?_
 obtain⟨cP,Pd,h⟩:=h
 refine b9 (g:=(!(((bj.2.2 != (0:Int))||((bj.1.len:Int)!=(6:Int)))||(bQ != (1:Int))))) (d:=(some 31)) rfl (.no 14 29 true (((bj.2.2 != (0:Int))||((bj.1.len:Int)!=(6:Int)))||(bQ != (1:Int))) rfl rfl rfl rfl) rfl (fun R=>kv (s:=bj.1) (k:=.i64) (i:=(5:Int)) rfl Tryz.underlying190 lT (dg R) rfl (Pd R))<|b9 (g:=(!(((bj.2.2 != (0:Int))||((bj.1.len:Int)!=(6:Int)))||(bQ != (1:Int))))) (d:=(some 32)) rfl (.no 14 29 true (((bj.2.2 != (0:Int))||((bj.1.len:Int)!=(6:Int)))||(bQ != (1:Int))) rfl rfl rfl rfl) rfl (fun R=>lX (a:=cP) (off:=0) rfl Tryz.underlying197 rfl rfl wZ (by decide) (dg R)) ?_
 obtain⟨cH,Qf,h⟩:=h
 refine b9 (g:=(!(((bj.2.2 != (0:Int))||((bj.1.len:Int)!=(6:Int)))||(bQ != (1:Int))))) (d:=(some 33)) rfl (.no 14 29 true (((bj.2.2 != (0:Int))||((bj.1.len:Int)!=(6:Int)))||(bQ != (1:Int))) rfl rfl rfl rfl) rfl (fun R=>kb (T:=(B .i64)) (u:=cH) (a:=(cP.add 0)) rfl wZ (dg R) (Qf R))<|b9 (g:=(!(((bj.2.2 != (0:Int))||((bj.1.len:Int)!=(6:Int)))||(bQ != (1:Int))))) (d:=(some 34)) rfl (.no 14 29 true (((bj.2.2 != (0:Int))||((bj.1.len:Int)!=(6:Int)))||(bQ != (1:Int))) rfl rfl rfl rfl) rfl (fun R=>hg (k:=.i64) (a:=cH) (l:=(1:Int)) rfl (dg R) rfl)<|a5 35 rfl rfl rfl (mG (a:=(((bj.2.2 != (0:Int))||((bj.1.len:Int)!=(6:Int)))||(bQ != (1:Int)))) (c:=(cH != (1:Int))) rfl rfl rfl rfl)<|y rfl<|b9 (g:=(!((((bj.2.2 != (0:Int))||((bj.1.len:Int)!=(6:Int)))||(bQ != (1:Int)))||(cH != (1:Int))))) (d:=(some 37)) rfl (.no 21 36 true ((((bj.2.2 != (0:Int))||((bj.1.len:Int)!=(6:Int)))||(bQ != (1:Int)))||(cH != (1:Int))) rfl rfl rfl rfl) rfl (fun R=>c0 (v:=X.enc (bj.1)) rfl rfl) ?_
 obtain⟨eN,aoy,h⟩:=h
 refine b9 (g:=(!((((bj.2.2 != (0:Int))||((bj.1.len:Int)!=(6:Int)))||(bQ != (1:Int)))||(cH != (1:Int))))) (d:=(some 38)) rfl (.no 21 36 true ((((bj.2.2 != (0:Int))||((bj.1.len:Int)!=(6:Int)))||(bQ != (1:Int)))||(cH != (1:Int))) rfl rfl rfl rfl) rfl (fun R=>kv (s:=bj.1) (k:=.i64) (i:=(0:Int)) rfl Tryz.underlying190 lT (dg R) rfl (aoy R))<|b9 (g:=(!((((bj.2.2 != (0:Int))||((bj.1.len:Int)!=(6:Int)))||(bQ != (1:Int)))||(cH != (1:Int))))) (d:=(some 39)) rfl (.no 21 36 true ((((bj.2.2 != (0:Int))||((bj.1.len:Int)!=(6:Int)))||(bQ != (1:Int)))||(cH != (1:Int))) rfl rfl rfl rfl) rfl (fun R=>lX (a:=eN) (off:=1) rfl Tryz.underlying197 rfl rfl sa (by decide) (dg R)) ?_
 obtain⟨cK,BO,h⟩:=h
 refine b9 (g:=(!((((bj.2.2 != (0:Int))||((bj.1.len:Int)!=(6:Int)))||(bQ != (1:Int)))||(cH != (1:Int))))) (d:=(some 40)) rfl (.no 21 36 true ((((bj.2.2 != (0:Int))||((bj.1.len:Int)!=(6:Int)))||(bQ != (1:Int)))||(cH != (1:Int))) rfl rfl rfl rfl) rfl (fun R=>kb (T:=(B .u64)) (u:=cK) (a:=(eN.add 1)) rfl sa (dg R) (BO R))<|b9 (g:=(!((((bj.2.2 != (0:Int))||((bj.1.len:Int)!=(6:Int)))||(bQ != (1:Int)))||(cH != (1:Int))))) (d:=(some 41)) rfl (.no 21 36 true ((((bj.2.2 != (0:Int))||((bj.1.len:Int)!=(6:Int)))||(bQ != (1:Int)))||(cH != (1:Int))) rfl rfl rfl rfl) rfl (fun R=>vA (k:=.u64) (a:=cK) (l:=(6:Int)) rfl (dg R) rfl)<|a5 42 rfl rfl rfl (mG (a:=((((bj.2.2 != (0:Int))||((bj.1.len:Int)!=(6:Int)))||(bQ != (1:Int)))||(cH != (1:Int)))) (c:=(decide (cK>(6:Int)))) rfl rfl rfl rfl)<|y rfl<|b9 (g:=(!(((((bj.2.2 != (0:Int))||((bj.1.len:Int)!=(6:Int)))||(bQ != (1:Int)))||(cH != (1:Int)))||(decide (cK>(6:Int)))))) (d:=(some 44)) rfl (.no 28 43 true (((((bj.2.2 != (0:Int))||((bj.1.len:Int)!=(6:Int)))||(bQ != (1:Int)))||(cH != (1:Int)))||(decide (cK>(6:Int)))) rfl rfl rfl rfl) rfl (fun R=>c0 (v:=X.enc (bj.1)) rfl rfl) ?_
 obtain⟨fO,aoA,h⟩:=h
 refine b9 (g:=(!(((((bj.2.2 != (0:Int))||((bj.1.len:Int)!=(6:Int)))||(bQ != (1:Int)))||(cH != (1:Int)))||(decide (cK>(6:Int)))))) (d:=(some 45)) rfl (.no 28 43 true (((((bj.2.2 != (0:Int))||((bj.1.len:Int)!=(6:Int)))||(bQ != (1:Int)))||(cH != (1:Int)))||(decide (cK>(6:Int)))) rfl rfl rfl rfl) rfl (fun R=>kv (s:=bj.1) (k:=.i64) (i:=(5:Int)) rfl Tryz.underlying190 lT (dg R) rfl (aoA R))<|b9 (g:=(!(((((bj.2.2 != (0:Int))||((bj.1.len:Int)!=(6:Int)))||(bQ != (1:Int)))||(cH != (1:Int)))||(decide (cK>(6:Int)))))) (d:=(some 46)) rfl (.no 28 43 true (((((bj.2.2 != (0:Int))||((bj.1.len:Int)!=(6:Int)))||(bQ != (1:Int)))||(cH != (1:Int)))||(decide (cK>(6:Int)))) rfl rfl rfl rfl) rfl (fun R=>lX (a:=fO) (off:=1) rfl Tryz.underlying197 rfl rfl sa (by decide) (dg R)) ?_
 obtain⟨dU,P3,h⟩:=h
 refine b9 (g:=(!(((((bj.2.2 != (0:Int))||((bj.1.len:Int)!=(6:Int)))||(bQ != (1:Int)))||(cH != (1:Int)))||(decide (cK>(6:Int)))))) (d:=(some 47)) rfl (.no 28 43 true (((((bj.2.2 != (0:Int))||((bj.1.len:Int)!=(6:Int)))||(bQ != (1:Int)))||(cH != (1:Int)))||(decide (cK>(6:Int)))) rfl rfl rfl rfl) rfl (fun R=>kb (T:=(B .u64)) (u:=dU) (a:=(fO.add 1)) rfl sa (dg R) (P3 R))<|b9 (g:=(!(((((bj.2.2 != (0:Int))||((bj.1.len:Int)!=(6:Int)))||(bQ != (1:Int)))||(cH != (1:Int)))||(decide (cK>(6:Int)))))) (d:=(some 48)) rfl (.no 28 43 true (((((bj.2.2 != (0:Int))||((bj.1.len:Int)!=(6:Int)))||(bQ != (1:Int)))||(cH != (1:Int)))||(decide (cK>(6:Int)))) rfl rfl rfl rfl) rfl (fun R=>vA (k:=.u64) (a:=dU) (l:=(1:Int)) rfl (dg R) rfl)<|a5 49 rfl rfl rfl (mG (a:=(((((bj.2.2 != (0:Int))||((bj.1.len:Int)!=(6:Int)))||(bQ != (1:Int)))||(cH != (1:Int)))||(decide (cK>(6:Int))))) (c:=(decide (dU>(1:Int)))) rfl rfl rfl rfl)<|bh<|fE h rfl (fun _ h=>?_) fun _ h=>?_
 ·refine wp_seq<|bz _ rfl<|a5 50 rfl rfl rfl (HP  rfl)<|jS r_ h rfl rfl rfl fun db h=>y rfl<|bh<|wp_ret ?_
  obtain⟨fu,P4,h⟩:=h
  exact n8 rfl (.cons (.cell (T:=fN) (u:=fu) (a:=aY) r_ rfl P4) (.cons (.tmp (v:=.bool (false)) rfl) .nil)) ⟨(fu,false),rfl,h⟩
 ·refine wp_skip<|wp_seq<|wp_seq<|bz _ rfl<|y rfl ?_
  obtain⟨uu,PP,h⟩:=h
  refine a5 52 rfl rfl rfl (Lg (s:=bj.1) (m:=(1:Int)) (h:=(5:Int)) rfl Tryz.underlying190 lT rfl rfl rfl PP)<|a5 _ rfl rfl rfl (jZ rfl Tryz.underlying190 rfl)<|y rfl<|bh<|wp_block<|s7 (bx:=Int) (dw:=fun g (s:Int)=>ae (ae (ae (ae (ae (g) 2 (.pointer (some aY))) 4 (X.enc (bj.1))) 52 (X.enc (uu))) 53 (.int .i64 ((uu.len:Int)))) 54 (.int .i64 (s))) (ml:=((0:Int))) (aQ (aQ (aQ (aQ (aQ rfl rfl) rfl) rfl) rfl) rfl) h ?_
  rintro w_ g fW IQ h
  unfold Mr at h
  refine wp_seq<|bz _ rfl<|a5 _ rfl rfl rfl (me rfl rfl rfl)<|bh<|wp_seq<|fE h rfl (fun _ h=>?_) fun _ h=>?_
  ·refine wp_skip<|wp_seq<|wp_block<|wp_seq<|bz _ rfl ?_
   obtain⟨py,aoE,h⟩:=h
   refine a5 56 rfl rfl rfl (kv (s:=uu) (k:=.i64) (i:=w_) rfl Tryz.underlying190 lT rfl rfl aoE)<|hV lT h rfl rfl fun kS _ h=>o0 lT wJ h rfl fun rP ep h=>jS lT h rfl rfl rfl fun fM h=>bh<|wp_seq<|bz _ rfl<|hs _ _ _ Tryz.underlying197 wZ rfl rfl rfl<|hV wZ h rfl rfl fun hj _ h=>a5 _ rfl rfl rfl (hg rfl rfl rfl)<|bh<|fE h rfl (fun _ h=>?_) fun _ h=>?_
   ·refine wp_seq<|bz _ rfl<|a5 61 rfl rfl rfl (HP  rfl)<|jS r_ h rfl rfl rfl fun e5 h=>y rfl<|bh<|wp_ret ?_
    obtain⟨oO,arI,h⟩:=h
    exact n8 rfl (.cons (.cell (T:=fN) (u:=oO) (a:=aY) r_ rfl arI) (.cons (.tmp (v:=.bool (false)) rfl) .nil)) ⟨(oO,false),rfl,h⟩
   ·refine wp_skip<|bz _ rfl<|a5 _ rfl rfl rfl (pg rfl rfl rfl)<|y rfl<|bh ?_
    exact⟨((IntKind.i64.wrap (w_+(1:Int)))),_,arr (aQ (aQ (aQ (aQ (aQ rfl rfl) rfl) rfl) rfl) rfl),h⟩
  ·refine wp_exit<|wp_seq<|wp_seq<|bz _ rfl<|y rfl ?_
   obtain⟨wb,aoH,h⟩:=h
   refine a5 64 rfl rfl rfl (kv (s:=bj.1) (k:=.i64) (i:=(0:Int)) rfl Tryz.underlying190 lT rfl rfl aoH)<|hs _ _ _ Tryz.underlying197 sa rfl rfl rfl<|hV sa h rfl rfl fun kg _ h=>a5 67 rfl rfl rfl (uk (a:=kg) rfl Tryz.underlying195 Tryz.underlying3 rfl)<|fv amC rfl rfl h fun sk h7 h=>a5 _ rfl rfl rfl (rz rfl rfl)<|bh<|fE h rfl (fun _ h=>?_) fun _ h=>?_
   ·refine wp_seq<|bz _ rfl<|a5 70 rfl rfl rfl (HP  rfl)<|jS r_ h rfl rfl rfl fun iy h=>y rfl<|bh<|wp_ret ?_
    obtain⟨ky,Hb,h⟩:=h
    exact n8 rfl (.cons (.cell (T:=fN) (u:=ky) (a:=aY) r_ rfl Hb) (.cons (.tmp (v:=.bool (false)) rfl) .nil)) ⟨(ky,false),rfl,h⟩
   ·refine wp_skip<|wp_seq ?_
    obtain⟨jj,arm,h⟩:=ov h
    refine pq 29 mixed rfl (by kernel_rfl) (by intro c a d v w h; cases d<;>exact h) arm (fun ak=>?_)
    refine gi 0 71 (X.enc (bj.1)) ak rfl rfl ?_
    obtain⟨Bc,aoJ,h⟩:=h
    refine fg 1 72 ak rfl rfl rfl (fun _=>kv (s:=bj.1) (k:=.i64) (i:=(0:Int)) rfl Tryz.underlying190 lT rfl rfl aoJ)<|hr 2 73 Bc 1 Tryz.underlying197 sa ak rfl rfl rfl<|gi 5 76 (X.enc (bj.1)) ak rfl rfl ?_
    obtain⟨F3,aoK,h⟩:=h
    refine fg 6 77 ak rfl rfl rfl (fun _=>kv (s:=bj.1) (k:=.i64) (i:=(1:Int)) rfl Tryz.underlying190 lT rfl rfl aoK)<|hr 7 78 F3 2 Tryz.underlying197 c4 ak rfl rfl rfl<|gi 9 80 (X.enc (bj.1)) ak rfl rfl ?_
    obtain⟨xB,GF,h⟩:=h
    refine fg 10 81 ak rfl rfl rfl (fun _=>kv (s:=bj.1) (k:=.i64) (i:=(2:Int)) rfl Tryz.underlying190 lT rfl rfl GF)<|hr 11 82 xB 2 Tryz.underlying197 c4 ak rfl rfl rfl<|gi 13 84 (X.enc (bj.1)) ak rfl rfl ?_
    obtain⟨oY,O8,h⟩:=h
    refine fg 14 85 ak rfl rfl rfl (fun _=>kv (s:=bj.1) (k:=.i64) (i:=(3:Int)) rfl Tryz.underlying190 lT rfl rfl O8)<|hr 15 86 oY 2 Tryz.underlying197 c4 ak rfl rfl rfl<|gi 17 88 (X.enc (bj.1)) ak rfl rfl ?_
    obtain⟨uM,O9,h⟩:=h
    refine fg 18 89 ak rfl rfl rfl (fun _=>kv (s:=bj.1) (k:=.i64) (i:=(4:Int)) rfl Tryz.underlying190 lT rfl rfl O9)<|hr 19 90 uM 2 Tryz.underlying197 c4 ak rfl rfl rfl<|gi 21 92 (X.enc (bj.1)) ak rfl rfl ?_
    obtain⟨uN,aoL,h⟩:=h
    refine fg 22 93 ak rfl rfl rfl (fun _=>kv (s:=bj.1) (k:=.i64) (i:=(5:Int)) rfl Tryz.underlying190 lT rfl rfl aoL)<|hr 23 94 uN 1 Tryz.underlying197 sa ak rfl rfl rfl ?_
    obtain⟨tm,arN,h⟩:=h
    refine ia 3 74 arN sa ak rfl rfl<|fg 4 75 ak rfl rfl rfl (fun _=>uk (a:=tm) rfl Tryz.underlying195 Tryz.underlying3 rfl) ?_
    obtain⟨tn,arO,h⟩:=h
    refine ia 8 79 arO c4 ak rfl rfl ?_
    obtain⟨AI,arP,h⟩:=h
    refine ia 12 83 arP c4 ak rfl rfl ?_
    obtain⟨rH,Qa,h⟩:=h
    refine ia 16 87 Qa c4 ak rfl rfl ?_
    obtain⟨E2,arQ,h⟩:=h
    refine ia 20 91 arQ c4 ak rfl rfl ?_
    obtain⟨oQ,Qb,h⟩:=h
    refine ia 24 95 Qb sa ak rfl rfl<|fg 25 96 ak rfl rfl rfl (fun _=>iL (a:=oQ) (l:=(1:Int)) rfl rfl rfl)<|fg 26 97 ak rfl rfl rfl (fun _=>RE (bc:=(IntKind.i64.wrap tm)) (bU:=tn) (d_:=AI) (fV:=rH) (l0:=E2) (vQ:=(oQ==(1:Int))) rfl rfl rfl rfl rfl rfl rfl)<|fo (i:=27) (by kernel_rfl) ?_
    obtain⟨p2,aru,aqR,h⟩:=sr h
    refine ui (d:=none) rfl (.free rfl) rfl (si (T:=fN) (u:=(⟨(IntKind.i64.wrap tm),tn,AI,rH,E2,(oQ==(1:Int))⟩:jN)) (a:=aY) rfl r_ rfl rfl aqR aru) ⟨(hl (by kernel_rfl) (hl (by kernel_rfl) (hl (by kernel_rfl) (hl (by kernel_rfl) (hl (by kernel_rfl) (hl (by kernel_rfl) iv)))))),?_⟩
    refine E3 28 3 (.bool (true)) ak rfl rfl<|kL (by kernel_rfl)<|wp_ret ?_
    obtain⟨qM,Hc,h⟩:=h
    exact n8 rfl (.cons (.cell (T:=fN) (u:=qM) (a:=aY) r_ rfl Hc) (.cons (.tmp (v:=.bool (true)) rfl) .nil)) ⟨(qM,true),rfl,h⟩
def T7(dd:aM)(bW:Int)(w:World)(e:(af×Int)→World→Prop):Prop:=M Pg 183 [.pointer (dd),.int .i64 (bW)] bk w fun bp bm=>if (!bp)=true then (e ((⟨none,0,0⟩:af),(70:Int)) bm) else (ex (bK dd) fun b1=>ex (L bk (b1.add 2) bm) fun cJ=>if cJ=true then (e ((⟨none,0,0⟩:af),(71:Int)) bm) else (ex (L X (b1.add 0) bm) fun bQ=>ex (cM bQ 2 bW) fun cP=>ex (L X (cP.add 0) bm) fun cH=>yI 5 (B .u8) 1 (0:Int) (cH.len:Int) (cH.len:Int) bm fun hh cn=>ex (L X (b1.add 0) cn) fun e7=>ex (cM e7 2 bW) fun eO=>ex (L X (eO.add 0) cn) fun eA=>Dy (B .u8) 1 hh eA cn fun mg dP=>e (hh,(0:Int)) dP))
theorem agC{dd bW w e}(h:T7 dd bW w e):M Pg 142 [.pointer dd,.int .i64 bW] (bw X (B .i64)) w e:=
 bq 38 Tryz.func142 rfl rfl br
def Ms(eP:af)(cZ:af)(N5:Int)(aV:World)(gB:af×Int→World→Prop)(e:(af×Int)→World→Prop):Prop:=ex (Sub eP 1 N5 ((eP).len:Int) ((eP).cap:Int)) fun w7=>M Pg 184 [X.enc (w7)] (mm X (B .i64) (B .i64)) aV fun a3 bV=>if (a3.2.2 != (0:Int))=true then (e (cZ,N5) bV) else (l6 189 X 1 24 cZ [a3.1] bV fun bo cN=>gB (bo,(IntKind.i64.wrap (N5+a3.2.1))) cN)
def T8(eP:af)(w:World)(e:(af×Int)→World→Prop):Prop:=e2 (fun (s:af×Int) w aa=>Ms eP s.1 s.2 w aa e) ((⟨none,0,0⟩:af),(0:Int)) w
theorem agD{eP w e}(h:T8 eP w e):M Pg 143 [X.enc eP] (bw X (B .i64)) w e:=by
 have iU:=hf (bx:=af×Int) 4 (fun s w aa=>Ms eP s.1 s.2 w aa e) (fun g s=>ae (ae (ae g 0 (X.enc eP)) 4 (X.enc (s.1))) 5 (.int .i64 (s.2)))
 exact bq 28 Tryz.func143 rfl rfl br
def T9(dd:aM)(bW:Int)(tH:af)(w:World)(e:Int→World→Prop):Prop:=bO 189 X tH w fun a6 a_=>ex (L X a6 a_) fun cJ=>M Pg 177 [.pointer (dd),.int .i64 (bW),.int .i64 ((cJ.len:Int)),((cm.mk (.func 185) (List.toArray []) (List.toArray [.pointer (some a6)]))).enc] (B .i64) a_ fun a3 bV=>e a3 bV
theorem agE{dd bW tH w e}(h:T9 dd bW tH w e):M Pg 144 [.pointer dd,.int .i64 bW,X.enc tH] (B .i64) w e:=
 bq 13 Tryz.func144 rfl rfl br
def T_(dd:aM)(bW:Int)(w:World)(e:Int→World→Prop):Prop:=M Pg 183 [.pointer (dd),.int .i64 (bW)] bk w fun bp bm=>if (!bp)=true then (e (0:Int) bm) else (ex (bK dd) fun b1=>ex (L X (b1.add 0) bm) fun cJ=>ex (cM cJ 2 bW) fun cg=>ex (L (B .i64) (cg.add 1) bm) fun cT=>e cT bm)
theorem agF{dd bW w e}(h:T_ dd bW w e):M Pg 145 [.pointer dd,.int .i64 bW] (B .i64) w e:=
 bq 17 Tryz.func145 rfl rfl br
def ID(fC:Addr)(bB:Addr)(b0:Addr)(e3:Addr)(yZ:er)(w:World)(e:World→Prop):Prop:=if (!(er.isNil yZ))=true then (ex (Tr 259 jO F2 yZ) fun K5=>bO 259 jO F2 w fun bY bV=>bd jO bY K5.1 bV fun bH=>if (!K5.2)=true then (False) else (dl bH fun b3=>ex (L (B .i64) fC b3) fun dM=>ex (L (B .i64) (bY.add 0) b3) fun cK=>bd X bB (⟨none,0,0⟩:af) b3 fun cA=>bE ((L (B .i64) (bY.add 0) cA) cK)<|bd (B .i64) b0 dM cA fun db=>bE ((L (B .i64) (bY.add 0) db) cK)<|bd (B .i64) e3 cK db fun dQ=>e dQ)) else (e w)
theorem Ua{fC:Addr}{bB:Addr}{b0:Addr}{e3:Addr}{yZ:er}{u pn:FrameMode}{w:World}{e:World→Prop}(J2:IX u yZ pn)(h:ID fC bB b0 e3 yZ w e):CallsD Pg 146 (List.toArray [.pointer (some fC),.pointer (some bB),.pointer (some b0),.pointer (some e3)]) u w fun j tk J=>(∃ v,j=.returned v)∧tk=pn∧e J:=by
 unfold ID at h
 refine akS 21 Tryz.func146 rfl rfl (Nat.le_of_ble_eq_true rfl) fun ou ba hu=>wpS_seq<|aIN [0,1] rfl<|aGt (v:=yZ) (d:=(some 7)) rfl rfl rfl rfl hu J2<|aGu (d:=(some 4)) rfl rfl rfl (Ci (v:=(yZ).enc) rfl rfl)<|aGs (wpS_of_wp ?_)
 refine wp_seq<|bz _ rfl<|y rfl<|a5 9 rfl rfl rfl (RV (v:=yZ) rfl Tryz.underlying20 rfl)<|bh<|fE h rfl (fun _ h=>?_) fun _ h=>?_
 ·refine wp_seq<|bz _ rfl<|y rfl ?_
  obtain⟨K5,aqz,h⟩:=h
  refine a5 12 rfl rfl rfl (Rz (T:=jO) (z:=F2) (v:=yZ) (p:=K5) rfl ⟨_,Tryz.underlying259,rfl⟩ Hh rfl aqz)<|y rfl<|gW _ _ rfl rfl rfl<|gW _ _ rfl rfl rfl<|o0 Rc Hh h rfl fun bY bV h=>jS Rc h rfl rfl rfl fun bH h=>y rfl<|bh<|wp_seq<|wp_seq<|bz _ rfl<|y rfl ?_
  refine a5 _ rfl rfl rfl (rz rfl rfl)<|bh<|fE h rfl (fun _ h=>?_) fun _ h=>?_
  ·refine bz _ rfl<|y rfl ?_
   exact h.elim
  ·refine wp_skip ?_
   obtain⟨b3,P1,h⟩:=ov h
   refine pq 6 mixed rfl (by kernel_rfl) (by intro c a d v w h; cases d<;>exact h) P1 (fun ak=>?_)
   refine hr 1 19 bY 0 Tryz.underlying259 w0 ak rfl rfl rfl ?_
   obtain⟨dM,P2,h⟩:=h
   refine ia 0 18 P2 ds ak rfl rfl ?_
   obtain⟨cK,BO,h⟩:=h
   refine ia 2 20 BO w0 ak rfl rfl<|fo (i:=3) (by kernel_rfl) ?_
   obtain⟨cA,aq9,aqJ,h⟩:=sr h
   obtain⟨apI,h⟩:=h
   refine ui (d:=none) rfl (.free rfl) rfl (si (T:=X) (u:=(⟨none,0,0⟩:af)) (a:=bB) rfl vs rfl rfl aqJ aq9) ⟨(fL (fun _=>apI) (hl (by kernel_rfl) iv)),?_⟩
   refine fo (i:=4) (by kernel_rfl) ?_
   obtain⟨db,PX,aqK,h⟩:=sr h
   obtain⟨apU,h⟩:=h
   refine ui (d:=none) rfl (.free rfl) rfl (si (T:=(B .i64)) (u:=dM) (a:=b0) rfl ds rfl rfl aqK PX) ⟨(fL (fun _=>apU) (hl (by kernel_rfl) iv)),?_⟩
   refine fo (i:=5) (by kernel_rfl) ?_
   obtain⟨dQ,PY,aqL,h⟩:=sr h
   refine ui (d:=none) rfl (.free rfl) rfl (si (T:=(B .i64)) (u:=cK) (a:=e3) rfl w0 rfl rfl aqL PY) ⟨(hl (by kernel_rfl) (hl (by kernel_rfl) iv)),?_⟩
   refine kL (by kernel_rfl) ?_
   exact Yv rfl h
 ·refine wp_skip ?_
  exact Yv rfl h
def zi(aY:Addr)(bY:Addr)(b3:World)(e:mT→World→Prop)(et:er→World→Prop):Prop:=ex (L gj bY b3) fun dM=>bd gj aY dM b3 fun cN=>ex (L gj aY cN) fun e7=>e e7 cN
def Mt(ft:aM)(w:World)(e:mT→World→Prop)(et:er→World→Prop):Prop:=bO 197 gj tD w fun aY bm=>nS Pg 186 [.pointer (ft)] (B .u8) bm et fun bj aV=>bO 197 gj tD aV fun bY bV=>bd gj bY (⟨(IntKind.i64.wrap bj),(0:Int),(0:Int),(0:Nat),([]:List UInt8)⟩:mT) bV fun bH=>ex (L (B .i64) (bY.add 0) bH) fun dU=>if (dU==(1:Int))=true then (nS Pg 187 [.pointer (ft)] (B .u64) bH et fun fU db=>bd (B .u64) (bY.add 1) fU db fun dQ=>zi aY bY dQ e et) else (if (dU==(2:Int))=true then (nS Pg 187 [.pointer (ft)] (B .u64) bH et fun gy c2=>ex (iP (1:Int) (Int.fdiv gy (2^(min ((1:Int)).toNat IntKind.u64.bits)))) fun d19=>bd (B .i64) (bY.add 2) (bits .xor .i64 (IntKind.i64.wrap d19) (IntKind.i64.wrap (0-(IntKind.i64.wrap (bits .and .u64 gy (1:Int)))))) c2 fun eE=>zi aY bY eE e et) else (if (dU==(3:Int))=true then (nS Pg 188 [.pointer (ft)] gP bH et fun cC ew=>bd gP (bY.add 3) cC ew fun ep=>zi aY bY ep e et) else (if (dU==(4:Int))=true then (nS Pg 189 [.pointer (ft)] qF bH et fun gO fM=>bd qF (bY.add 4) gO fM fun e5=>zi aY bY e5 e et) else (et (er.mk 259 (jO.enc ((⟨(21:Int)⟩:j3)))) bH))))
theorem agG{ft:aM}{w:World}{e:mT→World→Prop}{et:er→World→Prop}(h:Mt ft w e et):nS Pg 147 [.pointer (ft)] gj w et e:=by
 unfold Mt at h
 refine q3 42 Tryz.func147 rfl rfl (Nat.le_of_ble_eq_true rfl)<|wp_seq<|bz _ rfl<|o0 lT wJ h rfl fun aY bm h=>bh<|wp_seq<|bz _ rfl<|y rfl<|ev rfl (.free rfl) (zd (d:=(some 6)) rfl (fT (k:=186) (m:=[.pointer (ft)]) rfl OB rfl) h ?_ ?_)
 ·exact fun _ _ h=>se (P:=Pg) (fn:=Tryz.f147) h
 intro bj aV h
 refine a5 7 rfl rfl rfl (uk (a:=bj) rfl Tryz.underlying5 Tryz.underlying194 rfl)<|a5 8 rfl rfl rfl (RG (bc:=(IntKind.i64.wrap bj)) rfl rfl)<|o0 lT wJ h rfl fun bY bV h=>jS lT h rfl rfl rfl fun bH h=>bh<|Ar (bx:=Unit) (eZ:=fun (s:Unit) w=>zi aY bY w e et) (dw:=fun g (s:Unit)=>ae (ae (g) 2 (.pointer (some aY))) 3 (.pointer (some bY))) ?_ ?_
 ·rintro⟨⟩ g b3 h
  unfold zi at h
  refine wp_seq<|bz _ rfl<|hV lT h rfl rfl fun dM _ h=>jS lT h rfl rfl rfl fun cN h=>bh<|wp_ret ?_
  obtain⟨e7,yp,h⟩:=h
  exact n8 rfl (.cons (.cell (T:=gj) (u:=e7) (a:=aY) lT rfl yp) .nil) ⟨e7,rfl,h⟩
 ·refine wp_seq<|bz _ rfl<|hs _ _ _ Tryz.underlying197 wZ rfl rfl rfl<|hV wZ h rfl rfl fun dU _ h=>bh<|wp_block<|wp_seq<|bz _ rfl<|a5 _ rfl rfl rfl (iL rfl rfl rfl)<|y rfl<|bh<|fE h rfl (fun _ h=>?_) fun _ h=>?_
  ·refine bz _ rfl<|y rfl<|ev rfl (.free rfl) (zd (d:=(some 16)) rfl (fT (k:=187) (m:=[.pointer (ft)]) rfl OC rfl) h ?_ ?_)
   ·exact fun _ _ h=>se (P:=Pg) (fn:=Tryz.f147) h
   intro fU db h
   refine hs _ _ _ Tryz.underlying197 sa rfl rfl rfl<|jS sa h rfl rfl rfl fun dQ h=>bh ?_
   exact⟨(),_,arr (aQ (aQ rfl rfl) rfl),h⟩
  ·refine wp_seq<|bz _ rfl<|a5 _ rfl rfl rfl (iL rfl rfl rfl)<|y rfl<|bh<|fE h rfl (fun _ h=>?_) fun _ h=>?_
   ·refine wp_seq<|bz _ rfl<|y rfl<|ev rfl (.free rfl) (zd (d:=(some 21)) rfl (fT (k:=187) (m:=[.pointer (ft)]) rfl OC rfl) h ?_ ?_)
    ·exact fun _ _ h=>se (P:=Pg) (fn:=Tryz.f147) h
    intro gy c2 h
    refine y rfl<|bh<|bz _ rfl<|y rfl ?_
    obtain⟨d19,ao7,h⟩:=h
    refine a5 23 rfl rfl rfl (R0 (a:=gy) (l:=(1:Int)) (r:=d19) rfl rfl rfl ao7)<|a5 24 rfl rfl rfl (uk (a:=d19) rfl Tryz.underlying195 Tryz.underlying2 rfl)<|y rfl<|a5 26 rfl rfl rfl (K_ (a:=gy) (l:=(1:Int)) rfl rfl rfl)<|a5 27 rfl rfl rfl (uk (a:=(bits .and .u64 gy (1:Int))) rfl Tryz.underlying195 Tryz.underlying2 rfl)<|a5 28 rfl rfl rfl (RW (a:=(IntKind.i64.wrap (bits .and .u64 gy (1:Int)))) rfl rfl)<|a5 29 rfl rfl rfl (R3 (a:=(IntKind.i64.wrap d19)) (l:=(IntKind.i64.wrap (0-(IntKind.i64.wrap (bits .and .u64 gy (1:Int)))))) rfl rfl rfl)<|hs _ _ _ Tryz.underlying197 c4 rfl rfl rfl<|jS c4 h rfl rfl rfl fun eE h=>bh ?_
    exact⟨(),_,arr (aQ (aQ rfl rfl) rfl),h⟩
   ·refine wp_seq<|bz _ rfl<|a5 _ rfl rfl rfl (iL rfl rfl rfl)<|y rfl<|bh<|fE h rfl (fun _ h=>?_) fun _ h=>?_
    ·refine bz _ rfl<|y rfl<|ev rfl (.free rfl) (zd (d:=(some 34)) rfl (fT (k:=188) (m:=[.pointer (ft)]) rfl amO rfl) h ?_ ?_)
     ·exact fun _ _ h=>se (P:=Pg) (fn:=Tryz.f147) h
     intro cC ew h
     refine hs _ _ _ Tryz.underlying197 qm rfl rfl rfl<|jS qm h rfl rfl rfl fun ep h=>bh ?_
     exact⟨(),_,arr (aQ (aQ rfl rfl) rfl),h⟩
    ·refine wp_seq<|bz _ rfl<|a5 _ rfl rfl rfl (iL rfl rfl rfl)<|y rfl<|bh<|fE h rfl (fun _ h=>?_) fun _ h=>?_
     ·refine bz _ rfl<|y rfl<|ev rfl (.free rfl) (zd (d:=(some 39)) rfl (fT (k:=189) (m:=[.pointer (ft)]) rfl amP rfl) h ?_ ?_)
      ·exact fun _ _ h=>se (P:=Pg) (fn:=Tryz.f147) h
      intro gO fM h
      refine hs _ _ _ Tryz.underlying197 KW rfl rfl rfl<|jS KW h rfl rfl rfl fun e5 h=>bh ?_
      exact⟨(),_,arr (aQ (aQ rfl rfl) rfl),h⟩
     ·refine bz _ rfl<|a5 11 rfl rfl rfl (yV (bc:=(21:Int)) rfl rfl)<|a5 12 rfl rfl rfl (yW (v:=jO.enc ((⟨(21:Int)⟩:j3))) rfl Tryz.underlying259 rfl rfl)<|ev rfl (.free rfl) (CH (v:=(er.mk 259 (jO.enc ((⟨(21:Int)⟩:j3))))) rfl rfl ⟨_,_,rfl⟩ ?_)
      exact se (P:=Pg) (fn:=Tryz.f147) h
end bf
end Go.Proofs.YthaobmpdjcoheaaGreat
