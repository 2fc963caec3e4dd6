/- Own texts of this claim, part 8: short, merged. -/
import Derived.Test.YthaobmpdjcoheaaGreatZ1
set_option maxRecDepth 100000
set_option maxHeartbeats 40000000
set_option linter.defProp false
set_option linter.unusedVariables false
set_option linter.unusedSimpArgs false
namespace Go.Proofs.YthaobmpdjcoheaaGreat
namespace bb
def Ue(dk:aL)(w:World)(j:Int→World→Prop):Prop:=ex (bC dk) fun aX=>ex (L (B .i64) (aX.add 12) w) fun dW=>if (dW==(2:Int))=true then (j (176:Int) w) else (ba (B .i64) (aX.add 12) (3:Int) w fun aU=>j (0:Int) aU)
theorem agK{dk w j}(h:Ue dk w j):M Pg 148 [.pointer dk] (B .i64) w j:=
 bj 11 Tryz.func148 rfl rfl bk
def Uf(dk:aL)(bt:Int)(w:World)(j:Int→World→Prop):Prop:=M Pg 179 [.int .i64 (bt)] bf w fun cA bh=>if (!cA)=true then (j (174:Int) bh) else (ex (bC dk) fun bS=>ex (L (B .i64) (bS.add 12) bh) fun cB=>ex (fun x=>(!(cB==(3:Int)))=true→(bC dk) x) fun b7=>ex (fun x=>(!(cB==(3:Int)))=true→(L (B .i64) (b7.add 12) bh) x) fun cM=>ex (fun x=>((!(cB==(3:Int)))&&(cM==(2:Int)))=true→(bC dk) x) fun dy=>ex (fun x=>((!(cB==(3:Int)))&&(cM==(2:Int)))=true→(L (B .i64) (dy.add 13) bh) x) fun dG=>if ((cB==(3:Int))||((cM==(2:Int))&&(dG != bt)))=true then (j (176:Int) bh) else (ex (L (B .i64) (bS.add 12) bh) fun c2=>if (c2==(2:Int))=true then (j (0:Int) bh) else (M Pg 180 [.pointer (dk)] bf bh fun et cl=>if (!et)=true then (j (177:Int) cl) else (ex (oh (bS.add 4) 2 3 (0:Int)) fun hM=>ex (L (B .i64) (hM.add 2) cl) fun fs=>ex (fun x=>(!(decide (bt<fs)))=true→(bC dk) x) fun jw=>ex (fun x=>(!(decide (bt<fs)))=true→(oh (jw.add 4) 2 3 (1:Int)) x) fun k_=>ex (fun x=>(!(decide (bt<fs)))=true→(L (B .i64) (k_.add 2) cl) x) fun dL=>if ((decide (bt<fs))||(decide (bt<dL)))=true then (j (178:Int) cl) else (ba (B .i64) (bS.add 12) (2:Int) cl fun ed=>ba (B .i64) (bS.add 13) bt ed fun ez=>j (0:Int) ez)))))
theorem agL{dk bt w j}(h:Uf dk bt w j):M Pg 149 [.pointer dk,.int .i64 bt] (B .i64) w j:=
 bj 66 Tryz.func149 rfl rfl bk
def Uh(eR:Nat)(w:World)(j:(Nat×Int)→World→Prop):Prop:=M Pg 191 [.float .f64 (eR)] (bo gK (B .i64)) w fun ga cm=>j (ga.1,ga.2) cm
theorem agN{eR w j}(h:Uh eR w j):M Pg 150 [.float .f64 eR] (bo gK (B .i64)) w j:=
 bj 12 Tryz.func150 rfl rfl bk
def Ui(ov:Nat)(o2:Int)(w:World)(j:Nat→World→Prop):Prop:=M Pg 193 [.float .f64 (ov),.int .i64 (o2)] gK w fun cA bh=>j cA bh
theorem agO{ov o2 w j}(h:Ui ov o2 w j):M Pg 151 [.float .f64 ov,.int .i64 o2] gK w j:=
 bj 11 Tryz.func151 rfl rfl bk
def Uj(h6:Int)(AM:Int)(w:World)(j:(Int×Int)→World→Prop):Prop:=ex (iL (32:Int) (Int.fdiv h6 (2^(min ((32:Int)).toNat IntKind.u64.bits)))) fun d3=>ex (iL (32:Int) (Int.fdiv AM (2^(min ((32:Int)).toNat IntKind.u64.bits)))) fun d4=>ex (iL (32:Int) (Int.fdiv (IntKind.u64.wrap ((bits .and .u64 h6 (4294967295:Int))*(bits .and .u64 AM (4294967295:Int)))) (2^(min ((32:Int)).toNat IntKind.u64.bits)))) fun d5=>ex (iL (32:Int) (Int.fdiv (IntKind.u64.wrap ((IntKind.u64.wrap (d3*(bits .and .u64 AM (4294967295:Int))))+d5)) (2^(min ((32:Int)).toNat IntKind.u64.bits)))) fun d6=>ex (iL (32:Int) (Int.fdiv (IntKind.u64.wrap ((bits .and .u64 (IntKind.u64.wrap ((IntKind.u64.wrap (d3*(bits .and .u64 AM (4294967295:Int))))+d5)) (4294967295:Int))+(IntKind.u64.wrap ((bits .and .u64 h6 (4294967295:Int))*d4)))) (2^(min ((32:Int)).toNat IntKind.u64.bits)))) fun d7=>j ((IntKind.u64.wrap ((IntKind.u64.wrap ((IntKind.u64.wrap (d3*d4))+d6))+d7)),(IntKind.u64.wrap (h6*AM))) w
theorem agP{h6 AM w j}(h:Uj h6 AM w j):M Pg 152 [.int .u64 h6,.int .u64 AM] (bo (B .u64) (B .u64)) w j:=
 bj 51 Tryz.func152 rfl rfl bk
def My(bd:Int)(w:World)(j:Int→World→Prop):Prop:=if (decide (bd<(0:Int)))=true then (j (IntKind.u64.wrap (0-(IntKind.u64.wrap bd))) w) else (j (IntKind.u64.wrap bd) w)
theorem Uk{bd w j}(h:My bd w j):M Pg 153 [.int .i64 bd] (B .u64) w j:=
 bj 10 Tryz.func153 rfl rfl bk
def Mz(HA:Bool)(bO:Int)(w:World)(j:(Int×Int)→World→Prop):Prop:=if (HA&&(decide (bO≤(9223372036854775808:Int))))=true then (j ((IntKind.i64.wrap (0-(IntKind.i64.wrap bO))),(0:Int)) w) else (if ((!HA)&&(decide (bO<(9223372036854775808:Int))))=true then (j ((IntKind.i64.wrap bO),(0:Int)) w) else (j ((0:Int),(11:Int)) w))
theorem Ul{HA bO w j}(h:Mz HA bO w j):M Pg 155 [.bool HA,.int .u64 bO] (bo (B .i64) (B .i64)) w j:=
 bj 24 Tryz.func155 rfl rfl bk
def MA(zR:Int)(BY:Int)(jy:Int)(w:World)(j:(Int×Bool×Bool)→World→Prop):Prop:=if (decide (jy≥(128:Int)))=true then (j ((0:Int),true,true) w) else (if (decide (jy>(64:Int)))=true then (ex (iL (IntKind.u64.wrap (jy-(64:Int))) (Int.fdiv zR (2^(min ((IntKind.u64.wrap (jy-(64:Int)))).toNat IntKind.u64.bits)))) fun d4=>ex (iL (IntKind.u64.wrap ((128:Int)-jy)) (IntKind.u64.wrap (zR*2^(min ((IntKind.u64.wrap ((128:Int)-jy))).toNat IntKind.u64.bits)))) fun d5=>j (d4,((d5 != (0:Int))||(BY != (0:Int))),true) w) else (if (jy==(64:Int))=true then (j (zR,(BY != (0:Int)),true) w) else (ex (iL jy (Int.fdiv BY (2^(min (jy).toNat IntKind.u64.bits)))) fun d6=>ex (iL (IntKind.u64.wrap ((64:Int)-jy)) (IntKind.u64.wrap (zR*2^(min ((IntKind.u64.wrap ((64:Int)-jy))).toNat IntKind.u64.bits)))) fun d7=>ex (iL (IntKind.u64.wrap ((64:Int)-jy)) (IntKind.u64.wrap (BY*2^(min ((IntKind.u64.wrap ((64:Int)-jy))).toNat IntKind.u64.bits)))) fun d8=>ex (iL jy (Int.fdiv zR (2^(min (jy).toNat IntKind.u64.bits)))) fun d9=>j ((bits .or .u64 d6 d7),(d8 != (0:Int)),(d9==(0:Int))) w)))
theorem Um{zR BY jy w j}(h:MA zR BY jy w j):M Pg 156 [.int .u64 zR,.int .u64 BY,.int .u64 jy] (mj (B .u64) bf bf) w j:=
 bj 51 Tryz.func156 rfl rfl bk
def MB(wa:af)(dy:Addr)(fD:Addr)(w6:Int)(fT:World)(IT:Int→World→Prop)(j:(Int×Int)→World→Prop):Prop:=if (decide (w6<(wa.len:Int)))=true then (ex (cD wa 1 w6) fun pw=>ex (L (B .i64) pw fT) fun kO=>tF Pg (cc.mk (.func 194) (List.toArray []) (List.toArray [.pointer (some fD)])) [.int .i64 (kO)] dU fT fun m6 e1=>IT ((IntKind.i64.wrap (w6+(1:Int)))) e1) else (ex (L (B .i64) fD fT) fun lY=>if (decide (lY≥(1125899906842624:Int)))=true then (j ((0:Int),(101:Int)) fT) else (ex (L (B .i64) fD fT) fun hg=>ba (B .i64) (dy.add 0) (IntKind.i64.wrap (hg+(1:Int))) fT fun e2=>ex (L (B .i64) (dy.add 0) e2) fun oN=>j (oN,(0:Int)) e2))
def Un(bK:aL)(KP:jt)(wa:af)(w:World)(j:(Int×Int)→World→Prop):Prop:=bG 137 cG KP w fun a3 a7=>ex (L cG a3 a7) fun cB=>M Pg 167 [cG.enc (cB)] (B .i64) a7 fun cp bN=>if (cp != (0:Int))=true then (j ((0:Int),(100:Int)) bN) else (ex (bC bK) fun dy=>ex (L (B .i64) (dy.add 0) bN) fun dG=>bG 2 (B .i64) (0:Int) bN fun fD cl=>ba (B .i64) fD dG cl fun cg=>ex (L (B .i64) (a3.add 1) cg) fun eu=>tF Pg (cc.mk (.func 194) (List.toArray []) (List.toArray [.pointer (some fD)])) [.int .i64 (eu)] dU cg fun mc dJ=>eZ (fun (s:Int) w aa=>MB wa dy fD s w aa j) ((0:Int)) dJ)
theorem agQ{bK KP wa w j}(h:Un bK KP wa w j):M Pg 157 [.pointer bK,cG.enc KP,X.enc wa] (bo (B .i64) (B .i64)) w j:=by
 have iQ:=fun {dy} {fD}=>hb (bp:=Int) 8 (fun s w aa=>MB wa dy fD s w aa j) (fun g s=>ae (ae (ae (ae (ae (ae g 0 (.pointer bK)) 8 (.pointer (some fD))) 9 (((cc.mk (.func 194) (List.toArray []) (List.toArray [.pointer (some fD)]))).enc)) 24 (X.enc wa)) 25 (.int .i64 ((wa.len:Int)))) 26 (.int .i64 s))
 exact bj 45 Tryz.func157 rfl rfl bk
def Uo(jx:Int)(w:World)(j:Bool→World→Prop):Prop:=j ((decide (jx≥(0:Int)))&&(decide (jx<(4096:Int)))) w
theorem agR{jx w j}(h:Uo jx w j):M Pg 158 [.int .i64 jx] bf w j:=
 bj 9 Tryz.func158 rfl rfl bk
def Up(z7:af)(w:World)(j:(af×Int)→World→Prop):Prop:=if (decide ((z7.len:Int)>(65536:Int)))=true then (j ((⟨none,0,0⟩:af),(30:Int)) w) else (yG 5 (B .u8) 1 (0:Int) (0:Int) (IntKind.i64.wrap ((8:Int)+(z7.len:Int))) w fun ga cm=>M Pg 195 [X.enc (ga),.int .u32 ((IntKind.u32.wrap (z7.len:Int)))] X cm fun cu aU=>M Pg 196 [X.enc (cu),X.enc (z7)] (B .u32) aU fun b0 bT=>M Pg 195 [X.enc (cu),.int .u32 (b0)] X bT fun fj bA=>tz 5 (B .u8) 1 1 fj z7 bA fun hd cd=>j (hd,(0:Int)) cd)
theorem agS{z7 w j}(h:Up z7 w j):M Pg 159 [X.enc z7] (bo X (B .i64)) w j:=
 bj 24 Tryz.func159 rfl rfl bk
def Fk(c5:aL)(bO:Int)(a3:Addr)(aG7:Int)(bA:World)(j:Int→World→Prop):Prop:=M Pg 177 [.pointer (c5),.int .i64 (bO),.int .i64 (aG7),((cc.mk (.func 197) (List.toArray []) (List.toArray [.pointer (some a3)]))).enc] (B .i64) bA fun ca bU=>j ca bU
def Ur(c5:aL)(bO:Int)(tC:af)(w:World)(j:Int→World→Prop):Prop:=bG 189 X tC w fun a3 a7=>ex (L X a3 a7) fun cB=>M Pg 183 [.pointer (c5),.int .i64 (bO)] bf a7 fun cE cF=>if cE=true then (ex (bC c5) fun eK=>ex (L X (eK.add 0) cF) fun eu=>ex (cD eu 2 bO) fun gr=>ex (L X (gr.add 0) cF) fun dm=>Fk c5 bO a3 (IntKind.i64.wrap ((cB.len:Int)+(dm.len:Int))) cF j) else (Fk c5 bO a3 (cB.len:Int) cF j)
theorem agU{c5 bO tC w j}(h:Ur c5 bO tC w j):M Pg 160 [.pointer c5,.int .i64 bO,X.enc tC] (B .i64) w j:=by
 have iE:=fun {a3}=>hs (bp:=Int) 5 (fun s w=>Fk c5 bO a3 s w j) (fun g s=>ae (ae (ae (ae g 0 (.pointer c5)) 1 (.int .i64 bO)) 5 (.pointer (some a3))) 7 (.int .i64 s))
 exact bj 29 Tryz.func160 rfl rfl bk
def MC(fV:af)(hO:af)(bR:Int)(aU:World)(gy:af×Int→World→Prop)(j:(af×Int)→World→Prop):Prop:=if (decide (bR<(fV.len:Int)))=true then (ex (cD fV 5 bR) fun bP=>ex (L gg bP aU) fun cw=>bG 197 gg ty aU fun cH bU=>ba gg cH cw bU fun cd=>ex (L gg cH cd) fun c2=>M Pg 198 [gg.enc (c2)] (B .i64) cd fun et cl=>if (et != (0:Int))=true then (j ((⟨none,0,0⟩:af),et) cl) else (ex (L gg cH cl) fun eu=>M Pg 199 [X.enc (hO),gg.enc (eu)] X cl fun mc dJ=>gy (mc,(IntKind.i64.wrap (bR+(1:Int)))) dJ)) else (j (hO,(0:Int)) aU)
def Us(fV:af)(w:World)(j:(af×Int)→World→Prop):Prop:=if (decide ((fV.len:Int)>(1000:Int)))=true then (j ((⟨none,0,0⟩:af),(20:Int)) w) else (eZ (fun (s:af×Int) w aa=>MC fV s.1 s.2 w aa j) ((⟨none,0,0⟩:af),(0:Int)) w)
theorem agV{fV w j}(h:Us fV w j):M Pg 161 [X.enc fV] (bo X (B .i64)) w j:=by
 have iQ:=hb (bp:=af×Int) 6 (fun s w aa=>MC fV s.1 s.2 w aa j) (fun g s=>ae (ae (ae (ae g 11 (X.enc fV)) 12 (.int .i64 ((fV.len:Int)))) 4 (X.enc (s.1))) 13 (.int .i64 (s.2)))
 exact bj 27 Tryz.func161 rfl rfl bk
def Ut(dk:aL)(w:World)(j:mx→World→Prop):Prop:=bG 31 gh A_ w fun aX bh=>ex (bC dk) fun a3=>ex (L gh (a3.add 0) bh) fun dH=>ba gh aX dH bh fun bT=>ex (L gh aX bT) fun cw=>j cw bT
theorem agW{dk w j}(h:Ut dk w j):M Pg 162 [.pointer dk] gh w j:=
 bj 7 Tryz.func162 rfl rfl bk
def Uu(bK:jt)(uN:Int)(w:World)(j:(jt×Int)→World→Prop):Prop:=bG 137 cG bK w fun aA aU=>bG 137 cG jv aU fun bS bT=>ex (L cG aA bT) fun cw=>M Pg 167 [cG.enc (cw)] (B .i64) bT fun fj bA=>if (fj != (0:Int))=true then (ba cG bS (⟨(0:Int),(0:Int)⟩:jt) bA fun cd=>ex (L cG bS cd) fun c2=>j (c2,(50:Int)) cd) else (M Pg 168 [.int .i64 (uN)] bf bA fun et cl=>if (!et)=true then (ba cG bS (⟨(0:Int),(0:Int)⟩:jt) cl fun c1=>ex (L cG bS c1) fun fs=>j (fs,(52:Int)) c1) else (ex (L (B .i64) (aA.add 0) cl) fun dm=>ex (L (B .i64) (aA.add 1) cl) fun jH=>ba cG bS (⟨(max (IntKind.i64.wrap (dm-uN)) (0:Int)),(min (IntKind.i64.wrap (jH+uN)) (1125899906842624:Int))⟩:jt) cl fun fT=>ex (L cG bS fT) fun hH=>j (hH,(0:Int)) fT))
theorem agX{bK uN w j}(h:Uu bK uN w j):M Pg 166 [cG.enc bK,.int .i64 uN] (bo cG (B .i64)) w j:=
 bj 27 Tryz.func166 rfl rfl bk
def CT(aX:Addr)(oJ:Bool)(bA:World)(j:Int→World→Prop):Prop:=ex (fun x=>(!oJ)=true→(L (B .i64) (aX.add 0) bA) x) fun c3=>ex (fun x=>(!oJ)=true→(L (B .i64) (aX.add 1) bA) x) fun dG=>if (oJ||(decide (c3>dG)))=true then (j (50:Int) bA) else (j (0:Int) bA)
def Uv(bK:jt)(w:World)(j:Int→World→Prop):Prop:=bG 137 cG bK w fun aX bh=>ex (L (B .i64) (aX.add 0) bh) fun c6=>M Pg 168 [.int .i64 (c6)] bf bh fun bJ a7=>if (!bJ)=true then (CT aX true a7 j) else (ex (L (B .i64) (aX.add 1) a7) fun dQ=>M Pg 168 [.int .i64 (dQ)] bf a7 fun hf c1=>CT aX (!hf) c1 j)
theorem agY{bK w j}(h:Uv bK w j):M Pg 167 [cG.enc bK] (B .i64) w j:=by
 have o8:=fun {aX}=>pN (bp:=Bool) [5,6,7,8,9] [10,11,12,13,14,15,16] (fun s w=>CT aX s w j) (fun g s=>ae (ae g 1 (.pointer (some aX))) 12 (.bool s))
 exact bj 20 Tryz.func167 rfl rfl bk
def Uw(bd:Int)(w:World)(j:Bool→World→Prop):Prop:=j ((decide (bd≥(0:Int)))&&(decide (bd≤(1125899906842624:Int)))) w
theorem agZ{bd w j}(h:Uw bd w j):M Pg 168 [.int .i64 bd] bf w j:=
 bj 9 Tryz.func168 rfl rfl bk
def Ux(cR:aL)(bt:Int)(Do:Int)(wR:Int)(w:World)(j:Int→World→Prop):Prop:=M Pg 210 [.pointer (cR),.int .i64 (bt)] (B .i64) w fun bJ a7=>if (bJ != (0:Int))=true then (j bJ a7) else (ex (bC cR) fun b7=>ex (L aE ((b7.add 0).add 0) a7) fun cM=>M Pg 211 [.pointer (cM),.int .i64 (Do)] (bo dD bf) a7 fun ca bU=>bG 292 dD kj bU fun fD cl=>ba dD fD ca.1 cl fun cg=>M Pg 212 [.int .i64 (Do)] bf cg fun hf c1=>if (!hf)=true then (j (153:Int) c1) else (if ca.2=true then (j (154:Int) c1) else (M Pg 213 [.int .i64 (wR)] (B .i64) c1 fun Cq dK=>if (Cq != (0:Int))=true then (j (155:Int) dK) else (ex (L aE ((b7.add 0).add 0) dK) fun dL=>s6 87 hL [(⟨Do,wR⟩:fu)] dK fun iV ez=>M Pg 214 [.pointer (dL),.int .i64 (bt),X.enc ((⟨some iV,1,1⟩:af))] (B .i64) ez fun fI eo=>M Pg 215 [.pointer (cR),.int .i64 (bt)] dU eo fun w0 eh=>j (0:Int) eh))))
theorem ag0{cR bt Do wR w j}(h:Ux cR bt Do wR w j):M Pg 169 [.pointer cR,.int .i64 bt,.int .i64 Do,.int .i64 wR] (B .i64) w j:=
 bj 52 Tryz.func169 rfl rfl bk
end bb
end Go.Proofs.YthaobmpdjcoheaaGreat
