/- Own texts of this claim, part 8: short, merged. -/
import Derived.Test.YthaobmpdjcoheaaGreatZ1
set_option maxRecDepth 100000
set_option maxHeartbeats 40000000
set_option linter.defProp false
set_option linter.unusedVariables false
set_option linter.unusedSimpArgs false
namespace Go.Proofs.YthaobmpdjcoheaaGreat
namespace bf
def Ub(dt:aM)(w:World)(e:Int→World→Prop):Prop:=ex (bK dt) fun aY=>ex (L (B .i64) (aY.add 12) w) fun ea=>if (ea==(2:Int))=true then (e (176:Int) w) else (bd (B .i64) (aY.add 12) (3:Int) w fun aV=>e (0:Int) aV)
theorem agH{dt w e}(h:Ub dt w e):M Pg 148 [.pointer dt] (B .i64) w e:=
 bq 11 Tryz.func148 rfl rfl br
def Uc(dt:aM)(bB:Int)(w:World)(e:Int→World→Prop):Prop:=M Pg 179 [.int .i64 (bB)] bk w fun bp bm=>if (!bp)=true then (e (174:Int) bm) else (ex (bK dt) fun b1=>ex (L (B .i64) (b1.add 12) bm) fun cJ=>ex (fun x=>(!(cJ==(3:Int)))=true→(bK dt) x) fun cg=>ex (fun x=>(!(cJ==(3:Int)))=true→(L (B .i64) (cg.add 12) bm) x) fun cT=>ex (fun x=>((!(cJ==(3:Int)))&&(cT==(2:Int)))=true→(bK dt) x) fun dE=>ex (fun x=>((!(cJ==(3:Int)))&&(cT==(2:Int)))=true→(L (B .i64) (dE.add 13) bm) x) fun dM=>if ((cJ==(3:Int))||((cT==(2:Int))&&(dM != bB)))=true then (e (176:Int) bm) else (ex (L (B .i64) (b1.add 12) bm) fun cK=>if (cK==(2:Int))=true then (e (0:Int) bm) else (M Pg 180 [.pointer (dt)] bk bm fun eo cA=>if (!eo)=true then (e (177:Int) cA) else (ex (oi (b1.add 4) 2 3 (0:Int)) fun hQ=>ex (L (B .i64) (hQ.add 2) cA) fun fu=>ex (fun x=>(!(decide (bB<fu)))=true→(bK dt) x) fun jC=>ex (fun x=>(!(decide (bB<fu)))=true→(oi (jC.add 4) 2 3 (1:Int)) x) fun lc=>ex (fun x=>(!(decide (bB<fu)))=true→(L (B .i64) (lc.add 2) cA) x) fun cW=>if ((decide (bB<fu))||(decide (bB<cW)))=true then (e (178:Int) cA) else (bd (B .i64) (b1.add 12) (2:Int) cA fun ei=>bd (B .i64) (b1.add 13) bB ei fun eE=>e (0:Int) eE)))))
theorem agI{dt bB w e}(h:Uc dt bB w e):M Pg 149 [.pointer dt,.int .i64 bB] (B .i64) w e:=
 bq 66 Tryz.func149 rfl rfl br
def Ue(eV:Nat)(w:World)(e:(Nat×Int)→World→Prop):Prop:=M Pg 191 [.float .f64 (eV)] (bw gP (B .i64)) w fun gf cB=>e (gf.1,gf.2) cB
theorem agK{eV w e}(h:Ue eV w e):M Pg 150 [.float .f64 eV] (bw gP (B .i64)) w e:=
 bq 12 Tryz.func150 rfl rfl br
def Uf(ow:Nat)(o3:Int)(w:World)(e:Nat→World→Prop):Prop:=M Pg 193 [.float .f64 (ow),.int .i64 (o3)] gP w fun bp bm=>e bp bm
theorem agL{ow o3 w e}(h:Uf ow o3 w e):M Pg 151 [.float .f64 ow,.int .i64 o3] gP w e:=
 bq 11 Tryz.func151 rfl rfl br
def Ug(h_:Int)(AM:Int)(w:World)(e:(Int×Int)→World→Prop):Prop:=ex (iP (32:Int) (Int.fdiv h_ (2^(min ((32:Int)).toNat IntKind.u64.bits)))) fun d3=>ex (iP (32:Int) (Int.fdiv AM (2^(min ((32:Int)).toNat IntKind.u64.bits)))) fun d4=>ex (iP (32:Int) (Int.fdiv (IntKind.u64.wrap ((bits .and .u64 h_ (4294967295:Int))*(bits .and .u64 AM (4294967295:Int)))) (2^(min ((32:Int)).toNat IntKind.u64.bits)))) fun d5=>ex (iP (32:Int) (Int.fdiv (IntKind.u64.wrap ((IntKind.u64.wrap (d3*(bits .and .u64 AM (4294967295:Int))))+d5)) (2^(min ((32:Int)).toNat IntKind.u64.bits)))) fun d6=>ex (iP (32:Int) (Int.fdiv (IntKind.u64.wrap ((bits .and .u64 (IntKind.u64.wrap ((IntKind.u64.wrap (d3*(bits .and .u64 AM (4294967295:Int))))+d5)) (4294967295:Int))+(IntKind.u64.wrap ((bits .and .u64 h_ (4294967295:Int))*d4)))) (2^(min ((32:Int)).toNat IntKind.u64.bits)))) fun d7=>e ((IntKind.u64.wrap ((IntKind.u64.wrap ((IntKind.u64.wrap (d3*d4))+d6))+d7)),(IntKind.u64.wrap (h_*AM))) w
theorem agM{h_ AM w e}(h:Ug h_ AM w e):M Pg 152 [.int .u64 h_,.int .u64 AM] (bw (B .u64) (B .u64)) w e:=
 bq 51 Tryz.func152 rfl rfl br
def Mv(bi:Int)(w:World)(e:Int→World→Prop):Prop:=if (decide (bi<(0:Int)))=true then (e (IntKind.u64.wrap (0-(IntKind.u64.wrap bi))) w) else (e (IntKind.u64.wrap bi) w)
theorem Uh{bi w e}(h:Mv bi w e):M Pg 153 [.int .i64 bi] (B .u64) w e:=
 bq 10 Tryz.func153 rfl rfl br
def Mw(Hy:Bool)(bW:Int)(w:World)(e:(Int×Int)→World→Prop):Prop:=if (Hy&&(decide (bW≤(9223372036854775808:Int))))=true then (e ((IntKind.i64.wrap (0-(IntKind.i64.wrap bW))),(0:Int)) w) else (if ((!Hy)&&(decide (bW<(9223372036854775808:Int))))=true then (e ((IntKind.i64.wrap bW),(0:Int)) w) else (e ((0:Int),(11:Int)) w))
theorem Ui{Hy bW w e}(h:Mw Hy bW w e):M Pg 155 [.bool Hy,.int .u64 bW] (bw (B .i64) (B .i64)) w e:=
 bq 24 Tryz.func155 rfl rfl br
def Mx(zS:Int)(BY:Int)(fH:Int)(w:World)(e:(Int×Bool×Bool)→World→Prop):Prop:=if (decide (fH≥(128:Int)))=true then (e ((0:Int),true,true) w) else (if (decide (fH>(64:Int)))=true then (ex (iP (IntKind.u64.wrap (fH-(64:Int))) (Int.fdiv zS (2^(min ((IntKind.u64.wrap (fH-(64:Int)))).toNat IntKind.u64.bits)))) fun d4=>ex (iP (IntKind.u64.wrap ((128:Int)-fH)) (IntKind.u64.wrap (zS*2^(min ((IntKind.u64.wrap ((128:Int)-fH))).toNat IntKind.u64.bits)))) fun d5=>e (d4,((d5 != (0:Int))||(BY != (0:Int))),true) w) else (if (fH==(64:Int))=true then (e (zS,(BY != (0:Int)),true) w) else (ex (iP fH (Int.fdiv BY (2^(min (fH).toNat IntKind.u64.bits)))) fun d6=>ex (iP (IntKind.u64.wrap ((64:Int)-fH)) (IntKind.u64.wrap (zS*2^(min ((IntKind.u64.wrap ((64:Int)-fH))).toNat IntKind.u64.bits)))) fun d7=>ex (iP (IntKind.u64.wrap ((64:Int)-fH)) (IntKind.u64.wrap (BY*2^(min ((IntKind.u64.wrap ((64:Int)-fH))).toNat IntKind.u64.bits)))) fun d8=>ex (iP fH (Int.fdiv zS (2^(min (fH).toNat IntKind.u64.bits)))) fun d9=>e ((bits .or .u64 d6 d7),(d8 != (0:Int)),(d9==(0:Int))) w)))
theorem Uj{zS BY fH w e}(h:Mx zS BY fH w e):M Pg 156 [.int .u64 zS,.int .u64 BY,.int .u64 fH] (mm (B .u64) bk bk) w e:=
 bq 51 Tryz.func156 rfl rfl br
def My(wg:af)(dE:Addr)(fG:Addr)(w_:Int)(fW:World)(IQ:Int→World→Prop)(e:(Int×Int)→World→Prop):Prop:=if (decide (w_<(wg.len:Int)))=true then (ex (cM wg 1 w_) fun py=>ex (L (B .i64) py fW) fun kS=>tK Pg (cm.mk (.func 194) (List.toArray []) (List.toArray [.pointer (some fG)])) [.int .i64 (kS)] dZ fW fun m9 e4=>IQ ((IntKind.i64.wrap (w_+(1:Int)))) e4) else (ex (L (B .i64) fG fW) fun l1=>if (decide (l1≥(1125899906842624:Int)))=true then (e ((0:Int),(101:Int)) fW) else (ex (L (B .i64) fG fW) fun hj=>bd (B .i64) (dE.add 0) (IntKind.i64.wrap (hj+(1:Int))) fW fun e5=>ex (L (B .i64) (dE.add 0) e5) fun oO=>e (oO,(0:Int)) e5))
def Uk(bS:aM)(KM:jz)(wg:af)(w:World)(e:(Int×Int)→World→Prop):Prop:=bO 137 cO KM w fun a6 a_=>ex (L cO a6 a_) fun cJ=>M Pg 167 [cO.enc (cJ)] (B .i64) a_ fun a3 bV=>if (a3 != (0:Int))=true then (e ((0:Int),(100:Int)) bV) else (ex (bK bS) fun dE=>ex (L (B .i64) (dE.add 0) bV) fun dM=>bO 2 (B .i64) (0:Int) bV fun fG cA=>bd (B .i64) fG dM cA fun cu=>ex (L (B .i64) (a6.add 1) cu) fun eA=>tK Pg (cm.mk (.func 194) (List.toArray []) (List.toArray [.pointer (some fG)])) [.int .i64 (eA)] dZ cu fun mg dP=>e2 (fun (s:Int) w aa=>My wg dE fG s w aa e) ((0:Int)) dP)
theorem agN{bS KM wg w e}(h:Uk bS KM wg w e):M Pg 157 [.pointer bS,cO.enc KM,X.enc wg] (bw (B .i64) (B .i64)) w e:=by
 have iU:=fun {dE} {fG}=>hf (bx:=Int) 8 (fun s w aa=>My wg dE fG s w aa e) (fun g s=>ae (ae (ae (ae (ae (ae g 0 (.pointer bS)) 8 (.pointer (some fG))) 9 (((cm.mk (.func 194) (List.toArray []) (List.toArray [.pointer (some fG)]))).enc)) 24 (X.enc wg)) 25 (.int .i64 ((wg.len:Int)))) 26 (.int .i64 s))
 exact bq 45 Tryz.func157 rfl rfl br
def Ul(jD:Int)(w:World)(e:Bool→World→Prop):Prop:=e ((decide (jD≥(0:Int)))&&(decide (jD<(4096:Int)))) w
theorem agO{jD w e}(h:Ul jD w e):M Pg 158 [.int .i64 jD] bk w e:=
 bq 9 Tryz.func158 rfl rfl br
def Um(z8:af)(w:World)(e:(af×Int)→World→Prop):Prop:=if (decide ((z8.len:Int)>(65536:Int)))=true then (e ((⟨none,0,0⟩:af),(30:Int)) w) else (yI 5 (B .u8) 1 (0:Int) (0:Int) (IntKind.i64.wrap ((8:Int)+(z8.len:Int))) w fun gf cB=>M Pg 195 [X.enc (gf),.int .u32 ((IntKind.u32.wrap (z8.len:Int)))] X cB fun bj aV=>M Pg 196 [X.enc (bj),X.enc (z8)] (B .u32) aV fun bX b2=>M Pg 195 [X.enc (bj),.int .u32 (bX)] X b2 fun fm bH=>tE 5 (B .u8) 1 1 fm z8 bH fun hh cn=>e (hh,(0:Int)) cn)
theorem agP{z8 w e}(h:Um z8 w e):M Pg 159 [X.enc z8] (bw X (B .i64)) w e:=
 bq 24 Tryz.func159 rfl rfl br
def Fi(dd:aM)(bW:Int)(a6:Addr)(aG4:Int)(bH:World)(e:Int→World→Prop):Prop:=M Pg 177 [.pointer (dd),.int .i64 (bW),.int .i64 (aG4),((cm.mk (.func 197) (List.toArray []) (List.toArray [.pointer (some a6)]))).enc] (B .i64) bH fun a2 b3=>e a2 b3
def Uo(dd:aM)(bW:Int)(tH:af)(w:World)(e:Int→World→Prop):Prop:=bO 189 X tH w fun a6 a_=>ex (L X a6 a_) fun cJ=>M Pg 183 [.pointer (dd),.int .i64 (bW)] bk a_ fun bo cN=>if bo=true then (ex (bK dd) fun eO=>ex (L X (eO.add 0) cN) fun eA=>ex (cM eA 2 bW) fun gw=>ex (L X (gw.add 0) cN) fun bJ=>Fi dd bW a6 (IntKind.i64.wrap ((cJ.len:Int)+(bJ.len:Int))) cN e) else (Fi dd bW a6 (cJ.len:Int) cN e)
theorem agR{dd bW tH w e}(h:Uo dd bW tH w e):M Pg 160 [.pointer dd,.int .i64 bW,X.enc tH] (B .i64) w e:=by
 have iI:=fun {a6}=>hy (bx:=Int) 5 (fun s w=>Fi dd bW a6 s w e) (fun g s=>ae (ae (ae (ae g 0 (.pointer dd)) 1 (.int .i64 bW)) 5 (.pointer (some a6))) 7 (.int .i64 s))
 exact bq 29 Tryz.func160 rfl rfl br
def Mz(fY:af)(hS:af)(b0:Int)(aV:World)(gB:af×Int→World→Prop)(e:(af×Int)→World→Prop):Prop:=if (decide (b0<(fY.len:Int)))=true then (ex (cM fY 5 b0) fun bY=>ex (L gj bY aV) fun bQ=>bO 197 gj tD aV fun cP b3=>bd gj cP bQ b3 fun cn=>ex (L gj cP cn) fun cK=>M Pg 198 [gj.enc (cK)] (B .i64) cn fun eo cA=>if (eo != (0:Int))=true then (e ((⟨none,0,0⟩:af),eo) cA) else (ex (L gj cP cA) fun eA=>M Pg 199 [X.enc (hS),gj.enc (eA)] X cA fun mg dP=>gB (mg,(IntKind.i64.wrap (b0+(1:Int)))) dP)) else (e (hS,(0:Int)) aV)
def Up(fY:af)(w:World)(e:(af×Int)→World→Prop):Prop:=if (decide ((fY.len:Int)>(1000:Int)))=true then (e ((⟨none,0,0⟩:af),(20:Int)) w) else (e2 (fun (s:af×Int) w aa=>Mz fY s.1 s.2 w aa e) ((⟨none,0,0⟩:af),(0:Int)) w)
theorem agS{fY w e}(h:Up fY w e):M Pg 161 [X.enc fY] (bw X (B .i64)) w e:=by
 have iU:=hf (bx:=af×Int) 6 (fun s w aa=>Mz fY s.1 s.2 w aa e) (fun g s=>ae (ae (ae (ae g 11 (X.enc fY)) 12 (.int .i64 ((fY.len:Int)))) 4 (X.enc (s.1))) 13 (.int .i64 (s.2)))
 exact bq 27 Tryz.func161 rfl rfl br
def Uq(dt:aM)(w:World)(e:mz→World→Prop):Prop:=bO 31 gk A_ w fun aY bm=>ex (bK dt) fun a6=>ex (L gk (a6.add 0) bm) fun dN=>bd gk aY dN bm fun b2=>ex (L gk aY b2) fun bQ=>e bQ b2
theorem agT{dt w e}(h:Uq dt w e):M Pg 162 [.pointer dt] gk w e:=
 bq 7 Tryz.func162 rfl rfl br
def Ur(bS:jz)(uS:Int)(w:World)(e:(jz×Int)→World→Prop):Prop:=bO 137 cO bS w fun aA aV=>bO 137 cO jB aV fun b1 b2=>ex (L cO aA b2) fun bQ=>M Pg 167 [cO.enc (bQ)] (B .i64) b2 fun fm bH=>if (fm != (0:Int))=true then (bd cO b1 (⟨(0:Int),(0:Int)⟩:jz) bH fun cn=>ex (L cO b1 cn) fun cK=>e (cK,(50:Int)) cn) else (M Pg 168 [.int .i64 (uS)] bk bH fun eo cA=>if (!eo)=true then (bd cO b1 (⟨(0:Int),(0:Int)⟩:jz) cA fun db=>ex (L cO b1 db) fun fu=>e (fu,(52:Int)) db) else (ex (L (B .i64) (aA.add 0) cA) fun bJ=>ex (L (B .i64) (aA.add 1) cA) fun jM=>bd cO b1 (⟨(max (IntKind.i64.wrap (bJ-uS)) (0:Int)),(min (IntKind.i64.wrap (jM+uS)) (1125899906842624:Int))⟩:jz) cA fun fW=>ex (L cO b1 fW) fun hL=>e (hL,(0:Int)) fW))
theorem agU{bS uS w e}(h:Ur bS uS w e):M Pg 166 [cO.enc bS,.int .i64 uS] (bw cO (B .i64)) w e:=
 bq 27 Tryz.func166 rfl rfl br
def CS(aY:Addr)(oK:Bool)(bH:World)(e:Int→World→Prop):Prop:=ex (fun x=>(!oK)=true→(L (B .i64) (aY.add 0) bH) x) fun cH=>ex (fun x=>(!oK)=true→(L (B .i64) (aY.add 1) bH) x) fun dM=>if (oK||(decide (cH>dM)))=true then (e (50:Int) bH) else (e (0:Int) bH)
def Us(bS:jz)(w:World)(e:Int→World→Prop):Prop:=bO 137 cO bS w fun aY bm=>ex (L (B .i64) (aY.add 0) bm) fun de=>M Pg 168 [.int .i64 (de)] bk bm fun aI a_=>if (!aI)=true then (CS aY true a_ e) else (ex (L (B .i64) (aY.add 1) a_) fun dU=>M Pg 168 [.int .i64 (dU)] bk a_ fun fU db=>CS aY (!fU) db e)
theorem agV{bS w e}(h:Us bS w e):M Pg 167 [cO.enc bS] (B .i64) w e:=by
 have o9:=fun {aY}=>pQ (bx:=Bool) [5,6,7,8,9] [10,11,12,13,14,15,16] (fun s w=>CS aY s w e) (fun g s=>ae (ae g 1 (.pointer (some aY))) 12 (.bool s))
 exact bq 20 Tryz.func167 rfl rfl br
def Ut(bi:Int)(w:World)(e:Bool→World→Prop):Prop:=e ((decide (bi≥(0:Int)))&&(decide (bi≤(1125899906842624:Int)))) w
theorem agW{bi w e}(h:Ut bi w e):M Pg 168 [.int .i64 bi] bk w e:=
 bq 9 Tryz.func168 rfl rfl br
def Uu(c1:aM)(bB:Int)(Dn:Int)(wV:Int)(w:World)(e:Int→World→Prop):Prop:=M Pg 210 [.pointer (c1),.int .i64 (bB)] (B .i64) w fun aI a_=>if (aI != (0:Int))=true then (e aI a_) else (ex (bK c1) fun cg=>ex (L aD ((cg.add 0).add 0) a_) fun cT=>M Pg 211 [.pointer (cT),.int .i64 (Dn)] (bw dJ bk) a_ fun a2 b3=>bO 292 dJ kn b3 fun fG cA=>bd dJ fG a2.1 cA fun cu=>M Pg 212 [.int .i64 (Dn)] bk cu fun fU db=>if (!fU)=true then (e (153:Int) db) else (if a2.2=true then (e (154:Int) db) else (M Pg 213 [.int .i64 (wV)] (B .i64) db fun ph dQ=>if (ph != (0:Int))=true then (e (155:Int) dQ) else (ex (L aD ((cg.add 0).add 0) dQ) fun cW=>ta 87 hP [(⟨Dn,wV⟩:fw)] dQ fun i_ eE=>M Pg 214 [.pointer (cW),.int .i64 (bB),X.enc ((⟨some i_,1,1⟩:af))] (B .i64) eE fun cC ew=>M Pg 215 [.pointer (c1),.int .i64 (bB)] dZ ew fun w4 ep=>e (0:Int) ep))))
theorem agX{c1 bB Dn wV w e}(h:Uu c1 bB Dn wV w e):M Pg 169 [.pointer c1,.int .i64 bB,.int .i64 Dn,.int .i64 wV] (B .i64) w e:=
 bq 52 Tryz.func169 rfl rfl br
end bf
end Go.Proofs.YthaobmpdjcoheaaGreat
