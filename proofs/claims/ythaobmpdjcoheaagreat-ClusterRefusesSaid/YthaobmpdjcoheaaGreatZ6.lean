/- Own texts of this claim, part 6: short, merged. -/
import Derived.Test.YthaobmpdjcoheaaGreatZ1
set_option maxRecDepth 100000
set_option maxHeartbeats 40000000
set_option linter.defProp false
set_option linter.unusedVariables false
set_option linter.unusedSimpArgs false
namespace Go.Proofs.YthaobmpdjcoheaaGreat
namespace bb
def FU(bd:aL)(xB:af)(aGL:Addr)(o0:Int)(a7:World)(j:(Int×Int)→World→Prop):Prop:=if (o0 != (0:Int))=true then (j ((0:Int),o0) a7) else (de a7 fun bT=>ex (bC bd) fun b7=>ex (L aE (b7.add 3) bT) fun cM=>ex (L cG aGL bT) fun c3=>M Pg 157 [.pointer (cM),cG.enc (c3),X.enc (xB)] (bo (B .i64) (B .i64)) bT fun hd cd=>j (hd.1,hd.2) cd)
def WO(bd:aL)(xB:af)(w:World)(j:(Int×Int)→World→Prop):Prop:=de w fun cg=>ex (bC bd) fun hM=>ex (L aE (hM.add 0) cg) fun fs=>ex (L (B .i64) (hM.add 1) cg) fun dm=>sC (M Pg 61 [.pointer (fs),.int .i64 (dm)] (bo cG (B .i64)) cg fun gv cS=>bG 137 cG jv cS fun iV ez=>ba cG iV gv.1 ez fun eo=>FU bd xB iV gv.2 eo j) (bG 137 cG jv cg fun rM eh=>M Pg 61 [.pointer (fs),.int .i64 (dm)] (bo cG (B .i64)) eh fun gP fK=>ba cG rM gP.1 fK fun e2=>FU bd xB rM gP.2 e2 j)
theorem ajp{bd xB w j}(h:WO bd xB w j):M Pg 96 [.pointer bd,X.enc xB] (bo (B .i64) (B .i64)) w j:=by
 have fY:=eg 5 (du [0,1,2,5,3,4,6,7,8,9,10] .e)
 have rQ:=eg 2 (du [0,1,2,4,5,6,3,7] (.l 8 12 (du [9,10,11,12,13,14] .e) (du [8,9,10,11,13,14] .e)))
 have iE:=hs (bp:=Addr×Int) 3 (fun s w=>FU bd xB s.1 s.2 w j) (fun g s=>ae (ae (ae (ae g 0 (.pointer bd)) 1 (X.enc xB)) 6 (.pointer (some s.1))) 7 (.int .i64 (s.2)))
 exact bj 32 Tryz.func96 rfl rfl bk
def C1(aX:Addr)(nH:Bool)(cd:World)(j:(aL×Int)→World→Prop):Prop:=if nH=true then (j ((none:Option Addr),(171:Int)) cd) else (ex (L (B .i64) (aX.add 1) cd) fun c2=>ex (L (B .i64) (aX.add 2) cd) fun e7=>if (c2==e7)=true then (j ((none:Option Addr),(172:Int)) cd) else (ex (L (B .i64) (aX.add 3) cd) fun dQ=>ex (fun x=>(!(decide (dQ<(1:Int))))=true→(L (B .i64) (aX.add 3) cd) x) fun eu=>if ((decide (dQ<(1:Int)))||(decide (eu>(1000000000000000:Int))))=true then (j ((none:Option Addr),(173:Int)) cd) else (ex (L gh aX cd) fun fs=>bG 214 Dc (⟨fs,(Vector.replicate 2 qU),(Vector.replicate 2 false),(0:Int),(0:Int)⟩:sx) cd fun jw cS=>j ((some jw),(0:Int)) cS)))
def WP(h6:mx)(w:World)(j:(aL×Int)→World→Prop):Prop:=bG 31 gh h6 w fun aX bh=>ex (L (B .i64) (aX.add 0) bh) fun c6=>ex (fun x=>(!(decide (c6<(1:Int))))=true→(L (B .i64) (aX.add 0) bh) x) fun dH=>if ((decide (c6<(1:Int)))||(decide (dH>(1000000:Int))))=true then (j ((none:Option Addr),(170:Int)) bh) else (ex (L (B .i64) (aX.add 1) bh) fun cB=>M Pg 158 [.int .i64 (cB)] bf bh fun cp bN=>if (!cp)=true then (C1 aX true bN j) else (ex (L (B .i64) (aX.add 2) bN) fun iu=>M Pg 158 [.int .i64 (iu)] bf bN fun w0 eh=>C1 aX (!w0) eh j))
theorem ajq{h6 w j}(h:WP h6 w j):M Pg 97 [gh.enc h6] (bo aE (B .i64)) w j:=by
 have o8:=fun {aX}=>pN (bp:=Bool) [5,6,7,8,9] [10] (fun s w=>C1 aX s w j) (fun g s=>ae (ae g 1 (.pointer (some aX))) 23 (.bool s))
 exact bj 42 Tryz.func97 rfl rfl bk
def IQ(Gq:Int)(bA:World)(j:Int→World→Prop):Prop:=j Gq bA
def WQ(qF:aL)(yA:af)(w:World)(j:Int→World→Prop):Prop:=ex (bC qF) fun aA=>ex (L bf (aA.add 4) w) fun c6=>if c6=true then (j (81:Int) w) else (M Pg 159 [X.enc (yA)] (bo X (B .i64)) w fun bJ a7=>if (bJ.2 != (0:Int))=true then (j bJ.2 a7) else (de a7 fun bU=>ex (L aE (aA.add 2) bU) fun dG=>ex (L (B .i64) (aA.add 3) bU) fun c2=>M Pg 160 [.pointer (dG),.int .i64 (c2),X.enc (bJ.1)] (B .i64) bU fun et cl=>M Pg 128 [.pointer (qF),.int .i64 (et)] (B .i64) cl fun hf c1=>bw ((L aE (aA.add 2) c1) dG)<|bw ((L (B .i64) (aA.add 3) c1) c2)<|if (hf==(0:Int))=true then (ex (L (B .i64) ((aA.add 0).add 0) c1) fun dL=>ba (B .i64) ((aA.add 0).add 0) (IntKind.i64.wrap (dL+(1:Int))) c1 fun ed=>IQ hf ed j) else (IQ hf c1 j)))
theorem ajr{qF yA w j}(h:WQ qF yA w j):M Pg 98 [.pointer qF,X.enc yA] (B .i64) w j:=by
 have fY:=eg 7 (du [0,1,2,3,5,6,7,9,4,8,10,11,12] .e)
 have iE:=hs (bp:=Int) 10 (fun s w=>IQ s w j) (fun g s=>ae g 6 (.int .i64 s))
 exact bj 43 Tryz.func98 rfl rfl bk
def NC(eJ:Addr)(abl:af)(SD:Int)(c1:World)(ajv:af×Int→World→Prop)(j:af→World→Prop):Prop:=if (decide (SD<((⟨some eJ,6,6⟩:af).len:Int)))=true then (ex (cD (⟨some eJ,6,6⟩:af) 1 SD) fun jw=>ex (L (B .i64) jw c1) fun jH=>l3 197 gg 5 48 abl [(⟨(2:Int),(0:Int),jH,(0:Nat),([]:List UInt8)⟩:mP)] c1 fun pg ez=>ajv (pg,(IntKind.i64.wrap (SD+(1:Int)))) ez) else (M Pg 161 [X.enc (abl)] (bo X (B .i64)) c1 fun m6 e1=>j m6.1 e1)
def WR(Kr:Int)(kw:mx)(bR:Int)(w:World)(j:af→World→Prop):Prop:=bG 31 gh kw w fun a3 a7=>ex (L (B .i64) (a3.add 0) a7) fun cB=>ex (L (B .i64) (a3.add 1) a7) fun cw=>ex (L (B .i64) (a3.add 2) a7) fun cM=>ex (L (B .i64) (a3.add 3) a7) fun c3=>s6 2 (B .i64) [Kr,cB,cw,cM,c3,bR] a7 fun eJ cF=>eZ (fun (s:af×Int) w aa=>NC eJ s.1 s.2 w aa j) ((⟨none,0,0⟩:af),(0:Int)) cF
theorem ajs{Kr kw bR w j}(h:WR Kr kw bR w j):M Pg 99 [.int .i64 Kr,gh.enc kw,.int .i64 bR] X w j:=by
 have iQ:=fun {eJ}=>hb (bp:=af×Int) 4 (fun s w aa=>NC eJ s.1 s.2 w aa j) (fun g s=>ae (ae (ae (ae g 22 (X.enc ((⟨some eJ,6,6⟩:af)))) 23 (.int .i64 (((⟨some eJ,6,6⟩:af).len:Int)))) 7 (X.enc (s.1))) 24 (.int .i64 (s.2)))
 exact bj 40 Tryz.func99 rfl rfl bk
def Tw(bd:aL)(bZ:Int)(w:World)(j:Int→World→Prop):Prop:=M Pg 131 [.pointer (bd),.int .i64 (bZ)] (bo ew (B .i64)) w fun cA bh=>bG 64 ew k9 bh fun bS bT=>ba ew bS cA.1 bT fun bN=>if (cA.2 != (0:Int))=true then (j cA.2 bN) else (ex (L ew bS bN) fun cM=>M Pg 130 [.pointer (bd),ew.enc (cM)] (B .i64) bN fun ca bU=>j ca bU)
theorem af0{bd bZ w j}(h:Tw bd bZ w j):M Pg 100 [.pointer bd,.int .i64 bZ] (B .i64) w j:=
 bj 19 Tryz.func100 rfl rfl bk
def E7(cA:(gW×Int))(bA:World)(j:Int→World→Prop):Prop:=j cA.2 bA
def Tx(bd:aL)(bZ:Int)(w:World)(j:Int→World→Prop):Prop:=M Pg 131 [.pointer (bd),.int .i64 (bZ)] (bo ew (B .i64)) w fun cA bh=>bG 64 ew k9 bh fun bS bT=>ba ew bS cA.1 bT fun bN=>if (cA.2==(0:Int))=true then (ex (bC bd) fun dy=>ex (L X (dy.add 2) bN) fun dG=>M Pg 133 [X.enc (dG),.int .i64 (bZ),.int .i64 ((IntKind.i64.wrap (bZ+(1:Int))))] X bN fun cE cF=>ba X (dy.add 2) cE cF fun cg=>E7 cA cg j) else (E7 cA bN j)
theorem af1{bd bZ w j}(h:Tx bd bZ w j):M Pg 101 [.pointer bd,.int .i64 bZ] (B .i64) w j:=by
 have iE:=fun {cA:(gW×Int)}=>hs (bp:=Unit) 5 (fun s w=>E7 cA w j) (fun g s=>ae g 6 (.int .i64 (cA.2)))
 exact bj 27 Tryz.func101 rfl rfl bk
def Ty(bd:aL)(bt:Addr)(w:World)(j:Unit→World→Prop):Prop:=de w fun bh=>ex (bC bd) fun a3=>ex (L aE (a3.add 2) bh) fun dH=>ex (L X bt bh) fun cB=>M Pg 103 [.pointer (dH),X.enc (cB)] dU bh fun cp bN=>j () bN
theorem af2{bd bt w j}(h:Ty bd bt w j):M Pg 102 [.pointer bd,.pointer (some bt)] dU w j:=by
 have fY:=eg 1 (du [0,1,2,3,4,5] .e)
 exact bj 9 Tryz.func102 rfl rfl bk
def E8(jX:Int)(fM:Addr)(QZ:Int)(dJ:World)(mM:Int→World→Prop)(j:Unit→World→Prop):Prop:=ex (L X (fM.add 0) dJ) fun dm=>ex (Sub dm 1 0 QZ QZ) fun LA=>ba X (fM.add 0) LA dJ fun fT=>ba (B .i64) (fM.add 1) QZ fT fun ed=>mM ((IntKind.i64.wrap (jX+(1:Int)))) ed
def Mh(wH:af)(aA:Addr)(cw:af)(jX:Int)(bU:World)(mM:Int→World→Prop)(j:Unit→World→Prop):Prop:=if (decide (jX<(cw.len:Int)))=true then (ex (L X (aA.add 0) bU) fun c2=>ex (cD c2 2 jX) fun fM=>ex (L (B .i64) (fM.add 1) bU) fun dQ=>if (decide (jX<(wH.len:Int)))=true then (de bU fun ez=>ex (cD wH 1 jX) fun iW=>ex (L (B .i64) iW ez) fun iu=>ex (L X (fM.add 0) ez) fun nL=>ex (L (B .i64) (fM.add 1) ez) fun lY=>E8 jX fM (IntKind.i64.wrap (dQ+(min (max iu (0:Int)) (IntKind.i64.wrap ((nL.len:Int)-lY))))) ez mM j) else (E8 jX fM dQ bU mM j)) else (j () bU)
def Mg(c5:aL)(wH:af)(w:World)(j:Unit→World→Prop):Prop:=ex (bC c5) fun aA=>ex (L bf (aA.add 2) w) fun c6=>if c6=true then (j () w) else (ba bf (aA.add 2) true w fun a7=>ba (B .i64) (aA.add 3) (0:Int) a7 fun bT=>ex (L X (aA.add 0) bT) fun cw=>eZ (fun (s:Int) w aa=>Mh wH aA cw s w aa j) ((0:Int)) bT)
theorem Tz{c5 wH w j}(h:Mg c5 wH w j):M Pg 103 [.pointer c5,X.enc wH] dU w j:=by
 have fY:=eg 9 (du [0,1,2,3,6,7,8,11,12,13,4,5,9,10,14,15,16,17,18] .e)
 have iE:=fun {jX} {fM} {mM} {cw:af}=>hs (bp:=Int) 10 (fun s w=>E8 jX fM s w mM j) (fun g s=>ae (ae (ae (ae (ae (ae g 0 (.pointer c5)) 1 (X.enc wH)) 5 (.pointer ((some fM)))) 21 (.int .i64 ((cw.len:Int)))) 22 (.int .i64 jX)) 6 (.int .i64 s))
 have iQ:=fun {aA} {cw:af}=>hb (bp:=Int) 4 (fun s w aa=>Mh wH aA cw s w aa j) (fun g s=>ae (ae (ae (ae g 0 (.pointer c5)) 1 (X.enc wH)) 21 (.int .i64 ((cw.len:Int)))) 22 (.int .i64 s))
 exact bj 72 Tryz.func103 rfl rfl bk
def E9(m1:Int)(e0:Addr)(bJ:(Int×Int))(eo:World)(j:Unit→World→Prop):Prop:=ex (L aE e0 eo) fun iu=>ex (bC iu) fun zy=>ex (L ef (zy.add 7) eo) fun lY=>qh fm .i64 lY m1 (⟨⟩:oU) eo fun ir=>de ir fun e2=>ex (L aE e0 e2) fun oN=>ex (L aE e0 e2) fun mK=>ex (bC mK) fun v8=>ex (L X (v8.add 8) e2) fun kd=>l3 53 kh 3 24 kd [(⟨m1,bJ.1,bJ.2⟩:eW)] e2 fun Al is=>bw ((L aE e0 is) oN)<|bw ((L aE e0 is) mK)<|ex (bC oN) fun F5=>ba X (F5.add 8) Al is fun ml=>j () ml
def TA(m1:Int)(r_:aL)(bR:Addr)(e0:Addr)(w:World)(j:Unit→World→Prop):Prop:=M Pg 55 [.pointer (r_)] (bo (B .i64) (B .i64)) w fun bJ a7=>ex (L aE bR a7) fun cw=>ex (bC cw) fun cH=>ex (L ef (cH.add 7) a7) fun c3=>ex (ih fm .i64 c3 m1 a7) fun El=>bG 164 fm qT a7 fun fD cl=>ba fm fD (((El.getD qT,El.isSome)).1) cl fun cg=>ex (L aE e0 cg) fun eu=>ex (bC eu) fun gr=>ex (L ef (gr.add 7) cg) fun dm=>ex (ih fm .i64 dm m1 cg) fun tY=>bG 164 fm qT cg fun rL ed=>ba fm rL (((tY.getD qT,tY.isSome)).1) ed fun ez=>if (((tY.getD qT,tY.isSome)).2||(!(((El.getD qT,El.isSome)).2)))=true then (j () ez) else (if (bJ.1==(2:Int))=true then (de ez fun rD=>ex (L aE bR rD) fun nM=>ex (bC nM) fun uI=>ex (L aE (uI.add 0) rD) fun th=>ex (L aE bR rD) fun ti=>ex (bC ti) fun Bd=>ex (L (B .i64) (Bd.add 1) rD) fun rE=>M Pg 105 [.pointer (th),.int .i64 (bJ.2),.int .i64 (rE)] (bo bf (B .i64)) rD fun ug nK=>bw ((L aE bR nK) nM)<|bw ((L aE bR nK) ti)<|if (!ug.1)=true then (j () nK) else (E9 m1 e0 bJ nK j)) else (E9 m1 e0 bJ ez j))
theorem af3{m1 r_ bR e0 w j}(h:TA m1 r_ bR e0 w j):M Pg 104 [.int .i64 m1,.pointer r_,.pointer (some bR),.pointer (some e0)] dU w j:=by
 have fY:=eg 9 (du [5,6,7,8,0,1,2,3,4,9,10,11,12,13] .e)
 have rQ:=eg 6 (du [4,0,1,2,3,5,6,7,8,9,10,11,12,13,14] .e)
 have iE:=fun {bJ:(Int×Int)}=>hs (bp:=Unit) 8 (fun s w=>E9 m1 e0 bJ w j) (fun g s=>ae (ae (ae (ae g 0 (.int .i64 m1)) 3 (.pointer (some e0))) 6 (.int .i64 (bJ.1))) 7 (.int .i64 (bJ.2)))
 exact bj 78 Tryz.func104 rfl rfl bk
def TB(aM:aL)(bt:Int)(JP:Int)(w:World)(j:(Bool×Int)→World→Prop):Prop:=M Pg 61 [.pointer (aM),.int .i64 (JP)] (bo cG (B .i64)) w fun cu aU=>bG 137 cG jv aU fun bP bN=>ba cG bP cu.1 bN fun bA=>ex (fun x=>(cu.2==(0:Int))=true→(L (B .i64) (bP.add 0) bA) x) fun c3=>j (((cu.2==(0:Int))&&(decide (bt<c3))),cu.2) bA
theorem af4{aM bt JP w j}(h:TB aM bt JP w j):M Pg 105 [.pointer aM,.int .i64 bt,.int .i64 JP] (bo bf (B .i64)) w j:=
 bj 25 Tryz.func105 rfl rfl bk
def E_(aM:aL)(bO:aL)(ja:aL)(cS:World)(j:Int→World→Prop):Prop:=M Pg 76 [.pointer (aM),.pointer (bO),.pointer (ja)] dU cS fun wZ fT=>j (0:Int) fT
def TC(aM:aL)(bO:aL)(ja:aL)(Hq:Int)(lW:Int)(w:World)(j:Int→World→Prop):Prop:=de w fun bT=>ex (bC bO) fun b7=>ex (L aE (b7.add 5) bT) fun cM=>M Pg 162 [.pointer (ja)] gh bT fun ca bU=>bw ((L aE (b7.add 5) bU) cM)<|M Pg 99 [.int .i64 (Hq),gh.enc (ca),.int .i64 (lW)] X bU fun et cl=>bw ((L aE (b7.add 5) cl) cM)<|M Pg 98 [.pointer (cM),X.enc (et)] (B .i64) cl fun mc dJ=>if (mc != (0:Int))=true then (j mc dJ) else (if (Hq==(2:Int))=true then (M Pg 149 [.pointer (ja),.int .i64 (lW)] (B .i64) dJ fun pg ez=>E_ aM bO ja ez j) else (M Pg 148 [.pointer (ja)] (B .i64) dJ fun m6 e1=>E_ aM bO ja e1 j))
theorem af5{aM bO ja Hq lW w j}(h:TC aM bO ja Hq lW w j):M Pg 106 [.pointer aM,.pointer bO,.pointer ja,.int .i64 Hq,.int .i64 lW] (B .i64) w j:=by
 have fY:=eg 2 (du [0,1,2,4,5,7,3,6,8,9,10] .e)
 have iE:=hs (bp:=Unit) 8 (fun s w=>E_ aM bO ja w j) (fun g s=>ae (ae (ae g 0 (.pointer aM)) 1 (.pointer bO)) 2 (.pointer ja))
 exact bj 36 Tryz.func106 rfl rfl bk
def TD(bK:af)(w:World)(j:af→World→Prop):Prop:=if bK.a.isNone=true then (j (⟨none,0,0⟩:af) w) else (s6 64 ew ([]:List gW) w fun aX bh=>tz 64 ew 10 80 (⟨some aX,0,0⟩:af) bK bh fun cu aU=>j cu aU)
theorem af6{bK w j}(h:TD bK w j):M Pg 107 [X.enc bK] X w j:=
 bj 8 Tryz.func107 rfl rfl bk
def TF(fz:Int)(uN:Int)(w:World)(j:(jt×Int)→World→Prop):Prop:=bG 137 cG jv w fun aA aU=>M Pg 166 [cG.enc ((⟨fz,fz⟩:jt)),.int .i64 (uN)] (bo cG (B .i64)) aU fun bJ a7=>ba cG aA bJ.1 a7 fun bN=>ex (L cG aA bN) fun cM=>j (cM,bJ.2) bN
theorem af8{fz uN w j}(h:TF fz uN w j):M Pg 111 [.int .i64 fz,.int .i64 uN] (bo cG (B .i64)) w j:=
 bj 13 Tryz.func111 rfl rfl bk
def TG(bK:jt)(Gt:Int)(ui:Nat)(w:World)(j:(jt×Int)→World→Prop):Prop:=bG 137 cG bK w fun a3 a7=>bG 137 cG jv a7 fun bP bN=>ex (L cG a3 bN) fun cM=>M Pg 167 [cG.enc (cM)] (B .i64) bN fun ca bU=>if (ca != (0:Int))=true then (ba cG bP (⟨(0:Int),(0:Int)⟩:jt) bU fun cF=>ex (L cG bP cF) fun e7=>j (e7,(50:Int)) cF) else (M Pg 168 [.int .i64 (Gt)] bf bU fun dw cg=>if (!dw)=true then (ba cG bP (⟨(0:Int),(0:Int)⟩:jt) cg fun dJ=>ex (L cG bP dJ) fun dm=>j (dm,(52:Int)) dJ) else (M Pg 87 [.float .f64 (ui)] (B .i64) cg fun gv cS=>if ((decide (gv<(3:Int)))||(fO .gtr ui (4607182418800017408:Nat)))=true then (ba cG bP (⟨(0:Int),(0:Int)⟩:jt) cS fun ed=>ex (L cG bP ed) fun gd=>j (gd,(51:Int)) ed) else (M Pg 95 [.int .i64 ((IntKind.i64.wrap (0-Gt))),.float .f64 (ui)] (bo (B .i64) (B .i64)) cS fun fI eo=>if (fI.2 != (0:Int))=true then (ba cG bP (⟨(0:Int),(0:Int)⟩:jt) eo fun eh=>ex (L cG bP eh) fun lY=>j (lY,(51:Int)) eh) else (ex (L cG a3 eo) fun hg=>M Pg 166 [cG.enc (hg),.int .i64 ((IntKind.i64.wrap (0-fI.1)))] (bo cG (B .i64)) eo fun fJ e2=>ba cG bP fJ.1 e2 fun fX=>ex (L cG bP fX) fun oO=>j (oO,fJ.2) fX))))
theorem af9{bK Gt ui w j}(h:TG bK Gt ui w j):M Pg 112 [cG.enc bK,.int .i64 Gt,.float .f64 ui] (bo cG (B .i64)) w j:=
 bj 45 Tryz.func112 rfl rfl bk
def TH(sY:Int)(w:World)(j:Bool→World→Prop):Prop:=j ((decide (sY≥(1:Int)))&&(decide (sY≤(6:Int)))) w
theorem aga{sY w j}(h:TH sY w j):M Pg 113 [.int .i64 sY] bf w j:=
 bj 9 Tryz.func113 rfl rfl bk
def Mi(ED:Int)(eK:Addr)(Kt:af)(lV:Int)(cS:World)(l2:af×Int→World→Prop)(j:af→World→Prop):Prop:=if (decide (lV<((⟨some eK,4,4⟩:af).len:Int)))=true then (ex (cD (⟨some eK,4,4⟩:af) 1 lV) fun iV=>ex (L (B .i64) iV cS) fun gd=>l3 197 gg 5 48 Kt [(⟨(2:Int),(0:Int),gd,(0:Nat),([]:List UInt8)⟩:mP)] cS fun w0 eh=>l2 (w0,(IntKind.i64.wrap (lV+(1:Int)))) eh) else (l3 197 gg 5 48 Kt [(⟨(1:Int),ED,(0:Int),(0:Nat),([]:List UInt8)⟩:mP)] cS fun dP fW=>M Pg 161 [X.enc (dP)] (bo X (B .i64)) fW fun sf lp=>j sf.1 lp)
def Fa(aX:Addr)(ED:Int)(a7:World)(j:af→World→Prop):Prop:=ex (L (B .i64) (aX.add 0) a7) fun cB=>s6 197 gg [(⟨(1:Int),(IntKind.u64.wrap cB),(0:Int),(0:Nat),([]:List UInt8)⟩:mP)] a7 fun b7 bA=>ex (L (B .i64) (aX.add 1) bA) fun c3=>ex (L (B .i64) (aX.add 2) bA) fun dG=>ex (L (B .i64) (aX.add 3) bA) fun c2=>ex (L (B .i64) (aX.add 4) bA) fun e7=>s6 2 (B .i64) [c3,dG,c2,e7] bA fun eK c1=>eZ (fun (s:af×Int) w aa=>Mi ED eK s.1 s.2 w aa j) ((⟨some b7,1,1⟩:af),(0:Int)) c1
def TI(h6:jI)(w:World)(j:af→World→Prop):Prop:=bG 142 fL h6 w fun aX bh=>ex (L bf (aX.add 5) bh) fun k3=>if k3=true then (Fa aX (1:Int) bh j) else (Fa aX (0:Int) bh j)
theorem agb{h6 w j}(h:TI h6 w j):M Pg 114 [fL.enc h6] X w j:=by
 have iQ:=fun {ED} {eK}=>hb (bp:=af×Int) 7 (fun s w aa=>Mi ED eK s.1 s.2 w aa j) (fun g s=>ae (ae (ae (ae (ae g 3 (.int .u64 ED)) 24 (X.enc ((⟨some eK,4,4⟩:af)))) 25 (.int .i64 (((⟨some eK,4,4⟩:af).len:Int)))) 4 (X.enc (s.1))) 26 (.int .i64 (s.2)))
 have iE:=fun {aX}=>hs (bp:=Int) 5 (fun s w=>Fa aX s w j) (fun g s=>ae (ae g 1 (.pointer (some aX))) 3 (.int .u64 s))
 exact bj 46 Tryz.func114 rfl rfl bk
def TJ(bK:aL)(kw:jI)(w:World)(j:Int→World→Prop):Prop:=bG 142 fL kw w fun aA aU=>ex (L (B .i64) (aA.add 0) aU) fun dH=>if (dH==(1:Int))=true then (de aU fun bT=>ex (bC bK) fun b7=>ex (L aE (b7.add 1) bT) fun cM=>ex (L (B .i64) (aA.add 1) bT) fun c3=>ex (L (B .i64) (aA.add 3) bT) fun dG=>ex (L (B .i64) (aA.add 4) bT) fun c2=>M Pg 169 [.pointer (cM),.int .i64 (c3),.int .i64 (dG),.int .i64 (c2)] (B .i64) bT fun et cl=>j et cl) else (if (dH==(2:Int))=true then (de aU fun c1=>ex (bC bK) fun gr=>ex (L aE (gr.add 1) c1) fun dm=>ex (L (B .i64) (aA.add 1) c1) fun jH=>ex (L (B .i64) (aA.add 2) c1) fun dL=>ex (L (B .i64) (aA.add 3) c1) fun hH=>ex (L (B .i64) (aA.add 4) c1) fun gd=>ex (L bf (aA.add 5) c1) fun kO=>M Pg 170 [.pointer (dm),.int .i64 (jH),gX.enc ((⟨dL,hH,gd,kO⟩:iv))] (B .i64) c1 fun m6 e1=>bw ((L (B .i64) (aA.add 2) e1) dL)<|bw ((L (B .i64) (aA.add 3) e1) hH)<|bw ((L (B .i64) (aA.add 4) e1) gd)<|bw ((L bf (aA.add 5) e1) kO)<|j m6 e1) else (de aU fun fX=>ex (L (B .i64) (aA.add 0) fX) fun oO=>ex (L (B .i64) (aA.add 1) fX) fun kd=>ex (L (B .i64) (aA.add 2) fX) fun lu=>M Pg 171 [.pointer (bK),.int .i64 (oO)] gb fX fun ta gQ=>bw ((L (B .i64) (aA.add 1) gQ) kd)<|bw ((L (B .i64) (aA.add 2) gQ) lu)<|sE Pg ta [.int .i64 (kd),.int .i64 (lu)] (B .i64) gQ fun k2 lq=>bw ((L (B .i64) (aA.add 0) lq) oO)<|j k2 lq))
theorem agc{bK kw w j}(h:TJ bK kw w j):M Pg 115 [.pointer bK,fL.enc kw] (B .i64) w j:=by
 have fY:=eg 4 (du [0,1,2,4,6,8,3,5,7,9,10,11] .e)
 have rQ:=eg 6 (du [0,1,2,4,6,8,10,12,3,5,7,9,11,13,14,15,16] .e)
 have DA:=eg 7 (du [0,1,4,6,2,5,7,3,8,9] .e)
 exact bj 47 Tryz.func115 rfl rfl bk
def TK(fz:Int)(w:World)(j:Bool→World→Prop):Prop:=j ((decide (fz≥(1:Int)))&&(decide (fz≤(1125899906842624:Int)))) w
theorem agd{fz w j}(h:TK fz w j):M Pg 116 [.int .i64 fz] bf w j:=
 bj 9 Tryz.func116 rfl rfl bk
def Fb(pY:Int)(Kt:af)(dK:World)(l1:af×Int→World→Prop)(j:(af×Int)→World→Prop):Prop:=l1 (Kt,(IntKind.i64.wrap (pY+(1:Int)))) dK
def Mj(gY:Int)(bS:Addr)(ca:af)(QL:af)(pY:Int)(cg:World)(l1:af×Int→World→Prop)(j:(af×Int)→World→Prop):Prop:=if (decide (pY<(ca.len:Int)))=true then (ex (cD ca 1 pY) fun k_=>ex (L (B .i64) k_ cg) fun dL=>ex (L ef (bS.add 0) cg) fun hH=>ex (ih aE .i64 hH dL cg) fun QT=>M Pg 174 [.pointer ((QT.getD (none:Option Addr))),.int .i64 (gY)] (bo dD (B .i64)) cg fun fI eo=>bG 292 dD kj eo fun zy fK=>ba dD zy fI.1 fK fun ir=>if (fI.2==(0:Int))=true then (ex (L (B .i64) (zy.add 1) ir) fun kP=>l3 87 hL 2 16 QL [(⟨dL,kP⟩:fu)] ir fun sf lp=>Fb pY sf lp l1 j) else (Fb pY QL ir l1 j)) else (j (QL,(0:Int)) cg)
def TL(bK:aL)(gY:Int)(w:World)(j:(af×Int)→World→Prop):Prop:=M Pg 172 [.pointer (bK),.int .i64 (gY)] (B .i64) w fun cA bh=>if (cA != (0:Int))=true then (j ((⟨none,0,0⟩:af),cA) bh) else (ex (bC bK) fun bS=>ex (L ef (bS.add 0) bh) fun cB=>M Pg 173 [.map (cB)] gb bh fun cp bN=>M Pg 59 [(cp).enc] X bN fun ca bU=>eZ (fun (s:af×Int) w aa=>Mj gY bS ca s.1 s.2 w aa j) ((⟨none,0,0⟩:af),(0:Int)) bU)
theorem age{bK gY w j}(h:TL bK gY w j):M Pg 117 [.pointer bK,.int .i64 gY] (bo X (B .i64)) w j:=by
 have iE:=fun {pY} {l1} {ca:af}=>hs (bp:=af) 12 (fun s w=>Fb pY s w l1 j) (fun g s=>ae (ae (ae (ae (ae (ae g 0 (.pointer bK)) 1 (.int .i64 gY)) 23 (X.enc ca)) 24 (.int .i64 ((ca.len:Int)))) 25 (.int .i64 pY)) 7 (X.enc s))
 have iQ:=fun {bS} {ca:af}=>hb (bp:=af×Int) 7 (fun s w aa=>Mj gY bS ca s.1 s.2 w aa j) (fun g s=>ae (ae (ae (ae (ae (ae g 0 (.pointer bK)) 1 (.int .i64 gY)) 23 (X.enc ca)) 24 (.int .i64 ((ca.len:Int)))) 7 (X.enc (s.1))) 25 (.int .i64 (s.2)))
 exact bj 51 Tryz.func117 rfl rfl bk
def TM(zF:Int)(w:World)(j:Int→World→Prop):Prop:=if (zF==(120:Int))=true then (j (151:Int) w) else (if (zF==(128:Int))=true then (j (164:Int) w) else (if (zF==(126:Int))=true then (j (165:Int) w) else (if (zF==(127:Int))=true then (j (159:Int) w) else (j zF w))))
theorem agf{zF w j}(h:TM zF w j):M Pg 118 [.int .i64 zF] (B .i64) w j:=
 bj 13 Tryz.func118 rfl rfl bk
def TN(bK:af)(jg:cc)(w:World)(j:Bool→World→Prop):Prop:=M Pg 175 [X.enc (bK),(jg).enc] (B .i64) w fun cA bh=>j (decide (cA≥(0:Int))) bh
theorem agh{bK jg w j}(h:TN bK jg w j):M Pg 119 [X.enc bK,jg.enc] bf w j:=
 bj 9 Tryz.func119 rfl rfl bk
def TO(fr:my)(bt:Addr)(w:World)(j:Bool→World→Prop):Prop:=bG 85 p7 fr w fun aA aU=>ex (L (B .i64) (aA.add 0) aU) fun dH=>ex (L (B .i64) bt aU) fun cB=>j (dH != cB) aU
theorem agj{fr bt w j}(h:TO fr bt w j):M Pg 120 [p7.enc fr,.pointer (some bt)] bf w j:=
 bj 8 Tryz.func120 rfl rfl bk
def IF(uq:cc)(bR:Int)(c2:af)(pY:Int)(cg:World)(gy:Int→World→Prop)(l1:Int→World→Prop)(j:Int→World→Prop):Prop:=if (decide (pY<(c2.len:Int)))=true then (ex (cD c2 2 pY) fun gr=>ex (L hL gr cg) fun dm=>bG 87 hL Dj cg fun k_ fT=>ba hL k_ dm fT fun ed=>ex (L hL k_ ed) fun gd=>tF Pg uq [hL.enc (gd)] (B .i64) ed fun fI eo=>if (fI != (0:Int))=true then (j fI eo) else (l1 ((IntKind.i64.wrap (pY+(1:Int)))) eo)) else (gy ((IntKind.i64.wrap (bR+(1:Int)))) cg)
def Mp(fV:af)(uq:cc)(bR:Int)(aU:World)(gy:Int→World→Prop)(j:Int→World→Prop):Prop:=if (decide (bR<(fV.len:Int)))=true then (ex (cD fV 2 bR) fun bP=>ex (L p7 bP aU) fun cw=>bG 85 p7 Xc aU fun cH bU=>ba p7 cH cw bU fun cd=>ex (L X (cH.add 1) cd) fun c2=>eZ (fun (s:Int) w aa=>IF uq bR c2 s w gy aa j) ((0:Int)) cd) else (j (0:Int) aU)
def TP(fV:af)(uq:cc)(w:World)(j:Int→World→Prop):Prop:=eZ (fun (s:Int) w aa=>Mp fV uq s w aa j) ((0:Int)) w
theorem agk{fV uq w j}(h:TP fV uq w j):M Pg 121 [X.enc fV,uq.enc] (B .i64) w j:=by
 have iQ:=fun {bR} {c2:af} {gy}=>hb (bp:=Int) 6 (fun s w aa=>IF uq bR c2 s w gy aa j) (fun g s=>ae (ae (ae (ae (ae (ae (ae g 1 (uq.enc)) 10 (X.enc fV)) 11 (.int .i64 ((fV.len:Int)))) 12 (.int .i64 bR)) 17 (X.enc c2)) 18 (.int .i64 ((c2.len:Int)))) 19 (.int .i64 s))
 have Eh:=hb (bp:=Int) 3 (fun s w aa=>Mp fV uq s w aa j) (fun g s=>ae (ae (ae (ae g 1 (uq.enc)) 10 (X.enc fV)) 11 (.int .i64 ((fV.len:Int)))) 12 (.int .i64 s))
 exact bj 31 Tryz.func121 rfl rfl bk
def Fc(bt:Addr)(bR:Addr)(a3:Addr)(aHR:Bool)(cl:World)(j:Int→World→Prop):Prop:=if aHR=true then (j (183:Int) cl) else (ex (L (B .i64) (a3.add 1) cl) fun dQ=>ex (L (B .i64) bR cl) fun eu=>if (decide (dQ>(IntKind.i64.wrap ((4611686018427387904:Int)-eu))))=true then (j (184:Int) cl) else (de cl fun dJ=>ex (L ef bt dJ) fun dm=>ex (L (B .i64) (a3.add 0) dJ) fun jH=>ex (L (B .i64) (a3.add 1) dJ) fun dL=>ex (L (B .i64) bR dJ) fun hH=>ex (L (B .i64) (a3.add 1) dJ) fun gd=>qh (B .i64) .i64 dm jH dL dJ fun eo=>bw ((L (B .i64) bR eo) hH)<|bw ((L (B .i64) (a3.add 1) eo) gd)<|ba (B .i64) bR (IntKind.i64.wrap (hH+gd)) eo fun fK=>j (0:Int) fK))
def TQ(h6:fu)(bt:Addr)(bR:Addr)(w:World)(j:Int→World→Prop):Prop:=bG 87 hL h6 w fun a3 a7=>ex (L ef bt a7) fun cB=>ex (L (B .i64) (a3.add 0) a7) fun cw=>ex (ih (B .i64) .i64 cB cw a7) fun abE=>ex (L (B .i64) (a3.add 0) a7) fun c3=>ex (fun x=>(!(decide (c3<(0:Int))))=true→(L (B .i64) (a3.add 0) a7) x) fun dG=>if ((decide (c3<(0:Int)))||(decide (dG≥(8192:Int))))=true then (j (181:Int) a7) else (if ((abE.getD (0:Int),abE.isSome)).2=true then (j (182:Int) a7) else (de a7 fun fW=>ex (L (B .i64) (a3.add 1) fW) fun mK=>if (decide (mK<(0:Int)))=true then (Fc bt bR a3 true fW j) else (ex (L (B .i64) (a3.add 1) fW) fun kd=>ex (L (B .i64) (a3.add 0) fW) fun lu=>M Pg 123 [.int .i64 (lu)] (B .i64) fW fun ta gQ=>bw ((L (B .i64) (a3.add 1) gQ) mK)<|bw ((L (B .i64) (a3.add 1) gQ) kd)<|Fc bt bR a3 (decide (kd>ta)) gQ j)))
theorem agl{h6 bt bR w j}(h:TQ h6 bt bR w j):M Pg 122 [hL.enc h6,.pointer (some bt),.pointer (some bR)] (B .i64) w j:=by
 have fY:=eg 11 (du [1,3,6,0,2,4,5,7,8,9,10] .e)
 have rQ:=eg 7 (du [0,1,2,3,4,6,5,7,8,9,10,11] .e)
 have iE:=fun {a3}=>hs (bp:=Bool) 8 (fun s w=>Fc bt bR a3 s w j) (fun g s=>ae (ae (ae (ae g 1 (.pointer (some bt))) 2 (.pointer (some bR))) 3 (.pointer (some a3))) 25 (.bool s))
 exact bj 52 Tryz.func122 rfl rfl bk
def TR(wI:Int)(w:World)(j:Int→World→Prop):Prop:=if (decide (wI<(4096:Int)))=true then (j (1000000000000000:Int) w) else (j (4611686018427387904:Int) w)
theorem agm{wI w j}(h:TR wI w j):M Pg 123 [.int .i64 wI] (B .i64) w j:=
 bj 5 Tryz.func123 rfl rfl bk
end bb
end Go.Proofs.YthaobmpdjcoheaaGreat
