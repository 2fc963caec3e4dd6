/- Own texts of this claim, part 7: short, merged. -/
import Derived.Test.YthaobmpdjcoheaaGreatZ1
set_option maxRecDepth 100000
set_option maxHeartbeats 40000000
set_option linter.defProp false
set_option linter.unusedVariables false
set_option linter.unusedSimpArgs false
namespace Go.Proofs.YthaobmpdjcoheaaGreat
namespace bb
def TS(bd:aL)(oz:Int)(w:World)(j:Bool→World→Prop):Prop:=ex (fun x=>(decide (oz≥(0:Int)))=true→(bC bd) x) fun aA=>ex (fun x=>(decide (oz≥(0:Int)))=true→(L (B .i64) (aA.add 0) w) x) fun c6=>j ((decide (oz≥(0:Int)))&&(decide (oz<c6))) w
theorem agn{bd oz w j}(h:TS bd oz w j):M Pg 124 [.pointer bd,.int .i64 oz] bf w j:=
 bj 15 Tryz.func124 rfl rfl bk
def TT(r3:(Option Nat))(w:World)(j:cc→World→Prop):Prop:=bG 97 ef r3 w fun aX bh=>j (cc.mk (.func 176) (List.toArray []) (List.toArray [.pointer (some aX)])) bh
theorem ago{r3 w j}(h:TT r3 w j):M Pg 125 [.map r3] gb w j:=
 bj 4 Tryz.func125 rfl rfl bk
def Fe(bR:Int)(aBH:af)(bN:World)(gy:af×Int→World→Prop)(j:af→World→Prop):Prop:=gy (aBH,(IntKind.i64.wrap (bR+(1:Int)))) bN
def AP(cY:af)(bR:Int)(zA:Bool)(ami:Bool)(cg:World)(gy:af×Int→World→Prop)(j:af→World→Prop):Prop:=if (!ami)=true then (l3 4 bf 1 1 cY [zA] cg fun Cq dK=>Fe bR Cq dK gy j) else (Fe bR cY cg gy j)
def Mq(dk:aL)(cY:af)(bR:Int)(aU:World)(gy:af×Int→World→Prop)(j:af→World→Prop):Prop:=if (decide (bR<(2:Int)))=true then (ex (WW (⟨#[true,false],rfl⟩:(Vector Bool 2)) bR) fun zA=>ex (bC dk) fun dy=>ex (oh (dy.add 4) 2 3 bR) fun eJ=>ex (L bf (eJ.add 0) aU) fun c2=>ex (L (B .i64) (dy.add 12) aU) fun hH=>if (hH != (0:Int))=true then (ex (oh (dy.add 10) 2 1 bR) fun pw=>ex (L bf pw aU) fun kO=>AP cY bR zA kO aU gy j) else (AP cY bR zA c2 aU gy j)) else (j cY aU)
def TU(dk:aL)(w:World)(j:af→World→Prop):Prop:=eZ (fun (s:af×Int) w aa=>Mq dk s.1 s.2 w aa j) ((⟨none,0,0⟩:af),(0:Int)) w
theorem agp{dk w j}(h:TU dk w j):M Pg 126 [.pointer dk] X w j:=by
 have iE:=fun {cY} {bR} {zA} {gy}=>hs (bp:=Bool) 9 (fun s w=>AP cY bR zA s w gy j) (fun g s=>ae (ae (ae (ae (ae (ae g 0 (.pointer dk)) 3 (X.enc cY)) 5 (.bool zA)) 7 ((qA bf 2).enc ((⟨#[true,false],rfl⟩:(Vector Bool 2))))) 8 (.int .i64 bR)) 6 (.bool s))
 have Hm:=fun {bR} {gy}=>hs (bp:=af) 11 (fun s w=>Fe bR s w gy j) (fun g s=>ae (ae (ae (ae g 0 (.pointer dk)) 7 ((qA bf 2).enc ((⟨#[true,false],rfl⟩:(Vector Bool 2))))) 8 (.int .i64 bR)) 3 (X.enc s))
 have iQ:=hb (bp:=af×Int) 4 (fun s w aa=>Mq dk s.1 s.2 w aa j) (fun g s=>ae (ae (ae (ae g 0 (.pointer dk)) 7 ((qA bf 2).enc ((⟨#[true,false],rfl⟩:(Vector Bool 2))))) 3 (X.enc (s.1))) 8 (.int .i64 (s.2)))
 exact bj 38 Tryz.func126 rfl rfl bk
def TV(dk:aL)(jT:Bool)(w:World)(j:iv→World→Prop):Prop:=bG 60 gX zx w fun aA aU=>if jT=true then (de aU fun a7=>ex (bC dk) fun bP=>ex (L (B .i64) ((bP.add 0).add 0) a7) fun cw=>ex (L (B .i64) ((bP.add 0).add 1) a7) fun cM=>ex (L (B .i64) ((bP.add 0).add 3) a7) fun c3=>ba gX aA (⟨(IntKind.i64.wrap ((IntKind.i64.wrap ((2:Int)*cw))-(1:Int))),cM,c3,true⟩:iv) a7 fun cd=>ex (L gX aA cd) fun c2=>j c2 cd) else (de aU fun cl=>ex (bC dk) fun eK=>ex (L (B .i64) ((eK.add 0).add 0) cl) fun eu=>ex (L (B .i64) ((eK.add 0).add 2) cl) fun fs=>ex (L (B .i64) ((eK.add 0).add 3) cl) fun dm=>ba gX aA (⟨(IntKind.i64.wrap ((2:Int)*eu)),fs,dm,false⟩:iv) cl fun cS=>ex (L gX aA cS) fun dL=>j dL cS)
theorem agq{dk jT w j}(h:TV dk jT w j):M Pg 127 [.pointer dk,.bool jT] gX w j:=by
 have fY:=eg 3 (du [0,1,2,3,7,8,9,10,12,13,14,15,4,5,6,11,16,17,18] .e)
 have rQ:=eg 4 (du [0,1,2,3,6,7,8,9,11,12,13,14,4,5,10,15,16,17] .e)
 exact bj 41 Tryz.func127 rfl rfl bk
def TW(qF:aL)(Gp:Int)(w:World)(j:Int→World→Prop):Prop:=ex (bC qF) fun aA=>ex (L bf (aA.add 4) w) fun c6=>ba bf (aA.add 4) (c6||(Gp==(71:Int))) w fun a7=>j Gp a7
theorem agr{qF Gp w j}(h:TW qF Gp w j):M Pg 128 [.pointer qF,.int .i64 Gp] (B .i64) w j:=
 bj 17 Tryz.func128 rfl rfl bk
def TX(c5:aL)(bO:Int)(w:World)(j:Int→World→Prop):Prop:=M Pg 177 [.pointer (c5),.int .i64 (bO),.int .i64 ((0:Int)),((cc.mk (.func 178) #[] #[])).enc] (B .i64) w fun cA bh=>j cA bh
theorem ags{c5 bO w j}(h:TX c5 bO w j):M Pg 129 [.pointer c5,.int .i64 bO] (B .i64) w j:=
 bj 8 Tryz.func129 rfl rfl bk
def TZ(bd:aL)(kw:gW)(w:World)(j:Int→World→Prop):Prop:=bG 64 ew kw w fun aA aU=>ex (bC bd) fun bS=>ex (L X (bS.add 2) aU) fun cB=>if (decide ((cB.len:Int)≥(1000:Int)))=true then (j (91:Int) aU) else (de aU fun bN=>ex (L X (bS.add 2) bN) fun cM=>ex (L ew aA bN) fun c3=>l3 64 ew 10 80 cM [c3] bN fun et cl=>bw ((L ew aA cl) c3)<|ba X (bS.add 2) et cl fun dJ=>j (0:Int) dJ)
theorem agu{bd kw w j}(h:TZ bd kw w j):M Pg 130 [.pointer bd,ew.enc kw] (B .i64) w j:=by
 have fY:=eg 4 (du [0,1,2,3,4,5,6,7,8,9,10] .e)
 exact bj 21 Tryz.func130 rfl rfl bk
def T0(bd:aL)(bZ:Int)(w:World)(j:(gW×Int)→World→Prop):Prop:=bG 64 ew k9 w fun aA aU=>ex (fun x=>(!(decide (bZ<(0:Int))))=true→(bC bd) x) fun bS=>ex (fun x=>(!(decide (bZ<(0:Int))))=true→(L X (bS.add 2) aU) x) fun cB=>if ((decide (bZ<(0:Int)))||(decide (bZ≥(cB.len:Int))))=true then (ba ew aA (⟨(0:Int),(0:Int),(0:Int),uG⟩:gW) aU fun bN=>ex (L ew aA bN) fun cM=>j (cM,(92:Int)) bN) else (ex (bC bd) fun dy=>ex (L X (dy.add 2) aU) fun dG=>ex (cD dG 10 bZ) fun fD=>ex (L ew fD aU) fun e7=>ba ew aA e7 aU fun cg=>ex (L ew aA cg) fun eu=>j (eu,(0:Int)) cg)
theorem agv{bd bZ w j}(h:T0 bd bZ w j):M Pg 131 [.pointer bd,.int .i64 bZ] (bo ew (B .i64)) w j:=
 bj 25 Tryz.func131 rfl rfl bk
def T1(bd:aL)(oz:Int)(w:World)(j:Bool→World→Prop):Prop:=ex (bC bd) fun aA=>ex (L ef (aA.add 3) w) fun c6=>ex (ih fm .i64 c6 oz w) fun jl=>bG 164 fm qT w fun bP bN=>ba fm bP (((jl.getD qT,jl.isSome)).1) bN fun bA=>j (((jl.getD qT,jl.isSome)).2) bA
theorem agw{bd oz w j}(h:T1 bd oz w j):M Pg 132 [.pointer bd,.int .i64 oz] bf w j:=
 bj 17 Tryz.func132 rfl rfl bk
def T2(bK:af)(bZ:Int)(Ed:Int)(w:World)(j:af→World→Prop):Prop:=ex (Sub bK 10 bZ Ed (bK.len:Int)) fun aer=>if (bZ==Ed)=true then (j bK w) else (de w fun a7=>ex (Sub bK 10 0 bZ ((bK).cap:Int)) fun w3=>ex (Sub bK 10 Ed ((bK).len:Int) ((bK).cap:Int)) fun H_=>tz 64 ew 10 80 w3 H_ a7 fun fj bA=>ex (Sub fj 10 (fj.len:Int) (bK.len:Int) ((fj).cap:Int)) fun aeq=>wh ew 10 k9 aeq bA fun cF=>j fj cF)
theorem agx{bK bZ Ed w j}(h:T2 bK bZ Ed w j):M Pg 133 [X.enc bK,.int .i64 bZ,.int .i64 Ed] X w j:=by
 have fY:=eg 6 (du [0,1,2,3,4,5,6,7] .e)
 exact bj 33 Tryz.func133 rfl rfl bk
def AQ(fK:World)(j:Int→World→Prop):Prop:=j (0:Int) fK
def Fh(dk:aL)(jT:Bool)(mq:Bool)(b7:Addr)(acd:Addr)(cl:World)(j:Int→World→Prop):Prop:=ex (L bf (acd.add 0) cl) fun dQ=>ex (fun x=>dQ=true→(L mR acd cl) x) fun eu=>ex (fun x=>dQ=true→(L mR b7 cl) x) fun fs=>if (dQ&&(!(lx.gZ eu fs)))=true then (j (175:Int) cl) else (de cl fun dK=>ex (bC dk) fun k_=>ex (L mR b7 dK) fun dL=>M Pg 136 [.bool (jT)] (B .i64) dK fun mE ed=>bw ((L mR b7 ed) dL)<|ex (oh (k_.add 4) 2 3 mE) fun rM=>ba mR rM dL ed fun eh=>ex (fun x=>(!mq)=true→(bC dk) x) fun I2=>ex (fun x=>(!mq)=true→(L (B .i64) (I2.add 12) eh) x) fun kP=>if ((!mq)&&(kP==(0:Int)))=true then (ba (B .i64) (k_.add 12) (3:Int) eh fun fW=>AQ fW j) else (AQ eh j))
def Fg(dk:aL)(jT:Bool)(mq:Bool)(b7:Addr)(cd:World)(j:Int→World→Prop):Prop:=de cd fun gN=>ex (bC dk) fun Bb=>sC (M Pg 136 [.bool (jT)] (B .i64) gN fun ta gQ=>ex (oh (Bb.add 4) 2 3 ta) fun I3=>ex (L mR I3 gQ) fun mL=>bG 210 mR qU gQ fun Bc lr=>ba mR Bc mL lr fun ml=>Fh dk jT mq b7 Bc ml j) (bG 210 mR qU gN fun oX kL=>M Pg 136 [.bool (jT)] (B .i64) kL fun qq oM=>ex (oh (Bb.add 4) 2 3 qq) fun xz=>ex (L mR xz oM) fun AI=>ba mR oX AI oM fun ob=>Fh dk jT mq b7 oX ob j)
def Ff(dk:aL)(jT:Bool)(mq:Bool)(e0:Int)(lW:Bool)(bT:World)(j:Int→World→Prop):Prop:=if lW=true then (j (174:Int) bT) else (bG 210 mR qU bT fun b7 bA=>ba mR b7 (⟨true,mq,(0:Int)⟩:lx) bA fun bU=>if mq=true then (ba (B .i64) (b7.add 2) e0 bU fun nK=>Fg dk jT mq b7 nK j) else (Fg dk jT mq b7 bU j))
def T3(dk:aL)(jT:Bool)(mq:Bool)(e0:Int)(w:World)(j:Int→World→Prop):Prop:=if mq=true then (M Pg 179 [.int .i64 (e0)] bf w fun mg qD=>Ff dk jT mq e0 (!mg) qD j) else (Ff dk jT mq e0 false w j)
theorem agy{dk jT mq e0 w j}(h:T3 dk jT mq e0 w j):M Pg 134 [.pointer dk,.bool jT,.bool mq,.int .i64 e0] (B .i64) w j:=by
 have fY:=eg 10 (du [0,1,4,5,3,2,6,7] .e)
 have iE:=hs (bp:=Unit) 13 (fun s w=>AQ w j) (fun g s=>g)
 have rQ:=eg 7 (du [0,1,3,4] (.l 2 7 (du [5,6,7,8] .e) (du [2,5,6,8] .e)))
 have Hm:=fun {b7}=>hs (bp:=Addr) 8 (fun s w=>Fh dk jT mq b7 s w j) (fun g s=>ae (ae (ae (ae (ae g 0 (.pointer dk)) 1 (.bool jT)) 2 (.bool mq)) 9 (.pointer (some b7))) 10 (.pointer (some s)))
 have aBk:=fun {b7}=>hs (bp:=Unit) 7 (fun s w=>Fg dk jT mq b7 w j) (fun g s=>ae (ae (ae (ae g 0 (.pointer dk)) 1 (.bool jT)) 2 (.bool mq)) 9 (.pointer (some b7)))
 have o8:=pN (bp:=Bool) [2,3,4,5] [] (fun s w=>Ff dk jT mq e0 s w j) (fun g s=>ae (ae (ae (ae (ae g 0 (.pointer dk)) 1 (.bool jT)) 2 (.bool mq)) 3 (.int .i64 e0)) 16 (.bool s))
 exact bj 55 Tryz.func134 rfl rfl bk
def T4(dk:aL)(w:World)(j:(Int×Bool)→World→Prop):Prop:=M Pg 180 [.pointer (dk)] bf w fun ga cm=>ex (fun x=>(!(!ga))=true→(bC dk) x) fun a3=>ex (fun x=>(!(!ga))=true→(L (B .i64) (a3.add 12) cm) x) fun dH=>if ((!ga)||(dH != (0:Int)))=true then (j ((0:Int),false) cm) else (de cm fun bT=>ex (bC dk) fun b7=>ex (oh (b7.add 4) 2 3 (0:Int)) fun cH=>ex (oh (b7.add 4) 2 3 (1:Int)) fun dy=>ex (L (B .i64) (cH.add 2) bT) fun dG=>ex (L (B .i64) (dy.add 2) bT) fun c2=>j ((max dG c2),true) bT)
theorem agz{dk w j}(h:T4 dk w j):M Pg 135 [.pointer dk] (bo (B .i64) bf) w j:=by
 have fY:=eg 4 (du [0,1,2,3,4,6,7,8,9,10,5,11,12,13,14] .e)
 exact bj 27 Tryz.func135 rfl rfl bk
def T5(K_:Bool)(w:World)(j:Int→World→Prop):Prop:=if K_=true then (j (0:Int) w) else (j (1:Int) w)
theorem agA{K_ w j}(h:T5 K_ w j):M Pg 136 [.bool K_] (B .i64) w j:=
 bj 4 Tryz.func136 rfl rfl bk
def CS(anN:Nat)(aU:World)(j:Bool→World→Prop):Prop:=j (fO .gtr anN (9218868437227405311:Nat)) aU
def Ms(eR:Nat)(Ib:Int)(w:World)(j:Bool→World→Prop):Prop:=if (Ib==(0:Int))=true then (M Pg 181 [.float .f64 (eR)] gK w fun bJ a7=>CS bJ a7 j) else (if (decide (Ib<(0:Int)))=true then (CS (Op.negFloat .f64 eR) w j) else (CS eR w j))
theorem T6{eR Ib w j}(h:Ms eR Ib w j):M Pg 138 [.float .f64 eR,.int .i64 Ib] bf w j:=by
 have iE:=hs (bp:=Nat) 6 (fun s w=>CS s w j) (fun g s=>ae g 0 (.float .f64 s))
 exact bj 15 Tryz.func138 rfl rfl bk
def T7(eR:Nat)(w:World)(j:Int→World→Prop):Prop:=if (fO .neq eR eR)=true then (j (0:Int) w) else (ex (iL (63:Int) (Int.fdiv (eR:Int) (2^(min ((63:Int)).toNat IntKind.u64.bits)))) fun d2=>if (d2==(1:Int))=true then (j (bits .xor .u64 IntKind.u64.max (eR:Int)) w) else (j (bits .or .u64 (eR:Int) (9223372036854775808:Int)) w))
theorem agB{eR w j}(h:T7 eR w j):M Pg 139 [.float .f64 eR] (B .u64) w j:=
 bj 16 Tryz.func139 rfl rfl bk
def T9(uh:Nat)(w:World)(j:(aL×Int)→World→Prop):Prop:=M Pg 38 [.float .f64 (uh)] (B .i64) w fun ga cm=>if (ga != (0:Int))=true then (j ((none:Option Addr),(150:Int)) cm) else (M Pg 182 [] aE cm fun cu aU=>ua aU fun Em bT=>ua bT fun lM bA=>ua bA fun aCp cd=>bG 72 A8 (⟨(⟨cu⟩:mQ),uh,(0:Int),(some Em),(some lM),(some aCp)⟩:tw) cd fun fM cg=>j ((some fM),(0:Int)) cg)
theorem agD{uh w j}(h:T9 uh w j):M Pg 140 [.float .f64 uh] (bo aE (B .i64)) w j:=
 bj 15 Tryz.func140 rfl rfl bk
def Mu(aX:Addr)(cu:(af×Int×Int))(uo:af)(w6:Int)(fT:World)(IT:Int→World→Prop)(j:(jI×Bool)→World→Prop):Prop:=if (decide (w6<(uo.len:Int)))=true then (ex (cD uo 5 w6) fun pw=>ex (L gg pw fT) fun kO=>bG 197 gg ty fT fun rM eh=>ba gg rM kO eh fun fK=>ex (L (B .i64) (rM.add 0) fK) fun hg=>if (hg != (2:Int))=true then (ba fL aX (⟨(0:Int),(0:Int),(0:Int),(0:Int),(0:Int),false⟩:jI) fK fun e2=>ex (L fL aX e2) fun oN=>j (oN,false) e2) else (IT ((IntKind.i64.wrap (w6+(1:Int)))) fK)) else (ex (cD cu.1 5 (0:Int)) fun v8=>ex (L (B .u64) (v8.add 1) fT) fun kd=>M Pg 113 [.int .i64 ((IntKind.i64.wrap kd))] bf fT fun sg h3=>if (!sg)=true then (ba fL aX (⟨(0:Int),(0:Int),(0:Int),(0:Int),(0:Int),false⟩:jI) h3 fun is=>ex (L fL aX is) fun kv=>j (kv,false) is) else (de h3 fun jd=>ex (cD cu.1 5 (0:Int)) fun Bc=>ex (cD cu.1 5 (1:Int)) fun F5=>ex (cD cu.1 5 (2:Int)) fun xy=>ex (cD cu.1 5 (3:Int)) fun oX=>ex (cD cu.1 5 (4:Int)) fun uH=>ex (cD cu.1 5 (5:Int)) fun uI=>ex (L (B .u64) (Bc.add 1) jd) fun th=>ex (L (B .i64) (F5.add 2) jd) fun ti=>ex (L (B .i64) (xy.add 2) jd) fun AI=>ex (L (B .i64) (oX.add 2) jd) fun rE=>ex (L (B .i64) (uH.add 2) jd) fun E4=>ex (L (B .u64) (uI.add 1) jd) fun oP=>ba fL aX (⟨(IntKind.i64.wrap th),ti,AI,rE,E4,(oP==(1:Int))⟩:jI) jd fun pZ=>ex (L fL aX pZ) fun qJ=>j (qJ,true) pZ))
def Mt(eL:af)(w:World)(j:(jI×Bool)→World→Prop):Prop:=bG 142 fL Di w fun aX bh=>M Pg 93 [X.enc (eL)] (mj X (B .i64) (B .i64)) bh fun cu aU=>ex (fun x=>(!((cu.2.2 != (0:Int))||((cu.1.len:Int)!=(6:Int))))=true→(cD cu.1 5 (0:Int)) x) fun bP=>ex (fun x=>(!((cu.2.2 != (0:Int))||((cu.1.len:Int)!=(6:Int))))=true→(L (B .i64) (bP.add 0) aU) x) fun cw=>ex (fun x=>(!(((cu.2.2 != (0:Int))||((cu.1.len:Int)!=(6:Int)))||(cw != (1:Int))))=true→(cD cu.1 5 (5:Int)) x) fun cH=>ex (fun x=>(!(((cu.2.2 != (0:Int))||((cu.1.len:Int)!=(6:Int)))||(cw != (1:Int))))=true→(L (B .i64) (cH.add 0) aU) x) fun c3=>ex (fun x=>(!((((cu.2.2 != (0:Int))||((cu.1.len:Int)!=(6:Int)))||(cw != (1:Int)))||(c3 != (1:Int))))=true→(cD cu.1 5 (0:Int)) x) fun eJ=>ex (fun x=>(!((((cu.2.2 != (0:Int))||((cu.1.len:Int)!=(6:Int)))||(cw != (1:Int)))||(c3 != (1:Int))))=true→(L (B .u64) (eJ.add 1) aU) x) fun c2=>ex (fun x=>(!(((((cu.2.2 != (0:Int))||((cu.1.len:Int)!=(6:Int)))||(cw != (1:Int)))||(c3 != (1:Int)))||(decide (c2>(6:Int)))))=true→(cD cu.1 5 (5:Int)) x) fun fM=>ex (fun x=>(!(((((cu.2.2 != (0:Int))||((cu.1.len:Int)!=(6:Int)))||(cw != (1:Int)))||(c3 != (1:Int)))||(decide (c2>(6:Int)))))=true→(L (B .u64) (fM.add 1) aU) x) fun dQ=>if ((((((cu.2.2 != (0:Int))||((cu.1.len:Int)!=(6:Int)))||(cw != (1:Int)))||(c3 != (1:Int)))||(decide (c2>(6:Int))))||(decide (dQ>(1:Int))))=true then (ba fL aX (⟨(0:Int),(0:Int),(0:Int),(0:Int),(0:Int),false⟩:jI) aU fun c1=>ex (L fL aX c1) fun fs=>j (fs,false) c1) else (ex (Sub cu.1 5 (1:Int) (5:Int) ((cu.1).cap:Int)) fun uo=>eZ (fun (s:Int) w aa=>Mu aX cu uo s w aa j) ((0:Int)) aU)
theorem agE{eL:af}{w:World}{j:(jI×Bool)→World→Prop}(h:Mt eL w j):M Pg 141 [X.enc (eL)] (bo fL bf) w j:=by
 unfold Mt at h
 refine q0 98 Tryz.func141 rfl rfl (Nat.le_of_ble_eq_true rfl)<|wp_seq<|bq _ rfl<|oZ r6 wE h rfl fun aX bh h=>y rfl<|bc<|wp_seq<|bq _ rfl<|y rfl<|ft ano rfl rfl h fun cu aU h=>y rfl<|gT _ _ rfl rfl rfl ?_
 refine gT _ _ rfl rfl rfl<|gT _ _ rfl rfl rfl<|y rfl<|y rfl<|y rfl<|bc<|wp_seq<|wp_seq<|bq _ rfl<|y rfl<|a2 _ rfl rfl rfl (hc rfl rfl rfl)<|y rfl ?_
 refine dY 18 2 17 rfl rfl rfl rfl rfl (fun R=>cQ (v:=X.enc (cu.1)) rfl rfl)<|dY 19 2 17 rfl rfl rfl rfl rfl (fun R=>jV (s:=cu.1) rfl Tryz.underlying190 (da R))<|dY 20 2 17 rfl rfl rfl rfl rfl (fun R=>hc (k:=.i64) (a:=(cu.1.len:Int)) (l:=(6:Int)) rfl (da R) rfl)<|a2 21 rfl rfl rfl (mD rfl rfl rfl rfl)<|y rfl<|dY 23 7 22 rfl rfl rfl rfl rfl (fun R=>cQ (v:=X.enc (cu.1)) rfl rfl) ?_
 obtain⟨bP,Pd,h⟩:=h
 refine dY 24 7 22 rfl rfl rfl rfl rfl (fun R=>ks (s:=cu.1) (k:=.i64) (i:=(0:Int)) rfl Tryz.underlying190 lQ (da R) rfl (Pd R))<|dY 25 7 22 rfl rfl rfl rfl rfl (fun R=>lU (a:=bP) (off:=0) rfl Tryz.underlying197 rfl rfl wV (by decide) (da R)) ?_
 obtain⟨cw,Qg,h⟩:=h
 refine dY 26 7 22 rfl rfl rfl rfl rfl (fun R=>j9 (T:=(B .i64)) (u:=cw) (a:=(bP.add 0)) rfl wV (da R) (Qg R))<|dY 27 7 22 rfl rfl rfl rfl rfl (fun R=>hc (k:=.i64) (a:=cw) (l:=(1:Int)) rfl (da R) rfl)<|a2 28 rfl rfl rfl (mD rfl rfl rfl rfl)<|y rfl<|dY 30 14 29 rfl rfl rfl rfl rfl (fun R=>cQ (v:=X.enc (cu.1)) rfl rfl) ?_
 obtain⟨cH,Ph,h⟩:=h
 refine dY 31 14 29 rfl rfl rfl rfl rfl (fun R=>ks (s:=cu.1) (k:=.i64) (i:=(5:Int)) rfl Tryz.underlying190 lQ (da R) rfl (Ph R))<|dY 32 14 29 rfl rfl rfl rfl rfl (fun R=>lU (a:=cH) (off:=0) rfl Tryz.underlying197 rfl rfl wV (by decide) (da R)) ?_
 obtain⟨c3,Qi,h⟩:=h
 refine dY 33 14 29 rfl rfl rfl rfl rfl (fun R=>j9 (T:=(B .i64)) (u:=c3) (a:=(cH.add 0)) rfl wV (da R) (Qi R))<|dY 34 14 29 rfl rfl rfl rfl rfl (fun R=>hc (k:=.i64) (a:=c3) (l:=(1:Int)) rfl (da R) rfl)<|a2 35 rfl rfl rfl (mD rfl rfl rfl rfl)<|y rfl<|dY 37 21 36 rfl rfl rfl rfl rfl (fun R=>cQ (v:=X.enc (cu.1)) rfl rfl) ?_
 obtain⟨eJ,aoB,h⟩:=h
 refine dY 38 21 36 rfl rfl rfl rfl rfl (fun R=>ks (s:=cu.1) (k:=.i64) (i:=(0:Int)) rfl Tryz.underlying190 lQ (da R) rfl (aoB R))<|dY 39 21 36 rfl rfl rfl rfl rfl (fun R=>lU (a:=eJ) (off:=1) rfl Tryz.underlying197 rfl rfl r7 (by decide) (da R)) ?_
 obtain⟨c2,BO,h⟩:=h
 refine dY 40 21 36 rfl rfl rfl rfl rfl (fun R=>j9 (T:=(B .u64)) (u:=c2) (a:=(eJ.add 1)) rfl r7 (da R) (BO R))<|dY 41 21 36 rfl rfl rfl rfl rfl (fun R=>vw (k:=.u64) (a:=c2) (l:=(6:Int)) rfl (da R) rfl)<|a2 42 rfl rfl rfl (mD rfl rfl rfl rfl)<|y rfl<|dY 44 28 43 rfl rfl rfl rfl rfl (fun R=>cQ (v:=X.enc (cu.1)) rfl rfl) ?_
 obtain⟨fM,aoD,h⟩:=h
 refine dY 45 28 43 rfl rfl rfl rfl rfl (fun R=>ks (s:=cu.1) (k:=.i64) (i:=(5:Int)) rfl Tryz.underlying190 lQ (da R) rfl (aoD R))<|dY 46 28 43 rfl rfl rfl rfl rfl (fun R=>lU (a:=fM) (off:=1) rfl Tryz.underlying197 rfl rfl r7 (by decide) (da R)) ?_
 obtain⟨dQ,P6,h⟩:=h
 refine dY 47 28 43 rfl rfl rfl rfl rfl (fun R=>j9 (T:=(B .u64)) (u:=dQ) (a:=(fM.add 1)) rfl r7 (da R) (P6 R))<|dY 48 28 43 rfl rfl rfl rfl rfl (fun R=>vw (k:=.u64) (a:=dQ) (l:=(1:Int)) rfl (da R) rfl)<|a2 49 rfl rfl rfl (mD rfl rfl rfl rfl)<|bc<|fB h rfl (fun _ h=>?_) fun _ h=>?_
 ·refine wp_seq<|bq _ rfl<|a2 50 rfl rfl rfl (HR  rfl)<|jN r6 h rfl rfl rfl fun c1 h=>y rfl<|bc<|wp_ret ?_
  obtain⟨fs,P7,h⟩:=h
  exact n4 rfl (.cons (.cell (T:=fL) (u:=fs) (a:=aX) r6 rfl P7) (.cons (.tmp (v:=.bool (false)) rfl) .nil)) ⟨(fs,false),rfl,h⟩
 ·refine wp_skip<|wp_seq<|wp_seq<|bq _ rfl<|y rfl ?_
  obtain⟨uo,PS,h⟩:=h
  refine a2 52 rfl rfl rfl (Lj (s:=cu.1) (m:=(1:Int)) (h:=(5:Int)) rfl Tryz.underlying190 lQ rfl rfl rfl PS)<|a2 _ rfl rfl rfl (jV rfl Tryz.underlying190 rfl)<|y rfl<|bc<|wp_block<|s0 (bp:=Int) (dp:=fun g (s:Int)=>ae (ae (ae (ae (ae (g) 2 (.pointer (some aX))) 4 (X.enc (cu.1))) 52 (X.enc (uo))) 53 (.int .i64 ((uo.len:Int)))) 54 (.int .i64 (s))) (mi:=((0:Int))) (aP (aP (aP (aP (aP rfl rfl) rfl) rfl) rfl) rfl) h ?_
  rintro w6 g fT IT h
  unfold Mu at h
  refine wp_seq<|bq _ rfl<|a2 _ rfl rfl rfl (ma rfl rfl rfl)<|bc<|wp_seq<|fB h rfl (fun _ h=>?_) fun _ h=>?_
  ·refine wp_skip<|wp_seq<|wp_block<|wp_seq<|bq _ rfl ?_
   obtain⟨pw,aoH,h⟩:=h
   refine a2 56 rfl rfl rfl (ks (s:=uo) (k:=.i64) (i:=w6) rfl Tryz.underlying190 lQ rfl rfl aoH)<|hR lQ h rfl rfl fun kO _ h=>oZ lQ wF h rfl fun rM eh h=>jN lQ h rfl rfl rfl fun fK h=>bc<|wp_seq<|bq _ rfl<|ho _ _ _ Tryz.underlying197 wV rfl rfl rfl<|hR wV h rfl rfl fun hg _ h=>a2 _ rfl rfl rfl (hc rfl rfl rfl)<|bc<|fB h rfl (fun _ h=>?_) fun _ h=>?_
   ·refine wp_seq<|bq _ rfl<|a2 61 rfl rfl rfl (HR  rfl)<|jN r6 h rfl rfl rfl fun e2 h=>y rfl<|bc<|wp_ret ?_
    obtain⟨oN,arL,h⟩:=h
    exact n4 rfl (.cons (.cell (T:=fL) (u:=oN) (a:=aX) r6 rfl arL) (.cons (.tmp (v:=.bool (false)) rfl) .nil)) ⟨(oN,false),rfl,h⟩
   ·refine wp_skip<|bq _ rfl<|a2 _ rfl rfl rfl (pf rfl rfl rfl)<|y rfl<|bc ?_
    exact⟨((IntKind.i64.wrap (w6+(1:Int)))),_,arr (aP (aP (aP (aP (aP rfl rfl) rfl) rfl) rfl) rfl),h⟩
  ·refine wp_exit<|wp_seq<|wp_seq<|bq _ rfl<|y rfl ?_
   obtain⟨v8,aoK,h⟩:=h
   refine a2 64 rfl rfl rfl (ks (s:=cu.1) (k:=.i64) (i:=(0:Int)) rfl Tryz.underlying190 lQ rfl rfl aoK)<|ho _ _ _ Tryz.underlying197 r7 rfl rfl rfl<|hR r7 h rfl rfl fun kd _ h=>a2 67 rfl rfl rfl (uf (a:=kd) rfl Tryz.underlying195 Tryz.underlying3 rfl)<|ft amF rfl rfl h fun sg h3 h=>a2 _ rfl rfl rfl (ru rfl rfl)<|bc<|fB h rfl (fun _ h=>?_) fun _ h=>?_
   ·refine wp_seq<|bq _ rfl<|a2 70 rfl rfl rfl (HR  rfl)<|jN r6 h rfl rfl rfl fun is h=>y rfl<|bc<|wp_ret ?_
    obtain⟨kv,Hd,h⟩:=h
    exact n4 rfl (.cons (.cell (T:=fL) (u:=kv) (a:=aX) r6 rfl Hd) (.cons (.tmp (v:=.bool (false)) rfl) .nil)) ⟨(kv,false),rfl,h⟩
   ·refine wp_skip<|wp_seq ?_
    obtain⟨jd,arp,h⟩:=ou h
    refine po 29 mixed rfl (by kernel_rfl) (by intro c a d v w h; cases d<;>exact h) arp (fun ak=>?_)
    refine gf 0 71 (X.enc (cu.1)) ak rfl rfl ?_
    obtain⟨Bc,aoM,h⟩:=h
    refine fc 1 72 ak rfl rfl rfl (fun _=>ks (s:=cu.1) (k:=.i64) (i:=(0:Int)) rfl Tryz.underlying190 lQ rfl rfl aoM)<|hn 2 73 Bc 1 Tryz.underlying197 r7 ak rfl rfl rfl<|gf 5 76 (X.enc (cu.1)) ak rfl rfl ?_
    obtain⟨F5,aoN,h⟩:=h
    refine fc 6 77 ak rfl rfl rfl (fun _=>ks (s:=cu.1) (k:=.i64) (i:=(1:Int)) rfl Tryz.underlying190 lQ rfl rfl aoN)<|hn 7 78 F5 2 Tryz.underlying197 cU ak rfl rfl rfl<|gf 9 80 (X.enc (cu.1)) ak rfl rfl ?_
    obtain⟨xy,GH,h⟩:=h
    refine fc 10 81 ak rfl rfl rfl (fun _=>ks (s:=cu.1) (k:=.i64) (i:=(2:Int)) rfl Tryz.underlying190 lQ rfl rfl GH)<|hn 11 82 xy 2 Tryz.underlying197 cU ak rfl rfl rfl<|gf 13 84 (X.enc (cu.1)) ak rfl rfl ?_
    obtain⟨oX,Pa,h⟩:=h
    refine fc 14 85 ak rfl rfl rfl (fun _=>ks (s:=cu.1) (k:=.i64) (i:=(3:Int)) rfl Tryz.underlying190 lQ rfl rfl Pa)<|hn 15 86 oX 2 Tryz.underlying197 cU ak rfl rfl rfl<|gf 17 88 (X.enc (cu.1)) ak rfl rfl ?_
    obtain⟨uH,Pb,h⟩:=h
    refine fc 18 89 ak rfl rfl rfl (fun _=>ks (s:=cu.1) (k:=.i64) (i:=(4:Int)) rfl Tryz.underlying190 lQ rfl rfl Pb)<|hn 19 90 uH 2 Tryz.underlying197 cU ak rfl rfl rfl<|gf 21 92 (X.enc (cu.1)) ak rfl rfl ?_
    obtain⟨uI,aoO,h⟩:=h
    refine fc 22 93 ak rfl rfl rfl (fun _=>ks (s:=cu.1) (k:=.i64) (i:=(5:Int)) rfl Tryz.underlying190 lQ rfl rfl aoO)<|hn 23 94 uI 1 Tryz.underlying197 r7 ak rfl rfl rfl ?_
    obtain⟨th,arQ,h⟩:=h
    refine h7 3 74 arQ r7 ak rfl rfl<|fc 4 75 ak rfl rfl rfl (fun _=>uf (a:=th) rfl Tryz.underlying195 Tryz.underlying3 rfl) ?_
    obtain⟨ti,arR,h⟩:=h
    refine h7 8 79 arR cU ak rfl rfl ?_
    obtain⟨AI,arS,h⟩:=h
    refine h7 12 83 arS cU ak rfl rfl ?_
    obtain⟨rE,Qd,h⟩:=h
    refine h7 16 87 Qd cU ak rfl rfl ?_
    obtain⟨E4,arT,h⟩:=h
    refine h7 20 91 arT cU ak rfl rfl ?_
    obtain⟨oP,Qe,h⟩:=h
    refine h7 24 95 Qe r7 ak rfl rfl<|fc 25 96 ak rfl rfl rfl (fun _=>iH (a:=oP) (l:=(1:Int)) rfl rfl rfl)<|fc 26 97 ak rfl rfl rfl (fun _=>RH (a_:=(IntKind.i64.wrap th)) (bM:=ti) (dV:=AI) (fS:=rE) (lX:=E4) (vM:=(oP==(1:Int))) rfl rfl rfl rfl rfl rfl rfl)<|fk (i:=27) (by kernel_rfl) ?_
    obtain⟨pZ,arx,aqU,h⟩:=sm h
    refine ud (d:=none) rfl (.free rfl) rfl (se (T:=fL) (u:=(⟨(IntKind.i64.wrap th),ti,AI,rE,E4,(oP==(1:Int))⟩:jI)) (a:=aX) rfl r6 rfl rfl aqU arx) ⟨(hi (by kernel_rfl) (hi (by kernel_rfl) (hi (by kernel_rfl) (hi (by kernel_rfl) (hi (by kernel_rfl) (hi (by kernel_rfl) im)))))),?_⟩
    refine E5 28 3 (.bool (true)) ak rfl rfl<|kH (by kernel_rfl)<|wp_ret ?_
    obtain⟨qJ,He,h⟩:=h
    exact n4 rfl (.cons (.cell (T:=fL) (u:=qJ) (a:=aX) r6 rfl He) (.cons (.tmp (v:=.bool (true)) rfl) .nil)) ⟨(qJ,true),rfl,h⟩
def T_(c5:aL)(bO:Int)(w:World)(j:(af×Int)→World→Prop):Prop:=M Pg 183 [.pointer (c5),.int .i64 (bO)] bf w fun cA bh=>if (!cA)=true then (j ((⟨none,0,0⟩:af),(70:Int)) bh) else (ex (bC c5) fun bS=>ex (L bf (bS.add 2) bh) fun cB=>if cB=true then (j ((⟨none,0,0⟩:af),(71:Int)) bh) else (ex (L X (bS.add 0) bh) fun cw=>ex (cD cw 2 bO) fun cH=>ex (L X (cH.add 0) bh) fun c3=>yG 5 (B .u8) 1 (0:Int) (c3.len:Int) (c3.len:Int) bh fun hd cd=>ex (L X (bS.add 0) cd) fun e7=>ex (cD e7 2 bO) fun eK=>ex (L X (eK.add 0) cd) fun eu=>Dz (B .u8) 1 hd eu cd fun mc dJ=>j (hd,(0:Int)) dJ))
theorem agF{c5 bO w j}(h:T_ c5 bO w j):M Pg 142 [.pointer c5,.int .i64 bO] (bo X (B .i64)) w j:=
 bj 38 Tryz.func142 rfl rfl bk
def Mv(eL:af)(cY:af)(N8:Int)(aU:World)(gy:af×Int→World→Prop)(j:(af×Int)→World→Prop):Prop:=ex (Sub eL 1 N8 ((eL).len:Int) ((eL).cap:Int)) fun w3=>M Pg 184 [X.enc (w3)] (mj X (B .i64) (B .i64)) aU fun cp bN=>if (cp.2.2 != (0:Int))=true then (j (cY,N8) bN) else (l3 189 X 1 24 cY [cp.1] bN fun cE cF=>gy (cE,(IntKind.i64.wrap (N8+cp.2.1))) cF)
def Ua(eL:af)(w:World)(j:(af×Int)→World→Prop):Prop:=eZ (fun (s:af×Int) w aa=>Mv eL s.1 s.2 w aa j) ((⟨none,0,0⟩:af),(0:Int)) w
theorem agG{eL w j}(h:Ua eL w j):M Pg 143 [X.enc eL] (bo X (B .i64)) w j:=by
 have iQ:=hb (bp:=af×Int) 4 (fun s w aa=>Mv eL s.1 s.2 w aa j) (fun g s=>ae (ae (ae g 0 (X.enc eL)) 4 (X.enc (s.1))) 5 (.int .i64 (s.2)))
 exact bj 28 Tryz.func143 rfl rfl bk
def Ub(c5:aL)(bO:Int)(tC:af)(w:World)(j:Int→World→Prop):Prop:=bG 189 X tC w fun a3 a7=>ex (L X a3 a7) fun cB=>M Pg 177 [.pointer (c5),.int .i64 (bO),.int .i64 ((cB.len:Int)),((cc.mk (.func 185) (List.toArray []) (List.toArray [.pointer (some a3)]))).enc] (B .i64) a7 fun cp bN=>j cp bN
theorem agH{c5 bO tC w j}(h:Ub c5 bO tC w j):M Pg 144 [.pointer c5,.int .i64 bO,X.enc tC] (B .i64) w j:=
 bj 13 Tryz.func144 rfl rfl bk
def Uc(c5:aL)(bO:Int)(w:World)(j:Int→World→Prop):Prop:=M Pg 183 [.pointer (c5),.int .i64 (bO)] bf w fun cA bh=>if (!cA)=true then (j (0:Int) bh) else (ex (bC c5) fun bS=>ex (L X (bS.add 0) bh) fun cB=>ex (cD cB 2 bO) fun b7=>ex (L (B .i64) (b7.add 1) bh) fun cM=>j cM bh)
theorem agI{c5 bO w j}(h:Uc c5 bO w j):M Pg 145 [.pointer c5,.int .i64 bO] (B .i64) w j:=
 bj 17 Tryz.func145 rfl rfl bk
def IG(fz:Addr)(bt:Addr)(bR:Addr)(e0:Addr)(yY:ei)(w:World)(j:World→Prop):Prop:=if (!(ei.isNil yY))=true then (ex (Tu 259 jJ F4 yY) fun K8=>bG 259 jJ F4 w fun bP bN=>ba jJ bP K8.1 bN fun bA=>if (!K8.2)=true then (False) else (de bA fun bU=>ex (L (B .i64) fz bU) fun dG=>ex (L (B .i64) (bP.add 0) bU) fun c2=>ba X bt (⟨none,0,0⟩:af) bU fun cl=>bw ((L (B .i64) (bP.add 0) cl) c2)<|ba (B .i64) bR dG cl fun c1=>bw ((L (B .i64) (bP.add 0) c1) c2)<|ba (B .i64) e0 c2 c1 fun dK=>j dK)) else (j w)
theorem Ud{fz:Addr}{bt:Addr}{bR:Addr}{e0:Addr}{yY:ei}{u pk:FrameMode}{w:World}{j:World→Prop}(J5:I0 u yY pk)(h:IG fz bt bR e0 yY w j):CallsD Pg 146 (List.toArray [.pointer (some fz),.pointer (some bt),.pointer (some bR),.pointer (some e0)]) u w fun e tf J=>(∃ v,e=.returned v)∧tf=pk∧j J:=by
 unfold IG at h
 refine akV 21 Tryz.func146 rfl rfl (Nat.le_of_ble_eq_true rfl) fun ot a8 hu=>wpS_seq<|aIQ [0,1] rfl<|aGw (v:=yY) (d:=(some 7)) rfl rfl rfl rfl hu J5<|aGx (d:=(some 4)) rfl rfl rfl (Ci (v:=(yY).enc) rfl rfl)<|aGv (wpS_of_wp ?_)
 refine wp_seq<|bq _ rfl<|y rfl<|a2 9 rfl rfl rfl (RY (v:=yY) rfl Tryz.underlying20 rfl)<|bc<|fB h rfl (fun _ h=>?_) fun _ h=>?_
 ·refine wp_seq<|bq _ rfl<|y rfl ?_
  obtain⟨K8,aqC,h⟩:=h
  refine a2 12 rfl rfl rfl (RC (T:=jJ) (z:=F4) (v:=yY) (p:=K8) rfl ⟨_,Tryz.underlying259,rfl⟩ Hj rfl aqC)<|y rfl<|gT _ _ rfl rfl rfl<|gT _ _ rfl rfl rfl<|oZ Rf Hj h rfl fun bP bN h=>jN Rf h rfl rfl rfl fun bA h=>y rfl<|bc<|wp_seq<|wp_seq<|bq _ rfl<|y rfl ?_
  refine a2 _ rfl rfl rfl (ru rfl rfl)<|bc<|fB h rfl (fun _ h=>?_) fun _ h=>?_
  ·refine bq _ rfl<|y rfl ?_
   exact h.elim
  ·refine wp_skip ?_
   obtain⟨bU,P4,h⟩:=ou h
   refine po 6 mixed rfl (by kernel_rfl) (by intro c a d v w h; cases d<;>exact h) P4 (fun ak=>?_)
   refine hn 1 19 bP 0 Tryz.underlying259 wW ak rfl rfl rfl ?_
   obtain⟨dG,P5,h⟩:=h
   refine h7 0 18 P5 dj ak rfl rfl ?_
   obtain⟨c2,BO,h⟩:=h
   refine h7 2 20 BO wW ak rfl rfl<|fk (i:=3) (by kernel_rfl) ?_
   obtain⟨cl,arc,aqM,h⟩:=sm h
   obtain⟨apL,h⟩:=h
   refine ud (d:=none) rfl (.free rfl) rfl (se (T:=X) (u:=(⟨none,0,0⟩:af)) (a:=bt) rfl vo rfl rfl aqM arc) ⟨(fH (fun _=>apL) (hi (by kernel_rfl) im)),?_⟩
   refine fk (i:=4) (by kernel_rfl) ?_
   obtain⟨c1,P0,aqN,h⟩:=sm h
   obtain⟨apX,h⟩:=h
   refine ud (d:=none) rfl (.free rfl) rfl (se (T:=(B .i64)) (u:=dG) (a:=bR) rfl dj rfl rfl aqN P0) ⟨(fH (fun _=>apX) (hi (by kernel_rfl) im)),?_⟩
   refine fk (i:=5) (by kernel_rfl) ?_
   obtain⟨dK,P1,aqO,h⟩:=sm h
   refine ud (d:=none) rfl (.free rfl) rfl (se (T:=(B .i64)) (u:=c2) (a:=e0) rfl wW rfl rfl aqO P1) ⟨(hi (by kernel_rfl) (hi (by kernel_rfl) im)),?_⟩
   refine kH (by kernel_rfl) ?_
   exact Yy rfl h
 ·refine wp_skip ?_
  exact Yy rfl h
def zh(aX:Addr)(bP:Addr)(bU:World)(j:mP→World→Prop)(ej:ei→World→Prop):Prop:=ex (L gg bP bU) fun dG=>ba gg aX dG bU fun cF=>ex (L gg aX cF) fun e7=>j e7 cF
def Mw(fr:aL)(w:World)(j:mP→World→Prop)(ej:ei→World→Prop):Prop:=bG 197 gg ty w fun aX bh=>nR Pg 186 [.pointer (fr)] (B .u8) bh ej fun cu aU=>bG 197 gg ty aU fun bP bN=>ba gg bP (⟨(IntKind.i64.wrap cu),(0:Int),(0:Int),(0:Nat),([]:List UInt8)⟩:mP) bN fun bA=>ex (L (B .i64) (bP.add 0) bA) fun dQ=>if (dQ==(1:Int))=true then (nR Pg 187 [.pointer (fr)] (B .u64) bA ej fun hf c1=>ba (B .u64) (bP.add 1) hf c1 fun dK=>zh aX bP dK j ej) else (if (dQ==(2:Int))=true then (nR Pg 187 [.pointer (fr)] (B .u64) bA ej fun gv cS=>ex (iL (1:Int) (Int.fdiv gv (2^(min ((1:Int)).toNat IntKind.u64.bits)))) fun d19=>ba (B .i64) (bP.add 2) (bits .xor .i64 (IntKind.i64.wrap d19) (IntKind.i64.wrap (0-(IntKind.i64.wrap (bits .and .u64 gv (1:Int)))))) cS fun ez=>zh aX bP ez j ej) else (if (dQ==(3:Int))=true then (nR Pg 188 [.pointer (fr)] gK bA ej fun fI eo=>ba gK (bP.add 3) fI eo fun eh=>zh aX bP eh j ej) else (if (dQ==(4:Int))=true then (nR Pg 189 [.pointer (fr)] qB bA ej fun gP fK=>ba qB (bP.add 4) gP fK fun e2=>zh aX bP e2 j ej) else (ej (ei.mk 259 (jJ.enc ((⟨(21:Int)⟩:j0)))) bA))))
theorem agJ{fr:aL}{w:World}{j:mP→World→Prop}{ej:ei→World→Prop}(h:Mw fr w j ej):nR Pg 147 [.pointer (fr)] gg w ej j:=by
 unfold Mw at h
 refine q0 42 Tryz.func147 rfl rfl (Nat.le_of_ble_eq_true rfl)<|wp_seq<|bq _ rfl<|oZ lQ wF h rfl fun aX bh h=>bc<|wp_seq<|bq _ rfl<|y rfl<|en rfl (.free rfl) (zc (d:=(some 6)) rfl (fR (k:=186) (m:=[.pointer (fr)]) rfl OE rfl) h ?_ ?_)
 ·exact fun _ _ h=>sa (P:=Pg) (fn:=Tryz.f147) h
 intro cu aU h
 refine a2 7 rfl rfl rfl (uf (a:=cu) rfl Tryz.underlying5 Tryz.underlying194 rfl)<|a2 8 rfl rfl rfl (RJ (a_:=(IntKind.i64.wrap cu)) rfl rfl)<|oZ lQ wF h rfl fun bP bN h=>jN lQ h rfl rfl rfl fun bA h=>bc<|Ar (bp:=Unit) (eV:=fun (s:Unit) w=>zh aX bP w j ej) (dp:=fun g (s:Unit)=>ae (ae (g) 2 (.pointer (some aX))) 3 (.pointer (some bP))) ?_ ?_
 ·rintro⟨⟩ g bU h
  unfold zh at h
  refine wp_seq<|bq _ rfl<|hR lQ h rfl rfl fun dG _ h=>jN lQ h rfl rfl rfl fun cF h=>bc<|wp_ret ?_
  obtain⟨e7,yn,h⟩:=h
  exact n4 rfl (.cons (.cell (T:=gg) (u:=e7) (a:=aX) lQ rfl yn) .nil) ⟨e7,rfl,h⟩
 ·refine wp_seq<|bq _ rfl<|ho _ _ _ Tryz.underlying197 wV rfl rfl rfl<|hR wV h rfl rfl fun dQ _ h=>bc<|wp_block<|wp_seq<|bq _ rfl<|a2 _ rfl rfl rfl (iH rfl rfl rfl)<|y rfl<|bc<|fB h rfl (fun _ h=>?_) fun _ h=>?_
  ·refine bq _ rfl<|y rfl<|en rfl (.free rfl) (zc (d:=(some 16)) rfl (fR (k:=187) (m:=[.pointer (fr)]) rfl OF rfl) h ?_ ?_)
   ·exact fun _ _ h=>sa (P:=Pg) (fn:=Tryz.f147) h
   intro hf c1 h
   refine ho _ _ _ Tryz.underlying197 r7 rfl rfl rfl<|jN r7 h rfl rfl rfl fun dK h=>bc ?_
   exact⟨(),_,arr (aP (aP rfl rfl) rfl),h⟩
  ·refine wp_seq<|bq _ rfl<|a2 _ rfl rfl rfl (iH rfl rfl rfl)<|y rfl<|bc<|fB h rfl (fun _ h=>?_) fun _ h=>?_
   ·refine wp_seq<|bq _ rfl<|y rfl<|en rfl (.free rfl) (zc (d:=(some 21)) rfl (fR (k:=187) (m:=[.pointer (fr)]) rfl OF rfl) h ?_ ?_)
    ·exact fun _ _ h=>sa (P:=Pg) (fn:=Tryz.f147) h
    intro gv cS h
    refine y rfl<|bc<|bq _ rfl<|y rfl ?_
    obtain⟨d19,apa,h⟩:=h
    refine a2 23 rfl rfl rfl (R3 (a:=gv) (l:=(1:Int)) (r:=d19) rfl rfl rfl apa)<|a2 24 rfl rfl rfl (uf (a:=d19) rfl Tryz.underlying195 Tryz.underlying2 rfl)<|y rfl<|a2 26 rfl rfl rfl (Lc (a:=gv) (l:=(1:Int)) rfl rfl rfl)<|a2 27 rfl rfl rfl (uf (a:=(bits .and .u64 gv (1:Int))) rfl Tryz.underlying195 Tryz.underlying2 rfl)<|a2 28 rfl rfl rfl (RZ (a:=(IntKind.i64.wrap (bits .and .u64 gv (1:Int)))) rfl rfl)<|a2 29 rfl rfl rfl (R6 (a:=(IntKind.i64.wrap d19)) (l:=(IntKind.i64.wrap (0-(IntKind.i64.wrap (bits .and .u64 gv (1:Int)))))) rfl rfl rfl)<|ho _ _ _ Tryz.underlying197 cU rfl rfl rfl<|jN cU h rfl rfl rfl fun ez h=>bc ?_
    exact⟨(),_,arr (aP (aP rfl rfl) rfl),h⟩
   ·refine wp_seq<|bq _ rfl<|a2 _ rfl rfl rfl (iH rfl rfl rfl)<|y rfl<|bc<|fB h rfl (fun _ h=>?_) fun _ h=>?_
    ·refine bq _ rfl<|y rfl<|en rfl (.free rfl) (zc (d:=(some 34)) rfl (fR (k:=188) (m:=[.pointer (fr)]) rfl amR rfl) h ?_ ?_)
     ·exact fun _ _ h=>sa (P:=Pg) (fn:=Tryz.f147) h
     intro fI eo h
     refine ho _ _ _ Tryz.underlying197 qj rfl rfl rfl<|jN qj h rfl rfl rfl fun eh h=>bc ?_
     exact⟨(),_,arr (aP (aP rfl rfl) rfl),h⟩
    ·refine wp_seq<|bq _ rfl<|a2 _ rfl rfl rfl (iH rfl rfl rfl)<|y rfl<|bc<|fB h rfl (fun _ h=>?_) fun _ h=>?_
     ·refine bq _ rfl<|y rfl<|en rfl (.free rfl) (zc (d:=(some 39)) rfl (fR (k:=189) (m:=[.pointer (fr)]) rfl amS rfl) h ?_ ?_)
      ·exact fun _ _ h=>sa (P:=Pg) (fn:=Tryz.f147) h
      intro gP fK h
      refine ho _ _ _ Tryz.underlying197 KZ rfl rfl rfl<|jN KZ h rfl rfl rfl fun e2 h=>bc ?_
      exact⟨(),_,arr (aP (aP rfl rfl) rfl),h⟩
     ·refine bq _ rfl<|a2 11 rfl rfl rfl (yU (a_:=(21:Int)) rfl rfl)<|a2 12 rfl rfl rfl (yV (v:=jJ.enc ((⟨(21:Int)⟩:j0))) rfl Tryz.underlying259 rfl rfl)<|en rfl (.free rfl) (CI (v:=(ei.mk 259 (jJ.enc ((⟨(21:Int)⟩:j0))))) rfl rfl ⟨_,_,rfl⟩ ?_)
      exact sa (P:=Pg) (fn:=Tryz.f147) h
end bb
end Go.Proofs.YthaobmpdjcoheaaGreat
