/- Own texts of this claim, part 9: short, merged. -/
import Derived.Test.YthaobmpdjcoheaaGreatZ1
set_option maxRecDepth 100000
set_option maxHeartbeats 40000000
set_option linter.defProp false
set_option linter.unusedVariables false
set_option linter.unusedSimpArgs false
namespace Go.Proofs.YthaobmpdjcoheaaGreat
namespace bb
def Uz(cR:aL)(bt:Int)(ja:iv)(w:World)(j:Int→World→Prop):Prop:=bG 60 gX ja w fun a3 a7=>M Pg 210 [.pointer (cR),.int .i64 (bt)] (B .i64) a7 fun b0 bT=>if (b0 != (0:Int))=true then (j b0 bT) else (ex (L gX a3 bT) fun cM=>M Pg 216 [.pointer (cR),gX.enc (cM)] (bo (B .i64) (B .i64)) bT fun ca bU=>if (ca.2 != (0:Int))=true then (j ca.2 bU) else (de bU fun cF=>ex (bC cR) fun fM=>ex (L ef (fM.add 3) cF) fun dQ=>ex (L (B .i64) (a3.add 0) cF) fun eu=>ex (L gX a3 cF) fun fs=>qh ix .i64 dQ eu (⟨fs,bt,ca.1⟩:rJ) cF fun dK=>de dK fun cS=>ex (L ef (fM.add 4) cS) fun dL=>ex (L (B .i64) (a3.add 1) cS) fun hH=>ex (L (B .i64) (a3.add 0) cS) fun gd=>qh (B .i64) .i64 dL hH gd cS fun eo=>de eo fun e1=>ex (L ef (fM.add 5) e1) fun nL=>ex (L (B .i64) (a3.add 0) e1) fun lY=>qh lA .i64 nL lY (⟨(1:Int),bt⟩:qQ) e1 fun ir=>M Pg 215 [.pointer (cR),.int .i64 (bt)] dU ir fun fJ e2=>j (0:Int) e2))
theorem ag2{cR bt ja w j}(h:Uz cR bt ja w j):M Pg 170 [.pointer cR,.int .i64 bt,gX.enc ja] (B .i64) w j:=by
 have fY:=eg 8 (du [0,1,2,4,7,8,3,5,6,9,10] .e)
 have rQ:=eg 9 (du [0,1,2,4,6,3,5,7,8] .e)
 have DA:=eg 10 (du [0,1,2,4,6,7,3,5,8] .e)
 exact bj 54 Tryz.func170 rfl rfl bk
def xj(bK:aL)(rm:Int)(aml:Addr)(aG4:Addr)(aEQ:Addr)(bT:World)(j:cc→World→Prop):Prop:=if (rm==(3:Int))=true then (ex (bC bK) fun b7=>ex (L aE (b7.add 1) bT) fun cM=>j (cc.mk (.func 220) (List.toArray [.pointer (cM)]) (List.toArray [])) bT) else (if (rm==(4:Int))=true then (j (cc.mk (.func 221) (List.toArray []) (List.toArray [.pointer (some aml)])) bT) else (if (rm==(5:Int))=true then (j (cc.mk (.func 222) (List.toArray []) (List.toArray [.pointer (some aG4)])) bT) else (j (cc.mk (.func 223) (List.toArray []) (List.toArray [.pointer (some aEQ)])) bT)))
def UA(bK:aL)(rm:Int)(w:World)(j:cc→World→Prop):Prop:=de w fun cl=>ex (bC bK) fun eK=>ex (L aE (eK.add 1) cl) fun eu=>ex (L aE (eK.add 1) cl) fun fs=>ex (L aE (eK.add 1) cl) fun dm=>sC (bG 107 gb cc.nil cl fun k_ fT=>sC (bG 143 gb cc.nil fT fun iV ez=>bG 143 gb cc.nil ez fun iW e1=>ba gb k_ (cc.mk (.func 217) (List.toArray [.pointer (eu)]) (List.toArray [])) e1 fun eh=>bw ((L aE (eK.add 1) eh) fs)<|bw ((L aE (eK.add 1) eh) dm)<|ba gb iV (cc.mk (.func 218) (List.toArray [.pointer (fs)]) (List.toArray [])) eh fun e2=>bw ((L aE (eK.add 1) e2) dm)<|ba gb iW (cc.mk (.func 219) (List.toArray [.pointer (dm)]) (List.toArray [])) e2 fun fX=>xj bK rm k_ iV iW fX j) (bG 143 gb cc.nil fT fun v8 gN=>bG 143 gb cc.nil gN fun Bb gQ=>ba gb k_ (cc.mk (.func 217) (List.toArray [.pointer (eu)]) (List.toArray [])) gQ fun is=>bw ((L aE (eK.add 1) is) fs)<|bw ((L aE (eK.add 1) is) dm)<|ba gb Bb (cc.mk (.func 218) (List.toArray [.pointer (fs)]) (List.toArray [])) is fun lq=>bw ((L aE (eK.add 1) lq) dm)<|ba gb v8 (cc.mk (.func 219) (List.toArray [.pointer (dm)]) (List.toArray [])) lq fun ml=>xj bK rm k_ Bb v8 ml j)) (sC (bG 143 gb cc.nil cl fun oX kL=>sC (bG 107 gb cc.nil kL fun uI vP=>bG 143 gb cc.nil vP fun xz ut=>ba gb uI (cc.mk (.func 217) (List.toArray [.pointer (eu)]) (List.toArray [])) ut fun ob=>bw ((L aE (eK.add 1) ob) fs)<|bw ((L aE (eK.add 1) ob) dm)<|ba gb oX (cc.mk (.func 218) (List.toArray [.pointer (fs)]) (List.toArray [])) ob fun pZ=>bw ((L aE (eK.add 1) pZ) dm)<|ba gb xz (cc.mk (.func 219) (List.toArray [.pointer (dm)]) (List.toArray [])) pZ fun qD=>xj bK rm uI oX xz qD j) (bG 143 gb cc.nil kL fun Xi vQ=>bG 107 gb cc.nil vQ fun NX S3=>ba gb NX (cc.mk (.func 217) (List.toArray [.pointer (eu)]) (List.toArray [])) S3 fun sq=>bw ((L aE (eK.add 1) sq) fs)<|bw ((L aE (eK.add 1) sq) dm)<|ba gb oX (cc.mk (.func 218) (List.toArray [.pointer (fs)]) (List.toArray [])) sq fun tg=>bw ((L aE (eK.add 1) tg) dm)<|ba gb Xi (cc.mk (.func 219) (List.toArray [.pointer (dm)]) (List.toArray [])) tg fun aIE=>xj bK rm NX oX Xi aIE j)) (bG 143 gb cc.nil cl fun I5 xb=>sC (bG 107 gb cc.nil xb fun Dm xc=>bG 143 gb cc.nil xc fun Xk CE=>ba gb Dm (cc.mk (.func 217) (List.toArray [.pointer (eu)]) (List.toArray [])) CE fun AF=>bw ((L aE (eK.add 1) AF) fs)<|bw ((L aE (eK.add 1) AF) dm)<|ba gb Xk (cc.mk (.func 218) (List.toArray [.pointer (fs)]) (List.toArray [])) AF fun Iq=>bw ((L aE (eK.add 1) Iq) dm)<|ba gb I5 (cc.mk (.func 219) (List.toArray [.pointer (dm)]) (List.toArray [])) Iq fun Ir=>xj bK rm Dm Xk I5 Ir j) (bG 143 gb cc.nil xb fun Xl aIF=>bG 107 gb cc.nil aIF fun Xm aIG=>ba gb Xm (cc.mk (.func 217) (List.toArray [.pointer (eu)]) (List.toArray [])) aIG fun S5=>bw ((L aE (eK.add 1) S5) fs)<|bw ((L aE (eK.add 1) S5) dm)<|ba gb Xl (cc.mk (.func 218) (List.toArray [.pointer (fs)]) (List.toArray [])) S5 fun afH=>bw ((L aE (eK.add 1) afH) dm)<|ba gb I5 (cc.mk (.func 219) (List.toArray [.pointer (dm)]) (List.toArray [])) afH fun CG=>xj bK rm Xm Xl I5 CG j)))
theorem ag3{bK rm w j}(h:UA bK rm w j):M Pg 171 [.pointer bK,.int .i64 rm] gb w j:=by
 have fY:=eg 2 (du [0,1,2,5,6,7,10,11,12,3,4,8,9,13,14] (.d 15 16 17 (.l 16 17 (du [17,18,19,20] .e) (du [16,18,19,20] .e)) (.l 15 17 (du [17,18,19,20] .e) (du [15,18,19,20] .e)) (.l 15 16 (du [16,18,19,20] .e) (du [15,18,19,20] .e))))
 have iE:=hs (bp:=Addr×Addr×Addr) 3 (fun s w=>xj bK rm s.1 s.2.1 s.2.2 w j) (fun g s=>ae (ae (ae (ae (ae g 0 (.pointer bK)) 1 (.int .i64 rm)) 5 (.pointer (some s.1))) 6 (.pointer (some s.2.1))) 7 (.pointer (some s.2.2)))
 exact bj 38 Tryz.func171 rfl rfl bk
def UB(bK:aL)(gY:Int)(w:World)(j:Int→World→Prop):Prop:=M Pg 224 [.int .i64 (gY)] bf w fun cA bh=>if (!cA)=true then (j (120:Int) bh) else (ex (bC bK) fun bS=>ex (L (B .i64) (bS.add 1) bh) fun cB=>if (decide (gY>cB))=true then (j (128:Int) bh) else (ex (L (B .i64) (bS.add 2) bh) fun cw=>if (decide (gY<cw))=true then (j (126:Int) bh) else (j (0:Int) bh)))
theorem ag4{bK gY w j}(h:UB bK gY w j):M Pg 172 [.pointer bK,.int .i64 gY] (B .i64) w j:=
 bj 23 Tryz.func172 rfl rfl bk
def UC(r3:(Option Nat))(w:World)(j:cc→World→Prop):Prop:=bG 216 ef r3 w fun aX bh=>j (cc.mk (.func 225) (List.toArray []) (List.toArray [.pointer (some aX)])) bh
theorem ag5{r3 w j}(h:UC r3 w j):M Pg 173 [.map r3] gb w j:=
 bj 4 Tryz.func173 rfl rfl bk
def UD(aM:aL)(gY:Int)(w:World)(j:(eD×Int)→World→Prop):Prop:=bG 292 dD kj w fun aA aU=>if ((decide (gY<(0:Int)))||(decide (gY>(1125899906842624:Int))))=true then (ba dD aA (⟨(0:Int),(0:Int)⟩:eD) aU fun a7=>ex (L dD aA a7) fun cB=>j (cB,(110:Int)) a7) else (ex (bC aM) fun b7=>ex (L (B .i64) (b7.add 1) aU) fun cM=>if (decide (gY<cM))=true then (ba dD aA (⟨(0:Int),(0:Int)⟩:eD) aU fun bU=>ex (L dD aA bU) fun dG=>j (dG,(113:Int)) bU) else (M Pg 226 [.pointer (aM),.int .i64 (gY)] (B .i64) aU fun cE cF=>if (cE==(0:Int))=true then (ba dD aA (⟨(0:Int),(0:Int)⟩:eD) cF fun cg=>ex (L dD aA cg) fun eu=>j (eu,(114:Int)) cg) else (ex (L X (b7.add 0) cF) fun fs=>ex (cD fs 2 (IntKind.i64.wrap (cE-(1:Int)))) fun jw=>ex (L dD jw cF) fun jH=>ba dD aA jH cF fun fT=>ex (L dD aA fT) fun hH=>j (hH,(0:Int)) fT)))
theorem ag6{aM gY w j}(h:UD aM gY w j):M Pg 174 [.pointer aM,.int .i64 gY] (bo dD (B .i64)) w j:=
 bj 37 Tryz.func174 rfl rfl bk
def MD(bK:af)(jg:cc)(bR:Int)(aU:World)(gy:Int→World→Prop)(j:Int→World→Prop):Prop:=if (decide (bR<(bK.len:Int)))=true then (ex (cD bK 2 bR) fun bP=>ex (L p7 bP aU) fun cw=>tF Pg jg [p7.enc (cw)] bf aU fun fj bA=>if fj=true then (j bR bA) else (gy ((IntKind.i64.wrap (bR+(1:Int)))) bA)) else (j (-1:Int) aU)
def UE(bK:af)(jg:cc)(w:World)(j:Int→World→Prop):Prop:=eZ (fun (s:Int) w aa=>MD bK jg s w aa j) ((0:Int)) w
theorem ag7{bK jg w j}(h:UE bK jg w j):M Pg 175 [X.enc bK,jg.enc] (B .i64) w j:=by
 have iQ:=hb (bp:=Int) 3 (fun s w aa=>MD bK jg s w aa j) (fun g s=>ae (ae (ae (ae g 0 (X.enc bK)) 1 (jg.enc)) 7 (.int .i64 ((bK.len:Int)))) 8 (.int .i64 s))
 exact bj 19 Tryz.func175 rfl rfl bk
def Fl(c5:aL)(bO:Int)(xJ:cc)(a7:World)(j:Int→World→Prop):Prop:=ex (bC c5) fun bP=>ex (L (B .i64) (bP.add 1) a7) fun cw=>ba (B .i64) (bP.add 1) (IntKind.i64.wrap (cw+(1:Int))) a7 fun bA=>ex (L X (bP.add 0) bA) fun c3=>ex (cD c3 2 bO) fun eJ=>tF Pg xJ [.pointer (some eJ)] dU bA fun cE cF=>j (0:Int) cF
def UF(c5:aL)(bO:Int)(LG:Int)(xJ:cc)(w:World)(j:Int→World→Prop):Prop:=M Pg 183 [.pointer (c5),.int .i64 (bO)] bf w fun dw cg=>if (!dw)=true then (j (70:Int) cg) else (ex (bC c5) fun gr=>ex (L bf (gr.add 2) cg) fun dm=>if dm=true then (j (71:Int) cg) else (if (decide (LG>(4194304:Int)))=true then (j (72:Int) cg) else (ex (L (B .i64) (gr.add 3) cg) fun jH=>if (jH==(1:Int))=true then (ex (L X (gr.add 4) cg) fun dL=>M Pg 103 [.pointer (c5),X.enc (dL)] dU cg fun mE ed=>j (71:Int) ed) else (ex (L (B .i64) (gr.add 3) cg) fun kO=>if (decide (kO>(1:Int)))=true then (ex (L (B .i64) (gr.add 3) cg) fun iu=>ba (B .i64) (gr.add 3) (IntKind.i64.wrap (iu-(1:Int))) cg fun eh=>Fl c5 bO xJ eh j) else (Fl c5 bO xJ cg j)))))
theorem ag8{c5 bO LG xJ w j}(h:UF c5 bO LG xJ w j):M Pg 177 [.pointer c5,.int .i64 bO,.int .i64 LG,xJ.enc] (B .i64) w j:=by
 have iE:=hs (bp:=Unit) 13 (fun s w=>Fl c5 bO xJ w j) (fun g s=>ae (ae (ae g 0 (.pointer c5)) 1 (.int .i64 bO)) 3 (xJ.enc))
 exact bj 62 Tryz.func177 rfl rfl bk
def UG(fV:aL)(w:World)(j:Unit→World→Prop):Prop:=ex (bC fV) fun aX=>ex (L X (aX.add 0) w) fun dW=>ba (B .i64) (aX.add 1) (dW.len:Int) w fun aU=>j () aU
theorem ag9{fV w j}(h:UG fV w j):M Pg 178 [.pointer fV] dU w j:=
 bj 10 Tryz.func178 rfl rfl bk
def UH(fz:Int)(w:World)(j:Bool→World→Prop):Prop:=j ((decide (fz≥(1:Int)))&&(decide (fz≤(1125899906842624:Int)))) w
theorem aha{fz w j}(h:UH fz w j):M Pg 179 [.int .i64 fz] bf w j:=
 bj 9 Tryz.func179 rfl rfl bk
def UJ(dk:aL)(w:World)(j:Bool→World→Prop):Prop:=ex (bC dk) fun aX=>ex (oh (aX.add 4) 2 3 (0:Int)) fun aA=>ex (L bf (aA.add 1) w) fun c6=>ex (fun x=>c6=true→(bC dk) x) fun bS=>ex (fun x=>c6=true→(oh (bS.add 4) 2 3 (1:Int)) x) fun bP=>ex (fun x=>c6=true→(L bf (bP.add 1) w) x) fun cw=>j (c6&&cw) w
theorem ahc{dk w j}(h:UJ dk w j):M Pg 180 [.pointer dk] bf w j:=
 bj 17 Tryz.func180 rfl rfl bk
def MF(h6:Nat)(w:World)(j:Nat→World→Prop):Prop:=j (Int.toNat (bits .andNot .u64 (h6:Int) (9223372036854775808:Int))) w
theorem UK{h6 w j}(h:MF h6 w j):M Pg 181 [.float .f64 h6] gK w j:=
 bj 7 Tryz.func181 rfl rfl bk
def UL(w:World)(j:aL→World→Prop):Prop:=ua w fun jR dz=>bG 218 p6 (⟨(some jR),(0:Int),(0:Int)⟩:xt) dz fun aA aU=>j (some aA) aU
theorem ahd{w j}(h:UL w j):M Pg 182 [] aE w j:=
 bj 4 Tryz.func182 rfl rfl bk
def UM(c5:aL)(bO:Int)(w:World)(j:Bool→World→Prop):Prop:=ex (fun x=>(decide (bO≥(0:Int)))=true→(bC c5) x) fun aA=>ex (fun x=>(decide (bO≥(0:Int)))=true→(L X (aA.add 0) w) x) fun c6=>j ((decide (bO≥(0:Int)))&&(decide (bO<(c6.len:Int)))) w
theorem ahe{c5 bO w j}(h:UM c5 bO w j):M Pg 183 [.pointer c5,.int .i64 bO] bf w j:=
 bj 16 Tryz.func183 rfl rfl bk
def UN(eL:af)(w:World)(j:(af×Int×Int)→World→Prop):Prop:=if (decide ((eL.len:Int)<(8:Int)))=true then (j ((⟨none,0,0⟩:af),(0:Int),(31:Int)) w) else (M Pg 228 [X.enc (eL)] (B .u32) w fun ga cm=>if (decide ((IntKind.i64.wrap ga)>(65536:Int)))=true then (j ((⟨none,0,0⟩:af),(0:Int),(30:Int)) cm) else (if (decide ((IntKind.i64.wrap ga)>(IntKind.i64.wrap ((eL.len:Int)-(8:Int)))))=true then (j ((⟨none,0,0⟩:af),(0:Int),(31:Int)) cm) else (de cm fun aU=>ex (Sub eL 1 0 (4:Int) ((eL).cap:Int)) fun aes=>ex (Sub eL 1 (8:Int) (IntKind.i64.wrap ((8:Int)+(IntKind.i64.wrap ga))) ((eL).cap:Int)) fun w3=>ex (Sub eL 1 (4:Int) ((eL).len:Int) ((eL).cap:Int)) fun H_=>M Pg 196 [X.enc (aes),X.enc (w3)] (B .u32) aU fun fj bA=>M Pg 228 [X.enc (H_)] (B .u32) bA fun hd cd=>if (fj != hd)=true then (j ((⟨none,0,0⟩:af),(0:Int),(32:Int)) cd) else (s6 5 (B .u8) ([]:List Int) cd fun fM cg=>ex (Sub eL 1 (8:Int) (IntKind.i64.wrap ((8:Int)+(IntKind.i64.wrap ga))) ((eL).cap:Int)) fun Cx=>tz 5 (B .u8) 1 1 (⟨some fM,0,0⟩:af) Cx cg fun mc dJ=>ex (Sub mc 1 0 (IntKind.i64.wrap ga) (IntKind.i64.wrap ga)) fun LA=>j (LA,(IntKind.i64.wrap ((8:Int)+(IntKind.i64.wrap ga))),(0:Int)) dJ))))
theorem ahf{eL w j}(h:UN eL w j):M Pg 184 [X.enc eL] (mj X (B .i64) (B .i64)) w j:=by
 have fY:=eg 9 (du [0,1,2,3,4,5,7,8,6,9,10,11] .e)
 exact bj 46 Tryz.func184 rfl rfl bk
def UO(fV:aL)(bt:Addr)(w:World)(j:Unit→World→Prop):Prop:=ex (L X bt w) fun dW=>yG 5 (B .u8) 1 (0:Int) (dW.len:Int) (dW.len:Int) w fun cu aU=>ex (bC fV) fun bP=>ba X (bP.add 0) cu aU fun bN=>de bN fun bA=>ex (L X (bP.add 0) bA) fun c3=>ex (L X bt bA) fun dG=>Dz (B .u8) 1 c3 dG bA fun cE cF=>ba (B .i64) (bP.add 1) (cE:Int) cF fun cg=>j () cg
theorem ahg{fV bt w j}(h:UO fV bt w j):M Pg 185 [.pointer fV,.pointer (some bt)] dU w j:=by
 have fY:=eg 2 (du [0,1,2,3,4,5,6,7,8,9] .e)
 exact bj 18 Tryz.func185 rfl rfl bk
def MG(fr:aL)(w:World)(j:Int→World→Prop)(ej:ei→World→Prop):Prop:=de w fun cm=>ex (bC fr) fun aA=>ex (L (B .i64) (aA.add 1) cm) fun c6=>ex (L X (aA.add 0) cm) fun dH=>if (decide (c6≥(dH.len:Int)))=true then (ej (ei.mk 259 (jJ.enc ((⟨(22:Int)⟩:j0)))) cm) else (ex (L (B .i64) (aA.add 1) cm) fun cB=>ba (B .i64) (aA.add 1) (IntKind.i64.wrap (cB+(1:Int))) cm fun bN=>de bN fun bA=>ex (L X (aA.add 0) bA) fun c3=>ex (L (B .i64) (aA.add 1) bA) fun dG=>ex (cD c3 1 (IntKind.i64.wrap (dG-(1:Int)))) fun fD=>ex (L (B .u8) fD bA) fun e7=>j e7 bA)
theorem ahh{fr:aL}{w:World}{j:Int→World→Prop}{ej:ei→World→Prop}(h:MG fr w j ej):nR Pg 186 [.pointer (fr)] (B .u8) w ej j:=by
 unfold MG at h
 refine q0 33 Tryz.func186 rfl rfl (Nat.le_of_ble_eq_true rfl)<|wp_seq<|bq _ rfl<|y rfl<|bc<|wp_seq<|wp_seq ?_
 obtain⟨cm,arf,h⟩:=ou h
 refine po 10 mixed rfl (by kernel_rfl) (by intro c a d v w h; cases d<;>exact h) arf (fun ak=>?_)
 refine gf 0 3 (.pointer (fr)) ak rfl rfl ?_
 obtain⟨aA,DV,h⟩:=h
 refine od 1 4 DV ak rfl rfl<|hn 2 5 aA 1 Tryz.underlying257 dj ak rfl rfl rfl<|gf 4 7 (.pointer (fr)) ak rfl rfl<|od 5 8 DV ak rfl rfl<|hn 6 9 aA 0 Tryz.underlying257 vn ak rfl rfl rfl ?_
 obtain⟨c6,arP,h⟩:=h
 refine h7 3 6 arP dj ak rfl rfl ?_
 obtain⟨dH,arU,h⟩:=h
 refine h7 7 10 arU vn ak rfl rfl<|fc 8 11 ak rfl rfl rfl (fun _=>jV (s:=dH) rfl Tryz.underlying189 rfl)<|fc 9 12 ak rfl rfl rfl (fun _=>HS (a:=c6) (l:=(dH.len:Int)) rfl rfl rfl)<|kH (by kernel_rfl)<|fB h rfl (fun _ h=>?_) fun _ h=>?_
 ·refine bq _ rfl<|a2 13 rfl rfl rfl (yU (a_:=(22:Int)) rfl rfl)<|a2 14 rfl rfl rfl (yV (v:=jJ.enc ((⟨(22:Int)⟩:j0))) rfl Tryz.underlying259 rfl rfl)<|en rfl (.free rfl) (CI (v:=(ei.mk 259 (jJ.enc ((⟨(22:Int)⟩:j0))))) rfl rfl ⟨_,_,rfl⟩ ?_)
  exact sa (P:=Pg) (fn:=Tryz.f186) h
 ·refine wp_skip<|wp_seq<|bq _ rfl<|y rfl<|Iy _ DV rfl rfl<|ho _ _ _ Tryz.underlying257 dj rfl rfl rfl<|hR dj h rfl rfl fun cB _ h=>a2 _ rfl rfl rfl (pf rfl rfl rfl)<|Iy _ DV rfl rfl<|ho _ _ _ Tryz.underlying257 dj rfl rfl rfl<|jN dj h rfl rfl rfl fun bN h=>bc ?_
  refine wp_seq ?_
  obtain⟨bA,arC,h⟩:=ou h
  refine po 12 mixed rfl (by kernel_rfl) (by intro c a d v w h; cases d<;>exact h) arC (fun ak=>?_)
  refine gf 0 22 (.pointer (fr)) ak rfl rfl<|od 1 23 DV ak rfl rfl<|hn 2 24 aA 0 Tryz.underlying257 vn ak rfl rfl rfl<|gf 4 26 (.pointer (fr)) ak rfl rfl<|od 5 27 DV ak rfl rfl<|hn 6 28 aA 1 Tryz.underlying257 dj ak rfl rfl rfl ?_
  obtain⟨c3,Qi,h⟩:=h
  refine h7 3 25 Qi vn ak rfl rfl ?_
  obtain⟨dG,P5,h⟩:=h
  refine h7 7 29 P5 dj ak rfl rfl<|fc 8 30 ak rfl rfl rfl (fun _=>yW (a:=dG) (l:=(1:Int)) rfl rfl rfl) ?_
  obtain⟨fD,aoC,h⟩:=h
  refine fc 9 31 ak rfl rfl rfl (fun _=>ks (s:=c3) (k:=.i64) (i:=(IntKind.i64.wrap (dG-(1:Int)))) rfl Tryz.underlying189 HH rfl rfl aoC) ?_
  obtain⟨e7,yn,h⟩:=h
  refine h7 10 32 yn HH ak rfl rfl<|E5 11 2 (.int .u8 (e7)) ak rfl rfl<|kH (by kernel_rfl)<|wp_ret ?_
  exact lZ h rfl rfl
def MI(fr:aL)(bO:Int)(jy:Int)(aU:World)(gy:Int×Int→World→Prop)(j:Int→World→Prop)(ej:ei→World→Prop):Prop:=nR Pg 186 [.pointer (fr)] (B .u8) aU ej fun b0 bT=>if (((jy==(63:Int))&&(decide (b0>(1:Int))))||((decide (jy>(0:Int)))&&(b0==(0:Int))))=true then (ej (ei.mk 259 (jJ.enc ((⟨(23:Int)⟩:j0)))) bT) else (ex (iL jy (IntKind.u64.wrap ((IntKind.u64.wrap (bits .and .u8 b0 (127:Int)))*2^(min (jy).toNat IntKind.u64.bits)))) fun d8=>if (decide (b0<(128:Int)))=true then (j (bits .or .u64 bO d8) bT) else (gy ((bits .or .u64 bO d8),(IntKind.u64.wrap (jy+(7:Int)))) bT))
def MH(fr:aL)(w:World)(j:Int→World→Prop)(ej:ei→World→Prop):Prop:=eZ (fun (s:Int×Int) w aa=>MI fr s.1 s.2 w aa j ej) ((0:Int),(0:Int)) w
theorem ahi{fr:aL}{w:World}{j:Int→World→Prop}{ej:ei→World→Prop}(h:MH fr w j ej):nR Pg 187 [.pointer (fr)] (B .u64) w ej j:=by
 unfold MH at h
 refine q0 36 Tryz.func187 rfl rfl (Nat.le_of_ble_eq_true rfl)<|wp_seq<|bq _ rfl<|y rfl<|bc<|wp_seq<|bq _ rfl<|y rfl<|bc<|wp_seq<|bq _ rfl<|y rfl ?_
 refine bc<|wp_block<|s0 (bp:=Int×Int) (dp:=fun g (s:Int×Int)=>ae (ae (ae (g) 0 (.pointer (fr))) 3 (.int .u64 (s.1))) 4 (.int .u64 (s.2))) (mi:=((0:Int),(0:Int))) (aP (aP (aP rfl rfl) rfl) rfl) h ?_
 rintro⟨bO,jy⟩ g aU gy h
 unfold MI at h
 refine wp_seq<|wp_block<|wp_seq<|bq _ rfl<|y rfl<|en rfl (.free rfl) (zc (d:=(some 9)) rfl (fR (k:=186) (m:=[.pointer (fr)]) rfl OE rfl) h ?_ ?_)
 ·exact fun _ _ h=>sa (P:=Pg) (fn:=Tryz.f187) h
 intro b0 bT h
 refine y rfl<|bc<|wp_seq<|wp_seq<|bq _ rfl<|y rfl<|a2 _ rfl rfl rfl (iH rfl rfl rfl)<|y rfl<|fo 13 2 12 rfl rfl rfl rfl rfl (fun R=>cQ (v:=.int .u8 (b0)) rfl rfl)<|fo 14 2 12 rfl rfl rfl rfl rfl (fun R=>vw (k:=.u8) (a:=b0) (l:=(1:Int)) rfl (da R) rfl)<|a2 15 rfl rfl rfl (m3 rfl rfl rfl rfl)<|y rfl ?_
 refine dY 17 6 16 rfl rfl rfl rfl rfl (fun R=>cQ (v:=.int .u64 (jy)) rfl rfl)<|dY 18 6 16 rfl rfl rfl rfl rfl (fun R=>vw (k:=.u64) (a:=jy) (l:=(0:Int)) rfl (da R) rfl)<|dY 19 6 16 rfl rfl rfl rfl rfl (fun R=>cQ (v:=.bool ((decide (jy>(0:Int))))) rfl (da R))<|xU 20 9 19 rfl rfl rfl rfl rfl (fun R=>cQ (v:=.int .u8 (b0)) rfl rfl)<|xU 21 9 19 rfl rfl rfl rfl rfl (fun R=>iH (k:=.u8) (a:=b0) (l:=(0:Int)) rfl (da R) rfl)<|dY 22 6 16 rfl rfl rfl rfl rfl (fun R=>HT (cO:=(!((jy==(63:Int))&&(decide (b0>(1:Int)))))) (a:=(decide (jy>(0:Int)))) (l:=(b0==(0:Int))) R rfl rfl rfl rfl)<|a2 23 rfl rfl rfl (mD rfl rfl rfl rfl)<|bc<|fB h rfl (fun _ h=>?_) fun _ h=>?_
 ·refine bq _ rfl<|a2 24 rfl rfl rfl (yU (a_:=(23:Int)) rfl rfl)<|a2 25 rfl rfl rfl (yV (v:=jJ.enc ((⟨(23:Int)⟩:j0))) rfl Tryz.underlying259 rfl rfl)<|en rfl (.free rfl) (CI (v:=(ei.mk 259 (jJ.enc ((⟨(23:Int)⟩:j0))))) rfl rfl ⟨_,_,rfl⟩ ?_)
  exact sa (P:=Pg) (fn:=Tryz.f187) h
 ·refine wp_skip<|wp_seq<|bq _ rfl<|y rfl<|y rfl<|a2 28 rfl rfl rfl (Lc (a:=b0) (l:=(127:Int)) rfl rfl rfl)<|a2 29 rfl rfl rfl (uf (a:=(bits .and .u8 b0 (127:Int))) rfl Tryz.underlying5 Tryz.underlying195 rfl)<|y rfl ?_
  obtain⟨d8,apc,h⟩:=h
  refine a2 31 rfl rfl rfl (Li (a:=(IntKind.u64.wrap (bits .and .u8 b0 (127:Int)))) (l:=jy) (r:=d8) rfl rfl rfl apc)<|a2 32 rfl rfl rfl (Lh (a:=bO) (l:=d8) rfl rfl rfl)<|y rfl<|bc<|wp_seq<|bq _ rfl<|y rfl<|a2 _ rfl rfl rfl (ma rfl rfl rfl)<|bc<|fB h rfl (fun _ h=>?_) fun _ h=>?_
  ·refine wp_seq<|bq _ rfl<|y rfl<|y rfl<|bc<|wp_ret ?_
   exact lZ h rfl rfl
  ·refine wp_skip<|bq _ rfl<|y rfl<|a2 _ rfl rfl rfl (pf rfl rfl rfl)<|y rfl<|bc ?_
   exact⟨((bits .or .u64 bO d8),(IntKind.u64.wrap (jy+(7:Int)))),_,arr (aP (aP (aP rfl rfl) rfl) rfl),h⟩
def MK(fr:aL)(bO:Int)(bR:Int)(aU:World)(gy:Int×Int→World→Prop)(j:Nat→World→Prop)(ej:ei→World→Prop):Prop:=if (decide (bR<(8:Int)))=true then (ex (iL (8:Int) (IntKind.u64.wrap (bO*2^(min ((8:Int)).toNat IntKind.u64.bits)))) fun d6=>nR Pg 186 [.pointer (fr)] (B .u8) aU ej fun cp bN=>gy ((bits .or .u64 d6 (IntKind.u64.wrap cp)),(IntKind.i64.wrap (bR+(1:Int)))) bN) else (M Pg 229 [.float .f64 ((Int.toNat bO))] (B .u64) aU fun ca bU=>if (ca != bO)=true then (ej (ei.mk 259 (jJ.enc ((⟨(25:Int)⟩:j0)))) bU) else (j (Int.toNat bO) bU))
def MJ(fr:aL)(w:World)(j:Nat→World→Prop)(ej:ei→World→Prop):Prop:=eZ (fun (s:Int×Int) w aa=>MK fr s.1 s.2 w aa j ej) ((0:Int),(0:Int)) w
theorem ahj{fr:aL}{w:World}{j:Nat→World→Prop}{ej:ei→World→Prop}(h:MJ fr w j ej):nR Pg 188 [.pointer (fr)] gK w ej j:=by
 unfold MJ at h
 refine q0 23 Tryz.func188 rfl rfl (Nat.le_of_ble_eq_true rfl)<|wp_seq<|bq _ rfl<|y rfl<|bc<|wp_seq<|bq _ rfl<|y rfl<|bc<|wp_seq<|wp_seq<|bq _ rfl ?_
 refine y rfl<|bc<|wp_block<|s0 (bp:=Int×Int) (dp:=fun g (s:Int×Int)=>ae (ae (ae (g) 0 (.pointer (fr))) 3 (.int .u64 (s.1))) 5 (.int .i64 (s.2))) (mi:=((0:Int),(0:Int))) (aP (aP (aP rfl rfl) rfl) rfl) h ?_
 rintro⟨bO,bR⟩ g aU gy h
 unfold MK at h
 refine wp_seq<|bq _ rfl<|a2 _ rfl rfl rfl (ma rfl rfl rfl)<|bc<|wp_seq<|fB h rfl (fun _ h=>?_) fun _ h=>?_
 ·refine wp_skip<|wp_seq<|wp_block<|bq _ rfl<|y rfl ?_
  obtain⟨d6,apb,h⟩:=h
  refine a2 8 rfl rfl rfl (Li (a:=bO) (l:=(8:Int)) (r:=d6) rfl rfl rfl apb)<|y rfl<|en rfl (.free rfl) (zc (d:=(some 10)) rfl (fR (k:=186) (m:=[.pointer (fr)]) rfl OE rfl) h ?_ ?_)
  ·exact fun _ _ h=>sa (P:=Pg) (fn:=Tryz.f188) h
  intro cp bN h
  refine a2 11 rfl rfl rfl (uf (a:=cp) rfl Tryz.underlying5 Tryz.underlying195 rfl)<|a2 12 rfl rfl rfl (Lh (a:=d6) (l:=(IntKind.u64.wrap cp)) rfl rfl rfl)<|y rfl<|bc<|bq _ rfl<|a2 _ rfl rfl rfl (pf rfl rfl rfl)<|y rfl<|bc ?_
  exact⟨((bits .or .u64 d6 (IntKind.u64.wrap cp)),(IntKind.i64.wrap (bR+(1:Int)))),_,arr (aP (aP (aP rfl rfl) rfl) rfl),h⟩
 ·refine wp_exit<|wp_seq<|bq _ rfl<|y rfl<|a2 15 rfl rfl rfl (RT (l:=bO) rfl OL rfl)<|y rfl<|bc<|wp_seq<|wp_seq<|bq _ rfl<|y rfl<|ft am2 rfl rfl h fun ca bU h=>?_
  refine y rfl<|a2 _ rfl rfl rfl (hc rfl rfl rfl)<|bc<|fB h rfl (fun _ h=>?_) fun _ h=>?_
  ·refine bq _ rfl<|a2 20 rfl rfl rfl (yU (a_:=(25:Int)) rfl rfl)<|a2 21 rfl rfl rfl (yV (v:=jJ.enc ((⟨(25:Int)⟩:j0))) rfl Tryz.underlying259 rfl rfl)<|en rfl (.free rfl) (CI (v:=(ei.mk 259 (jJ.enc ((⟨(25:Int)⟩:j0))))) rfl rfl ⟨_,_,rfl⟩ ?_)
   exact sa (P:=Pg) (fn:=Tryz.f188) h
  ·refine wp_skip<|wp_seq<|bq _ rfl<|y rfl<|y rfl<|bc<|wp_ret ?_
   exact lZ h rfl rfl
def ML(fr:aL)(w:World)(j:(List UInt8)→World→Prop)(ej:ei→World→Prop):Prop:=nR Pg 187 [.pointer (fr)] (B .u64) w ej fun ga cm=>if (decide (ga>(1000:Int)))=true then (ej (ei.mk 259 (jJ.enc ((⟨(24:Int)⟩:j0)))) cm) else (de cm fun aU=>ex (bC fr) fun bS=>ex (L X (bS.add 0) aU) fun cB=>ex (L (B .i64) (bS.add 1) aU) fun cw=>if (decide ((IntKind.u64.wrap (IntKind.i64.wrap ((cB.len:Int)-cw)))<ga))=true then (ej (ei.mk 259 (jJ.enc ((⟨(22:Int)⟩:j0)))) aU) else (ex (L (B .i64) (bS.add 1) aU) fun cM=>ba (B .i64) (bS.add 1) (IntKind.i64.wrap (cM+(IntKind.i64.wrap ga))) aU fun bU=>de bU fun cd=>ex (L X (bS.add 0) cd) fun c2=>ex (L (B .i64) (bS.add 1) cd) fun e7=>ex (L (B .i64) (bS.add 1) cd) fun dQ=>ex (Sub c2 1 (IntKind.i64.wrap (e7-(IntKind.i64.wrap ga))) dQ ((c2).cap:Int)) fun Cx=>ex (tl Cx cd) fun H8=>j H8 cd))
theorem ahk{fr:aL}{w:World}{j:(List UInt8)→World→Prop}{ej:ei→World→Prop}(h:ML fr w j ej):nR Pg 189 [.pointer (fr)] qB w ej j:=by
 unfold ML at h
 refine q0 51 Tryz.func189 rfl rfl (Nat.le_of_ble_eq_true rfl)<|wp_seq<|bq _ rfl<|y rfl<|bc<|wp_seq<|bq _ rfl<|y rfl<|en rfl (.free rfl) (zc (d:=(some 5)) rfl (fR (k:=187) (m:=[.pointer (fr)]) rfl OF rfl) h ?_ ?_)
 ·exact fun _ _ h=>sa (P:=Pg) (fn:=Tryz.f189) h
 intro ga cm h
 refine y rfl<|bc<|wp_seq<|wp_seq<|bq _ rfl<|y rfl<|a2 _ rfl rfl rfl (vw rfl rfl rfl)<|bc<|fB h rfl (fun _ h=>?_) fun _ h=>?_
 ·refine bq _ rfl<|a2 8 rfl rfl rfl (yU (a_:=(24:Int)) rfl rfl)<|a2 9 rfl rfl rfl (yV (v:=jJ.enc ((⟨(24:Int)⟩:j0))) rfl Tryz.underlying259 rfl rfl)<|en rfl (.free rfl) (CI (v:=(ei.mk 259 (jJ.enc ((⟨(24:Int)⟩:j0))))) rfl rfl ⟨_,_,rfl⟩ ?_)
  exact sa (P:=Pg) (fn:=Tryz.f189) h
 ·refine wp_skip<|wp_seq<|wp_seq ?_
  obtain⟨aU,art,h⟩:=ou h
  refine po 13 mixed rfl (by kernel_rfl) (by intro c a d v w h; cases d<;>exact h) art (fun ak=>?_)
  refine gf 0 10 (.pointer (fr)) ak rfl rfl ?_
  obtain⟨bS,Bx,h⟩:=h
  refine od 1 11 Bx ak rfl rfl<|hn 2 12 bS 0 Tryz.underlying257 vn ak rfl rfl rfl<|gf 5 15 (.pointer (fr)) ak rfl rfl<|od 6 16 Bx ak rfl rfl<|hn 7 17 bS 1 Tryz.underlying257 dj ak rfl rfl rfl<|gf 11 21 (.int .u64 (ga)) ak rfl rfl ?_
  obtain⟨cB,arW,h⟩:=h
  refine h7 3 13 arW vn ak rfl rfl<|fc 4 14 ak rfl rfl rfl (fun _=>jV (s:=cB) rfl Tryz.underlying189 rfl) ?_
  obtain⟨cw,Qg,h⟩:=h
  refine h7 8 18 Qg dj ak rfl rfl<|fc 9 19 ak rfl rfl rfl (fun _=>yW (a:=(cB.len:Int)) (l:=cw) rfl rfl rfl)<|fc 10 20 ak rfl rfl rfl (fun _=>uf (a:=(IntKind.i64.wrap ((cB.len:Int)-cw))) rfl Tryz.underlying3 Tryz.underlying195 rfl)<|fc 12 22 ak rfl rfl rfl (fun _=>ma (a:=(IntKind.u64.wrap (IntKind.i64.wrap ((cB.len:Int)-cw)))) (l:=ga) rfl rfl rfl)<|kH (by kernel_rfl)<|fB h rfl (fun _ h=>?_) fun _ h=>?_
  ·refine bq _ rfl<|a2 23 rfl rfl rfl (yU (a_:=(22:Int)) rfl rfl)<|a2 24 rfl rfl rfl (yV (v:=jJ.enc ((⟨(22:Int)⟩:j0))) rfl Tryz.underlying259 rfl rfl)<|en rfl (.free rfl) (CI (v:=(ei.mk 259 (jJ.enc ((⟨(22:Int)⟩:j0))))) rfl rfl ⟨_,_,rfl⟩ ?_)
   exact sa (P:=Pg) (fn:=Tryz.f189) h
  ·refine wp_skip<|wp_seq<|bq _ rfl<|y rfl<|Iy _ Bx rfl rfl<|ho _ _ _ Tryz.underlying257 dj rfl rfl rfl<|hR dj h rfl rfl fun cM _ h=>y rfl<|a2 30 rfl rfl rfl (uf (a:=ga) rfl Tryz.underlying195 Tryz.underlying3 rfl)<|a2 _ rfl rfl rfl (pf rfl rfl rfl)<|Iy _ Bx rfl rfl<|ho _ _ _ Tryz.underlying257 dj rfl rfl rfl ?_
   refine jN dj h rfl rfl rfl fun bU h=>bc<|wp_seq ?_
   obtain⟨cd,PZ,h⟩:=ou h
   refine po 18 mixed rfl (by kernel_rfl) (by intro c a d v w h; cases d<;>exact h) PZ (fun ak=>?_)
   refine gf 0 34 (.pointer (fr)) ak rfl rfl<|od 1 35 Bx ak rfl rfl<|hn 2 36 bS 0 Tryz.underlying257 vn ak rfl rfl rfl<|gf 4 38 (.pointer (fr)) ak rfl rfl<|od 5 39 Bx ak rfl rfl<|hn 6 40 bS 1 Tryz.underlying257 dj ak rfl rfl rfl<|gf 8 42 (.int .u64 (ga)) ak rfl rfl<|fc 9 43 ak rfl rfl rfl (fun _=>uf (a:=ga) rfl Tryz.underlying195 Tryz.underlying3 rfl)<|gf 11 45 (.pointer (fr)) ak rfl rfl<|od 12 46 Bx ak rfl rfl<|hn 13 47 bS 1 Tryz.underlying257 dj ak rfl rfl rfl ?_
   obtain⟨c2,BO,h⟩:=h
   refine h7 3 37 BO vn ak rfl rfl ?_
   obtain⟨e7,yn,h⟩:=h
   refine h7 7 41 yn dj ak rfl rfl<|fc 10 44 ak rfl rfl rfl (fun _=>yW (a:=e7) (l:=(IntKind.i64.wrap ga)) rfl rfl rfl) ?_
   obtain⟨dQ,P6,h⟩:=h
   refine h7 14 48 P6 dj ak rfl rfl ?_
   obtain⟨Cx,aqY,h⟩:=h
   refine fc 15 49 ak rfl rfl rfl (fun _=>Lj (s:=c2) (m:=(IntKind.i64.wrap (e7-(IntKind.i64.wrap ga)))) (h:=dQ) rfl Tryz.underlying189 HH rfl rfl rfl aqY) ?_
   obtain⟨H8,aqZ,h⟩:=h
   refine tb (i:=16) (d:=(some 50)) (fun A=>(tl Cx A) H8) ak (by kernel_rfl) (by kernel_rfl) rfl (.free rfl) rfl (fun A ab=>RD (l:=Cx) (r:=H8) rfl Tryz.underlying189 Tryz.underlying5 Tryz.underlying9 rfl ab) aqZ<|E5 17 2 (.string ⟨(H8).toArray⟩) ak rfl rfl<|kH (by kernel_rfl)<|wp_ret ?_
   exact lZ h rfl rfl
def IH(eR:Nat)(e0:Bool)(a7:World)(j:(Nat×Int)→World→Prop):Prop:=if e0=true then (j (eR,(0:Int)) a7) else (M Pg 231 [.float .f64 (eR)] (bo gK (B .i64)) a7 fun b0 bT=>ex (iL (52:Int) (Int.fdiv (b0.1:Int) (2^(min ((52:Int)).toNat IntKind.u64.bits)))) fun d8=>j ((Int.toNat (bits .or .u64 (bits .andNot .u64 (b0.1:Int) (9218868437227405312:Int)) (4602678819172646912:Int))),(IntKind.i64.wrap (b0.2+(IntKind.i64.wrap ((IntKind.i64.wrap ((IntKind.i64.wrap (bits .and .u64 d8 (2047:Int)))-(1023:Int)))+(1:Int)))))) bT)
def MM(eR:Nat)(w:World)(j:(Nat×Int)→World→Prop):Prop:=if (fO .eql eR (0:Nat))=true then (j (eR,(0:Int)) w) else (M Pg 138 [.float .f64 (eR),.int .i64 ((0:Int))] bf w fun ga cm=>if ga=true then (IH eR true cm j) else (M Pg 230 [.float .f64 (eR)] bf cm fun cE cF=>IH eR cE cF j))
theorem UQ{eR w j}(h:MM eR w j):M Pg 191 [.float .f64 eR] (bo gK (B .i64)) w j:=by
 have o8:=pN (bp:=Bool) [3,4,5] [6] (fun s w=>IH eR s w j) (fun g s=>ae (ae g 0 (.float .f64 eR)) 15 (.bool s))
 exact bj 38 Tryz.func191 rfl rfl bk
def IJ(cp:(Nat×Int))(anH:Int)(aCr:Nat)(ed:World)(j:Nat→World→Prop):Prop:=ex (iL (52:Int) (IntKind.u64.wrap ((IntKind.u64.wrap (IntKind.i64.wrap (anH+(1023:Int))))*2^(min ((52:Int)).toNat IntKind.u64.bits)))) fun d20=>ex (xl .mul aCr (Int.toNat (bits .or .u64 (bits .andNot .u64 (cp.1:Int) (9218868437227405312:Int)) d20))) fun aJm=>j aJm ed
def II(ov:Nat)(o2:Int)(lW:Bool)(bT:World)(j:Nat→World→Prop):Prop:=if lW=true then (j ov bT) else (M Pg 231 [.float .f64 (ov)] (bo gK (B .i64)) bT fun cp bN=>ex (iL (52:Int) (Int.fdiv (cp.1:Int) (2^(min ((52:Int)).toNat IntKind.u64.bits)))) fun d9=>if (decide ((IntKind.i64.wrap ((IntKind.i64.wrap (o2+cp.2))+(IntKind.i64.wrap ((bits .and .i64 (IntKind.i64.wrap d9) (2047:Int))-(1023:Int)))))<(-1075:Int)))=true then (M Pg 232 [.float .f64 ((0:Nat)),.float .f64 (cp.1)] gK bN fun hd cd=>j hd cd) else (if (decide ((IntKind.i64.wrap ((IntKind.i64.wrap (o2+cp.2))+(IntKind.i64.wrap ((bits .and .i64 (IntKind.i64.wrap d9) (2047:Int))-(1023:Int)))))>(1023:Int)))=true then (if (fO .lss cp.1 (0:Nat))=true then (M Pg 233 [.int .i64 ((-1:Int))] gK bN fun et cl=>j et cl) else (M Pg 233 [.int .i64 ((1:Int))] gK bN fun hf c1=>j hf c1)) else (if (decide ((IntKind.i64.wrap ((IntKind.i64.wrap (o2+cp.2))+(IntKind.i64.wrap ((bits .and .i64 (IntKind.i64.wrap d9) (2047:Int))-(1023:Int)))))<(-1022:Int)))=true then (IJ cp (IntKind.i64.wrap ((IntKind.i64.wrap ((IntKind.i64.wrap (o2+cp.2))+(IntKind.i64.wrap ((bits .and .i64 (IntKind.i64.wrap d9) (2047:Int))-(1023:Int)))))+(53:Int))) (4368491638549381120:Nat) bN j) else (IJ cp (IntKind.i64.wrap ((IntKind.i64.wrap (o2+cp.2))+(IntKind.i64.wrap ((bits .and .i64 (IntKind.i64.wrap d9) (2047:Int))-(1023:Int))))) (4607182418800017408:Nat) bN j))))
def MN(ov:Nat)(o2:Int)(w:World)(j:Nat→World→Prop):Prop:=if (fO .eql ov (0:Nat))=true then (j ov w) else (M Pg 138 [.float .f64 (ov),.int .i64 ((0:Int))] bf w fun cA bh=>if cA=true then (II ov o2 true bh j) else (M Pg 230 [.float .f64 (ov)] bf bh fun dP fW=>II ov o2 dP fW j))
theorem UR{ov o2 w j}(h:MN ov o2 w j):M Pg 193 [.float .f64 ov,.int .i64 o2] gK w j:=by
 have iE:=fun {cp:(Nat×Int)}=>hs (bp:=Int×Nat) 20 (fun s w=>IJ cp s.1 s.2 w j) (fun g s=>ae (ae (ae g 6 (.int .u64 ((cp.1:Int)))) 1 (.int .i64 (s.1))) 7 (.float .f64 (s.2)))
 have o8:=pN (bp:=Bool) [3,4,5] [6] (fun s w=>II ov o2 s w j) (fun g s=>ae (ae (ae g 0 (.float .f64 ov)) 1 (.int .i64 o2)) 18 (.bool s))
 exact bj 63 Tryz.func193 rfl rfl bk
def US(bd:Int)(bt:Addr)(w:World)(j:Unit→World→Prop):Prop:=ex (L (B .i64) bt w) fun dW=>ba (B .i64) bt (max dW bd) w fun aU=>j () aU
theorem ahm{bd bt w j}(h:US bd bt w j):M Pg 194 [.int .i64 bd,.pointer (some bt)] dU w j:=
 bj 6 Tryz.func194 rfl rfl bk
def UT(eL:af)(bO:Int)(w:World)(j:af→World→Prop):Prop:=ex (iL (24:Int) (Int.fdiv bO (2^(min ((24:Int)).toNat IntKind.u32.bits)))) fun d3=>ex (iL (16:Int) (Int.fdiv bO (2^(min ((16:Int)).toNat IntKind.u32.bits)))) fun d4=>ex (iL (8:Int) (Int.fdiv bO (2^(min ((8:Int)).toNat IntKind.u32.bits)))) fun d5=>l3 5 (B .u8) 1 1 eL [(IntKind.u8.wrap d3),(IntKind.u8.wrap d4),(IntKind.u8.wrap d5),(IntKind.u8.wrap bO)] w fun fj bA=>j fj bA
theorem ahn{eL bO w j}(h:UT eL bO w j):M Pg 195 [X.enc eL,.int .u32 bO] X w j:=
 bj 19 Tryz.func195 rfl rfl bk
def UU(Kx:af)(yA:af)(w:World)(j:Int→World→Prop):Prop:=M Pg 234 [.int .u32 ((4294967295:Int)),X.enc (Kx)] (B .u32) w fun cA bh=>M Pg 234 [.int .u32 (cA),X.enc (yA)] (B .u32) bh fun bJ a7=>j (bits .xor .u32 IntKind.u32.max bJ) a7
theorem aho{Kx yA w j}(h:UU Kx yA w j):M Pg 196 [X.enc Kx,X.enc yA] (B .u32) w j:=
 bj 10 Tryz.func196 rfl rfl bk
def UV(fV:aL)(bt:Addr)(w:World)(j:Unit→World→Prop):Prop:=de w fun bh=>ex (bC fV) fun a3=>ex (L X (a3.add 0) bh) fun dH=>ex (L X bt bh) fun cB=>tz 5 (B .u8) 1 1 dH cB bh fun cp bN=>ba X (a3.add 0) cp bN fun bU=>j () bU
theorem ahp{fV bt w j}(h:UV fV bt w j):M Pg 197 [.pointer fV,.pointer (some bt)] dU w j:=by
 have fY:=eg 1 (du [0,1,2,3,4,5,6,7,8,9] .e)
 exact bj 12 Tryz.func197 rfl rfl bk
def UW(cR:mP)(w:World)(j:Int→World→Prop):Prop:=bG 197 gg cR w fun aX bh=>ex (L gg aX bh) fun c6=>M Pg 235 [gg.enc (c6)] bf bh fun bJ a7=>if (!bJ)=true then (j (21:Int) a7) else (ex (L qB (aX.add 4) a7) fun cw=>if (decide ((cw.length:Int)>(1000:Int)))=true then (j (24:Int) a7) else (j (0:Int) a7))
theorem ahq{cR w j}(h:UW cR w j):M Pg 198 [gg.enc cR] (B .i64) w j:=
 bj 12 Tryz.func198 rfl rfl bk
def MO(fI:Int)(XB:af)(Ke:Int)(ir:World)(ajx:af×Int→World→Prop)(j:af→World→Prop):Prop:=if (decide (Ke≥(0:Int)))=true then (ex (iL (IntKind.u64.wrap Ke) (Int.fdiv fI (2^(min ((IntKind.u64.wrap Ke)).toNat IntKind.u64.bits)))) fun d27=>l3 5 (B .u8) 1 1 XB [(IntKind.u8.wrap d27)] ir fun me gN=>ajx (me,(IntKind.i64.wrap (Ke-(8:Int)))) gN) else (j XB ir)
def UX(eL:af)(LR:mP)(w:World)(j:af→World→Prop):Prop:=bG 197 gg LR w fun aA aU=>ex (L (B .i64) (aA.add 0) aU) fun dH=>l3 5 (B .u8) 1 1 eL [(IntKind.u8.wrap dH)] aU fun fj bA=>ex (L (B .i64) (aA.add 0) bA) fun dG=>if (dG==(1:Int))=true then (ex (L (B .u64) (aA.add 1) bA) fun c2=>M Pg 236 [X.enc (fj),.int .u64 (c2)] X bA fun et cl=>j et cl) else (if (dG==(2:Int))=true then (ex (L (B .i64) (aA.add 2) bA) fun eu=>ex (iL (1:Int) (IntKind.u64.wrap ((IntKind.u64.wrap eu)*2^(min ((1:Int)).toNat IntKind.u64.bits)))) fun d15=>ex (L (B .i64) (aA.add 2) bA) fun dm=>ex (iL (63:Int) (Int.fdiv dm (2^(min ((63:Int)).toNat IntKind.i64.bits)))) fun d17=>M Pg 236 [X.enc (fj),.int .u64 ((bits .xor .u64 d15 (IntKind.u64.wrap d17)))] X bA fun wZ fT=>j wZ fT) else (if (dG==(3:Int))=true then (ex (L gK (aA.add 3) bA) fun gd=>M Pg 229 [.float .f64 (gd)] (B .u64) bA fun fI eo=>eZ (fun (s:af×Int) w aa=>MO fI s.1 s.2 w aa j) (fj,(56:Int)) eo) else (de bA fun is=>ex (L qB (aA.add 4) is) fun kv=>ex (L qB (aA.add 4) is) fun mL=>M Pg 236 [X.enc (fj),.int .u64 ((IntKind.u64.wrap (kv.length:Int)))] X is fun k2 lq=>bw ((L qB (aA.add 4) lq) kv)<|bw ((L qB (aA.add 4) lq) mL)<|N1 5 k2 mL lq fun nD kL=>bw ((L qB (aA.add 4) kL) kv)<|j nD kL)))
theorem ahr{eL LR w j}(h:UX eL LR w j):M Pg 199 [X.enc eL,gg.enc LR] X w j:=by
 have iQ:=fun {fI}=>hb (bp:=af×Int) 11 (fun s w aa=>MO fI s.1 s.2 w aa j) (fun g s=>ae (ae (ae g 5 (.int .u64 fI)) 0 (X.enc (s.1))) 6 (.int .i64 (s.2)))
 have fY:=eg 15 (du [0,1,6,2,3,4,7,5,8,9] .e)
 exact bj 61 Tryz.func199 rfl rfl bk
def UZ(cR:aL)(bt:Int)(w:World)(j:Int→World→Prop):Prop:=if ((decide (bt<(1:Int)))||(decide (bt>(1125899906842624:Int))))=true then (j (151:Int) w) else (ex (bC cR) fun aA=>ex (L (B .i64) (aA.add 2) w) fun c6=>if (decide (bt≤c6))=true then (j (152:Int) w) else (j (0:Int) w))
theorem ahv{cR bt w j}(h:UZ cR bt w j):M Pg 210 [.pointer cR,.int .i64 bt] (B .i64) w j:=
 bj 19 Tryz.func210 rfl rfl bk
def U0(bK:aL)(yw:Int)(w:World)(j:(eD×Bool)→World→Prop):Prop:=bG 292 dD kj w fun aA aU=>ex (bC bK) fun bS=>ex (L ef (bS.add 0) aU) fun cB=>ex (ih aE .i64 cB yw aU) fun Em=>if (!(((Em.getD (none:Option Addr),Em.isSome)).2))=true then (ba dD aA (⟨(0:Int),(0:Int)⟩:eD) aU fun bA=>ex (L dD aA bA) fun c3=>j (c3,false) bA) else (M Pg 243 [.pointer (((Em.getD (none:Option Addr),Em.isSome)).1)] (bo dD bf) aU fun hd cd=>ba dD aA hd.1 cd fun cl=>ex (L dD aA cl) fun dQ=>j (dQ,hd.2) cl)
theorem ahw{bK yw w j}(h:U0 bK yw w j):M Pg 211 [.pointer bK,.int .i64 yw] (bo dD bf) w j:=
 bj 24 Tryz.func211 rfl rfl bk
def U1(jx:Int)(w:World)(j:Bool→World→Prop):Prop:=j ((decide (jx≥(0:Int)))&&(decide (jx<(4096:Int)))) w
theorem ahx{jx w j}(h:U1 jx w j):M Pg 212 [.int .i64 jx] bf w j:=
 bj 9 Tryz.func212 rfl rfl bk
def U2(bd:Int)(w:World)(j:Int→World→Prop):Prop:=if ((decide (bd<(0:Int)))||(decide (bd>(1000000000000000:Int))))=true then (j (40:Int) w) else (j (0:Int) w)
theorem ahy{bd w j}(h:U2 bd w j):M Pg 213 [.int .i64 bd] (B .i64) w j:=
 bj 9 Tryz.func213 rfl rfl bk
def Fm(bt:Int)(jX:Int)(eK:Addr)(akU:aL)(eo:World)(mM:Int→World→Prop)(j:Int→World→Prop):Prop:=ex (L (B .i64) (eK.add 1) eo) fun iu=>M Pg 246 [.pointer (akU),.int .i64 (bt),.int .i64 (iu)] (B .i64) eo fun w0 eh=>mM ((IntKind.i64.wrap (jX+(1:Int)))) eh
def MQ(bt:Int)(lL:af)(a3:Addr)(jX:Int)(bU:World)(mM:Int→World→Prop)(j:Int→World→Prop):Prop:=if (decide (jX<(lL.len:Int)))=true then (ex (cD lL 2 jX) fun fD=>ex (L hL fD bU) fun e7=>bG 87 hL Dj bU fun eK c1=>ba hL eK e7 c1 fun dJ=>de dJ fun dK=>ex (L ef (a3.add 0) dK) fun jH=>ex (L (B .i64) (eK.add 0) dK) fun dL=>ex (ih aE .i64 jH dL dK) fun r2=>if (!(((r2.getD (none:Option Addr),r2.isSome)).2))=true then (M Pg 245 [] aE dK fun yX ir=>de ir fun fW=>ex (L ef (a3.add 0) fW) fun mK=>ex (L (B .i64) (eK.add 0) fW) fun oO=>qh aE .i64 mK oO yX fW fun gN=>Fm bt jX eK yX gN mM j) else (Fm bt jX eK (((r2.getD (none:Option Addr),r2.isSome)).1) dK mM j)) else (j (0:Int) bU)
def U3(bK:aL)(bt:Int)(lL:af)(w:World)(j:Int→World→Prop):Prop:=if ((decide (bt<(1:Int)))||(decide (bt>(1125899906842624:Int))))=true then (j (120:Int) w) else (ex (bC bK) fun a3=>ex (L (B .i64) (a3.add 1) w) fun dH=>if (decide (bt≤dH))=true then (j (121:Int) w) else (M Pg 244 [.pointer (bK),.int .i64 (bt),X.enc (lL)] (B .i64) w fun b0 bT=>if (b0 != (0:Int))=true then (j b0 bT) else (eZ (fun (s:Int) w aa=>MQ bt lL a3 s w aa j) ((0:Int)) bT)))
theorem ahz{bK bt lL w j}(h:U3 bK bt lL w j):M Pg 214 [.pointer bK,.int .i64 bt,X.enc lL] (B .i64) w j:=by
 have fY:=eg 12 (du [0,1,2,4,3,5,6,7,8,9,10,11] .e)
 have rQ:=eg 15 (du [0,1,2,4,6,3,5,7] .e)
 have iE:=fun {jX} {eK} {mM}=>hs (bp:=aL) 16 (fun s w=>Fm bt jX eK s w mM j) (fun g s=>ae (ae (ae (ae (ae (ae (ae g 0 (.pointer bK)) 1 (.int .i64 bt)) 9 (.pointer (some eK))) 33 (X.enc lL)) 34 (.int .i64 ((lL.len:Int)))) 35 (.int .i64 jX)) 10 (.pointer s))
 have iQ:=fun {a3}=>hb (bp:=Int) 10 (fun s w aa=>MQ bt lL a3 s w aa j) (fun g s=>ae (ae (ae (ae (ae g 0 (.pointer bK)) 1 (.int .i64 bt)) 33 (X.enc lL)) 34 (.int .i64 ((lL.len:Int)))) 35 (.int .i64 s))
 exact bj 65 Tryz.func214 rfl rfl bk
def U4(cR:aL)(bt:Int)(w:World)(j:Unit→World→Prop):Prop:=ex (bC cR) fun aA=>ex (L (B .i64) (aA.add 2) w) fun c6=>ba (B .i64) (aA.add 2) (max c6 bt) w fun a7=>j () a7
theorem ahA{cR bt w j}(h:U4 cR bt w j):M Pg 215 [.pointer cR,.int .i64 bt] dU w j:=
 bj 13 Tryz.func215 rfl rfl bk
def Fp(aA:Addr)(bP:Addr)(zL:Addr)(Cc:Bool)(r2:(Option Int))(td:Bool)(fX:World)(j:(Int×Int)→World→Prop):Prop:=if td=true then (j ((0:Int),(155:Int)) fX) else (if (!Cc)=true then (j ((0:Int),(159:Int)) fX) else (if ((r2.getD (0:Int),r2.isSome)).2=true then (j ((0:Int),(160:Int)) fX) else (ex (L bf (aA.add 3) fX) fun oO=>if (!oO)=true then (ex (L (B .i64) (zL.add 1) fX) fun kd=>ex (L (B .i64) (aA.add 2) fX) fun lu=>M Pg 247 [.int .i64 (kd),.int .i64 (lu)] (bo (B .i64) (B .i64)) fX fun ta gQ=>if (ta.2 != (0:Int))=true then (j ((0:Int),(162:Int)) gQ) else (j ((0:Int),(0:Int)) gQ)) else (de fX fun jd=>ex (L (B .i64) (aA.add 2) jd) fun ze=>ex (L gK (bP.add 1) jd) fun zf=>M Pg 248 [.int .i64 (ze),.float .f64 (zf)] (bo (B .i64) (B .i64)) jd fun qp ml=>ex (L (B .i64) (zL.add 1) ml) fun nM=>ex (L (B .i64) (aA.add 2) ml) fun qI=>if (decide (nM<(IntKind.i64.wrap (qI+qp.1))))=true then (j ((0:Int),(161:Int)) ml) else (j (qp.1,(0:Int)) ml)))))
def Fo(aA:Addr)(bP:Addr)(lM:(Option qQ))(zL:Addr)(Cc:Bool)(dJ:World)(j:(Int×Int)→World→Prop):Prop:=de dJ fun dK=>ex (L ef (bP.add 4) dK) fun jH=>ex (L (B .i64) (aA.add 1) dK) fun dL=>ex (ih (B .i64) .i64 jH dL dK) fun r2=>ex (L (B .i64) (aA.add 0) dK) fun gd=>if (decide (gd<(1:Int)))=true then (j ((0:Int),(156:Int)) dK) else (if ((lM.getD nP,lM.isSome)).2=true then (j ((0:Int),(157:Int)) dK) else (ex (L ef (bP.add 5) dK) fun kO=>ex (rH kO dK) fun aBF=>if (decide ((aBF:Int)≥(5000:Int)))=true then (j ((0:Int),(158:Int)) dK) else (ex (L (B .i64) (aA.add 1) dK) fun nL=>M Pg 212 [.int .i64 (nL)] bf dK fun gP fK=>if (!gP)=true then (j ((0:Int),(153:Int)) fK) else (ex (L (B .i64) (aA.add 2) fK) fun kP=>if (decide (kP<(1:Int)))=true then (Fp aA bP zL Cc r2 true fK j) else (ex (L (B .i64) (aA.add 2) fK) fun p1=>M Pg 213 [.int .i64 (p1)] (B .i64) fK fun aFQ aIC=>Fp aA bP zL Cc r2 (aFQ != (0:Int)) aIC j)))))
def U5(cR:aL)(r_:iv)(w:World)(j:(Int×Int)→World→Prop):Prop:=bG 60 gX r_ w fun aA aU=>de aU fun a7=>ex (bC cR) fun bP=>ex (L ef (bP.add 5) a7) fun cw=>ex (L (B .i64) (aA.add 0) a7) fun cM=>ex (ih lA .i64 cw cM a7) fun lM=>bG 104 lA nP a7 fun eJ cF=>ba lA eJ (((lM.getD nP,lM.isSome)).1) cF fun cl=>de cl fun sq=>ex (L aE ((bP.add 0).add 0) sq) fun L_=>ex (L (B .i64) (aA.add 1) sq) fun Ma=>sC (M Pg 211 [.pointer (L_),.int .i64 (Ma)] (bo dD bf) sq fun Lm tg=>bG 292 dD kj tg fun I4 AE=>ba dD I4 Lm.1 AE fun xb=>Fo aA bP lM I4 Lm.2 xb j) (bG 292 dD kj sq fun Dm xc=>M Pg 211 [.pointer (L_),.int .i64 (Ma)] (bo dD bf) xc fun Ln S4=>ba dD Dm Ln.1 S4 fun AF=>Fo aA bP lM Dm Ln.2 AF j)
theorem ahB{cR r_ w j}(h:U5 cR r_ w j):M Pg 216 [.pointer cR,gX.enc r_] (bo (B .i64) (B .i64)) w j:=by
 have fY:=eg 2 (du [0,1,2,4,3,5,6,7,8,9,10,11,12] .e)
 have rQ:=eg 4 (du [0,1,2,4,3,5,6,7,8,9,10,11] .e)
 have DA:=eg 24 (du [0,2,3,4,1,5,6,7,8,9,10,11] .e)
 have o8:=fun {aA} {bP} {zL} {Cc} {r2:(Option Int)}=>pN (bp:=Bool) [4,5,6,7,8] [9] (fun s w=>Fp aA bP zL Cc r2 s w j) (fun g s=>ae (ae (ae (ae (ae (ae g 0 (.pointer cR)) 3 (.pointer (some aA))) 8 (.pointer (some zL))) 9 (.bool Cc)) 11 (.bool (((r2.getD (0:Int),r2.isSome)).2))) 74 (.bool s))
 have amc:=eg 3 (du [0,1,2,3,5,4,6] (.l 7 11 (du [8,9,10,11,12,13] .e) (du [7,8,9,10,12,13] .e)))
 have iE:=fun {aA} {bP} {lM:(Option qQ)}=>hs (bp:=Addr×Bool) 4 (fun s w=>Fo aA bP lM s.1 s.2 w j) (fun g s=>ae (ae (ae (ae (ae g 0 (.pointer cR)) 3 (.pointer (some aA))) 7 (.bool (((lM.getD nP,lM.isSome)).2))) 8 (.pointer (some s.1))) 9 (.bool (s.2)))
 exact bj 111 Tryz.func216 rfl rfl bk
def Fq(iD:Int)(aA:Addr)(cg:World)(j:Int→World→Prop):Prop:=ex (L ef (aA.add 5) cg) fun eu=>qh lA .i64 eu iD (⟨(3:Int),(0:Int)⟩:qQ) cg fun dJ=>j (0:Int) dJ
def U6(cR:aL)(iD:Int)(w:World)(j:Int→World→Prop):Prop:=ex (bC cR) fun aA=>ex (L ef (aA.add 5) w) fun c6=>ex (ih lA .i64 c6 iD w) fun jl=>bG 104 lA nP w fun bP bN=>ba lA bP (((jl.getD nP,jl.isSome)).1) bN fun bA=>if (decide (iD<(1:Int)))=true then (j (156:Int) bA) else (ex (L (B .i64) (bP.add 0) bA) fun c3=>if (c3==(2:Int))=true then (j (157:Int) bA) else (ex (fun x=>(!(((jl.getD nP,jl.isSome)).2))=true→(bC cR) x) fun eJ=>ex (fun x=>(!(((jl.getD nP,jl.isSome)).2))=true→(L ef (eJ.add 5) bA) x) fun c2=>ex (fun x=>(!(((jl.getD nP,jl.isSome)).2))=true→(rH c2 bA) x) fun Ks=>if ((!(((jl.getD nP,jl.isSome)).2))&&(decide ((Ks:Int)≥(5000:Int))))=true then (j (158:Int) bA) else (ex (L ef (aA.add 3) bA) fun dm=>ex (ih ix .i64 dm iD bA) fun tY=>bG 135 ix qS bA fun rL ed=>ba ix rL (((tY.getD qS,tY.isSome)).1) ed fun ez=>if ((tY.getD qS,tY.isSome)).2=true then (ex (L ix rL ez) fun kO=>M Pg 249 [.pointer (cR),ix.enc (kO)] dU ez fun m6 e1=>Fq iD aA e1 j) else (Fq iD aA ez j))))
theorem ahC{cR iD w j}(h:U6 cR iD w j):M Pg 217 [.pointer cR,.int .i64 iD] (B .i64) w j:=by
 have iE:=fun {aA}=>hs (bp:=Unit) 12 (fun s w=>Fq iD aA w j) (fun g s=>ae (ae g 0 (.pointer cR)) 1 (.int .i64 iD))
 exact bj 55 Tryz.func217 rfl rfl bk
def MR(cR:aL)(bt:Int)(bS:Addr)(cH:Addr)(bU:World)(mM:Unit→World→Prop)(j:Int→World→Prop):Prop:=k0 cH bU fun aEX cF=>if (Option.isSome aEX)=true then (ex (kg ix .i64 cH cF) fun amp=>bG 135 ix qS cF fun hM dJ=>ba ix hM amp.2 dJ fun dK=>ex (L (B .i64) (hM.add 4) dK) fun jH=>if (decide (jH≤bt))=true then (j (160:Int) dK) else (mM () dK)) else (ex (L aE ((bS.add 0).add 0) cF) fun hH=>M Pg 251 [.pointer (hH),.int .i64 (bt)] (B .i64) cF fun pg ez=>M Pg 215 [.pointer (cR),.int .i64 (bt)] dU ez fun m6 e1=>j (0:Int) e1)
def U7(cR:aL)(bt:Int)(w:World)(j:Int→World→Prop):Prop:=M Pg 250 [.int .i64 (bt)] bf w fun cA bh=>if (!cA)=true then (j (151:Int) bh) else (ex (bC cR) fun bS=>ex (L ef (bS.add 3) bh) fun cB=>H2 cB bh fun cH bN=>eZ (fun (s:Unit) w aa=>MR cR bt bS cH w aa j) () bN)
theorem ahD{cR bt w j}(h:U7 cR bt w j):M Pg 218 [.pointer cR,.int .i64 bt] (B .i64) w j:=by
 have iQ:=fun {bS} {cH}=>hb (bp:=Unit) 5 (fun s w aa=>MR cR bt bS cH w aa j) (fun g s=>ae (ae (ae g 0 (.pointer cR)) 1 (.int .i64 bt)) 14 (.pointer (some cH)))
 exact bj 33 Tryz.func218 rfl rfl bk
def U8(cR:aL)(pd:Int)(w:World)(j:Int→World→Prop):Prop:=ex (bC cR) fun aA=>ex (L aE ((aA.add 0).add 0) w) fun c6=>M Pg 252 [.pointer (c6),.int .i64 (pd)] (B .i64) w fun bJ a7=>M Pg 118 [.int .i64 (bJ)] (B .i64) a7 fun cp bN=>j cp bN
theorem ahE{cR pd w j}(h:U8 cR pd w j):M Pg 219 [.pointer cR,.int .i64 pd] (B .i64) w j:=
 bj 13 Tryz.func219 rfl rfl bk
def Va(cR:aL)(bt:Int)(Ea:Int)(w:World)(j:Int→World→Prop):Prop:=if ((decide (bt<(1:Int)))||(decide (bt>(1125899906842624:Int))))=true then (j (151:Int) w) else (ex (bC cR) fun a3=>ex (L ef (a3.add 5) w) fun dH=>ex (ih lA .i64 dH Ea w) fun QU=>bG 104 lA nP w fun b7 bA=>ba lA b7 (QU.getD nP) bA fun bU=>ex (L (B .i64) (b7.add 0) bU) fun dG=>if (dG==(2:Int))=true then (ex (L (B .i64) (b7.add 1) bU) fun c2=>if (c2 != bt)=true then (j (157:Int) bU) else (j (0:Int) bU)) else (if (dG==(1:Int))=true then (ex (L ef (a3.add 3) bU) fun dQ=>ex (ih ix .i64 dQ Ea bU) fun qg=>bG 135 ix qS bU fun gr dK=>ba ix gr (qg.getD qS) dK fun cS=>ex (L (B .i64) (gr.add 4) cS) fun dL=>if (decide (bt<dL))=true then (j (152:Int) cS) else (de cS fun ed=>ex (L aE ((a3.add 0).add 0) ed) fun gd=>ex (L ix gr ed) fun kO=>M Pg 253 [.pointer (cR),ix.enc (kO)] X ed fun m6 e1=>bw ((L aE ((a3.add 0).add 0) e1) gd)<|M Pg 214 [.pointer (gd),.int .i64 (bt),X.enc (m6)] (B .i64) e1 fun yX ir=>bw ((L ix gr ir) kO)<|ex (L ix gr ir) fun mK=>M Pg 249 [.pointer (cR),ix.enc (mK)] dU ir fun sf lp=>ex (L ef (a3.add 5) lp) fun lu=>qh lA .i64 lu Ea (⟨(2:Int),bt⟩:qQ) lp fun gQ=>M Pg 215 [.pointer (cR),.int .i64 (bt)] dU gQ fun Al is=>j (0:Int) is)) else (j (163:Int) bU)))
theorem ahF{cR bt Ea w j}(h:Va cR bt Ea w j):M Pg 220 [.pointer cR,.int .i64 bt,.int .i64 Ea] (B .i64) w j:=by
 have fY:=eg 15 (du [0,1,2,3,5,6,4,7,8,9] .e)
 exact bj 64 Tryz.func220 rfl rfl bk
def Vb(fz:Int)(iD:Int)(bR:Addr)(w:World)(j:Int→World→Prop):Prop:=ex (L gb bR w) fun c6=>sE Pg c6 [.int .i64 (iD)] (B .i64) w fun bJ a7=>j bJ a7
theorem ahG{fz iD bR w j}(h:Vb fz iD bR w j):M Pg 221 [.int .i64 fz,.int .i64 iD,.pointer (some bR)] (B .i64) w j:=
 bj 9 Tryz.func221 rfl rfl bk
def Vc(fz:Int)(bt:Int)(bR:Addr)(w:World)(j:Int→World→Prop):Prop:=ex (L gb bR w) fun c6=>sE Pg c6 [.int .i64 (fz)] (B .i64) w fun bJ a7=>j bJ a7
theorem ahH{fz bt bR w j}(h:Vc fz bt bR w j):M Pg 222 [.int .i64 fz,.int .i64 bt,.pointer (some bR)] (B .i64) w j:=
 bj 9 Tryz.func222 rfl rfl bk
def Vd(fz:Int)(bt:Int)(bR:Addr)(w:World)(j:Int→World→Prop):Prop:=ex (L gb bR w) fun c6=>sE Pg c6 [.int .i64 (fz)] (B .i64) w fun bJ a7=>j bJ a7
theorem ahI{fz bt bR w j}(h:Vd fz bt bR w j):M Pg 223 [.int .i64 fz,.int .i64 bt,.pointer (some bR)] (B .i64) w j:=
 bj 9 Tryz.func223 rfl rfl bk
def Ve(fz:Int)(w:World)(j:Bool→World→Prop):Prop:=j ((decide (fz≥(0:Int)))&&(decide (fz≤(1125899906842624:Int)))) w
theorem ahJ{fz w j}(h:Ve fz w j):M Pg 224 [.int .i64 fz] bf w j:=
 bj 9 Tryz.func224 rfl rfl bk
def Vf(aM:aL)(gY:Int)(w:World)(j:Int→World→Prop):Prop:=bG 290 aE aM w fun aA aU=>bG 2 (B .i64) gY aU fun bS bT=>ex (L aE aA bT) fun cw=>ex (bC cw) fun cH=>ex (L X (cH.add 0) bT) fun c3=>M Pg 254 [.int .i64 ((c3.len:Int)),((cc.mk (.func 255) (List.toArray []) (List.toArray [.pointer (some aA),.pointer (some bS)]))).enc] (B .i64) bT fun hd cd=>j hd cd
theorem ahK{aM gY w j}(h:Vf aM gY w j):M Pg 226 [.pointer aM,.int .i64 gY] (B .i64) w j:=
 bj 12 Tryz.func226 rfl rfl bk
def Vg(eL:af)(w:World)(j:Int→World→Prop):Prop:=de w fun cm=>ex (cD eL 1 (0:Int)) fun aA=>ex (cD eL 1 (1:Int)) fun a3=>ex (cD eL 1 (2:Int)) fun bS=>ex (cD eL 1 (3:Int)) fun bP=>ex (L (B .u8) aA cm) fun cw=>ex (iL (24:Int) (IntKind.u32.wrap ((IntKind.u32.wrap cw)*2^(min ((24:Int)).toNat IntKind.u32.bits)))) fun d8=>ex (L (B .u8) a3 cm) fun c3=>ex (iL (16:Int) (IntKind.u32.wrap ((IntKind.u32.wrap c3)*2^(min ((16:Int)).toNat IntKind.u32.bits)))) fun d10=>ex (L (B .u8) bS cm) fun c2=>ex (iL (8:Int) (IntKind.u32.wrap ((IntKind.u32.wrap c2)*2^(min ((8:Int)).toNat IntKind.u32.bits)))) fun d12=>ex (L (B .u8) bP cm) fun dQ=>j (bits .or .u32 (bits .or .u32 (bits .or .u32 d8 d10) d12) (IntKind.u32.wrap dQ)) cm
theorem ahL{eL w j}(h:Vg eL w j):M Pg 228 [X.enc eL] (B .u32) w j:=by
 have fY:=eg 2 (du [0,1,5,6,11,12,17,18,2,3,4,7,8,9,10,13,14,15,16,19,20,21,22] .e)
 exact bj 25 Tryz.func228 rfl rfl bk
def Vh(eR:Nat)(w:World)(j:Int→World→Prop):Prop:=M Pg 87 [.float .f64 (eR)] (B .i64) w fun ga cm=>if (ga==(0:Int))=true then (M Pg 256 [.int .u64 ((0:Int))] (bo gK bf) cm fun cu aU=>j (cu.1:Int) aU) else (j (eR:Int) cm)
theorem ahM{eR w j}(h:Vh eR w j):M Pg 229 [.float .f64 eR] (B .u64) w j:=
 bj 16 Tryz.func229 rfl rfl bk
def Vj(eR:Nat)(w:World)(j:Bool→World→Prop):Prop:=j (fO .neq eR eR) w
theorem ahO{eR w j}(h:Vj eR w j):M Pg 230 [.float .f64 eR] bf w j:=
 bj 6 Tryz.func230 rfl rfl bk
def Vk(h6:Nat)(w:World)(j:(Nat×Int)→World→Prop):Prop:=M Pg 181 [.float .f64 (h6)] gK w fun ga cm=>if (fO .lss ga (4503599627370496:Nat))=true then (ex (xl .mul h6 (4841369599423283200:Nat)) fun Ix=>j (Ix,(-52:Int)) cm) else (j (h6,(0:Int)) cm)
theorem ahP{h6 w j}(h:Vk h6 w j):M Pg 231 [.float .f64 h6] (bo gK (B .i64)) w j:=
 bj 10 Tryz.func231 rfl rfl bk
def MT(e0:Int)(Of:Int)(LL:Int)(cF:World)(vY:Int×Int→World→Prop)(vX:Int×Int→World→Prop)(j:Int→World→Prop):Prop:=if (decide (LL<(8:Int)))=true then (ex (iL (1:Int) (Int.fdiv Of (2^(min ((1:Int)).toNat IntKind.u32.bits)))) fun d13=>vX ((bits .xor .u32 d13 (bits .and .u32 (IntKind.u32.wrap (0-(bits .and .u32 Of (1:Int)))) (3988292384:Int))),(IntKind.i64.wrap (LL+(1:Int)))) cF) else (vY (Of,(IntKind.i64.wrap (e0+(1:Int)))) cF)
def MS(hO:af)(XO:Int)(e0:Int)(a7:World)(vY:Int×Int→World→Prop)(j:Int→World→Prop):Prop:=if (decide (e0<(hO.len:Int)))=true then (ex (cD hO 1 e0) fun b7=>ex (L (B .u8) b7 a7) fun cM=>eZ (fun (s:Int×Int) w aa=>MT e0 s.1 s.2 w vY aa j) ((bits .xor .u32 XO (IntKind.u32.wrap cM)),(0:Int)) a7) else (j XO a7)
def Vl(aM:Int)(hO:af)(w:World)(j:Int→World→Prop):Prop:=eZ (fun (s:Int×Int) w aa=>MS hO s.1 s.2 w aa j) (aM,(0:Int)) w
theorem ahQ{aM hO w j}(h:Vl aM hO w j):M Pg 234 [.int .u32 aM,X.enc hO] (B .u32) w j:=by
 have iQ:=fun {e0} {vY}=>hb (bp:=Int×Int) 7 (fun s w aa=>MT e0 s.1 s.2 w vY aa j) (fun g s=>ae (ae (ae (ae (ae g 7 (X.enc hO)) 8 (.int .i64 ((hO.len:Int)))) 9 (.int .i64 e0)) 0 (.int .u32 (s.1))) 17 (.int .i64 (s.2)))
 have Eh:=hb (bp:=Int×Int) 3 (fun s w aa=>MS hO s.1 s.2 w aa j) (fun g s=>ae (ae (ae (ae g 7 (X.enc hO)) 8 (.int .i64 ((hO.len:Int)))) 0 (.int .u32 (s.1))) 9 (.int .i64 (s.2)))
 exact bj 29 Tryz.func234 rfl rfl bk
def Vm(cR:mP)(w:World)(j:Bool→World→Prop):Prop:=bG 197 gg cR w fun aX bh=>de bh fun aU=>ex (L (B .u64) (aX.add 1) aU) fun dH=>ex (L (B .i64) (aX.add 2) aU) fun cB=>ex (L gK (aX.add 3) aU) fun cw=>ex (L qB (aX.add 4) aU) fun cM=>ex (L (B .i64) (aX.add 0) aU) fun c3=>if (c3==(1:Int))=true then (j (((cB==(0:Int))&&((cw:Int)==(0:Int)))&&(cM==([]:List UInt8))) aU) else (if (c3==(2:Int))=true then (j (((dH==(0:Int))&&((cw:Int)==(0:Int)))&&(cM==([]:List UInt8))) aU) else (if (c3==(3:Int))=true then (j (((dH==(0:Int))&&(cB==(0:Int)))&&(cM==([]:List UInt8))) aU) else (if (c3==(4:Int))=true then (j (((dH==(0:Int))&&(cB==(0:Int)))&&((cw:Int)==(0:Int))) aU) else (j false aU))))
theorem ahR{cR w j}(h:Vm cR w j):M Pg 235 [gg.enc cR] bf w j:=by
 have fY:=eg 2 (du [0,3,6,10,1,2,4,5,7,8,9,13,14,15,11,12,16] .e)
 exact bj 58 Tryz.func235 rfl rfl bk
def MU(tC:af)(wR:Int)(a7:World)(vY:af×Int→World→Prop)(j:af→World→Prop):Prop:=if (decide (wR≥(128:Int)))=true then (l3 5 (B .u8) 1 1 tC [(bits .or .u8 (IntKind.u8.wrap wR) (128:Int))] a7 fun ca bU=>ex (iL (7:Int) (Int.fdiv wR (2^(min ((7:Int)).toNat IntKind.u64.bits)))) fun d11=>vY (ca,d11) bU) else (l3 5 (B .u8) 1 1 tC [(IntKind.u8.wrap wR)] a7 fun hf c1=>j hf c1)
def Vn(eL:af)(bO:Int)(w:World)(j:af→World→Prop):Prop:=eZ (fun (s:af×Int) w aa=>MU s.1 s.2 w aa j) (eL,bO) w
theorem ahS{eL bO w j}(h:Vn eL bO w j):M Pg 236 [X.enc eL,.int .u64 bO] X w j:=by
 have iQ:=hb (bp:=af×Int) 2 (fun s w aa=>MU s.1 s.2 w aa j) (fun g s=>ae (ae g 0 (X.enc (s.1))) 1 (.int .u64 (s.2)))
 exact bj 20 Tryz.func236 rfl rfl bk
def Vo(aM:aL)(w:World)(j:(eD×Bool)→World→Prop):Prop:=bG 292 dD kj w fun aX bh=>ex (bC aM) fun a3=>ex (L X (a3.add 0) bh) fun dH=>if ((dH.len:Int)==(0:Int))=true then (ba dD aX (⟨(0:Int),(0:Int)⟩:eD) bh fun bT=>ex (L dD aX bT) fun cw=>j (cw,false) bT) else (de bh fun bA=>ex (L X (a3.add 0) bA) fun c3=>ex (L X (a3.add 0) bA) fun dG=>ex (cD c3 2 (IntKind.i64.wrap ((dG.len:Int)-(1:Int)))) fun fD=>ex (L dD fD bA) fun e7=>ba dD aX e7 bA fun cg=>ex (L dD aX cg) fun eu=>j (eu,true) cg)
theorem ahU{aM w j}(h:Vo aM w j):M Pg 243 [.pointer aM] (bo dD bf) w j:=by
 have fY:=eg 4 (du [0,1,2,4,5,6,3,7,8,9,10,11,12,13] .e)
 exact bj 23 Tryz.func243 rfl rfl bk
def MX(bK:aL)(bt:Int)(lL:af)(jl:Nat)(y3:Int)(bN:World)(NH:Int→World→Prop)(j:Int→World→Prop):Prop:=if (decide (y3<(lL.len:Int)))=true then (ex (cD lL 2 y3) fun dy=>ex (L hL dy bN) fun dG=>bG 87 hL Dj bN fun fD cl=>ba hL fD dG cl fun cg=>ex (L (B .i64) (fD.add 0) cg) fun eu=>ex (ih fm .i64 (some jl) eu cg) fun s3=>bG 164 fm qT cg fun jw cS=>ba fm jw (((s3.getD qT,s3.isSome)).1) cS fun fT=>ex (L (B .i64) (fD.add 0) fT) fun hH=>M Pg 211 [.pointer (bK),.int .i64 (hH)] (bo dD bf) fT fun pg ez=>bG 292 dD kj ez fun rM eh=>ba dD rM pg.1 eh fun fK=>ex (L (B .i64) (fD.add 0) fK) fun hg=>M Pg 258 [.int .i64 (hg)] bf fK fun fJ e2=>if (!fJ)=true then (j (123:Int) e2) else (if ((s3.getD qT,s3.isSome)).2=true then (j (124:Int) e2) else (ex (L (B .i64) (rM.add 0) e2) fun mK=>if (decide (mK≥bt))=true then (j (121:Int) e2) else (ex (L (B .i64) (fD.add 0) e2) fun oO=>M Pg 259 [.pointer (bK),.int .i64 (oO)] bf e2 fun me gN=>if me=true then (j (125:Int) gN) else (ex (L (B .i64) (fD.add 0) gN) fun k3=>qh fm .i64 (some jl) k3 (⟨⟩:oU) gN fun is=>NH ((IntKind.i64.wrap (y3+(1:Int)))) is))))) else (j (0:Int) bN)
def Vp(bK:aL)(bt:Int)(lL:af)(w:World)(j:Int→World→Prop):Prop:=if (decide ((lL.len:Int)>(100:Int)))=true then (j (122:Int) w) else (ua w fun jl aU=>eZ (fun (s:Int) w aa=>MX bK bt lL jl s w aa j) ((0:Int)) aU)
theorem ahV{bK bt lL w j}(h:Vp bK bt lL w j):M Pg 244 [.pointer bK,.int .i64 bt,X.enc lL] (B .i64) w j:=by
 have iQ:=fun {jl}=>hb (bp:=Int) 6 (fun s w aa=>MX bK bt lL jl s w aa j) (fun g s=>ae (ae (ae (ae (ae (ae g 0 (.pointer bK)) 1 (.int .i64 bt)) 7 (.map ((some jl)))) 18 (X.enc lL)) 19 (.int .i64 ((lL.len:Int)))) 20 (.int .i64 s))
 exact bj 60 Tryz.func244 rfl rfl bk
def Vq(w:World)(j:aL→World→Prop):Prop:=bG 328 v5 (⟨(⟨none,0,0⟩:af),(0:Int)⟩:xv) w fun lD cm=>j (some lD) cm
theorem ahW{w j}(h:Vq w j):M Pg 245 [] aE w j:=
 bj 3 Tryz.func245 rfl rfl bk
def Vr(aM:aL)(bt:Int)(LS:Int)(w:World)(j:Int→World→Prop):Prop:=if ((decide (bt<(1:Int)))||(decide (bt>(1125899906842624:Int))))=true then (j (110:Int) w) else (M Pg 243 [.pointer (aM)] (bo dD bf) w fun cu aU=>bG 292 dD kj aU fun bP bN=>ba dD bP cu.1 bN fun bA=>ex (fun x=>cu.2=true→(L (B .i64) (bP.add 0) bA) x) fun c3=>ex (fun x=>(!(cu.2&&(decide (bt≤c3))))=true→(bC aM) x) fun eJ=>ex (fun x=>(!(cu.2&&(decide (bt≤c3))))=true→(L (B .i64) (eJ.add 1) bA) x) fun c2=>if ((cu.2&&(decide (bt≤c3)))||(decide (bt≤c2)))=true then (j (111:Int) bA) else (ex (bC aM) fun fM=>ex (L X (fM.add 0) bA) fun dQ=>if (decide ((dQ.len:Int)≥(10000:Int)))=true then (j (112:Int) bA) else (ex (L X (fM.add 0) bA) fun eu=>l3 292 dD 2 16 eu [(⟨bt,LS⟩:eD)] bA fun gv cS=>ba X (fM.add 0) gv cS fun ed=>j (0:Int) ed)))
theorem ahX{aM bt LS w j}(h:Vr aM bt LS w j):M Pg 246 [.pointer aM,.int .i64 bt,.int .i64 LS] (B .i64) w j:=
 bj 53 Tryz.func246 rfl rfl bk
def Vs(jx:Int)(hO:Int)(w:World)(j:(Int×Int)→World→Prop):Prop:=s6 2 (B .i64) [jx,hO] w fun aA aU=>M Pg 260 [X.enc ((⟨some aA,2,2⟩:af))] (bo (B .i64) (B .i64)) aU fun bJ a7=>j (bJ.1,bJ.2) a7
theorem ahY{jx hO w j}(h:Vs jx hO w j):M Pg 247 [.int .i64 jx,.int .i64 hO] (bo (B .i64) (B .i64)) w j:=
 bj 12 Tryz.func247 rfl rfl bk
def Vt(bd:Int)(H0:Nat)(w:World)(j:(Int×Int)→World→Prop):Prop:=M Pg 213 [.int .i64 (bd)] (B .i64) w fun cA bh=>if (cA != (0:Int))=true then (j ((0:Int),cA) bh) else (M Pg 38 [.float .f64 (H0)] (B .i64) bh fun bJ a7=>if (bJ != (0:Int))=true then (j ((0:Int),bJ) a7) else (M Pg 95 [.int .i64 (bd),.float .f64 (H0)] (bo (B .i64) (B .i64)) a7 fun cp bN=>j (cp.1,cp.2) bN))
theorem ahZ{bd H0 w j}(h:Vt bd H0 w j):M Pg 248 [.int .i64 bd,.float .f64 H0] (bo (B .i64) (B .i64)) w j:=
 bj 23 Tryz.func248 rfl rfl bk
def Vu(cR:aL)(fh:rJ)(w:World)(j:Unit→World→Prop):Prop:=bG 135 ix fh w fun aA aU=>de aU fun a7=>ex (bC cR) fun bP=>ex (L ef (bP.add 3) a7) fun cw=>ex (L (B .i64) ((aA.add 0).add 0) a7) fun cM=>Hx ix .i64 cw cM a7 fun bU=>de bU fun cd=>ex (L ef (bP.add 4) cd) fun c2=>ex (L (B .i64) ((aA.add 0).add 1) cd) fun e7=>Hx (B .i64) .i64 c2 e7 cd fun cg=>j () cg
theorem ah0{cR fh w j}(h:Vu cR fh w j):M Pg 249 [.pointer cR,ix.enc fh] dU w j:=by
 have fY:=eg 2 (du [0,1,2,4,5,3,6,7] .e)
 have rQ:=eg 3 (du [0,1,2,4,5,3,6,7] .e)
 exact bj 18 Tryz.func249 rfl rfl bk
def Vw(fz:Int)(w:World)(j:Bool→World→Prop):Prop:=j ((decide (fz≥(0:Int)))&&(decide (fz≤(1125899906842624:Int)))) w
theorem ah2{fz w j}(h:Vw fz w j):M Pg 250 [.int .i64 fz] bf w j:=
 bj 9 Tryz.func250 rfl rfl bk
def Vx(bK:aL)(bt:Int)(w:World)(j:Int→World→Prop):Prop:=M Pg 224 [.int .i64 (bt)] bf w fun cA bh=>if (!cA)=true then (j (120:Int) bh) else (ex (bC bK) fun bS=>ex (L (B .i64) (bS.add 1) bh) fun cB=>ba (B .i64) (bS.add 1) (max cB bt) bh fun bN=>j (0:Int) bN)
theorem ah3{bK bt w j}(h:Vx bK bt w j):M Pg 251 [.pointer bK,.int .i64 bt] (B .i64) w j:=
 bj 17 Tryz.func251 rfl rfl bk
def MZ(bS:Addr)(fD:Addr)(cl:World)(ms:Unit→World→Prop)(j:Int→World→Prop):Prop:=k0 fD cl fun aEY c1=>if (Option.isSome aEY)=true then (ex (kg aE .i64 fD c1) fun amq=>ex (L (B .i64) (bS.add 2) c1) fun jH=>M Pg 261 [.pointer (amq.2),.int .i64 (jH)] (B .i64) c1 fun wZ fT=>ms () fT) else (j (0:Int) c1)
def Vy(bK:aL)(pd:Int)(w:World)(j:Int→World→Prop):Prop:=M Pg 224 [.int .i64 (pd)] bf w fun cA bh=>if (!cA)=true then (j (120:Int) bh) else (ex (bC bK) fun bS=>ex (L (B .i64) (bS.add 1) bh) fun cB=>if (decide (pd>cB))=true then (j (128:Int) bh) else (ex (L (B .i64) (bS.add 2) bh) fun cw=>ba (B .i64) (bS.add 2) (max cw pd) bh fun bA=>ex (L ef (bS.add 0) bA) fun c3=>H2 c3 bA fun fD cd=>eZ (fun (s:Unit) w aa=>MZ bS fD w aa j) () cd))
theorem ah4{bK pd w j}(h:Vy bK pd w j):M Pg 252 [.pointer bK,.int .i64 pd] (B .i64) w j:=by
 have iQ:=fun {bS} {fD}=>hb (bp:=Unit) 8 (fun s w aa=>MZ bS fD w aa j) (fun g s=>ae (ae g 0 (.pointer bK)) 31 (.pointer (some fD)))
 exact bj 42 Tryz.func252 rfl rfl bk
def IK(aBG:af)(fK:World)(j:af→World→Prop):Prop:=j aBG fK
def Vz(cR:aL)(fh:rJ)(w:World)(j:af→World→Prop):Prop:=bG 135 ix fh w fun aA aU=>ex (L (B .i64) ((aA.add 0).add 1) aU) fun dH=>ex (bC cR) fun bP=>ex (L aE ((bP.add 0).add 0) aU) fun cw=>M Pg 211 [.pointer (cw),.int .i64 (dH)] (bo dD bf) aU fun fj bA=>bG 292 dD kj bA fun eJ cF=>ba dD eJ fj.1 cF fun cl=>ex (L bf ((aA.add 0).add 3) cl) fun dQ=>if (!dQ)=true then (ex (L (B .i64) (eJ.add 1) cl) fun eu=>ex (L (B .i64) ((aA.add 0).add 2) cl) fun fs=>s6 87 hL [(⟨dH,(IntKind.i64.wrap (eu+fs))⟩:fu)] cl fun jw cS=>j (⟨some jw,1,1⟩:af) cS) else (ex (L (B .i64) (eJ.add 1) cl) fun dL=>ex (L (B .i64) ((aA.add 0).add 2) cl) fun hH=>ex (L (B .i64) (aA.add 5) cl) fun gd=>s6 87 hL [(⟨dH,(IntKind.i64.wrap ((IntKind.i64.wrap (dL-hH))-gd))⟩:fu)] cl fun iW e1=>ex (L (B .i64) (aA.add 5) e1) fun hg=>if (decide (hg>(0:Int)))=true then (ex (L aE ((bP.add 0).add 0) e1) fun kP=>M Pg 211 [.pointer (kP),.int .i64 ((IntKind.i64.wrap ((4096:Int)+dH)))] (bo dD bf) e1 fun dP fW=>bG 292 dD kj fW fun v8 gN=>ba dD v8 dP.1 gN fun h3=>ex (L (B .i64) (v8.add 1) h3) fun k3=>ex (L (B .i64) (aA.add 5) h3) fun mn=>l3 87 hL 2 16 (⟨some iW,1,1⟩:af) [(⟨(IntKind.i64.wrap ((4096:Int)+dH)),(IntKind.i64.wrap (k3+mn))⟩:fu)] h3 fun k2 lq=>IK k2 lq j) else (IK (⟨some iW,1,1⟩:af) e1 j))
theorem ah5{cR fh w j}(h:Vz cR fh w j):M Pg 253 [.pointer cR,ix.enc fh] X w j:=by
 have iE:=hs (bp:=af) 10 (fun s w=>IK s w j) (fun g s=>ae g 8 (X.enc s))
 exact bj 75 Tryz.func253 rfl rfl bk
def M0(jg:cc)(nv:Int)(QA:Int)(a7:World)(vY:Int×Int→World→Prop)(j:Int→World→Prop):Prop:=if (decide (nv<QA))=true then (ex (iL (1:Int) (Int.fdiv (IntKind.u64.wrap (IntKind.i64.wrap (nv+QA))) (2^(min ((1:Int)).toNat IntKind.u64.bits)))) fun d7=>tF Pg jg [.int .i64 ((IntKind.i64.wrap d7))] bf a7 fun fj bA=>if (!fj)=true then (vY ((IntKind.i64.wrap ((IntKind.i64.wrap d7)+(1:Int))),QA) bA) else (vY (nv,(IntKind.i64.wrap d7)) bA)) else (j nv a7)
def VA(bd:Int)(jg:cc)(w:World)(j:Int→World→Prop):Prop:=eZ (fun (s:Int×Int) w aa=>M0 jg s.1 s.2 w aa j) ((0:Int),bd) w
theorem ah6{bd jg w j}(h:VA bd jg w j):M Pg 254 [.int .i64 bd,jg.enc] (B .i64) w j:=by
 have iQ:=hb (bp:=Int×Int) 3 (fun s w aa=>M0 jg s.1 s.2 w aa j) (fun g s=>ae (ae (ae g 1 (jg.enc)) 5 (.int .i64 (s.1))) 6 (.int .i64 (s.2)))
 exact bj 26 Tryz.func254 rfl rfl bk
def VB(Kd:Int)(bt:Addr)(bR:Addr)(w:World)(j:Bool→World→Prop):Prop:=de w fun aU=>ex (L aE bt aU) fun dH=>ex (bC dH) fun bP=>ex (L X (bP.add 0) aU) fun cw=>ex (cD cw 2 Kd) fun cH=>ex (L (B .i64) (cH.add 0) aU) fun c3=>ex (L (B .i64) bR aU) fun dG=>j (decide (c3>dG)) aU
theorem ah7{Kd bt bR w j}(h:VB Kd bt bR w j):M Pg 255 [.int .i64 Kd,.pointer (some bt),.pointer (some bR)] bf w j:=by
 have fY:=eg 2 (du [4,0,1,2,3,5,6,7,8,9,10] .e)
 exact bj 15 Tryz.func255 rfl rfl bk
def M1(hO:Int)(bh:World)(j:(Nat×Bool)→World→Prop):Prop:=if (fO .neq (Int.toNat hO) (Int.toNat hO))=true then (j ((0:Nat),false) bh) else (j ((Int.toNat hO),true) bh)
def VC(sY:Int)(w:World)(j:(Nat×Bool)→World→Prop):Prop:=if (sY==(0:Int))=true then (j ((Int.toNat (9221120237041090561:Int)),true) w) else (ex (iL (63:Int) (Int.fdiv sY (2^(min ((63:Int)).toNat IntKind.u64.bits)))) fun d5=>if (d5==(1:Int))=true then (M1 (bits .andNot .u64 sY (9223372036854775808:Int)) w j) else (M1 (bits .xor .u64 IntKind.u64.max sY) w j))
theorem ah8{sY w j}(h:VC sY w j):M Pg 256 [.int .u64 sY] (bo gK bf) w j:=by
 have iE:=hs (bp:=Int) 7 (fun s w=>M1 s w j) (fun g s=>ae g 4 (.int .u64 s))
 exact bj 22 Tryz.func256 rfl rfl bk
def VD(wI:Int)(w:World)(j:Bool→World→Prop):Prop:=j ((decide (wI≥(0:Int)))&&(decide (wI<(8192:Int)))) w
theorem ah9{wI w j}(h:VD wI w j):M Pg 258 [.int .i64 wI] bf w j:=
 bj 9 Tryz.func258 rfl rfl bk
def Fz(y3:Bool)(bN:World)(j:Bool→World→Prop):Prop:=j y3 bN
def VE(bK:aL)(yw:Int)(w:World)(j:Bool→World→Prop):Prop:=ex (bC bK) fun aA=>ex (L ef (aA.add 0) w) fun c6=>ex (ih aE .i64 c6 yw w) fun jl=>if ((jl.getD (none:Option Addr),jl.isSome)).2=true then (M Pg 262 [.pointer (((jl.getD (none:Option Addr),jl.isSome)).1)] X w fun ca bU=>Fz (decide ((ca.len:Int)≥(10000:Int))) bU j) else (Fz false w j)
theorem aia{bK yw w j}(h:VE bK yw w j):M Pg 259 [.pointer bK,.int .i64 yw] bf w j:=by
 have o8:=pN (bp:=Bool) [2,3,4,5,6] [7] (fun s w=>Fz s w j) (fun g s=>ae g 22 (.bool s))
 exact bj 23 Tryz.func259 rfl rfl bk
def IL(bR:Int)(aHE:Int)(bN:World)(gy:Int×Int→World→Prop)(j:(Int×Int)→World→Prop):Prop:=gy (aHE,(IntKind.i64.wrap (bR+(1:Int)))) bN
def M3(fV:af)(Ie:Int)(bR:Int)(aU:World)(gy:Int×Int→World→Prop)(j:(Int×Int)→World→Prop):Prop:=if (decide (bR<(fV.len:Int)))=true then (ex (cD fV 1 bR) fun cH=>ex (L (B .i64) cH aU) fun c3=>M Pg 213 [.int .i64 (c3)] (B .i64) aU fun hd cd=>if (hd != (0:Int))=true then (j ((0:Int),(40:Int)) cd) else (if (decide (Ie≤(1000000000000000:Int)))=true then (IL bR (IntKind.i64.wrap (Ie+c3)) cd gy j) else (IL bR Ie cd gy j))) else (M Pg 213 [.int .i64 (Ie)] (B .i64) aU fun hf c1=>if (hf != (0:Int))=true then (j ((0:Int),(40:Int)) c1) else (j (Ie,(0:Int)) c1))
def VG(fV:af)(w:World)(j:(Int×Int)→World→Prop):Prop:=eZ (fun (s:Int×Int) w aa=>M3 fV s.1 s.2 w aa j) ((0:Int),(0:Int)) w
theorem aic{fV w j}(h:VG fV w j):M Pg 260 [X.enc fV] (bo (B .i64) (B .i64)) w j:=by
 have iE:=fun {bR} {gy}=>hs (bp:=Int) 10 (fun s w=>IL bR s w gy j) (fun g s=>ae (ae (ae (ae g 7 (X.enc fV)) 8 (.int .i64 ((fV.len:Int)))) 9 (.int .i64 bR)) 4 (.int .i64 s))
 have iQ:=hb (bp:=Int×Int) 4 (fun s w aa=>M3 fV s.1 s.2 w aa j) (fun g s=>ae (ae (ae (ae g 7 (X.enc fV)) 8 (.int .i64 ((fV.len:Int)))) 4 (.int .i64 (s.1))) 9 (.int .i64 (s.2)))
 exact bj 26 Tryz.func260 rfl rfl bk
def VH(aM:aL)(pd:Int)(w:World)(j:Int→World→Prop):Prop:=if ((decide (pd<(0:Int)))||(decide (pd>(1125899906842624:Int))))=true then (j (110:Int) w) else (ex (bC aM) fun aA=>ex (L (B .i64) (aA.add 1) w) fun c6=>ba (B .i64) (aA.add 1) (max c6 pd) w fun a7=>ex (L (B .i64) (aA.add 1) a7) fun cB=>M Pg 226 [.pointer (aM),.int .i64 (cB)] (B .i64) a7 fun cp bN=>ex (L X (aA.add 0) bN) fun c3=>yG 292 dD 16 kj (IntKind.i64.wrap ((c3.len:Int)-(max (IntKind.i64.wrap (cp-(1:Int))) (0:Int)))) (IntKind.i64.wrap ((c3.len:Int)-(max (IntKind.i64.wrap (cp-(1:Int))) (0:Int)))) bN fun hd cd=>ex (L X (aA.add 0) cd) fun e7=>ex (Sub e7 2 (max (IntKind.i64.wrap (cp-(1:Int))) (0:Int)) ((e7).len:Int) ((e7).cap:Int)) fun So=>Dz dD 2 hd So cd fun hf c1=>ex (Sub hd 2 0 (hd.len:Int) (hd.len:Int)) fun uo=>ba X (aA.add 0) uo c1 fun cS=>j (0:Int) cS)
theorem aid{aM pd w j}(h:VH aM pd w j):M Pg 261 [.pointer aM,.int .i64 pd] (B .i64) w j:=
 bj 55 Tryz.func261 rfl rfl bk
def VI(aM:aL)(w:World)(j:af→World→Prop):Prop:=ex (bC aM) fun aX=>ex (L X (aX.add 0) w) fun dW=>yG 292 dD 16 kj (dW.len:Int) (dW.len:Int) w fun cu aU=>ex (L X (aX.add 0) aU) fun cB=>Dz dD 2 cu cB aU fun cp bN=>j cu bN
theorem aie{aM w j}(h:VI aM w j):M Pg 262 [.pointer aM] X w j:=
 bj 17 Tryz.func262 rfl rfl bk
end bb
end Go.Proofs.YthaobmpdjcoheaaGreat
