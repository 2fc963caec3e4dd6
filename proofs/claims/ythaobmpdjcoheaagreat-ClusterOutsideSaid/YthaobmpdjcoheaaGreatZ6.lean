/- Own texts of this claim, part 6: short, merged. -/
import Derived.Test.YthaobmpdjcoheaaGreatZ1
set_option maxRecDepth 100000
set_option maxHeartbeats 40000000
set_option linter.defProp false
set_option linter.unusedVariables false
set_option linter.unusedSimpArgs false
namespace Go.Proofs.YthaobmpdjcoheaaGreat
namespace bj
def F5(bf:aN)(xT:af)(aHd:Addr)(pc:Int)(bc:World)(j:(Int×Int)→World→Prop):Prop:=if (pc != (0:Int))=true then (j ((0:Int),pc) bc) else (dw bc fun b3=>ex (bM bf) fun cj=>ex (L aE (cj.add 3) b3) fun cH=>ex (L cW aHd b3) fun cJ=>M Pg 157 [.pointer (cH),cW.enc (cJ),X.enc (xT)] (bB (B .i64) (B .i64)) b3 fun g8 cu=>j (g8.1,g8.2) cu)
def W6(bf:aN)(xT:af)(w:World)(j:(Int×Int)→World→Prop):Prop:=dw w fun cA=>ex (bM bf) fun hR=>ex (L aE (hR.add 0) cA) fun ep=>ex (L (B .i64) (hR.add 1) cA) fun bL=>sT (M Pg 61 [.pointer (ep),.int .i64 (bL)] (bB cW (B .i64)) cA fun ea db=>bQ 137 cW jR db fun je eJ=>bi cW je ea.1 eJ fun eK=>F5 bf xT je ea.2 eK j) (bQ 137 cW jR cA fun rW eD=>M Pg 61 [.pointer (ep),.int .i64 (bL)] (bB cW (B .i64)) eD fun g3 fX=>bi cW rW g3.1 fX fun fe=>F5 bf xT rW g3.2 fe j)
theorem ajM{bf xT w j}(h:W6 bf xT w j):M Pg 96 [.pointer bf,X.enc xT] (bB (B .i64) (B .i64)) w j:=by
 have gC:=eI 5 (dJ [0,1,2,5,3,4,6,7,8,9,10] .l)
 have r0:=eI 2 (dJ [0,1,2,4,5,6,3,7] (.e 8 12 (dJ [9,10,11,12,13,14] .l) (dJ [8,9,10,11,13,14] .l)))
 have jt:=iz (bC:=Addr×Int) 3 (fun s w=>F5 bf xT s.1 s.2 w j) (fun g s=>ae (ae (ae (ae g 0 (.pointer bf)) 1 (X.enc xT)) 6 (.pointer (some s.1))) 7 (.int .i64 (s.2)))
 exact bu 32 Tryz.func96 rfl rfl bw
def Dh(a1:Addr)(hk:Bool)(cu:World)(j:(aN×Int)→World→Prop):Prop:=if hk=true then (j ((none:Option Addr),(171:Int)) cu) else (ex (L (B .i64) (a1.add 1) cu) fun cQ=>ex (L (B .i64) (a1.add 2) cu) fun fm=>if (cQ==fm)=true then (j ((none:Option Addr),(172:Int)) cu) else (ex (L (B .i64) (a1.add 3) cu) fun dP=>ex (fun x=>(!(decide (dP<(1:Int))))=true→(L (B .i64) (a1.add 3) cu) x) fun eO=>if ((decide (dP<(1:Int)))||(decide (eO>(1000000000000000:Int))))=true then (j ((none:Option Addr),(173:Int)) cu) else (ex (L gz a1 cu) fun ep=>bQ 214 Dt (⟨ep,(Vector.replicate 2 q3),(Vector.replicate 2 false),(0:Int),(0:Int)⟩:sO) cu fun iR db=>j ((some iR),(0:Int)) db)))
def W7(iq:mK)(w:World)(j:(aN×Int)→World→Prop):Prop:=bQ 31 gz iq w fun a1 bl=>ex (L (B .i64) (a1.add 0) bl) fun dk=>ex (fun x=>(!(decide (dk<(1:Int))))=true→(L (B .i64) (a1.add 0) bl) x) fun dQ=>if ((decide (dk<(1:Int)))||(decide (dQ>(1000000:Int))))=true then (j ((none:Option Addr),(170:Int)) bl) else (ex (L (B .i64) (a1.add 1) bl) fun b_=>M Pg 158 [.int .i64 (b_)] bo bl fun a7 bZ=>if (!a7)=true then (Dh a1 true bZ j) else (ex (L (B .i64) (a1.add 2) bZ) fun gW=>M Pg 158 [.int .i64 (gW)] bo bZ fun xi eD=>Dh a1 (!xi) eD j))
theorem ajN{iq w j}(h:W7 iq w j):M Pg 97 [gz.enc iq] (bB aE (B .i64)) w j:=by
 have rv:=fun {a1}=>sb (bC:=Bool) [5,6,7,8,9] [10] (fun s w=>Dh a1 s w j) (fun g s=>ae (ae g 1 (.pointer (some a1))) 23 (.bool s))
 exact bu 42 Tryz.func97 rfl rfl bw
def I9(GB:Int)(bJ:World)(j:Int→World→Prop):Prop:=j GB bJ
def W8(qQ:aN)(yR:af)(w:World)(j:Int→World→Prop):Prop:=ex (bM qQ) fun aA=>ex (L bo (aA.add 4) w) fun dk=>if dk=true then (j (81:Int) w) else (M Pg 159 [X.enc (yR)] (bB X (B .i64)) w fun aI bc=>if (aI.2 != (0:Int))=true then (j aI.2 bc) else (dw bc fun b6=>ex (L aE (aA.add 2) b6) fun dD=>ex (L (B .i64) (aA.add 3) b6) fun cQ=>M Pg 160 [.pointer (dD),.int .i64 (cQ),X.enc (aI.1)] (B .i64) b6 fun eB cC=>M Pg 128 [.pointer (qQ),.int .i64 (eB)] (B .i64) cC fun fI df=>bG ((L aE (aA.add 2) df) dD)<|bG ((L (B .i64) (aA.add 3) df) cQ)<|if (fI==(0:Int))=true then (ex (L (B .i64) ((aA.add 0).add 0) df) fun cY=>bi (B .i64) ((aA.add 0).add 0) (IntKind.i64.wrap (cY+(1:Int))) df fun ev=>I9 fI ev j) else (I9 fI df j)))
theorem ajO{qQ yR w j}(h:W8 qQ yR w j):M Pg 98 [.pointer qQ,X.enc yR] (B .i64) w j:=by
 have gC:=eI 7 (dJ [0,1,2,3,5,6,7,9,4,8,10,11,12] .l)
 have jt:=iz (bC:=Int) 10 (fun s w=>I9 s w j) (fun g s=>ae g 6 (.int .i64 s))
 exact bu 43 Tryz.func98 rfl rfl bw
def N1(e0:Addr)(abH:af)(S0:Int)(df:World)(ajS:af×Int→World→Prop)(j:af→World→Prop):Prop:=if (decide (S0<((⟨some e0,6,6⟩:af).len:Int)))=true then (ex (cT (⟨some e0,6,6⟩:af) 1 S0) fun iR=>ex (L (B .i64) iR df) fun j2=>mn 197 gy 5 48 abH [(⟨(2:Int),(0:Int),j2,(0:Nat),([]:List UInt8)⟩:m5)] df fun pt eJ=>ajS (pt,(IntKind.i64.wrap (S0+(1:Int)))) eJ) else (M Pg 161 [X.enc (abH)] (bB X (B .i64)) df fun mS fa=>j mS.1 fa)
def W9(KO:Int)(kR:mK)(b5:Int)(w:World)(j:af→World→Prop):Prop:=bQ 31 gz kR w fun a9 bc=>ex (L (B .i64) (a9.add 0) bc) fun b_=>ex (L (B .i64) (a9.add 1) bc) fun bS=>ex (L (B .i64) (a9.add 2) bc) fun cH=>ex (L (B .i64) (a9.add 3) bc) fun cJ=>tk 2 (B .i64) [KO,b_,bS,cH,cJ,b5] bc fun e0 cV=>fh (fun (s:af×Int) w ab=>N1 e0 s.1 s.2 w ab j) ((⟨none,0,0⟩:af),(0:Int)) cV
theorem ajP{KO kR b5 w j}(h:W9 KO kR b5 w j):M Pg 99 [.int .i64 KO,gz.enc kR,.int .i64 b5] X w j:=by
 have ju:=fun {e0}=>hJ (bC:=af×Int) 4 (fun s w ab=>N1 e0 s.1 s.2 w ab j) (fun g s=>ae (ae (ae (ae g 22 (X.enc ((⟨some e0,6,6⟩:af)))) 23 (.int .i64 (((⟨some e0,6,6⟩:af).len:Int)))) 7 (X.enc (s.1))) 24 (.int .i64 (s.2)))
 exact bu 40 Tryz.func99 rfl rfl bw
def TR(bf:aN)(cd:Int)(w:World)(j:Int→World→Prop):Prop:=M Pg 131 [.pointer (bf),.int .i64 (cd)] (bB eQ (B .i64)) w fun bq bl=>bQ 64 eQ lw bl fun b1 b3=>bi eQ b1 bq.1 b3 fun bZ=>if (bq.2 != (0:Int))=true then (j bq.2 bZ) else (ex (L eQ b1 bZ) fun cH=>M Pg 130 [.pointer (bf),eQ.enc (cH)] (B .i64) bZ fun a6 b6=>j a6 b6)
theorem ago{bf cd w j}(h:TR bf cd w j):M Pg 100 [.pointer bf,.int .i64 cd] (B .i64) w j:=
 bu 19 Tryz.func100 rfl rfl bw
def Fk(bq:(hc×Int))(bJ:World)(j:Int→World→Prop):Prop:=j bq.2 bJ
def TS(bf:aN)(cd:Int)(w:World)(j:Int→World→Prop):Prop:=M Pg 131 [.pointer (bf),.int .i64 (cd)] (bB eQ (B .i64)) w fun bq bl=>bQ 64 eQ lw bl fun b1 b3=>bi eQ b1 bq.1 b3 fun bZ=>if (bq.2==(0:Int))=true then (ex (bM bf) fun dE=>ex (L X (dE.add 2) bZ) fun dD=>M Pg 133 [X.enc (dD),.int .i64 (cd),.int .i64 ((IntKind.i64.wrap (cd+(1:Int))))] X bZ fun bs cV=>bi X (dE.add 2) bs cV fun cA=>Fk bq cA j) else (Fk bq bZ j)
theorem agp{bf cd w j}(h:TS bf cd w j):M Pg 101 [.pointer bf,.int .i64 cd] (B .i64) w j:=by
 have jt:=fun {bq:(hc×Int)}=>iz (bC:=Unit) 5 (fun s w=>Fk bq w j) (fun g s=>ae g 6 (.int .i64 (bq.2)))
 exact bu 27 Tryz.func101 rfl rfl bw
def TT(bf:aN)(bt:Addr)(w:World)(j:Unit→World→Prop):Prop:=dw w fun bl=>ex (bM bf) fun a9=>ex (L aE (a9.add 2) bl) fun dQ=>ex (L X bt bl) fun b_=>M Pg 103 [.pointer (dQ),X.enc (b_)] eh bl fun a7 bZ=>j () bZ
theorem agq{bf bt w j}(h:TT bf bt w j):M Pg 102 [.pointer bf,.pointer (some bt)] eh w j:=by
 have gC:=eI 1 (dJ [0,1,2,3,4,5] .l)
 exact bu 9 Tryz.func102 rfl rfl bw
def Fl(kf:Int)(fZ:Addr)(Ro:Int)(dU:World)(m1:Int→World→Prop)(j:Unit→World→Prop):Prop:=ex (L X (fZ.add 0) dU) fun bL=>ex (Sub bL 1 0 Ro Ro) fun L0=>bi X (fZ.add 0) L0 dU fun gb=>bi (B .i64) (fZ.add 1) Ro gb fun ev=>m1 ((IntKind.i64.wrap (kf+(1:Int)))) ev
def MF(w0:af)(aA:Addr)(bS:af)(kf:Int)(b6:World)(m1:Int→World→Prop)(j:Unit→World→Prop):Prop:=if (decide (kf<(bS.len:Int)))=true then (ex (L X (aA.add 0) b6) fun cQ=>ex (cT cQ 2 kf) fun fZ=>ex (L (B .i64) (fZ.add 1) b6) fun dP=>if (decide (kf<(w0.len:Int)))=true then (dw b6 fun eJ=>ex (cT w0 1 kf) fun hf=>ex (L (B .i64) hf eJ) fun gW=>ex (L X (fZ.add 0) eJ) fun mZ=>ex (L (B .i64) (fZ.add 1) eJ) fun mi=>Fl kf fZ (IntKind.i64.wrap (dP+(min (max gW (0:Int)) (IntKind.i64.wrap ((mZ.len:Int)-mi))))) eJ m1 j) else (Fl kf fZ dP b6 m1 j)) else (j () b6)
def ME(dm:aN)(w0:af)(w:World)(j:Unit→World→Prop):Prop:=ex (bM dm) fun aA=>ex (L bo (aA.add 2) w) fun dk=>if dk=true then (j () w) else (bi bo (aA.add 2) true w fun bc=>bi (B .i64) (aA.add 3) (0:Int) bc fun b3=>ex (L X (aA.add 0) b3) fun bS=>fh (fun (s:Int) w ab=>MF w0 aA bS s w ab j) ((0:Int)) b3)
theorem TU{dm w0 w j}(h:ME dm w0 w j):M Pg 103 [.pointer dm,X.enc w0] eh w j:=by
 have gC:=eI 9 (dJ [0,1,2,3,6,7,8,11,12,13,4,5,9,10,14,15,16,17,18] .l)
 have jt:=fun {kf} {fZ} {m1} {bS:af}=>iz (bC:=Int) 10 (fun s w=>Fl kf fZ s w m1 j) (fun g s=>ae (ae (ae (ae (ae (ae g 0 (.pointer dm)) 1 (X.enc w0)) 5 (.pointer ((some fZ)))) 21 (.int .i64 ((bS.len:Int)))) 22 (.int .i64 kf)) 6 (.int .i64 s))
 have ju:=fun {aA} {bS:af}=>hJ (bC:=Int) 4 (fun s w ab=>MF w0 aA bS s w ab j) (fun g s=>ae (ae (ae (ae g 0 (.pointer dm)) 1 (X.enc w0)) 21 (.int .i64 ((bS.len:Int)))) 22 (.int .i64 s))
 exact bu 72 Tryz.func103 rfl rfl bw
def Fm(ng:Int)(fi:Addr)(aI:(Int×Int))(eK:World)(j:Unit→World→Prop):Prop:=ex (L aE fi eK) fun gW=>ex (bM gW) fun zP=>ex (L eC (zP.add 7) eK) fun mi=>qt fF .i64 mi ng (⟨⟩:o8) eK fun iK=>dw iK fun fe=>ex (L aE fi fe) fun iM=>ex (L aE fi fe) fun jz=>ex (bM jz) fun wy=>ex (L X (wy.add 8) fe) fun kw=>mn 53 kB 3 24 kw [(⟨ng,aI.1,aI.2⟩:bk)] fe fun AG iL=>bG ((L aE fi iL) iM)<|bG ((L aE fi iL) jz)<|ex (bM iM) fun Gf=>bi X (Gf.add 8) AG iL fun mA=>j () mA
def TV(ng:Int)(sm:aN)(b5:Addr)(fi:Addr)(w:World)(j:Unit→World→Prop):Prop:=M Pg 55 [.pointer (sm)] (bB (B .i64) (B .i64)) w fun aI bc=>ex (L aE b5 bc) fun bS=>ex (bM bS) fun cZ=>ex (L eC (cZ.add 7) bc) fun cJ=>ex (iD fF .i64 cJ ng bc) fun EB=>bQ 164 fF q2 bc fun fS cC=>bi fF fS (((EB.getD q2,EB.isSome)).1) cC fun cA=>ex (L aE fi cA) fun eO=>ex (bM eO) fun gJ=>ex (L eC (gJ.add 7) cA) fun bL=>ex (iD fF .i64 bL ng cA) fun un=>bQ 164 fF q2 cA fun rV ev=>bi fF rV (((un.getD q2,un.isSome)).1) ev fun eJ=>if (((un.getD q2,un.isSome)).2||(!(((EB.getD q2,EB.isSome)).2)))=true then (j () eJ) else (if (aI.1==(2:Int))=true then (dw eJ fun rN=>ex (L aE b5 rN) fun nv=>ex (bM nv) fun uW=>ex (L aE (uW.add 0) rN) fun tw=>ex (L aE b5 rN) fun tx=>ex (bM tx) fun Bw=>ex (L (B .i64) (Bw.add 1) rN) fun rO=>M Pg 105 [.pointer (tw),.int .i64 (aI.2),.int .i64 (rO)] (bB bo (B .i64)) rN fun uv nY=>bG ((L aE b5 nY) nv)<|bG ((L aE b5 nY) tx)<|if (!uv.1)=true then (j () nY) else (Fm ng fi aI nY j)) else (Fm ng fi aI eJ j))
theorem agr{ng sm b5 fi w j}(h:TV ng sm b5 fi w j):M Pg 104 [.int .i64 ng,.pointer sm,.pointer (some b5),.pointer (some fi)] eh w j:=by
 have gC:=eI 9 (dJ [5,6,7,8,0,1,2,3,4,9,10,11,12,13] .l)
 have r0:=eI 6 (dJ [4,0,1,2,3,5,6,7,8,9,10,11,12,13,14] .l)
 have jt:=fun {aI:(Int×Int)}=>iz (bC:=Unit) 8 (fun s w=>Fm ng fi aI w j) (fun g s=>ae (ae (ae (ae g 0 (.int .i64 ng)) 3 (.pointer (some fi))) 6 (.int .i64 (aI.1))) 7 (.int .i64 (aI.2)))
 exact bu 78 Tryz.func104 rfl rfl bw
def TW(aO:aN)(bt:Int)(J9:Int)(w:World)(j:(Bool×Int)→World→Prop):Prop:=M Pg 61 [.pointer (aO),.int .i64 (J9)] (bB cW (B .i64)) w fun bm aY=>bQ 137 cW jR aY fun b2 bZ=>bi cW b2 bm.1 bZ fun bJ=>ex (fun x=>(bm.2==(0:Int))=true→(L (B .i64) (b2.add 0) bJ) x) fun cJ=>j (((bm.2==(0:Int))&&(decide (bt<cJ))),bm.2) bJ
theorem ags{aO bt J9 w j}(h:TW aO bt J9 w j):M Pg 105 [.pointer aO,.int .i64 bt,.int .i64 J9] (bB bo (B .i64)) w j:=
 bu 25 Tryz.func105 rfl rfl bw
def Fo(aO:aN)(b0:aN)(jv:aN)(db:World)(j:Int→World→Prop):Prop:=M Pg 76 [.pointer (aO),.pointer (b0),.pointer (jv)] eh db fun xh gb=>j (0:Int) gb
def TX(aO:aN)(b0:aN)(jv:aN)(HF:Int)(lL:Int)(w:World)(j:Int→World→Prop):Prop:=dw w fun b3=>ex (bM b0) fun cj=>ex (L aE (cj.add 5) b3) fun cH=>M Pg 162 [.pointer (jv)] gz b3 fun a6 b6=>bG ((L aE (cj.add 5) b6) cH)<|M Pg 99 [.int .i64 (HF),gz.enc (a6),.int .i64 (lL)] X b6 fun eB cC=>bG ((L aE (cj.add 5) cC) cH)<|M Pg 98 [.pointer (cH),X.enc (eB)] (B .i64) cC fun mf dU=>if (mf != (0:Int))=true then (j mf dU) else (if (HF==(2:Int))=true then (M Pg 149 [.pointer (jv),.int .i64 (lL)] (B .i64) dU fun pt eJ=>Fo aO b0 jv eJ j) else (M Pg 148 [.pointer (jv)] (B .i64) dU fun mS fa=>Fo aO b0 jv fa j))
theorem agt{aO b0 jv HF lL w j}(h:TX aO b0 jv HF lL w j):M Pg 106 [.pointer aO,.pointer b0,.pointer jv,.int .i64 HF,.int .i64 lL] (B .i64) w j:=by
 have gC:=eI 2 (dJ [0,1,2,4,5,7,3,6,8,9,10] .l)
 have jt:=iz (bC:=Unit) 8 (fun s w=>Fo aO b0 jv w j) (fun g s=>ae (ae (ae g 0 (.pointer aO)) 1 (.pointer b0)) 2 (.pointer jv))
 exact bu 36 Tryz.func106 rfl rfl bw
def TY(bV:af)(w:World)(j:af→World→Prop):Prop:=if bV.a.isNone=true then (j (⟨none,0,0⟩:af) w) else (tk 64 eQ ([]:List hc) w fun a1 bl=>tO 64 eQ 10 80 (⟨some a1,0,0⟩:af) bV bl fun bm aY=>j bm aY)
theorem agu{bV w j}(h:TY bV w j):M Pg 107 [X.enc bV] X w j:=
 bu 8 Tryz.func107 rfl rfl bw
def T0(fP:Int)(u1:Int)(w:World)(j:(jB×Int)→World→Prop):Prop:=bQ 137 cW jR w fun aA aY=>M Pg 166 [cW.enc ((⟨fP,fP⟩:jB)),.int .i64 (u1)] (bB cW (B .i64)) aY fun aI bc=>bi cW aA aI.1 bc fun bZ=>ex (L cW aA bZ) fun cH=>j (cH,aI.2) bZ
theorem agw{fP u1 w j}(h:T0 fP u1 w j):M Pg 111 [.int .i64 fP,.int .i64 u1] (bB cW (B .i64)) w j:=
 bu 13 Tryz.func111 rfl rfl bw
def T1(bV:jB)(GF:Int)(ux:Nat)(w:World)(j:(jB×Int)→World→Prop):Prop:=bQ 137 cW bV w fun a9 bc=>bQ 137 cW jR bc fun b2 bZ=>ex (L cW a9 bZ) fun cH=>M Pg 167 [cW.enc (cH)] (B .i64) bZ fun a6 b6=>if (a6 != (0:Int))=true then (bi cW b2 (⟨(0:Int),(0:Int)⟩:jB) b6 fun cV=>ex (L cW b2 cV) fun fm=>j (fm,(50:Int)) cV) else (M Pg 168 [.int .i64 (GF)] bo b6 fun dt cA=>if (!dt)=true then (bi cW b2 (⟨(0:Int),(0:Int)⟩:jB) cA fun dU=>ex (L cW b2 dU) fun bL=>j (bL,(52:Int)) dU) else (M Pg 87 [.float .f64 (ux)] (B .i64) cA fun ea db=>if ((decide (ea<(3:Int)))||(ga .gtr ux (4607182418800017408:Nat)))=true then (bi cW b2 (⟨(0:Int),(0:Int)⟩:jB) db fun ev=>ex (L cW b2 ev) fun gq=>j (gq,(51:Int)) ev) else (M Pg 95 [.int .i64 ((IntKind.i64.wrap (0-GF))),.float .f64 (ux)] (bB (B .i64) (B .i64)) db fun cI eK=>if (cI.2 != (0:Int))=true then (bi cW b2 (⟨(0:Int),(0:Int)⟩:jB) eK fun eD=>ex (L cW b2 eD) fun mi=>j (mi,(51:Int)) eD) else (ex (L cW a9 eK) fun eE=>M Pg 166 [cW.enc (eE),.int .i64 ((IntKind.i64.wrap (0-cI.1)))] (bB cW (B .i64)) eK fun fk fe=>bi cW b2 fk.1 fe fun gh=>ex (L cW b2 gh) fun m0=>j (m0,fk.2) gh))))
theorem agx{bV GF ux w j}(h:T1 bV GF ux w j):M Pg 112 [cW.enc bV,.int .i64 GF,.float .f64 ux] (bB cW (B .i64)) w j:=
 bu 45 Tryz.func112 rfl rfl bw
def T2(tf:Int)(w:World)(j:Bool→World→Prop):Prop:=j ((decide (tf≥(1:Int)))&&(decide (tf≤(6:Int)))) w
theorem agy{tf w j}(h:T2 tf w j):M Pg 113 [.int .i64 tf] bo w j:=
 bu 9 Tryz.func113 rfl rfl bw
def MG(ES:Int)(e1:Addr)(KQ:af)(mg:Int)(db:World)(mm:af×Int→World→Prop)(j:af→World→Prop):Prop:=if (decide (mg<((⟨some e1,4,4⟩:af).len:Int)))=true then (ex (cT (⟨some e1,4,4⟩:af) 1 mg) fun je=>ex (L (B .i64) je db) fun gq=>mn 197 gy 5 48 KQ [(⟨(2:Int),(0:Int),gq,(0:Nat),([]:List UInt8)⟩:m5)] db fun xi eD=>mm (xi,(IntKind.i64.wrap (mg+(1:Int)))) eD) else (mn 197 gy 5 48 KQ [(⟨(1:Int),ES,(0:Int),(0:Nat),([]:List UInt8)⟩:m5)] db fun ec gp=>M Pg 161 [X.enc (ec)] (bB X (B .i64)) gp fun su lN=>j su.1 lN)
def Fp(a1:Addr)(ES:Int)(bc:World)(j:af→World→Prop):Prop:=ex (L (B .i64) (a1.add 0) bc) fun b_=>tk 197 gy [(⟨(1:Int),(IntKind.u64.wrap b_),(0:Int),(0:Nat),([]:List UInt8)⟩:m5)] bc fun cj bJ=>ex (L (B .i64) (a1.add 1) bJ) fun cJ=>ex (L (B .i64) (a1.add 2) bJ) fun dD=>ex (L (B .i64) (a1.add 3) bJ) fun cQ=>ex (L (B .i64) (a1.add 4) bJ) fun fm=>tk 2 (B .i64) [cJ,dD,cQ,fm] bJ fun e1 df=>fh (fun (s:af×Int) w ab=>MG ES e1 s.1 s.2 w ab j) ((⟨some cj,1,1⟩:af),(0:Int)) df
def T3(iq:j3)(w:World)(j:af→World→Prop):Prop:=bQ 142 fY iq w fun a1 bl=>ex (L bo (a1.add 5) bl) fun kQ=>if kQ=true then (Fp a1 (1:Int) bl j) else (Fp a1 (0:Int) bl j)
theorem agz{iq w j}(h:T3 iq w j):M Pg 114 [fY.enc iq] X w j:=by
 have ju:=fun {ES} {e1}=>hJ (bC:=af×Int) 7 (fun s w ab=>MG ES e1 s.1 s.2 w ab j) (fun g s=>ae (ae (ae (ae (ae g 3 (.int .u64 ES)) 24 (X.enc ((⟨some e1,4,4⟩:af)))) 25 (.int .i64 (((⟨some e1,4,4⟩:af).len:Int)))) 4 (X.enc (s.1))) 26 (.int .i64 (s.2)))
 have jt:=fun {a1}=>iz (bC:=Int) 5 (fun s w=>Fp a1 s w j) (fun g s=>ae (ae g 1 (.pointer (some a1))) 3 (.int .u64 s))
 exact bu 46 Tryz.func114 rfl rfl bw
def T4(bV:aN)(kR:j3)(w:World)(j:Int→World→Prop):Prop:=bQ 142 fY kR w fun aA aY=>ex (L (B .i64) (aA.add 0) aY) fun dQ=>if (dQ==(1:Int))=true then (dw aY fun b3=>ex (bM bV) fun cj=>ex (L aE (cj.add 1) b3) fun cH=>ex (L (B .i64) (aA.add 1) b3) fun cJ=>ex (L (B .i64) (aA.add 3) b3) fun dD=>ex (L (B .i64) (aA.add 4) b3) fun cQ=>M Pg 169 [.pointer (cH),.int .i64 (cJ),.int .i64 (dD),.int .i64 (cQ)] (B .i64) b3 fun eB cC=>j eB cC) else (if (dQ==(2:Int))=true then (dw aY fun df=>ex (bM bV) fun gJ=>ex (L aE (gJ.add 1) df) fun bL=>ex (L (B .i64) (aA.add 1) df) fun j2=>ex (L (B .i64) (aA.add 2) df) fun cY=>ex (L (B .i64) (aA.add 3) df) fun hY=>ex (L (B .i64) (aA.add 4) df) fun gq=>ex (L bo (aA.add 5) df) fun k8=>M Pg 170 [.pointer (bL),.int .i64 (j2),hd.enc ((⟨cY,hY,gq,k8⟩:iO))] (B .i64) df fun mS fa=>bG ((L (B .i64) (aA.add 2) fa) cY)<|bG ((L (B .i64) (aA.add 3) fa) hY)<|bG ((L (B .i64) (aA.add 4) fa) gq)<|bG ((L bo (aA.add 5) fa) k8)<|j mS fa) else (dw aY fun gh=>ex (L (B .i64) (aA.add 0) gh) fun m0=>ex (L (B .i64) (aA.add 1) gh) fun kw=>ex (L (B .i64) (aA.add 2) gh) fun k9=>M Pg 171 [.pointer (bV),.int .i64 (m0)] gw gh fun sw g6=>bG ((L (B .i64) (aA.add 1) g6) kw)<|bG ((L (B .i64) (aA.add 2) g6) k9)<|sV Pg sw [.int .i64 (kw),.int .i64 (k9)] (B .i64) g6 fun eo lO=>bG ((L (B .i64) (aA.add 0) lO) m0)<|j eo lO))
theorem agA{bV kR w j}(h:T4 bV kR w j):M Pg 115 [.pointer bV,fY.enc kR] (B .i64) w j:=by
 have gC:=eI 4 (dJ [0,1,2,4,6,8,3,5,7,9,10,11] .l)
 have r0:=eI 6 (dJ [0,1,2,4,6,8,10,12,3,5,7,9,11,13,14,15,16] .l)
 have DR:=eI 7 (dJ [0,1,4,6,2,5,7,3,8,9] .l)
 exact bu 47 Tryz.func115 rfl rfl bw
def T5(fP:Int)(w:World)(j:Bool→World→Prop):Prop:=j ((decide (fP≥(1:Int)))&&(decide (fP≤(1125899906842624:Int)))) w
theorem agB{fP w j}(h:T5 fP w j):M Pg 116 [.int .i64 fP] bo w j:=
 bu 9 Tryz.func116 rfl rfl bw
def Fq(p9:Int)(KQ:af)(dV:World)(m2:af×Int→World→Prop)(j:(af×Int)→World→Prop):Prop:=m2 (KQ,(IntKind.i64.wrap (p9+(1:Int)))) dV
def MH(hg:Int)(b1:Addr)(a6:af)(Ra:af)(p9:Int)(cA:World)(m2:af×Int→World→Prop)(j:(af×Int)→World→Prop):Prop:=if (decide (p9<(a6.len:Int)))=true then (ex (cT a6 1 p9) fun kE=>ex (L (B .i64) kE cA) fun cY=>ex (L eC (b1.add 0) cA) fun hY=>ex (iD aE .i64 hY cY cA) fun Ri=>M Pg 174 [.pointer ((Ri.getD (none:Option Addr))),.int .i64 (hg)] (bB dR (B .i64)) cA fun cI eK=>bQ 292 dR kD eK fun zP fX=>bi dR zP cI.1 fX fun iK=>if (cI.2==(0:Int))=true then (ex (L (B .i64) (zP.add 1) iK) fun gi=>mn 87 h2 2 16 Ra [(⟨cY,gi⟩:fK)] iK fun su lN=>Fq p9 su lN m2 j) else (Fq p9 Ra iK m2 j)) else (j (Ra,(0:Int)) cA)
def T6(bV:aN)(hg:Int)(w:World)(j:(af×Int)→World→Prop):Prop:=M Pg 172 [.pointer (bV),.int .i64 (hg)] (B .i64) w fun bq bl=>if (bq != (0:Int))=true then (j ((⟨none,0,0⟩:af),bq) bl) else (ex (bM bV) fun b1=>ex (L eC (b1.add 0) bl) fun b_=>M Pg 173 [.map (b_)] gw bl fun a7 bZ=>M Pg 59 [(a7).enc] X bZ fun a6 b6=>fh (fun (s:af×Int) w ab=>MH hg b1 a6 s.1 s.2 w ab j) ((⟨none,0,0⟩:af),(0:Int)) b6)
theorem agC{bV hg w j}(h:T6 bV hg w j):M Pg 117 [.pointer bV,.int .i64 hg] (bB X (B .i64)) w j:=by
 have jt:=fun {p9} {m2} {a6:af}=>iz (bC:=af) 12 (fun s w=>Fq p9 s w m2 j) (fun g s=>ae (ae (ae (ae (ae (ae g 0 (.pointer bV)) 1 (.int .i64 hg)) 23 (X.enc a6)) 24 (.int .i64 ((a6.len:Int)))) 25 (.int .i64 p9)) 7 (X.enc s))
 have ju:=fun {b1} {a6:af}=>hJ (bC:=af×Int) 7 (fun s w ab=>MH hg b1 a6 s.1 s.2 w ab j) (fun g s=>ae (ae (ae (ae (ae (ae g 0 (.pointer bV)) 1 (.int .i64 hg)) 23 (X.enc a6)) 24 (.int .i64 ((a6.len:Int)))) 7 (X.enc (s.1))) 25 (.int .i64 (s.2)))
 exact bu 51 Tryz.func117 rfl rfl bw
def T7(zW:Int)(w:World)(j:Int→World→Prop):Prop:=if (zW==(120:Int))=true then (j (151:Int) w) else (if (zW==(128:Int))=true then (j (164:Int) w) else (if (zW==(126:Int))=true then (j (165:Int) w) else (if (zW==(127:Int))=true then (j (159:Int) w) else (j zW w))))
theorem agD{zW w j}(h:T7 zW w j):M Pg 118 [.int .i64 zW] (B .i64) w j:=
 bu 13 Tryz.func118 rfl rfl bw
def T8(bV:af)(jD:cw)(w:World)(j:Bool→World→Prop):Prop:=M Pg 175 [X.enc (bV),(jD).enc] (B .i64) w fun bq bl=>j (decide (bq≥(0:Int))) bl
theorem agE{bV jD w j}(h:T8 bV jD w j):M Pg 119 [X.enc bV,jD.enc] bo w j:=
 bu 9 Tryz.func119 rfl rfl bw
def T9(fJ:mL)(bt:Addr)(w:World)(j:Bool→World→Prop):Prop:=bQ 85 qj fJ w fun aA aY=>ex (L (B .i64) (aA.add 0) aY) fun dQ=>ex (L (B .i64) bt aY) fun b_=>j (dQ != b_) aY
theorem agG{fJ bt w j}(h:T9 fJ bt w j):M Pg 120 [qj.enc fJ,.pointer (some bt)] bo w j:=
 bu 8 Tryz.func120 rfl rfl bw
def IX(uE:cw)(b5:Int)(cQ:af)(p9:Int)(cA:World)(gN:Int→World→Prop)(m2:Int→World→Prop)(j:Int→World→Prop):Prop:=if (decide (p9<(cQ.len:Int)))=true then (ex (cT cQ 2 p9) fun gJ=>ex (L h2 gJ cA) fun bL=>bQ 87 h2 DA cA fun kE gb=>bi h2 kE bL gb fun ev=>ex (L h2 kE ev) fun gq=>tU Pg uE [h2.enc (gq)] (B .i64) ev fun cI eK=>if (cI != (0:Int))=true then (j cI eK) else (m2 ((IntKind.i64.wrap (p9+(1:Int)))) eK)) else (gN ((IntKind.i64.wrap (b5+(1:Int)))) cA)
def MN(gm:af)(uE:cw)(b5:Int)(aY:World)(gN:Int→World→Prop)(j:Int→World→Prop):Prop:=if (decide (b5<(gm.len:Int)))=true then (ex (cT gm 2 b5) fun b2=>ex (L qj b2 aY) fun bS=>bQ 85 qj Xu aY fun cZ b6=>bi qj cZ bS b6 fun cu=>ex (L X (cZ.add 1) cu) fun cQ=>fh (fun (s:Int) w ab=>IX uE b5 cQ s w gN ab j) ((0:Int)) cu) else (j (0:Int) aY)
def T_(gm:af)(uE:cw)(w:World)(j:Int→World→Prop):Prop:=fh (fun (s:Int) w ab=>MN gm uE s w ab j) ((0:Int)) w
theorem agH{gm uE w j}(h:T_ gm uE w j):M Pg 121 [X.enc gm,uE.enc] (B .i64) w j:=by
 have ju:=fun {b5} {cQ:af} {gN}=>hJ (bC:=Int) 6 (fun s w ab=>IX uE b5 cQ s w gN ab j) (fun g s=>ae (ae (ae (ae (ae (ae (ae g 1 (uE.enc)) 10 (X.enc gm)) 11 (.int .i64 ((gm.len:Int)))) 12 (.int .i64 b5)) 17 (X.enc cQ)) 18 (.int .i64 ((cQ.len:Int)))) 19 (.int .i64 s))
 have HJ:=hJ (bC:=Int) 3 (fun s w ab=>MN gm uE s w ab j) (fun g s=>ae (ae (ae (ae g 1 (uE.enc)) 10 (X.enc gm)) 11 (.int .i64 ((gm.len:Int)))) 12 (.int .i64 s))
 exact bu 31 Tryz.func121 rfl rfl bw
def Fs(bt:Addr)(b5:Addr)(a9:Addr)(aIj:Bool)(cC:World)(j:Int→World→Prop):Prop:=if aIj=true then (j (183:Int) cC) else (ex (L (B .i64) (a9.add 1) cC) fun dP=>ex (L (B .i64) b5 cC) fun eO=>if (decide (dP>(IntKind.i64.wrap ((4611686018427387904:Int)-eO))))=true then (j (184:Int) cC) else (dw cC fun dU=>ex (L eC bt dU) fun bL=>ex (L (B .i64) (a9.add 0) dU) fun j2=>ex (L (B .i64) (a9.add 1) dU) fun cY=>ex (L (B .i64) b5 dU) fun hY=>ex (L (B .i64) (a9.add 1) dU) fun gq=>qt (B .i64) .i64 bL j2 cY dU fun eK=>bG ((L (B .i64) b5 eK) hY)<|bG ((L (B .i64) (a9.add 1) eK) gq)<|bi (B .i64) b5 (IntKind.i64.wrap (hY+gq)) eK fun fX=>j (0:Int) fX))
def Ua(iq:fK)(bt:Addr)(b5:Addr)(w:World)(j:Int→World→Prop):Prop:=bQ 87 h2 iq w fun a9 bc=>ex (L eC bt bc) fun b_=>ex (L (B .i64) (a9.add 0) bc) fun bS=>ex (iD (B .i64) .i64 b_ bS bc) fun abZ=>ex (L (B .i64) (a9.add 0) bc) fun cJ=>ex (fun x=>(!(decide (cJ<(0:Int))))=true→(L (B .i64) (a9.add 0) bc) x) fun dD=>if ((decide (cJ<(0:Int)))||(decide (dD≥(8192:Int))))=true then (j (181:Int) bc) else (if ((abZ.getD (0:Int),abZ.isSome)).2=true then (j (182:Int) bc) else (dw bc fun gp=>ex (L (B .i64) (a9.add 1) gp) fun jz=>if (decide (jz<(0:Int)))=true then (Fs bt b5 a9 true gp j) else (ex (L (B .i64) (a9.add 1) gp) fun kw=>ex (L (B .i64) (a9.add 0) gp) fun k9=>M Pg 123 [.int .i64 (k9)] (B .i64) gp fun sw g6=>bG ((L (B .i64) (a9.add 1) g6) jz)<|bG ((L (B .i64) (a9.add 1) g6) kw)<|Fs bt b5 a9 (decide (kw>sw)) g6 j)))
theorem agI{iq bt b5 w j}(h:Ua iq bt b5 w j):M Pg 122 [h2.enc iq,.pointer (some bt),.pointer (some b5)] (B .i64) w j:=by
 have gC:=eI 11 (dJ [1,3,6,0,2,4,5,7,8,9,10] .l)
 have r0:=eI 7 (dJ [0,1,2,3,4,6,5,7,8,9,10,11] .l)
 have jt:=fun {a9}=>iz (bC:=Bool) 8 (fun s w=>Fs bt b5 a9 s w j) (fun g s=>ae (ae (ae (ae g 1 (.pointer (some bt))) 2 (.pointer (some b5))) 3 (.pointer (some a9))) 25 (.bool s))
 exact bu 52 Tryz.func122 rfl rfl bw
def Ub(w1:Int)(w:World)(j:Int→World→Prop):Prop:=if (decide (w1<(4096:Int)))=true then (j (1000000000000000:Int) w) else (j (4611686018427387904:Int) w)
theorem agJ{w1 w j}(h:Ub w1 w j):M Pg 123 [.int .i64 w1] (B .i64) w j:=
 bu 5 Tryz.func123 rfl rfl bw
end bj
end Go.Proofs.YthaobmpdjcoheaaGreat
