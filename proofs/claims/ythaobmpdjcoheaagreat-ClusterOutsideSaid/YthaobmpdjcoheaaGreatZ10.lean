/- Own texts of this claim, part 10: short, merged. -/
import Derived.Test.YthaobmpdjcoheaaGreatZ1
set_option maxRecDepth 100000
set_option maxHeartbeats 40000000
set_option linter.defProp false
set_option linter.unusedVariables false
set_option linter.unusedSimpArgs false
namespace Go.Proofs.YthaobmpdjcoheaaGreat
namespace bj
def FQ(oc:Int)(ev:World)(mm:Int→World→Prop)(j:Bool→World→Prop):Prop:=mm ((IntKind.i64.wrap (oc+(1:Int)))) ev
def FR(vv:Int)(rN:World)(zF:Int→World→Prop)(j:Bool→World→Prop):Prop:=zF ((IntKind.i64.wrap (vv+(1:Int)))) rN
def NF(hR:Addr)(oc:Int)(mx:af)(vv:Int)(lp:World)(mm:Int→World→Prop)(zF:Int→World→Prop)(j:Bool→World→Prop):Prop:=if (decide (vv<(mx.len:Int)))=true then (dw lp fun k6=>ex (cT mx 3 vv) fun uW=>ex (L (B .i64) (uW.add 1) k6) fun tw=>ex (fun x=>(tw==(2:Int))=true→(cT mx 3 vv) x) fun xR=>ex (fun x=>(tw==(2:Int))=true→(oA hR 60 1 oc) x) fun Bw=>ex (fun x=>(tw==(2:Int))=true→(L (B .i64) (xR.add 2) k6) x) fun rO=>ex (fun x=>(tw==(2:Int))=true→(L (B .i64) Bw k6) x) fun Fi=>if ((tw==(2:Int))&&(decide (rO>Fi)))=true then (ex (cT mx 3 vv) fun zQ=>ex (L (B .i64) (zQ.add 2) k6) fun qc=>ex (oA hR 60 1 oc) fun Ok=>bi (B .i64) Ok qc k6 fun qa=>FR vv qa zF j) else (FR vv k6 zF j)) else (FQ oc lp mm j)
def NG(bU:(aN×Int))(fZ:Addr)(hR:Addr)(KB:Int)(tv:World)(ajW:Int→World→Prop)(j:Bool→World→Prop):Prop:=if (decide (KB<(60:Int)))=true then (ex (oA fZ 60 1 KB) fun Jm=>ex (L (B .i64) Jm tv) fun TJ=>M Pg 16 [.pointer (bU.1),.int .i64 (TJ)] (bB (B .i64) (B .i64)) tv fun EZ xu=>ex (fun x=>(EZ.1==(2:Int))=true→(oA hR 60 1 KB) x) fun XB=>ex (fun x=>(EZ.1==(2:Int))=true→(L (B .i64) XB xu) x) fun aJp=>if ((EZ.1==(2:Int))&&(decide (EZ.2≤aJp)))=true then (j false xu) else (ajW ((IntKind.i64.wrap (KB+(1:Int)))) xu)) else (j true tv)
def NE(c2:af)(aA:Addr)(bU:(aN×Int))(fZ:Addr)(hR:Addr)(oc:Int)(db:World)(mm:Int→World→Prop)(j:Bool→World→Prop):Prop:=if ((decide (oc<(c2.len:Int)))&&(decide (oc<(60:Int))))=true then (ex (cT c2 10 oc) fun pH=>ex (L h1 pH db) fun k8=>M Pg 13 [h1.enc (k8)] h1 db fun mS fa=>bQ 35 h1 Bt fa fun pI iK=>bi h1 pI mS iK fun fe=>ex (L h1 pI fe) fun iM=>M Pg 14 [.pointer (bU.1),h1.enc (iM)] (B .i64) fe fun dX gh=>ex (fun x=>(dX==(0:Int))=true→(L (B .i64) (pI.add 0) gh) x) fun kw=>if ((dX==(0:Int))&&(kw==(2:Int)))=true then (ex (L (B .i64) ((pI.add 4).add 0) gh) fun k9=>ex (oA fZ 60 1 oc) fun Xw=>bi (B .i64) Xw k9 gh fun iL=>M Pg 15 [.pointer (bU.1)] X iL fun mx kO=>fh (fun (s:Int) w ab=>NF hR oc mx s w mm ab j) ((0:Int)) kO) else (FQ oc gh mm j)) else (ex (L (B .i64) (aA.add 0) db) fun Mv=>M Pg 11 [.pointer (bU.1),.int .i64 (Mv)] bo db fun aGm sH=>if (!aGm)=true then (j false sH) else (fh (fun (s:Int) w ab=>NG bU fZ hR s w ab j) ((0:Int)) sH))
def We(li:kU)(c2:af)(w:World)(j:Bool→World→Prop):Prop:=bQ 24 hr li w fun aA aY=>ex (L hr aA aY) fun dQ=>M Pg 12 [hr.enc (dQ)] (bB aE (B .i64)) aY fun bU b3=>M Pg 8 [] bo b3 fun dB bJ=>if (((!dB)||(bU.2 != (0:Int)))||bU.1.isNone)=true then (M Pg 8 [] bo bJ fun g8 cu=>j g8 cu) else (bQ 46 (qM (B .i64) 60) (Vector.replicate 60 (0:Int)) bJ fun fZ cA=>bQ 47 (qM (B .i64) 60) (Vector.replicate 60 (0:Int)) cA fun hR dU=>fh (fun (s:Int) w ab=>NE c2 aA bU fZ hR s w ab j) ((0:Int)) dU)
theorem ai0{li c2 w j}(h:We li c2 w j):M Pg 4 [hr.enc li,X.enc c2] bo w j:=by
 have gC:=eI 17 (dJ [0,1,2,3,4,5,6,7,8,9,10,12,13,11,14,15,16] .l)
 have jt:=fun {vv} {zF} {aA} {bU:(aN×Int)} {fZ} {hR} {oc} {mx}=>iz (bC:=Unit) 16 (fun s w=>FR vv w zF j) (fun g s=>ae (ae (ae (ae (ae (ae (ae (ae g 1 (X.enc c2)) 2 (.pointer (some aA))) 5 (.pointer (bU.1))) 7 (.pointer (some fZ))) 8 (.pointer (some hR))) 9 (.int .i64 oc)) 11 (X.enc mx)) 12 (.int .i64 vv))
 have ju:=fun {hR} {oc} {mx} {mm} {aA} {bU:(aN×Int)} {fZ}=>hJ (bC:=Int) 15 (fun s w ab=>NF hR oc mx s w mm ab j) (fun g s=>ae (ae (ae (ae (ae (ae (ae (ae g 1 (X.enc c2)) 2 (.pointer (some aA))) 5 (.pointer (bU.1))) 7 (.pointer (some fZ))) 8 (.pointer (some hR))) 9 (.int .i64 oc)) 11 (X.enc mx)) 12 (.int .i64 s))
 have KK:=fun {oc} {mm} {aA} {bU:(aN×Int)} {fZ} {hR}=>iz (bC:=Unit) 9 (fun s w=>FQ oc w mm j) (fun g s=>ae (ae (ae (ae (ae (ae g 1 (X.enc c2)) 2 (.pointer (some aA))) 5 (.pointer (bU.1))) 7 (.pointer (some fZ))) 8 (.pointer (some hR))) 9 (.int .i64 oc))
 have HJ:=fun {bU:(aN×Int)} {fZ} {hR}=>hJ (bC:=Int) 22 (fun s w ab=>NG bU fZ hR s w ab j) (fun g s=>ae (ae (ae (ae g 5 (.pointer (bU.1))) 7 (.pointer (some fZ))) 8 (.pointer (some hR))) 13 (.int .i64 s))
 have abU:=fun {aA} {bU:(aN×Int)} {fZ} {hR}=>hJ (bC:=Int) 8 (fun s w ab=>NE c2 aA bU fZ hR s w ab j) (fun g s=>ae (ae (ae (ae (ae (ae g 1 (X.enc c2)) 2 (.pointer (some aA))) 5 (.pointer (bU.1))) 7 (.pointer (some fZ))) 8 (.pointer (some hR))) 9 (.int .i64 s))
 exact bu 119 Tryz.func4 rfl rfl bw
end bj
end Go.Proofs.YthaobmpdjcoheaaGreat
