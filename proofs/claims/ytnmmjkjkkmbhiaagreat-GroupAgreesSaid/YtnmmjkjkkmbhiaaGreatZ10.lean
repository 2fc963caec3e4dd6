/- Own texts of this claim, part 10: short, merged. -/
import Derived.Test.YtnmmjkjkkmbhiaaGreatZ1
set_option maxRecDepth 100000
set_option maxHeartbeats 40000000
set_option linter.defProp false
set_option linter.unusedVariables false
set_option linter.unusedSimpArgs false
namespace Go.Proofs.YtnmmjkjkkmbhiaaGreat
namespace ba
def Iw(jK:X)(aP:Int)(cT:(aU×Int))(jE:Addr)(FI:Int)(cO:World)(By:Int→World→Prop)(j:Bool→World→Prop):Prop:=if ((decide (FI<(jK.len:Int)))&&(decide (FI<(90:Int))))=true then (ex (cz jK 10 FI) fun oU=>ex (M ko oU cO) fun hr=>L Pg 9 [ko.enc (hr)] ko cO fun vw du=>L Pg 8 [.pointer (cT.1),ko.enc (vw)] (bJ (D .i64) (D .i64)) du fun sP fB=>L Pg 10 [.pointer ((some jE)),.pointer (cT.1),.int .i64 (aP)] bi fB fun ca fc=>if (!ca)=true then (j false fc) else (By ((IntKind.i64.wrap (FI+(1:Int)))) fc)) else (j true cO)
def QB(bq:Int)(jK:X)(w:World)(j:Bool→World→Prop):Prop:=L Pg 5 [.int .i64 (bq)] (D .i64) w fun aP a6=>L Pg 6 [.int .i64 (aP),.float .f64 ((0:Nat))] (bJ aM (D .i64)) a6 fun cT bb=>L Pg 7 [] bi bb fun cF bH=>if (((!cF)||(cT.2 != (0:Int)))||cT.1.isNone)=true then (j false bH) else (ch 34 xA (⟨(Vector.replicate 1001 false),(Vector.replicate 1001 ([]:List UInt8))⟩:qd) bH fun jE b3=>e7 (fun (s:Int) w aa=>Iw jK aP cT jE s w aa j) ((0:Int)) b3)
theorem ace{bq jK w j}(h:QB bq jK w j):L Pg 3 [.int .i64 bq,O.enc jK] bi w j:=by
 have hT:=fun {aP} {cT:(aU×Int)} {jE}=>gK (bE:=Int) 8 (fun s w aa=>Iw jK aP cT jE s w aa j) (fun g s=>av (av (av (av (av g 0 (.int .i64 aP)) 1 (O.enc jK)) 5 (.pointer (cT.1))) 7 (.pointer ((some jE)))) 8 (.int .i64 s))
 exact aX 50 Tryz.func3 rfl rfl bf
end ba
end Go.Proofs.YtnmmjkjkkmbhiaaGreat
