/- Own texts of this claim, part 10: short, merged. -/
import Derived.Test.YtnmmjkjkkmbhiaaGreatZ1
set_option maxRecDepth 100000
set_option maxHeartbeats 40000000
set_option linter.defProp false
set_option linter.unusedVariables false
set_option linter.unusedSimpArgs false
namespace Go.Proofs.YtnmmjkjkkmbhiaaGreat
namespace ba
def ID(jK:X)(aP:Int)(cT:(aU×Int))(FK:Int)(b3:World)(pq:Int→World→Prop)(j:Bool→World→Prop):Prop:=if ((decide (FK<(jK.len:Int)))&&(decide (FK<(90:Int))))=true then (ex (cz jK 10 FK) fun e4=>ex (M ko e4 b3) fun cV=>L Pg 9 [ko.enc (cV)] ko b3 fun ga cQ=>L Pg 8 [.pointer (cT.1),ko.enc (ga)] (bJ (D .i64) (D .i64)) cQ fun vw du=>L Pg 11 [.pointer (cT.1),.int .i64 (aP)] bi du fun sP fB=>if (!sP)=true then (j false fB) else (pq ((IntKind.i64.wrap (FK+(1:Int)))) fB)) else (j true b3)
def QM(bq:Int)(jK:X)(w:World)(j:Bool→World→Prop):Prop:=L Pg 5 [.int .i64 (bq)] (D .i64) w fun aP a6=>L Pg 6 [.int .i64 (aP),.float .f64 ((4576918229304087675:Nat))] (bJ aM (D .i64)) a6 fun cT bb=>L Pg 7 [] bi bb fun cF bH=>if (((!cF)||(cT.2 != (0:Int)))||cT.1.isNone)=true then (j false bH) else (e7 (fun (s:Int) w aa=>ID jK aP cT s w aa j) ((0:Int)) bH)
theorem acn{bq jK w j}(h:QM bq jK w j):L Pg 4 [.int .i64 bq,O.enc jK] bi w j:=by
 have hT:=fun {aP} {cT:(aU×Int)}=>gK (bE:=Int) 7 (fun s w aa=>ID jK aP cT s w aa j) (fun g s=>av (av (av (av g 0 (.int .i64 aP)) 1 (O.enc jK)) 5 (.pointer (cT.1))) 7 (.int .i64 s))
 exact aX 46 Tryz.func4 rfl rfl bf
end ba
end Go.Proofs.YtnmmjkjkkmbhiaaGreat
