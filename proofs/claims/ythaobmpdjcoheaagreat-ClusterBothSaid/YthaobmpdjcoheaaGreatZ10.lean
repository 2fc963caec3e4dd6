/- Own texts of this claim, part 10: short, merged. -/
import Derived.Test.YthaobmpdjcoheaaGreatZ1
set_option maxRecDepth 100000
set_option maxHeartbeats 40000000
set_option linter.defProp false
set_option linter.unusedVariables false
set_option linter.unusedSimpArgs false
namespace Go.Proofs.YthaobmpdjcoheaaGreat
namespace bf
def CT(kG:Int)(fW:World)(tu:Int→World→Prop)(e:Bool→World→Prop):Prop:=tu ((IntKind.i64.wrap (kG+(1:Int)))) fW
def Fz(qc:Int)(aHR:Bool)(xe:World)(l4:Int→World→Prop)(e:Bool→World→Prop):Prop:=if aHR=true then (e false xe) else (l4 ((IntKind.i64.wrap (qc+(1:Int)))) xe)
def M7(cZ:af)(aA:Addr)(bX:(aM×Int×Bool))(qc:Int)(kG:Int)(dQ:World)(l4:Int→World→Prop)(tu:Int→World→Prop)(e:Bool→World→Prop):Prop:=if ((decide (kG<(cZ.len:Int)))&&(decide (kG<(60:Int))))=true then (ex (cM cZ 10 kG) fun i_=>ex (L gk (i_.add 4) dQ) fun gh=>bO 31 gk A_ dQ fun ja e4=>bd gk ja gh e4 fun ep=>ex (cM cZ 10 kG) fun qa=>ex (L (B .i64) (qa.add 0) ep) fun hj=>ex (fun x=>(!(hj != (2:Int)))=true→(L (B .i64) (ja.add 0) ep) x) fun kT=>ex (fun x=>(!((hj != (2:Int))||(decide (kT<(1:Int)))))=true→(L (B .i64) (ja.add 0) ep) x) fun oO=>ex (fun x=>(!(((hj != (2:Int))||(decide (kT<(1:Int))))||(decide (oO>(1000000:Int)))))=true→(L (B .i64) (ja.add 1) ep) x) fun mO=>ex (fun x=>(!((((hj != (2:Int))||(decide (kT<(1:Int))))||(decide (oO>(1000000:Int))))||(decide (mO<(0:Int)))))=true→(L (B .i64) (ja.add 2) ep) x) fun oP=>if (((((hj != (2:Int))||(decide (kT<(1:Int))))||(decide (oO>(1000000:Int))))||(decide (mO<(0:Int))))||(decide (oP<(0:Int))))=true then (CT kG ep tu e) else (dl ep fun gR=>ex (L (B .i64) (ja.add 1) gR) fun lx=>ex (L (B .i64) (aA.add 0) gR) fun k6=>ex (E4 k6 (Int.tmod lx k6)) fun d33=>ex (L (B .i64) (ja.add 2) gR) fun ky=>ex (L (B .i64) (aA.add 0) gR) fun mP=>ex (E4 mP (Int.tmod ky mP)) fun d36=>M Pg 9 [.pointer (bX.1),.int .i64 (d33)] aD gR fun An lv=>bE ((L (B .i64) (ja.add 1) lv) lx)<|bE ((L (B .i64) (aA.add 0) lv) k6)<|bE ((L (B .i64) (ja.add 2) lv) ky)<|bE ((L (B .i64) (aA.add 0) lv) mP)<|M Pg 9 [.pointer (bX.1),.int .i64 (d36)] aD lv fun Ao kQ=>bE ((L (B .i64) (ja.add 1) kQ) lx)<|bE ((L (B .i64) (aA.add 0) kQ) k6)<|bE ((L (B .i64) (ja.add 2) kQ) ky)<|bE ((L (B .i64) (aA.add 0) kQ) mP)<|if (An.isNone||Ao.isNone)=true then (CT kG kQ tu e) else (ex (L (B .i64) (ja.add 0) kQ) fun qM=>M Pg 10 [.pointer (An),.int .i64 ((IntKind.i64.wrap ((IntKind.i64.wrap ((2:Int)*qM))-(1:Int))))] (bw (B .i64) (B .i64)) kQ fun mi qH=>ex (L (B .i64) (ja.add 0) qH) fun zh=>M Pg 10 [.pointer (Ao),.int .i64 ((IntKind.i64.wrap ((2:Int)*zh)))] (bw (B .i64) (B .i64)) qH fun qw AD=>if ((((mi.1==(2:Int))&&(qw.1==(3:Int)))||((mi.1==(3:Int))&&(qw.1==(2:Int))))||(((mi.1==(2:Int))&&(qw.1==(2:Int)))&&(mi.2 != qw.2)))=true then (e false AD) else (CT kG AD tu e)))) else (if (qc==(0:Int))=true then (ex (L (B .i64) (aA.add 0) dQ) fun aIV=>M Pg 11 [.pointer (bX.1),.int .i64 (aIV)] bk dQ fun aFR LZ=>Fz qc (!aFR) LZ l4 e) else (Fz qc false dQ l4 e))
def M6(cZ:af)(aA:Addr)(bX:(aM×Int×Bool))(qc:Int)(cu:World)(l4:Int→World→Prop)(e:Bool→World→Prop):Prop:=if (decide (qc<(2:Int)))=true then (e2 (fun (s:Int) w aa=>M7 cZ aA bX qc s w l4 aa e) ((0:Int)) cu) else (e true cu)
def VJ(lh:kZ)(cZ:af)(w:World)(e:Bool→World→Prop):Prop:=bO 24 ha lh w fun aA aV=>ex (L ha aA aV) fun dN=>M Pg 7 [ha.enc (dN),X.enc (cZ)] (mm aD (B .i64) bk) aV fun bX b2=>M Pg 8 [] bk b2 fun fm bH=>if ((!fm)||bX.1.isNone)=true then (M Pg 8 [] bk bH fun hh cn=>e hh cn) else (e2 (fun (s:Int) w aa=>M6 cZ aA bX s w aa e) ((0:Int)) bH)
theorem aip{lh cZ w e}(h:VJ lh cZ w e):M Pg 3 [ha.enc lh,X.enc cZ] bk w e:=by
 have ga:=en 13 (dB [0,1,3,7,8,10,2,4,5,9,11,12,6,13,14,15] .j)
 have iI:=fun {kG} {tu} {aA} {bX:(aM×Int×Bool)} {qc}=>hy (bx:=Unit) 10 (fun s w=>CT kG w tu e) (fun g s=>ae (ae (ae (ae (ae g 1 (X.enc cZ)) 2 (.pointer (some aA))) 5 (.pointer (bX.1))) 8 (.int .i64 qc)) 9 (.int .i64 kG))
 have o9:=fun {qc} {l4} {aA} {bX:(aM×Int×Bool)}=>pQ (bx:=Bool) [3,4,5,6,7,8] [] (fun s w=>Fz qc s w l4 e) (fun g s=>ae (ae (ae (ae (ae g 1 (X.enc cZ)) 2 (.pointer (some aA))) 5 (.pointer (bX.1))) 8 (.int .i64 qc)) 148 (.bool s))
 have iU:=fun {aA} {bX:(aM×Int×Bool)} {qc} {l4}=>hf (bx:=Int) 9 (fun s w aa=>M7 cZ aA bX qc s w l4 aa e) (fun g s=>ae (ae (ae (ae (ae g 1 (X.enc cZ)) 2 (.pointer (some aA))) 5 (.pointer (bX.1))) 8 (.int .i64 qc)) 9 (.int .i64 s))
 have Eg:=fun {aA} {bX:(aM×Int×Bool)}=>hf (bx:=Int) 6 (fun s w aa=>M6 cZ aA bX s w aa e) (fun g s=>ae (ae (ae (ae g 1 (X.enc cZ)) 2 (.pointer (some aA))) 5 (.pointer (bX.1))) 8 (.int .i64 s))
 exact bq 149 Tryz.func3 rfl rfl br
end bf
end Go.Proofs.YthaobmpdjcoheaaGreat
