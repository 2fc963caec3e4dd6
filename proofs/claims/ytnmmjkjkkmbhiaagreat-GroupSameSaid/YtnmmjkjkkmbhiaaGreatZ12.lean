/- Own texts of this claim, part 12: short, merged. -/
import Derived.Shelf.SlIterI.Nil
import Derived.Shelf.SlIterI.Sorted
import Derived.Shelf.SortM.Plain
import Derived.Shelf.SortM.SortNone
import Derived.Ground.GgzProg
import Derived.Ground.SlgmProg
import Derived.Test.YtnmmjkjkkmbhiaaGreatProg
import Derived.Test.YtnmmjkjkkmbhiaaGreatZ11
set_option exponentiation.threshold 4000
set_option linter.unusedSectionVars false
set_option maxRecDepth 100000
set_option maxHeartbeats 40000000
set_option linter.defProp false
set_option linter.unusedVariables false
set_option linter.unusedSimpArgs false
namespace Go.Proofs.YtnmmjkjkkmbhiaaGreat
end Go.Proofs.YtnmmjkjkkmbhiaaGreat
namespace Go.Proofs
open Go.Shelf
def Tryz.U9:Go.Shelf.Ren:=⟨fun | 7=>124 | 10=>150 | n=>n,fun | 23=>205 | 26=>3 | 3=>206 | 28=>128 | 0=>0 | 27=>127 | 33=>185 | 4=>4 | n=>n,fun | n=>n⟩
theorem Tryz.atn:Go.Proofs.SlLaysZI.n7 Tryz.prog Tryz.U9:={
 mixed:=by kernel_rfl
 f7:=⟨Tryz.f124.name,by decide,Tryz.func124.trans (congrArg some (by kernel_rfl))⟩
 f10:=⟨Tryz.f150.name,by decide,Tryz.func150.trans (congrArg some (by kernel_rfl))⟩
 t0:=Tryz.underlying0
 a0:=Tryz.isAgg0
 z0:=Tryz.sizeOf0
 v0:=Tryz.zeroValue0
 t4:=Tryz.underlying4
 a4:=Tryz.isAgg4
 z4:=Tryz.sizeOf4
 v4:=Tryz.zeroValue4
 t23:=Tryz.underlying205
 a23:=Tryz.isAgg205
 z23:=Tryz.sizeOf205
 v23:=Tryz.zeroValue205
 t26:=Tryz.underlying3
 a26:=Tryz.isAgg3
 z26:=Tryz.sizeOf3
 v26:=Tryz.zeroValue3
 t27:=Tryz.underlying127
 a27:=Tryz.isAgg127
 z27:=Tryz.sizeOf127
 v27:=Tryz.zeroValue127
 t28:=Tryz.underlying128
 a28:=Tryz.isAgg128
 z28:=Tryz.sizeOf128
 v28:=Tryz.zeroValue128
 t33:=Tryz.underlying185
 a33:=Tryz.isAgg185
 z33:=Tryz.sizeOf185
 v33:=Tryz.zeroValue185 }
def Tryz.U_:Go.Shelf.Ren:=⟨fun | 7=>92 | 10=>126 | n=>n,fun | 23=>95 | 26=>3 | 3=>171 | 28=>128 | 0=>0 | 27=>127 | 33=>185 | 4=>4 | n=>n,fun | n=>n⟩
theorem Tryz.ato:Go.Proofs.SlLaysZI.n7 Tryz.prog Tryz.U_:={
 mixed:=by kernel_rfl
 f7:=⟨Tryz.f92.name,by decide,Tryz.func92.trans (congrArg some (by kernel_rfl))⟩
 f10:=⟨Tryz.f126.name,by decide,Tryz.func126.trans (congrArg some (by kernel_rfl))⟩
 t0:=Tryz.underlying0
 a0:=Tryz.isAgg0
 z0:=Tryz.sizeOf0
 v0:=Tryz.zeroValue0
 t4:=Tryz.underlying4
 a4:=Tryz.isAgg4
 z4:=Tryz.sizeOf4
 v4:=Tryz.zeroValue4
 t23:=Tryz.underlying95
 a23:=Tryz.isAgg95
 z23:=Tryz.sizeOf95
 v23:=Tryz.zeroValue95
 t26:=Tryz.underlying3
 a26:=Tryz.isAgg3
 z26:=Tryz.sizeOf3
 v26:=Tryz.zeroValue3
 t27:=Tryz.underlying127
 a27:=Tryz.isAgg127
 z27:=Tryz.sizeOf127
 v27:=Tryz.zeroValue127
 t28:=Tryz.underlying128
 a28:=Tryz.isAgg128
 z28:=Tryz.sizeOf128
 v28:=Tryz.zeroValue128
 t33:=Tryz.underlying185
 a33:=Tryz.isAgg185
 z33:=Tryz.sizeOf185
 v33:=Tryz.zeroValue185 }
def Tryz.Va:Go.Shelf.Ren:=⟨fun | 7=>160 | 10=>190 | n=>n,fun | 23=>143 | 26=>3 | 3=>53 | 28=>128 | 0=>0 | 27=>127 | 33=>185 | 4=>4 | n=>n,fun | n=>n⟩
theorem Tryz.atp:Go.Proofs.SlLaysZI.n7 Tryz.prog Tryz.Va:={
 mixed:=by kernel_rfl
 f7:=⟨Tryz.f160.name,by decide,Tryz.func160.trans (congrArg some (by kernel_rfl))⟩
 f10:=⟨Tryz.f190.name,by decide,Tryz.func190.trans (congrArg some (by kernel_rfl))⟩
 t0:=Tryz.underlying0
 a0:=Tryz.isAgg0
 z0:=Tryz.sizeOf0
 v0:=Tryz.zeroValue0
 t4:=Tryz.underlying4
 a4:=Tryz.isAgg4
 z4:=Tryz.sizeOf4
 v4:=Tryz.zeroValue4
 t23:=Tryz.underlying143
 a23:=Tryz.isAgg143
 z23:=Tryz.sizeOf143
 v23:=Tryz.zeroValue143
 t26:=Tryz.underlying3
 a26:=Tryz.isAgg3
 z26:=Tryz.sizeOf3
 v26:=Tryz.zeroValue3
 t27:=Tryz.underlying127
 a27:=Tryz.isAgg127
 z27:=Tryz.sizeOf127
 v27:=Tryz.zeroValue127
 t28:=Tryz.underlying128
 a28:=Tryz.isAgg128
 z28:=Tryz.sizeOf128
 v28:=Tryz.zeroValue128
 t33:=Tryz.underlying185
 a33:=Tryz.isAgg185
 z33:=Tryz.sizeOf185
 v33:=Tryz.zeroValue185 }
def Tryz.Vb:Go.Shelf.Ren:=⟨fun | 7=>84 | 10=>121 | n=>n,fun | 23=>64 | 26=>3 | 3=>159 | 28=>128 | 0=>0 | 27=>127 | 33=>185 | 4=>4 | n=>n,fun | n=>n⟩
theorem Tryz.atq:Go.Proofs.SlLaysZI.n7 Tryz.prog Tryz.Vb:={
 mixed:=by kernel_rfl
 f7:=⟨Tryz.f84.name,by decide,Tryz.func84.trans (congrArg some (by kernel_rfl))⟩
 f10:=⟨Tryz.f121.name,by decide,Tryz.func121.trans (congrArg some (by kernel_rfl))⟩
 t0:=Tryz.underlying0
 a0:=Tryz.isAgg0
 z0:=Tryz.sizeOf0
 v0:=Tryz.zeroValue0
 t4:=Tryz.underlying4
 a4:=Tryz.isAgg4
 z4:=Tryz.sizeOf4
 v4:=Tryz.zeroValue4
 t23:=Tryz.underlying64
 a23:=Tryz.isAgg64
 z23:=Tryz.sizeOf64
 v23:=Tryz.zeroValue64
 t26:=Tryz.underlying3
 a26:=Tryz.isAgg3
 z26:=Tryz.sizeOf3
 v26:=Tryz.zeroValue3
 t27:=Tryz.underlying127
 a27:=Tryz.isAgg127
 z27:=Tryz.sizeOf127
 v27:=Tryz.zeroValue127
 t28:=Tryz.underlying128
 a28:=Tryz.isAgg128
 z28:=Tryz.sizeOf128
 v28:=Tryz.zeroValue128
 t33:=Tryz.underlying185
 a33:=Tryz.isAgg185
 z33:=Tryz.sizeOf185
 v33:=Tryz.zeroValue185 }
def Tryz.Vc:Go.Shelf.Ren:=⟨fun | 7=>57 | 10=>105 | n=>n,fun | 23=>61 | 26=>3 | 3=>9 | 28=>128 | 0=>0 | 27=>127 | 33=>185 | 4=>4 | n=>n,fun | n=>n⟩
theorem Tryz.atr:Go.Proofs.SlLaysZI.n7 Tryz.prog Tryz.Vc:={
 mixed:=by kernel_rfl
 f7:=⟨Tryz.f57.name,by decide,Tryz.func57.trans (congrArg some (by kernel_rfl))⟩
 f10:=⟨Tryz.f105.name,by decide,Tryz.func105.trans (congrArg some (by kernel_rfl))⟩
 t0:=Tryz.underlying0
 a0:=Tryz.isAgg0
 z0:=Tryz.sizeOf0
 v0:=Tryz.zeroValue0
 t4:=Tryz.underlying4
 a4:=Tryz.isAgg4
 z4:=Tryz.sizeOf4
 v4:=Tryz.zeroValue4
 t23:=Tryz.underlying61
 a23:=Tryz.isAgg61
 z23:=Tryz.sizeOf61
 v23:=Tryz.zeroValue61
 t26:=Tryz.underlying3
 a26:=Tryz.isAgg3
 z26:=Tryz.sizeOf3
 v26:=Tryz.zeroValue3
 t27:=Tryz.underlying127
 a27:=Tryz.isAgg127
 z27:=Tryz.sizeOf127
 v27:=Tryz.zeroValue127
 t28:=Tryz.underlying128
 a28:=Tryz.isAgg128
 z28:=Tryz.sizeOf128
 v28:=Tryz.zeroValue128
 t33:=Tryz.underlying185
 a33:=Tryz.isAgg185
 z33:=Tryz.sizeOf185
 v33:=Tryz.zeroValue185 }
def Tryz.Vd:Go.Shelf.Ren:=⟨fun | 7=>119 | 10=>148 | n=>n,fun | 23=>63 | 26=>3 | 3=>54 | 28=>128 | 0=>0 | 27=>127 | 33=>185 | 4=>4 | n=>n,fun | n=>n⟩
theorem Tryz.ats:Go.Proofs.SlLaysZI.n7 Tryz.prog Tryz.Vd:={
 mixed:=by kernel_rfl
 f7:=⟨Tryz.f119.name,by decide,Tryz.func119.trans (congrArg some (by kernel_rfl))⟩
 f10:=⟨Tryz.f148.name,by decide,Tryz.func148.trans (congrArg some (by kernel_rfl))⟩
 t0:=Tryz.underlying0
 a0:=Tryz.isAgg0
 z0:=Tryz.sizeOf0
 v0:=Tryz.zeroValue0
 t4:=Tryz.underlying4
 a4:=Tryz.isAgg4
 z4:=Tryz.sizeOf4
 v4:=Tryz.zeroValue4
 t23:=Tryz.underlying63
 a23:=Tryz.isAgg63
 z23:=Tryz.sizeOf63
 v23:=Tryz.zeroValue63
 t26:=Tryz.underlying3
 a26:=Tryz.isAgg3
 z26:=Tryz.sizeOf3
 v26:=Tryz.zeroValue3
 t27:=Tryz.underlying127
 a27:=Tryz.isAgg127
 z27:=Tryz.sizeOf127
 v27:=Tryz.zeroValue127
 t28:=Tryz.underlying128
 a28:=Tryz.isAgg128
 z28:=Tryz.sizeOf128
 v28:=Tryz.zeroValue128
 t33:=Tryz.underlying185
 a33:=Tryz.isAgg185
 z33:=Tryz.sizeOf185
 v33:=Tryz.zeroValue185 }
def Tryz.YS:Go.Shelf.Ren:=⟨fun | 6=>56 | 8=>103 | 9=>104 | 11=>138 | 13=>140 | 12=>139 | 23=>170 | 24=>171 | 14=>161 | 15=>162 | 16=>163 | 17=>164 | 18=>165 | 19=>166 | 20=>167 | 21=>168 | 22=>169 | 25=>191 | 26=>192 | 27=>193 | 28=>194 | 29=>195 | 30=>196 | 31=>210 | n=>n,fun | 26=>3 | 28=>128 | 24=>39 | 0=>0 | 3=>3 | 37=>214 | 48=>262 | 50=>130 | 4=>4 | 40=>254 | 39=>253 | 45=>259 | 5=>5 | 9=>9 | 51=>277 | 55=>280 | 57=>294 | 58=>295 | 33=>185 | n=>n,fun | n=>n⟩
theorem Tryz.AP:Go.Proofs.SlLaysZI.n6 Tryz.prog Tryz.YS:={
 mixed:=by kernel_rfl
 f6:=⟨Tryz.f56.name,by decide,Tryz.func56.trans (congrArg some (by kernel_rfl))⟩
 f8:=⟨Tryz.f103.name,by decide,Tryz.func103.trans (congrArg some (by kernel_rfl))⟩
 f11:=⟨Tryz.f138.name,by decide,Tryz.func138.trans (congrArg some (by kernel_rfl))⟩
 t0:=Tryz.underlying0
 a0:=Tryz.isAgg0
 z0:=Tryz.sizeOf0
 v0:=Tryz.zeroValue0
 t24:=Tryz.underlying39
 a24:=Tryz.isAgg39
 z24:=Tryz.sizeOf39
 v24:=Tryz.zeroValue39
 t26:=Tryz.underlying3
 a26:=Tryz.isAgg3
 z26:=Tryz.sizeOf3
 v26:=Tryz.zeroValue3
 t28:=Tryz.underlying128
 a28:=Tryz.isAgg128
 z28:=Tryz.sizeOf128
 v28:=Tryz.zeroValue128
 i26:=by kernel_rfl }
def Tryz.ayC:Go.Shelf.Ren:=⟨fun | 5=>104 | 8=>140 | 7=>139 | 19=>170 | 20=>171 | 10=>161 | 11=>162 | 12=>163 | 13=>164 | 14=>165 | 15=>166 | 16=>167 | 17=>168 | 18=>169 | 30=>191 | 31=>192 | 32=>193 | 33=>194 | 34=>195 | 35=>196 | 40=>210 | n=>n,fun | 23=>39 | 25=>3 | 3=>3 | 32=>214 | 22=>39 | 0=>0 | 44=>262 | 46=>130 | 4=>4 | 36=>254 | 35=>253 | 41=>259 | 5=>5 | 9=>9 | 53=>277 | 57=>280 | 63=>294 | 64=>295 | n=>n,fun | n=>n⟩
theorem Tryz.YR:Go.Proofs.SlLaysM.n5 Tryz.prog Tryz.ayC:={
 mixed:=by kernel_rfl
 f5:=⟨Tryz.f104.name,by decide,Tryz.func104.trans (congrArg some (by kernel_rfl))⟩
 f7:=⟨Tryz.f139.name,by decide,Tryz.func139.trans (congrArg some (by kernel_rfl))⟩
 f8:=Tryz.func140.trans (congrArg some (by kernel_rfl))
 f10:=⟨Tryz.f161.name,by decide,Tryz.func161.trans (congrArg some (by kernel_rfl))⟩
 f11:=⟨Tryz.f162.name,by decide,Tryz.func162.trans (congrArg some (by kernel_rfl))⟩
 f12:=⟨Tryz.f163.name,by decide,Tryz.func163.trans (congrArg some (by kernel_rfl))⟩
 f13:=⟨Tryz.f164.name,by decide,Tryz.func164.trans (congrArg some (by kernel_rfl))⟩
 f14:=⟨Tryz.f165.name,by decide,Tryz.func165.trans (congrArg some (by kernel_rfl))⟩
 f15:=⟨Tryz.f166.name,by decide,Tryz.func166.trans (congrArg some (by kernel_rfl))⟩
 f16:=⟨Tryz.f167.name,by decide,Tryz.func167.trans (congrArg some (by kernel_rfl))⟩
 f17:=⟨Tryz.f168.name,by decide,Tryz.func168.trans (congrArg some (by kernel_rfl))⟩
 f18:=⟨Tryz.f169.name,by decide,Tryz.func169.trans (congrArg some (by kernel_rfl))⟩
 f19:=Tryz.func170.trans (congrArg some (by kernel_rfl))
 f20:=Tryz.func171.trans (congrArg some (by kernel_rfl))
 f30:=⟨Tryz.f191.name,by decide,Tryz.func191.trans (congrArg some (by kernel_rfl))⟩
 f31:=Tryz.func192.trans (congrArg some (by kernel_rfl))
 f32:=Tryz.func193.trans (congrArg some (by kernel_rfl))
 f33:=⟨Tryz.f194.name,by decide,Tryz.func194.trans (congrArg some (by kernel_rfl))⟩
 f34:=⟨Tryz.f195.name,by decide,Tryz.func195.trans (congrArg some (by kernel_rfl))⟩
 f35:=⟨Tryz.f196.name,by decide,Tryz.func196.trans (congrArg some (by kernel_rfl))⟩
 f40:=⟨Tryz.f210.name,by decide,Tryz.func210.trans (congrArg some (by kernel_rfl))⟩
 t0:=Tryz.underlying0
 a0:=Tryz.isAgg0
 z0:=Tryz.sizeOf0
 v0:=Tryz.zeroValue0
 t3:=Tryz.underlying3
 a3:=Tryz.isAgg3
 z3:=Tryz.sizeOf3
 v3:=Tryz.zeroValue3
 t4:=Tryz.underlying4
 a4:=Tryz.isAgg4
 z4:=Tryz.sizeOf4
 v4:=Tryz.zeroValue4
 t5:=Tryz.underlying5
 a5:=Tryz.isAgg5
 z5:=Tryz.sizeOf5
 v5:=Tryz.zeroValue5
 t9:=Tryz.underlying9
 a9:=Tryz.isAgg9
 z9:=Tryz.sizeOf9
 v9:=Tryz.zeroValue9
 t22:=Tryz.underlying39
 a22:=Tryz.isAgg39
 z22:=Tryz.sizeOf39
 v22:=Tryz.zeroValue39
 t23:=Tryz.underlying39
 a23:=Tryz.isAgg39
 z23:=Tryz.sizeOf39
 v23:=Tryz.zeroValue39
 t25:=Tryz.underlying3
 a25:=Tryz.isAgg3
 z25:=Tryz.sizeOf3
 v25:=Tryz.zeroValue3
 t32:=Tryz.underlying214
 a32:=Tryz.isAgg214
 z32:=Tryz.sizeOf214
 v32:=Tryz.zeroValue214
 t35:=Tryz.underlying253
 a35:=Tryz.isAgg253
 z35:=Tryz.sizeOf253
 v35:=Tryz.zeroValue253
 t36:=Tryz.underlying254
 a36:=Tryz.isAgg254
 z36:=Tryz.sizeOf254
 v36:=Tryz.zeroValue254
 t41:=Tryz.underlying259
 a41:=Tryz.isAgg259
 z41:=Tryz.sizeOf259
 v41:=Tryz.zeroValue259
 t44:=Tryz.underlying262
 a44:=Tryz.isAgg262
 z44:=Tryz.sizeOf262
 v44:=Tryz.zeroValue262
 t46:=Tryz.underlying130
 a46:=Tryz.isAgg130
 z46:=Tryz.sizeOf130
 v46:=Tryz.zeroValue130
 t53:=Tryz.underlying277
 a53:=Tryz.isAgg277
 z53:=Tryz.sizeOf277
 v53:=Tryz.zeroValue277
 t57:=Tryz.underlying280
 a57:=Tryz.isAgg280
 z57:=Tryz.sizeOf280
 v57:=Tryz.zeroValue280
 t63:=Tryz.underlying294
 a63:=Tryz.isAgg294
 z63:=Tryz.sizeOf294
 v63:=Tryz.zeroValue294
 t64:=Tryz.underlying295
 a64:=Tryz.isAgg295
 z64:=Tryz.sizeOf295
 v64:=Tryz.zeroValue295 }
end Go.Proofs
namespace Go.Proofs.YtnmmjkjkkmbhiaaGreat
namespace ba
open Go.RowKit Go.Maps Go.Sort Go.Shelf Go.WideElems
section
variable {y w:World} {c:List bt} {S:Type} {T:a_ S}
theorem AQ(m:Nat):AnyZI.SortsIn Pg Tryz.YS Fence.wide m:=
  ⟨fun iO off cap gv y ahw ah4 lq=>callsIn_wide.2 (AnyM.slices_Sort_int Tryz.YR iO off cap gv y ahw ah4 lq),
   fun p cap y=>callsIn_wide.2 (AnyM.slices_Sort_int_none Tryz.YR p cap y)⟩
theorem insert_perm{H:Type}(x:Lit×DataW H):∀ r,(DataW.insert x r).Perm (x::r)
 |[]=>List.Perm.refl _
 |N::r=>by
  unfold DataW.insert;split
  ·exact List.Perm.refl _
  ·exact ((insert_perm x r).cons N).trans (List.Perm.swap x N r)
theorem JL{H:Type}:∀ r:List (Lit×DataW H),(r.foldr DataW.insert []).Perm r
 |[]=>List.Perm.refl _
 |x::r=>(insert_perm x _).trans ((JL r).cons x)
def EQ(v:Value):Option (DataW Unit×List MemPlace):=some (.nil,[])
theorem AD{k:TypeId}{r:Nat}{es:List (Int×S)}{arr:Array MapEntry}{c:Nat}(al:Tryz.prog.underlying k=some (.int .i64))(Z:∀ p∈es,-9223372036854775808≤p.1∧p.1≤9223372036854775807)(hm:es.length≤9223372036854775807)
  (B:qb T .i64 arr es) (aA:oO arr c) (J:(es.map (·.1)).Nodup) (bV:w.heap[r]?=some (.map arr c)) :
  ∃ lf:DataW Unit,w.ownsMap Pg k EQ r arr.size lf∧(intKeys lf).Perm (es.map (·.1))∧Maps.size lf=es.length:=by
 have n8:arr.toList.map (·.key)=es.map fun p=>Value.int .i64 p.1:=by
  have:=congrArg (List.map Prod.fst) B;simpa[List.map_map,Function.comp_def] using this
 have hR:arr.size=es.length:=by have:=congrArg List.length n8; simpa using this
 have pF:∀ x∈arr.toList,∃ n:Int,x.key=.int .i64 n∧WideElems.rd (H:=Unit) Pg k EQ x=some (.int .i64 n,.nil):=by
  intro x F;have:x.key∈arr.toList.map (·.key):=List.mem_map.2 ⟨x,F,rfl⟩;rw[n8] at this;obtain⟨p,aH,e⟩:=List.mem_map.1 this;refine⟨p.1,e.symm,?_⟩;have h:=Z p aH;have hw:(Lit.int .i64 p.1).wf=true:=by
   show (decide (IntKind.min .i64≤p.1)&&decide (p.1≤IntKind.max .i64))=true
   rw[decide_eq_true (show IntKind.min .i64≤p.1 from h.1),decide_eq_true (show p.1≤IntKind.max .i64 from h.2)]; rfl
  unfold WideElems.rd;rw[← e,Maps.keyOf_int_mk al hw]; rfl
 refine⟨_,⟨arr,c,bV,⟨by rw[hR]; exact hm,⟨aA.1,aA.2,?_⟩,fun x F=>by obtain⟨n,_,h⟩:=pF x F; exact⟨_,h⟩⟩,Nat.le_refl _,rfl⟩,?_,?_⟩
 ·rw[n8];have e:(es.map fun p=>Value.int .i64 p.1)=(es.map (·.1)).map (Value.int .i64):=by simp
  rw[e];exact List.Pairwise.map _ (fun a b h e=>h (by injection e)) J
 ·refine ((JL (arr.toList.map (WideElems.rg (H:=Unit) Pg k EQ))).map _).trans (List.Perm.of_eq ?_);have e:es.map (·.1)=arr.toList.map fun x=>RowKit.intOf x.key:=by
   have:=congrArg (List.map RowKit.intOf) n8;simp only[List.map_map] at this;exact this.symm
  rw[e,List.map_map];refine List.map_congr_left fun x F=>?_;obtain⟨n,B,J⟩:=pF x F;simp[WideElems.rg,J,B];rfl
 ·have:=(JL (arr.toList.map (WideElems.rg (H:=Unit) Pg k EQ))).length_eq;rw[Maps.size_eq,this]; simp[hR]
theorem ayE{r ep:Nat}{es:List (Int×S)}(Z:∀ p∈es,-9223372036854775808≤p.1∧p.1≤9223372036854775807)(hm:es.length≤1000000)(H:E y (aN ep [.map (some r)] 205::bR T .i64 r es::c) w) :
  L Pg 56 [.func (.func 150) #[] #[.pointer (some ⟨ep,0,none⟩)]] O w fun s I=>∃ bu:List Int,bu.Perm (es.map (·.1)) ∧
   E y (row (D .i64) 3 1 s (bu.mergeSort fun x N=>decide (x≤N))::aN ep [.map (some r)] 205::bR T .i64 r es::c) I:=by
 obtain⟨arr,c,B,aA,J,eL⟩:=rp (H.front 1);have bV:=eL.get;obtain⟨lf,su,sv,nC⟩:=AD (k:=3) Tryz.underlying3 Z (by omega) B aA J bV;have nB:=H.get;have cA:ep<w.heap.size:=(Array.getElem?_eq_some_iff.1 nB).1;have sx:=AnyZI.keys_gives (ρ:=Tryz.U9) { Tryz.atn with } Fence.wide (5-1-1-1) trivial rfl (by omega) ep r arr.size lf w cA (by rw[px nB]; rfl) su;have mg:=AnyZI.sorted_in Tryz.AP Fence.wide 5 trivial trivial trivial trivial rfl (by omega) (AQ _) (enters_of Tryz.func104 (by kernel_rfl) rfl) 150 #[.pointer (some ⟨ep,0,none⟩)] trivial (enters_of Tryz.func150 (by kernel_rfl) rfl) _ (Maps.size lf) (by rw[nC]; exact Nat.le_trans hm (Nat.le_of_ble_eq_true rfl)) (by rw[nC]; omega) w sx;change CallsIn _ _ Pg 56 _ _ _ at mg;refine (callsIn_wide (n:=5)).1 (mg.mono ?_);rintro e I ⟨v,gv,rfl,iR,kI,Cx,sp⟩
 have kI:I.ownsRow w.heap.size 3 1 v gv.length ((gv.mergeSort fun x N=>decide (x≤N)).flatMap (D .i64).cells):=by
  have e:(gv.mergeSort fun x N=>decide (x≤N)).flatMap (D .i64).cells=(gv.mergeSort fun x N=>decide (x≤N)).map encZ:=by
   generalize gv.mergeSort (fun x N=>decide (x≤N))=q;induction q with
   |nil=>rfl
   |cons x q b8=>rw[List.flatMap_cons,b8]; rfl
  rw[e]; exact kI
 obtain⟨s,aF,lh⟩:=H.ownsRow (T:=D .i64) (fun _=>rfl) (by rw[List.length_mergeSort]) sp kI;exact⟨s,aF,gv,iR.trans sv,lh⟩
end
section
variable {y w:World} {c:List bt} {S:Type} {T:a_ S}
theorem ayI{r ep:Nat}{es:List (Int×S)}(Z:∀ p∈es,-9223372036854775808≤p.1∧p.1≤9223372036854775807)(hm:es.length≤1000000)(H:E y (aN ep [.map (some r)] 143::bR T .i64 r es::c) w) :
  L Pg 56 [.func (.func 190) #[] #[.pointer (some ⟨ep,0,none⟩)]] O w fun s I=>∃ bu:List Int,bu.Perm (es.map (·.1)) ∧
   E y (row (D .i64) 3 1 s (bu.mergeSort fun x N=>decide (x≤N))::aN ep [.map (some r)] 143::bR T .i64 r es::c) I:=by
 obtain⟨arr,c,B,aA,J,eL⟩:=rp (H.front 1);have bV:=eL.get;obtain⟨lf,su,sv,nC⟩:=AD (k:=3) Tryz.underlying3 Z (by omega) B aA J bV;have nB:=H.get;have cA:ep<w.heap.size:=(Array.getElem?_eq_some_iff.1 nB).1;have sx:=AnyZI.keys_gives (ρ:=Tryz.Va) { Tryz.atp with } Fence.wide (5-1-1-1) trivial rfl (by omega) ep r arr.size lf w cA (by rw[px nB]; rfl) su;have mg:=AnyZI.sorted_in Tryz.AP Fence.wide 5 trivial trivial trivial trivial rfl (by omega) (AQ _) (enters_of Tryz.func104 (by kernel_rfl) rfl) 190 #[.pointer (some ⟨ep,0,none⟩)] trivial (enters_of Tryz.func190 (by kernel_rfl) rfl) _ (Maps.size lf) (by rw[nC]; exact Nat.le_trans hm (Nat.le_of_ble_eq_true rfl)) (by rw[nC]; omega) w sx;change CallsIn _ _ Pg 56 _ _ _ at mg;refine (callsIn_wide (n:=5)).1 (mg.mono ?_);rintro e I ⟨v,gv,rfl,iR,kI,Cx,sp⟩
 have kI:I.ownsRow w.heap.size 3 1 v gv.length ((gv.mergeSort fun x N=>decide (x≤N)).flatMap (D .i64).cells):=by
  have e:(gv.mergeSort fun x N=>decide (x≤N)).flatMap (D .i64).cells=(gv.mergeSort fun x N=>decide (x≤N)).map encZ:=by
   generalize gv.mergeSort (fun x N=>decide (x≤N))=q;induction q with
   |nil=>rfl
   |cons x q b8=>rw[List.flatMap_cons,b8]; rfl
  rw[e]; exact kI
 obtain⟨s,aF,lh⟩:=H.ownsRow (T:=D .i64) (fun _=>rfl) (by rw[List.length_mergeSort]) sp kI;exact⟨s,aF,gv,iR.trans sv,lh⟩
end
end ba
namespace Ballot
open ba Wire Disk
abbrev dd:=eA
abbrev fH:=dA
abbrev lH:=xw
theorem CZ:∀ x,(fH.cells x).length=3:=fun _=>rfl
def e0(R:List Int):List Int:=R.mergeSort fun x N=>decide (x≤N)
theorem w4(R:List Int):(e0 R).Pairwise fun x N=>x≤N:=by
 have B:(e0 R).Pairwise fun x N=>decide (x≤N)=true:=
  List.pairwise_mergeSort (fun a b o B J=>by simp at B J ⊢; omega) (fun a b=>by simp; omega) R
 exact B.imp fun h=>by simpa using h
theorem hY(R:List Int):(e0 R).Perm R:=List.mergeSort_perm R _
theorem w3{R z:List Int}(h:R.Perm z):e0 R=e0 z:=
 List.Perm.eq_of_pairwise (fun a b _ _ B J=>by omega) (w4 R) (w4 z) ((hY R).trans (h.trans (hY z).symm))
theorem DJ{R:List Int}(h:R.Nodup):(e0 R).Pairwise fun x N=>x<N:=
 ((w4 R).and ((hY R).nodup_iff.2 h)).imp fun {a b} h => by
  have B:=h.1;have J:a≠b:=h.2;omega
abbrev fV:=List (Int×dd)
def gT(es:fV):List dd:=(e0 (es.map (·.1))).map fun k=>(es.lookup k).getD hf
inductive Rec where
 |prom (b:Int)
 |acc (b n:Int) (v:List UInt8)
def kf(b:Int):Bool:=decide (b≥1)&&decide (b≤1099511627776)
def tH(n:Int):Bool:=decide (n≥1)&&decide (n≤1000)
def oE:Rec→List dp
 |.prom b=>[⟨1,1,0,0,[]⟩,⟨2,0,b,0,[]⟩]
 |.acc b n v=>[⟨1,2,0,0,[]⟩,⟨2,0,b,0,[]⟩,⟨2,0,n,0,[]⟩,⟨4,0,0,0,v⟩]
def fY(r:Rec):List UInt8:=g7 (oE r)
def kN:Rec→Prop
 |.prom b=>kf b=true
 |.acc b n v=>kf b=true∧tH n=true∧v.length≤1000
theorem Ax{b:Int}:kf b=true↔1≤b∧b≤1099511627776:=by simp[kf]
theorem YL{b:Int}:tH b=true↔1≤b∧b≤1000:=by simp[tH]
theorem Fo{r:Rec}(h:kN r):lg (oE r):=by
 cases r with
 |prom b=>
  have aA:=Ax.1 h;refine⟨fun v ax=>?_,fun v ax=>?_⟩
  ·simp only[oE,List.mem_cons,List.not_mem_nil,or_false] at ax;rcases ax with rfl | rfl
   ·exact⟨by simp,by simp,by simp,by simp,by simp,by simp,by simp⟩
   ·exact⟨by simp,by simp,by simp,by simp,by simp only; omega,by simp only; omega,by simp⟩
  ·simp only[oE,List.mem_cons,List.not_mem_nil,or_false] at ax;rcases ax with rfl | rfl<;>simp[hH,mw]
 |acc b n v=>
  obtain⟨B,J,au⟩:=h;have aA:=Ax.1 B;have aO:=YL.1 J;refine⟨fun x ax=>?_,fun x ax=>?_⟩
  ·simp only[oE,List.mem_cons,List.not_mem_nil,or_false] at ax;rcases ax with rfl | rfl | rfl | rfl
   ·exact⟨by simp,by simp,by simp,by simp,by simp,by simp,by simp⟩
   ·exact⟨by simp,by simp,by simp,by simp,by simp only; omega,by simp only; omega,by simp⟩
   ·exact⟨by simp,by simp,by simp,by simp,by simp only; omega,by simp only; omega,by simp⟩
   ·exact⟨by simp,by simp,by simp,by simp,by simp,by simp,by simp⟩
  ·simp only[oE,List.mem_cons,List.not_mem_nil,or_false] at ax;rcases ax with rfl | rfl | rfl | rfl
   ·simp[hH,mw]
   ·simp[hH,mw]
   ·simp[hH,mw]
   ·simp[hH,mw]; omega
theorem N1(r:Rec):(oE r).length≤4:=by cases r<;>simp[oE]
theorem zU{r:Rec}(h:kN r):(fY r).length≤4044:=by
 have B:=JA (Fo h).n4 (Fo h).ok;have J:=N1 r;unfold fY; omega
theorem aeU(r:Rec):(oE r).map mR=oE r:=by cases r<;>simp[oE,mR,xS]
theorem Zh{r:Rec}(h:kN r):jY (fY r)=(oE r,0,0):=by
 have:=azq (Fo h) (by have:=N1 r; omega);rw[aeU] at this;exact this
def g1(s:Int×fV):Rec→Int×fV
 |.prom b=>(max s.1 b,s.2)
 |.acc b n v=>(max s.1 b,bM n ⟨n,b,v⟩ s.2)
structure gj where
 ah:eQ
 V:ui
 p:Int
 es:fV
def eZ(ad:gj)(r:Rec):gj×Int:=({ ad with ah:=(rT ad.ah ad.V (fY r)).1,V:=(rT ad.ah ad.V (fY r)).2.1 },(rT ad.ah ad.V (fY r)).2.2)
def oI(ad:gj)(b:Int):Int:=if kf b=false then 231 else if b<ad.p then 234 else 0
def h5(ad:gj)(b:Int):gj×Int:=
 if oI ad b≠0 then (ad,oI ad b)
 else if ad.p<b then if (eZ ad (.prom b)).2≠0 then eZ ad (.prom b) else ({ (eZ ad (.prom b)).1 with p:=b },0)
 else (ad,0)
def pn(ad:gj)(x:dd):gj:={ ad with p:=max ad.p x.ai,es:=bM x.bm x ad.es }
def mN(ad:gj)(b n:Int)(v:List UInt8):gj×Int:=
 if oI ad b=231 then (ad,231) else if tH n=false then (ad,232) else if 1000<v.length then (ad,233) else if oI ad b≠0 then (ad,oI ad b)
 else match ad.es.lookup n with
  |some A=>if A.ai=b then (if A.V=v then (ad,0) else (ad,235)) else
   if (eZ ad (.acc b n v)).2=0 then (pn (eZ ad (.acc b n v)).1 ⟨n,b,v⟩,0) else eZ ad (.acc b n v)
  |none=>if (eZ ad (.acc b n v)).2=0 then (pn (eZ ad (.acc b n v)).1 ⟨n,b,v⟩,0) else eZ ad (.acc b n v)
section
variable {y w:World} {c bx:List bt}
def gp(a d:Nat)(ad:gj):bt:=fE fun b:Nat=>fE fun m:Nat=>de [aN a (lH.cells ⟨some ⟨b,0,none⟩,ad.p,some m⟩) 145,bR fH .i64 m ad.es,sX b d ad.V,fi d ad.ah]
theorem pv{a d:Nat}{ad:gj}(H:E y (gp a d ad::c) w):∃ b m:Nat,E y (aN a (lH.cells ⟨some ⟨b,0,none⟩,ad.p,some m⟩) 145::bR fH .i64 m ad.es::sX b d ad.V::fi d ad.ah::c) w:=by
 obtain⟨b,H⟩:=H.ex;obtain⟨m,H⟩:=H.ex;exact⟨b,m,H.open_⟩
theorem nw{a d b m:Nat}{ad:gj}(H:E y (aN a (lH.cells ⟨some ⟨b,0,none⟩,ad.p,some m⟩) 145::bR fH .i64 m ad.es::sX b d ad.V::fi d ad.ah::c) w):E y (gp a d ad::c) w:=
 E.kQ b (E.kQ m (E.shut (bx:=[_,_,_,_]) H))
theorem Mn{b:Int}(H:E y c w):L Pg 133 [.int .i64 b] bi w fun r I=>r=kf b∧E y c I:=by
 refine aaB ?_;unfold Pe;exact⟨rfl,H⟩
theorem YM{b:Int}(H:E y c w):L Pg 134 [.int .i64 b] bi w fun r I=>r=tH b∧E y c I:=by
 refine aaC ?_;unfold Pf;exact⟨rfl,H⟩
theorem ZU{a d:Nat}{ad:gj}{b:Int}(H:E y (gp a d ad::c) w):L Pg 99 [.pointer (some ⟨a,0,none⟩),.int .i64 b] (D .i64) w fun r I=>r=oI ad b∧E y (gp a d ad::c) I:=by
 refine adb ?_;unfold RI oI;refine aE (Mn H) ?_;rintro r w ⟨rfl,H⟩;by_cases aA:kf b=false
 ·rw[if_pos aA,if_pos (by simp[aA])];exact⟨rfl,H⟩
 ·rw[if_neg aA,if_neg (by simpa using aA)];obtain⟨gR,m,H⟩:=pv H;refine b2 rfl ?_;refine an (x:=ad.p) 0 H rfl rfl rfl ?_;by_cases aH:b<ad.p
  ·rw[if_pos aH,if_pos (by simpa using aH)];exact⟨rfl,nw H⟩
  ·rw[if_neg aH,if_neg (by simpa using aH)];exact⟨rfl,nw H⟩
theorem Vr{a d:Nat}{ad:gj}{r:Rec}{q:X}(dW:ad.ah.j4)(Z:kN r)(k:c0 5 c gG q (oE r))(H:E y (gp a d ad::c) w):L Pg 100 [.pointer (some ⟨a,0,none⟩),O.enc q] (D .i64) w fun e I=>e=(eZ ad r).2∧E y (gp a d (eZ ad r).1::c) I:=by
 have ap:=Fo Z;have aj:=N1 r;refine Z8 ?_;unfold ON;refine aE (WD ap.n4 (by omega) k.tail H) ?_;rintro⟨gn,aT⟩ w ⟨he,B,_,_⟩;have aH:vs (oE r)=0:=by
  unfold vs;rw[if_neg (by omega),Jk ap.ok]
 have H:=B aH;rw[aH] at he;simp only at he H;subst he;rw[if_neg (by simp)];obtain⟨b,m,H⟩:=pv (H.front 1);refine b2 rfl ?_;refine an (x:=some ⟨b,0,none⟩) 0 H rfl rfl rfl ?_;have F:=zU Z;refine aE (aej (x:=fY r) dW (by omega) (c0.row (fun _=>rfl) 2 rfl) (H.ord [2,3])) ?_;rintro e w ⟨rfl,H⟩;exact⟨rfl,nw (ad:=(eZ ad r).1) ((H.ord [2,3,0,1]) |> fun H=>H.perm (List.Perm.cons _ (List.Perm.cons _ (List.Perm.cons _ (List.Perm.refl _)))) |> fun H=>(H.ord [4]).drop)⟩
theorem Zx{a d:Nat}{ad:gj}{x:dd}(H:E y (gp a d ad::c) w):L Pg 135 [.pointer (some ⟨a,0,none⟩),fH.enc x] cJ w fun _ I=>E y (gp a d (pn ad x)::c) I:=by
 obtain⟨b,m,H⟩:=pv H;refine aaD ?_;unfold Ph;refine cj H fun mP w H=>?_;refine dH H fun w H=>?_;refine b2 rfl ?_;refine an (x:=ad.p) 1 H rfl rfl rfl ?_;refine an (x:=x.ai) 0 H rfl rfl rfl ?_;refine eg (x:=max ad.p x.ai) 1 H rfl rfl (Nat.le_of_ble_eq_true rfl) fun w H=>?_;refine dH H fun w H=>?_;refine an (x:=some m) 0 H rfl rfl rfl ?_;refine an (x:=x.bm) 1 H rfl rfl rfl ?_;refine gV (x:=x) 1 H rfl ?_;refine pd 2 H rfl rfl fun w H=>?_;exact nw (ad:=pn ad x) (H.ord [1,0,3,4] |> fun H=>(H.ord [4]).drop)
def Keyed(es:fV):Prop:=es.length≤1000000∧∀ e∈es,-9223372036854775808≤e.1∧e.1≤9223372036854775807
theorem VF{m:Nat}{es:fV}(al:Keyed es)(H:E y (bR fH .i64 m es::c) w):L Pg 137 [.map (some m)] O w fun r I=>E y (row fH 53 3 r (gT es)::bR fH .i64 m es::c) I:=by
 refine aaF ?_;unfold Pk;refine aaY ?_;unfold PC;refine cj H fun ep w H=>?_;refine aE (ayI al.2 al.1 H) ?_;rintro s w ⟨bu,aH,H⟩;have a5:(bu.mergeSort fun x N=>decide (x≤N))=e0 (es.map (·.1)):=w3 aH;rw[a5] at H;have aF:=ho H;have sw:(e0 (es.map (·.1))).length=es.length:=by
  have:=(hY (es.map (·.1))).length_eq;simpa using this
 have Cs:=al.1;unfold gT;generalize e0 (es.map (·.1))=q at H aF sw;refine hU (fun p w=>0≤p.2∧p.2≤q.length∧E y (row fH 53 3 p.1 ((q.take p.2.toNat).map fun k=>(es.lookup k).getD hf)::row (D .i64) 3 1 s q::aN ep [.map (some m)] 143::bR fH .i64 m es::c) w) (fun p=>(q.length-p.2).toNat)
  ⟨Int.le_refl 0,by simp only; omega,jW fH 53 3 H⟩ ?_
 clear H;rintro⟨r,i⟩ w ⟨i0,i1,H⟩ aa b7;simp only at i0 i1 H;unfold HW;rw[aF];split
 ·rename_i aq;have aq:i<q.length:=by simpa using aq
  have F:q[i.toNat]?=some q[i.toNat]:=List.getElem?_eq_getElem (by omega);have ak:q.take (i.toNat+1)=q.take i.toNat++[q[i.toNat]]:=by rw[List.take_succ_eq_append_getElem (by omega)]
  generalize q[i.toNat]=x at F ak;obtain⟨a,ag⟩:=ih (i:=i) (H.front 1) i0 aq;refine aQ a ag ?_;refine aQ x (lz (fun _=>rfl) ag F (H.front 1)) ?_;refine iV 3 H rfl rfl ?_;refine me (fun _=>rfl) 0 H rfl (by simp; omega) fun r w H=>?_;have aT:IntKind.i64.wrap (i+1)=i+1:=wrap_i64 (by omega) (by omega);rw[aT];refine b7 _ _ ⟨by simp only; omega,by simp only; omega,?_⟩ (by simp only; omega);have a0:(i+1).toNat=i.toNat+1:=by omega
  simp only[a0,ak,List.map_append,List.map_cons,List.map_nil];exact H
 ·rename_i aq;have aq:i=q.length:=by simp at aq; omega
  subst aq;have cS:q.take ((q.length:Int)).toNat=q:=by simp
  rw[cS] at H;exact (H.ord [1,2]).drop.drop
theorem azB{a d:Nat}{ad:gj}(al:Keyed ad.es)(H:E y (gp a d ad::c) w):L Pg 101 [.pointer (some ⟨a,0,none⟩)] O w fun r I=>E y (row fH 53 3 r (gT ad.es)::gp a d ad::c) I:=by
 obtain⟨b,m,H⟩:=pv H;refine Z9 ?_;unfold OO;refine b2 rfl ?_;refine an (x:=some m) 0 H rfl rfl rfl ?_;refine aE (VF al (H.front 1)) ?_;intro r w H;exact (nw (H.ord [2,1,3,4])).front 1
theorem Gx{a d:Nat}{ad:gj}(H:E y (gp a d ad::c) w):L Pg 50 [.pointer (some ⟨a,0,none⟩)] (D .i64) w fun r I=>r=ad.p∧E y (gp a d ad::c) I:=by
 obtain⟨b,m,H⟩:=pv H;refine aco ?_;unfold QY;refine b2 rfl ?_;refine an (x:=ad.p) 0 H rfl rfl rfl ?_;exact⟨rfl,nw H⟩
theorem WV{a d:Nat}{ad:gj}{b:Int}(dW:ad.ah.j4)(al:Keyed ad.es)(H:E y (gp a d ad::c) w):L Pg 51 [.pointer (some ⟨a,0,none⟩),.int .i64 b] (bJ O (D .i64)) w fun r I=>r.2=(h5 ad b).2∧((h5 ad b).2=0→E y (row fH 53 3 r.1 (gT ad.es)::gp a d (h5 ad b).1::c) I)∧((h5 ad b).2≠0→r.1=er∧E y (gp a d (h5 ad b).1::c) I):=by
 refine acp ?_;unfold QZ h5;refine aE (ZU H) ?_;rintro r w ⟨rfl,H⟩;by_cases hw:oI ad b≠0
 ·rw[if_pos hw,if_pos (by simpa using hw)];exact⟨rfl,fun h=>absurd h hw,fun _=>⟨rfl,H⟩⟩
 ·rw[if_neg hw,if_neg (by simpa using hw)];have qu:kf b=true:=by
   unfold oI at hw;cases h:kf b with
   |true=>rfl
   |false=>rw[h] at hw; simp at hw
  refine b2 rfl ?_;obtain⟨gR,m,H⟩:=pv H;refine an (x:=ad.p) 0 H rfl rfl rfl ?_;have H:=nw H;have fin:∀ (BC:gj) (w:World),BC.es=ad.es→E y (gp a d BC::c) w→Bl (some ⟨a,0,none⟩) w fun r I=>r.2=0∧((0:Int)=0→E y (row fH 53 3 r.1 (gT ad.es)::gp a d BC::c) I)∧((0:Int)≠0→r.1=er∧E y (gp a d BC::c) I):=by
   intro BC w he H;unfold Bl;refine aE (azB (by rw[he]; exact al) H) ?_;intro r w H;rw[he] at H;exact⟨rfl,fun _=>H,fun h=>absurd rfl h⟩
  by_cases aH:ad.p<b
  ·rw[if_pos aH,if_pos (by simpa using aH)];refine sE H fun Jj w H=>?_;have H:=rz (ao:=5) (m:=2) rfl H;refine aE (Vr (r:=.prom b) dW qu (c0.row (fun _=>rfl) 0 rfl) (H.front 1)) ?_;rintro e w ⟨rfl,H⟩;have H:=(H.front 1).drop;by_cases aj:(eZ ad (.prom b)).2≠0
   ·rw[if_pos aj,if_pos (by simpa using aj)];exact⟨rfl,fun h=>absurd h aj,fun _=>⟨rfl,H⟩⟩
   ·rw[if_neg aj,if_neg (by simpa using aj)];obtain⟨gR,m,H⟩:=pv H;refine eg (x:=b) 0 H rfl rfl (Nat.le_of_ble_eq_true rfl) fun w H=>?_;exact fin { (eZ ad (.prom b)).1 with p:=b } w rfl (nw (ad:={ (eZ ad (.prom b)).1 with p:=b }) H)
  ·rw[if_neg aH,if_neg (by simpa using aH)];exact fin ad w rfl H
theorem adW{a d:Nat}{ad:gj}{b n:Int}{v:List UInt8}(dW:ad.ah.j4)(H:E y (gp a d ad::c) w):L Pg 117 [.pointer (some ⟨a,0,none⟩),.int .i64 b,.int .i64 n,.string ⟨v.toArray⟩] (D .i64) w fun r I=>r=(mN ad b n v).2∧E y (gp a d (mN ad b n v).1::c) I:=by
 refine aam ?_;unfold HN mN;refine aE (ZU H) ?_;rintro r w ⟨rfl,H⟩;refine b2 rfl ?_;obtain⟨gR,m,H⟩:=pv H;refine an (x:=some m) 0 H rfl rfl rfl ?_;refine iV 1 H rfl rfl ?_;refine cj H fun Jj w H=>?_;refine fb (x:=hf) (N:=(ad.es.lookup n).getD hf) CZ 0 H rfl fun w H=>?_;have H:=nw (H.ord [1,2,3,4]);by_cases u7:oI ad b=231
 ·rw[if_pos (by simp[u7]),if_pos u7];exact⟨u7,(H.front 1).drop⟩
 ·rw[if_neg (by simpa using u7),if_neg u7];refine aE (YM H) ?_;rintro r w ⟨rfl,H⟩;by_cases aF:tH n=false
  ·rw[if_pos (by simp[aF]),if_pos aF];exact⟨rfl,(H.front 1).drop⟩
  ·rw[if_neg (by simpa using aF),if_neg aF];by_cases ax:1000<v.length
   ·rw[if_pos (by simp; omega),if_pos ax];exact⟨rfl,(H.front 1).drop⟩
   ·rw[if_neg (by simp; omega),if_neg ax];by_cases hw:oI ad b≠0
    ·rw[if_pos (by simpa using hw),if_pos hw];exact⟨rfl,(H.front 1).drop⟩
    ·rw[if_neg (by simpa using hw),if_neg hw];have qu:kf b=true:=by
      unfold oI at hw;cases h:kf b with
      |true=>rfl
      |false=>rw[h] at hw; simp at hw
     have u6:kN (.acc b n v):=⟨qu,by simpa using aF,by omega⟩
     have fin:∀ (w:World),E y (aN Jj (fH.cells ((ad.es.lookup n).getD hf)) 53::gp a d ad::c) w →
       pI 133 gG [(⟨(1:Int),(2:Int),(0:Int),(0:Nat),([]:List UInt8)⟩:dp),(⟨(2:Int),(0:Int),b,(0:Nat),([]:List UInt8)⟩:dp),(⟨(2:Int),(0:Int),n,(0:Nat),([]:List UInt8)⟩:dp),(⟨(4:Int),(0:Int),(0:Int),(0:Nat),v⟩:dp)] w fun ul e9=>
       L Pg 100 [.pointer (some ⟨a,0,none⟩),O.enc ((⟨some ul,4,4⟩:X))] (D .i64) e9 fun ca fc=>
       if (ca==(0:Int))=true then (
        L Pg 135 [.pointer (some ⟨a,0,none⟩),fH.enc ((⟨n,b,v⟩:dd))] cJ fc fun a3 gw=>
        xh ca gw fun r I=>r=(if (eZ ad (.acc b n v)).2=0 then (pn (eZ ad (.acc b n v)).1 ⟨n,b,v⟩,(0:Int)) else eZ ad (.acc b n v)).2∧E y (gp a d (if (eZ ad (.acc b n v)).2=0 then (pn (eZ ad (.acc b n v)).1 ⟨n,b,v⟩,(0:Int)) else eZ ad (.acc b n v)).1::c) I
       ) else (
        xh ca fc fun r I=>r=(if (eZ ad (.acc b n v)).2=0 then (pn (eZ ad (.acc b n v)).1 ⟨n,b,v⟩,(0:Int)) else eZ ad (.acc b n v)).2∧E y (gp a d (if (eZ ad (.acc b n v)).2=0 then (pn (eZ ad (.acc b n v)).1 ⟨n,b,v⟩,(0:Int)) else eZ ad (.acc b n v)).1::c) I
       ):=by
      intro w H;unfold xh;refine sE H fun aAy w H=>?_;have H:=rz (ao:=5) (m:=4) rfl H;refine aE (Vr (r:=.acc b n v) dW u6 (c0.row (fun _=>rfl) 0 rfl) (H.front 2)) ?_;rintro e w ⟨rfl,H⟩;have H:=(H.ord [1,2]).drop.drop;by_cases aj:(eZ ad (.acc b n v)).2=0
      ·rw[if_pos (by simp[aj]),if_pos aj];refine aE (Zx (x:=⟨n,b,v⟩) H) ?_;intro r w H;exact⟨aj,H⟩
      ·rw[if_neg (by simpa using aj),if_neg aj];exact⟨rfl,H⟩
     have H:=H.front 1;cases jc:ad.es.lookup n with
     |none=>
      rw[jc] at H fin;refine aQ 0 (fun h=>by cases h) ?_;refine aQ [] (fun h=>by simp at h) ?_;rw[if_neg (by simp)];refine aQ 0 (fun h=>by cases h) ?_;rw[if_neg (by simp)];exact fin w H
     |some A=>
      rw[jc] at H fin;refine aQ A.ai (fun _=>cW (D .i64) H rfl rfl) ?_;refine aQ A.V (fun _=>cW dT H rfl rfl) ?_;by_cases gz:A.ai=b
      ·simp only[gz,if_true];by_cases lT:A.V=v
       ·rw[if_neg (by simp[lT]),if_pos lT];refine aQ A.ai (fun _=>cW (D .i64) H rfl rfl) ?_;rw[if_pos (by simp[gz])];exact⟨rfl,H.drop⟩
       ·rw[if_pos (by simpa using lT),if_neg lT];exact⟨rfl,H.drop⟩
      ·rw[if_neg (by simp[gz])];refine aQ A.ai (fun _=>cW (D .i64) H rfl rfl) ?_;rw[if_neg (by simp[gz])];simp only[gz,if_false];exact fin w H
end
def gj.set(ad:gj)(s:Int×fV):gj:={ ad with p:=s.1,es:=s.2 }
section
variable {y w:World} {c bx:List bt}
theorem axG{a d:Nat}{ad:gj}{q:X}{r:Rec}(Z:kN r)(lU:q.len≤q.cap)(k:c0 1 c (D .u8) q (ai (fY r)))(H:E y (gp a d ad::c) w) :
  L Pg 97 [.pointer (some ⟨a,0,none⟩),O.enc q] bi w fun t I=>t=true∧E y (gp a d (ad.set (g1 (ad.p,ad.es) r))::c) I:=by
 have F:=zU Z;refine ac9 ?_;unfold IS;refine aE (Zj lU (by omega) k.tail H) ?_;rintro⟨qG,l2,GA⟩ w ⟨B,J,H⟩;rw[Zh Z] at B J H;simp only at B J H;subst B; subst J;have aj:=ho H;cases r with
 |prom b=>
  simp only[oE,List.length_cons,List.length_nil] at aj H;obtain⟨iL,am⟩:=ih (i:=0) H (by omega) (by simp);obtain⟨dM,B⟩:=ih (i:=1) H (by omega) (by simp);simp only[aj];refine aQ iL (fun _=>am) ?_;refine aQ 1 (fun _=>iz (x:=(⟨1,1,0,0,[]⟩:dp)) (cc:=D .i64) (fun _=>rfl) am rfl rfl H) ?_;refine aQ dM (fun _=>B) ?_;refine aQ 2 (fun _=>iz (x:=(⟨2,0,b,0,[]⟩:dp)) (cc:=D .i64) (fun _=>rfl) B rfl rfl H) ?_;rw[if_neg (by simp)];refine aQ dM B ?_;refine aQ b (iz (x:=(⟨2,0,b,0,[]⟩:dp)) (cc:=D .i64) (fun _=>rfl) B rfl rfl H) ?_;refine aE (Mn H) ?_;rintro t w ⟨rfl,H⟩;rw[show kf b=true from Z];unfold zu;rw[if_neg (by simp)];simp only[aj];refine aQ iL (fun _=>am) ?_;refine aQ 1 (fun _=>iz (x:=(⟨1,1,0,0,[]⟩:dp)) (cc:=D .u64) (fun _=>rfl) am rfl rfl H) ?_;rw[if_pos (by simp)];refine dH H fun w H=>?_;refine b2 rfl ?_;refine aQ dM B ?_;obtain⟨gR,m,H⟩:=pv (H.front 1);refine an (x:=ad.p) 0 H rfl rfl rfl ?_
  refine aQ b (iz (x:=(⟨2,0,b,0,[]⟩:dp)) (cc:=D .i64) (fun _=>rfl) B rfl rfl (H.front 4)) ?_;refine eg (x:=max ad.p b) 0 H rfl rfl (Nat.le_of_ble_eq_true rfl) fun w H=>?_;exact⟨by trivial,nw (ad:=ad.set (g1 (ad.p,ad.es) (.prom b))) ((H.ord [4]).drop)⟩
 |acc b n v=>
  simp only[oE,List.length_cons,List.length_nil] at aj H;obtain⟨iL,am⟩:=ih (i:=0) H (by omega) (by simp);obtain⟨dM,B⟩:=ih (i:=1) H (by omega) (by simp);obtain⟨aY,J⟩:=ih (i:=2) H (by omega) (by simp);obtain⟨aI,au⟩:=ih (i:=3) H (by omega) (by simp);simp only[aj];refine aQ iL (fun _=>am) ?_;refine aQ 1 (fun _=>iz (x:=(⟨1,2,0,0,[]⟩:dp)) (cc:=D .i64) (fun _=>rfl) am rfl rfl H) ?_;refine aQ dM (fun _=>B) ?_;refine aQ 2 (fun _=>iz (x:=(⟨2,0,b,0,[]⟩:dp)) (cc:=D .i64) (fun _=>rfl) B rfl rfl H) ?_;rw[if_neg (by simp)];refine aQ dM B ?_;refine aQ b (iz (x:=(⟨2,0,b,0,[]⟩:dp)) (cc:=D .i64) (fun _=>rfl) B rfl rfl H) ?_;refine aE (Mn H) ?_;rintro t w ⟨rfl,H⟩;rw[show kf b=true from Z.1];unfold zu;rw[if_neg (by simp)];simp only[aj];refine aQ iL (fun h=>by simp at h) ?_;refine aQ 2 (fun h=>by simp at h) ?_;rw[if_neg (by simp)];refine aQ iL (fun _=>am) ?_
  refine aQ 2 (fun _=>iz (x:=(⟨1,2,0,0,[]⟩:dp)) (cc:=D .u64) (fun _=>rfl) am rfl rfl H) ?_;refine aQ aY (fun _=>J) ?_;refine aQ 2 (fun _=>iz (x:=(⟨2,0,n,0,[]⟩:dp)) (cc:=D .i64) (fun _=>rfl) J rfl rfl H) ?_;rw[if_pos (by simp)];refine aQ aY J ?_;refine aQ n (iz (x:=(⟨2,0,n,0,[]⟩:dp)) (cc:=D .i64) (fun _=>rfl) J rfl rfl H) ?_;refine aE (YM H) ?_;rintro t w ⟨rfl,H⟩;rw[show tH n=true from Z.2.1];unfold Bv;refine aQ aI (fun _=>au) ?_;refine aQ 4 (fun _=>iz (x:=(⟨4,0,0,0,v⟩:dp)) (cc:=D .i64) (fun _=>rfl) au rfl rfl H) ?_;rw[if_pos (by simp)];refine dH H fun w H=>?_;have f2:∀ {w:World} {c:List bt},E y (row gG 133 5 qG [(⟨1,2,0,0,[]⟩:dp),⟨2,0,b,0,[]⟩,⟨2,0,n,0,[]⟩,⟨4,0,0,0,v⟩]::c) w→M (D .i64) (aY.add 2) w n∧M (D .i64) (dM.add 2) w b∧M dT (aI.add 4) w v:=fun H=>
   ⟨iz (x:=(⟨2,0,n,0,[]⟩:dp)) (cc:=D .i64) (fun _=>rfl) J rfl rfl H,iz (x:=(⟨2,0,b,0,[]⟩:dp)) (cc:=D .i64) (fun _=>rfl) B rfl rfl H,iz (x:=(⟨4,0,0,0,v⟩:dp)) (cc:=dT) (fun _=>rfl) au rfl rfl H⟩
  obtain⟨cD,dC,fx⟩:=f2 H;refine aQ aY J ?_;refine aQ dM B ?_;refine aQ aI au ?_;refine aQ n cD ?_;refine aQ b dC ?_;refine aQ v fx ?_;refine aE (Zx (x:=⟨n,b,v⟩) (H.front 1)) ?_;intro t w H;obtain⟨cD,dC,fx⟩:=f2 (H.front 1);exact⟨cD,dC,fx,rfl,(H.front 1).drop⟩
theorem MB{d:Nat}{ah:eQ}{n:Int}{g:eW}{af:List Rec}(dW:ah.j4)(am:0≤n)(wo:ah.down=false)(ae:ah.e_[n.toNat]?=some g)(aj:(scan g.b).1=af.map fY)(Z:∀ r∈af,kN r)(hm:(fR ah n g).2=0)(H:E y (fi d ah::c) w) :
  L Pg 46 [.pointer (some ⟨d,0,none⟩),.int .i64 n] (bJ aM (D .i64)) w fun r I=>r.2=0∧∃ a:Nat,r.1=some ⟨a,0,none⟩∧E y (gp a d ⟨(fR ah n g).1,⟨af.length,af.length,n,false⟩,(af.foldl g1 (0,[])).1,(af.foldl g1 (0,[])).2⟩::c) I:=by
 refine QT ?_;unfold IB;refine aE (Ws dW am wo ae H) ?_;rintro⟨k8,bs,fT⟩ w ⟨he,B,_⟩;obtain⟨b,dS,aA,H⟩:=B hm;simp only at he aA H;rw[hm] at he;subst he; subst aA;rw[if_neg (by simp)];rw[aj,List.length_map] at H;refine qB H fun m w H=>?_;have H:=qz fH .i64 H;refine cj H fun a w H=>?_;have sw:=ho (H.front 4);have pb:cn [sB dS (af.map fY)] (lj dS (af.map fY)):=cn.here (m:=lj.mono);have KR:dS.length=af.length:=by
  obtain⟨aG,_,b6⟩:=(cn.tail (cn.tail (cn.tail (cn.tail (cn.tail (cn.here (m:=lj.mono))))))).q7 H;have:=b6.1;rw[List.length_map] at this;exact this
 have H:=nw (ad:=⟨(fR ah n g).1,⟨af.length,af.length,n,false⟩,0,[]⟩) H;have re:af.length≤4194304:=by
  have J:af.length=(scan g.b).1.length:=by rw[aj,List.length_map]
  have au:=ayd g.b;have a8:=(dW.log g (List.mem_of_getElem? ae)).2;omega
 refine hU (fun i w=>0≤i∧i≤af.length∧E y (gp a d ⟨(fR ah n g).1,⟨af.length,af.length,n,false⟩,((af.take i.toNat).foldl g1 (0,[])).1,((af.take i.toNat).foldl g1 (0,[])).2⟩::row O 79 1 bs dS::sB dS (af.map fY)::c) w) (fun i=>(af.length-i).toNat)
  ⟨Int.le_refl 0,by omega,H⟩ ?_
 clear H;rintro i w ⟨i0,i1,H⟩ aa b7;unfold IC;simp only;rw[sw,KR];split
 ·rename_i aq;have aq:i<af.length:=by simpa using aq
  have F:af[i.toNat]?=some af[i.toNat]:=List.getElem?_eq_getElem (by omega);have a5:dS[i.toNat]?=some dS[i.toNat]:=List.getElem?_eq_getElem (by omega);have ak:af.take (i.toNat+1)=af.take i.toNat++[af[i.toNat]]:=by rw[List.take_succ_eq_append_getElem (by omega)]
  have lo:af[i.toNat]∈af:=List.getElem_mem _;generalize af[i.toNat]=r at F ak lo;generalize dS[i.toNat]=q at a5;obtain⟨x,Lm⟩:=ih (i:=i) (H.front 1) i0 (by omega);refine aQ x Lm ?_;refine aQ q (lz (T:=O) (fun _=>rfl) Lm a5 (H.front 1)) ?_;have Vi:∀ aG,lj dS (af.map fY) aG→q.len≤q.cap∧dL (D .u8) q (ai (fY r)) aG:=fun aG h=>h.2 i.toNat q (fY r) a5 (by rw[List.getElem?_map,F]; rfl);have wF:cn (row O 79 1 bs dS::sB dS (af.map fY)::c) (dL (D .u8) q (ai (fY r))):=fun aG h bV=>(Vi aG ((cn.tail (cn.here (m:=lj.mono))) aG h bV)).2;have aj2:q.len≤q.cap:=by
   obtain⟨aG,_,b6⟩:=(cn.tail (cn.tail (cn.here (m:=lj.mono)))).q7 H;exact (Vi aG b6).1
  refine aE (axG (Z r lo) aj2 (c0.ro (fun _=>rfl) wF) H) ?_;rintro t w ⟨rfl,H⟩;rw[if_neg (by simp)];have aT:IntKind.i64.wrap (i+1)=i+1:=wrap_i64 (by omega) (by omega);rw[aT];refine b7 _ _ ⟨by omega,by omega,?_⟩ (by omega);have a0:(i+1).toNat=i.toNat+1:=by omega
  rw[a0,ak,List.foldl_append];exact H
 ·rename_i aq;have aq:i=af.length:=by simp at aq; omega
  subst aq;have cS:af.take ((af.length:Int)).toNat=af:=by simp
  rw[cS] at H;exact⟨by trivial,a,rfl,(H.ord [1,2]).drop.drop⟩
end
def fold(af:List Rec):Int×fV:=af.foldl g1 (0,[])
def ed(af:List Rec):List UInt8:=gI (af.map fY)
structure Has(ad:gj)(af:List Rec)(k:Nat):Prop where
 zS:∃ j5,ad.ah=⟨[⟨ed af,(ed (af.take k)).length⟩],j5,false,0,[]⟩
 azL:∃ a b,ad.V=⟨a,b,0,false⟩
 br:(ad.p,ad.es)=fold af
 ok:∀ r∈af,kN r
 le:k≤af.length
theorem VH{af:List Rec}(h:∀ r∈af,kN r):(ed af).length≤4052*af.length:=by
 induction af with
 |nil=>simp[ed,gI]
 |cons r af b8=>
  have B:=b8 fun x F=>h x (by simp[F]);have J:=zU (h r (by simp));have e:ed (r::af)=fv (fY r)++ed af:=by simp[ed,gI]
  rw[e,List.length_append,uB,List.length_cons];omega
theorem LV(a b:List Rec):ed (a++b)=ed a++ed b:=by simp[ed,gI]
theorem VI(af:List Rec)(k:Nat):(ed (af.take k)).length≤(ed af).length:=by
 have:ed af=ed (af.take k)++ed (af.drop k):=by rw[← LV,List.take_append_drop]
 rw[this,List.length_append]; omega
theorem YP{af:List Rec}(h:∀ r∈af,kN r):Small (af.map fY):=by
 intro x F;obtain⟨r,Z,rfl⟩:=List.mem_map.1 F;have:=zU (h r Z);omega
theorem Has.lay{ad:gj}{af:List Rec}{k:Nat}{r:Rec}(h:Has ad af k)(Z:kN r)(aj:af.length≤1000) :
  (eZ ad r).2=0∧(eZ ad r).1.p=ad.p∧(eZ ad r).1.es=ad.es∧(∃ j5,(eZ ad r).1.ah=⟨[⟨ed (af++[r]),(ed ((af++[r]).take k)).length⟩],j5,false,0,[]⟩)∧∃ a b,(eZ ad r).1.V=⟨a,b,0,false⟩:=by
 obtain⟨j5,aC⟩:=h.zS;obtain⟨a,b,ax⟩:=h.azL;have B:=VH h.ok;have J:=zU Z;have jQ:(fv (fY r)).length≤4052:=by rw[uB]; omega
 have J4:n0 ad.ah 0 (fv (fY r))=(⟨[⟨ed af++fv (fY r),(ed (af.take k)).length⟩],IntKind.i64.wrap (j5+1),false,0,[]⟩,0):=by
  unfold n0 nv Disk.sizeOf;rw[aC];simp;omega
 have ah1:rT ad.ah ad.V (fY r)=(⟨[⟨ed af++fv (fY r),(ed (af.take k)).length⟩],IntKind.i64.wrap (j5+1),false,0,[]⟩,⟨IntKind.i64.wrap (a+1),b,0,false⟩,0):=by
  unfold rT;rw[ax];simp only[J4];rw[if_neg (by simp),if_neg (by omega)];simp
 unfold eZ;rw[ah1];have aT:ed (af++[r])=ed af++fv (fY r):=by rw[LV]; simp[ed,gI]
 have a0:(af++[r]).take k=af.take k:=List.take_append_of_le_length h.le;rw[aT,a0];exact⟨rfl,rfl,rfl,⟨_,rfl⟩,_,_,rfl⟩
def jZ(af:List Rec)(b:Int):Int:=if kf b=false then 231 else if b<(fold af).1 then 234 else 0
def oc(af:List Rec)(b:Int):List Rec×Int:=if jZ af b≠0 then (af,jZ af b) else if (fold af).1<b then (af++[.prom b],0) else (af,0)
def lK(af:List Rec)(b n:Int)(v:List UInt8):List Rec×Int:=
 if jZ af b=231 then (af,231) else if tH n=false then (af,232) else if 1000<v.length then (af,233) else if jZ af b≠0 then (af,jZ af b)
 else match (fold af).2.lookup n with
  |some A=>if A.ai=b then (if A.V=v then (af,0) else (af,235)) else (af++[.acc b n v],0)
  |none=>(af++[.acc b n v],0)
theorem xT(af:List Rec)(r:Rec):fold (af++[r])=g1 (fold af) r:=by simp[fold]
theorem Has.Hr{ad:gj}{af:List Rec}{k:Nat}(h:Has ad af k)(b:Int):oI ad b=jZ af b:=by
 have:=congrArg Prod.fst h.br;simp only at this;unfold oI jZ;rw[this]
theorem Has.acc{ad:gj}{af:List Rec}{k:Nat}(h:Has ad af k)(aj:af.length≤1000)(b n:Int)(v:List UInt8):Has (mN ad b n v).1 (lK af b n v).1 k∧(mN ad b n v).2=(lK af b n v).2:=by
 have aH:=congrArg Prod.fst h.br;have he:=congrArg Prod.snd h.br;simp only at aH he;unfold mN lK;rw[h.Hr b];by_cases B:jZ af b=231
 ·rw[if_pos B,if_pos B]; exact⟨h,rfl⟩
 ·rw[if_neg B,if_neg B];by_cases J:tH n=false
  ·rw[if_pos J,if_pos J]; exact⟨h,rfl⟩
  ·rw[if_neg J,if_neg J];by_cases au:1000<v.length
   ·rw[if_pos au,if_pos au]; exact⟨h,rfl⟩
   ·rw[if_neg au,if_neg au];by_cases hw:jZ af b≠0
    ·rw[if_pos hw,if_pos hw]; exact⟨h,rfl⟩
    ·rw[if_neg hw,if_neg hw];have qu:kf b=true:=by
      unfold jZ at hw;cases aO:kf b with
      |true=>rfl
      |false=>rw[aO] at hw; simp at hw
     have u6:kN (.acc b n v):=⟨qu,by simpa using J,by omega⟩
     obtain⟨cD,dC,fx,jO,q_⟩:=h.lay u6 aj;have lp:Has (pn (eZ ad (.acc b n v)).1 ⟨n,b,v⟩) (af++[.acc b n v]) k:=by
      refine⟨jO,q_,?_,?_,?_⟩
      ·rw[xT];simp only[g1,pn];rw[dC,fx,aH,he]
      ·intro r Z;rcases List.mem_append.1 Z with Z | Z
       ·exact h.ok r Z
       ·rw[List.mem_singleton.1 Z]; exact u6
      ·have:=h.le; simp; omega
     rw[he];cases (fold af).2.lookup n with
     |none=>
      simp only;rw[if_pos cD];exact⟨lp,rfl⟩
     |some A=>
      simp only;by_cases gz:A.ai=b
      ·rw[if_pos gz,if_pos gz];by_cases lT:A.V=v
       ·rw[if_pos lT,if_pos lT]; exact⟨h,rfl⟩
       ·rw[if_neg lT,if_neg lT]; exact⟨h,rfl⟩
      ·rw[if_neg gz,if_neg gz,if_pos cD];exact⟨lp,rfl⟩
theorem sC{S:Type}{k:Int}{v:S}{e:Int×S}:∀ {es:List (Int×S)},e∈bM k v es→e=(k,v)∨e∈es
 |[],h=>.inl (by simpa[bM] using h)
 |(a,b)::es,h=>by
  unfold bM at h;split at h
  ·rename_i o;rcases List.mem_cons.1 h with h | h
   ·have:a=k:=Eq.symm (by simpa using o);subst this;exact .inl h
   ·exact .inr (List.mem_cons_of_mem _ h)
  ·rcases List.mem_cons.1 h with h | h
   ·exact .inr (by simp[h])
   ·rcases sC h with h | h
    ·exact .inl h
    ·exact .inr (List.mem_cons_of_mem _ h)
theorem rE{S:Type}{k:Int}{v:S}:∀ {es:List (Int×S)},es.length≤(bM k v es).length∧(bM k v es).length≤es.length+1
 |[]=>by simp[bM]
 |(a,b)::es=>by
  have h:=rE (k:=k) (v:=v) (es:=es);unfold bM;split
  ·simp
  ·simp only[List.length_cons]; omega
theorem m6{S:Type}{k:Int}{v:S}:∀ {es:List (Int×S)},es.lookup k=some v→(k,v)∈es
 |[],h=>by simp at h
 |(a,b)::es,h=>by
  by_cases o:k=a
  ·subst o;rw[List.lookup_cons_self] at h;cases h; simp
  ·rw[List.lookup_cons,show (k==a)=false from by simpa using o] at h;exact List.mem_cons_of_mem _ (m6 h)
theorem vm{S:Type}{k:Int}{v:S}:∀ {es:List (Int×S)},(es.map (·.1)).Nodup→(k,v)∈es→es.lookup k=some v
 |[],_,h=>by simp at h
 |(a,b)::es,aC,h=>by
  rw[List.map_cons,List.nodup_cons] at aC;rcases List.mem_cons.1 h with h | h
  ·cases h; rw[List.lookup_cons_self]
  ·have:k≠a:=fun e=>aC.1 (List.mem_map.2 ⟨_,h,e⟩);rw[List.lookup_cons,show (k==a)=false from by simpa using this];exact vm aC.2 h
structure Good(s:Int×fV):Prop where
 dup:(s.2.map (·.1)).Nodup
 ok:∀ e∈s.2,e.2.bm=e.1∧1≤e.1∧e.1≤1000∧1≤e.2.ai∧e.2.ai≤s.1∧e.2.V.length≤1000
 sJ:0≤s.1
 kx:s.1≤1099511627776
def LL(s:Int×fV):Rec→Prop
 |.prom b=>kf b=true∧s.1<b
 |.acc b n v=>kN (.acc b n v)∧s.1≤b∧∀ A,s.2.lookup n=some A→A.ai≠b
def li:Int×fV→List Rec→Prop
 |_,[]=>True
 |s,r::af=>LL s r∧li (g1 s r) af
theorem yq:∀ {a b:List Rec} {s:Int×fV},li s (a++b)↔li s a∧li (a.foldl g1 s) b
 |[],b,s=>by simp[li]
 |r::a,b,s=>by simp[li,yq (a:=a),and_assoc]
theorem Vp{s:Int×fV}{r:Rec}(h:LL s r):kN r:=by
 cases r with
 |prom b=>exact h.1
 |acc b n v=>exact h.1
theorem LO:∀ {af:List Rec} {s:Int×fV},li s af→∀ r∈af,kN r
 |[],_,_,r,h=>by simp at h
 |x::af,s,aj,r,h=>by
  rcases List.mem_cons.1 h with rfl | h
  ·exact Vp aj.1
  ·exact LO aj.2 r h
theorem ahi:Good (0,[]):=⟨by simp,by simp,by simp,by simp⟩
theorem Good.step{s:Int×fV}{r:Rec}(g:Good s)(h:kN r):Good (g1 s r):=by
 cases r with
 |prom b=>
  have aA:=Ax.1 h;refine⟨g.dup,fun e he=>?_,?_,?_⟩
  ·have:=g.ok e he;simp only[g1]; omega
  ·have:=g.sJ;simp only[g1]; omega
  ·have:=g.kx;simp only[g1]; omega
 |acc b n v=>
  have aA:=Ax.1 h.1;have aO:=YL.1 h.2.1;refine⟨qA g.dup,fun e he=>?_,?_,?_⟩
  ·rcases sC he with rfl | he
   ·have:=h.2.2;exact⟨rfl,aO.1,aO.2,aA.1,by simp only[g1]; omega,this⟩
   ·have:=g.ok e he;simp only[g1]; omega
  ·have:=g.sJ;simp only[g1]; omega
  ·have:=g.kx;simp only[g1]; omega
theorem Good.steps:∀ {af:List Rec} {s:Int×fV},Good s→(∀ r∈af,kN r)→Good (af.foldl g1 s)
 |[],_,g,_=>g
 |r::af,s,g,h=>Good.steps (af:=af) (s:=g1 s r) (g.step (h r (by simp))) fun x F=>h x (by simp[F])
theorem JK:∀ {af:List Rec} {s:Int×fV},(af.foldl g1 s).2.length≤s.2.length+af.length
 |[],_=>by simp
 |r::af,s=>by
  have:=JK (af:=af) (s:=g1 s r);have h:(g1 s r).2.length≤s.2.length+1:=by
   cases r with
   |prom b=>simp[g1]
   |acc b n v=>exact rE.2
  simp only[List.foldl_cons,List.length_cons]; omega
theorem Fu{af:List Rec}(h:li (0,[]) af):Good (fold af):=ahi.steps (LO h)
theorem atm{af:List Rec}(h:li (0,[]) af)(aj:af.length≤1000):Keyed (fold af).2:=by
 have:=JK (af:=af) (s:=(0,[]));refine⟨?_,fun e he=>?_⟩
 ·unfold fold; simp only[List.length_nil] at this; omega
 ·have:=(Fu h).ok e he;omega
structure jz(s t:Int×fV):Prop where
 p:s.1≤t.1
 n:s.2.length≤t.2.length
 v:∀ k x,s.2.lookup k=some x→∃ N,t.2.lookup k=some N∧(x.ai<N.ai∨x=N)
theorem jz.refl{s:Int×fV}:jz s s:=⟨Int.le_refl _,Nat.le_refl _,fun k x h=>⟨x,h,.inr rfl⟩⟩
theorem jz.trans{s t u:Int×fV}(h:jz s t)(k:jz t u):jz s u:=⟨Int.le_trans h.p k.p,Nat.le_trans h.n k.n,fun i x F=>by
 obtain⟨N,aJ,B⟩:=h.v i x F;obtain⟨aL,cb,J⟩:=k.v i N aJ;refine⟨aL,cb,?_⟩;rcases B with B | rfl
 ·rcases J with J | rfl
  ·exact .inl (by omega)
  ·exact .inl B
 ·exact J⟩
theorem jz.step{s:Int×fV}{r:Rec}(g:Good s)(h:LL s r):jz s (g1 s r):=by
 cases r with
 |prom b=>exact⟨by simp only[g1]; omega,Nat.le_refl _,fun k x h=>⟨x,h,.inr rfl⟩⟩
 |acc b n v=>
  refine⟨by simp only[g1]; omega,rE.1,fun k x F=>?_⟩;simp only[g1];rw[lZ];by_cases o:k=n
  ·subst o;rw[if_pos (by simp)];refine⟨_,rfl,.inl ?_⟩;have B:=h.2.2 x F;have J:=(g.ok _ (m6 F)).2.2.2.2.1;have au:=h.2.1;simp only at J ⊢;omega
  ·rw[if_neg (by simpa using o)];exact⟨x,F,.inr rfl⟩
theorem jz.steps:∀ {af:List Rec} {s:Int×fV},Good s→li s af→jz s (af.foldl g1 s)
 |[],_,_,_=>jz.refl
 |r::af,s,g,h=>(jz.step g h.1).trans (jz.steps (g.step (Vp h.1)) h.2)
theorem LN{a b:List Rec}(h:li (0,[]) (a++b)):jz (fold a) (fold (a++b)):=by
 have J:=yq.1 h;have:=jz.steps (Fu J.1) J.2;unfold fold at *;rw[List.foldl_append];exact this
theorem LU{s:Int×fV}(g:Good s){x:dd}:x∈gT s.2↔s.2.lookup x.bm=some x:=by
 unfold gT;simp only[List.mem_map];constructor
 ·rintro⟨k,al,rfl⟩;obtain⟨e,he,rfl⟩:=List.mem_map.1 ((hY _).mem_iff.1 al);have h:=vm g.dup he;rw[h];simp only[Option.getD_some];rw[(g.ok e he).1];exact h
 ·intro h;refine⟨x.bm,(hY _).mem_iff.2 (List.mem_map.2 ⟨_,m6 h,rfl⟩),by rw[h]; rfl⟩
theorem VC(es:fV):(gT es).length=es.length:=by
 unfold gT;rw[List.length_map,(hY _).length_eq,List.length_map]
theorem auc{s:Int×fV}(g:Good s){x:dd}(h:x∈gT s.2):1≤x.bm∧x.bm≤1000∧1≤x.ai∧x.ai≤s.1∧x.V.length≤1000:=by
 have:=g.ok _ (m6 ((LU g).1 h));exact⟨this.2.1,this.2.2.1,this.2.2.2.1,this.2.2.2.2.1,this.2.2.2.2.2⟩
theorem WQ{af:List Rec}{b:Int}(h:li (0,[]) af):li (0,[]) (oc af b).1:=by
 unfold oc;split
 ·exact h
 ·rename_i hw;split
  ·rename_i aA;refine yq.2 ⟨h,?_,trivial⟩;refine⟨?_,aA⟩;unfold jZ at hw;cases aO:kf b with
   |true=>rfl
   |false=>rw[aO] at hw; simp at hw
  ·exact h
theorem adR{af:List Rec}{b n:Int}{v:List UInt8}(h:li (0,[]) af):li (0,[]) (lK af b n v).1:=by
 unfold lK;split
 ·exact h
 ·split
  ·exact h
  ·rename_i aF;split
   ·exact h
   ·rename_i ax;split
    ·exact h
    ·rename_i hw;have qu:kf b=true∧(fold af).1≤b:=by
      unfold jZ at hw;cases aO:kf b with
      |true=>
       rw[aO] at hw;simp only[Bool.true_eq_false,if_false] at hw;refine⟨rfl,?_⟩;by_cases o:b<(fold af).1
       ·rw[if_pos o] at hw; simp at hw
       ·omega
      |false=>rw[aO] at hw; simp at hw
     have u6:kN (.acc b n v):=⟨qu.1,by simpa using aF,by omega⟩
     cases aj:(fold af).2.lookup n with
     |none=>
      simp only;refine yq.2 ⟨h,⟨u6,qu.2,fun A ab=>?_⟩,trivial⟩;unfold fold at aj;rw[aj] at ab;cases ab
     |some A=>
      simp only;by_cases gz:A.ai=b
      ·rw[if_pos gz];split<;>exact h
      ·rw[if_neg gz];refine yq.2 ⟨h,⟨u6,qu.2,fun au0 ab=>?_⟩,trivial⟩;unfold fold at aj;rw[aj] at ab;cases ab;exact gz
theorem WP(af:List Rec)(b:Int):∃ e,(oc af b).1=af++e∧e.length≤1:=by
 unfold oc;split
 ·exact⟨[],by simp,by simp⟩
 ·split
  ·exact⟨_,rfl,by simp⟩
  ·exact⟨[],by simp,by simp⟩
theorem adQ(af:List Rec)(b n:Int)(v:List UInt8):∃ e,(lK af b n v).1=af++e∧e.length≤1:=by
 unfold lK;split
 ·exact⟨[],by simp,by simp⟩
 ·split
  ·exact⟨[],by simp,by simp⟩
  ·split
   ·exact⟨[],by simp,by simp⟩
   ·split
    ·exact⟨[],by simp,by simp⟩
    ·split
     ·split
      ·split<;>exact⟨[],by simp,by simp⟩
      ·exact⟨_,rfl,by simp⟩
     ·exact⟨_,rfl,by simp⟩
def iX(es:fV)(x:dd):fV:=match es.lookup x.bm with
 |none=>bM x.bm x es
 |some N=>if N.ai<x.ai then bM x.bm x es else es
theorem MI{es:fV}{x:dd}(h:es.lookup x.bm=none):iX es x=bM x.bm x es:=by unfold iX; rw[h]
theorem MG{es:fV}{x N:dd}(h:es.lookup x.bm=some N)(gz:N.ai<x.ai):iX es x=bM x.bm x es:=by unfold iX; rw[h]; simp only; rw[if_pos gz]
theorem MH{es:fV}{x N:dd}(h:es.lookup x.bm=some N)(gz:¬ N.ai<x.ai):iX es x=es:=by unfold iX; rw[h]; simp only; rw[if_neg gz]
def gM(xs:List dd):fV:=xs.foldl iX []
def IV(n:Int):Prop:=-9223372036854775808≤n∧n≤9223372036854775807
theorem WG{es:fV}{x:dd}{e:Int×dd}(h:e∈iX es x):e=(x.bm,x)∨e∈es:=by
 unfold iX at h;split at h
 ·exact sC h
 ·split at h
  ·exact sC h
  ·exact .inr h
theorem avZ(es:fV)(x:dd):(iX es x).length≤es.length+1:=by
 unfold iX;split
 ·exact rE.2
 ·split
  ·exact rE.2
  ·omega
theorem Gt:∀ {xs:List dd} {es:fV} {e:Int×dd},e∈xs.foldl iX es→(∃ x∈xs,e=(x.bm,x))∨e∈es
 |[],_,_,h=>.inr h
 |x::xs,es,e,h=>by
  rcases Gt (xs:=xs) h with ⟨N,aJ,h⟩ | h
  ·exact .inl ⟨N,by simp[aJ],h⟩
  ·rcases WG h with h | h
   ·exact .inl ⟨x,by simp,h⟩
   ·exact .inr h
theorem MN:∀ {xs:List dd} {es:fV},(xs.foldl iX es).length≤es.length+xs.length
 |[],_=>by simp
 |x::xs,es=>by
  have B:=MN (xs:=xs) (es:=iX es x);have J:=avZ es x;simp only[List.foldl_cons,List.length_cons]; omega
theorem av0{xs:List dd}(h:∀ x∈xs,IV x.bm)(aO:xs.length≤1000000):Keyed (gM xs):=by
 have B:=MN (xs:=xs) (es:=[]);refine⟨by unfold gM; simp at B; omega,fun e he=>?_⟩;rcases Gt he with ⟨x,F,rfl⟩ | he
 ·exact h x F
 ·simp at he
section
variable {y w:World} {c bx:List bt}
theorem av3{q:X}{dS:List X}{lb:List (List dd)}(hR:dS.length=lb.length)(k:c0 1 c O q dS)(wF:∀ (i:Nat) s xs,dS[i]?=some s→lb[i]?=some xs→c0 3 c fH s xs)
  (Z:∀ x∈lb.flatten,IV x.bm) (aO:lb.flatten.length≤1000000) (a5:dS.length≤1000000) (H:E y c w) :
  L Pg 120 [O.enc q] O w fun r I=>E y (row fH 53 3 r (gT (gM lb.flatten))::c) I:=by
 have sw:=k.len H;refine aaq ?_;unfold O4;refine qB H fun m w H=>?_;have H:=qz fH .i64 H;refine hU (fun i w=>0≤i∧i≤dS.length∧E y (bR fH .i64 m (gM (lb.take i.toNat).flatten)::c) w) (fun i=>(dS.length-i).toNat)
  ⟨Int.le_refl 0,by omega,H⟩ ?_
 clear H;rintro i w ⟨i0,i1,H⟩ aa b7;unfold HQ;rw[sw];split
 ·rename_i aq;have aq:i<dS.length:=by simpa using aq
  have F:lb[i.toNat]?=some lb[i.toNat]:=List.getElem?_eq_getElem (by omega);have aF:dS[i.toNat]?=some dS[i.toNat]:=List.getElem?_eq_getElem (by omega);have ak:lb.take (i.toNat+1)=lb.take i.toNat++[lb[i.toNat]]:=by rw[List.take_succ_eq_append_getElem (by omega)]
  have lo:lb[i.toNat]∈lb:=List.getElem_mem _;generalize lb[i.toNat]=xs at F ak lo;generalize dS[i.toNat]=s at aF;have bu:=wF _ _ _ aF F;have sy:xs.length≤1000000:=by
   have:=(List.sublist_flatten_of_mem lo).length_le;omega
  obtain⟨a,ag⟩:=k.tail.jI (i:=i) H i0 aq;refine aQ a ag ?_;refine aQ s (k.tail.rd ag aF H) ?_;have rf:=bu.tail.len H;refine hU (fun l w=>0≤l∧l≤xs.length∧E y (bR fH .i64 m ((xs.take l.toNat).foldl iX (gM (lb.take i.toNat).flatten))::c) w) (fun l=>(xs.length-l).toNat)
   ⟨Int.le_refl 0,by omega,H⟩ ?_
  clear H;rintro l w ⟨as3,jJ,H⟩ tT ql;unfold HR;rw[rf];split
  ·rename_i a7;have a7:l<xs.length:=by simpa using a7
   have aJ:xs[l.toNat]?=some xs[l.toNat]:=List.getElem?_eq_getElem (by omega);have Ug:xs.take (l.toNat+1)=xs.take l.toNat++[xs[l.toNat]]:=by rw[List.take_succ_eq_append_getElem (by omega)]
   generalize xs[l.toNat]=x at aJ Ug;obtain⟨aY,TG⟩:=bu.tail.jI (i:=l) H as3 a7;refine aQ aY TG ?_;refine aQ x (bu.tail.rd TG aJ H) ?_;refine cj H fun R8 w H=>?_;refine fb (x:=hf) (N:=x) CZ 0 H rfl fun w H=>?_;refine an (x:=x.bm) 0 H rfl rfl rfl ?_;refine iV 1 H rfl rfl ?_;refine cj H fun aAz w H=>?_;refine fb (x:=hf) CZ 0 H rfl fun w H=>?_;have aT:IntKind.i64.wrap (l+1)=l+1:=wrap_i64 (by omega) (by omega);have a0:(l+1).toNat=l.toNat+1:=by omega
   have fin:∀ (w:World) (es:fV),es=iX ((xs.take l.toNat).foldl iX (gM (lb.take i.toNat).flatten)) x→E y (bR fH .i64 m es::c) w→tT (IntKind.i64.wrap (l+1)) w:=by
    rintro w es rfl H;rw[aT];refine ql _ _ ⟨by omega,by omega,?_⟩ (by omega);rw[a0,Ug,List.foldl_append];exact H
   refine aQ x.ai (fun _=>cW (D .i64) (H.front 1) rfl rfl) ?_;unfold Ev
   have put:iX ((xs.take l.toNat).foldl iX (gM (lb.take i.toNat).flatten)) x=bM x.bm x ((xs.take l.toNat).foldl iX (gM (lb.take i.toNat).flatten))→ex (M (D .i64) (Addr.add ⟨R8,0,none⟩ 0) w) (fun oL=>
     ex (M fH ⟨R8,0,none⟩ w) fun il=>nb fH .i64 (some m) oL il w fun hA=>tT (IntKind.i64.wrap (l+1)) hA):=by
    intro he;refine an (x:=x.bm) 1 H rfl rfl rfl ?_;refine gV (x:=x) 1 H rfl ?_;refine pd 2 H rfl rfl fun w H=>?_;exact fin w _ he.symm ((H.ord [1,2]).drop.drop)
   cases aj:((xs.take l.toNat).foldl iX (gM (lb.take i.toNat).flatten)).lookup x.bm with
   |none=>
    refine aQ 0 (fun h=>by simp at h) ?_;rw[if_pos (by simp)];exact put (MI aj)
   |some N=>
    rw[aj] at H;refine aQ N.ai (fun _=>cW (D .i64) H rfl rfl) ?_;by_cases gz:N.ai<x.ai
    ·rw[if_pos (by simpa using gz)];exact put (MG aj gz)
    ·rw[if_neg (by simpa using gz)];exact fin w _ (MH aj gz).symm H.drop.drop
  ·rename_i a7;have a7:l=xs.length:=by simp at a7; omega
   subst a7;have aT:IntKind.i64.wrap (i+1)=i+1:=wrap_i64 (by omega) (by omega);have a0:(i+1).toNat=i.toNat+1:=by omega
   have cS:xs.take ((xs.length:Int)).toNat=xs:=by simp
   rw[cS] at H;rw[aT];refine b7 _ _ ⟨by omega,by omega,?_⟩ (by omega);rw[a0,ak,List.flatten_append];unfold gM;rw[List.foldl_append];simp only[List.flatten_cons,List.flatten_nil,List.append_nil];exact H
 ·rename_i aq;have aq:i=dS.length:=by simp at aq; omega
  subst aq;have cS:lb.take ((dS.length:Int)).toNat=lb:=by rw[hR]; simp
  rw[cS] at H;refine aE (VF (av0 Z aO) H) ?_;intro r w H;exact (H.front 1).drop
end
theorem WT{af:List Rec}{b:Int}:(oc af b).2=0↔(1≤b∧b≤1099511627776∧(fold af).1≤b):=by
 have aO:=Ax (b:=b);unfold oc jZ;cases h:kf b with
 |false=>
  simp only[if_true];rw[h] at aO;constructor
  ·intro h; simp at h
  ·rintro⟨B,J,au⟩;have:=aO.2 ⟨B,J⟩;simp at this
 |true=>
  have J:=aO.1 h;simp only[Bool.true_eq_false,if_false];by_cases o:b<(fold af).1
  ·simp[o]<;>omega
  ·simp[o];split<;>simp<;>omega
theorem WS{af:List Rec}{b:Int}(h:(oc af b).2=0):(fold (oc af b).1).1=b:=by
 have B:=WT.1 h;have hw:jZ af b=0:=by
  unfold jZ;rw[Ax.2 ⟨B.1,B.2.1⟩,if_neg (by simp),if_neg (by omega)]
 unfold oc;rw[if_neg (by simp[hw])];by_cases o:(fold af).1<b
 ·rw[if_pos o,xT];simp only[g1]; omega
 ·rw[if_neg o];simp only; omega
theorem adT{af:List Rec}{b n:Int}{v:List UInt8}(aj:li (0,[]) af)(h:(lK af b n v).2=0):(fold af).1≤b∧(fold (lK af b n v).1).1=b:=by
 have am:jZ af b=0:=by
  unfold lK at h;by_cases o:jZ af b=231
  ·rw[if_pos o] at h; simp at h
  ·rw[if_neg o] at h;split at h
   ·simp at h
   ·split at h
    ·simp at h
    ·by_cases o:jZ af b≠0
     ·rw[if_pos o] at h; exact h
     ·omega
 have aH:(fold af).1≤b:=by
  unfold jZ at am;split at am
  ·simp at am
  ·split at am
   ·simp at am
   ·omega
 refine⟨aH,?_⟩;have g:=Fu aj;unfold lK at h ⊢;rw[if_neg (by omega)] at h ⊢;split at h
 ·simp at h
 ·rename_i bF;rw[if_neg bF];split at h
  ·simp at h
  ·rename_i bP;rw[if_neg bP,if_neg (by omega)];rw[if_neg (by omega)] at h;cases jc:(fold af).2.lookup n with
   |none=>
    simp only;rw[xT];simp only[g1]; omega
   |some A=>
    rw[jc] at h;simp only at h ⊢;by_cases rX:A.ai=b
    ·rw[if_pos rX] at h ⊢;have:=(g.ok _ (m6 jc)).2.2.2.2.1;simp only at this;split<;>simp only<;>omega
    ·rw[if_neg rX,xT];simp only[g1]; omega
def j7(p:Nat→Bool)(n:Nat):Nat:=((List.range n).filter p).length
theorem E7(p:Nat→Bool)(n:Nat):j7 p (n+1)=j7 p n+(if p n then 1 else 0):=by
 unfold j7;rw[List.range_succ,List.filter_append,List.length_append];congr 1;by_cases h:p n<;>simp[h]
theorem Sw{p q:Nat→Bool}:∀ {n:Nat},(∀ k,k<n→p k=true→q k=true)→j7 p n≤j7 q n
 |0,_=>by simp[j7]
 |n+1,h=>by
  have b8:=Sw (p:=p) (q:=q) (n:=n) fun k al=>h k (by omega);rw[E7,E7];by_cases aH:p n=true
  ·rw[if_pos aH,if_pos (h n (by omega) aH)]; omega
  ·rw[if_neg aH]; omega
theorem Sv{p q:Nat→Bool}:∀ {n:Nat},(∀ k,k<n→¬ (p k=true∧q k=true))→j7 p n+j7 q n≤n
 |0,_=>by simp[j7]
 |n+1,h=>by
  have b8:=Sv (p:=p) (q:=q) (n:=n) fun k al=>h k (by omega);have aO:=h n (by omega);rw[E7,E7];by_cases aH:p n=true
  ·by_cases a5:q n=true
   ·exact absurd ⟨aH,a5⟩ aO
   ·rw[if_pos aH,if_neg a5]; omega
  ·rw[if_neg aH];split<;>omega
def lk(n:Nat)(p:Nat→Bool):Prop:=n<2*j7 p n
theorem lk.auy{n:Nat}{p q:Nat→Bool}(B:lk n p)(J:lk n q):∃ k,k<n∧p k=true∧q k=true:=by
 apply Classical.byContradiction;intro h;have:=Sv (p:=p) (q:=q) (n:=n) fun k al bV=>h ⟨k,al,bV⟩;unfold lk at B J;omega
theorem lk.mono{n:Nat}{p q:Nat→Bool}(B:lk n p)(h:∀ k,k<n→p k=true→q k=true):lk n q:=by
 have:=Sw h;unfold lk at *;omega
theorem Zw{n:Int}{x:dd}:∀ {af:List Rec} {s:Int×fV},(af.foldl g1 s).2.lookup n=some x→Rec.acc x.ai n x.V∈af∨s.2.lookup n=some x
 |[],_,h=>.inr h
 |r::af,s,h=>by
  rcases Zw (af:=af) (s:=g1 s r) h with h | h
  ·exact .inl (by simp[h])
  ·cases r with
   |prom b=>exact .inr h
   |acc b m v=>
    simp only[g1] at h;rw[lZ] at h;by_cases o:n=m
    ·subst o;rw[if_pos (by simp)] at h;cases h;exact .inl (by simp)
    ·rw[if_neg (by simpa using o)] at h;exact .inr h
theorem adU{af:List Rec}{b n:Int}{v:List UInt8}(h:(lK af b n v).2=0):∃ x,(fold (lK af b n v).1).2.lookup n=some x∧x.ai=b:=by
 unfold lK at h ⊢;split at h
 ·simp at h
 ·rename_i bF;rw[if_neg bF];split at h
  ·simp at h
  ·rename_i bP;rw[if_neg bP];split at h
   ·simp at h
   ·rename_i di;rw[if_neg di];split at h
    ·rename_i hh;exact absurd h hh
    ·rename_i hh;rw[if_neg hh];have new:∃ x:dd,(fold (af++[.acc b n v])).2.lookup n=some x∧x.ai=b:=by
      rw[xT];simp only[g1];rw[lZ,if_pos (by simp)];exact⟨_,rfl,rfl⟩
     cases jc:(fold af).2.lookup n with
     |none=>exact new
     |some A=>
      rw[jc] at h;simp only at h ⊢;by_cases rX:A.ai=b
      ·rw[if_pos rX] at h ⊢;split
       ·exact⟨A,jc,rX⟩
       ·exact⟨A,jc,rX⟩
      ·rw[if_neg rX];exact new
theorem adS{af:List Rec}{b n:Int}{v:List UInt8}{r:Rec}(h:r∈(lK af b n v).1):r∈af∨r=.acc b n v:=by
 unfold lK at h;split at h
 ·exact .inl h
 ·split at h
  ·exact .inl h
  ·split at h
   ·exact .inl h
   ·split at h
    ·exact .inl h
    ·split at h
     ·split at h
      ·split at h<;>exact .inl h
      ·rcases List.mem_append.1 h with h | h
       ·exact .inl h
       ·exact .inr (by simpa using h)
     ·rcases List.mem_append.1 h with h | h
      ·exact .inl h
      ·exact .inr (by simpa using h)
theorem WR{af:List Rec}{b:Int}{r:Rec}(h:r∈(oc af b).1):r∈af∨r=.prom b:=by
 unfold oc at h;split at h
 ·exact .inl h
 ·split at h
  ·rcases List.mem_append.1 h with h | h
   ·exact .inl h
   ·exact .inr (by simpa using h)
  ·exact .inl h
theorem ML:∀ {xs:List dd} {es:fV} {s:Int},(∀ e∈es,e.2.bm=e.1)→(match (xs.foldl iX es).lookup s with
  |none=>es.lookup s=none∧∀ x∈xs,x.bm≠s
  |some N=>N.bm=s∧(N∈xs∨es.lookup s=some N)∧(∀ x∈xs,x.bm=s→x.ai≤N.ai)∧∀ x,es.lookup s=some x→x.ai≤N.ai)
 |[],es,s,h=>by
  simp only[List.foldl_nil];cases aj:es.lookup s with
  |none=>simp
  |some N=>
   have:=h _ (m6 aj);simp only at this;exact⟨this,.inr rfl,by simp,fun x F=>by cases F; exact Int.le_refl _⟩
 |x::xs,es,s,h=>by
  have J:∀ e∈iX es x,e.2.bm=e.1:=by
   intro e he;rcases WG he with rfl | he
   ·rfl
   ·exact h e he
  have b8:=ML (xs:=xs) (es:=iX es x) (s:=s) J;simp only[List.foldl_cons]
  have aH:(iX es x).lookup s=if s=x.bm then (match es.lookup s with
    |none=>some x
    |some N=>if N.ai<x.ai then some x else some N) else es.lookup s:=by
   by_cases o:s=x.bm
   ·subst o;rw[if_pos rfl];cases aj:es.lookup x.bm with
    |none=>rw[MI aj,lZ]; simp
    |some N=>
     by_cases gz:N.ai<x.ai
     ·rw[MG aj gz,lZ]; simp[gz]
     ·rw[MH aj gz,aj]; simp[gz]
   ·rw[if_neg o];cases aj:es.lookup x.bm with
    |none=>rw[MI aj,lZ,if_neg (by simpa using o)]
    |some N=>
     by_cases gz:N.ai<x.ai
     ·rw[MG aj gz,lZ,if_neg (by simpa using o)]
     ·rw[MH aj gz]
  rw[aH] at b8;cases ap:(xs.foldl iX (iX es x)).lookup s with
  |none=>
   rw[ap] at b8;simp only at b8;obtain⟨i1,i2⟩:=b8;by_cases o:s=x.bm
   ·rw[if_pos o] at i1;cases aj:es.lookup s with
    |none=>rw[aj] at i1; simp at i1
    |some N=>
     rw[aj] at i1;simp only at i1;split at i1<;>simp at i1
   ·rw[if_neg o] at i1;refine⟨i1,fun N aJ=>?_⟩;rcases List.mem_cons.1 aJ with rfl | aJ
    ·exact fun e=>o e.symm
    ·exact i2 N aJ
  |some N=>
   rw[ap] at b8;simp only at b8 ⊢;obtain⟨i1,i2,i3,i4⟩:=b8;refine⟨i1,?_,?_,?_⟩
   ·rcases i2 with i2 | i2
    ·exact .inl (by simp[i2])
    ·by_cases o:s=x.bm
     ·rw[if_pos o] at i2;cases aj:es.lookup s with
      |none=>
       rw[aj] at i2;cases i2;exact .inl (by simp)
      |some aL=>
       rw[aj] at i2;simp only at i2;split at i2
       ·cases i2; exact .inl (by simp)
       ·exact .inr i2
     ·rw[if_neg o] at i2;exact .inr i2
   ·intro aL cb he;rcases List.mem_cons.1 cb with rfl | cb
    ·rw[if_pos he.symm] at i4;cases aj:es.lookup s with
     |none=>rw[aj] at i4; exact i4 _ rfl
     |some u=>
      rw[aj] at i4;simp only at i4;by_cases gz:u.ai<aL.ai
      ·rw[if_pos gz] at i4; exact i4 _ rfl
      ·rw[if_neg gz] at i4;have:=i4 _ rfl;omega
    ·exact i3 aL cb he
   ·intro aL cb;by_cases o:s=x.bm
    ·rw[if_pos o,cb] at i4;simp only at i4;by_cases gz:aL.ai<x.ai
     ·rw[if_pos gz] at i4;have:=i4 _ rfl;omega
     ·rw[if_neg gz] at i4;exact i4 _ rfl
    ·rw[if_neg o] at i4;exact i4 aL cb
theorem av1{xs:List dd}{s:Int}(h:(gM xs).lookup s=none):∀ x∈xs,x.bm≠s:=by
 have:=ML (xs:=xs) (es:=[]) (s:=s) (by simp);unfold gM at h;rw[h] at this;exact this.2
theorem MJ{xs:List dd}{s:Int}{N:dd}(h:(gM xs).lookup s=some N):N.bm=s∧N∈xs∧∀ x∈xs,x.bm=s→x.ai≤N.ai:=by
 have:=ML (xs:=xs) (es:=[]) (s:=s) (by simp);unfold gM at h;rw[h] at this;obtain⟨B,J,au,_⟩:=this;exact⟨B,by simpa using J,au⟩
def mB{S:Type}(f:Nat→S)(k:Nat)(v:S):Nat→S:=fun l=>if l=k then v else f l
theorem mC{S:Type}(f:Nat→S)(k:Nat)(v:S):mB f k v k=v:=by simp[mB]
theorem lC{S:Type}{f:Nat→S}{k l:Nat}{v:S}(h:l≠k):mB f k v l=f l:=by simp[mB,h]
theorem aub{es:fV}(aC:(es.map (·.1)).Nodup)(aF:∀ e∈es,e.2.bm=e.1){x:dd}:x∈gT es↔es.lookup x.bm=some x:=by
 unfold gT;simp only[List.mem_map];constructor
 ·rintro⟨k,al,rfl⟩;obtain⟨e,he,rfl⟩:=List.mem_map.1 ((hY _).mem_iff.1 al);have h:=vm aC he;rw[h];simp only[Option.getD_some];rw[aF e he];exact h
 ·intro h;refine⟨x.bm,(hY _).mem_iff.2 (List.mem_map.2 ⟨_,m6 h,rfl⟩),by rw[h]; rfl⟩
theorem MK:∀ {xs:List dd} {es:fV},(es.map (·.1)).Nodup→((xs.foldl iX es).map (·.1)).Nodup
 |[],_,h=>h
 |x::xs,es,h=>by
  refine MK (xs:=xs) (es:=iX es x) ?_;unfold iX;split
  ·exact qA h
  ·split
   ·exact qA h
   ·exact h
theorem Gs{xs:List dd}{x:dd}:x∈gT (gM xs)↔(gM xs).lookup x.bm=some x:=
 aub (MK (by simp)) fun e he=>by
  rcases Gt he with ⟨N,_,rfl⟩ | h
  ·rfl
  ·simp at h
theorem VD{es:fV}(aC:(es.map (·.1)).Nodup)(aF:∀ e∈es,e.2.bm=e.1):(gT es).Pairwise fun x N=>x.bm<N.bm:=by
 unfold gT;rw[List.pairwise_map];refine (DJ aC).imp_of_mem fun {a b} ag aA h=>?_;have f:∀ k,k∈e0 (es.map (·.1))→((es.lookup k).getD hf).bm=k:=by
  intro k al;obtain⟨e,he,rfl⟩:=List.mem_map.1 ((hY _).mem_iff.1 al);rw[vm aC he];exact aF e he
 rw[f a ag,f b aA];exact h
theorem WI(xs:List dd):((gM xs).map (·.1)).Nodup:=MK (by simp)
theorem WH(xs:List dd):∀ e∈gM xs,e.2.bm=e.1:=fun e he=>by
 rcases Gt he with ⟨N,_,rfl⟩ | h
 ·rfl
 ·simp at h
end Ballot
namespace dO
open ba Wire Disk Ballot
structure bN where
 af:Nat→List Rec
 gU:Nat→Nat
 said:Int→Nat→Bool
 e2:Int→Int→Bool
 value:Int→Int→List UInt8
 e1:Int→Int→Nat→Bool
 hF:Int→Bool
 lL:Int→List UInt8
def bN.sure(K:bN)(k:Nat):Int×fV:=fold ((K.af k).take (K.gU k))
def bN.now(K:bN)(k:Nat):Int×fV:=fold (K.af k)
def own(n:Nat)(b:Int):Nat:=(b%(n:Int)).toNat
structure Inv(n:Nat)(K:bN):Prop where
 lr:∀ k,li (0,[]) (K.af k)∧K.gU k≤(K.af k).length
 hb:∀ k b m v,Rec.acc b m v∈K.af k→K.e2 b m=true∧K.value b m=v
 said:∀ b k,K.said b k=true→k<n∧b≤(K.sure k).1
 e1:∀ b s k,K.e1 b s k=true→k<n∧K.e2 b s=true∧∃ x,(K.sure k).2.lookup s=some x∧b≤x.ai
 yE:∀ b s,K.e2 b s=true→1≤b∧b≤(K.sure (own n b)).1
 slot:∀ b s,K.e2 b s=true→1≤s∧s≤1000∧(K.value b s).length≤1000
 safe:∀ b s dw,K.e2 b s=true→dw<b→(K.e2 dw s=true∧K.value dw s=K.value b s)∨∃ o,dw<o∧lk n fun k=>K.said o k&&!K.e1 dw s k
 one:∀ s,K.hF s=true→∃ b,K.e2 b s=true∧K.lL s=K.value b s∧lk n fun k=>K.e1 b s k
structure gE(K bj:bN):Prop where
 fix:∀ b s,K.e2 b s=true→bj.e2 b s=true∧bj.value b s=K.value b s
 hF:∀ s,K.hF s=true→bj.hF s=true∧bj.lL s=K.lL s
 said:∀ b k,K.said b k=true→bj.said b k=true
 e1:∀ b s k,K.e1 b s k=true→bj.e1 b s k=true
 new:∀ b s k,bj.e1 b s k=true→K.e1 b s k=true∨∀ o,K.said o k=true→o≤b
 sure:∀ k,(K.sure k).1≤(bj.sure k).1
theorem gE.refl(K:bN):gE K K:=⟨fun _ _ h=>⟨h,rfl⟩,fun _ h=>⟨h,rfl⟩,fun _ _ h=>h,fun _ _ _ h=>h,fun _ _ _ h=>.inl h,fun _=>Int.le_refl _⟩
theorem gE.trans{K bj uj:bN}(h:gE K bj)(k:gE bj uj):gE K uj:=by
 refine⟨fun b s e=>?_,fun s e=>?_,fun b l e=>k.said b l (h.said b l e),fun b s l e=>k.e1 b s l (h.e1 b s l e),fun b s l e=>?_,fun l=>Int.le_trans (h.sure l) (k.sure l)⟩
 ·have B:=h.fix b s e;have J:=k.fix b s B.1;exact⟨J.1,J.2.trans B.2⟩
 ·have B:=h.hF s e;have J:=k.hF s B.1;exact⟨J.1,J.2.trans B.2⟩
 ·rcases k.new b s l e with B | B
  ·exact h.new b s l B
  ·exact .inr fun o W=>B o (h.said o l W)
theorem Inv.GZ{n:Nat}{K:bN}(h:Inv n K)(k:Nat):jz (K.sure k) (K.now k):=by
 have aj:=(h.lr k).1;have:=LN (a:=(K.af k).take (K.gU k)) (b:=(K.af k).drop (K.gU k)) (by rw[List.take_append_drop]; exact aj);rw[List.take_append_drop] at this;exact this
theorem Inv.Ft{n:Nat}{K:bN}(h:Inv n K)(k:Nat):Ballot.Good (K.now k):=Fu (h.lr k).1
def bN.hb(K:bN)(k:Nat)(iF:List Rec)(nm:Nat):bN:={ K with af:=mB K.af k iF,gU:=mB K.gU k nm }
theorem Yh(K:bN)(k:Nat)(iF:List Rec)(nm:Nat):(K.hb k iF nm).sure k=fold (iF.take nm):=by
 unfold bN.sure bN.hb;simp only[mC]
theorem Yi(K:bN){k l:Nat}(iF:List Rec)(nm:Nat)(h:l≠k):(K.hb k iF nm).sure l=K.sure l:=by
 unfold bN.sure bN.hb;simp only[lC h]
theorem axF{K:bN}{k:Nat}{iF:List Rec}{nm:Nat}(k6:jz (K.sure k) (fold (iF.take nm)))(l:Nat):jz (K.sure l) ((K.hb k iF nm).sure l):=by
 by_cases o:l=k
 ·subst o;rw[Yh]; exact k6
 ·rw[Yi K iF nm o]; exact jz.refl
theorem Inv.Yg{n:Nat}{K:bN}(h:Inv n K){k:Nat}{iF:List Rec}{nm:Nat}(aj:li (0,[]) iF)(aF:nm≤iF.length)
  (k6:jz (K.sure k) (fold (iF.take nm))) (Z:∀ b m v,Rec.acc b m v∈iF→K.e2 b m=true∧K.value b m=v) :
  Inv n (K.hb k iF nm)∧gE K (K.hb k iF nm):=by
 have sure:=axF (K:=K) (k:=k) (iF:=iF) (nm:=nm) k6;refine⟨⟨fun l=>?_,fun l b m v hm=>?_,fun b l a7=>?_,fun b s l a7=>?_,fun b s ap=>?_,h.slot,h.safe,h.one⟩,fun _ _ e=>⟨e,rfl⟩,fun _ e=>⟨e,rfl⟩,fun _ _ e=>e,fun _ _ _ e=>e,fun _ _ _ e=>.inl e,fun l=>(sure l).p⟩
 ·by_cases o:l=k
  ·subst o;simp only[bN.hb,mC];exact⟨aj,aF⟩
  ·simp only[bN.hb,lC o];exact h.lr l
 ·by_cases o:l=k
  ·subst o;simp only[bN.hb,mC] at hm;exact Z b m v hm
  ·simp only[bN.hb,lC o] at hm;exact h.hb l b m v hm
 ·have:=h.said b l a7;exact⟨this.1,Int.le_trans this.2 (sure l).p⟩
 ·obtain⟨B,J,x,au,a8⟩:=h.e1 b s l a7;obtain⟨N,aJ,b_⟩:=(sure l).v s x au;refine⟨B,J,N,aJ,?_⟩;rcases b_ with b_ | rfl
  ·omega
  ·exact a8
 ·have:=h.yE b s ap;exact⟨this.1,Int.le_trans this.2 (sure _).p⟩
def bN.sync(K:bN)(k:Nat)(dy:List Int)(fW:List (Int×Int)):bN:=
 { K with gU:=mB K.gU k (K.af k).length,said:=fun b l=>K.said b l||(l==k&&dy.contains b),e1:=fun b s l=>K.e1 b s l||(l==k&&fW.contains (b,s)) }
theorem G0(K:bN)(k:Nat)(dy:List Int)(fW:List (Int×Int)):(K.sync k dy fW).sure k=K.now k:=by
 unfold bN.sure bN.sync bN.now;simp only[mC,List.take_length]
theorem ay4(K:bN){k l:Nat}(dy:List Int)(fW:List (Int×Int))(h:l≠k):(K.sync k dy fW).sure l=K.sure l:=by
 unfold bN.sure bN.sync;simp only[lC h]
theorem Inv.ay2{n:Nat}{K:bN}(h:Inv n K){k:Nat}(al:k<n){dy:List Int}{fW:List (Int×Int)}(aH:∀ b∈dy,b≤(K.now k).1)
  (ag:∀ a∈fW,K.e2 a.1 a.2=true∧(∃ x,(K.now k).2.lookup a.2=some x∧a.1≤x.ai)∧∀ o,K.said o k=true→o≤a.1) :
  Inv n (K.sync k dy fW)∧gE K (K.sync k dy fW):=by
 have sure:∀ l,jz (K.sure l) ((K.sync k dy fW).sure l):=by
  intro l;by_cases o:l=k
  ·subst o;rw[G0]; exact h.GZ l
  ·rw[ay4 K dy fW o]; exact jz.refl
 have new:∀ b s l,(K.sync k dy fW).e1 b s l=true→K.e1 b s l=true∨(l=k∧(b,s)∈fW):=by
  intro b s l e;simp only[bN.sync,Bool.or_eq_true,Bool.and_eq_true,beq_iff_eq,List.contains_iff_mem] at e;exact e
 have auM:∀ b l,(K.sync k dy fW).said b l=true→K.said b l=true∨(l=k∧b∈dy):=by
  intro b l e;simp only[bN.sync,Bool.or_eq_true,Bool.and_eq_true,beq_iff_eq,List.contains_iff_mem] at e;exact e
 have said:∀ b l,K.said b l=true→(K.sync k dy fW).said b l=true:=fun b l e=>by simp only[bN.sync,e,Bool.true_or]
 have e1:∀ b s l,K.e1 b s l=true→(K.sync k dy fW).e1 b s l=true:=fun b s l e=>by simp only[bN.sync,e,Bool.true_or]
 refine⟨⟨fun l=>⟨(h.lr l).1,?_⟩,h.hb,fun b l a7=>?_,fun b s l a7=>?_,fun b s ap=>?_,h.slot,fun b s dw ap cA=>?_,fun s aq=>?_⟩,fun _ _ e=>⟨e,rfl⟩,fun _ e=>⟨e,rfl⟩,said,e1,fun b s l e=>?_,fun l=>(sure l).p⟩
 ·show mB K.gU k (K.af k).length l≤(K.af l).length
  by_cases o:l=k
  ·subst o;rw[mC]; exact Nat.le_refl _
  ·rw[lC o]; exact (h.lr l).2
 ·rcases auM b l a7 with a0 | ⟨rfl,a0⟩
  ·have:=h.said b l a0;exact⟨this.1,Int.le_trans this.2 (sure l).p⟩
  ·rw[G0];exact⟨al,aH b a0⟩
 ·rcases new b s l a7 with a0 | ⟨rfl,a0⟩
  ·obtain⟨B,J,x,au,a8⟩:=h.e1 b s l a0;obtain⟨N,aJ,b_⟩:=(sure l).v s x au;refine⟨B,J,N,aJ,?_⟩;rcases b_ with b_ | rfl
   ·omega
   ·exact a8
  ·obtain⟨B,J,_⟩:=ag _ a0;rw[G0];exact⟨al,B,J⟩
 ·have:=h.yE b s ap;exact⟨this.1,Int.le_trans this.2 (sure _).p⟩
 ·rcases h.safe b s dw ap cA with B | ⟨o,B,J⟩
  ·exact .inl B
  ·refine .inr ⟨o,B,J.mono fun l _ a7=>?_⟩;simp only[Bool.and_eq_true,Bool.not_eq_true'] at a7 ⊢;refine⟨said o l a7.1,?_⟩;cases e:(K.sync k dy fW).e1 dw s l with
   |false=>rfl
   |true=>
    rcases new dw s l e with a0 | ⟨rfl,a0⟩
    ·rw[a0] at a7;exact absurd a7.2 (by simp)
    ·have:=(ag _ a0).2.2 o a7.1;simp only at this;omega
 ·obtain⟨b,B,J,au⟩:=h.one s aq;exact⟨b,B,J,au.mono fun l _ e=>e1 b s l e⟩
 ·rcases new b s l e with a0 | ⟨rfl,a0⟩
  ·exact .inl a0
  ·exact .inr (ag _ a0).2.2
def s8(K:bN)(b:Int)(k:Nat)(c:List dd):Prop:=
 K.said b k=true∧(∀ x∈c,x.ai≤b∧K.e2 x.ai x.bm=true∧K.value x.ai x.bm=x.V)∧(∀ dw s,K.e1 dw s k=true→dw<b→∃ x∈c,x.bm=s∧dw≤x.ai)∧c.length≤1000
theorem s8.le{K bj:bN}{b:Int}{k:Nat}{c:List dd}(h:s8 K b k c)(e:gE K bj):s8 bj b k c:=by
 refine⟨e.said b k h.1,fun x F=>?_,fun dw s ak cA=>?_,h.2.2.2⟩
 ·obtain⟨B,J,au⟩:=h.2.1 x F;have:=e.fix _ _ J;exact⟨B,this.1,this.2.trans au⟩
 ·rcases e.new dw s k ak with ak | aO
  ·exact h.2.2.1 dw s ak cA
  ·have:=aO b h.1;omega
def rO(n:Nat)(K:bN)(b s:Int):Prop:=∀ dw,dw<b→lk n fun k=>K.said b k&&!K.e1 dw s k
theorem rO.le{n:Nat}{K bj:bN}{b s:Int}(h:rO n K b s)(e:gE K bj):rO n bj b s:=fun dw cA=>(h dw cA).mono fun k _ al=>by
 simp only[Bool.and_eq_true,Bool.not_eq_true'] at al ⊢;refine⟨e.said b k al.1,?_⟩;cases ak:bj.e1 dw s k with
 |false=>rfl
 |true=>
  rcases e.new dw s k ak with ak | aO
  ·rw[ak] at al;exact absurd al.2 (by simp)
  ·have:=aO b al.1;omega
def tX(n:Nat)(K:bN)(b s:Int)(v:List UInt8):Prop:=∀ dw,dw<b→(K.e2 dw s=true∧K.value dw s=v)∨∃ o,dw<o∧lk n fun k=>K.said o k&&!K.e1 dw s k
theorem rO.VP{n:Nat}{K:bN}{b s:Int}{v:List UInt8}(h:rO n K b s):tX n K b s v:=fun dw cA=>.inr ⟨b,cA,h dw cA⟩
theorem av2{n:Nat}{K:bN}(h:Inv n K){b:Int}{bG:List (Nat×List dd)}(Yj:∀ t∈bG,s8 K b t.1 t.2)(hm:lk n fun k=>bG.any fun t=>t.1==k){xs:List dd}
  (F:∀ x,x∈xs↔∃ t∈bG,x∈t.2) (x6:∀ s,K.e2 b s=false) (s:Int) :
  (∀ N,(gM xs).lookup s=some N→tX n K b s N.V)∧((gM xs).lookup s=none→rO n K b s):=by
 have free:∀ dw,(∀ x∈xs,x.bm=s→x.ai<dw)→dw<b→lk n fun k=>K.said b k&&!K.e1 dw s k:=by
  intro dw z_ cA;refine hm.mono fun k _ al=>?_;obtain⟨t,ak,e⟩:=List.any_eq_true.1 al;have e:t.1=k:=by simpa using e
  subst e;have Z:=Yj t ak;simp only[Bool.and_eq_true,Bool.not_eq_true'];refine⟨Z.1,?_⟩;cases a5:K.e1 dw s t.1 with
  |false=>rfl
  |true=>
   obtain⟨x,B,J,au⟩:=Z.2.2.1 dw s a5 cA;have:=z_ x ((F x).2 ⟨t,ak,B⟩) J;omega
 refine⟨fun N aH dw cA=>?_,fun aH dw cA=>free dw (fun x B J=>absurd J (av1 aH x B)) cA⟩;obtain⟨eP,gD,nU⟩:=MJ aH;obtain⟨t,ak,aJ⟩:=(F N).1 gD;obtain⟨aB8,Bb,rJ⟩:=(Yj t ak).2.1 N aJ;rw[eP] at Bb rJ;have aA8:N.ai<b:=by
  rcases Int.lt_or_le N.ai b with h | h
  ·exact h
  ·have:N.ai=b:=by omega
   rw[this,x6] at Bb;cases Bb
 rcases Int.lt_trichotomy dw N.ai with aA | aA | aA
 ·rcases h.safe N.ai s dw Bb aA with ⟨B,J⟩ | B
  ·exact .inl ⟨B,by rw[J,rJ]⟩
  ·exact .inr B
 ·subst aA;exact .inl ⟨Bb,rJ⟩
 ·exact .inr ⟨b,cA,free dw (fun x B J=>by have:=nU x B J; omega) cA⟩
def bN.fix(K:bN)(b s:Int)(v:List UInt8):bN:={ K with e2:=fun o m=>if o=b∧m=s then true else K.e2 o m,value:=fun o m=>if o=b∧m=s then v else K.value o m }
theorem Cb(K:bN)(b s:Int)(v:List UInt8):(K.fix b s v).e2 b s=true∧(K.fix b s v).value b s=v:=by
 unfold bN.fix;simp
theorem z1{K:bN}{b s o m:Int}{v:List UInt8}(h:(K.fix b s v).e2 o m=true):(o=b∧m=s)∨K.e2 o m=true:=by
 unfold bN.fix at h;simp only at h;by_cases e:o=b∧m=s
 ·exact .inl e
 ·rw[if_neg e] at h;exact .inr h
theorem Inv.ag9{n:Nat}{K:bN}(h:Inv n K){b s:Int}{v:List UInt8}(aO:K.e2 b s=false)(hm:tX n K b s v)(aA:1≤b∧b≤(K.sure (own n b)).1)(aF:1≤s∧s≤1000∧v.length≤1000) :
  Inv n (K.fix b s v)∧gE K (K.fix b s v):=by
 have wi:∀ o m,K.e2 o m=true→((K.fix b s v).e2 o m=true∧(K.fix b s v).value o m=K.value o m):=by
  intro o m W;have:¬ (o=b∧m=s):=by
   rintro⟨rfl,rfl⟩;rw[aO] at W;cases W
  unfold bN.fix;simp only[if_neg this];exact⟨W,by trivial⟩
 refine⟨⟨h.lr,fun k o m u hu=>?_,h.said,fun o m k al=>?_,fun o m ap=>?_,fun o m ap=>?_,fun o m dw ap cA=>?_,fun m aq=>?_⟩,wi,fun _ e=>⟨e,rfl⟩,fun _ _ e=>e,fun _ _ _ e=>e,fun _ _ _ e=>.inl e,fun _=>Int.le_refl _⟩
 ·have:=h.hb k o m u hu;have f:=wi o m this.1;exact⟨f.1,f.2.trans this.2⟩
 ·have:=h.e1 o m k al;exact⟨this.1,(wi o m this.2.1).1,this.2.2⟩
 ·rcases z1 ap with ⟨rfl,rfl⟩ | ap
  ·exact aA
  ·exact h.yE o m ap
 ·rcases z1 ap with ⟨rfl,rfl⟩ | ap
  ·rw[(Cb K o m v).2]; exact aF
  ·rw[(wi o m ap).2]; exact h.slot o m ap
 ·by_cases e:o=b∧m=s
  ·obtain⟨rfl,rfl⟩:=e;rw[(Cb K o m v).2];rcases hm dw cA with ⟨B,J⟩ | B
   ·have f:=wi dw m B;exact .inl ⟨f.1,f.2.trans J⟩
   ·exact .inr B
  ·have ap:K.e2 o m=true:=(z1 ap).resolve_left e;have a0:(K.fix b s v).value o m=K.value o m:=(wi o m ap).2;rw[a0];rcases h.safe o m dw ap cA with ⟨B,J⟩ | B
   ·have f:=wi dw m B;exact .inl ⟨f.1,f.2.trans J⟩
   ·exact .inr B
 ·obtain⟨o,B,J,au⟩:=h.one m aq;have f:=wi o m B;exact⟨o,f.1,by rw[f.2]; exact J,au⟩
theorem rO.fix{n:Nat}{K:bN}{b s o m:Int}{v:List UInt8}(h:rO n K o m):rO n (K.fix b s v) o m:=h
theorem tX.fix{n:Nat}{K:bN}{b s o m:Int}{u v:List UInt8}(h:tX n K o m u)(aO:K.e2 b s=false):tX n (K.fix b s v) o m u:=fun dw cA=>by
 rcases h dw cA with ⟨B,J⟩ | B
 ·have:¬ (dw=b∧m=s):=by
   rintro⟨rfl,rfl⟩;rw[aO] at B;cases B
  left;unfold bN.fix;simp only[if_neg this];exact⟨B,J⟩
 ·exact .inr B
theorem Inv.ad4{n:Nat}{K:bN}(h:Inv n K){b s:Int}(ap:K.e2 b s=true)(hm:lk n fun k=>K.e1 b s k)(aq:K.hF s=true):K.lL s=K.value b s:=by
 have key:∀ o d,K.e2 o s=true→K.e2 d s=true→(lk n fun k=>K.e1 o s k)→o<d→K.value o s=K.value d s:=by
  intro o d W aC hm cA;rcases h.safe d s o aC cA with B | ⟨e,B,J⟩
  ·exact B.2
  ·obtain⟨k,_,au,a8⟩:=hm.auy J;simp only[Bool.and_eq_true,Bool.not_eq_true'] at a8;rw[au] at a8;exact absurd a8.2 (by simp)
 obtain⟨o,B,J,au⟩:=h.one s aq;rw[J];rcases Int.lt_trichotomy o b with e | e | e
 ·exact key o b B ap au e
 ·rw[e]
 ·exact (key b o ap B hm e).symm
def bN.choose(K:bN)(b s:Int):bN:={ K with hF:=fun m=>if m=s then true else K.hF m,lL:=fun m=>if m=s then K.value b s else K.lL m }
theorem Inv.ae8{n:Nat}{K:bN}(h:Inv n K){b s:Int}(ap:K.e2 b s=true)(hm:lk n fun k=>K.e1 b s k) :
  Inv n (K.choose b s)∧gE K (K.choose b s)∧(K.choose b s).hF s=true∧(K.choose b s).lL s=K.value b s:=by
 refine⟨⟨h.lr,h.hb,h.said,h.e1,h.yE,h.slot,h.safe,fun m aq=>?_⟩,⟨fun _ _ e=>⟨e,rfl⟩,fun m e=>?_,fun _ _ e=>e,fun _ _ _ e=>e,fun _ _ _ e=>.inl e,fun _=>Int.le_refl _⟩,?_⟩
 ·simp only[bN.choose] at aq ⊢;by_cases e:m=s
  ·subst e;rw[if_pos rfl];exact⟨b,ap,rfl,hm⟩
  ·rw[if_neg e] at aq ⊢;exact h.one m aq
 ·simp only[bN.choose];by_cases o:m=s
  ·subst o;rw[if_pos rfl,if_pos rfl];exact⟨rfl,(h.ad4 ap hm e).symm⟩
  ·rw[if_neg o,if_neg o];exact⟨e,rfl⟩
 ·unfold bN.choose;simp
def BD:bN:=⟨fun _=>[],fun _=>0,fun _ _=>false,fun _ _=>false,fun _ _=>[],fun _ _ _=>false,fun _=>false,fun _=>[]⟩
theorem UW(n:Nat):Inv n BD:=by
 refine⟨fun _=>⟨trivial,Nat.le_refl _⟩,fun k b m v h=>?_,fun b k h=>?_,fun b s k h=>?_,fun b s h=>?_,fun b s h=>?_,fun b s dw h=>?_,fun s h=>?_⟩
 ·simp[BD] at h
 all_goals cases h
theorem Ga{S ev:Type}{f:S→ev}:∀ {c:List S},(∀ a∈c,∀ b∈c,f a=f b→a=b)→c.Nodup→(c.map f).Nodup
 |[],_,_=>by simp
 |a::c,h,aC=>by
  rw[List.nodup_cons] at aC;rw[List.map_cons,List.nodup_cons];refine⟨fun hm=>?_,Ga (fun x F N aJ=>h x (by simp[F]) N (by simp[aJ])) aC.2⟩;obtain⟨b,aA,e⟩:=List.mem_map.1 hm;exact aC.1 (by rw[h a (by simp) b (by simp[aA]) e.symm]; exact aA)
theorem VN{n:Nat}{R:List Nat}(aC:R.Nodup)(aj:∀ k∈R,k<n)(h:n<2*R.length):lk n fun k=>R.contains k:=by
 have:R.length≤j7 (fun k=>R.contains k) n:=by
  unfold j7;refine List.Nodup.length_le_of_subset aC fun k al=>?_;exact List.mem_filter.2 ⟨List.mem_range.2 (aj k al),List.contains_iff_mem.2 al⟩
 unfold lk;omega
end dO
namespace Store
open ba
theorem An{ev:Type}{k:Int}{v:ev}:∀ {es:List (Int×ev)},es.lookup k=some v→∃ cx cE,es=cx++(k,v)::cE
 |[],h=>by cases h
 |(a,b)::es,h=>by
  simp only[List.lookup] at h;by_cases o:(k==a)=true
  ·rw[o] at h;have e:k=a:=by simpa using o
   cases h; subst e;exact⟨[],es,rfl⟩
  ·simp only[Bool.not_eq_true] at o;rw[o] at h;obtain⟨cx,cE,e⟩:=An h;exact⟨(a,b)::cx,cE,by rw[e]; rfl⟩
theorem LW{ev:Type}{k:Int}{v:ev}{es:List (Int×ev)}(h:es.lookup k=some v):(k,v)∈es:=by
 obtain⟨cx,cE,e⟩:=An h;rw[e]; simp
theorem F9{ev:Type}{k:Int}{v:ev}:∀ {es:List (Int×ev)},(es.map (·.1)).Nodup→(k,v)∈es→es.lookup k=some v
 |[],_,h=>by cases h
 |(a,b)::es,aO,h=>by
  have T0:=List.nodup_cons.1 aO;simp only[List.lookup];rcases List.mem_cons.1 h with e | h
  ·cases e; simp
  ·have:k≠a:=fun e=>T0.1 (List.mem_map.2 ⟨(k,v),h,e⟩);rw[show (k==a)=false from by simpa using this];exact F9 T0.2 h
theorem Zn{ev:Type}{k:Int}{v:ev}:∀ {es:List (Int×ev)},es.lookup k=none→bM k v es=es++[(k,v)]
 |[],_=>rfl
 |(a,b)::es,h=>by
  simp only[List.lookup] at h;by_cases o:(k==a)=true
  ·rw[o] at h; cases h
  ·simp only[Bool.not_eq_true] at o;rw[o] at h;simp only[bM,o];rw[Zn h]; rfl
section
variable {y w:World} {c bx:List bt}
structure xu where
 m:Nat
 dB:List (Int×i_)
def iD(dB:List (Int×i_)):List (Int×Option Addr):=dB.map fun e=>(e.1,some (⟨e.2.b,0,none⟩:Addr))
def k1(g:Int→List ei)(dB:List (Int×i_)):bt:=de (dB.map fun e=>kq e.2 (g e.1))
structure Rel(t:xu)(z:gF):Prop where
 keys:∀ k,aK z.rows k≠[]↔k∈t.dB.map (·.1)
 marks:∀ e∈t.dB,0≤e.2.mark∧e.2.mark≤z.mark
def eF(b:Nat)(z:gF):bt:=fE fun t:xu=>de [jT (Rel t z),aN b (nX.cells ⟨some t.m,z.closed,z.mark⟩) 208,bR aM .i64 t.m (iD t.dB),k1 (aK z.rows) t.dB]
theorem tJ{b:Nat}{z:gF}(H:E y (eF b z::c) w):∃ t:xu,Rel t z∧(t.dB.map (·.1)).Nodup∧E y (aN b (nX.cells ⟨some t.m,z.closed,z.mark⟩) 208::bR aM .i64 t.m (iD t.dB)::k1 (aK z.rows) t.dB::c) w:=by
 obtain⟨t,H⟩:=H.ex;have H:=H.open_;obtain⟨h,H⟩:=E.sM (eK:=Rel t z) H;refine⟨t,h,?_,H⟩;have:=L3 (H.front 1);have e:(iD t.dB).map (·.1)=t.dB.map (·.1):=by unfold iD; rw[List.map_map]; rfl
 rw[← e]; exact this
theorem oD{b:Nat}{z:gF}{t:xu}(h:Rel t z)(H:E y (aN b (nX.cells ⟨some t.m,z.closed,z.mark⟩) 208::bR aM .i64 t.m (iD t.dB)::k1 (aK z.rows) t.dB::c) w):E y (eF b z::c) w:=
 E.kQ t (E.shut (bx:=[jT (Rel t z),aN b (nX.cells ⟨some t.m,z.closed,z.mark⟩) 208,bR aM .i64 t.m (iD t.dB),k1 (aK z.rows) t.dB]) (E.rD h H))
theorem Ao(k:Int):∀ dB:List (Int×i_),(iD dB).lookup k=(dB.lookup k).map fun C=>some (⟨C.b,0,none⟩:Addr)
 |[]=>rfl
 |(a,C)::dB=>by
  have b8:=Ao k dB;unfold iD at b8 ⊢;simp only[List.map_cons,List.lookup];by_cases o:(k==a)=true
  ·rw[o]; rfl
  ·simp only[Bool.not_eq_true] at o;rw[o]; exact b8
theorem Jl{g lm:Int→List ei}{dB:List (Int×i_)}(h:∀ e∈dB,g e.1=lm e.1):k1 g dB=k1 lm dB:=by
 unfold k1; rw[List.map_congr_left fun e he=>by rw[h e he]]
theorem BP{g:Int→List ei}{cx cE:List (Int×i_)}{e:Int×i_}(H:E y (k1 g (cx++e::cE)::c) w):E y (kq e.2 (g e.1)::k1 g (cx++cE)::c) w:=xM (f:=fun e:Int×i_=>kq e.2 (g e.1)) H
theorem EY{g:Int→List ei}{cx cE:List (Int×i_)}{e:Int×i_}(H:E y (kq e.2 (g e.1)::k1 g (cx++cE)::c) w):E y (k1 g (cx++e::cE)::c) w:=xL (f:=fun e:Int×i_=>kq e.2 (g e.1)) H
theorem Sf{g lm:Int→List ei}{cx cE:List (Int×i_)}{k:Int}{C:i_}{R:List ei}(al:lm k=R)(ab:∀ e∈cx++cE,g e.1=lm e.1)(H:E y (kq C R::k1 g (cx++cE)::c) w):E y (k1 lm (cx++(k,C)::cE)::c) w:=by
 refine EY (e:=(k,C)) ?_;rw[← Jl ab]; rw[← al] at H; exact H
theorem others{cx cE:List (Int×i_)}{k:Int}{C:i_}(aO:((cx++(k,C)::cE).map (·.1)).Nodup):∀ e∈cx++cE,e.1≠k:=by
 intro e he h;rw[List.map_append,List.map_cons] at aO;have J:=(List.nodup_append.1 aO).2;rcases List.mem_append.1 he with au | au
 ·exact J.2 e.1 (List.mem_map.2 ⟨e,au,rfl⟩) k (List.mem_cons_self ..) h
 ·exact (List.nodup_cons.1 J.1).1 (by rw[← h]; exact List.mem_map.2 ⟨e,au,rfl⟩)
theorem Rel.none{t:xu}{z:gF}{k:Int}(h:Rel t z)(aj:t.dB.lookup k=.none):aK z.rows k=[]:=by
 by_cases e:aK z.rows k=[]
 ·exact e
 ·exact absurd ((h.keys k).1 e) (C4.1 aj)
theorem ayB(H:E y c w):L Pg 98 [] aM w fun r I=>∃ b,r=some ⟨b,0,none⟩∧E y (eF b ⟨[],0,0⟩::c) I:=by
 refine ada ?_;unfold RH;refine qB H fun m eu H=>?_;refine cj H fun b cK H=>?_;have H:=qz aM .i64 (H.front 1);have H:E y (de []::bR aM .i64 m []::aN b (nX.cells ⟨some m,0,0⟩) 208::c) cK:=E.shut (bx:=[]) H;exact⟨b,rfl,oD (t:=⟨m,[]⟩) ⟨fun k=>by simp[D1],fun e h=>by cases h⟩ (H.ord [2,1,0])⟩
theorem afe{b:Nat}{z:gF}(H:E y (eF b z::c) w):L Pg 90 [.pointer (some ⟨b,0,none⟩)] (D .i64) w fun r I=>r=z.closed∧E y (eF b z::c) I:=by
 refine ac4 ?_;unfold RC;obtain⟨t,h,aO,H⟩:=tJ H;refine b2 rfl ?_;refine an (x:=z.closed) 0 H rfl rfl rfl ?_;exact⟨rfl,oD h H⟩
theorem auu{b:Nat}{z:gF}(H:E y (eF b z::c) w):L Pg 91 [.pointer (some ⟨b,0,none⟩)] (D .i64) w fun r I=>r=z.mark∧E y (eF b z::c) I:=by
 refine ac5 ?_;unfold RD;obtain⟨t,h,aO,H⟩:=tJ H;refine b2 rfl ?_;refine an (x:=z.mark) 0 H rfl rfl rfl ?_;exact⟨rfl,oD h H⟩
theorem Lr{t:Int}(H:E y c w):L Pg 149 [.int .i64 t] bi w fun r I=>r=(decide (t≥0)&&decide (t≤1125899906842624))∧E y c I:=by
 refine aaO ?_;unfold Ps;exact⟨rfl,H⟩
theorem CQ{k:Int}(H:E y c w):L Pg 218 [.int .i64 k] bi w fun r I=>r=(decide (k≥0)&&decide (k<8192))∧E y c I:=by
 refine abI ?_;unfold Qe;exact⟨rfl,H⟩
theorem afd{b:Nat}{z:gF}{t:Int}(H:E y (eF b z::c) w):L Pg 207 [.pointer (some ⟨b,0,none⟩),.int .i64 t] (D .i64) w fun r I=>r=E5 t∧E y (eF b (qi z t)::c) I:=by
 refine abx ?_;unfold P4;refine aE (Lr H) ?_;rintro r eu ⟨rfl,H⟩;unfold qi E5;split
 ·rename_i W;rw[if_pos (show t<0∨t>1125899906842624 from by simp at W; omega)];exact⟨rfl,by rw[if_neg (by omega)]; exact H⟩
 ·rename_i W;rw[if_neg (show ¬ (t<0∨t>1125899906842624) from by simp at W; omega),if_pos rfl];obtain⟨p,h,aO,H⟩:=tJ H;refine b2 rfl ?_;refine an (x:=z.closed) 0 H rfl rfl rfl ?_;refine eg (x:=max z.closed t) 0 H rfl rfl (Nat.le_of_ble_eq_true rfl) fun cK H=>?_;exact⟨rfl,oD (z:={ z with closed:=max z.closed t }) ⟨h.keys,h.marks⟩ H⟩
theorem azj{b:Nat}{z:gF}{t:Int}(H:E y (eF b z::c) w):L Pg 123 [.pointer (some ⟨b,0,none⟩),.int .i64 t] (D .i64) w fun r I=>r=vH z t∧E y (eF b z::c) I:=by
 refine aas ?_;unfold O6;refine aE (Lr H) ?_;rintro r eu ⟨rfl,H⟩;unfold vH;split
 ·rename_i W;rw[if_pos (show t<0∨t>1125899906842624 from by simp at W; omega)];exact⟨rfl,H⟩
 ·rename_i W;rw[if_neg (show ¬ (t<0∨t>1125899906842624) from by simp at W; omega)];obtain⟨p,h,aO,H⟩:=tJ H;refine b2 rfl ?_;refine an (x:=z.closed) 0 H rfl rfl rfl ?_;split
  ·rename_i W;rw[if_pos (by simpa using W)];exact⟨rfl,oD h H⟩
  ·rename_i W;rw[if_neg (by simpa using W)];refine an (x:=z.mark) 0 H rfl rfl rfl ?_;split
   ·rename_i W;rw[if_pos (by simpa using W)];exact⟨rfl,oD h H⟩
   ·rename_i W;rw[if_neg (by simpa using W)];exact⟨rfl,oD h H⟩
theorem AO{b:Nat}{z:gF}{k:Int}(b6:Inv z)(H:E y (eF b z::c) w):L Pg 198 [.pointer (some ⟨b,0,none⟩),.int .i64 k] (bJ cX bi) w fun r I=>r=m5 (aK z.rows k)∧E y (eF b z::c) I:=by
 refine abl ?_;unfold PV;refine cj H fun mP eu H=>?_;obtain⟨t,h,lV,H⟩:=tJ (H.front 1);refine b2 rfl ?_;refine an (x:=some t.m) 0 H rfl rfl rfl ?_;refine iV 1 H rfl rfl ?_;rw[Ao];cases aj:t.dB.lookup k with
 |none=>
  rw[if_pos (by simp)];refine fb (x:=iy) (N:=(⟨0,0⟩:ei)) oa 3 H rfl fun cK H=>?_;refine gV (x:=(⟨0,0⟩:ei)) 0 H rfl ?_;exact⟨by rw[h.none aj]; rfl,oD h H.drop⟩
 |some C=>
  rw[if_neg (by simp)];obtain⟨cx,cE,e⟩:=An aj;have H:=H.front 2;rw[e] at H;have H:=BP H;refine aE (Sq (C:=C) (Nat.le_trans (b6.cap _) (by omega)) H) ?_;rintro r cK ⟨rfl,H⟩;have H:=EY (e:=(k,C)) H;rw[← e] at H;show br cX _ (m5 (aK z.rows k)).1 _ _
  generalize m5 (aK z.rows k)=q;refine fb (x:=iy) (N:=q.1) oa 3 H rfl fun a6 H=>?_;refine gV (x:=q.1) 0 H rfl ?_;exact⟨rfl,oD h (H.drop.ord [1,2,0])⟩
theorem ahh{b:Nat}{z:gF}{k:Int}(b6:Inv z)(H:E y (eF b z::c) w):L Pg 219 [.pointer (some ⟨b,0,none⟩),.int .i64 k] bi w fun r I=>r=decide (10000≤(aK z.rows k).length)∧E y (eF b z::c) I:=by
 refine abJ ?_;unfold Qf;obtain⟨t,h,lV,H⟩:=tJ H;refine b2 rfl ?_;refine an (x:=some t.m) 0 H rfl rfl rfl ?_;refine iV 1 H rfl rfl ?_;rw[Ao];cases aj:t.dB.lookup k with
 |none=>
  rw[if_neg (by simp)];unfold Bh;exact⟨by rw[h.none aj]; simp,oD h H⟩
 |some C=>
  rw[if_pos (by simp)];obtain⟨cx,cE,e⟩:=An aj;have H:=H.front 2;rw[e] at H;have H:=BP H;have hR:(aK z.rows k).length≤10000:=b6.cap k;refine aE (ae3 (C:=C) (by show (aK z.rows k).length≤_; omega) H) ?_;intro r cK H;have Z:=ho H;have H:=EY (e:=(k,C)) H.drop;rw[← e] at H;unfold Bh;refine⟨?_,oD h (H.ord [1,2,0])⟩;have Z:r.len=(aK z.rows k).length:=Z;rw[Z];rw[Bool.eq_iff_iff,decide_eq_true_eq];simp
  try omega
end
theorem Oi{R:List Row}{t:Int}:∀ {xs:List h0} {seen:List Int},tP R t seen xs=0→(∀ x∈xs,0≤x.Key∧x.Key≤8191∧(m5 (aK R x.Key)).1.c6<t∧(aK R x.Key).length<10000∧x.Key∉seen)∧(xs.map (·.Key)).Nodup
 |[],seen,_=>⟨fun x h=>(by cases h),List.nodup_nil⟩
 |x::xs,seen,h=>by
  unfold tP at h;split at h
  ·cases h
  ·rename_i B;split at h
   ·cases h
   ·rename_i J;split at h
    ·cases h
    ·rename_i au;split at h
     ·cases h
     rename_i a8;obtain⟨cD,dC⟩:=Oi h;refine⟨fun N aJ=>?_,List.nodup_cons.2 ⟨fun hm=>?_,dC⟩⟩
     ·rcases List.mem_cons.1 aJ with rfl | aJ
      ·exact⟨by omega,by omega,by omega,by omega,J⟩
      ·have:=cD N aJ;exact⟨this.1,this.2.1,this.2.2.1,this.2.2.2.1,fun aF=>this.2.2.2.2 (List.mem_append_left _ aF)⟩
     ·obtain⟨N,aJ,e⟩:=List.mem_map.1 hm;have:=(cD N aJ).2.2.2.2;rw[e] at this;exact this (List.mem_append_right _ (List.mem_singleton_self _))
theorem azO{R:List Row}{t:Int}{seen:List Int}{x:h0}{xs:List h0}:tP R t seen (x::xs)=if x.Key<0∨x.Key>8191 then 123 else if x.Key∈seen then 124 else if (m5 (aK R x.Key)).1.c6≥t then 121 else if 10000≤(aK R x.Key).length then 125 else tP R t (seen++[x.Key]) xs:=rfl
theorem Ha{t k:Int}{xs:List h0}(h:k∉xs.map (·.Key)):aK (news t xs) k=[]:=by
 by_cases e:aK (news t xs) k=[]
 ·exact e
 ·obtain⟨r,Z,al⟩:=G_.1 e;obtain⟨x,F,rfl⟩:=List.mem_map.1 Z;exact absurd (List.mem_map.2 ⟨x,F,al⟩) h
section
variable {y w:World} {c bx:List bt}
theorem ay0{b:Nat}{z:gF}{t:Int}{s:X}{xs:List h0}(b6:Inv z)(F:xs.length≤1000)(ak:1≤t)(k:c0 2 c jC s xs)(H:E y (eF b z::c) w) :
  L Pg 212 [.pointer (some ⟨b,0,none⟩),.int .i64 t,O.enc s] (D .i64) w fun r I=>r=(if xs.length>100 then 122 else tP z.rows t [] xs)∧E y (eF b z::c) I:=by
 have aF:=k.tail.len H;refine abC ?_;unfold P9;split
 ·rename_i W;rw[if_pos (by simp at W; omega)];exact⟨rfl,H⟩
 ·rename_i W;rw[if_neg (by simp at W; omega)];refine qB H fun m eu H=>?_;have H:=qz jn .i64 H;refine wH (fun i w=>0≤i∧i≤xs.length∧tP z.rows t [] xs=tP z.rows t ((xs.take i.toNat).map (·.Key)) (xs.drop i.toNat)∧∃ es:List (Int×nW),(∀ k,(es.lookup k).isSome=decide (k∈(xs.take i.toNat).map (·.Key)))∧E y (bR jn .i64 m es::eF b z::c) w) (fun i=>(xs.length-i).toNat)
   ⟨Int.le_refl 0,by omega,by simp,[],by simp,H⟩ ?_
  rintro i w ⟨am,B,J,es,au,H⟩;unfold Ij;rw[aF];split
  ·rename_i W;have W:i<xs.length:=by simpa using W
   have aT:IntKind.i64.wrap (i+1)=i+1:=wrap_i64 (by omega) (by omega);have Ln:xs[i.toNat]?=some xs[i.toNat]:=List.getElem?_eq_getElem (by omega);have aC:xs.drop i.toNat=xs[i.toNat]::xs.drop (i.toNat+1):=List.drop_eq_getElem_cons (by omega);have nE:xs.take (i.toNat+1)=xs.take i.toNat++[xs[i.toNat]]:=List.take_succ_eq_append_getElem (by omega);obtain⟨a,ag⟩:=k.tail.tail.jI (i:=i) H am W;refine aQ a ag ?_;refine aQ xs[i.toNat] (k.tail.tail.rd ag Ln H) ?_;generalize xs[i.toNat]=x at aC nE;refine cj H fun gn cK H=>?_;refine fb (x:=BE) (N:=x) LP 0 H rfl fun a6 H=>?_;refine an (x:=x.Key) 0 H rfl rfl rfl ?_;refine iV 1 H rfl rfl ?_;refine cj H fun gR aV H=>?_;refine eg (x:=_) 0 H rfl rfl (Nat.le_of_ble_eq_true rfl) fun bb H=>?_;refine an (x:=x.Key) 1 H rfl rfl rfl ?_;refine aE (AO (k:=x.Key) b6 (H.front 3)) ?_;rintro r bK ⟨rfl,H⟩;refine cj H fun mP bH H=>?_;generalize a5:m5 (aK z.rows x.Key)=q
   refine fb (x:=iy) (N:=q.1) oa 0 H rfl fun bQ H=>?_;refine an (x:=x.Key) 3 H rfl rfl rfl ?_;refine aE (CQ H) ?_;rintro r bX ⟨rfl,H⟩;rw[aC,azO,a5] at J;have js:=au x.Key;generalize CF:(xs.take i.toNat).map (·.Key)=seen at J js au;split
   ·rename_i al;rw[if_pos (show x.Key<0∨x.Key>8191 from by simp at al; omega)] at J;exact⟨J.symm,((((H.drop.front 1).drop.front 1).drop.front 1).drop)⟩
   ·rename_i al;rw[if_neg (show ¬ (x.Key<0∨x.Key>8191) from by simp at al; omega)] at J;split
    ·rename_i o5;have o5:(es.lookup x.Key).isSome=true:=o5;rw[js] at o5;rw[if_pos (by simpa using o5)] at J;exact⟨J.symm,((((H.drop.front 1).drop.front 1).drop.front 1).drop)⟩
    ·rename_i o5;have o5:¬ (es.lookup x.Key).isSome=true:=o5;rw[js] at o5;rw[if_neg (by simpa using o5)] at J;refine an (x:=q.1.c6) 0 H rfl rfl rfl ?_;split
     ·rename_i Ks;rw[if_pos (by simpa using Ks)] at J;exact⟨J.symm,((((H.drop.front 1).drop.front 1).drop.front 1).drop)⟩
     ·rename_i Ks;rw[if_neg (by simpa using Ks)] at J;refine an (x:=x.Key) 3 H rfl rfl rfl ?_;refine aE (ahh (k:=x.Key) b6 (H.front 1)) ?_;rintro r b3 ⟨rfl,H⟩;by_cases z8:10000≤(aK z.rows x.Key).length
      ·rw[decide_eq_true z8,if_pos rfl];rw[if_pos z8] at J;exact⟨J.symm,((((H.front 1).drop.front 1).drop.front 1).drop.front 1).drop⟩
      rw[if_neg z8] at J;rw[decide_eq_false z8,if_neg (by simp)];refine an (x:=x.Key) 3 H rfl rfl rfl ?_;refine pd 4 H rfl rfl fun cU H=>?_;rw[aT];refine⟨⟨by omega,by omega,?_,_,?_,((((H.front 2).drop.front 2).drop.front 2).drop)⟩,by omega⟩
      ·rw[show (i+1).toNat=i.toNat+1 from by omega,nE,List.map_append,CF]; exact J
      ·intro k;rw[show (i+1).toNat=i.toNat+1 from by omega,nE,List.map_append,CF,lZ];by_cases z9:k=x.Key
       ·subst z9; simp
       ·rw[if_neg (by simpa using z9),au k]; simp[z9]
  ·rename_i W;have W:i=xs.length:=by simp at W; omega
   subst W;have e:xs.drop ((xs.length:Int)).toNat=[]:=by simp
   rw[e] at J;exact⟨J.symm,H.drop⟩
end
theorem auN{t:Int}{xs:List h0}{i:Nat}(h:i<xs.length):news t (xs.take (i+1))=news t (xs.take i)++[⟨t,xs[i]⟩]:=by
 unfold news; rw[List.take_succ_eq_append_getElem h,List.map_append]; rfl
theorem ZA(t k:Int)(x:h0):aK [⟨t,x⟩] k=if x.Key=k then [⟨t,x.V⟩] else []:=by rw[zc,D1]
theorem Zz{t k:Int}:∀ {xs:List h0},(xs.map (·.Key)).Nodup→(aK (news t xs) k).length≤1
 |[],_=>by simp[news,D1]
 |x::xs,h=>by
  have eI:=List.nodup_cons.1 h;have e:news t (x::xs)=⟨t,x⟩::news t xs:=rfl;rw[e,zc];split
  ·rename_i al;have al:x.Key=k:=al;subst al;rw[Ha eI.1];simp
  ·exact Zz eI.2
theorem Inv.put{z:gF}(b6:Inv z)(t:Int)(xs:List h0):Inv (lw z t xs):=by
 unfold lw;split
 ·rename_i he;unfold sN at he;split at he
  ·cases he
  ·split at he
   ·cases he
   ·split at he
    ·cases he
    ·obtain⟨B,J⟩:=Oi he;refine⟨fun k=>?_,fun r Z=>?_,fun r Z=>?_,?_,b6.mark⟩
     ·simp only;rw[D0,List.length_append];by_cases al:k∈xs.map (·.Key)
      ·obtain⟨x,F,rfl⟩:=List.mem_map.1 al;have:=(B x F).2.2.2.1;have:=Zz (t:=t) (k:=x.Key) J;omega
      ·rw[Ha al];have:=b6.cap k;simpa using this
     ·rcases List.mem_append.1 Z with Z | Z
      ·exact b6.key r Z
      ·obtain⟨x,F,rfl⟩:=List.mem_map.1 Z;exact⟨(B x F).1,(B x F).2.1⟩
     ·rcases List.mem_append.1 Z with Z | Z
      ·exact b6.NV r Z
      ·obtain⟨x,F,rfl⟩:=List.mem_map.1 Z;simp only; omega
     ·refine List.pairwise_append.2 ⟨b6.oB,?_,?_⟩
      ·unfold news;rw[List.pairwise_map];refine (List.pairwise_map.1 J).imp fun ec he=>absurd he ec
      ·rintro r Z q a5 al;obtain⟨x,F,rfl⟩:=List.mem_map.1 a5;have cA:=(B x F).2.2.1;have al:r.K.Key=x.Key:=al;show r.c6<t
       have hm:(⟨r.c6,r.K.V⟩:ei)∈aK z.rows x.Key:=List.mem_map.2 ⟨r,List.mem_filter.2 ⟨Z,by simpa using al⟩,rfl⟩;have aj5:=D2 b6.oB x.Key;unfold m5 at cA;generalize aK z.rows x.Key=R at *;rcases List.eq_nil_or_concat R with rfl | ⟨xo,N,rfl⟩
       ·cases hm
       ·rw[List.concat_eq_append] at *;rw[List.getLast?_append] at cA;simp only[List.getLast?_singleton,Option.some_or,Option.getD_some] at cA;rcases List.mem_append.1 hm with h | h
        ·have:=(List.pairwise_append.1 aj5).2.2 _ h N (List.mem_singleton_self _);simp only at this; omega
        ·cases List.mem_singleton.1 h;simpa using cA
 ·exact b6
theorem Inv.close{z:gF}(b6:Inv z)(t:Int):Inv (qi z t):=by
 unfold qi;split
 ·rename_i h;unfold E5 at h;have:=b6.mark;refine⟨b6.cap,b6.key,b6.NV,b6.oB,?_⟩;split at h
  ·cases h
  ·simp only; omega
 ·exact b6
theorem Inv.MW{z:gF}(b6:Inv z)(t:Int):Inv (qF z t):=by
 unfold qF;split
 ·rename_i h;unfold tE at h;have:=b6.mark;have aF:=LF (max z.mark t) z.rows;refine⟨fun k=>Nat.le_trans (by unfold aK; rw[List.length_map,List.length_map]; exact (aF.filter _).length_le) (b6.cap k),fun r Z=>b6.key r (aF.subset Z),fun r Z=>b6.NV r (aF.subset Z),b6.oB.sublist aF,?_⟩;split at h
  ·cases h
  ·split at h
   ·cases h
   ·simp only; omega
 ·exact b6
section
variable {y w:World} {c bx:List bt}
theorem yH{b:Nat}{z:gF}{t:Int}{s:X}{xs:List h0}(b6:Inv z)(F:xs.length≤1000)(k:c0 2 c jC s xs)(H:E y (eF b z::c) w) :
  L Pg 201 [.pointer (some ⟨b,0,none⟩),.int .i64 t,O.enc s] (D .i64) w fun r I=>r=sN z t xs∧E y (eF b (lw z t xs)::c) I:=by
 refine abq ?_;unfold PZ;have aF:=k.tail.len H;split
 ·rename_i W;have e:sN z t xs=120:=by unfold sN; rw[if_pos (by simp at W; omega)]
  unfold lw;rw[e,if_neg (by omega)];exact⟨rfl,H⟩
 ·rename_i W;have W:¬ (t<1∨t>1125899906842624):=by simp at W; omega
  obtain⟨p,h,lV,H⟩:=tJ H;refine b2 rfl ?_;refine an (x:=z.closed) 0 H rfl rfl rfl ?_;have H:=oD h H;split
  ·rename_i h1;have e:sN z t xs=121:=by unfold sN; rw[if_neg W,if_pos (by simpa using h1)]
   unfold lw;rw[e,if_neg (by omega)];exact⟨rfl,H⟩
  ·rename_i h1;have h1:¬ t≤z.closed:=by simpa using h1
   refine aE (ay0 (t:=t) b6 F (by omega) k H) ?_;rintro r eu ⟨rfl,H⟩;have e:sN z t xs=if xs.length>100 then 122 else tP z.rows t [] xs:=by unfold sN; rw[if_neg W,if_neg h1]
   rw[← e];unfold lw;split
   ·rename_i ec;have ec:sN z t xs≠0:=by simpa using ec
    rw[if_neg ec];exact⟨rfl,H⟩
   ·rename_i ec;have ec:sN z t xs=0:=by simpa using ec
    rw[if_pos ec,ec];have aj:xs.length≤100:=by
     rw[e] at ec;split at ec
     ·cases ec
     ·omega
    rw[e,if_neg (by omega)] at ec;obtain⟨cD,dC⟩:=Oi ec;refine wH (fun i w=>0≤i∧i≤xs.length∧E y (eF b { z with rows:=z.rows++news t (xs.take i.toNat) }::c) w) (fun i=>(xs.length-i).toNat) ⟨Int.le_refl 0,by omega,by simpa[news] using H⟩ ?_;rintro i w ⟨am,B,H⟩;unfold Ie;rw[aF];split
    ·rename_i x1;have x1:i<xs.length:=by simpa using x1
     have aT:IntKind.i64.wrap (i+1)=i+1:=wrap_i64 (by omega) (by omega);have Ln:xs[i.toNat]?=some xs[i.toNat]:=List.getElem?_eq_getElem (by omega);have nE:=auN (t:=t) (xs:=xs) (i:=i.toNat) (by omega);have KD:=cD xs[i.toNat] (List.getElem_mem _);have Cy:(xs[i.toNat]).Key∉(xs.take i.toNat).map (·.Key):=by
      intro hm;rw[List.map_take] at hm;obtain⟨l,a7,aiz⟩:=List.mem_take_iff_getElem.1 hm;have:=(List.pairwise_iff_getElem.1 dC) l i.toNat (by simp at a7 ⊢; omega) (by simp; omega) (by omega);rw[aiz] at this;simp at this
     obtain⟨a,ag⟩:=k.tail.jI (i:=i) H am x1;refine aQ a ag ?_;refine aQ xs[i.toNat] (k.tail.rd ag Ln H) ?_;generalize xs[i.toNat]=x at nE KD Cy;refine cj H fun gn cK H=>?_;refine fb (x:=BE) (N:=x) LP 0 H rfl fun a6 H=>?_;refine dH H fun aV H=>?_;have K4:aK (z.rows++news t (xs.take i.toNat)) x.Key=aK z.rows x.Key:=by rw[D0,Ha Cy,List.append_nil]
     generalize aj6:z.rows++news t (xs.take i.toNat)=rows at H K4;have aj7:z.rows++news t (xs.take (i+1).toNat)=rows++[⟨t,x⟩]:=by rw[show (i+1).toNat=i.toNat+1 from by omega,nE,← aj6,List.append_assoc]
     have hR:(aK rows x.Key).length<10000:=by rw[K4]; exact KD.2.2.2.1
     have tp:(m5 (aK rows x.Key)).1.c6<t:=by rw[K4]; exact KD.2.2.1
     have KY:aK (rows++[⟨t,x⟩]) x.Key=aK rows x.Key++[⟨t,x.V⟩]:=by rw[D0,ZA,if_pos rfl]
     have KP:∀ q,q≠x.Key→aK rows q=aK (rows++[⟨t,x⟩]) q:=fun q a5=>by rw[D0,ZA,if_neg (fun h=>a5 h.symm),List.append_nil]
     have Cw:=b6.mark;obtain⟨p,h,lV,H⟩:=tJ (H.front 1);have Fy:∀ (C:i_) (cx cE:List (Int×i_)) (hk:Nat) (w:World),Rel ⟨hk,cx++(x.Key,C)::cE⟩ { z with rows:=rows++[⟨t,x⟩] }→((cx++(x.Key,C)::cE).map (·.1)).Nodup→0≤C.mark∧C.mark≤z.mark →
       E y (kq C (aK rows x.Key)::k1 (aK rows) (cx++cE)::bR aM .i64 hk (iD (cx++(x.Key,C)::cE))::aN b (nX.cells ⟨some hk,z.closed,z.mark⟩) 208::aN gn (jC.cells x) 174::c) w →
       Bg t i ⟨gn,0,none⟩ (some ⟨C.b,0,none⟩) w (fun hJ I=>(0≤hJ∧hJ≤xs.length∧E y (eF b { z with rows:=z.rows++news t (xs.take hJ.toNat) }::c) I)∧(xs.length-hJ).toNat<(xs.length-i).toNat) fun r I=>r=0∧E y (eF b { z with rows:=z.rows++news t xs }::c) I:=by
      intro C cx cE hk w kH lV hm H;unfold Bg;refine an (x:=x.V) 4 H rfl rfl rfl ?_;refine aE (afa (t:=t) (v:=x.V) (by omega) (by omega) (by omega) (by omega) tp H) ?_;rintro r bb ⟨s2,H⟩;rw[aT];have H:=Sf (lm:=aK (rows++[⟨t,x⟩])) (k:=x.Key) KY (fun e he=>KP e.1 (others lV e he)) H;refine⟨⟨by omega,by omega,?_⟩,by omega⟩;rw[aj7];have aH:iD (cx++(x.Key,(⟨C.b,s2,C.mark⟩:i_))::cE)=iD (cx++(x.Key,C)::cE):=by unfold iD; simp
      rw[← aH] at H;refine oD (t:=⟨hk,cx++(x.Key,⟨C.b,s2,C.mark⟩)::cE⟩) (z:={ z with rows:=rows++[⟨t,x⟩] }) ⟨fun q=>?_,fun e he=>?_⟩ (((H.front 3).drop).ord [2,1,0])
      ·have:=kH.keys q;simpa using this
      ·rcases List.mem_append.1 he with he | he
       ·exact kH.marks e (List.mem_append_left _ he)
       ·rcases List.mem_cons.1 he with rfl | he
        ·exact hm
        ·exact kH.marks e (List.mem_append_right _ (List.mem_cons_of_mem _ he))
     refine an (x:=some p.m) 0 H rfl rfl rfl ?_;refine an (x:=x.Key) 3 H rfl rfl rfl ?_;refine iV 1 H rfl rfl ?_;rw[Ao];cases jc:p.dB.lookup x.Key with
     |none=>
      rw[if_pos (by simp)];refine aE (ae4 H) ?_;rintro r bb ⟨v8,rfl,H⟩;refine dH H fun bK H=>?_;refine an (x:=some p.m) 1 H rfl rfl rfl ?_;refine an (x:=x.Key) 4 H rfl rfl rfl ?_;refine pd 2 H rfl rfl fun bH H=>?_;have ajN:(iD p.dB).lookup x.Key=none:=by rw[Ao,jc]; rfl
      have aH:bM x.Key (some ⟨v8,0,none⟩) (iD p.dB)=iD (p.dB++(x.Key,(⟨v8,er,0⟩:i_))::[]):=by rw[Zn ajN]; unfold iD; simp
      rw[aH] at H;have aho:aK rows x.Key=[]:=h.none jc;have ajT:x.Key∉p.dB.map (·.1):=C4.1 jc;refine Fy ⟨v8,er,0⟩ p.dB [] p.m bH ⟨fun q=>?_,fun e he=>?_⟩ ?_ ⟨Int.le_refl 0,Cw.1⟩ ?_
      ·by_cases a5:q=x.Key
       ·subst a5;simp only[KY]; simp
       ·rw[← KP q a5,h.keys q]; simp[a5]
      ·rcases List.mem_append.1 he with he | he
       ·exact h.marks e he
       ·cases List.mem_singleton.1 he;exact⟨Int.le_refl 0,Cw.1⟩
      ·rw[List.map_append];refine List.nodup_append.2 ⟨lV,by simp,?_⟩;intro a ag o W;simp at W; subst W;intro e; subst e; exact ajT ag
      ·rw[aho,List.append_nil];exact H.ord [1,3,0,2,4]
     |some C=>
      rw[if_neg (by simp)];obtain⟨cx,cE,e⟩:=An jc;rw[e] at H lV;have hm:=h.marks _ (LW jc);refine Fy C cx cE p.m aV ⟨fun q=>?_,fun lP he=>?_⟩ lV hm ((BP (H.front 2)).ord [0,1,3,2,4])
      ·have:=h.keys q;rw[e] at this;by_cases a5:q=x.Key
       ·subst a5;simp only[KY]; simp
       ·rw[← KP q a5]; exact this
      ·exact h.marks _ (by rw[e]; assumption)
    ·rename_i x1;have x1:i=xs.length:=by simp at x1; omega
     subst x1;have a0:xs.take ((xs.length:Int)).toNat=xs:=by simp
     rw[a0] at H;exact⟨rfl,H⟩
end
def e0(R:List Int):List Int:=R.mergeSort fun x N=>decide (x≤N)
theorem w4(R:List Int):(e0 R).Pairwise fun x N=>x≤N:=by
 have B:(e0 R).Pairwise fun x N=>decide (x≤N)=true:=
  List.pairwise_mergeSort (fun a b o B J=>by simp at B J ⊢; omega) (fun a b=>by simp; omega) R
 exact B.imp fun h=>by simpa using h
theorem hY(R:List Int):(e0 R).Perm R:=List.mergeSort_perm R _
theorem w3{R z:List Int}(h:R.Perm z):e0 R=e0 z:=
 List.Perm.eq_of_pairwise (fun a b _ _ B J=>by omega) (w4 R) (w4 z) ((hY R).trans (h.trans (hY z).symm))
theorem DJ{R:List Int}(h:R.Nodup):(e0 R).Pairwise fun x N=>x<N:=
 ((w4 R).and ((hY R).nodup_iff.2 h)).imp fun {a b} h => by
  have B:=h.1;have J:a≠b:=h.2;omega
theorem Rel.ayD{t:xu}{z:gF}(h:Rel t z)(aO:(t.dB.map (·.1)).Nodup):Keys z.rows (e0 (t.dB.map (·.1))):=
 ⟨DJ aO,fun k=>by rw[(hY _).mem_iff,h.keys]⟩
theorem LH:∀ R:List Row,∃ bu,Keys R bu
 |[]=>⟨[],List.Pairwise.nil,fun k=>by simp[D1]⟩
 |r::R=>by
  obtain⟨bu,h⟩:=LH R;by_cases al:r.K.Key∈bu
  ·refine⟨bu,h.oB,fun k=>?_⟩;rw[zc];split
   ·rename_i e; subst e; simp[al]
   ·exact h.all k
  ·refine⟨e0 (r.K.Key::bu),DJ (List.nodup_cons.2 ⟨al,h.oB.imp fun h=>Int.ne_of_lt h⟩),fun k=>?_⟩;rw[(hY _).mem_iff,zc,List.mem_cons,h.all];split
   ·rename_i e; subst e; simp
   ·rename_i e;constructor
    ·rintro (rfl | h)
     ·exact absurd rfl e
     ·exact h
    ·exact fun h=>.inr h
noncomputable def CU(R:List Row):List Int:=Classical.choose (LH R)
theorem LG(R:List Row):Keys R (CU R):=Classical.choose_spec (LH R)
theorem att{R:List Row}{bu:List Int}(h:Keys R bu):CU R=bu:=(LG R).azo h fun _=>Iff.rfl
noncomputable def w2(z:gF)(t:Int):List h0:=if vH z t=0 then w1 z.rows t (CU z.rows) else []
theorem ayA{R:List Row}{t:Int}{q:List Int}{i:Nat}(h:i<q.length):w1 R t (q.take (i+1))=w1 R t (q.take i)++match j7 (aK R q[i]) t with | none=>[] | some v=>[⟨q[i],v.V⟩]:=by
 unfold w1;rw[List.take_succ_eq_append_getElem h,List.filterMap_append];congr 1;rw[List.filterMap_cons];cases j7 (aK R q[i]) t<;>rfl
theorem azi{z:gF}{t:Int}(h:vH z t=0):0≤t∧t≤1125899906842624∧t≤z.closed∧z.mark≤t:=by
 unfold vH at h;split at h
 ·cases h
 ·split at h
  ·cases h
  ·split at h
   ·cases h
   ·omega
theorem Fs(dB:List (Int×i_)):(iD dB).map (·.1)=dB.map (·.1):=by unfold iD; rw[List.map_map]; rfl
theorem NE:∀ {R:List Int} {qy aq:Int},R.Pairwise (fun x N=>x<N)→(∀ x∈R,qy≤x∧x≤aq)→(R.length:Int)≤max 0 (aq-qy+1)
 |[],_,_,_,_=>by simp only[List.length_nil]; omega
 |x::R,qy,aq,h,aA=>by
  have eI:=List.pairwise_cons.1 h;have B:=aA x (List.mem_cons_self ..);have:=NE (R:=R) (qy:=x+1) (aq:=aq) eI.2 fun N aJ=>⟨by have:=eI.1 N aJ; omega,(aA N (List.mem_cons_of_mem _ aJ)).2⟩
  simp only[List.length_cons]; omega
theorem atv{t:xu}{z:gF}(b6:Inv z)(h:Rel t z)(aO:(t.dB.map (·.1)).Nodup):t.dB.length≤8192:=by
 have B:=NE (R:=e0 (t.dB.map (·.1))) (qy:=0) (aq:=8191) (DJ aO) fun x F=>by
  have F:x∈t.dB.map (·.1):=(hY _).mem_iff.1 F;obtain⟨r,Z,al⟩:=G_.1 ((h.keys x).2 F);have:=b6.key r Z;omega
 rw[(hY _).length_eq,List.length_map] at B;omega
section
variable {y w:World} {c bx:List bt}
theorem ayz{b:Nat}{z:gF}{t:Int}(b6:Inv z)(H:E y (eF b z::c) w):L Pg 88 [.pointer (some ⟨b,0,none⟩),.int .i64 t] (bJ O (D .i64)) w fun r I=>r.2=vH z t∧E y (row jC 174 2 r.1 (w2 z t)::eF b z::c) I:=by
 refine ac1 ?_;unfold Rz;refine aE (azj (t:=t) H) ?_;rintro r eu ⟨rfl,H⟩;unfold w2;split
 ·rename_i W;have W:vH z t≠0:=by simpa using W
  rw[if_neg W];exact⟨rfl,jW jC 174 2 H⟩
 ·rename_i W;have W:vH z t=0:=by simpa using W
  rw[if_pos W];obtain⟨akr,aks,K3,aA6⟩:=azi W;obtain⟨p,h,lV,H⟩:=tJ H;have Fz:=h.ayD lV;have x2:=atv b6 h lV;rw[att Fz];refine b2 rfl ?_;refine an (x:=some p.m) 0 H rfl rfl rfl ?_;refine aat ?_;unfold O7;refine cj H fun ep cK H=>?_;have KT:∀ e∈iD p.dB,-9223372036854775808≤e.1∧e.1≤9223372036854775807:=by
   intro e he;have:e.1∈p.dB.map (·.1):=by rw[← Fs]; exact List.mem_map.2 ⟨e,he,rfl⟩
   obtain⟨r,Z,al⟩:=G_.1 ((h.keys _).2 this);have:=b6.key r Z;omega
  refine aE (ayE KT (by unfold iD; rw[List.length_map]; omega) (H.ord [0,2])) ?_;rintro s a6 ⟨bu,aH,H⟩;have a5:(bu.mergeSort fun x N=>decide (x≤N))=e0 (p.dB.map (·.1)):=by rw[Fs] at aH; exact w3 aH
  rw[a5] at H;have aF:=ho H;have sw:(e0 (p.dB.map (·.1))).length≤9000:=by rw[(hY _).length_eq,List.length_map]; omega
  generalize e0 (p.dB.map (·.1))=q at *;have H:=jW jC 174 2 H;refine wH (fun x w=>0≤x.2∧x.2≤q.length∧E y (row jC 174 2 x.1 (w1 z.rows t (q.take x.2.toNat))::row (D .i64) 3 1 s q::aN ep [.map (some p.m)] 205::bR aM .i64 p.m (iD p.dB)::aN b (nX.cells ⟨some p.m,z.closed,z.mark⟩) 208::k1 (aK z.rows) p.dB::c) w) (fun x=>(q.length-x.2).toNat)
   ⟨Int.le_refl 0,by simp only; omega,H⟩ ?_
  rintro⟨out,i⟩ w ⟨am,B,H⟩;simp only at am B;simp only;unfold IP;rw[aF];split
  ·rename_i h1;have h1:i<q.length:=by simpa using h1
   have aT:IntKind.i64.wrap (i+1)=i+1:=wrap_i64 (by omega) (by omega);have F:q[i.toNat]?=some q[i.toNat]:=List.getElem?_eq_getElem (by omega);have wD:=ayA (R:=z.rows) (t:=t) (q:=q) (i:=i.toNat) (by omega);have js:q[i.toNat]∈p.dB.map (·.1):=(h.keys _).1 ((Fz.all _).1 (List.getElem_mem _));have m1:(w1 z.rows t (q.take i.toNat)).length≤9000:=by
    unfold w1;refine Nat.le_trans (List.length_filterMap_le _ _) ?_;rw[List.length_take]; omega
   obtain⟨a,ag⟩:=ih (ao:=1) (i:=i) (H.front 1) am h1;refine aQ a ag ?_;refine aQ q[i.toNat] (lz (fun _=>rfl) ag F (H.front 1)) ?_;generalize q[i.toNat]=k at *;refine an (x:=some p.m) 4 H rfl rfl rfl ?_;refine iV 3 H rfl rfl ?_;rw[Ao];obtain⟨e,he,Fx⟩:=List.mem_map.1 js;obtain⟨o9,C⟩:=e;simp only at Fx;subst Fx;have jc:=F9 lV he;rw[jc];obtain⟨cx,cE,nD⟩:=An jc;have Cw:=(h.marks _ he).2;have H:=H.front 5;rw[nD] at H;have H:=BP H;have hR:(aK z.rows o9).length≤10000:=b6.cap o9;refine aE (ae2 (C:=C) (at_:=t) (by show (aK z.rows o9).length≤_; omega) (D2 b6.oB o9) akr aks (by simp only at Cw; omega) H) ?_;rintro r aV ⟨rfl,H⟩;have H:=EY (e:=(o9,C)) H;rw[← nD] at H;refine cj H fun n1 bb H=>?_;cases TN:j7 (aK z.rows o9) t with
   |none=>
    rw[TN] at wD;dsimp only;refine fb (x:=iy) (N:=(⟨0,0⟩:ei)) oa 0 H rfl fun bK H=>?_;rw[if_neg (by simp)];unfold Bu;rw[aT];refine⟨⟨by simp only; omega,by simp only; omega,?_⟩,by simp only; omega⟩;simp only;rw[show (i+1).toNat=i.toNat+1 from by omega,wD,List.append_nil];exact H.drop.ord [1,2,3,4,5,0]
   |some v=>
    rw[TN] at wD;dsimp only;refine fb (x:=iy) (N:=v) oa 0 H rfl fun bK H=>?_;rw[if_pos (by simp)];refine an (x:=v.V) 0 H rfl rfl rfl ?_;refine me (fun _=>rfl) 2 H rfl (by simp only[List.length_singleton]; omega) fun s2 bH H=>?_;unfold Bu;rw[aT];refine⟨⟨by simp only; omega,by simp only; omega,?_⟩,by simp only; omega⟩;simp only;rw[show (i+1).toNat=i.toNat+1 from by omega,wD];exact ((H.front 1).drop).ord [0,2,3,4,5,1]
  ·rename_i h1;have h1:i=q.length:=by simp at h1; omega
   subst h1;have e:q.take ((q.length:Int)).toNat=q:=by simp
   rw[e] at H;refine⟨W.symm,?_⟩;exact ((oD h (((H.front 1).drop.front 1).drop.ord [2,1,3])).front 1)
theorem Ti{ev:Type}{p:Int×ev}{left:List (Int×ev)}(aH:p∈left):(left.filter fun q=>q.1 != p.1).length<left.length:=by
 induction left with
 |nil=>cases aH
 |cons x left b8=>
  rw[List.filter_cons];by_cases o:(x.1 != p.1)=true
  ·rw[if_pos o];rcases List.mem_cons.1 aH with e | aH
   ·rw[e] at o; simp at o
   ·have:=b8 aH;simp only[List.length_cons]; omega
  ·rw[if_neg o];have:=List.length_filter_le (fun q:Int×ev=>q.1 != p.1) left;simp only[List.length_cons]; omega
def cut(mark:Int)(rows:List Row)(left:List (Int×Option Addr))(k:Int):List ei:=if left.any (fun q=>q.1==k)=true then aK rows k else m3 mark (aK rows k)
theorem awC{b:Nat}{z:gF}{t:Int}(b6:Inv z)(H:E y (eF b z::c) w):L Pg 208 [.pointer (some ⟨b,0,none⟩),.int .i64 t] (D .i64) w fun r I=>r=tE z t∧E y (eF b (qF z t)::c) I:=by
 refine aby ?_;unfold P5;refine aE (Lr H) ?_;rintro r eu ⟨rfl,H⟩;unfold qF;split
 ·rename_i W;have e:tE z t=120:=by unfold tE; rw[if_pos (by simp at W; omega)]
  rw[e,if_neg (by omega)];exact⟨rfl,H⟩
 ·rename_i W;have W:¬ (t<0∨t>1125899906842624):=by simp at W; omega
  obtain⟨p,h,lV,H⟩:=tJ H;refine b2 rfl ?_;refine an (x:=z.closed) 0 H rfl rfl rfl ?_;split
  ·rename_i h1;have e:tE z t=128:=by unfold tE; rw[if_neg W,if_pos (by simpa using h1)]
   rw[e,if_neg (by omega)];exact⟨rfl,oD h H⟩
  ·rename_i h1;have h1:¬ t>z.closed:=by simpa using h1
   have e:tE z t=0:=by unfold tE; rw[if_neg W,if_neg h1]
   rw[e,if_pos rfl];have Cw:=b6.mark;refine an (x:=z.mark) 0 H rfl rfl rfl ?_;refine eg (x:=max z.mark t) 0 H rfl rfl (Nat.le_of_ble_eq_true rfl) fun cK H=>?_;have H:E y (aN b (nX.cells ⟨some p.m,z.closed,max z.mark t⟩) 208::bR aM .i64 p.m (iD p.dB)::k1 (aK z.rows) p.dB::c) cK:=H;generalize qs:max z.mark t=m_ at *;have KI:z.mark≤m_∧0≤m_∧m_≤1125899906842624:=by omega
   refine an (x:=some p.m) 0 H rfl rfl rfl ?_;refine Yp 1 H rfl rfl fun it a6 H=>?_;have ako:k1 (aK z.rows) p.dB=k1 (cut m_ z.rows (iD p.dB)) p.dB:=Jl fun e he=>by
    unfold cut;have:(iD p.dB).any (fun q=>q.1==e.1)=true:=List.any_eq_true.2 ⟨(e.1,some (⟨e.2.b,0,none⟩:Addr)),List.mem_map.2 ⟨e,he,rfl⟩,by simp⟩;rw[if_pos this]
   rw[ako] at H;refine Aq (fun n _ w=>∃ left jq dB,n=left.length∧(∀ q∈left,q∈iD p.dB)∧iD dB=iD p.dB∧(∀ e∈dB,0≤e.2.mark∧e.2.mark≤m_)∧E y (pS aM .i64 p.m it (iD p.dB) left jq::aN b (nX.cells ⟨some p.m,z.closed,m_⟩) 208::k1 (cut m_ z.rows left) dB::c) w) _ ⟨iD p.dB,none,p.dB,rfl,fun _ h=>h,rfl,fun e he=>by have:=h.marks e he; omega,H⟩ ?_;clear H;rintro o _ w ⟨left,jq,dB,rfl,B,J,au,H⟩ aa b7;have n8:dB.map (·.1)=p.dB.map (·.1):=by rw[← Fs,← Fs,J]
   unfold Ig;refine V2 0 H rfl rfl (fun he H=>?_) fun q a5 aV H=>?_
   ·rw[if_neg (by simp)];subst he;have Fy:k1 (cut m_ z.rows []) dB=k1 (aK (bL m_ z.rows)) dB:=Jl fun e _=>by
     unfold cut; rw[if_neg (by simp),G9]
    rw[Fy] at H;have H:=GL H;rw[← J] at H;refine⟨rfl,oD (t:=⟨p.m,dB⟩) (z:=⟨bL m_ z.rows,z.closed,m_⟩) ⟨fun k=>?_,au⟩ (H.ord [1,0])⟩;rw[n8,← h.keys k,G9,ne_eq,ne_eq,U6 (D2 b6.oB k)]
   ·rw[if_pos (by simp)];refine SY 0 H rfl rfl ?_;refine an (x:=m_) 1 H rfl rfl rfl ?_;have mn:=B q a5;rw[← J] at mn;obtain⟨e,he,rfl⟩:=List.mem_map.1 mn;obtain⟨k,C⟩:=e;obtain⟨cx,cE,nD⟩:=List.append_of_mem he;have KK:((cx++(k,C)::cE).map (·.1)).Nodup:=by rw[← nD,n8]; exact lV
    have ajY:=others KK;have H:=H.front 2;rw[nD] at H;have H:=BP H;have J6:cut m_ z.rows left k=aK z.rows k:=by
     unfold cut; rw[if_pos (List.any_eq_true.2 ⟨_,a5,by simp⟩)]
    have H:E y (kq C (aK z.rows k)::k1 (cut m_ z.rows left) (cx++cE)::pS aM .i64 p.m it (iD p.dB) (left.filter fun q=>q.1 != k) (some (k,some ⟨C.b,0,none⟩))::aN b (nX.cells ⟨some p.m,z.closed,m_⟩) 208::c) aV:=by rw[← J6]; exact H
    have hR:(aK z.rows k).length≤10000:=b6.cap k;refine aE (ae9 (C:=C) (mark:=m_) (by omega) (D2 b6.oB k) KI.2.1 KI.2.2 (au _ he).2 H) ?_;rintro r bb ⟨s,H⟩
    have H:=Sf (lm:=cut m_ z.rows (left.filter fun q=>q.1 != k)) (k:=k) (by
     unfold cut;rw[if_neg];rw[List.any_filter,List.any_eq_true];rintro⟨q,_,h⟩;simp at h) (fun lP u2=>by
     have ec:=ajY lP u2;unfold cut;have:(left.filter fun q=>q.1 != k).any (fun q=>q.1==lP.1)=left.any (fun q=>q.1==lP.1):=by
      rw[List.any_filter];congr 1;funext q;by_cases o:q.1=lP.1
      ·simp[o,ec]
      ·simp[o]
     rw[this]) H
    refine b7 _ _ _ (Ti a5) ⟨_,_,cx++(k,⟨C.b,s,m_⟩)::cE,rfl,fun q a5=>B q (List.mem_filter.1 a5).1,?_,fun lP u2=>?_,H.ord [1,2,0]⟩
    ·rw[← J,nD]; unfold iD; simp
    ·rcases List.mem_append.1 u2 with u2 | u2
     ·exact au lP (by rw[nD]; exact List.mem_append_left _ u2)
     ·rcases List.mem_cons.1 u2 with rfl | u2
      ·exact⟨KI.2.1,Int.le_refl _⟩
      ·exact au lP (by rw[nD]; exact List.mem_append_right _ (List.mem_cons_of_mem _ u2))
end
end Store
namespace Vault
open ba Store Num
abbrev Part:=hd
abbrev kV:=oR
abbrev p7:=pr
abbrev mJ:=h0
structure cf where
 fg:Nat
 ad:gF
 fa:Int
 held:List (Int×kV)
 busy:List (Int×Int)
 dR:List (Int×p7)
def o8(a:Int):Prop:=0≤a∧a<4096
instance (a:Int):Decidable (o8 a):=by unfold o8; infer_instance
instance (a:Int):Decidable (g_ a):=by unfold g_; infer_instance
def rq(v:cf)(t:Int):Int:=if t<1∨t>1125899906842624 then 151 else if t≤v.fa then 152 else 0
def fk(v:cf)(a:Int):ei×Bool:=m5 (aK v.ad.rows a)
def AB(v:cf)(t a n:Int):cf×Int:=
 if rq v t≠0 then (v,rq v t) else if ¬ o8 a then (v,153) else if (fk v a).2=true then (v,154) else if ¬ g_ n then (v,155)
 else ({ v with ad:=lw v.ad t [⟨a,n⟩],fa:=max v.fa t },0)
def nP(v:cf)(p:Part):Int×Int:=
 if p.df<1 then (0,156) else if (v.dR.lookup p.df).isSome=true then (0,157) else if 5000≤v.dR.length then (0,158) else if ¬ o8 p.b4 then (0,153)
 else if p.ar<1∨¬ g_ p.ar then (0,155) else if (fk v p.b4).2=false then (0,159) else if (v.busy.lookup p.b4).isSome=true then (0,160)
 else if p.jm=false then (if g_ (fk v p.b4).1.V∧(fk v p.b4).1.V+p.ar≤1000000000000000 then (0,0) else (0,162))
 else if (fk v p.b4).1.V<p.ar+mj p.ar v.fg then (0,161) else (mj p.ar v.fg,0)
def aii(v:cf)(t:Int)(p:Part)(q8:Int):cf:={ v with held:=bM p.df ⟨p,t,q8⟩ v.held,busy:=bM p.b4 p.df v.busy,dR:=bM p.df ⟨1,t⟩ v.dR,fa:=max v.fa t }
def Aa(v:cf)(t:Int)(p:Part):cf×Int:=
 if rq v t≠0 then (v,rq v t) else if (nP v p).2≠0 then (v,(nP v p).2) else (aii v t p (nP v p).1,0)
def xU(v:cf)(h:kV):cf:={ v with held:=del h.Part.df v.held,busy:=del h.Part.b4 v.busy }
def rZ(v:cf)(h:kV):List mJ:=
 if h.Part.jm=false then [⟨h.Part.b4,IntKind.i64.wrap ((fk v h.Part.b4).1.V+h.Part.ar)⟩]
 else ⟨h.Part.b4,IntKind.i64.wrap (IntKind.i64.wrap ((fk v h.Part.b4).1.V-h.Part.ar)-h.p6)⟩ ::
  if h.p6>0 then [⟨IntKind.i64.wrap (4096+h.Part.b4),IntKind.i64.wrap ((fk v (IntKind.i64.wrap (4096+h.Part.b4))).1.V+h.p6)⟩] else []
def ll(v:cf)(id:Int):p7:=(v.dR.lookup id).getD ⟨0,0⟩
def mZ(v:cf)(id:Int):kV:=(v.held.lookup id).getD ⟨⟨0,0,0,false⟩,0,0⟩
def SL(v:cf)(t id:Int)(h:kV):cf:={ xU v h with ad:=lw v.ad t (rZ v h),dR:=bM id ⟨2,t⟩ v.dR,fa:=max v.fa t }
def zN(v:cf)(t id:Int):cf×Int:=
 if t<1∨t>1125899906842624 then (v,151) else if (ll v id).po=2 then (if (ll v id).rC≠t then (v,157) else (v,0))
 else if (ll v id).po=1 then (if t<(mZ v id).c6 then (v,152) else (SL v t id (mZ v id),0)) else (v,163)
def ra(v:cf)(id:Int):cf:=match v.held.lookup id with
 |some h=>xU v h
 |none=>v
def zT(v:cf)(id:Int):cf×Int:=
 if id<1 then (v,156) else if (ll v id).po=2 then (v,157) else if (v.dR.lookup id).isSome=false∧5000≤v.dR.length then (v,158)
 else ({ ra v id with dR:=bM id ⟨3,0⟩ v.dR },0)
def r0(v:cf)(t:Int):cf×Int:=
 if t<0∨t>1125899906842624 then (v,151) else if v.held.any (fun e=>decide (e.2.c6≤t))=true then (v,160)
 else ({ v with ad:=qi v.ad t,fa:=max v.fa t },0)
def G3(e:Int):Int:=if e=120 then 151 else if e=128 then 164 else if e=126 then 165 else if e=127 then 159 else e
def Gy(v:cf)(t:Int):cf×Int:=({ v with ad:=qF v.ad t },G3 (tE v.ad t))
def Co(v:cf):List kV:=(e0 (v.held.map (·.1))).map (mZ v)
theorem NZ{ev:Type}{k:Int}{v:ev}(es:List (Int×ev)):(bM k v es).length=if (es.lookup k).isSome=true then es.length else es.length+1:=by
 have h:=congrArg List.length (LI k v es);rw[List.length_map] at h;rw[h];split<;>simp
def xg(v:cf)(h:kV):Prop:=aK v.ad.rows h.Part.b4≠[]∧(h.Part.jm=true→h.Part.ar+h.p6≤(fk v h.Part.b4).1.V)∧(h.Part.jm=false→g_ (fk v h.Part.b4).1.V∧(fk v h.Part.b4).1.V+h.Part.ar≤1000000000000000)
structure Fit(v:cf):Prop where
 eF:Inv v.ad
 fg:iE v.fg
 ids:∀ id h,v.held.lookup id=some h→h.Part.df=id∧1≤id∧id≤9223372036854775807∧o8 h.Part.b4∧v.dR.lookup id=some ⟨1,h.c6⟩∧v.busy.lookup h.Part.b4=some id ∧
  v.ad.closed<h.c6∧h.c6≤v.fa∧1≤h.Part.ar∧h.Part.ar≤1000000000000000∧0≤h.p6∧h.p6≤2000000000000000∧xg v h∧∀ r∈v.ad.rows,r.K.Key=h.Part.b4∨r.K.Key=4096+h.Part.b4→r.c6<h.c6
 busy:∀ a id,v.busy.lookup a=some id→∃ h,v.held.lookup id=some h∧h.Part.b4=a
 uz:∀ id f,v.dR.lookup id=some f→1≤id∧((f.po=1∧∃ h,v.held.lookup id=some h∧h.c6=f.rC)∨(f.po=2∧1≤f.rC∧f.rC≤1125899906842624)∨(f.po=3∧f.rC=0))
 wI:v.dR.length≤5000
 sD:(v.held.map (·.1)).Nodup
 yy:(v.busy.map (·.1)).Nodup
 Au:(v.dR.map (·.1)).Nodup
 fa:v.ad.closed≤v.fa∧v.fa≤1125899906842624
 rows:∀ r∈v.ad.rows,r.c6≤v.fa
theorem aij{v:cf}(h:Fit v):∀ e∈v.held,1≤e.1∧e.1≤9223372036854775807:=fun e he=>by
 have:=h.ids e.1 e.2 (F9 h.sD he);omega
theorem TS{v:cf}(h:Fit v):v.held.length≤5000:=by
 refine Nat.le_trans ?_ h.wI;have B:(v.held.map (·.1)) ⊆ (v.dR.map (·.1)):=by
  intro k al;obtain⟨e,he,rfl⟩:=List.mem_map.1 al;have:=(h.ids e.1 e.2 (F9 h.sD he)).2.2.2.2.1;exact List.mem_map.2 ⟨_,LW this,rfl⟩
 have:=h.sD.length_le_of_subset B;simpa using this
theorem TR{v:cf}{id:Int}{h:kV}(e:v.held.lookup id=some h):mZ v id=h:=by unfold mZ; rw[e]; rfl
theorem ag0{v:cf}{id:Int}{f:p7}(e:v.dR.lookup id=some f):ll v id=f:=by unfold ll; rw[e]; rfl
theorem aik{v:cf}(aD:Fit v){id:Int}(e:(ll v id).po=1):∃ h,v.held.lookup id=some h∧h.c6=(ll v id).rC∧v.dR.lookup id=some (ll v id):=by
 cases ap:v.dR.lookup id with
 |none=>unfold ll at e; rw[ap] at e; simp at e
 |some f=>
  rw[ag0 ap] at e ⊢;rcases (aD.uz id f ap).2 with ⟨_,h⟩ | ⟨h,_⟩ | ⟨h,_⟩
  ·obtain⟨h,B,J⟩:=h;exact⟨h,B,J,rfl⟩
  ·omega
  ·omega
theorem VX{v:cf}{t:Int}(h:rq v t=0):1≤t∧t≤1125899906842624∧v.fa<t:=by
 unfold rq at h;split at h
 ·omega
 ·split at h
  ·omega
  ·omega
theorem ZT{v:cf}{p:Part}(h:(nP v p).2=0):1≤p.df∧v.dR.lookup p.df=none∧v.dR.length<5000∧o8 p.b4∧1≤p.ar∧p.ar≤1000000000000000∧(fk v p.b4).2=true∧v.busy.lookup p.b4=none ∧
  ((p.jm=false∧(nP v p).1=0∧g_ (fk v p.b4).1.V∧(fk v p.b4).1.V+p.ar≤1000000000000000)∨(p.jm=true∧(nP v p).1=mj p.ar v.fg∧p.ar+mj p.ar v.fg≤(fk v p.b4).1.V)):=by
 unfold nP at h ⊢;by_cases bF:p.df<1
 ·rw[if_pos bF] at h; simp at h
 ·rw[if_neg bF] at h ⊢;by_cases bP:(v.dR.lookup p.df).isSome=true
  ·rw[if_pos bP] at h; simp at h
  ·rw[if_neg bP] at h ⊢;by_cases di:5000≤v.dR.length
   ·rw[if_pos di] at h; simp at h
   ·rw[if_neg di] at h ⊢;by_cases hh:¬ o8 p.b4
    ·rw[if_pos hh] at h; simp at h
    ·rw[if_neg hh] at h ⊢;by_cases c5:p.ar<1∨¬ g_ p.ar
     ·rw[if_pos c5] at h; simp at h
     ·rw[if_neg c5] at h ⊢;by_cases oW:(fk v p.b4).2=false
      ·rw[if_pos oW] at h; simp at h
      ·rw[if_neg oW] at h ⊢;by_cases c7:(v.busy.lookup p.b4).isSome=true
       ·rw[if_pos c7] at h; simp at h
       ·rw[if_neg c7] at h ⊢;have a0:v.dR.lookup p.df=none:=Option.not_isSome_iff_eq_none.1 bP;have Jv:v.busy.lookup p.b4=none:=Option.not_isSome_iff_eq_none.1 c7;have ny:g_ p.ar:=Classical.byContradiction fun W=>c5 (.inr W);refine⟨by omega,a0,by omega,Classical.not_not.1 hh,by omega,ny.2,by simpa using oW,Jv,?_⟩;by_cases c8:p.jm=false
        ·rw[if_pos c8] at h ⊢;by_cases c9:g_ (fk v p.b4).1.V∧(fk v p.b4).1.V+p.ar≤1000000000000000
         ·rw[if_pos c9];exact .inl ⟨c8,rfl,c9.1,c9.2⟩
         ·rw[if_neg c9] at h; simp at h
        ·rw[if_neg c8] at h ⊢;by_cases c9:(fk v p.b4).1.V<p.ar+mj p.ar v.fg
         ·rw[if_pos c9] at h; simp at h
         ·rw[if_neg c9];exact .inr ⟨by simpa using c8,rfl,by omega⟩
theorem Fit.new{r:Nat}(h:iE r):Fit ⟨r,⟨[],0,0⟩,0,[],[],[]⟩:=
 ⟨⟨fun k=>by simp[D1],fun r h=>(by cases h),fun r h=>(by cases h),List.Pairwise.nil,by simp⟩,h,fun id h e=>by simp at e,fun a id e=>by simp at e,fun id f e=>by simp at e,by simp,by simp,by simp,by simp,by simp,fun r h=>by cases h⟩
theorem awF(z:gF)(t:Int)(xs:List mJ):(lw z t xs).closed=z.closed∧(lw z t xs).mark=z.mark:=by unfold lw; split<;>exact⟨rfl,rfl⟩
theorem WZ{z:gF}{t:Int}{xs:List mJ}{r:Row}(h:r∈(lw z t xs).rows):r∈z.rows∨(r.c6=t∧r.K∈xs):=by
 unfold lw at h;split at h
 ·rcases List.mem_append.1 h with h | h
  ·exact .inl h
  ·obtain⟨x,F,rfl⟩:=List.mem_map.1 h;exact .inr ⟨rfl,F⟩
 ·exact .inl h
theorem azF{z:gF}{t k:Int}{xs:List mJ}(h:∀ x∈xs,x.Key≠k):aK (lw z t xs).rows k=aK z.rows k:=by
 unfold lw;split
 ·simp only;rw[D0,Ha,List.append_nil];intro hm;obtain⟨x,F,e⟩:=List.mem_map.1 hm;exact h x F e
 ·rfl
theorem Vm(m:Int):∀ c:List ei,(m3 m c).getLast?=c.getLast?
 |[]=>rfl
 |v::c=>by
  have b8:=Vm m c;unfold m3;split
  ·rename_i W;rw[b8];cases c with
   |nil=>simp at W
   |cons u w8=>rw[List.getLast?_cons_cons]
  ·rw[List.getLast?_cons,List.getLast?_cons,b8]
theorem Vn{v:cf}{a:Int}:(fk v a).2=true↔aK v.ad.rows a≠[]:=by
 unfold fk m5;cases ax:aK v.ad.rows a with
 |nil=>simp
 |cons x xs=>simp[List.getLast?_cons]
theorem Sc{v u:cf}{h:kV}(e:aK u.ad.rows h.Part.b4=aK v.ad.rows h.Part.b4)(b:xg v h):xg u h:=by
 unfold xg fk at *;rw[e]; exact b
theorem aew{v:cf}{h:kV}(aD:Inv v.ad)(t:Int)(b:xg v h):xg { v with ad:=qF v.ad t } h:=by
 unfold qF;split
 ·unfold xg fk m5 at *;simp only;rw[G9,Vm,ne_eq,U6 (D2 aD.oB _)];exact b
 ·exact b
theorem Fit.W0{v:cf}(aD:Fit v){t:Int}{xs:List mJ}(am:t≤1125899906842624)(F:∀ id h,v.held.lookup id=some h→∀ x∈xs,x.Key≠h.Part.b4∧x.Key≠4096+h.Part.b4):Fit { v with ad:=lw v.ad t xs,fa:=max v.fa t }:=by
 have W:=awF v.ad t xs;have ak:=aD.fa;refine⟨aD.eF.put t _,aD.fg,fun id h e=>?_,aD.busy,aD.uz,aD.wI,aD.sD,aD.yy,aD.Au,⟨by show (lw _ _ _).closed≤max _ _; rw[W.1]; omega,by show max _ _≤_; omega⟩,fun r Z=>?_⟩
 ·obtain⟨cD,dC,fx,jO,q_,Cd,JR,Tp,JS,JN,JO,JP,Cc,JQ⟩:=aD.ids id h e;refine⟨cD,dC,fx,jO,q_,Cd,by show (lw _ _ _).closed<_; rw[W.1]; exact JR,by show _≤max _ _; omega,JS,JN,JO,JP,Sc (azF fun x yc=>(F id h e x yc).1) Cc,fun r Z al=>?_⟩;rcases WZ Z with Z | ⟨_,Z⟩
  ·exact JQ r Z al
  ·have:=F id h e _ Z;omega
 ·rcases WZ Z with Z | ⟨Z,_⟩
  ·have:=aD.rows r Z;show _≤max _ _; omega
  ·show _≤max _ _; omega
theorem Fit.open{v:cf}(aD:Fit v)(t a n:Int):Fit (AB v t a n).1:=by
 unfold AB;split
 ·exact aD
 ·rename_i B;have B:rq v t=0:=Classical.not_not.1 B;obtain⟨t0,t1,t2⟩:=VX B;split
  ·exact aD
  ·rename_i ag;have ag:o8 a:=Classical.not_not.1 ag;split
   ·exact aD
   ·rename_i J;split
    ·exact aD
    ·refine aD.W0 t1 fun id h e x F=>?_;obtain⟨_,_,_,jO,_,_,_,_,_,_,_,_,Cc,_⟩:=aD.ids id h e;have F:=List.mem_singleton.1 F;subst F;have au:=jO.1;have a8:=ag.2;refine⟨fun e=>?_,fun e=>?_⟩
     ·simp only at e;subst e;exact J (Vn.2 Cc.1)
     ·simp only at e;omega
theorem Fit.free{v:cf}(aD:Fit v){id:Int}{h:kV}(e:v.held.lookup id=some h){f:p7}(ap:(f.po=2∧1≤f.rC∧f.rC≤1125899906842624)∨(f.po=3∧f.rC=0)):Fit { xU v h with dR:=bM id f v.dR }:=by
 obtain⟨cD,dC,fx,jO,q_,Cd,JR,Tp,JS,JN,JO,JP,Cc,JQ⟩:=aD.ids id h e;have vj:∀ x,(del h.Part.df v.held).lookup x=if x==id then none else v.held.lookup x:=fun x=>by rw[C2 _ _ _ aD.sD,cD]
 have vi:∀ x,(del h.Part.b4 v.busy).lookup x=if x==h.Part.b4 then none else v.busy.lookup x:=fun x=>by rw[C2 _ _ _ aD.yy]
 refine⟨aD.eF,aD.fg,fun x k ex=>?_,fun a x ex=>?_,fun x k ex=>?_,?_,Mi aD.sD,Mi aD.yy,qA aD.Au,aD.fa,aD.rows⟩
 ·have ex:(del h.Part.df v.held).lookup x=some k:=ex;rw[vj] at ex;by_cases o:x=id
  ·simp[o] at ex
  ·rw[if_neg (by simpa using o)] at ex;obtain⟨fj,fF,iT,kK,mo,iB,qx,vd,pa,vb,vc,ts,o_,sz⟩:=aD.ids x k ex;refine⟨fj,fF,iT,kK,?_,?_,qx,vd,pa,vb,vc,ts,o_,sz⟩
   ·show (bM id f v.dR).lookup x=_
    rw[lZ,if_neg (by simpa using o)]; exact mo
   ·show (del h.Part.b4 v.busy).lookup _=_
    rw[vi,if_neg]
    ·exact iB
    ·intro W;have W:k.Part.b4=h.Part.b4:=by simpa using W
     rw[W,Cd] at iB;exact o (by injection iB with iB; exact iB.symm)
 ·have ex:(del h.Part.b4 v.busy).lookup a=some x:=ex;rw[vi] at ex;by_cases o:a=h.Part.b4
  ·simp[o] at ex
  ·rw[if_neg (by simpa using o)] at ex;obtain⟨k,qo,o5⟩:=aD.busy a x ex;refine⟨k,?_,o5⟩;show (del h.Part.df v.held).lookup x=_
   rw[vj,if_neg]
   ·exact qo
   ·intro W;have W:x=id:=by simpa using W
    rw[W,e] at qo;injection qo with qo
    exact o (by rw[qo,o5])
 ·have ex:(bM id f v.dR).lookup x=some k:=ex;rw[lZ] at ex;by_cases o:x=id
  ·rw[if_pos (by simpa using o)] at ex;cases ex;exact⟨by omega,.inr ap⟩
  ·rw[if_neg (by simpa using o)] at ex;refine⟨(aD.uz x k ex).1,?_⟩;rcases (aD.uz x k ex).2 with ⟨fj,eI,fF,iT⟩ | fj
   ·refine .inl ⟨fj,eI,?_,iT⟩;show (del h.Part.df v.held).lookup x=_
    rw[vj,if_neg (by simpa using o)]; exact fF
   ·exact .inr fj
 ·show (bM id f v.dR).length≤5000
  rw[NZ,q_,if_pos (by simp)]; exact aD.wI
theorem azP{v:cf}(aD:Fit v){p:Part}(h:(nP v p).2=0):0≤(nP v p).1∧(nP v p).1≤2000000000000000:=by
 obtain⟨_,_,_,_,b_,hv,_,_,uI⟩:=ZT h;rcases uI with ⟨_,e,_⟩ | ⟨_,e,_⟩
 ·omega
 ·have:=S_ (n:=p.ar) (by omega) hv aD.fg;omega
theorem Fit.hold{v:cf}(aD:Fit v){t:Int}{p:Part}(am:p.df≤9223372036854775807):Fit (Aa v t p).1:=by
 unfold Aa;split
 ·exact aD
 ·rename_i B;have B:rq v t=0:=Classical.not_not.1 B;obtain⟨t0,t1,t2⟩:=VX B;split
  ·exact aD
  ·rename_i J;have J:(nP v p).2=0:=Classical.not_not.1 J;have Cq:=azP aD J;obtain⟨dM,aY,aI,bh,aR,bU,cw,eH,jE⟩:=ZT J;generalize (nP v p).1=q8 at Cq jE;have ak:=aD.fa;have ajV:v.held.lookup p.df=none:=by
    cases bV:v.held.lookup p.df with
    |none=>rfl
    |some k=>have:=(aD.ids _ _ bV).2.2.2.2.1; rw[aY] at this; cases this
   have vj:∀ x,(bM p.df (⟨p,t,q8⟩:kV) v.held).lookup x=if x==p.df then some ⟨p,t,q8⟩ else v.held.lookup x:=fun x=>lZ _ _ _ _
   have vi:∀ x,(bM p.b4 p.df v.busy).lookup x=if x==p.b4 then some p.df else v.busy.lookup x:=fun x=>lZ _ _ _ _
   have Al:∀ x,(bM p.df (⟨1,t⟩:p7) v.dR).lookup x=if x==p.df then some ⟨1,t⟩ else v.dR.lookup x:=fun x=>lZ _ _ _ _
   refine⟨aD.eF,aD.fg,fun x k ex=>?_,fun a x ex=>?_,fun x k ex=>?_,?_,qA aD.sD,qA aD.yy,qA aD.Au,⟨by show v.ad.closed≤max v.fa t; omega,by show max v.fa t≤_; omega⟩,fun r Z=>by have:=aD.rows r Z; show _≤max v.fa t; omega⟩
   ·have ex:(bM p.df (⟨p,t,q8⟩:kV) v.held).lookup x=some k:=ex;rw[vj] at ex;by_cases o:x=p.df
    ·rw[if_pos (by simpa using o)] at ex;cases ex;subst o;refine⟨rfl,dM,am,bh,?_,?_,by show v.ad.closed<t; omega,by show t≤max v.fa t; omega,aR,bU,Cq.1,Cq.2,⟨Vn.1 cw,fun aH=>?_,fun aH=>?_⟩,fun r Z _=>?_⟩
     ·show (bM p.df (⟨1,t⟩:p7) v.dR).lookup p.df=_
      rw[Al,if_pos (by simp)]
     ·show (bM p.b4 p.df v.busy).lookup p.b4=_
      rw[vi,if_pos (by simp)]
     ·rcases jE with ⟨q,_⟩ | ⟨_,qG,l2⟩
      ·rw[aH] at q; cases q
      ·show p.ar+q8≤(fk v p.b4).1.V
       rw[qG]; exact l2
     ·rcases jE with ⟨_,_,qG,l2⟩ | ⟨q,_⟩
      ·exact⟨qG,l2⟩
      ·rw[aH] at q; cases q
     ·have:=aD.rows r Z;show r.c6<t; omega
    ·rw[if_neg (by simpa using o)] at ex;obtain⟨fj,fF,iT,kK,mo,iB,qx,vd,pa,vb,vc,ts,o_,sz⟩:=aD.ids x k ex;refine⟨fj,fF,iT,kK,?_,?_,qx,by show _≤max v.fa t; omega,pa,vb,vc,ts,o_,sz⟩
     ·show (bM p.df (⟨1,t⟩:p7) v.dR).lookup x=_
      rw[Al,if_neg (by simpa using o)]; exact mo
     ·show (bM p.b4 p.df v.busy).lookup _=_
      rw[vi,if_neg]
      ·exact iB
      ·intro W;have W:k.Part.b4=p.b4:=by simpa using W
       rw[W,eH] at iB; cases iB
   ·have ex:(bM p.b4 p.df v.busy).lookup a=some x:=ex;rw[vi] at ex;by_cases o:a=p.b4
    ·rw[if_pos (by simpa using o)] at ex;cases ex;refine⟨⟨p,t,q8⟩,?_,o.symm⟩;show (bM p.df (⟨p,t,q8⟩:kV) v.held).lookup p.df=_
     rw[vj,if_pos (by simp)]
    ·rw[if_neg (by simpa using o)] at ex;obtain⟨k,qo,o5⟩:=aD.busy a x ex;refine⟨k,?_,o5⟩;show (bM p.df (⟨p,t,q8⟩:kV) v.held).lookup x=_
     rw[vj,if_neg]
     ·exact qo
     ·intro W;have W:x=p.df:=by simpa using W
      rw[W,ajV] at qo; cases qo
   ·have ex:(bM p.df (⟨1,t⟩:p7) v.dR).lookup x=some k:=ex;rw[Al] at ex;by_cases o:x=p.df
    ·rw[if_pos (by simpa using o)] at ex;cases ex;refine⟨by omega,.inl ⟨rfl,⟨p,t,q8⟩,?_,rfl⟩⟩;show (bM p.df (⟨p,t,q8⟩:kV) v.held).lookup x=_
     rw[vj,if_pos (by simpa using o)]
    ·rw[if_neg (by simpa using o)] at ex;refine⟨(aD.uz x k ex).1,?_⟩;rcases (aD.uz x k ex).2 with ⟨fj,eI,fF,iT⟩ | fj
     ·refine .inl ⟨fj,eI,?_,iT⟩;show (bM p.df (⟨p,t,q8⟩:kV) v.held).lookup x=_
      rw[vj,if_neg (by simpa using o)]; exact fF
     ·exact .inr fj
   ·show (bM p.df (⟨1,t⟩:p7) v.dR).length≤5000
    rw[NZ,aY,if_neg (by simp)]; omega
theorem aeZ{v:cf}{h:kV}(ag:o8 h.Part.b4):∀ x∈rZ v h,x.Key=h.Part.b4∨x.Key=4096+h.Part.b4:=by
 have e:IntKind.i64.wrap (4096+h.Part.b4)=4096+h.Part.b4:=wrap_i64 (by have:=ag.1; omega) (by have:=ag.2; omega);intro x F;unfold rZ at F;rw[e] at F;split at F
 ·rw[List.mem_singleton.1 F]; exact .inl rfl
 ·rcases List.mem_cons.1 F with rfl | F
  ·exact .inl rfl
  ·split at F
   ·rw[List.mem_singleton.1 F]; exact .inr rfl
   ·cases F
theorem Fit.done{v:cf}(aD:Fit v){t id:Int}{h:kV}(e:v.held.lookup id=some h)(am:h.c6≤t)(B:t≤1125899906842624):Fit (SL v t id h):=by
 obtain⟨cD,dC,fx,jO,q_,Cd,JR,Tp,JS,JN,JO,JP,Cc,JQ⟩:=aD.ids id h e;have ak:=aD.fa;have hm:=aD.eF.mark;have Z7:=aD.free e (f:=⟨2,t⟩) (.inl ⟨rfl,by show 1≤t; omega,B⟩);have abo:=Z7.W0 (t:=t) (xs:=rZ v h) B fun x k ex N aJ=>by
  have ex:(del h.Part.df v.held).lookup x=some k:=ex;rw[C2 _ _ _ aD.sD,cD] at ex;by_cases o:x=id
  ·simp[o] at ex
  ·rw[if_neg (by simpa using o)] at ex;obtain⟨fj,fF,iT,kK,mo,iB,_⟩:=aD.ids x k ex;have ec:k.Part.b4≠h.Part.b4:=fun W=>by
    rw[W,Cd] at iB;exact o (by injection iB with iB; exact iB.symm)
   have J:=kK.1;have au:=kK.2;have a8:=jO.1;have b_:=jO.2;rcases aeZ jO N aJ with aJ | aJ<;>omega
 exact abo
theorem Fit.afl{v:cf}(aD:Fit v)(t id:Int):Fit (zN v t id).1:=by
 unfold zN;split
 ·exact aD
 ·rename_i am;split
  ·split<;>exact aD
  ·split
   ·rename_i B;obtain⟨h,aT,a0,cS⟩:=aik aD B;rw[TR aT];split
    ·exact aD
    ·exact aD.done aT (by omega) (by omega)
   ·exact aD
theorem Fit.drop{v:cf}(aD:Fit v)(id:Int):Fit (zT v id).1:=by
 unfold zT;split
 ·exact aD
 ·split
  ·exact aD
  ·split
   ·exact aD
   ·rename_i B J au;cases e:v.held.lookup id with
    |some h=>
     have:=aD.free e (f:=⟨3,0⟩) (.inr ⟨rfl,rfl⟩);unfold ra;rw[e]; exact this
    |none=>
     unfold ra;rw[e];have Al:∀ x,(bM id (⟨3,0⟩:p7) v.dR).lookup x=if x==id then some ⟨3,0⟩ else v.dR.lookup x:=fun x=>lZ _ _ _ _
     refine⟨aD.eF,aD.fg,fun x k ex=>?_,aD.busy,fun x k ex=>?_,?_,aD.sD,aD.yy,qA aD.Au,aD.fa,aD.rows⟩
     ·obtain⟨fj,fF,iT,kK,mo,iB,qx,vd,pa,vb,vc,ts,o_,sz⟩:=aD.ids x k ex;refine⟨fj,fF,iT,kK,?_,iB,qx,vd,pa,vb,vc,ts,o_,sz⟩;show (bM id (⟨3,0⟩:p7) v.dR).lookup x=_
      rw[Al,if_neg]
      ·exact mo
      ·intro W;have W:x=id:=by simpa using W
       have ex:v.held.lookup x=some k:=ex;rw[W,e] at ex; cases ex
     ·have ex:(bM id (⟨3,0⟩:p7) v.dR).lookup x=some k:=ex;rw[Al] at ex;by_cases o:x=id
      ·rw[if_pos (by simpa using o)] at ex;cases ex;exact⟨by omega,.inr (.inr ⟨rfl,rfl⟩)⟩
      ·rw[if_neg (by simpa using o)] at ex;exact aD.uz x k ex
     ·show (bM id (⟨3,0⟩:p7) v.dR).length≤5000
      rw[NZ];split
      ·exact aD.wI
      ·rename_i aO;have aO:(v.dR.lookup id).isSome=false:=(Bool.not_eq_true _).mp aO;have:¬ 5000≤v.dR.length:=fun W=>au ⟨aO,W⟩;omega
theorem Fit.close{v:cf}(aD:Fit v)(t:Int):Fit (r0 v t).1:=by
 unfold r0;split
 ·exact aD
 ·rename_i am;split
  ·exact aD
  ·rename_i B;have ak:=aD.fa;have x2:(qi v.ad t).rows=v.ad.rows∧(qi v.ad t).closed≤max v.ad.closed t:=by unfold qi; split; exact⟨rfl,Int.le_refl _⟩; exact⟨rfl,by omega⟩
   refine⟨aD.eF.close t,aD.fg,fun x k ex=>?_,aD.busy,aD.uz,aD.wI,aD.sD,aD.yy,aD.Au,⟨by show (qi v.ad t).closed≤max v.fa t; omega,by show max v.fa t≤_; omega⟩,fun r Z=>?_⟩
   ·obtain⟨fj,fF,iT,kK,mo,iB,qx,vd,pa,vb,vc,ts,o_,sz⟩:=aD.ids x k ex;have aAW:t<k.c6:=by
     apply Classical.byContradiction;intro W;exact B (List.any_eq_true.2 ⟨(x,k),LW ex,by simp; omega⟩)
    refine⟨fj,fF,iT,kK,mo,iB,by show (qi v.ad t).closed<_; omega,by show _≤max v.fa t; omega,pa,vb,vc,ts,Sc (by show aK (qi v.ad t).rows _=_; rw[x2.1]) o_,fun r Z=>sz r (by rw[← x2.1]; exact Z)⟩
   ·have:=aD.rows r (by rw[← x2.1]; exact Z);show _≤max v.fa t; omega
theorem awB(z:gF)(t:Int):(qF z t).closed=z.closed∧∀ r∈(qF z t).rows,r∈z.rows:=by
 unfold qF;split
 ·exact⟨rfl,fun r Z=>(LF _ _).subset Z⟩
 ·exact⟨rfl,fun r Z=>Z⟩
theorem Fit.MW{v:cf}(aD:Fit v)(t:Int):Fit (Gy v t).1:=by
 have aH:=awB v.ad t;refine⟨aD.eF.MW t,aD.fg,fun x k ex=>?_,aD.busy,aD.uz,aD.wI,aD.sD,aD.yy,aD.Au,⟨by show (qF v.ad t).closed≤_; rw[aH.1]; exact aD.fa.1,aD.fa.2⟩,fun r Z=>aD.rows r (aH.2 r Z)⟩;obtain⟨fj,fF,iT,kK,mo,iB,qx,vd,pa,vb,vc,ts,o_,sz⟩:=aD.ids x k ex;exact⟨fj,fF,iT,kK,mo,iB,by show (qF v.ad t).closed<_; rw[aH.1]; exact qx,vd,pa,vb,vc,ts,aew aD.eF t o_,fun r Z=>sz r (aH.2 r Z)⟩
end Vault
namespace ba
open Go.RowKit Go.Maps Go.Sort Go.Shelf Go.WideElems
section
variable {y w:World} {c:List bt} {S:Type} {T:a_ S}
theorem ayF{r ep:Nat}{es:List (Int×S)}(Z:∀ p∈es,-9223372036854775808≤p.1∧p.1≤9223372036854775807)(hm:es.length≤1000000)(H:E y (aN ep [.map (some r)] 95::bR T .i64 r es::c) w) :
  L Pg 56 [.func (.func 126) #[] #[.pointer (some ⟨ep,0,none⟩)]] O w fun s I=>∃ bu:List Int,bu.Perm (es.map (·.1)) ∧
   E y (row (D .i64) 3 1 s (bu.mergeSort fun x N=>decide (x≤N))::aN ep [.map (some r)] 95::bR T .i64 r es::c) I:=by
 obtain⟨arr,c,B,aA,J,eL⟩:=rp (H.front 1);have bV:=eL.get;obtain⟨lf,su,sv,nC⟩:=AD (k:=3) Tryz.underlying3 Z (by omega) B aA J bV;have nB:=H.get;have cA:ep<w.heap.size:=(Array.getElem?_eq_some_iff.1 nB).1;have sx:=AnyZI.keys_gives (ρ:=Tryz.U_) { Tryz.ato with } Fence.wide (5-1-1-1) trivial rfl (by omega) ep r arr.size lf w cA (by rw[px nB]; rfl) su;have mg:=AnyZI.sorted_in Tryz.AP Fence.wide 5 trivial trivial trivial trivial rfl (by omega) (AQ _) (enters_of Tryz.func104 (by kernel_rfl) rfl) 126 #[.pointer (some ⟨ep,0,none⟩)] trivial (enters_of Tryz.func126 (by kernel_rfl) rfl) _ (Maps.size lf) (by rw[nC]; exact Nat.le_trans hm (Nat.le_of_ble_eq_true rfl)) (by rw[nC]; omega) w sx;change CallsIn _ _ Pg 56 _ _ _ at mg;refine (callsIn_wide (n:=5)).1 (mg.mono ?_);rintro e I ⟨v,gv,rfl,iR,kI,Cx,sp⟩
 have kI:I.ownsRow w.heap.size 3 1 v gv.length ((gv.mergeSort fun x N=>decide (x≤N)).flatMap (D .i64).cells):=by
  have e:(gv.mergeSort fun x N=>decide (x≤N)).flatMap (D .i64).cells=(gv.mergeSort fun x N=>decide (x≤N)).map encZ:=by
   generalize gv.mergeSort (fun x N=>decide (x≤N))=q;induction q with
   |nil=>rfl
   |cons x q b8=>rw[List.flatMap_cons,b8]; rfl
  rw[e]; exact kI
 obtain⟨s,aF,lh⟩:=H.ownsRow (T:=D .i64) (fun _=>rfl) (by rw[List.length_mergeSort]) sp kI;exact⟨s,aF,gv,iR.trans sv,lh⟩
end
end ba
namespace Vault
open ba Store Num
abbrev gG:=xC
abbrev kY:=ic
abbrev tc:=jo
structure xG where
 s:Nat
 eR:Nat
 f_:Nat
 fQ:Nat
def oF(v:cf)(p:xG):qZ:=⟨(⟨some ⟨p.s,0,none⟩⟩:kX),v.fg,v.fa,some p.eR,some p.f_,some p.fQ⟩
def dF(b:Nat)(v:cf):bt:=fE fun p:xG=>de [aN b (gG.cells (oF v p)) 99,eF p.s v.ad,bR kY .i64 p.eR v.held,bR (D .i64) .i64 p.f_ v.busy,bR tc .i64 p.fQ v.dR]
section
variable {y w:World} {c bx:List bt}
theorem mD{b:Nat}{v:cf}(H:E y (dF b v::c) w):∃ p:xG,E y (aN b (gG.cells (oF v p)) 99::eF p.s v.ad::bR kY .i64 p.eR v.held::bR (D .i64) .i64 p.f_ v.busy::bR tc .i64 p.fQ v.dR::c) w:=by
 obtain⟨p,H⟩:=H.ex;exact⟨p,H.open_⟩
theorem iH{b:Nat}{v:cf}{p:xG}(H:E y (aN b (gG.cells (oF v p)) 99::eF p.s v.ad::bR kY .i64 p.eR v.held::bR (D .i64) .i64 p.f_ v.busy::bR tc .i64 p.fQ v.dR::c) w):E y (dF b v::c) w:=
 E.kQ p (E.shut (bx:=[aN b (gG.cells (oF v p)) 99,eF p.s v.ad,bR kY .i64 p.eR v.held,bR (D .i64) .i64 p.f_ v.busy,bR tc .i64 p.fQ v.dR]) H)
theorem Ju:∀ (l:List bt) {b0:bt},E y (l++b0::c) w→E y (b0::c) w
 |[],_,H=>H
 |_::l,_,H=>Ju l H.drop
theorem auE{r:Nat}{ev:Type}{T:a_ ev}{es:List (Int×ev)}{aa:Nat→Prop}{m:Option Nat}{g:Bool}(i:Nat)(H:E y c w)(aq:front i c=bR T .i64 r es::bx)(hm:m=some r)(al:aa es.length):ex (fun x=>g=true→(nu m w) x) aa:=by
 obtain⟨x,F,al⟩:=C8 (aa:=aa) i H aq hm al;exact⟨x,fun _=>F,al⟩
theorem axw{r it:Nat}{ev:Type}{T:a_ ev}{k:IntKind}{es left:List (Int×ev)}{jq:Option (Int×ev)}(H:E y (pS T k r it es left jq::c) w):(es.map (·.1)).Nodup:=L3 (GL H)
theorem Mg{f:Nat}(ap:f<18446744073709551616)(H:E y c w):L Pg 47 [.float .f64 f] (bJ aM (D .i64)) w fun r I=>(iE f→r.2=0∧∃ b,r.1=some ⟨b,0,none⟩∧E y (dF b ⟨f,⟨[],0,0⟩,0,[],[],[]⟩::c) I)∧(¬ iE f→r=(none,150)∧E y c I):=by
 refine ack ?_;unfold QU;refine aE (Nx ap H) ?_;rintro r w ⟨B,J,H⟩;by_cases o:r=0
 ·rw[if_neg (by simp[o])];refine aE (ayB H) ?_;rintro oh w ⟨s,rfl,H⟩;refine qB H fun eR w H=>?_;have H:=qz kY .i64 H;refine qB H fun f_ w H=>?_;have H:=qz (D .i64) .i64 H;refine qB H fun fQ w H=>?_;have H:=qz tc .i64 H;refine cj H fun b w H=>?_;refine⟨fun _=>⟨rfl,b,rfl,?_⟩,fun h=>absurd (B.1 o) h⟩;exact iH (v:=⟨f,⟨[],0,0⟩,0,[],[],[]⟩) (p:=⟨s,eR,f_,fQ⟩) (H.ord [0,4,3,2,1])
 ·rw[if_pos (by simpa using o)];exact⟨fun h=>absurd (B.2 h) o,fun _=>⟨rfl,H⟩⟩
theorem Zt{a:Int}(H:E y c w):L Pg 199 [.int .i64 a] bi w fun r I=>r=decide (o8 a)∧E y c I:=by
 refine abm ?_;unfold PW;refine⟨?_,H⟩;rw[Bool.eq_iff_iff,decide_eq_true_eq];unfold o8;simp
theorem azA{t:Int}(H:E y c w):L Pg 206 [.int .i64 t] bi w fun r I=>r=(decide (t≥0)&&decide (t≤1125899906842624))∧E y c I:=by
 refine abw ?_;unfold P3;exact⟨rfl,H⟩
theorem Zu{b:Nat}{v:cf}{t:Int}(H:E y (dF b v::c) w):L Pg 197 [.pointer (some ⟨b,0,none⟩),.int .i64 t] (D .i64) w fun r I=>r=rq v t∧E y (dF b v::c) I:=by
 refine abk ?_;unfold PU rq;by_cases o:t<1∨t>1125899906842624
 ·rw[if_pos (by simpa using o),if_pos o];exact⟨rfl,H⟩
 ·rw[if_neg (by simpa using o),if_neg o];obtain⟨p,H⟩:=mD H;refine b2 rfl ?_;refine an (x:=v.fa) 0 H rfl rfl rfl ?_;by_cases d:t≤v.fa
  ·rw[if_pos (by simpa using d),if_pos d];exact⟨rfl,iH H⟩
  ·rw[if_neg (by simpa using d),if_neg d];exact⟨rfl,iH H⟩
theorem yv{b:Nat}{v:cf}{t:Int}(H:E y (dF b v::c) w):L Pg 202 [.pointer (some ⟨b,0,none⟩),.int .i64 t] cJ w fun _ I=>E y (dF b { v with fa:=max v.fa t }::c) I:=by
 refine abr ?_;unfold P0;obtain⟨p,H⟩:=mD H;refine b2 rfl ?_;refine an (x:=v.fa) 0 H rfl rfl rfl ?_;refine eg (x:=max v.fa t) 0 H rfl rfl (Nat.le_of_ble_eq_true rfl) fun w H=>?_;exact iH (v:={ v with fa:=max v.fa t }) H
theorem Zd{e:Int}(H:E y c w):L Pg 89 [.int .i64 e] (D .i64) w fun r I=>r=G3 e∧E y c I:=by
 refine ac2 ?_;unfold RA G3;by_cases bF:e=120
 ·rw[if_pos (by simpa using bF),if_pos bF]; exact⟨rfl,H⟩
 ·rw[if_neg (by simpa using bF),if_neg bF];by_cases bP:e=128
  ·rw[if_pos (by simpa using bP),if_pos bP]; exact⟨rfl,H⟩
  ·rw[if_neg (by simpa using bP),if_neg bP];by_cases di:e=126
   ·rw[if_pos (by simpa using di),if_pos di]; exact⟨rfl,H⟩
   ·rw[if_neg (by simpa using di),if_neg di];by_cases hh:e=127
    ·rw[if_pos (by simpa using hh),if_pos hh]; exact⟨rfl,H⟩
    ·rw[if_neg (by simpa using hh),if_neg hh]; exact⟨rfl,H⟩
theorem Zv{b:Nat}{v:cf}{t a n:Int}(aD:Fit v)(H:E y (dF b v::c) w):L Pg 174 [.pointer (some ⟨b,0,none⟩),.int .i64 t,.int .i64 a,.int .i64 n] (D .i64) w fun r I=>r=(AB v t a n).2∧E y (dF b (AB v t a n).1::c) I:=by
 refine aa2 ?_;unfold PG;refine aE (Zu (t:=t) H) ?_;rintro r w ⟨rfl,H⟩;unfold AB;by_cases dk:rq v t=0
 ·rw[if_neg (by simp[dk]),if_neg (by simp[dk])];obtain⟨p,H⟩:=mD H;refine b2 rfl ?_;refine an (x:=some (⟨p.s,0,none⟩:Addr)) 0 H rfl rfl rfl ?_;refine aE (AO (k:=a) aD.eF (H.front 1)) ?_;rintro r w ⟨rfl,H⟩;refine cj H fun gn w H=>?_;show br cX _ (m5 (aK v.ad.rows a)).1 _ _
  generalize a5:m5 (aK v.ad.rows a)=q;have mn:fk v a=q:=a5;rw[mn];refine fb (x:=iy) (N:=q.1) oa 0 H rfl fun w H=>?_;refine aE (Zt H) ?_;rintro r w ⟨rfl,H⟩;have fin:∀ w,E y (aN gn (cX.cells q.1) 210::eF p.s v.ad::aN b (gG.cells (oF v p)) 99::bR kY .i64 p.eR v.held::bR (D .i64) .i64 p.f_ v.busy::bR tc .i64 p.fQ v.dR::c) w→E y (dF b v::c) w:=fun w H=>iH ((H.drop).front 1);by_cases bF:o8 a
  ·rw[decide_eq_true bF,if_neg (by simp:¬ (!true)=true),if_neg (show ¬ ¬ o8 a by simp[bF])];by_cases bP:q.2=true
   ·rw[if_pos bP,if_pos bP];exact⟨rfl,fin _ H⟩
   ·rw[if_neg bP,if_neg bP];refine aE (BT (n:=n) H) ?_;rintro r w ⟨rfl,H⟩;by_cases di:g_ n
    ·have e:(if 0≤n∧n≤1000000000000000 then (0:Int) else 40)=0:=if_pos di;rw[e,if_neg (by simp),if_neg (by simp[di])];refine an (x:=some (⟨p.s,0,none⟩:Addr)) 2 H rfl rfl rfl ?_;refine sE H fun gR w H=>?_;have H:=rz (ao:=2) (m:=1) rfl H;refine aE (yH (t:=t) (xs:=[⟨a,n⟩]) aD.eF (by simp) (c0.row (fun _=>rfl) 0 rfl) (H.front 2)) ?_;rintro r w ⟨_,H⟩;have H:=iH (v:={ v with ad:=lw v.ad t [⟨a,n⟩] }) (p:=p) ((H.ord [3,0,4,5,6]));refine aE (yv (t:=t) H) ?_;intro r w H;exact⟨rfl,(((H.front 1).drop).front 1).drop⟩
    ·have e:(if 0≤n∧n≤1000000000000000 then (0:Int) else 40)=40:=if_neg di;rw[e,if_pos (by simp),if_pos di];exact⟨rfl,fin _ H⟩
  ·rw[decide_eq_false bF,if_pos (by simp:(!false)=true),if_pos bF];exact⟨rfl,fin _ H⟩
 ·rw[if_pos (by simpa using dk),if_pos dk];exact⟨rfl,H⟩
theorem azG{b:Nat}{v:cf}{p:Part}(aD:Fit v)(H:E y (dF b v::c) w):L Pg 203 [.pointer (some ⟨b,0,none⟩),kn.enc p] (bJ (D .i64) (D .i64)) w fun r I=>r=nP v p∧E y (dF b v::c) I:=by
 refine abt ?_;unfold If;refine cj H fun gn w H=>?_;refine dH H fun w H=>?_;refine b2 rfl ?_;obtain⟨q,H⟩:=mD (H.front 1);refine an (x:=some q.fQ) 0 H rfl rfl rfl ?_;refine an (x:=p.df) 5 H rfl rfl rfl ?_;refine iV 4 H rfl rfl ?_;refine cj H fun gR w H=>?_;refine fb (x:=jp) (N:=(v.dR.lookup p.df).getD jp) FW 0 H rfl fun w H=>?_;refine dH H fun w H=>?_;refine an (x:=some (⟨q.s,0,none⟩:Addr)) 1 H rfl rfl rfl ?_;refine an (x:=p.b4) 6 H rfl rfl rfl ?_;have H:=H.drop;have jJ:∀ (mP:Nat) (w:World),E y (aN mP (cX.cells (fk v p.b4).1) 210::eF q.s v.ad::aN b (gG.cells (oF v q)) 99::bR kY .i64 q.eR v.held::bR (D .i64) .i64 q.f_ v.busy::bR tc .i64 q.fQ v.dR::aN gn (kn.cells p) 169::c) w →
   zr ⟨gn,0,none⟩ ⟨b,0,none⟩ (v.dR.lookup p.df) ⟨mP,0,none⟩ (fk v p.b4).2 w fun r I=>r=nP v p∧E y (dF b v::c) I:=by
  intro mP w H;have fin:∀ w,E y (aN mP (cX.cells (fk v p.b4).1) 210::eF q.s v.ad::aN b (gG.cells (oF v q)) 99::bR kY .i64 q.eR v.held::bR (D .i64) .i64 q.f_ v.busy::bR tc .i64 q.fQ v.dR::aN gn (kn.cells p) 169::c) w→E y (dF b v::c) w:=
   fun w H=>(iH (p:=q) ((H.drop).front 1) |>.front 1).drop
  unfold zr nP;refine dH H fun w H=>?_;refine an (x:=some q.f_) 2 H rfl rfl rfl ?_;refine an (x:=p.b4) 6 H rfl rfl rfl ?_;refine iV 4 H rfl rfl ?_;refine an (x:=p.df) 6 H rfl rfl rfl ?_;by_cases bF:p.df<1
  ·rw[if_pos (by simpa using bF),if_pos bF]; exact⟨rfl,fin _ H⟩
  ·rw[if_neg (by simpa using bF),if_neg bF];by_cases bP:(v.dR.lookup p.df).isSome=true
   ·rw[if_pos bP,if_pos bP]; exact⟨rfl,fin _ H⟩
   ·rw[if_neg bP,if_neg bP];refine an (x:=some q.fQ) 2 H rfl rfl rfl ?_;refine C8 5 H rfl rfl ?_;by_cases di:5000≤v.dR.length
    ·rw[if_pos (by simp; omega),if_pos di]; exact⟨rfl,fin _ H⟩
    ·rw[if_neg (by simp; omega),if_neg di];refine an (x:=p.b4) 6 H rfl rfl rfl ?_;refine aE (Zt H) ?_;rintro r w ⟨rfl,H⟩;by_cases hh:o8 p.b4
     ·rw[decide_eq_true hh,if_neg (by simp),if_neg (show ¬ ¬ o8 p.b4 by simp[hh])];refine an (x:=p.ar) 6 H rfl rfl rfl ?_;have FN:∀ (t:Bool) (w:World),(t=true↔p.ar<1∨¬ g_ p.ar)→E y (aN mP (cX.cells (fk v p.b4).1) 210::eF q.s v.ad::aN b (gG.cells (oF v q)) 99::bR kY .i64 q.eR v.held::bR (D .i64) .i64 q.f_ v.busy::bR tc .i64 q.fQ v.dR::aN gn (kn.cells p) 169::c) w →
        zs ⟨gn,0,none⟩ ⟨b,0,none⟩ ⟨mP,0,none⟩ (fk v p.b4).2 (v.busy.lookup p.b4) t w fun r I=>r=(if p.ar<1∨¬ g_ p.ar then (0,155) else if (fk v p.b4).2=false then (0,159) else if (v.busy.lookup p.b4).isSome=true then (0,160)
         else if p.jm=false then (if g_ (fk v p.b4).1.V∧(fk v p.b4).1.V+p.ar≤1000000000000000 then (0,0) else (0,162))
         else if (fk v p.b4).1.V<p.ar+mj p.ar v.fg then (0,161) else (mj p.ar v.fg,0))∧E y (dF b v::c) I:=by
       intro t w ak H;unfold zs;by_cases c5:p.ar<1∨¬ g_ p.ar
       ·rw[if_pos (ak.2 c5),if_pos c5]; exact⟨rfl,fin _ H⟩
       ·rw[if_neg (fun h=>c5 (ak.1 h)),if_neg c5];have ny:g_ p.ar:=Classical.byContradiction fun W=>c5 (.inr W);by_cases oW:(fk v p.b4).2=false
        ·rw[if_pos (by simp[oW]),if_pos oW]; exact⟨rfl,fin _ H⟩
        ·rw[if_neg (by simpa using oW),if_neg oW];by_cases c7:(v.busy.lookup p.b4).isSome=true
         ·rw[if_pos c7,if_pos c7]; exact⟨rfl,fin _ H⟩
         ·rw[if_neg c7,if_neg c7];refine an (x:=p.jm) 6 H rfl rfl rfl ?_;by_cases c8:p.jm=false
          ·rw[if_pos (by simp[c8]),if_pos c8];refine an (x:=(fk v p.b4).1.V) 0 H rfl rfl rfl ?_;refine an (x:=p.ar) 6 H rfl rfl rfl ?_;refine aE (ad2 H) ?_;rintro r w ⟨B,J,H⟩;by_cases c9:g_ (fk v p.b4).1.V∧(fk v p.b4).1.V+p.ar≤1000000000000000
           ·rw[if_neg (by simp[B.2 ⟨c9.1,ny,c9.2⟩]),if_pos c9]; exact⟨rfl,fin _ H⟩
           ·rw[if_pos (by simp; exact fun h=>c9 ⟨(B.1 h).1,(B.1 h).2.2⟩),if_neg c9]; exact⟨rfl,fin _ H⟩
          ·rw[if_neg (by simpa using c8),if_neg c8];refine dH H fun w H=>?_;refine an (x:=p.ar) 6 H rfl rfl rfl ?_;refine an (x:=v.fg) 2 H rfl rfl rfl ?_;refine aE (ag3 ny.1 ny.2 aD.fg H) ?_;rintro r w ⟨rfl,H⟩;refine an (x:=(fk v p.b4).1.V) 0 H rfl rfl rfl ?_;refine an (x:=p.ar) 6 H rfl rfl rfl ?_;have ap:=S_ ny.1 ny.2 aD.fg;have aO:=ny.2;have aA2:=ny.1;have e:IntKind.i64.wrap (p.ar+(mj p.ar v.fg,(0:Int)).1)=p.ar+mj p.ar v.fg:=wrap_i64 (by simp only; omega) (by simp only; omega);rw[e];by_cases c9:(fk v p.b4).1.V<p.ar+mj p.ar v.fg
           ·rw[if_pos (by simpa using c9),if_pos c9]; exact⟨rfl,fin _ H⟩
           ·rw[if_neg (by simpa using c9),if_neg c9]; exact⟨rfl,fin _ H⟩
      by_cases c5:p.ar<1
      ·rw[if_pos (by simpa using c5)];exact FN true w ⟨fun _=>.inl c5,fun _=>rfl⟩ H
      ·rw[if_neg (by simpa using c5)];refine an (x:=p.ar) 6 H rfl rfl rfl ?_;refine aE (BT H) ?_;rintro r w ⟨rfl,H⟩;refine FN _ w ?_ H;by_cases oW:g_ p.ar
       ·have e:(if 0≤p.ar∧p.ar≤1000000000000000 then (0:Int) else 40)=0:=if_pos oW;rw[e];simp[c5,oW]
       ·have e:(if 0≤p.ar∧p.ar≤1000000000000000 then (0:Int) else 40)=40:=if_neg oW;rw[e];simp[oW]
     ·rw[decide_eq_false hh,if_pos (by simp),if_pos hh]; exact⟨rfl,fin _ H⟩
 refine⟨?_,?_⟩
 ·refine aE (AO (k:=p.b4) aD.eF (H.front 1)) ?_;rintro r w ⟨rfl,H⟩;refine cj H fun mP w H=>?_;show br cX _ (fk v p.b4).1 _ _
  refine fb (x:=iy) (N:=(fk v p.b4).1) oa 0 H rfl fun w H=>?_;exact jJ mP w H
 ·refine cj H fun mP w H=>?_;refine aE (AO (k:=p.b4) aD.eF (H.front 2)) ?_;rintro r w ⟨rfl,H⟩;show br cX _ (fk v p.b4).1 _ _
  refine fb (x:=iy) (N:=(fk v p.b4).1) oa 1 H rfl fun w H=>?_;exact jJ mP w H
theorem Zs{b:Nat}{v:cf}{t:Int}{p:Part}(aD:Fit v)(H:E y (dF b v::c) w):L Pg 175 [.pointer (some ⟨b,0,none⟩),.int .i64 t,kn.enc p] (D .i64) w fun r I=>r=(Aa v t p).2∧E y (dF b (Aa v t p).1::c) I:=by
 refine aa3 ?_;unfold PH Aa;refine cj H fun gn w H=>?_;refine aE (Zu (t:=t) (H.front 1)) ?_;rintro r w ⟨rfl,H⟩;by_cases dk:rq v t=0
 ·rw[if_neg (by simp[dk]),if_neg (by simp[dk])];refine gV (x:=p) 1 H rfl ?_;refine aE (azG (p:=p) aD H) ?_;rintro r w ⟨rfl,H⟩;by_cases bF:(nP v p).2=0
  ·rw[if_neg (by simp[bF]),if_neg (by simp[bF])];refine dH H fun w H=>?_;refine b2 rfl ?_;obtain⟨q,H⟩:=mD H;refine an (x:=some q.eR) 0 H rfl rfl rfl ?_;refine an (x:=p.df) 5 H rfl rfl rfl ?_;refine gV (x:=p) 5 H rfl ?_;refine pd 2 H rfl rfl fun w H=>?_;refine dH H fun w H=>?_;refine an (x:=some q.f_) 1 H rfl rfl rfl ?_;refine an (x:=p.b4) 5 H rfl rfl rfl ?_;refine an (x:=p.df) 5 H rfl rfl rfl ?_;refine pd 3 H rfl rfl fun w H=>?_;refine dH H fun w H=>?_;refine an (x:=some q.fQ) 2 H rfl rfl rfl ?_;refine an (x:=p.df) 5 H rfl rfl rfl ?_;refine pd 4 H rfl rfl fun w H=>?_;have H:=iH (v:={ v with held:=bM p.df ⟨p,t,(nP v p).1⟩ v.held,busy:=bM p.b4 p.df v.busy,dR:=bM p.df ⟨1,t⟩ v.dR }) (p:=q) (H.ord [3,4,2,1,0]);refine aE (yv (t:=t) H) ?_;intro r w H;exact⟨rfl,(H.front 1).drop⟩
  ·rw[if_pos (by simpa using bF),if_pos bF];exact⟨rfl,(H.front 1).drop⟩
 ·rw[if_pos (by simpa using dk),if_pos dk];exact⟨rfl,(H.front 1).drop⟩
theorem free_spec{b:Nat}{v:cf}{h:kV}(H:E y (dF b v::c) w):L Pg 205 [.pointer (some ⟨b,0,none⟩),kY.enc h] cJ w fun _ I=>E y (dF b (xU v h)::c) I:=by
 refine abv ?_;unfold P2;refine cj H fun gn w H=>?_;refine dH H fun w H=>?_;refine b2 rfl ?_;obtain⟨q,H⟩:=mD (H.front 1);refine an (x:=some q.eR) 0 H rfl rfl rfl ?_;refine an (x:=h.Part.df) 5 H rfl rfl rfl ?_;refine L7 2 H rfl rfl fun w H=>?_;refine dH H fun w H=>?_;refine an (x:=some q.f_) 1 H rfl rfl rfl ?_;refine an (x:=h.Part.b4) 5 H rfl rfl rfl ?_;refine L7 3 H rfl rfl fun w H=>?_;exact (iH (v:=xU v h) (p:=q) (H.ord [2,3,1,0,4]) |>.front 1).drop
theorem ae1{b:Nat}{v:cf}{h:kV}{q:xG}(aD:Fit v)(H:E y (aN b (gG.cells (oF v q)) 99::eF q.s v.ad::c) w):L Pg 204 [.pointer (some ⟨b,0,none⟩),kY.enc h] O w fun r I=>E y (row jC 174 2 r (rZ v h)::aN b (gG.cells (oF v q)) 99::eF q.s v.ad::c) I:=by
 refine abu ?_;unfold P1 rZ;refine cj H fun gn w H=>?_;refine an (x:=h.Part.b4) 0 H rfl rfl rfl ?_;refine b2 rfl ?_;refine an (x:=some (⟨q.s,0,none⟩:Addr)) 1 H rfl rfl rfl ?_;refine aE (AO (k:=h.Part.b4) aD.eF (H.front 2)) ?_;rintro r w ⟨rfl,H⟩;refine cj H fun gR w H=>?_;show br cX _ (fk v h.Part.b4).1 _ _
 refine fb (x:=iy) (N:=(fk v h.Part.b4).1) oa 0 H rfl fun w H=>?_;refine an (x:=h.Part.jm) 2 H rfl rfl rfl ?_;by_cases o:h.Part.jm=false
 ·rw[if_pos (by simp[o]),if_pos o];refine an (x:=(fk v h.Part.b4).1.V) 0 H rfl rfl rfl ?_;refine an (x:=h.Part.ar) 2 H rfl rfl rfl ?_;refine sE H fun mP w H=>?_;have H:=rz (ao:=2) (m:=1) rfl H;exact ((((H.front 1).drop.front 2).drop).ord [0,2,1])
 ·rw[if_neg (by simpa using o),if_neg o];refine an (x:=(fk v h.Part.b4).1.V) 0 H rfl rfl rfl ?_;refine an (x:=h.Part.ar) 2 H rfl rfl rfl ?_;refine an (x:=h.p6) 2 H rfl rfl rfl ?_;refine sE H fun mP w H=>?_;have H:=rz (ao:=2) (m:=1) rfl H;refine an (x:=h.p6) 3 H rfl rfl rfl ?_;unfold EA;by_cases d:h.p6>0
  ·rw[if_pos (by simpa using d),if_pos d];refine an (x:=some (⟨q.s,0,none⟩:Addr)) 4 H rfl rfl rfl ?_;generalize T6:IntKind.i64.wrap (4096+h.Part.b4)=lv;refine aE (AO (k:=lv) aD.eF (H.front 2)) ?_;rintro r w ⟨rfl,H⟩;refine cj H fun mQ w H=>?_;show br cX _ (fk v lv).1 _ _
   refine fb (x:=iy) (N:=(fk v lv).1) oa 0 H rfl fun w H=>?_;refine an (x:=(fk v lv).1.V) 0 H rfl rfl rfl ?_;refine an (x:=h.p6) 4 H rfl rfl rfl ?_;refine me (fun _=>rfl) 2 H rfl (by simp) fun r w H=>?_;have H:=((((H.front 1).drop).front 2).drop.front 2).drop;exact H.ord [0,2,1]
  ·rw[if_neg (by simpa using d),if_neg d];have H:=(H.front 1).drop;have H:=(H.front 2).drop;exact H.ord [0,2,1]
theorem ae0(v:cf)(h:kV):(rZ v h).length≤2:=by
 unfold rZ;split
 ·simp
 ·split<;>simp
theorem Sx{b:Nat}{v:cf}{t id:Int}(aD:Fit v)(H:E y (dF b v::c) w):L Pg 176 [.pointer (some ⟨b,0,none⟩),.int .i64 t,.int .i64 id] (D .i64) w fun r I=>r=(zN v t id).2∧E y (dF b (zN v t id).1::c) I:=by
 refine aa4 ?_;unfold PI zN;by_cases dk:t<1∨t>1125899906842624
 ·rw[if_pos (by simpa using dk),if_pos dk]; exact⟨rfl,H⟩
 ·rw[if_neg (by simpa using dk),if_neg dk];refine b2 rfl ?_;obtain⟨q,H⟩:=mD H;refine an (x:=some q.fQ) 0 H rfl rfl rfl ?_;refine iV 4 H rfl rfl ?_;refine cj H fun gn w H=>?_;show br jo _ (ll v id) _ _
  refine fb (x:=jp) (N:=ll v id) FW 0 H rfl fun w H=>?_;refine an (x:=(ll v id).po) 0 H rfl rfl rfl ?_;by_cases bF:(ll v id).po=2
  ·rw[if_pos (by simpa using bF),if_pos bF];refine an (x:=(ll v id).rC) 0 H rfl rfl rfl ?_;by_cases bP:(ll v id).rC=t
   ·rw[if_neg (by simp[bP]),if_neg (by simp[bP])];exact⟨rfl,iH (p:=q) H.drop⟩
   ·rw[if_pos (by simpa using bP),if_pos bP];exact⟨rfl,iH (p:=q) H.drop⟩
  ·rw[if_neg (by simpa using bF),if_neg bF];by_cases bP:(ll v id).po=1
   ·rw[if_pos (by simpa using bP),if_pos bP];refine an (x:=some q.eR) 1 H rfl rfl rfl ?_;refine iV 3 H rfl rfl ?_;refine cj H fun gR w H=>?_;show br kY _ (mZ v id) _ _
    refine fb (x:=rQ) (N:=mZ v id) FV 0 H rfl fun w H=>?_;refine an (x:=(mZ v id).c6) 0 H rfl rfl rfl ?_;by_cases di:t<(mZ v id).c6
    ·rw[if_pos (by simpa using di),if_pos di];exact⟨rfl,iH (p:=q) H.drop.drop⟩
    ·rw[if_neg (by simpa using di),if_neg di];generalize mZ v id=h at *;refine dH H fun w H=>?_;refine an (x:=some (⟨q.s,0,none⟩:Addr)) 2 H rfl rfl rfl ?_;refine gV (x:=h) 0 H rfl ?_;refine aE (ae1 (h:=h) (q:=q) aD (H.ord [2,3])) ?_;intro r w H;have x2:=ae0 v h;refine⟨cW aM (H.front 1) rfl rfl,?_⟩;refine aE (yH (t:=t) (xs:=rZ v h) aD.eF (by omega) (c0.row (fun _=>rfl) 0 rfl) (H.front 2)) ?_;rintro r w ⟨_,H⟩;have H:=(H.front 1).drop;refine⟨cW kY (H.front 2) rfl (EW _),?_⟩;refine gV (x:=h) 2 H rfl ?_;have H:=iH (v:={ v with ad:=lw v.ad t (rZ v h) }) (p:=q) (H.ord [1,0,4,5,6]);refine aE (free_spec (h:=h) H) ?_;intro r w H;obtain⟨od,H⟩:=mD H;refine an (x:=some od.fQ) 0 H rfl rfl rfl ?_;refine pd 4 H rfl rfl fun w H=>?_;have H:=iH (v:={ xU v h with ad:=lw v.ad t (rZ v h),dR:=bM id ⟨2,t⟩ v.dR }) (p:=od) (H.ord [1,2,3,4,0]);refine aE (yv (t:=t) H) ?_;intro r w H
     exact⟨rfl,(((H.front 1).drop).front 1).drop⟩
   ·rw[if_neg (by simpa using bP),if_neg bP];exact⟨rfl,iH (p:=q) H.drop⟩
theorem SM{b:Nat}{v:cf}{id:Int}(H:E y (dF b v::c) w):L Pg 177 [.pointer (some ⟨b,0,none⟩),.int .i64 id] (D .i64) w fun r I=>r=(zT v id).2∧E y (dF b (zT v id).1::c) I:=by
 refine aa5 ?_;unfold PJ zT;refine b2 rfl ?_;obtain⟨q,H⟩:=mD H;refine an (x:=some q.fQ) 0 H rfl rfl rfl ?_;refine iV 4 H rfl rfl ?_;refine cj H fun gn w H=>?_;show br jo _ (ll v id) _ _
 refine fb (x:=jp) (N:=ll v id) FW 0 H rfl fun w H=>?_;by_cases dk:id<1
 ·rw[if_pos (by simpa using dk),if_pos dk];exact⟨rfl,iH (p:=q) H.drop⟩
 ·rw[if_neg (by simpa using dk),if_neg dk];refine an (x:=(ll v id).po) 0 H rfl rfl rfl ?_;by_cases bF:(ll v id).po=2
  ·rw[if_pos (by simpa using bF),if_pos bF];exact⟨rfl,iH (p:=q) H.drop⟩
  ·rw[if_neg (by simpa using bF),if_neg bF];refine aQ ⟨b,0,none⟩ (fun _=>rfl) ?_;refine aQ (some q.fQ) (fun _=>cW dK (H.front 1) rfl rfl) ?_;refine auE (g:=!((v.dR.lookup id).isSome)) 5 H rfl rfl ?_;have jJ:∀ (w:World),E y (dF b (ra v id)::c) w→Bf id ⟨b,0,none⟩ w fun r I=>r=0∧E y (dF b { ra v id with dR:=bM id ⟨3,0⟩ v.dR }::c) I:=by
    intro w H;have ap:(ra v id).dR=v.dR:=by unfold ra; split<;>rfl
    unfold Bf;obtain⟨od,H⟩:=mD H;refine an (x:=some od.fQ) 0 H rfl rfl rfl ?_;refine pd 4 H rfl rfl fun w H=>?_;rw[ap] at H;exact⟨rfl,iH (v:={ ra v id with dR:=bM id ⟨3,0⟩ v.dR }) (p:=od) (H.ord [1,2,3,4,0])⟩
   by_cases bP:(v.dR.lookup id).isSome=false∧5000≤v.dR.length
   ·rw[if_pos (by simp only[bP.1]; simp; omega),if_pos bP];exact⟨rfl,iH (p:=q) H.drop⟩
   ·rw[if_neg (by
     intro W;rw[Bool.and_eq_true] at W;refine bP ⟨by simpa using W.1,?_⟩;have:=W.2;simp at this
     omega),if_neg bP]
    refine an (x:=some q.eR) 1 H rfl rfl rfl ?_;refine iV 3 H rfl rfl ?_;refine cj H fun gR w H=>?_;show br kY _ (mZ v id) _ _
    refine fb (x:=rQ) (N:=mZ v id) FV 0 H rfl fun w H=>?_;cases bV:v.held.lookup id with
    |some h=>
     rw[if_pos (by simp)];rw[TR bV] at H;refine gV (x:=h) 0 H rfl ?_;have H:=iH (p:=q) (H.ord [2,3,4,5,6]);refine aE (free_spec (h:=h) H) ?_;intro r w H;have ae:ra v id=xU v h:=by unfold ra; rw[bV]
     exact jJ w (by rw[ae]; exact (((H.front 1).drop).front 1).drop)
    |none=>
     rw[if_neg (by simp)];have ae:ra v id=v:=by unfold ra; rw[bV]
     have H:=iH (p:=q) (H.ord [2,3,4,5,6]);exact jJ w (by rw[ae]; exact (((H.front 1).drop).front 1).drop)
theorem Zq{b:Nat}{v:cf}{t:Int}(H:E y (dF b v::c) w):L Pg 178 [.pointer (some ⟨b,0,none⟩),.int .i64 t] (D .i64) w fun r I=>r=(r0 v t).2∧E y (dF b (r0 v t).1::c) I:=by
 refine aa6 ?_;unfold PK;refine aE (azA (t:=t) H) ?_;rintro r w ⟨rfl,H⟩;by_cases dk:t<0∨t>1125899906842624
 ·have e:r0 v t=(v,151):=by unfold r0; rw[if_pos dk]
  rw[e,if_pos (by simp; omega)];exact⟨rfl,H⟩
 ·rw[if_neg (by simp; omega)];refine b2 rfl ?_;obtain⟨q,H⟩:=mD H;refine an (x:=some q.eR) 0 H rfl rfl rfl ?_;refine Yp 2 H rfl rfl fun it w H=>?_;refine Aq (fun n _ w=>∃ left jq,n=left.length∧(∀ x∈left,x∈v.held)∧(v.held.any (fun e=>decide (e.2.c6≤t))=left.any (fun e=>decide (e.2.c6≤t)))∧(left.map (·.1)).Nodup∧∃ va,E y (pS kY .i64 q.eR it v.held left jq::aN b (gG.cells (oF v q)) 99::eF q.s v.ad::bR (D .i64) .i64 q.f_ v.busy::bR tc .i64 q.fQ v.dR::(va++c)) w) _ ⟨v.held,none,rfl,fun _ h=>h,rfl,?_,[],H⟩ ?_
  ·exact axw H
  clear H;rintro o _ w ⟨left,jq,rfl,B,J,aO,va,H⟩ aa b7;unfold H2;refine V2 0 H rfl rfl (fun he H=>?_) fun x F w H=>?_
  ·subst he;rw[if_neg (by simp)];have e:r0 v t=({ v with ad:=qi v.ad t,fa:=max v.fa t },0):=by
    unfold r0; rw[if_neg dk,if_neg (by rw[J]; simp)]
   rw[e];have H:=GL H;refine an (x:=some (⟨q.s,0,none⟩:Addr)) 1 H rfl rfl rfl ?_;refine aE (afd (t:=t) (H.front 2)) ?_;rintro r w ⟨_,H⟩;have H:=iH (v:={ v with ad:=qi v.ad t }) (p:=q) (H.ord [2,0,1,3,4]);refine aE (yv (t:=t) H) ?_;intro r w H;have H:=H.perm (List.perm_middle.symm:(_::(va++c)).Perm (va++_::c));exact⟨rfl,Ju va H⟩
  ·rw[if_pos (by simp)];refine SY 0 H rfl rfl ?_;refine cj H fun gn w H=>?_;refine fb (x:=rQ) (N:=x.2) FV 0 H rfl fun w H=>?_;refine an (x:=x.2.c6) 0 H rfl rfl rfl ?_;by_cases bF:x.2.c6≤t
   ·rw[if_pos (by simpa using bF)];have e:r0 v t=(v,160):=by
     unfold r0; rw[if_neg dk,if_pos (List.any_eq_true.2 ⟨x,B x F,by simpa using bF⟩)]
    rw[e];have H:=GL H.drop;have H:=iH (v:=v) (p:=q) (H.ord [1,2,0,3,4]);have H:=H.perm (List.perm_middle.symm:(_::(va++c)).Perm (va++_::c));exact⟨rfl,Ju va H⟩
   ·rw[if_neg (by simpa using bF)];refine b7 _ _ _ (Ti F) ⟨_,_,rfl,fun N aJ=>B N (List.mem_filter.1 aJ).1,?_,(aO.sublist (List.filter_sublist.map _)),va,H.drop⟩;rw[J,List.any_filter,Bool.eq_iff_iff,List.any_eq_true,List.any_eq_true];constructor
    ·rintro⟨N,aJ,aC⟩;refine⟨N,aJ,?_⟩;rw[Bool.and_eq_true];refine⟨?_,aC⟩;rw[bne_iff_ne];intro W;have:N=x:=F_ aO N aJ x F W;subst this;exact bF (by simpa using aC)
    ·rintro⟨N,aJ,aC⟩;rw[Bool.and_eq_true] at aC;exact⟨N,aJ,aC.2⟩
theorem Zy{b:Nat}{v:cf}{t:Int}(aD:Fit v)(H:E y (dF b v::c) w):L Pg 179 [.pointer (some ⟨b,0,none⟩),.int .i64 t] (D .i64) w fun r I=>r=(Gy v t).2∧E y (dF b (Gy v t).1::c) I:=by
 refine aa7 ?_;unfold PL;refine b2 rfl ?_;obtain⟨q,H⟩:=mD H;refine an (x:=some (⟨q.s,0,none⟩:Addr)) 0 H rfl rfl rfl ?_;refine aE (awC (t:=t) aD.eF (H.front 1)) ?_;rintro r w ⟨rfl,H⟩;refine aE (Zd H) ?_;rintro r w ⟨rfl,H⟩;exact⟨rfl,iH (v:={ v with ad:=qF v.ad t }) (p:=q) (H.front 1)⟩
theorem N6{b:Nat}{v:cf}{t:Int}(aD:Fit v)(H:E y (dF b v::c) w):L Pg 38 [.pointer (some ⟨b,0,none⟩),.int .i64 t] (bJ O (D .i64)) w fun r I=>r.2=G3 (vH v.ad t)∧E y (row jC 174 2 r.1 (w2 v.ad t)::dF b v::c) I:=by
 refine acb ?_;unfold QK;refine b2 rfl ?_;obtain⟨q,H⟩:=mD H;refine an (x:=some (⟨q.s,0,none⟩:Addr)) 0 H rfl rfl rfl ?_;refine aE (ayz (t:=t) aD.eF (H.front 1)) ?_;rintro⟨k8,bs⟩ w ⟨Z,H⟩;simp only at Z H;subst Z;refine aE (Zd H) ?_;rintro r w ⟨rfl,H⟩;exact⟨rfl,(iH (p:=q) (H.ord [2,1,3,4,5])).front 1⟩
theorem azm{b:Nat}{v:cf}(H:E y (dF b v::c) w):L Pg 25 [.pointer (some ⟨b,0,none⟩)] (D .i64) w fun r I=>r=v.fa∧E y (dF b v::c) I:=by
 refine Qw ?_;unfold Ir;refine b2 rfl ?_;obtain⟨q,H⟩:=mD H;refine an (x:=v.fa) 0 H rfl rfl rfl ?_;exact⟨rfl,iH (p:=q) H⟩
theorem DY{s:Nat}{z:gF}(H:E y (eF s z::c) w):L Pg 39 [b5.enc (⟨some ⟨s,0,none⟩⟩:kX)] (D .i64) w fun r I=>r=z.closed∧E y (eF s z::c) I:=by
 refine acd ?_;unfold QL;refine cj H fun gn w H=>?_;refine an (x:=some (⟨s,0,none⟩:Addr)) 0 H rfl rfl rfl ?_;refine aE (afe (H.front 1)) ?_;rintro r w ⟨rfl,H⟩;exact⟨rfl,(H.front 1).drop⟩
theorem N4{s:Nat}{z:gF}(H:E y (eF s z::c) w):L Pg 40 [b5.enc (⟨some ⟨s,0,none⟩⟩:kX)] (D .i64) w fun r I=>r=z.mark∧E y (eF s z::c) I:=by
 refine acf ?_;unfold QN;refine cj H fun gn w H=>?_;refine an (x:=some (⟨s,0,none⟩:Addr)) 0 H rfl rfl rfl ?_;refine aE (auu (H.front 1)) ?_;rintro r w ⟨rfl,H⟩;exact⟨rfl,(H.front 1).drop⟩
theorem J_{b:Nat}{v:cf}{p:xG}(aD:Fit v)(H:E y (aN b (gG.cells (oF v p)) 99::bR kY .i64 p.eR v.held::c) w):L Pg 42 [.pointer (some ⟨b,0,none⟩)] O w fun r I=>E y (row kY 171 6 r (Co v)::aN b (gG.cells (oF v p)) 99::bR kY .i64 p.eR v.held::c) I:=by
 refine ach ?_;unfold QP;refine b2 rfl ?_;refine an (x:=some p.eR) 0 H rfl rfl rfl ?_;refine ac6 ?_;unfold RE;refine cj H fun ep w H=>?_;have KT:∀ e∈v.held,-9223372036854775808≤e.1∧e.1≤9223372036854775807:=fun e he=>by have:=aij aD e he; omega
 have hR:=TS aD;refine aE (ayF KT (by omega) (H.ord [0,2])) ?_;rintro s w ⟨bu,aH,H⟩;have a5:(bu.mergeSort fun x N=>decide (x≤N))=e0 (v.held.map (·.1)):=w3 aH;rw[a5] at H;have aF:=ho H;have aiv:Co v=(e0 (v.held.map (·.1))).map (mZ v):=rfl;rw[aiv];have sw:(e0 (v.held.map (·.1))).length≤5000:=by rw[(hY _).length_eq,List.length_map]; omega
 generalize e0 (v.held.map (·.1))=q at *;have H:=jW kY 171 6 H;refine wH (fun x w=>0≤x.2∧x.2≤q.length∧E y (row kY 171 6 x.1 ((q.take x.2.toNat).map (mZ v))::row (D .i64) 3 1 s q::aN ep [.map (some p.eR)] 95::bR kY .i64 p.eR v.held::aN b (gG.cells (oF v p)) 99::c) w) (fun x=>(q.length-x.2).toNat)
  ⟨Int.le_refl 0,by simp only; omega,H⟩ ?_
 rintro⟨out,i⟩ w ⟨am,B,H⟩;simp only at am B;simp only;unfold Iy;rw[aF];split
 ·rename_i h1;have h1:i<q.length:=by simpa using h1
  have aT:IntKind.i64.wrap (i+1)=i+1:=wrap_i64 (by omega) (by omega);have F:q[i.toNat]?=some q[i.toNat]:=List.getElem?_eq_getElem (by omega);have nE:(q.take (i+1).toNat).map (mZ v)=(q.take i.toNat).map (mZ v)++[mZ v q[i.toNat]]:=by
   rw[show (i+1).toNat=i.toNat+1 from by omega,List.take_succ_eq_append_getElem (by omega),List.map_append]; rfl
  obtain⟨a,ag⟩:=ih (ao:=1) (i:=i) (H.front 1) am h1;refine aQ a ag ?_;refine aQ q[i.toNat] (lz (fun _=>rfl) ag F (H.front 1)) ?_;generalize q[i.toNat]=k at *;refine an (x:=some p.eR) 4 H rfl rfl rfl ?_;refine iV 3 H rfl rfl ?_;show kG _ kY 6 48 _ [mZ v k] _ _
  refine me (fun _=>rfl) 0 H rfl (by simp only[List.length_map,List.length_take,List.length_singleton]; omega) fun s2 bH H=>?_;rw[aT];refine⟨⟨by simp only; omega,by simp only; omega,?_⟩,by simp only; omega⟩;simp only;rw[nE];exact H
 ·rename_i h1;have h1:i=q.length:=by simp at h1; omega
  subst h1;have e:q.take ((q.length:Int)).toNat=q:=by simp
  rw[e] at H;have H:=((H.front 1).drop.front 1).drop;exact H.ord [0,2,1]
theorem NX{b:Nat}{v:cf}{q:xG}(H:E y (aN b (gG.cells (oF v q)) 99::c) w):L Pg 25 [.pointer (some ⟨b,0,none⟩)] (D .i64) w fun r I=>r=v.fa∧E y (aN b (gG.cells (oF v q)) 99::c) I:=by
 refine Qw ?_;unfold Ir;refine b2 rfl ?_;refine an (x:=v.fa) 0 H rfl rfl rfl ?_;exact⟨rfl,H⟩
end
end Vault
namespace Shard
open ba Wire
abbrev dU:=jB
abbrev jb:=ft
structure ir(x:dU):Prop where
 k:-9223372036854775808≤x.Kind∧x.Kind≤9223372036854775807
 t:-9223372036854775808≤x.c6∧x.c6≤9223372036854775807
 i:-9223372036854775808≤x.df∧x.df≤9223372036854775807
 a:-9223372036854775808≤x.b4∧x.b4≤9223372036854775807
 n:-9223372036854775808≤x.ar∧x.ar≤9223372036854775807
def flag(b:Bool):Int:=if b=true then 1 else 0
def nO(x:dU):List dp:=[⟨1,IntKind.u64.wrap x.Kind,0,0,[]⟩,⟨2,0,x.c6,0,[]⟩,⟨2,0,x.df,0,[]⟩,⟨2,0,x.b4,0,[]⟩,⟨2,0,x.ar,0,[]⟩,⟨1,flag x.jm,0,0,[]⟩]
def gq(x:dU):List UInt8:=g7 (nO x)
theorem Td{u:Int}(am:0≤u)(B:u<18446744073709551616):In ⟨1,u,0,0,[]⟩∧hH ⟨1,u,0,0,[]⟩=0:=⟨⟨by simp,by simp,am,B,by simp,by simp,by simp⟩,by simp[hH,mw]⟩
theorem B_{u:Int}(am:-9223372036854775808≤u)(B:u≤9223372036854775807):In ⟨2,0,u,0,[]⟩∧hH ⟨2,0,u,0,[]⟩=0:=⟨⟨by simp,by simp,by simp,by simp,am,B,by simp⟩,by simp[hH,mw]⟩
theorem ag6{x:dU}(h:ir x):lg (nO x):=by
 have am:=Td (u:=IntKind.u64.wrap x.Kind) (by rw[lF]; omega) (by rw[lF]; omega);have B:=B_ h.t.1 h.t.2;have J:=B_ h.i.1 h.i.2;have au:=B_ h.a.1 h.a.2;have a8:=B_ h.n.1 h.n.2;have b_:=Td (u:=flag x.jm) (by unfold flag; split<;>omega) (by unfold flag; split<;>omega);have all:∀ v∈nO x,In v∧hH v=0:=by
  intro v ax;unfold nO at ax;simp only[List.mem_cons,List.mem_nil_iff,or_false] at ax;rcases ax with rfl | rfl | rfl | rfl | rfl | rfl
  ·exact am
  ·exact B
  ·exact J
  ·exact au
  ·exact a8
  ·exact b_
 exact⟨fun v ax=>(all v ax).1,fun v ax=>(all v ax).2⟩
def kd(k:Int):Prop:=1≤k∧k≤6
instance (k:Int):Decidable (kd k):=by unfold kd; infer_instance
def y7(a b o d e f:dp):Option dU:=
 if a.Kind=1∧f.Kind=1∧a.cc≤6∧f.cc≤1∧b.Kind=2∧o.Kind=2∧d.Kind=2∧e.Kind=2∧1≤a.cc then some ⟨a.cc,b.aG,o.aG,d.aG,e.aG,f.cc==1⟩ else none
def Gg:List dp→Option dU
 |[a,b,o,d,e,f]=>y7 a b o d e f
 |_=>none
def k2(az:List UInt8):Option dU:=if (jY az).2.2=0 then Gg (jY az).1 else none
theorem Zp{v:dp}(h:hH v=0)(al:v.Kind=1):v=⟨1,v.cc,0,0,[]⟩:=by
 rcases Dd h with ⟨_,B,J,au⟩ | ⟨B,_⟩ | ⟨B,_⟩ | ⟨B,_⟩
 ·cases v; simp_all
 ·omega
 ·omega
 ·omega
theorem G8{v:dp}(h:hH v=0)(al:v.Kind=2):v=⟨2,0,v.aG,0,[]⟩:=by
 rcases Dd h with ⟨B,_⟩ | ⟨_,B,J,au⟩ | ⟨B,_⟩ | ⟨B,_⟩
 ·omega
 ·cases v; simp_all
 ·omega
 ·omega
theorem E_{az:List UInt8}{x:dU}(h:k2 az=some x):ir x∧kd x.Kind∧az=gq x:=by
 unfold k2 at h;split at h
 ·rename_i he;obtain⟨aD,W,aA,_⟩:=Zi he rfl;generalize (jY az).1=m at *
  match m,h with
  |[a,b,o,d,e,f],h=>
   simp only[Gg,y7] at h;split at h
   ·rename_i al;obtain⟨fj,fF,iT,kK,mo,iB,qx,vd,pa⟩:=al;cases h;have th:=Zp (aD.ok a (by simp)) fj;have afK:=G8 (aD.ok b (by simp)) mo;have afL:=G8 (aD.ok o (by simp)) iB;have afM:=G8 (aD.ok d (by simp)) qx;have Jw:=G8 (aD.ok e (by simp)) vd;have Jx:=Zp (aD.ok f (by simp)) fF;have CM:=aD.n4 b (by simp);have Ut:=aD.n4 o (by simp);have Uu:=aD.n4 d (by simp);have Uv:=aD.n4 e (by simp);have as5:=aD.n4 f (by simp);have ap:flag (f.cc==1)=f.cc:=by
     unfold flag;have:=as5.DS;by_cases bF:f.cc=1
     ·rw[if_pos (by simp[bF]),bF]
     ·rw[if_neg (by simpa using bF)]; omega
    have hw:IntKind.u64.wrap a.cc=a.cc:=by rw[lF]; omega
    refine⟨⟨by simp only; omega,⟨CM.i0,CM.i1⟩,⟨Ut.i0,Ut.i1⟩,⟨Uu.i0,Uu.i1⟩,⟨Uv.i0,Uv.i1⟩⟩,⟨pa,iT⟩,?_⟩;rw[aA];unfold gq nO;simp only[hw,ap];rw[← th,← afK,← afL,← afM,← Jw,← Jx]
   ·cases h
 ·cases h
section
variable {y w:World} {c bx:List bt}
theorem pc:∀ x,(fh.cells x).length=5:=fun _=>rfl
theorem C1{x:dU}(F:ir x)(H:E y c w):L Pg 23 [jb.enc x] O w fun r I=>E y (row (D .u8) 5 1 r (ai (gq x))::c) I:=by
 refine abX ?_;unfold Qq;refine cj H fun gR w H=>?_;refine an (x:=x.jm) 0 H rfl rfl rfl ?_;have jJ:∀ (p:Int) (w:World),p=flag x.jm→E y (aN gR (jb.cells x) 38::c) w→Bi ⟨gR,0,none⟩ p w fun r I=>E y (row (D .u8) 5 1 r (ai (gq x))::c) I:=by
  intro p w aH H;subst aH;unfold Bi;refine an (x:=x.Kind) 0 H rfl rfl rfl ?_;refine sE H fun R_ w H=>?_;have H:=rz (ao:=5) (m:=1) rfl H;refine an (x:=x.c6) 1 H rfl rfl rfl ?_;refine an (x:=x.df) 1 H rfl rfl rfl ?_;refine an (x:=x.b4) 1 H rfl rfl rfl ?_;refine an (x:=x.ar) 1 H rfl rfl rfl ?_;refine sE H fun aev w H=>?_;have H:=rz (ao:=1) (m:=4) rfl H;refine hU (fun s w=>∃ k:Nat,s.2=(k:Int)∧k≤4∧E y (row fh 133 5 s.1 ((nO x).take (k+1))::row (D .i64) 2 1 ⟨some ⟨aev,0,none⟩,4,4⟩ [x.c6,x.df,x.b4,x.ar]::c) w) (fun s=>(4-s.2).toNat) ⟨0,rfl,by omega,((H.front 2).drop).front 1⟩ ?_;clear H;rintro⟨s,t⟩ w ⟨k,al,z8,H⟩ aa b7;simp only at al H;subst al;unfold Iq;simp only;split
  ·rename_i W;have W:k<4:=by
    have:(k:Int)<4:=by simpa using W
    omega
   have aT:IntKind.i64.wrap ((k:Int)+1)=((k+1:Nat):Int):=by rw[wrap_i64 (by omega) (by omega)]; omega
   obtain⟨kZ,ag⟩:=ih (i:=(k:Int)) (H.front 1) (by omega) (by simp; omega);refine aQ kZ ag ?_;have step:∀ (n:Int),[x.c6,x.df,x.b4,x.ar][k]?=some n→(nO x).take (k+1+1)=(nO x).take (k+1)++[⟨2,0,n,0,[]⟩]:=by
    intro n aO;have b_:k+1<(nO x).length:=by simp[nO]; omega
    rw[List.take_succ_eq_append_getElem b_];congr 2
    match k,W with
    |0,_=>simp at aO; subst aO; rfl
    |1,_=>simp at aO; subst aO; rfl
    |2,_=>simp at aO; subst aO; rfl
    |3,_=>simp at aO; subst aO; rfl
   have F:[x.c6,x.df,x.b4,x.ar][((k:Int)).toNat]?=some ([x.c6,x.df,x.b4,x.ar][k]'(by simp; omega)):=List.getElem?_eq_getElem (by simp; omega);have aF:=step _ F;generalize [x.c6,x.df,x.b4,x.ar][k]'(by simp; omega)=n at F aF;refine aQ n (lz (fun _=>rfl) ag F (H.front 1)) ?_;refine me pc 0 H rfl (by simp; omega) fun r w H=>?_;rw[aT];refine b7 _ _ ⟨k+1,rfl,by omega,?_⟩ (by simp only; omega);simp only;rw[aF];exact H
  ·rename_i W;have W:k=4:=by simp at W; omega
   subst W;refine me pc 0 H rfl (by simp; omega) fun r w H=>?_;have e:(nO x).take (4+1)++[⟨1,flag x.jm,0,0,[]⟩]=nO x:=rfl;rw[e] at H;have aD:=ag6 F;refine aE (WD aD.n4 (by simp[nO]) (c0.row (fun _=>rfl) 0 rfl) H) ?_;rintro r w ⟨_,J,_,_⟩;have aH:vs (nO x)=0:=by
    unfold vs;rw[if_neg (by simp[nO])];exact Jk aD.ok
   have H:=J aH;exact ((H.front 2).drop.front 1).drop
 cases aH:x.jm with
 |true=>rw[if_pos rfl]; exact jJ 1 w (by rw[aH]; rfl) H
 |false=>rw[if_neg (by simp)]; exact jJ 0 w (by rw[aH]; rfl) H
def uk:dU:=⟨0,0,0,0,0,false⟩
def xP(A:Option dU):dU×Bool:=match A with
 |some x=>(x,true)
 |none=>(uk,false)
theorem atw{k:Int}(H:E y c w):L Pg 173 [.int .i64 k] bi w fun r I=>r=decide (kd k)∧E y c I:=by
 refine aa1 ?_;unfold PF;refine⟨?_,H⟩;rw[Bool.eq_iff_iff,decide_eq_true_eq];unfold kd;simp
theorem SE{s:X}{az:List UInt8}(lU:s.len≤s.cap)(aO:az.length≤9223372036854775806)(k:c0 1 c (D .u8) s (ai az))(H:E y c w) :
  L Pg 146 [O.enc s] (bJ jb bi) w fun r I=>r=xP (k2 az)∧E y c I:=by
 refine aaM ?_;unfold HY;refine cj H fun gR w H=>?_;refine aE (Zj lU aO k.tail H) ?_;rintro⟨q,p,e⟩ w ⟨_,he,H⟩;simp only at he H;subst he;have aj:=ho H;have aAU:=AL H;have H:=GR H;have akn:(jY az).2.2=0→lg (jY az).1:=fun h=>(Zi h rfl).1;have tm:k2 az=if (jY az).2.2=0 then Gg (jY az).1 else none:=rfl
 generalize (jY az).2.2=e at *;generalize (jY az).1=m at *;have no:∀ (A:Option dU) (w:World),A=none→E y (ro fh q m::aN gR (jb.cells uk) 38::c) w→br jb ⟨gR,0,none⟩ uk w fun cQ=>ex (M jb ⟨gR,0,none⟩ cQ) fun hr=>(hr,false)=xP A∧E y c cQ:=by
  intro A w ab H;subst ab;refine fb (x:=uk) (N:=uk) CY 1 H rfl fun w H=>?_;refine gV (x:=uk) 0 H rfl ?_;exact⟨rfl,H.drop.drop⟩
 simp only;by_cases o:e=0∧m.length=6
 ·obtain⟨bF,bP⟩:=o;have aD:=akn bF;rw[if_pos bF] at tm
  match m,bP with
  |[a,b,o,d,f,g],_=>
   simp only[List.length_cons,List.length_nil] at aj;have m4:cn (ro fh q [a,b,o,d,f,g]::aN gR (jb.cells uk) 38::c) (dL fh q [a,b,o,d,f,g]):=cn.here (m:=dL.mono);obtain⟨iL,am⟩:=m4.jI (ao:=5) (i:=0) H (by omega) (by simp);obtain⟨aR,b_⟩:=m4.jI (ao:=5) (i:=5) H (by omega) (by simp);refine aQ iL (fun _=>am) ?_;refine aQ a.Kind (fun _=>m4.k5 (cc:=D .i64) pc am rfl rfl H) ?_;refine aQ aR (fun _=>b_) ?_;refine aQ g.Kind (fun _=>m4.k5 (cc:=D .i64) pc b_ rfl rfl H) ?_;refine aQ iL (fun _=>am) ?_;refine aQ a.cc (fun _=>m4.k5 (cc:=D .u64) pc am rfl rfl H) ?_;refine aQ aR (fun _=>b_) ?_;refine aQ g.cc (fun _=>m4.k5 (cc:=D .u64) pc b_ rfl rfl H) ?_;have tm:k2 az=y7 a b o d f g:=tm;by_cases di:a.Kind=1∧g.Kind=1∧a.cc≤6∧g.cc≤1
   ·rw[if_neg (by simp[bF,aj,di])];refine nn (by omega) (by omega) (by omega) (by omega) fun rB Tz=>?_;have bu:=m4.sub pc Tz (by simp);have es:(([a,b,o,d,f,g]:List dp).take (5:Int).toNat).drop (1:Int).toNat=[b,o,d,f]:=rfl;rw[es] at bu;have KV:rB.len=4:=(DK Tz).1;have ah3:∀ (k:Nat) (v:dp),[b,o,d,f][k]?=some v→v.Kind≠2→k2 az=none:=by
     intro k v ax ec;rw[tm];unfold y7;rw[if_neg];rintro⟨_,_,_,_,qG,l2,GA,MX,_⟩
     match k,ax with
     |0,ax=>simp at ax; subst ax; exact ec qG
     |1,ax=>simp at ax; subst ax; exact ec l2
     |2,ax=>simp at ax; subst ax; exact ec GA
     |3,ax=>simp at ax; subst ax; exact ec MX
     |k+4,ax=>simp at ax
    refine hU (fun t w=>∃ k:Nat,t=(k:Int)∧k≤4∧(∀ (l:Nat) (v:dp),l<k→[b,o,d,f][l]?=some v→v.Kind=2)∧E y (ro fh q [a,b,o,d,f,g]::aN gR (jb.cells uk) 38::c) w) (fun t=>(4-t).toNat) ⟨0,rfl,by omega,fun l v a7=>by omega,H⟩ ?_;clear H;rintro t w ⟨k,rfl,z8,rb,H⟩ aa b7;unfold HZ;rw[KV];split
    ·rename_i W;have W:k<4:=by
      have:(k:Int)<4:=by simpa using W
      omega
     have aT:IntKind.i64.wrap ((k:Int)+1)=((k+1:Nat):Int):=by rw[wrap_i64 (by omega) (by omega)]; omega
     obtain⟨ps,TA⟩:=bu.jI (ao:=5) (i:=(k:Int)) H (by omega) (by simp; omega);have F:[b,o,d,f][((k:Int)).toNat]?=some ([b,o,d,f][k]'(by simp; omega)):=List.getElem?_eq_getElem (by simp; omega);generalize [b,o,d,f][k]'(by simp; omega)=v at F;refine aQ ps TA ?_;refine aQ v (bu.rd pc TA F H) ?_;refine cj H fun aAA w H=>?_;refine fb (x:=q0) (N:=v) Vx 0 H rfl fun w H=>?_;refine an (x:=v.Kind) 0 H rfl rfl rfl ?_;by_cases hh:v.Kind=2
     ·rw[if_neg (by simp[hh]),aT];refine b7 _ _ ⟨k+1,rfl,by omega,fun l u a7 hu=>?_,H.drop⟩ (by omega);by_cases c5:l=k
      ·subst c5;rw[Int.toNat_natCast] at F;rw[F] at hu;cases hu;exact hh
      ·exact rb l u (by omega) hu
     ·rw[if_pos (by simpa using hh)];rw[Int.toNat_natCast] at F;rw[ah3 k v F hh];exact no none w rfl H.drop
    ·rename_i W;have W:k=4:=by simp at W; omega
     subst W;refine aQ iL am ?_;refine aQ a.cc (m4.k5 (cc:=D .u64) pc am rfl rfl H) ?_;have asv:=aD.n4 a (by simp);have Uh:=asv.DS;have we:IntKind.i64.wrap a.cc=a.cc:=wrap_i64 (by omega) (by omega);rw[we];refine aE (atw H) ?_;rintro r w ⟨rfl,H⟩;by_cases hh:kd a.cc
     ·rw[decide_eq_true hh,if_neg (by simp:¬ (!true)=true)];refine dH H fun w H=>?_;obtain⟨dM,B⟩:=m4.jI (ao:=5) (i:=1) H (by omega) (by simp);obtain⟨aY,J⟩:=m4.jI (ao:=5) (i:=2) H (by omega) (by simp);obtain⟨aI,au⟩:=m4.jI (ao:=5) (i:=3) H (by omega) (by simp);obtain⟨bh,a8⟩:=m4.jI (ao:=5) (i:=4) H (by omega) (by simp);refine aQ iL am ?_;refine aQ dM B ?_;refine aQ aY J ?_;refine aQ aI au ?_;refine aQ bh a8 ?_;refine aQ aR b_ ?_;refine aQ a.cc (m4.k5 (cc:=D .u64) pc am rfl rfl H) ?_;refine aQ b.aG (m4.k5 (cc:=D .i64) pc B rfl rfl H) ?_;refine aQ o.aG (m4.k5 (cc:=D .i64) pc J rfl rfl H) ?_;refine aQ d.aG (m4.k5 (cc:=D .i64) pc au rfl rfl H) ?_;refine aQ f.aG (m4.k5 (cc:=D .i64) pc a8 rfl rfl H) ?_;refine aQ g.cc (m4.k5 (cc:=D .u64) pc b_ rfl rfl H) ?_;rw[we];refine fb (x:=uk) (N:=(⟨a.cc,b.aG,o.aG,d.aG,f.aG,g.cc==1⟩:dU)) CY 1 H rfl fun w H=>?_
      refine gV (x:=(⟨a.cc,b.aG,o.aG,d.aG,f.aG,g.cc==1⟩:dU)) 0 H rfl ?_;refine⟨?_,H.drop.drop⟩;rw[tm];unfold y7;rw[if_pos ⟨di.1,di.2.1,di.2.2.1,di.2.2.2,rb 0 b (by omega) rfl,rb 1 o (by omega) rfl,rb 2 d (by omega) rfl,rb 3 f (by omega) rfl,hh.1⟩];rfl
     ·rw[decide_eq_false hh,if_pos (by simp:(!false)=true)];refine no _ w ?_ H;rw[tm];unfold y7;rw[if_neg];rintro⟨_,_,_,_,_,_,_,_,q⟩;exact hh ⟨q,di.2.2.1⟩
   ·rw[if_pos (by
     simp only[Bool.or_eq_true,bne_iff_ne,decide_eq_true_eq];apply Classical.byContradiction;intro bV;refine di ⟨?_,?_,?_,?_⟩
     ·exact Classical.byContradiction fun h=>bV (by simp[h])
     ·exact Classical.byContradiction fun h=>bV (by simp[h])
     ·exact Classical.byContradiction fun h=>bV (.inl (.inr (by omega)))
     ·exact Classical.byContradiction fun h=>bV (.inr (by omega)))]
    refine no _ w ?_ H;rw[tm];unfold y7;rw[if_neg];rintro⟨qG,l2,GA,MX,_⟩;exact di ⟨qG,l2,GA,MX⟩
 ·have ae:((e != (0:Int))||((q.len:Int)!=(6:Int)))=true:=by
   rw[Bool.or_eq_true,bne_iff_ne,bne_iff_ne];by_cases h:e=0
   ·right;intro J;exact o ⟨h,by omega⟩
   ·exact .inl h
  have aL:(⟨0,0,none⟩:Addr)=⟨0,0,none⟩:=rfl;refine aQ ⟨0,0,none⟩ (fun h=>absurd h (by simp[ae])) ?_;refine aQ 0 (fun h=>absurd h (by simp[ae])) ?_;refine aQ ⟨0,0,none⟩ (fun h=>absurd h (by simp[ae])) ?_;refine aQ 0 (fun h=>absurd h (by simp[ae])) ?_;refine aQ ⟨0,0,none⟩ (fun h=>absurd h (by simp[ae])) ?_;refine aQ 0 (fun h=>absurd h (by simp[ae])) ?_;refine aQ ⟨0,0,none⟩ (fun h=>absurd h (by simp[ae])) ?_;refine aQ 0 (fun h=>absurd h (by simp[ae])) ?_;rw[if_pos (by simp[ae])];refine no _ w ?_ H;rw[tm];by_cases h:e=0
  ·rw[if_pos h];unfold Gg;split
   ·exact absurd ⟨h,rfl⟩ o
   ·rfl
  ·rw[if_neg h]
end
end Shard
namespace Shard
open ba Wire Disk Store Vault Num
def BK(v:cf)(k t id:Int):cf×Int:=if k=3 then zN v t id else if k=4 then zT v id else if k=5 then r0 v t else Gy v t
def mO(v:cf)(x:dU):cf×Int:=
 if x.Kind=1 then AB v x.c6 x.b4 x.ar else if x.Kind=2 then Aa v x.c6 ⟨x.df,x.b4,x.ar,x.jm⟩ else BK v x.Kind x.c6 x.df
theorem ag7{v:cf}(aD:Fit v)(k t id:Int):Fit (BK v k t id).1:=by
 unfold BK;split
 ·exact aD.afl ..
 ·split
  ·exact aD.drop ..
  ·split
   ·exact aD.close ..
   ·exact aD.MW ..
theorem Te{v:cf}(aD:Fit v){x:dU}(h:x.df≤9223372036854775807):Fit (mO v x).1:=by
 unfold mO;split
 ·exact aD.open ..
 ·split
  ·exact aD.hold h
  ·exact ag7 aD ..
section
variable {y w:World} {c bx:List bt}
def jx(f:Nat):cf:=⟨f,⟨[],0,0⟩,0,[],[],[]⟩
end
end Shard
namespace dO
open ba Wire Disk Ballot
open Vault (cf)
open Shard (dU gq k2 mO kd jx)
abbrev fG:=List UInt8
structure dv where
 k:Int
 b:Int
 v:dd
 c:List dd
structure bn where
 ai:gj
 out:List (Int×dv)
 bO:List (Int×fG)
 V:cf
 dh:Int
 b:Int
 fz:Bool
 bG:List (Int×List dd)
 bz:List (Int×fG×List Int)
 c4:Int
structure kD where
 id:Int
 from_:Int
 bw:Int
 w:dv
structure mK where
 kl:Int
 c:List kD
 off:Int→Bool
structure cu where
 fg:Nat
 R:List bn
 cq:mK
def p1(b:Int):dv:=⟨1,b,⟨0,0,[]⟩,[]⟩
def Ee(b:Int)(c:List dd):dv:=⟨2,b,⟨0,0,[]⟩,c⟩
def la(s b:Int)(v:fG):dv:=⟨3,0,⟨s,b,v⟩,[]⟩
def ZR(b s:Int):dv:=⟨4,b,⟨s,0,[]⟩,[]⟩
def vM(s:Int)(v:fG):dv:=⟨5,0,⟨s,0,v⟩,[]⟩
def gd(n:Nat):List Int:=(List.range n).map fun k:Nat=>(k:Int)
def e8(m:bn)(R:List (Int×dv)):bn:={ m with out:=m.out++R }
def pj(m:bn)(bw:Int)(w:dv):bn:=e8 m [(bw,w)]
def all(n:Nat)(m:bn)(w:dv):bn:=e8 m ((gd n).map fun bw=>(bw,w))
def n2(m:bn)(b:Int):bn:={ m with b:=b,fz:=false,c4:=0,bG:=[],bz:=[] }
def us(n:Nat)(i RX:Int):Int:=RX+1+Int.tmod (Int.tmod (i-RX-1) n+n) n
def E2(n:Nat)(b:Int)(m:bn):bn×Int×Int:=
 if 1099511627776<b then (m,0,254) else if (h5 m.ai b).2≠0 then ({ m with ai:=(h5 m.ai b).1 },0,(h5 m.ai b).2)
 else (all n (n2 { m with ai:=(h5 m.ai b).1 } b) (p1 b),b,0)
def v7(n:Nat)(i:Int)(m:bn):bn×Int×Int:=E2 n (us n i (max m.ai.p m.b)) m
def kg(n:Nat)(m:bn)(slot:Int)(v:fG):bn:=all n { m with bz:=bM slot (v,[]) m.bz,c4:=max m.c4 slot } (la slot m.b v)
def w5(n:Nat)(x:dU)(m:bn):bn×Int×Int:=
 if ¬ kd x.Kind then (m,0,192) else if m.fz=false then (m,0,253) else if 1000≤m.c4 then (m,0,254)
 else (kg n m (m.c4+1) (gq x),(kg n m (m.c4+1) (gq x)).c4,0)
def ty(n:Nat)(m:bn):bn:=if 0<m.b∧m.fz=false then e8 m (((gd n).filter fun bw=>(m.bG.lookup bw).isNone).map fun bw=>(bw,p1 m.b)) else m
def h4(n:Nat)(m:bn)(slot:Int):bn:=if (m.bO.lookup slot).isSome=true then m else match m.bz.lookup slot with
 |none=>m
 |some p=>e8 m (((gd n).filter fun bw=>!p.2.contains bw).map fun bw=>(bw,la slot m.b p.1))
def Aw(n:Nat)(m:bn):bn:=(e0 (m.bz.map (·.1))).foldl (h4 n) (ty n m)
def nN(n:Nat)(i:Int)(m:bn)(slot:Int):bn:=e8 m (((gd n).filter fun bw=>bw != i).map fun bw=>(bw,vM slot ((m.bO.lookup slot).getD [])))
def AN(n:Nat)(i:Int)(m:bn):bn:=(e0 (m.bO.map (·.1))).foldl (nN n i) m
def wR(m:bn)(from_:Int)(w:dv):bn:=
 if (h5 m.ai w.b).2=0 then pj { m with ai:=(h5 m.ai w.b).1 } from_ (Ee w.b (gT m.ai.es)) else { m with ai:=(h5 m.ai w.b).1 }
def xJ(m:bn)(from_:Int)(w:dv):bn:=
 if (mN m.ai w.v.ai w.v.bm w.v.V).2=0 then pj { m with ai:=(mN m.ai w.v.ai w.v.bm w.v.V).1 } from_ (ZR w.v.ai w.v.bm) else { m with ai:=(mN m.ai w.v.ai w.v.bm w.v.V).1 }
def mu(bG:List (Int×List dd)):List dd:=((e0 (bG.map (·.1))).map fun k=>(bG.lookup k).getD []).flatten
def wP(xs:List dd):List (Int×fG):=xs.foldl (fun es x=>bM x.bm x.V es) []
def rm(xs:List dd):Int:=xs.foldl (fun _ x=>x.bm) 0
def nl(k:Nat):List Int:=(List.range k).map fun l:Nat=>(l:Int)+1
def lead(n:Nat)(m:bn)(xs:List dd):bn:=(nl (rm xs).toNat).foldl (fun m s=>kg n m s (((wP xs).lookup s).getD [])) { m with fz:=true }
def wS(n:Nat)(m:bn)(from_:Int)(w:dv):bn:=
 if (m.bG.lookup from_).isSome=true∨m.fz=true∨w.b≠m.b then m
 else if ¬ n<2*(bM from_ w.c m.bG).length then { m with bG:=bM from_ w.c m.bG }
 else lead n { m with bG:=bM from_ w.c m.bG } (gT (gM (mu (bM from_ w.c m.bG))))
def vC(v:cf)(s:fG):cf:=match k2 s with
 |some x=>(mO v x).1
 |none=>v
def AS(m:bn)(s:fG):bn:={ m with dh:=m.dh+1,V:=vC m.V s }
def kp:Nat→bn→bn
 |0,m=>m
 |f+1,m=>match m.bO.lookup (m.dh+1) with
  |none=>m
  |some s=>kp f (AS m s)
def lX(m:bn)(slot:Int)(v:fG):bn:=if (m.bO.lookup slot).isSome=true then m else kp 1001 { m with bO:=bM slot v m.bO }
def EP(n:Nat)(i:Int)(m:bn)(slot from_:Int)(p:fG×List Int):bn:=
 if n<2*p.2.length∨¬ n<2*(p.2.length+1) then { m with bz:=bM slot (p.1,p.2++[from_]) m.bz }
 else nN n i (lX { m with bz:=bM slot (p.1,p.2++[from_]) m.bz } slot p.1) slot
def xI(n:Nat)(i:Int)(m:bn)(from_:Int)(w:dv):bn:=match m.bz.lookup w.v.bm with
 |none=>m
 |some p=>if m.fz=false∨w.b≠m.b then m else if p.2.contains from_ then m else EP n i m w.v.bm from_ p
def vG(n:Nat)(i:Int)(m:bn)(from_:Int)(w:dv):bn:=
 if w.k=1 then wR m from_ w else if w.k=3 then xJ m from_ w else if w.k=2 then wS n m from_ w else if w.k=4 then xI n i m from_ w else lX m w.v.bm w.v.V
def fX(z:cu)(i:Int):Except Int bn:=match (if i<0 then none else z.R[i.toNat]?) with
 |none=>.error 251
 |some m=>if m.ai.ah.down=true then .error 252 else .ok m
def hK(z:cu)(i:Nat)(m:bn):cu:={ z with R:=z.R.set i m }
def pJ{S:Type}(z:cu)(i:Int)(aL:Int→S)(f:bn→bn×S):cu×S:=match fX z i with
 |.error e=>(z,aL e)
 |.ok m=>(hK z i.toNat (f m).1,(f m).2)
def rY(z:cu)(i:Int):cu×Int×Int:=pJ z i (fun e=>(0,e)) (v7 z.R.length i)
def vD(z:cu)(i:Int)(x:dU):cu×Int×Int:=pJ z i (fun e=>(0,e)) (w5 z.R.length x)
def wK(z:cu)(i:Int):cu×Int:=pJ z i (fun e=>e) fun m=>(Aw z.R.length m,0)
def w0(z:cu)(i:Int):cu×Int:=pJ z i (fun e=>e) fun m=>(AN z.R.length i m,0)
def ji(ad:gj):gj×Int:=({ ad with ah:=(tK ad.ah ad.V).1,V:=(tK ad.ah ad.V).2.1 },(tK ad.ah ad.V).2.2)
def m2(n:Nat)(x:Int):Prop:=0≤x∧x<n
instance (n:Nat)(x:Int):Decidable (m2 n x):=by unfold m2; infer_instance
def vA(n:Nat)(i:Int)(ar:mK)(t:Int×dv):mK:=
 if ¬ (m2 n i∧m2 n t.1)∨1000≤ar.c.length then ar else ⟨IntKind.i64.wrap (ar.kl+1),ar.c++[⟨IntKind.i64.wrap (ar.kl+1),i,t.1,t.2⟩],ar.off⟩
def DH(n:Nat)(i:Int)(ar:mK)(out:List (Int×dv)):mK:=out.foldl (vA n i) ar
def pW(z:cu)(i:Int):cu×Int:=match fX z i with
 |.error e=>(z,e)
 |.ok m=>if (ji m.ai).2≠0 then (hK z i.toNat { m with ai:=(ji m.ai).1 },(ji m.ai).2)
  else ({ hK z i.toNat { m with ai:=(ji m.ai).1,out:=[] } with cq:=DH z.R.length i z.cq m.out },0)
def ob(z:cu)(l:Int):Option kD:=if l<0 then none else z.cq.c[l.toNat]?
def nd(z:cu)(l:Int):cu:={ z with cq:={ z.cq with c:=z.cq.c.eraseIdx l.toNat } }
def zR(z:cu)(x:kD):cu×Int:=match fX z x.bw with
 |.error e=>(z,e)
 |.ok m=>(hK z x.bw.toNat (vG z.R.length x.bw m x.from_ x.w),0)
def r1(z:cu)(l:Int):cu×Int:=match ob z l with
 |none=>(z,92)
 |some x=>if (z.cq.off x.from_||z.cq.off x.bw)=true then (z,93) else zR (nd z l) x
def zO(z:cu)(l:Int):cu×Int:=match ob z l with
 |none=>(z,92)
 |some x=>if 1000≤z.cq.c.length then (z,91) else ({ z with cq:={ z.cq with c:=z.cq.c++[x] } },0)
def Ap(z:cu)(l:Int):cu×Int:=match ob z l with
 |none=>(z,92)
 |some x=>(nd z l,0)
def vP(z:cu)(i:Int)(f:bn→bn×Int):cu×Int:=match (if i<0 then none else z.R[i.toNat]?) with
 |none=>(z,251)
 |some m=>(hK z i.toNat (f m).1,(f m).2)
def oX(z:cu)(i:Int)(q:Bool):cu×Int:=if i<0∨(z.R.length:Int)≤i then (z,251) else ({ z with cq:={ z.cq with off:=fun N=>if N==i then q else z.cq.off N } },0)
def BN(act:Int)(bL:List Int)(m:bn):bn×Int:=({ m with ai:={ m.ai with ah:={ m.ai.ah with hD:=max act 0,bL:=bL } } },0)
def rU(z:cu)(i act:Int)(bL:List Int):cu×Int:=vP z i (BN act bL)
def zQ(bL:List Int)(m:bn):bn×Int:=({ m with ai:={ m.ai with ah:=Disk.j8 bL m.ai.ah } },0)
def v_(z:cu)(i:Int)(bL:List Int):cu×Int:=vP z i (zQ bL)
def E9(b:List UInt8):Rec:=match (jY b).1 with
 |[_,x]=>.prom x.aG
 |[_,x,N,aL]=>.acc x.aG N.aG aL.ad
 |_=>.prom 0
theorem afv{r:Rec}(h:kN r):E9 (fY r)=r:=by
 unfold E9;rw[Zh h];cases r<;>rfl
theorem SD{af:List Rec}(h:∀ r∈af,kN r):(af.map fY).map E9=af:=by
 rw[List.map_map]
 conv=>rhs; rw[← List.map_id af]
 exact List.map_congr_left fun r Z=>afv (h r Z)
def iW(f:Nat)(ah:eQ)(af:List Rec):bn:=⟨⟨ah,⟨af.length,af.length,0,false⟩,(fold af).1,(fold af).2⟩,[],[],jx f,0,0,false,[],[],0⟩
def lY(ah:eQ):eW:=(ah.e_[0]?).getD ⟨[],0⟩
def hp(ah:eQ):eQ:={ ah with down:=false }
def Ef(f:Nat)(m:bn)(ah:eQ):bn×Int:=
 if (fR ah 0 (lY ah)).2≠0 then ({ m with ai:={ m.ai with ah:=(fR ah 0 (lY ah)).1 } },(fR ah 0 (lY ah)).2)
 else (iW f (fR ah 0 (lY ah)).1 ((scan (lY ah).b).1.map E9),0)
def sS(f:Nat)(m:bn):bn×Int:=if m.ai.ah.down=true then Ef f m (hp m.ai.ah) else (m,0)
def pY(z:cu)(i:Int):cu×Int:=vP z i (sS z.fg)
def d0:eQ:=⟨[⟨[],0⟩],0,false,0,[]⟩
def pe(n:Nat)(f:Nat):cu:=⟨f,List.replicate n (iW f d0 []),⟨0,[],fun _=>false⟩⟩
def LM(z:cu)(i:Int):Int×Bool:=match fX z i with
 |.error _=>(0,false)
 |.ok m=>if m.fz=true then (m.b,true) else (0,false)
def Gw(z:cu)(i:Int):Int:=match fX z i with
 |.error _=>0
 |.ok m=>m.ai.p
def uu(m:bn):List dd:=(e0 (m.bO.map (·.1))).map fun s=>⟨s,0,(m.bO.lookup s).getD []⟩
def qg(z:cu)(i:Int):List dd:=match fX z i with
 |.error _=>[]
 |.ok m=>uu m
def v6(z:cu)(i:Int):Int:=match fX z i with
 |.error _=>0
 |.ok m=>m.dh
end dO
namespace dO
open ba Wire Disk Ballot
def tY(af:List Rec):Prop:=∀ r∈af,kN r
structure tW(ah:eQ)(af:List Rec)(k:Nat):Prop where
 ok:ah.j4
 up:ah.down=false
 log:ah.e_=[⟨ed af,(ed (af.take k)).length⟩]
structure p5(ah:eQ)(af:List Rec):Prop where
 ok:ah.j4
 off:ah.down=true
 log:∃ p,(∃ e,nI p=.error e)∧ah.e_=[⟨ed af++p,(ed af++p).length⟩]
theorem afq{af:List Rec}{k:Nat}(ab:tY af)(al:k≤af.length)(bL:List Int):∃ l p,k≤l∧l≤af.length∧(∃ e,nI p=.error e) ∧
  lN bL 0 ⟨ed af,(ed (af.take k)).length⟩=⟨ed (af.take l)++p,(ed (af.take l)++p).length⟩:=by
 have wx:=FP (bL:=bL) (i:=0) (g:=⟨ed af,(ed (af.take k)).length⟩) (VI af k);simp only at wx;obtain⟨i,p,B,J,au,a8⟩:=Tn (af.map fY) (kept bL 0 ⟨ed af,(ed (af.take k)).length⟩) (YP ab) wx.2;rw[List.length_map] at B;rw[← List.map_take] at J;have b_:=a8 k (by rw[← List.map_take]; exact wx.1) (by rw[List.length_map]; exact al);refine⟨i,p,b_,B,au,?_⟩;have aT:(ed af).take (kept bL 0 ⟨ed af,(ed (af.take k)).length⟩)=ed (af.take i)++p:=J;unfold lN;simp only;rw[aT,← aT,List.length_take,Nat.min_eq_left wx.2]
theorem tW.j8{ah:eQ}{af:List Rec}{k:Nat}(R:tW ah af k)(ab:tY af)(al:k≤af.length)(bL:List Int):∃ l,k≤l∧l≤af.length∧p5 (Disk.j8 bL ah) (af.take l):=by
 obtain⟨l,p,B,J,au,a8⟩:=afq ab al bL;refine⟨l,B,J,Sz R.ok,by unfold Disk.j8; rw[if_neg (by simp[R.up])],p,au,?_⟩;unfold Disk.j8;rw[if_neg (by simp[R.up])];simp only[R.log,List.mapIdx_cons,List.mapIdx_nil,a8]
theorem p5.j8{ah:eQ}{af:List Rec}(d:p5 ah af)(bL:List Int):Disk.j8 bL ah=ah:=by unfold Disk.j8; rw[if_pos d.off]
theorem Jb{ah:eQ}{g:eW}(aj:ah.e_=[g])(aC:ah.down=false){size:Int}(aF:size≤4194304)(f:eW→eW) :
  ((nv ah 0 size f).2=0∧(nv ah 0 size f).1.e_=[f g]∧(nv ah 0 size f).1.down=false)∨((nv ah 0 size f).2=71∧(nv ah 0 size f).1=Disk.j8 ah.bL ah):=by
 unfold nv;rw[aj,if_neg (by simp),if_neg (by simp[aC]),if_neg (by omega)];by_cases o:ah.hD=1
 ·rw[if_pos o]; exact .inr ⟨rfl,rfl⟩
 ·rw[if_neg o]; exact .inl ⟨rfl,rfl,aC⟩
theorem wM{ah:eQ}{g:eW}(aj:ah.e_=[g])(h:g.sure≤g.b.length∧g.b.length≤4194304):ah.j4:=by
 refine⟨by rw[aj]; simp,fun q a5=>?_⟩;rw[aj] at a5;rw[List.mem_singleton.1 a5];exact h
theorem ayw{ah:eQ}{g:eW}(aj:ah.e_=[g]):Disk.sizeOf ah 0=g.b.length:=by
 unfold Disk.sizeOf;rw[aj];rfl
theorem aue(af:List Rec)(r:Rec):ed (af++[r])=ed af++fv (fY r):=by rw[LV]; simp[ed,gI]
theorem Vq{ad:gj}{af:List Rec}{k:Nat}{r:Rec}(R:tW ad.ah af k)(B:ad.V.dead=false)(J:ad.V.log=0)(al:k≤af.length)(ab:tY af)(Z:kN r)(aj:af.length≤1000) :
  ((eZ ad r).2=0∧tW (eZ ad r).1.ah (af++[r]) k∧(eZ ad r).1.V.dead=false∧(eZ ad r).1.V.log=0∧(eZ ad r).1.p=ad.p∧(eZ ad r).1.es=ad.es) ∨
  ((eZ ad r).2≠0∧∃ l,k≤l∧l≤af.length∧p5 (eZ ad r).1.ah (af.take l)):=by
 have aT:=zU Z;have a0:=VH ab;have cS:=VI af k;have j9:(fv (fY r)).length=8+(fY r).length:=uB _;have th:=Jb R.log R.up (size:=(((fv (fY r)).length+Disk.sizeOf ad.ah 0:Nat):Int)) (by rw[ayw R.log]; simp only; omega) fun g=>⟨g.b++fv (fY r),g.sure⟩
 have BY:n0 ad.ah 0 (fv (fY r))=nv ad.ah 0 (((fv (fY r)).length+Disk.sizeOf ad.ah 0:Nat):Int) fun g=>⟨g.b++fv (fY r),g.sure⟩:=rfl;rw[← BY] at th;have we:rT ad.ah ad.V (fY r)=((n0 ad.ah 0 (fv (fY r))).1,{ ad.V with all:=if (n0 ad.ah 0 (fv (fY r))).2=0 then IntKind.i64.wrap (ad.V.all+1) else ad.V.all,dead:=ad.V.dead||(n0 ad.ah 0 (fv (fY r))).2==71 },(n0 ad.ah 0 (fv (fY r))).2):=by
  unfold rT;rw[B,if_neg (by simp),if_neg (by omega),J];simp only[J]
 unfold eZ;rw[we];rcases th with ⟨dM,aY,aI⟩ | ⟨dM,aY⟩
 ·left;rw[dM];refine⟨rfl,⟨wM aY ?_,aI,?_⟩,by simp[B],J,rfl,rfl⟩
  ·simp only[List.length_append];omega
  ·simp only;rw[aY,aue,List.take_append_of_le_length al]
 ·right;rw[dM,aY];exact⟨by simp,R.j8 ab al _⟩
theorem ay1{ad:gj}{af:List Rec}{k:Nat}(R:tW ad.ah af k)(B:ad.V.dead=false)(J:ad.V.log=0)(al:k≤af.length)(ab:tY af) :
  ((ji ad).2=0∧tW (ji ad).1.ah af af.length∧(ji ad).1.V.dead=false∧(ji ad).1.V.log=0∧(ji ad).1.p=ad.p∧(ji ad).1.es=ad.es) ∨
  ((ji ad).2≠0∧∃ l,k≤l∧l≤af.length∧p5 (ji ad).1.ah (af.take l)):=by
 have th:=Jb R.log R.up (size:=0) (by omega) fun g=>⟨g.b,g.b.length⟩
 have BY:pV ad.ah 0=nv ad.ah 0 0 fun g=>⟨g.b,g.b.length⟩:=rfl;rw[← BY] at th;have we:tK ad.ah ad.V=((pV ad.ah 0).1,{ ad.V with sure:=if (pV ad.ah 0).2=0 then ad.V.all else ad.V.sure,dead:=ad.V.dead||(pV ad.ah 0).2==71 },(pV ad.ah 0).2):=by
  unfold tK;rw[B,if_neg (by simp),J];simp only[J]
 have aF:=R.ok.log _ (by rw[R.log]; exact List.mem_singleton.2 rfl);unfold ji;rw[we];rcases th with ⟨dM,aY,aI⟩ | ⟨dM,aY⟩
 ·left;rw[dM];refine⟨rfl,⟨wM aY ?_,aI,?_⟩,by simp[B],J,rfl,rfl⟩
  ·simp only at aF ⊢;omega
  ·simp only;rw[aY,List.take_length]
 ·right;rw[dM,aY];exact⟨by simp,R.j8 ab al _⟩
theorem VS{ah:eQ}{af:List Rec}(d:p5 ah af)(ab:tY af):(scan (lY (hp ah)).b).1=af.map fY∧(hp ah).j4∧(hp ah).e_[0]?=some (lY (hp ah)) ∧
  (((fR (hp ah) 0 (lY (hp ah))).2=0∧tW (fR (hp ah) 0 (lY (hp ah))).1 af af.length)∨((fR (hp ah) 0 (lY (hp ah))).2≠0∧p5 (fR (hp ah) 0 (lY (hp ah))).1 af)):=by
 obtain⟨p,aH,aj⟩:=d.log;have qp:(hp ah).e_=[⟨ed af++p,(ed af++p).length⟩]:=aj;have ae:lY (hp ah)=⟨ed af++p,(ed af++p).length⟩:=by unfold lY; rw[qp]; rfl
 have aF:scan (ed af++p)=(af.map fY,(ed af).length):=aye (YP ab) aH;have hR:=d.ok.log _ (by rw[aj]; exact List.mem_singleton.2 rfl);simp only[List.length_append] at hR;have dW:(hp ah).j4:=wM qp (by simp only[List.length_append]; omega);rw[ae];refine⟨by simp only[aF],dW,by rw[qp]; rfl,?_⟩;unfold fR;simp only[aF];by_cases o:(ed af).length<(ed af++p).length
 ·rw[if_pos o];have aT:(ed af++p).take (ed af).length=ed af:=by simp
  rw[aT];have th:=Jb qp rfl (size:=((ed af).length:Int)) (by omega) fun _=>⟨ed af,(ed af).length⟩
  have BY:DM (hp ah) 0 (ed af)=nv (hp ah) 0 ((ed af).length:Int) fun _=>⟨ed af,(ed af).length⟩:=rfl;rw[← BY] at th;rcases th with ⟨dM,aY,aI⟩ | ⟨dM,aY⟩
  ·left;refine⟨dM,wM aY (by simp only; omega),aI,?_⟩;rw[aY,List.take_length]
  ·right;rw[dM,aY];refine⟨by simp,Sz dW,by unfold Disk.j8; rw[if_neg (by simp[hp])],p,aH,?_⟩;unfold Disk.j8;rw[if_neg (by simp[hp])];simp only[qp,List.mapIdx_cons,List.mapIdx_nil];have wx:=FP (bL:=(hp ah).bL) (i:=0) (g:=⟨ed af++p,(ed af++p).length⟩) (Nat.le_refl _);simp only at wx;have:kept (hp ah).bL 0 ⟨ed af++p,(ed af++p).length⟩=(ed af++p).length:=by omega
   unfold lN;rw[this];simp only[List.take_length]
 ·rw[if_neg o,if_neg (by simp)];have T3:p=[]:=by
   rw[List.length_append] at o;exact List.eq_nil_of_length_eq_zero (by omega)
  subst T3;left;refine⟨rfl,dW,rfl,?_⟩;rw[qp,List.take_length,List.append_nil]
structure oN(ad:gj)(af:List Rec)(k:Nat):Prop where
 live:tW ad.ah af k
 dead:ad.V.dead=false
 log:ad.V.log=0
 br:(ad.p,ad.es)=fold af
theorem oN.p{ad:gj}{af:List Rec}{k:Nat}(h:oN ad af k):ad.p=(fold af).1:=congrArg Prod.fst h.br
theorem oN.es{ad:gj}{af:List Rec}{k:Nat}(h:oN ad af k):ad.es=(fold af).2:=congrArg Prod.snd h.br
theorem oN.Hr{ad:gj}{af:List Rec}{k:Nat}(h:oN ad af k)(b:Int):oI ad b=jZ af b:=by unfold oI jZ; rw[h.p]
theorem WU{ad:gj}{af:List Rec}{k:Nat}(h:oN ad af k)(ab:tY af)(al:k≤af.length)(aj:af.length≤1000)(b:Int) :
  ((h5 ad b).2=(oc af b).2∧oN (h5 ad b).1 (oc af b).1 k)∨((h5 ad b).2≠0∧∃ l,k≤l∧l≤af.length∧p5 (h5 ad b).1.ah (af.take l)):=by
 unfold h5 oc;rw[h.Hr b,← h.p];by_cases hw:jZ af b≠0
 ·rw[if_pos hw,if_pos hw]; exact .inl ⟨rfl,h⟩
 ·rw[if_neg hw,if_neg hw];by_cases aA:ad.p<b
  ·rw[if_pos aA,if_pos aA];have qu:kf b=true:=by
    unfold jZ at hw;cases aO:kf b with
    |true=>rfl
    |false=>rw[aO] at hw; simp at hw
   rcases Vq (r:=.prom b) h.live h.dead h.log al ab qu aj with ⟨dM,aY,aI,bh,aR,bU⟩ | ⟨dM,aY⟩
   ·rw[if_neg (by simp[dM])];refine .inl ⟨rfl,aY,aI,bh,?_⟩;simp only;rw[xT,← h.br,bU];simp only[g1];congr 1;omega
   ·rw[if_pos dM];exact .inr ⟨dM,aY⟩
  ·rw[if_neg aA,if_neg aA]; exact .inl ⟨rfl,h⟩
theorem adV{ad:gj}{af:List Rec}{k:Nat}(h:oN ad af k)(ab:tY af)(al:k≤af.length)(aj:af.length≤1000)(b n:Int)(v:List UInt8) :
  ((mN ad b n v).2=(lK af b n v).2∧oN (mN ad b n v).1 (lK af b n v).1 k)∨((mN ad b n v).2≠0∧∃ l,k≤l∧l≤af.length∧p5 (mN ad b n v).1.ah (af.take l)):=by
 unfold mN lK;rw[h.Hr b,← h.es];by_cases B:jZ af b=231
 ·rw[if_pos B,if_pos B]; exact .inl ⟨rfl,h⟩
 ·rw[if_neg B,if_neg B];by_cases J:tH n=false
  ·rw[if_pos J,if_pos J]; exact .inl ⟨rfl,h⟩
  ·rw[if_neg J,if_neg J];by_cases au:1000<v.length
   ·rw[if_pos au,if_pos au]; exact .inl ⟨rfl,h⟩
   ·rw[if_neg au,if_neg au];by_cases a8:jZ af b≠0
    ·rw[if_pos a8,if_pos a8]; exact .inl ⟨rfl,h⟩
    ·rw[if_neg a8,if_neg a8];have qu:kf b=true:=by
      unfold jZ at a8;cases aO:kf b with
      |true=>rfl
      |false=>rw[aO] at a8; simp at a8
     have u6:kN (.acc b n v):=⟨qu,by simpa using J,by omega⟩
     have new:((if (eZ ad (.acc b n v)).2=0 then (pn (eZ ad (.acc b n v)).1 ⟨n,b,v⟩,(0:Int)) else eZ ad (.acc b n v)).2=0∧oN (if (eZ ad (.acc b n v)).2=0 then (pn (eZ ad (.acc b n v)).1 ⟨n,b,v⟩,(0:Int)) else eZ ad (.acc b n v)).1 (af++[.acc b n v]) k) ∨
       ((if (eZ ad (.acc b n v)).2=0 then (pn (eZ ad (.acc b n v)).1 ⟨n,b,v⟩,(0:Int)) else eZ ad (.acc b n v)).2≠0∧∃ l,k≤l∧l≤af.length∧p5 (if (eZ ad (.acc b n v)).2=0 then (pn (eZ ad (.acc b n v)).1 ⟨n,b,v⟩,(0:Int)) else eZ ad (.acc b n v)).1.ah (af.take l)):=by
      rcases Vq (r:=.acc b n v) h.live h.dead h.log al ab u6 aj with ⟨dM,aY,aI,bh,aR,bU⟩ | ⟨dM,aY⟩
      ·rw[if_pos dM];refine .inl ⟨rfl,aY,aI,bh,?_⟩;rw[xT,← h.br];unfold pn;simp only[g1,aR,bU]
      ·rw[if_neg dM];exact .inr ⟨dM,aY⟩
     cases jc:ad.es.lookup n with
     |none=>exact new
     |some A=>
      simp only;by_cases gz:A.ai=b
      ·rw[if_pos gz,if_pos gz];by_cases lT:A.V=v
       ·rw[if_pos lT,if_pos lT]; exact .inl ⟨rfl,h⟩
       ·rw[if_neg lT,if_neg lT]; exact .inl ⟨rfl,h⟩
      ·rw[if_neg gz,if_neg gz];exact new
end dO
namespace dO
open ba Wire Disk Ballot
open Vault (cf)
open Shard (dU gq k2 mO kd jx)
def za(f:Nat)(o:Int→fG):Nat→cf
 |0=>jx f
 |k+1=>vC (za f o k) (o ((k:Int)+1))
theorem Zr{f:Nat}{o d:Int→fG}:∀ {k:Nat},(∀ s:Int,1≤s→s≤k→o s=d s)→za f o k=za f d k
 |0,_=>rfl
 |k+1,h=>by
  unfold za;rw[Zr (k:=k) fun s am B=>h s am (by omega),h ((k:Int)+1) (by omega) (by omega)]
def s7(n i:Nat)(K:bN)(out:List (Int×dv))(w:dv):Prop:=
 (w.k=1∧own n w.b=i∧1≤w.b∧w.b≤(K.now i).1) ∨
 (w.k = 2 ∧ (1 ≤ w.b ∧ w.c.length ≤ 1000) ∧ w.b ≤ (K.now i).1 ∧ w.b ≤ (K.sure (own n w.b)).1 ∧ (∀ x ∈ w.c, x.ai ≤ w.b ∧ K.e2 x.ai x.bm = true ∧ K.value x.ai x.bm = x.V) ∧
  ∀ dw s,dw<w.b→K.e1 dw s i=true∨(∃ t∈out,t.2.k=4∧t.2.b=dw∧t.2.v.bm=s)→∃ x∈w.c,x.bm=s∧dw≤x.ai) ∨
 (w.k=3∧K.e2 w.v.ai w.v.bm=true∧K.value w.v.ai w.v.bm=w.v.V) ∨
 (w.k=4∧K.e2 w.b w.v.bm=true∧(∃ x,(K.now i).2.lookup w.v.bm=some x∧w.b≤x.ai)∧∀ o,K.said o i=true→o≤w.b) ∨
 (w.k=5∧K.hF w.v.bm=true∧K.lL w.v.bm=w.v.V)
def tV(n:Nat)(K:bN)(from_:Int)(w:dv):Prop:=
 (w.k=1∧1≤w.b∧w.b≤(K.sure (own n w.b)).1) ∨
 (w.k=2∧1≤w.b∧w.b≤(K.sure (own n w.b)).1∧∃ l:Nat,from_=l∧l<n∧s8 K w.b l w.c) ∨
 (w.k=3∧K.e2 w.v.ai w.v.bm=true∧K.value w.v.ai w.v.bm=w.v.V) ∨
 (w.k=4∧∃ l:Nat,from_=l∧l<n∧K.e1 w.b w.v.bm l=true) ∨
 (w.k=5∧K.hF w.v.bm=true∧K.lL w.v.bm=w.v.V)
theorem tV.le{n:Nat}{K bj:bN}{f:Int}{w:dv}(h:tV n K f w)(e:gE K bj):tV n bj f w:=by
 rcases h with ⟨B,J,au⟩ | ⟨B,am,J,l,au,a8,b_⟩ | ⟨B,J,au⟩ | ⟨B,l,J,au,a8⟩ | ⟨B,J,au⟩
 ·exact .inl ⟨B,J,Int.le_trans au (e.sure _)⟩
 ·exact .inr (.inl ⟨B,am,Int.le_trans J (e.sure _),l,au,a8,b_.le e⟩)
 ·have:=e.fix _ _ J;exact .inr (.inr (.inl ⟨B,this.1,this.2.trans au⟩))
 ·exact .inr (.inr (.inr (.inl ⟨B,l,J,au,e.e1 _ _ _ a8⟩)))
 ·have:=e.hF _ J;exact .inr (.inr (.inr (.inr ⟨B,this.1,this.2.trans au⟩)))
structure Core(n f i:Nat)(m:bn)(K:bN):Prop where
 acc:oN m.ai (K.af i) (K.gU i)
 mf:m.b=0∨(own n m.b=i∧1≤m.b∧m.b≤(K.now i).1)
 c4:0≤m.c4∧m.c4≤1000
 lu:(m.bG.map (·.1)).Nodup
 bG:∀ t∈m.bG,m.b≤(K.sure (own n m.b)).1∧∃ l:Nat,t.1=l∧l<n∧s8 K m.b l t.2
 bz:∀ t∈m.bz,K.e2 m.b t.1=true∧K.value m.b t.1=t.2.1∧t.2.2.Nodup∧∀ k∈t.2.2,∃ l:Nat,k=l∧l<n∧K.e1 m.b t.1 l=true
 n3:(m.bO.map (·.1)).Nodup
 bO:∀ t∈m.bO,K.hF t.1=true∧K.lL t.1=t.2
 out:∀ t∈m.out,s7 n i K m.out t.2
 dh:0≤m.dh∧∀ s,1≤s→s≤m.dh→K.hF s=true
 v:m.V=za f K.lL m.dh.toNat
structure eX(n f i:Nat)(m:bn)(K:bN):Prop where
 core:Core n f i m K
 fresh:m.fz=false→m.c4=0∧∀ s,K.e2 m.b s=false
 lead:m.fz=true→1≤m.b∧m.b≤(K.sure (own n m.b)).1∧∀ s,m.c4<s→K.e2 m.b s=false∧rO n K m.b s
def p_(n f i:Nat)(m:bn)(K:bN):Prop:=(m.ai.ah.down=false∧eX n f i m K)∨(p5 m.ai.ah (K.af i)∧K.gU i=(K.af i).length)
structure Fr(n i:Nat)(K bj:bN):Prop where
 le:gE K bj
 af:∀ l,l≠i→bj.af l=K.af l∧bj.gU l=K.gU l
 e1:∀ b s l,l≠i→bj.e1 b s l=K.e1 b s l
 said:∀ b l,l≠i→bj.said b l=K.said b l
 e2:∀ b s,bj.e2 b s=true→K.e2 b s=true∨own n b=i
 len:∀ l,(bj.af l).length≤(K.af l).length+1
theorem Fr.refl(n i:Nat)(K:bN):Fr n i K K:=⟨gE.refl K,fun _ _=>⟨rfl,rfl⟩,fun _ _ _ _=>rfl,fun _ _ _=>rfl,fun _ _ h=>.inl h,fun _=>by omega⟩
theorem Fr.trans{n i:Nat}{K bj uj:bN}(h:Fr n i K bj)(k:Fr n i bj uj)(e:∀ l,(uj.af l).length≤(bj.af l).length):Fr n i K uj:=by
 refine⟨h.le.trans k.le,fun l a7=>⟨(k.af l a7).1.trans (h.af l a7).1,(k.af l a7).2.trans (h.af l a7).2⟩,fun b s l a7=>(k.e1 b s l a7).trans (h.e1 b s l a7),fun b l a7=>(k.said b l a7).trans (h.said b l a7),fun b s ap=>?_,fun l=>Nat.le_trans (e l) (h.len l)⟩;rcases k.e2 b s ap with B | B
 ·exact h.e2 b s B
 ·exact .inr B
theorem Gb{K bj:bN}{i:Nat}(h:bj.af i=K.af i):bj.now i=K.now i:=by unfold bN.now; rw[h]
theorem s7.le{n i:Nat}{K bj:bN}{out:List (Int×dv)}{w:dv}(h:s7 n i K out w)(e:gE K bj)(Z:bj.af i=K.af i)(ak:∀ b s,bj.e1 b s i=K.e1 b s i)(aF:∀ b,bj.said b i=K.said b i):s7 n i bj out w:=by
 rcases h with ⟨B,J,au,a8⟩ | ⟨B,am,J,au,a8,b_⟩ | ⟨B,J,au⟩ | ⟨B,J,au,a8⟩ | ⟨B,J,au⟩
 ·exact .inl ⟨B,J,au,by rw[Gb Z]; exact a8⟩
 ·refine .inr (.inl ⟨B,am,by rw[Gb Z]; exact J,Int.le_trans au (e.sure _),fun x F=>?_,fun dw s cA bV=>b_ dw s cA (by rw[ak] at bV; exact bV)⟩);obtain⟨cD,dC,fx⟩:=a8 x F;have:=e.fix _ _ dC;exact⟨cD,this.1,this.2.trans fx⟩
 ·have:=e.fix _ _ J;exact .inr (.inr (.inl ⟨B,this.1,this.2.trans au⟩))
 ·refine .inr (.inr (.inr (.inl ⟨B,(e.fix _ _ J).1,by rw[Gb Z]; exact au,fun o W=>a8 o (by rw[aF] at W; exact W)⟩)))
 ·have:=e.hF _ J;exact .inr (.inr (.inr (.inr ⟨B,this.1,this.2.trans au⟩)))
theorem Core.le{n f i:Nat}{m:bn}{K bj:bN}(h:Core n f i m K)(e:gE K bj)(Z:bj.af i=K.af i)(a5:bj.gU i=K.gU i)(ak:∀ b s,bj.e1 b s i=K.e1 b s i)(aF:∀ b,bj.said b i=K.said b i):Core n f i m bj:=by
 refine⟨by rw[Z,a5]; exact h.acc,by rw[Gb Z]; exact h.mf,h.c4,h.lu,fun t B=>?_,fun t B=>?_,h.n3,fun t B=>?_,fun t B=>(h.out t B).le e Z ak aF,⟨h.dh.1,fun s am B=>(e.hF s (h.dh.2 s am B)).1⟩,?_⟩
 ·obtain⟨J,l,au,a8,b_⟩:=h.bG t B;exact⟨Int.le_trans J (e.sure _),l,au,a8,b_.le e⟩
 ·obtain⟨J,au,a8,b_⟩:=h.bz t B;have hv:=e.fix _ _ J;refine⟨hv.1,hv.2.trans au,a8,fun k al=>?_⟩;obtain⟨l,cD,dC,fx⟩:=b_ k al;exact⟨l,cD,dC,e.e1 _ _ _ fx⟩
 ·obtain⟨J,au⟩:=h.bO t B;have:=e.hF _ J;exact⟨this.1,this.2.trans au⟩
 ·rw[h.v];have:=h.dh.1;exact Zr fun s am B=>(e.hF s (h.dh.2 s am (by omega))).2.symm
theorem eX.le{n f i:Nat}{m:bn}{K bj:bN}(h:eX n f i m K)(e:gE K bj)(Z:bj.af i=K.af i)(a5:bj.gU i=K.gU i)(ak:∀ b s,bj.e1 b s i=K.e1 b s i)(aF:∀ b,bj.said b i=K.said b i)
  (ap:∀ s,K.e2 m.b s=false→bj.e2 m.b s=false):eX n f i m bj:=by
 refine⟨h.core.le e Z a5 ak aF,fun aj=>⟨(h.fresh aj).1,fun s=>ap s ((h.fresh aj).2 s)⟩,fun aj=>?_⟩;obtain⟨B,J,au⟩:=h.lead aj;exact⟨B,Int.le_trans J (e.sure _),fun s aF=>⟨ap s (au s aF).1,(au s aF).2.le e⟩⟩
theorem p_.bT{n f i l:Nat}{m:bn}{K bj:bN}(h:p_ n f l m K)(a7:l≠i)(e:Fr n i K bj)(mY:Inv n bj):p_ n f l m bj:=by
 rcases h with ⟨B,J⟩ | ⟨B,J⟩
 ·refine .inl ⟨B,J.le e.le (e.af l a7).1 (e.af l a7).2 (fun b s=>e.e1 b s l a7) (fun b=>e.said b l a7) fun s F=>?_⟩;cases aJ:bj.e2 m.b s with
  |false=>rfl
  |true=>
   rcases e.e2 _ _ aJ with au | au
   ·rw[F] at au; cases au
   ·rcases J.core.mf with aA | ⟨aA,_⟩
    ·have:=(mY.yE _ _ aJ).1;omega
    ·exact absurd (aA.symm.trans au) a7
 ·refine .inr ⟨by rw[(e.af l a7).1]; exact B,by rw[(e.af l a7).1,(e.af l a7).2]; exact J⟩
theorem s7.more{n i:Nat}{K:bN}{out R:List (Int×dv)}{w:dv}(h:s7 n i K out w)(gg:∀ t∈R,t.2.k≠4):s7 n i K (out++R) w:=by
 rcases h with h | ⟨B,am,J,au,a8,b_⟩ | h
 ·exact .inl h
 ·refine .inr (.inl ⟨B,am,J,au,a8,fun dw s cA bV=>b_ dw s cA ?_⟩);rcases bV with bV | ⟨t,ak,al,Z⟩
  ·exact .inl bV
  ·rcases List.mem_append.1 ak with ak | ak
   ·exact .inr ⟨t,ak,al,Z⟩
   ·exact absurd al (gg t ak)
 ·exact .inr (.inr h)
def Bx(n i:Nat)(K:bN)(w:dv):Prop:=w.k≠2∧w.k≠4∧s7 n i K [] w
theorem Bx.out{n i:Nat}{K:bN}{w:dv}(h:Bx n i K w)(out:List (Int×dv)):s7 n i K out w:=by
 obtain⟨B,J,au⟩:=h;rcases au with h | ⟨h,_⟩ | h
 ·exact .inl h
 ·exact absurd h B
 ·exact .inr (.inr h)
theorem Core.e8{n f i:Nat}{m:bn}{K:bN}{R:List (Int×dv)}(h:Core n f i m K)(gg:∀ t∈R,Bx n i K t.2):Core n f i (e8 m R) K:=by
 refine⟨h.acc,h.mf,h.c4,h.lu,h.bG,h.bz,h.n3,h.bO,fun t ak=>?_,h.dh,h.v⟩;rcases List.mem_append.1 ak with ak | ak
 ·exact (h.out t ak).more fun u hu=>(gg u hu).2.1
 ·exact (gg t ak).out _
theorem eX.e8{n f i:Nat}{m:bn}{K:bN}{R:List (Int×dv)}(h:eX n f i m K)(gg:∀ t∈R,Bx n i K t.2):eX n f i (e8 m R) K:=⟨h.core.e8 gg,h.fresh,h.lead⟩
theorem Core.all{n f i:Nat}{m:bn}{K:bN}{w:dv}(h:Core n f i m K)(hw:Bx n i K w):Core n f i (all n m w) K:=h.e8 fun t ak=>by
 obtain⟨k,_,rfl⟩:=List.mem_map.1 ak;exact hw
theorem azg{n:Nat}{K:bN}(h:Inv n K){i l:Nat}(B:K.gU i≤l):jz (K.sure i) (fold (((K.af i).take l).take ((K.af i).take l).length)):=by
 rw[List.take_length];have aj:=(h.lr i).1;have e:(K.af i).take l=(K.af i).take (K.gU i)++((K.af i).take l).drop (K.gU i):=by
  have:=(List.take_append_drop (K.gU i) ((K.af i).take l)).symm;rw[List.take_take,Nat.min_eq_left B] at this;exact this
 have qp:li (0,[]) ((K.af i).take l):=by
  rw[← List.take_append_drop l (K.af i)] at aj;exact (yq.1 aj).1
 rw[e] at qp ⊢;exact LN qp
theorem BV{n f i:Nat}{m:bn}{K:bN}(h:Inv n K){l:Nat}(B:K.gU i≤l)(aC:p5 m.ai.ah ((K.af i).take l)) :
  ∃ bj,Inv n bj∧Fr n i K bj∧p_ n f i m bj:=by
 have aj:=(h.lr i).1;have qp:li (0,[]) ((K.af i).take l):=by
  rw[← List.take_append_drop l (K.af i)] at aj;exact (yq.1 aj).1
 have e:=h.Yg (k:=i) qp (Nat.le_refl _) (azg h B) (fun b m v hm=>h.hb i b m v (List.mem_of_mem_take hm));refine⟨_,e.1,⟨e.2,fun l a7=>⟨lC a7,lC a7⟩,fun _ _ _ _=>rfl,fun _ _ _=>rfl,fun _ _ ap=>.inl ap,fun k=>?_⟩,.inr ⟨?_,?_⟩⟩
 ·by_cases o:k=i
  ·subst o;simp only[bN.hb,mC,List.length_take]; omega
  ·simp only[bN.hb,lC o]; omega
 ·simp only[bN.hb,mC]; exact aC
 ·simp only[bN.hb,mC]
theorem JU{n f i:Nat}{m:bn}{K:bN}{xf:gj}{iF:List Rec}(h:Inv n K)(o:eX n f i m K)(F:∃ e,iF=K.af i++e∧e.length≤1)(aj:li (0,[]) iF)(aA:oN xf iF (K.gU i))
  (Z:∀ b m v,Rec.acc b m v∈iF→K.e2 b m=true∧K.value b m=v) :
  Inv n (K.hb i iF (K.gU i))∧Fr n i K (K.hb i iF (K.gU i))∧eX n f i { m with ai:=xf } (K.hb i iF (K.gU i))∧jz (K.now i) (fold iF)∧(K.hb i iF (K.gU i)).now i=fold iF∧(∀ l,(K.hb i iF (K.gU i)).sure l=K.sure l):=by
 obtain⟨e,rfl,he⟩:=F;have ya:=(h.lr i).2;have x_:(K.af i++e).take (K.gU i)=(K.af i).take (K.gU i):=List.take_append_of_le_length ya;have k6:jz (K.sure i) (fold ((K.af i++e).take (K.gU i))):=by rw[x_]; exact jz.refl
 have br:=h.Yg (k:=i) (nm:=K.gU i) aj (by rw[List.length_append]; omega) k6 Z;have qt:jz (K.now i) (fold (K.af i++e)):=LN aj;have aO:(K.hb i (K.af i++e) (K.gU i)).now i=fold (K.af i++e):=by simp only[bN.now,bN.hb,mC]
 have qv:∀ l,(K.hb i (K.af i++e) (K.gU i)).sure l=K.sure l:=by
  intro l;by_cases o:l=i
  ·subst o;rw[Yh,x_]; rfl
  ·exact Yi K _ _ o
 refine⟨br.1,⟨br.2,fun l a7=>⟨lC a7,lC a7⟩,fun _ _ _ _=>rfl,fun _ _ _=>rfl,fun _ _ ap=>.inl ap,fun k=>?_⟩,?_,qt,aO,qv⟩
 ·by_cases o:k=i
  ·subst o;simp only[bN.hb,mC,List.length_append]; omega
  ·simp only[bN.hb,lC o]; omega
 ·have W:=o.core;refine⟨⟨?_,?_,W.c4,W.lu,fun t ak=>?_,fun t ak=>W.bz t ak,W.n3,W.bO,fun t ak=>?_,W.dh,W.v⟩,fun aj=>o.fresh aj,fun aj=>?_⟩
  ·simp only[bN.hb,mC]; exact aA
  ·rw[aO];rcases W.mf with B | ⟨B,J,au⟩
   ·exact .inl B
   ·exact .inr ⟨B,J,Int.le_trans au qt.p⟩
  ·obtain⟨B,J⟩:=W.bG t ak;rw[qv];exact⟨B,J⟩
  ·rcases W.out t ak with ⟨B,J,au,a8⟩ | ⟨B,am,J,au,a8,b_⟩ | B | ⟨B,J,⟨x,au,aht⟩,a8⟩ | B
   ·exact .inl ⟨B,J,au,by rw[aO]; exact Int.le_trans a8 qt.p⟩
   ·exact .inr (.inl ⟨B,am,by rw[aO]; exact Int.le_trans J qt.p,by rw[qv]; exact au,a8,b_⟩)
   ·exact .inr (.inr (.inl B))
   ·refine .inr (.inr (.inr (.inl ⟨B,J,?_,a8⟩)));rw[aO];obtain⟨N,aJ,b_⟩:=qt.v _ x au;refine⟨N,aJ,?_⟩;rcases b_ with b_ | rfl
    ·omega
    ·exact aht
   ·exact .inr (.inr (.inr (.inr B)))
  ·obtain⟨B,J,au⟩:=o.lead aj;exact⟨B,by rw[qv]; exact J,au⟩
variable {n f i:Nat} {m:bn} {K:bN}
def Step(n f i:Nat)(K:bN)(m:bn):Prop:=∃ bj,Inv n bj∧Fr n i K bj∧p_ n f i m bj
theorem eX.up(o:eX n f i m K):m.ai.ah.down=false:=o.core.acc.live.up
theorem eX.step(h:Inv n K)(o:eX n f i m K):Step n f i K m:=⟨K,h,Fr.refl n i K,.inl ⟨o.up,o⟩⟩
theorem Inv.tA(h:Inv n K)(k:Nat):tY (K.af k):=LO (h.lr k).1
theorem eX.ayb(o:eX n f i m K){bw:Int}{w:dv}(al:w.k≠4)(ab:s7 n i K (m.out++[(bw,w)]) w):eX n f i (pj m bw w) K:=by
 have h:=o.core;refine⟨⟨h.acc,h.mf,h.c4,h.lu,h.bG,h.bz,h.n3,h.bO,fun t ak=>?_,h.dh,h.v⟩,o.fresh,o.lead⟩;rcases List.mem_append.1 ak with ak | ak
 ·exact (h.out t ak).more fun u hu=>by rw[List.mem_singleton.1 hu]; exact al
 ·rw[List.mem_singleton.1 ak]; exact ab
theorem eX.N5(h:Inv n K)(o:eX n f i m K){x:dd}(F:x∈gT m.ai.es):x.ai≤(K.now i).1∧K.e2 x.ai x.bm=true∧K.value x.ai x.bm=x.V:=by
 rw[o.core.acc.es] at F;have g:=h.Ft i;have B:=auc g F;have J:=(LU g).1 F;have au:=Zw (af:=K.af i) (s:=(0,[])) J;simp at au;exact⟨B.2.2.2.1,h.hb i _ _ _ au⟩
theorem awt(h:Inv n K)(o:eX n f i m K)(aj:(K.af i).length≤900){from_:Int}{w:dv}(aA:1≤w.b∧w.b≤(K.sure (own n w.b)).1):Step n f i K (wR m from_ w):=by
 have ya:=(h.lr i).2;unfold wR;rcases WU o.core.acc (h.tA i) ya (by omega) w.b with ⟨dM,aY⟩ | ⟨dM,l,aY,aI,bh⟩
 ·obtain⟨mY,jG,q4,TY,qt,qv⟩:=JU h o (WP (K.af i) w.b) (WQ (h.lr i).1) aY fun b s v Z=>by
   rcases WR Z with Z | Z
   ·exact h.hb i b s v Z
   ·cases Z
  by_cases e:(h5 m.ai w.b).2=0
  ·rw[if_pos e];refine⟨_,mY,jG,.inl ⟨aY.live.up,q4.ayb (by simp[Ee]) (.inr (.inl ⟨rfl,⟨aA.1,?_⟩,?_,?_,fun x F=>?_,fun dw s cA bV=>?_⟩))⟩⟩
   ·show (gT m.ai.es).length≤1000
    have:=JK (af:=K.af i) (s:=(0,[]));rw[VC,o.core.acc.es];simp only[List.length_nil] at this;unfold fold;omega
   ·rw[qt];have:=WS (af:=K.af i) (b:=w.b) (by rw[← dM]; exact e);show w.b≤_
    omega
   ·rw[qv]; exact aA.2
   ·have B:=o.N5 h F;refine⟨?_,B.2⟩;have J:=WT.1 (by rw[← dM]; exact e);have au:(K.now i).1≤w.b:=J.2.2;show x.ai≤w.b
    omega
   ·have B:∃ x,(K.now i).2.lookup s=some x∧dw≤x.ai:=by
     rcases bV with bV | ⟨t,ak,al,nz,aF⟩
     ·obtain⟨_,_,x,au,a8⟩:=h.e1 dw s i bV;obtain⟨N,aJ,b_⟩:=(h.GZ i).v s x au;refine⟨N,aJ,?_⟩;rcases b_ with b_ | rfl
      ·omega
      ·exact a8
     ·rcases List.mem_append.1 ak with ak | ak
      ·rcases o.core.out t ak with ⟨g,_⟩ | ⟨g,_⟩ | ⟨g,_⟩ | ⟨g,_,⟨x,dC,fx⟩,_⟩ | ⟨g,_⟩
       ·omega
       ·omega
       ·omega
       ·rw[aF] at dC;rw[nz] at fx;exact⟨x,dC,fx⟩
       ·omega
      ·rw[List.mem_singleton.1 ak] at al;simp[Ee] at al
    obtain⟨x,au,a8⟩:=B;have g:=h.Ft i;have b_:=(g.ok _ (m6 au)).1;simp only at b_;refine⟨x,?_,b_,a8⟩;show x∈gT m.ai.es
    rw[o.core.acc.es];exact (LU g).2 (by rw[b_]; exact au)
  ·rw[if_neg e];exact⟨_,mY,jG,.inl ⟨aY.live.up,q4⟩⟩
 ·rw[if_neg dM];exact BV h aY bh
theorem ad0(h:Inv n K)(o:eX n f i m K)(aj:(K.af i).length≤900){from_:Int}{w:dv}(aA:K.e2 w.v.ai w.v.bm=true∧K.value w.v.ai w.v.bm=w.v.V):Step n f i K (xJ m from_ w):=by
 have ya:=(h.lr i).2;unfold xJ;rcases adV o.core.acc (h.tA i) ya (by omega) w.v.ai w.v.bm w.v.V with ⟨dM,aY⟩ | ⟨dM,l,aY,aI,bh⟩
 ·obtain⟨mY,jG,q4,TY,qt,qv⟩:=JU h o (adQ (K.af i) w.v.ai w.v.bm w.v.V) (adR (h.lr i).1) aY fun b s v Z=>by
   rcases adS Z with Z | Z
   ·exact h.hb i b s v Z
   ·cases Z;exact aA
  by_cases e:(mN m.ai w.v.ai w.v.bm w.v.V).2=0
  ·rw[if_pos e];have gf:(lK (K.af i) w.v.ai w.v.bm w.v.V).2=0:=by rw[← dM]; exact e
   have x9:=adT (h.lr i).1 gf;have nE:=adU gf;have W:=q4.core;refine⟨_,mY,jG,.inl ⟨aY.live.up,⟨W.acc,W.mf,W.c4,W.lu,W.bG,W.bz,W.n3,W.bO,fun t ak=>?_,W.dh,W.v⟩,q4.fresh,q4.lead⟩⟩;rcases List.mem_append.1 ak with ak | ak
   ·rcases W.out t ak with g | ⟨cD,gr,dC,fx,jO,q_⟩ | g
    ·exact .inl g
    ·refine .inr (.inl ⟨cD,gr,dC,fx,jO,fun dw s cA bV=>q_ dw s cA ?_⟩);rcases bV with bV | ⟨u,hu,al,nz,aF⟩
     ·exact .inl bV
     ·rcases List.mem_append.1 hu with hu | hu
      ·exact .inr ⟨u,hu,al,nz,aF⟩
      ·rw[List.mem_singleton.1 hu] at nz;rw[qt] at dC;have:w.v.ai=dw:=nz;omega
    ·exact .inr (.inr g)
   ·rw[List.mem_singleton.1 ak];refine .inr (.inr (.inr (.inl ⟨rfl,aA.1,?_,fun b aF=>?_⟩)))
    ·rw[qt];obtain⟨x,B,J⟩:=nE;refine⟨x,B,?_⟩;show w.v.ai≤x.ai
     omega
    ·have B:=(h.said b i aF).2;have J:=(h.GZ i).p;have au:(K.now i).1≤w.v.ai:=x9.1;show b≤w.v.ai
     omega
  ·rw[if_neg e];exact⟨_,mY,jG,.inl ⟨aY.live.up,q4⟩⟩
 ·rw[if_neg dM];exact BV h aY bh
theorem aeQ{a:Int}(aO:0<n)(aq:i<n)(ag:0≤a):a<us n i a∧us n i a≤a+n∧own n (us n i a)=i:=by
 have e:Int.tmod (Int.tmod ((i:Int)-a-1) n+n) n=((i:Int)-a-1)%n:=by
  have am:=Int.emod_nonneg ((i:Int)-a-1) (b:=(n:Int)) (by omega);rw[Int.tmod_eq_emod (a:=(i:Int)-a-1)];split
  ·rw[Int.tmod_eq_emod_of_nonneg (by omega),Int.natCast_zero,Int.sub_zero,Int.add_emod_right,Int.emod_emod_of_dvd _ (Int.dvd_refl _)]
  ·have aT:((i:Int)-a-1)%(n:Int)-(((n:Int).natAbs:Nat):Int)+n=((i:Int)-a-1)%(n:Int):=by omega
   rw[aT,Int.tmod_eq_emod_of_nonneg am,Int.emod_emod_of_dvd _ (Int.dvd_refl _)]
 unfold us own;rw[e];have am:=Int.emod_nonneg ((i:Int)-a-1) (b:=(n:Int)) (by omega);have B:=Int.emod_lt_of_pos ((i:Int)-a-1) (b:=(n:Int)) (by omega);refine⟨by omega,by omega,?_⟩;have J:(a+1+((i:Int)-a-1)%n)%n=(i:Int):=by
  rw[Int.add_emod,Int.emod_emod_of_dvd _ (Int.dvd_refl _),← Int.add_emod];rw[show a+1+((i:Int)-a-1)=(i:Int) from by omega];exact Int.emod_eq_of_lt (by omega) (by omega)
 rw[J];omega
theorem aeT(aO:0<n)(aq:i<n)(h:Inv n K)(o:eX n f i m K)(aj:(K.af i).length≤900):Step n f i K (v7 n i m).1:=by
 have ya:=(h.lr i).2;have T3:=(h.Ft i).sJ;have aH:m.ai.p=(K.now i).1:=o.core.acc.p;have z4:0≤m.b:=by rcases o.core.mf with B | B<;>omega
 have v8:=aeQ (a:=max m.ai.p m.b) aO aq (by omega);unfold v7;generalize us n i (max m.ai.p m.b)=b at v8;unfold E2;by_cases B:1099511627776<b
 ·rw[if_pos B]; exact o.step h
 ·rw[if_neg B];rcases WU o.core.acc (h.tA i) ya (by omega) b with ⟨dM,aY⟩ | ⟨dM,l,aY,aI,bh⟩
  ·obtain⟨mY,jG,q4,TY,qt,qv⟩:=JU h o (WP (K.af i) b) (WQ (h.lr i).1) aY fun b s v Z=>by
    rcases WR Z with Z | Z
    ·exact h.hb i b s v Z
    ·cases Z
   by_cases e:(h5 m.ai b).2≠0
   ·rw[if_pos e];exact⟨_,mY,jG,.inl ⟨aY.live.up,q4⟩⟩
   ·rw[if_neg e];have aA4:=WS (af:=K.af i) (b:=b) (by rw[← dM]; omega);have W:=q4.core;refine⟨_,mY,jG,.inl ⟨aY.live.up,?_⟩⟩;have rX:eX n f i (n2 { m with ai:=(h5 m.ai b).1 } b) (K.hb i (oc (K.af i) b).1 (K.gU i)):=by
     refine⟨⟨W.acc,.inr ⟨v8.2.2,by show 1≤b; omega,by rw[qt]; show b≤_; omega⟩,⟨by simp[n2],by simp[n2]⟩,by simp[n2],by simp[n2],by simp[n2],W.n3,W.bO,W.out,W.dh,W.v⟩,fun _=>⟨rfl,fun s=>?_⟩,by simp[n2]⟩;cases ap:(K.hb i (oc (K.af i) b).1 (K.gU i)).e2 b s with
     |false=>exact ap
     |true=>
      have J:=(mY.yE b s ap).2;rw[v8.2.2,qv] at J;have au:=(h.GZ i).p;omega
    refine rX.e8 fun t ak=>?_;obtain⟨k,_,rfl⟩:=List.mem_map.1 ak;exact⟨by simp[p1],by simp[p1],.inl ⟨rfl,v8.2.2,by show 1≤b; omega,by rw[qt]; show b≤_; omega⟩⟩
  ·rw[if_pos dM];exact BV h aY bh
theorem MM:∀ {xs:List dd} {es:List (Int×fG)} {s:Int},(∀ x∈xs,x.bm≠s)→(xs.foldl (fun es x=>bM x.bm x.V es) es).lookup s=es.lookup s
 |[],_,_,_=>rfl
 |x::xs,es,s,h=>by
  rw[List.foldl_cons,MM (xs:=xs) fun N aJ=>h N (by simp[aJ]),lZ,if_neg];have:=h x (by simp);simpa using fun e=>this e.symm
theorem WJ:∀ {xs:List dd} {es:List (Int×fG)} {N:dd},xs.Pairwise (fun a b=>a.bm<b.bm)→N∈xs→(xs.foldl (fun es x=>bM x.bm x.V es) es).lookup N.bm=some N.V
 |x::xs,es,N,aH,aJ=>by
  rw[List.pairwise_cons] at aH;rw[List.foldl_cons];rcases List.mem_cons.1 aJ with rfl | aJ
  ·rw[MM fun aL cb=>by have:=aH.1 aL cb; omega,lZ,if_pos (by simp)]
  ·exact WJ aH.2 aJ
theorem LK:∀ {xs:List dd} {a:Int},xs.Pairwise (fun a b=>a.bm<b.bm)→(∀ x∈xs,x.bm≤xs.foldl (fun _ x=>x.bm) a)∧((xs=[]∧xs.foldl (fun _ x=>x.bm) a=a)∨∃ x∈xs,x.bm=xs.foldl (fun _ x=>x.bm) a)
 |[],a,_=>⟨by simp,.inl ⟨rfl,rfl⟩⟩
 |x::xs,a,aH=>by
  rw[List.pairwise_cons] at aH;have b8:=LK (xs:=xs) (a:=x.bm) aH.2;rw[List.foldl_cons];rcases b8.2 with ⟨rfl,e⟩ | ⟨N,aJ,e⟩
  ·refine⟨fun aL cb=>?_,.inr ⟨x,by simp,rfl⟩⟩;rw[List.mem_singleton.1 cb];exact Int.le_refl _
  ·refine⟨fun aL cb=>?_,.inr ⟨N,by simp[aJ],e⟩⟩;rcases List.mem_cons.1 cb with rfl | cb
   ·have:=aH.1 N aJ;omega
   ·exact b8.1 aL cb
theorem Mk{bG:List (Int×List dd)}(aC:(bG.map (·.1)).Nodup){x:dd}:x∈mu bG↔∃ t∈bG,x∈t.2:=by
 unfold mu;rw[List.mem_flatten];constructor
 ·rintro⟨c,aj,F⟩;obtain⟨k,al,rfl⟩:=List.mem_map.1 aj;obtain⟨t,ak,rfl⟩:=List.mem_map.1 ((hY _).mem_iff.1 al);rw[vm aC (v:=t.2) ak] at F;exact⟨t,ak,F⟩
 ·rintro⟨t,ak,F⟩;refine⟨t.2,List.mem_map.2 ⟨t.1,(hY _).mem_iff.2 (List.mem_map.2 ⟨t,ak,rfl⟩),?_⟩,F⟩;rw[vm aC (v:=t.2) ak];rfl
variable {n f i:Nat} {m:bn} {K:bN}
theorem WW(h:Inv n K)(o:Core n f i m K)(aA:1≤m.b∧m.b≤(K.sure (own n m.b)).1)(ab:own n m.b=i){s:Int}{v:fG}(aO:K.e2 m.b s=false)(hm:tX n K m.b s v)(aF:1≤s∧s≤1000∧v.length≤1000) :
  Inv n (K.fix m.b s v)∧Fr n i K (K.fix m.b s v)∧Core n f i (kg n m s v) (K.fix m.b s v):=by
 obtain⟨mY,gg⟩:=h.ag9 aO hm aA aF;have W:=o.le gg rfl rfl (fun _ _=>rfl) (fun _=>rfl);refine⟨mY,⟨gg,fun _ _=>⟨rfl,rfl⟩,fun _ _ _ _=>rfl,fun _ _ _=>rfl,fun b t ap=>?_,fun l=>Nat.le_succ _⟩,?_⟩
 ·rcases z1 ap with ⟨rfl,_⟩ | ap
  ·exact .inr ab
  ·exact .inl ap
 ·unfold kg;refine Core.all (m:={ m with bz:=bM s (v,[]) m.bz,c4:=max m.c4 s }) ⟨W.acc,W.mf,?_,W.lu,W.bG,fun t ak=>?_,W.n3,W.bO,W.out,W.dh,W.v⟩ ⟨by simp[la],by simp[la],.inr (.inr (.inl ⟨rfl,Cb K m.b s v⟩))⟩
  ·have:=o.c4;show 0≤max m.c4 s∧max m.c4 s≤1000
   omega
  ·rcases sC ak with rfl | ak
   ·exact⟨(Cb K m.b s v).1,(Cb K m.b s v).2,by simp,by simp⟩
   ·exact W.bz t ak
theorem YO(d:Nat):nl (d+1)=nl d++[(d:Int)+1]:=by
 unfold nl;rw[List.range_succ,List.map_append];rfl
theorem atF(h:Inv n K)(o:Core n f i m K)(aA:1≤m.b∧m.b≤(K.sure (own n m.b)).1)(ab:own n m.b=i)(am:m.c4=0)(ap:∀ s,K.e2 m.b s=false){g:Int→fG}{k:Nat}(al:k≤1000)
  (ae:∀ s:Int,1≤s→s≤k→tX n K m.b s (g s)∧(g s).length≤1000):∀ d:Nat,d≤k →
  ∃ bj,Inv n bj∧Fr n i K bj∧Core n f i ((nl d).foldl (fun m s=>kg n m s (g s)) m) bj∧((nl d).foldl (fun m s=>kg n m s (g s)) m).b=m.b∧((nl d).foldl (fun m s=>kg n m s (g s)) m).c4=d ∧
   ((nl d).foldl (fun m s=>kg n m s (g s)) m).fz=m.fz∧(∀ s:Int,d<s→bj.e2 m.b s=false)∧(∀ s:Int,d<s→s≤k→tX n bj m.b s (g s))∧bj.af=K.af∧bj.gU=K.gU:=by
 intro d;induction d with
 |zero=>exact fun _=>⟨K,h,Fr.refl n i K,o,rfl,am,rfl,fun s _=>ap s,fun s B J=>(ae s (by omega) J).1,rfl,rfl⟩
 |succ d b8=>
  intro aC;obtain⟨bj,eP,gD,nU,pp,Ej,OD,Ek,ZZ,HC,HB⟩:=b8 (by omega);rw[YO,List.foldl_append];simp only[List.foldl_cons,List.foldl_nil];generalize (nl d).foldl (fun m s=>kg n m s (g s)) m=q at *;have qv:∀ l,bj.sure l=K.sure l:=fun l=>by unfold bN.sure; rw[HC,HB]
  have br:=WW (s:=(d:Int)+1) (v:=g ((d:Int)+1)) eP nU (by rw[pp,qv]; exact aA) (by rw[pp]; exact ab) (by rw[pp]; exact Ek _ (by omega)) (by rw[pp]; exact ZZ _ (by omega) (by omega)) ⟨by omega,by omega,(ae _ (by omega) (by omega)).2⟩;refine⟨_,br.1,gD.trans br.2.1 fun _=>Nat.le_refl _,br.2.2,pp,?_,OD,fun s aF=>?_,fun s B J=>?_,HC,HB⟩
  ·show max q.c4 _=_
   rw[Ej]; omega
  ·cases e:(bj.fix q.b ((d:Int)+1) (g ((d:Int)+1))).e2 m.b s with
   |false=>rfl
   |true=>
    rcases z1 e with ⟨_,a0⟩ | a0
    ·omega
    ·rw[Ek s (by omega)] at a0; cases a0
  ·exact (ZZ s (by omega) J).fix (by rw[pp]; exact Ek _ (by omega))
theorem aus{bG:List (Int×List dd)}(aC:(bG.map (·.1)).Nodup)(a7:∀ t∈bG,∃ l:Nat,t.1=l∧l<n)(h:n<2*bG.length):lk n fun k=>(bG.map fun t=>(t.1.toNat,t.2)).any fun t=>t.1==k:=by
 have B:(bG.map fun t=>t.1.toNat).Nodup:=by
  have:(bG.map fun t=>t.1.toNat)=(bG.map (·.1)).map Int.toNat:=by rw[List.map_map]; rfl
  rw[this];refine Ga ?_ aC;intro a ag b aA e;obtain⟨t,ak,rfl⟩:=List.mem_map.1 ag;obtain⟨u,hu,rfl⟩:=List.mem_map.1 aA;obtain⟨l,TV,_⟩:=a7 t ak;obtain⟨k,qo,_⟩:=a7 u hu;omega
 refine (VN (n:=n) B (fun k al=>?_) (by rw[List.length_map]; exact h)).mono fun k _ al=>?_
 ·obtain⟨t,ak,rfl⟩:=List.mem_map.1 al;obtain⟨l,TV,wv⟩:=a7 t ak;show t.1.toNat<n
  omega
 ·obtain⟨t,ak,e⟩:=List.mem_map.1 (List.contains_iff_mem.1 al);exact List.any_eq_true.2 ⟨(t.1.toNat,t.2),List.mem_map.2 ⟨t,ak,rfl⟩,by simpa using e⟩
theorem awy(h:Inv n K)(o:eX n f i m K){from_:Int}{w:dv}(hw:1≤w.b∧w.b≤(K.sure (own n w.b)).1∧∃ l:Nat,from_=l∧l<n∧s8 K w.b l w.c):Step n f i K (wS n m from_ w):=by
 unfold wS;by_cases B:(m.bG.lookup from_).isSome=true∨m.fz=true∨w.b≠m.b
 ·rw[if_pos B]; exact o.step h
 ·rw[if_neg B];have u5:m.fz=false:=by
   cases e:m.fz with
   |false=>rfl
   |true=>exact absurd (.inr (.inl e)) B
  have u9:w.b=m.b:=Classical.byContradiction fun e=>B (.inr (.inr e));rw[u9] at hw;have W:=o.core;have bF:eX n f i { m with bG:=bM from_ w.c m.bG } K:=by
   refine⟨⟨W.acc,W.mf,W.c4,qA W.lu,fun t ak=>?_,W.bz,W.n3,W.bO,W.out,W.dh,W.v⟩,o.fresh,o.lead⟩;rcases sC ak with rfl | ak
   ·exact⟨hw.2.1,hw.2.2⟩
   ·exact W.bG t ak
  by_cases J:¬ n<2*(bM from_ w.c m.bG).length
  ·rw[if_pos J]; exact bF.step h
  ·rw[if_neg J];have J:n<2*(bM from_ w.c m.bG).length:=Classical.not_not.1 J;have qf:=bF.core;have ab:own n m.b=i:=by
    rcases W.mf with e | e
    ·omega
    ·exact e.1
   obtain⟨wy,x6⟩:=o.fresh u5;have bG:=qf.bG;have lu:=qf.lu;simp only at bG lu;generalize bM from_ w.c m.bG=q at *;have KJ:=aus (n:=n) lu (fun t ak=>by obtain⟨_,l,cD,dC,_⟩:=bG t ak; exact⟨l,cD,dC⟩) J
   have hk:=av2 h (b:=m.b) (bG:=q.map fun t=>(t.1.toNat,t.2)) (fun t ak=>by
    obtain⟨u,hu,rfl⟩:=List.mem_map.1 ak;obtain⟨_,l,cD,dC,fx⟩:=bG u hu;have:u.1.toNat=l:=by omega
    simp only[this];exact fx) KJ (xs:=mu q) (fun x=>by
    rw[Mk lu];constructor
    ·rintro⟨t,ak,F⟩;exact⟨_,List.mem_map.2 ⟨t,ak,rfl⟩,F⟩
    ·rintro⟨t,ak,F⟩;obtain⟨u,hu,rfl⟩:=List.mem_map.1 ak
     exact⟨u,hu,F⟩) x6
   have axN:∀ x∈mu q,K.e2 x.ai x.bm=true∧K.value x.ai x.bm=x.V:=by
    intro x F;obtain⟨t,ak,F⟩:=(Mk lu).1 F;obtain⟨_,l,cD,dC,fx⟩:=bG t ak;exact (fx.2.1 x F).2
   generalize mu q=xs at *;have YU:(gT (gM xs)).Pairwise fun a b=>a.bm<b.bm:=VD (WI xs) (WH xs);have F2:=LK (a:=0) YU;have inl:∀ {s:Int} {N:dd},(gM xs).lookup s=some N→N∈gT (gM xs)∧N.bm=s∧1≤s∧s≤1000∧N.V.length≤1000:=by
    intro s N aJ;obtain⟨eP,gD,_⟩:=MJ aJ;have:=axN N gD;have au:=h.slot _ _ this.1;rw[this.2,eP] at au;exact⟨Gs.2 (by rw[eP]; exact aJ),eP,au⟩
   have tp:rm (gT (gM xs))=0∨(1≤rm (gT (gM xs))∧rm (gT (gM xs))≤1000):=by
    unfold rm;rcases F2.2 with ⟨_,e⟩ | ⟨N,aJ,e⟩
    ·exact .inl e
    ·have:=inl (Gs.1 aJ);rw[← e];exact .inr ⟨this.2.2.1,this.2.2.2.1⟩
   unfold lead;have bP:Core n f i { m with bG:=q,fz:=true } K:=⟨qf.acc,qf.mf,qf.c4,qf.lu,qf.bG,qf.bz,qf.n3,qf.bO,qf.out,qf.dh,qf.v⟩
   have br:=atF h bP ⟨hw.1,hw.2.1⟩ ab wy x6 (g:=fun s=>((wP (gT (gM xs))).lookup s).getD []) (k:=(rm (gT (gM xs))).toNat) (by omega) (fun s au a8=>?_) _ (Nat.le_refl _)
   ·obtain⟨bj,eP,gD,nU,pp,Ej,OD,Ek,_,HC,HB⟩:=br;refine⟨bj,eP,gD,.inl ⟨?_,nU,fun e=>?_,fun _=>?_⟩⟩
    ·exact nU.acc.live.up
    ·rw[OD] at e; cases e
    ·rw[pp,Ej];have qv:∀ l,bj.sure l=K.sure l:=fun l=>by unfold bN.sure; rw[HC,HB]
     refine⟨hw.1,by rw[qv]; exact hw.2.1,fun s aF=>⟨Ek s aF,rO.le ((hk s).2 ?_) gD.le⟩⟩;cases e:(gM xs).lookup s with
     |none=>rfl
     |some N=>
      have b_:=inl e;have hv:=F2.1 N b_.1;rw[b_.2.1] at hv;unfold rm at aF;omega
   ·simp only;cases e:(gM xs).lookup s with
    |none=>
     have:(wP (gT (gM xs))).lookup s=none:=by
      unfold wP;rw[MM]
      ·rfl
      ·intro x F a0;rw[← a0,Gs.1 F] at e;cases e
     rw[this];exact⟨((hk s).2 e).VP,by simp⟩
    |some N=>
     have b_:=inl e;have:(wP (gT (gM xs))).lookup s=some N.V:=by
      unfold wP;rw[← b_.2.1];exact WJ YU b_.1
     rw[this];exact⟨(hk s).1 N e,b_.2.2.2.2⟩
theorem ET:∀ (g:Nat) (m:bn),(kp g m).bO=m.bO
 |0,_=>rfl
 |g+1,m=>by
  unfold kp;split
  ·rfl
  ·rw[ET g]; rfl
theorem ES:∀ (g:Nat) (m:bn),(kp g m).b=m.b∧(kp g m).fz=m.fz∧(kp g m).c4=m.c4∧(kp g m).ai=m.ai∧(kp g m).bz=m.bz∧(kp g m).bG=m.bG∧(kp g m).out=m.out
 |0,_=>⟨rfl,rfl,rfl,rfl,rfl,rfl,rfl⟩
 |g+1,m=>by
  unfold kp;split
  ·exact⟨rfl,rfl,rfl,rfl,rfl,rfl,rfl⟩
  ·exact ES g _
theorem eX.kp:∀ (g:Nat) {m:bn},eX n f i m K→eX n f i (kp g m) K
 |0,_,o=>o
 |g+1,m,o=>by
  unfold dO.kp;split
  ·exact o
  ·rename_i s aF;have W:=o.core;have hm:=W.bO _ (m6 aF);simp only at hm;have am:=W.dh.1;refine eX.kp g ⟨⟨W.acc,W.mf,W.c4,W.lu,W.bG,W.bz,W.n3,W.bO,W.out,⟨by show 0≤m.dh+1; omega,fun t B J=>?_⟩,?_⟩,o.fresh,o.lead⟩
   ·have J:t≤m.dh+1:=J;by_cases e:t=m.dh+1
    ·rw[e]; exact hm.1
    ·exact W.dh.2 t B (by omega)
   ·show vC m.V s=za f K.lL (m.dh+1).toNat
    have e:(m.dh+1).toNat=m.dh.toNat+1:=by omega
    rw[e,W.v];show _=vC _ _
    have a0:((m.dh.toNat:Nat):Int)+1=m.dh+1:=by omega
    rw[a0,hm.2]
theorem eX.Vu(o:eX n f i m K){s:Int}{v:fG}(B:K.hF s=true)(J:K.lL s=v):eX n f i (lX m s v) K∧∃ u,(lX m s v).bO.lookup s=some u:=by
 unfold lX;by_cases e:(m.bO.lookup s).isSome=true
 ·rw[if_pos e];exact⟨o,Option.isSome_iff_exists.1 e⟩
 ·rw[if_neg e];have W:=o.core;refine⟨eX.kp _ ⟨⟨W.acc,W.mf,W.c4,W.lu,W.bG,W.bz,qA W.n3,fun t ak=>?_,W.out,W.dh,W.v⟩,o.fresh,o.lead⟩,v,?_⟩
  ·rcases sC ak with rfl | ak
   ·exact⟨B,J⟩
   ·exact W.bO t ak
  ·rw[ET];simp only;rw[lZ,if_pos (by simp)]
theorem eX.NT(o:eX n f i m K){s k:Int}{u:fG}(h:m.bO.lookup s=some u):eX n f i (nN n k m s) K:=o.e8 fun t ak=>by
 obtain⟨l,_,rfl⟩:=List.mem_map.1 ak;have:=o.core.bO _ (m6 h);rw[h];exact⟨by simp[vM],by simp[vM],.inr (.inr (.inr (.inr ⟨rfl,this.1,this.2⟩)))⟩
theorem adX(h:Inv n K)(o:eX n f i m K){from_ k:Int}{w:dv}(hw:∃ l:Nat,from_=l∧l<n∧K.e1 w.b w.v.bm l=true):Step n f i K (xI n k m from_ w):=by
 unfold xI;cases aH:m.bz.lookup w.v.bm with
 |none=>exact o.step h
 |some p=>
  simp only;by_cases B:m.fz=false∨w.b≠m.b
  ·rw[if_pos B]; exact o.step h
  ·rw[if_neg B];have u9:w.b=m.b:=Classical.byContradiction fun e=>B (.inr e);rw[u9] at hw;by_cases J:p.2.contains from_=true
   ·rw[if_pos J]; exact o.step h
   ·rw[if_neg J];have W:=o.core;obtain⟨kx,vq,WA,WB⟩:=W.bz _ (m6 aH);simp only at kx vq WA WB;generalize w.v.bm=s at *;have T2:(p.2++[from_]).Nodup:=by
     rw[List.nodup_append];refine⟨WA,by simp,fun a ag b aA e=>?_⟩;rw[List.mem_singleton.1 aA] at e;subst e;exact J (List.contains_iff_mem.2 ag)
    have tl:∀ k∈p.2++[from_],∃ l:Nat,k=l∧l<n∧K.e1 m.b s l=true:=by
     intro k al;rcases List.mem_append.1 al with al | al
     ·exact WB k al
     ·rw[List.mem_singleton.1 al]; exact hw
    have bF:eX n f i { m with bz:=bM s (p.1,p.2++[from_]) m.bz } K:=by
     refine⟨⟨W.acc,W.mf,W.c4,W.lu,W.bG,fun t ak=>?_,W.n3,W.bO,W.out,W.dh,W.v⟩,o.fresh,o.lead⟩;rcases sC ak with rfl | ak
     ·exact⟨kx,vq,T2,tl⟩
     ·exact W.bz t ak
    unfold EP;by_cases au:n<2*p.2.length∨¬ n<2*(p.2.length+1)
    ·rw[if_pos au]; exact bF.step h
    ·rw[if_neg au];have au:n<2*(p.2.length+1):=Classical.byContradiction fun e=>au (.inr e);have KJ:lk n fun k=>K.e1 m.b s k:=by
      have J7:((p.2++[from_]).map Int.toNat).Nodup:=by
       refine Ga ?_ T2;intro a ag b aA e;obtain⟨l,aT,_⟩:=tl a ag;obtain⟨FN,a0,_⟩:=tl b aA;omega
      refine (VN (n:=n) J7 (fun k al=>?_) (by simp only[List.length_map,List.length_append,List.length_cons,List.length_nil]; omega)).mono fun k _ al=>?_
      ·obtain⟨a,ag,rfl⟩:=List.mem_map.1 al;obtain⟨l,aT,a0,_⟩:=tl a ag;omega
      ·obtain⟨a,ag,rfl⟩:=List.mem_map.1 (List.contains_iff_mem.1 al);obtain⟨l,aT,a0,cS⟩:=tl a ag;have:a.toNat=l:=by omega
       rw[this]; exact cS
     obtain⟨mY,gg,eP,gD⟩:=h.ae8 kx KJ;have bP:=bF.le gg rfl rfl (fun _ _=>rfl) (fun _=>rfl) (fun _ e=>e);obtain⟨di,u,hu⟩:=bP.Vu eP (gD.trans vq);refine⟨_,mY,⟨gg,fun _ _=>⟨rfl,rfl⟩,fun _ _ _ _=>rfl,fun _ _ _=>rfl,fun _ _ ap=>.inl ap,fun _=>Nat.le_succ _⟩,.inl ⟨?_,di.NT hu⟩⟩;exact (di.NT (k:=k) hu).up
theorem azf(h:Inv n K)(o:eX n f i m K)(aj:(K.af i).length≤900){from_ k:Int}{w:dv}(hw:tV n K from_ w):Step n f i K (vG n k m from_ w):=by
 unfold vG;rcases hw with ⟨B,J⟩ | ⟨B,J⟩ | ⟨B,J⟩ | ⟨B,J⟩ | ⟨B,J,au⟩
 ·rw[if_pos B]; exact awt h o aj J
 ·rw[if_neg (by omega),if_neg (by omega),if_pos B]; exact awy h o J
 ·rw[if_neg (by omega),if_pos B]; exact ad0 h o aj J
 ·rw[if_neg (by omega),if_neg (by omega),if_neg (by omega),if_pos B]; exact adX h o J
 ·rw[if_neg (by omega),if_neg (by omega),if_neg (by omega),if_neg (by omega)];have:=o.Vu J au;exact this.1.step h
end dO
namespace dO
open ba Wire Disk Ballot
open Vault (cf Fit)
open Shard (dU gq k2 mO kd jx ir B_ nO flag Te E_)
theorem Ff{n:Int}(am:-9223372036854775808≤n)(B:n≤9223372036854775807):(hE (⟨2,0,n,0,[]⟩:dp)).length≤11:=by
 have:=yz (HE am B);simp[hE];omega
theorem SN{n:Int}(am:0≤n)(B:n<18446744073709551616):(hE (⟨1,n,0,0,[]⟩:dp)).length≤11:=by
 have:=yz (n:=n.toNat) (by omega);simp[hE];omega
theorem afO{x:dU}(h:ir x):(gq x).length≤66:=by
 have am:=SN (n:=IntKind.u64.wrap x.Kind) (by rw[lF]; omega) (by rw[lF]; omega);have B:=Ff h.t.1 h.t.2;have J:=Ff h.i.1 h.i.2;have au:=Ff h.a.1 h.a.2;have a8:=Ff h.n.1 h.n.2;have b_:=SN (n:=flag x.jm) (by unfold flag; split<;>omega) (by unfold flag; split<;>omega);unfold gq g7 nO;simp only[List.flatMap_cons,List.flatMap_nil,List.length_append,List.length_nil];omega
theorem Tf{v:cf}(aD:Fit v)(s:fG):Fit (vC v s):=by
 unfold vC;split
 ·rename_i x F;exact Te aD (E_ F).1.i.2
 ·exact aD
theorem Tg{f:Nat}{o:Int→fG}(Z:Fit (jx f)):∀ k,Fit (za f o k)
 |0=>Z
 |k+1=>Tf (Tg Z k) _
structure jl(k:Nat)(m:bn):Prop where
 out:m.out.length≤600000*k
 bG:m.bG.length≤k
 bz:m.bz.length≤1001*k
 bO:m.bO.length≤k
theorem jl.mono{k l:Nat}{m:bn}(h:jl k m)(a7:k≤l):jl l m:=⟨by have:=h.out; omega,by have:=h.bG; omega,by have:=h.bz; omega,by have:=h.bO; omega⟩
theorem oH(n:Nat):(gd n).length=n:=by simp[gd]
variable {n f i:Nat} {m:bn} {K:bN}
theorem jl.xN{k:Nat}(h:jl k m)(ai:gj):jl k { m with ai:=ai }:=⟨h.out,h.bG,h.bz,h.bO⟩
theorem auT(m:bn)(s:Int):(h4 n m s).out.length≤m.out.length+n∧(h4 n m s).bz=m.bz∧(h4 n m s).bG=m.bG∧(h4 n m s).bO=m.bO:=by
 unfold h4;split
 ·exact⟨by omega,rfl,rfl,rfl⟩
 ·split
  ·exact⟨by omega,rfl,rfl,rfl⟩
  ·rename_i p aH;refine⟨?_,rfl,rfl,rfl⟩;simp only[e8,List.length_append,List.length_map];have:=List.length_filter_le (fun bw=>!p.2.contains bw) (gd n);rw[oH] at this;omega
theorem Ml:∀ (R:List Int) (m:bn),(R.foldl (h4 n) m).out.length≤m.out.length+n*R.length∧(R.foldl (h4 n) m).bz=m.bz∧(R.foldl (h4 n) m).bG=m.bG∧(R.foldl (h4 n) m).bO=m.bO
 |[],m=>⟨by simp,rfl,rfl,rfl⟩
 |s::R,m=>by
  have B:=auT (n:=n) m s;have J:=Ml R (h4 n m s);rw[List.foldl_cons];refine⟨?_,J.2.1.trans B.2.1,J.2.2.1.trans B.2.2.1,J.2.2.2.trans B.2.2.2⟩;have:n*(s::R).length=n+n*R.length:=by rw[List.length_cons,Nat.mul_add]; omega
  omega
theorem auW{k:Nat}(aO:n≤5)(al:k≤100)(h:jl k m):jl (k+1) (Aw n m):=by
 unfold Aw;have B:=Ml (n:=n) (e0 (m.bz.map (·.1))) (ty n m);have J:(ty n m).out.length≤m.out.length+n∧(ty n m).bz=m.bz∧(ty n m).bG=m.bG∧(ty n m).bO=m.bO:=by
  unfold ty;split
  ·refine⟨?_,rfl,rfl,rfl⟩;simp only[e8,List.length_append,List.length_map];have:=List.length_filter_le (fun bw=>(m.bG.lookup bw).isNone) (gd n);rw[oH] at this;omega
  ·exact⟨by omega,rfl,rfl,rfl⟩
 have au:(e0 (m.bz.map (·.1))).length=m.bz.length:=by rw[(hY _).length_eq,List.length_map]
 have a8:=h.out;have b_:=h.bz;have hv:=h.bG;have r5:=h.bO;have wj:n*(e0 (m.bz.map (·.1))).length≤5*m.bz.length:=by rw[au]; exact Nat.mul_le_mul_right _ aO
 exact⟨by omega,by rw[B.2.2.1,J.2.2.1]; omega,by rw[B.2.1,J.2.1]; omega,by rw[B.2.2.2,J.2.2.2]; omega⟩
theorem Y8(l:Int)(m:bn)(s:Int):(nN n l m s).out.length≤m.out.length+n∧(nN n l m s).bz=m.bz∧(nN n l m s).bG=m.bG∧(nN n l m s).bO=m.bO:=by
 refine⟨?_,rfl,rfl,rfl⟩;simp only[nN,e8,List.length_append,List.length_map];have:=List.length_filter_le (fun bw=>bw != l) (gd n);rw[oH] at this;omega
theorem NU(l:Int):∀ (R:List Int) (m:bn),(R.foldl (nN n l) m).out.length≤m.out.length+n*R.length∧(R.foldl (nN n l) m).bz=m.bz∧(R.foldl (nN n l) m).bG=m.bG∧(R.foldl (nN n l) m).bO=m.bO
 |[],m=>⟨by simp,rfl,rfl,rfl⟩
 |s::R,m=>by
  have B:=Y8 (n:=n) l m s;have J:=NU l R (nN n l m s);rw[List.foldl_cons];refine⟨?_,J.2.1.trans B.2.1,J.2.2.1.trans B.2.2.1,J.2.2.2.trans B.2.2.2⟩;have:n*(s::R).length=n+n*R.length:=by rw[List.length_cons,Nat.mul_add]; omega
  omega
theorem ays{k:Nat}{l:Int}(aO:n≤5)(al:k≤100)(h:jl k m):jl (k+1) (AN n l m):=by
 unfold AN;have B:=NU (n:=n) l (e0 (m.bO.map (·.1))) m;have au:(e0 (m.bO.map (·.1))).length=m.bO.length:=by rw[(hY _).length_eq,List.length_map]
 have a8:=h.out;have b_:=h.bz;have hv:=h.bG;have r5:=h.bO;have wj:n*(e0 (m.bO.map (·.1))).length≤5*m.bO.length:=by rw[au]; exact Nat.mul_le_mul_right _ aO
 exact⟨by omega,by rw[B.2.2.1]; omega,by rw[B.2.1]; omega,by rw[B.2.2.2]; omega⟩
theorem Je(m:bn)(w:dv):(all n m w).out.length=m.out.length+n:=by
 simp only[all,e8,List.length_append,List.length_map,oH]
theorem aeS{k:Nat}{l:Int}(aO:n≤5)(h:jl k m):jl (k+1) (v7 n l m).1:=by
 unfold v7 E2;have a8:=h.out;split
 ·exact h.mono (by omega)
 ·split
  ·exact (h.mono (by omega)).xN _
  ·refine⟨?_,by simp[all,e8,n2],by simp[all,e8,n2],?_⟩
   ·rw[Je];simp only[n2];omega
   ·have:=h.bO;simp only[all,e8,n2];omega
theorem MV(g:Int→fG):∀ (R:List Int) (m:bn),(R.foldl (fun m s=>kg n m s (g s)) m).out.length=m.out.length+n*R.length∧(R.foldl (fun m s=>kg n m s (g s)) m).bz.length≤m.bz.length+R.length ∧
  (R.foldl (fun m s=>kg n m s (g s)) m).bG=m.bG∧(R.foldl (fun m s=>kg n m s (g s)) m).bO=m.bO
 |[],m=>⟨by simp,by simp,rfl,rfl⟩
 |s::R,m=>by
  have J:=MV g R (kg n m s (g s));rw[List.foldl_cons];have B:(kg n m s (g s)).out.length=m.out.length+n:=by unfold kg; rw[Je]
  have au:(kg n m s (g s)).bz.length≤m.bz.length+1:=rE.2;refine⟨?_,?_,J.2.2.1,J.2.2.2⟩
  ·have:n*(s::R).length=n+n*R.length:=by rw[List.length_cons,Nat.mul_add]; omega
   omega
  ·rw[List.length_cons]; omega
theorem ayV{k:Nat}{x:dU}(aO:n≤5)(h:jl k m):jl (k+1) (w5 n x m).1:=by
 unfold w5;have a8:=h.out;have b_:=h.bz;have hv:=h.bG;have r5:=h.bO;split
 ·exact h.mono (by omega)
 ·split
  ·exact h.mono (by omega)
  ·split
   ·exact h.mono (by omega)
   ·have B:(kg n m (m.c4+1) (gq x)).out.length=m.out.length+n:=by unfold kg; rw[Je]
    have au:(kg n m (m.c4+1) (gq x)).bz.length≤m.bz.length+1:=rE.2;exact⟨by simp only; omega,by show m.bG.length≤k+1; omega,by simp only; omega,by show m.bO.length≤k+1; omega⟩
theorem Vo(h:Inv n K)(o:eX n f i m K){from_:Int}{w:dv}(u9:w.b=m.b)(hw:∃ l:Nat,from_=l∧l<n∧s8 K w.b l w.c):rm (gT (gM (mu (bM from_ w.c m.bG))))≤1000:=by
 have aC:((bM from_ w.c m.bG).map (·.1)).Nodup:=qA o.core.lu;have F2:=LK (a:=0) (VD (WI (mu (bM from_ w.c m.bG))) (WH (mu (bM from_ w.c m.bG))));unfold rm;rcases F2.2 with ⟨_,e⟩ | ⟨N,aJ,e⟩
 ·rw[e]; omega
 ·rw[← e];obtain⟨_,gD,_⟩:=MJ (Gs.1 aJ);obtain⟨t,ak,F⟩:=(Mk aC).1 gD;have:∃ l,s8 K m.b l t.2:=by
   rcases sC ak with rfl | ak
   ·obtain⟨l,_,_,au⟩:=hw;exact⟨l,by rw[← u9]; exact au⟩
   ·obtain⟨_,l,_,_,au⟩:=o.core.bG t ak;exact⟨l,au⟩
  obtain⟨l,Z⟩:=this;exact (h.slot _ _ (Z.2.1 N F).2.1).2.1
theorem atH{k:Nat}{s:Int}{v:fG}(h:jl k m):jl (k+1) (lX m s v):=by
 unfold lX;have a8:=h.out;have b_:=h.bz;have hv:=h.bG;have r5:=h.bO;split
 ·exact h.mono (by omega)
 ·have B:=ES 1001 { m with bO:=bM s v m.bO };have J:=ET 1001 { m with bO:=bM s v m.bO };have au:(bM s v m.bO).length≤m.bO.length+1:=rE.2;refine⟨by rw[B.2.2.2.2.2.2]; simp only; omega,by rw[B.2.2.2.2.2.1]; simp only; omega,by rw[B.2.2.2.2.1]; simp only; omega,by rw[J]; simp only; omega⟩
theorem aze{k:Nat}(aO:n≤5)(h:Inv n K)(o:eX n f i m K)(aD:jl k m){from_ l:Int}{w:dv}(hw:tV n K from_ w):jl (k+1) (vG n l m from_ w):=by
 have a8:=aD.out;have b_:=aD.bz;have hv:=aD.bG;have r5:=aD.bO;have pj:∀ (ai:gj) (bw:Int) (w:dv),jl (k+1) (dO.pj { m with ai:=ai } bw w):=fun ai bw w=>by
  refine⟨?_,by show m.bG.length≤k+1; omega,by show m.bz.length≤1001*(k+1); omega,by show m.bO.length≤k+1; omega⟩;simp only[dO.pj,e8,List.length_append,List.length_cons,List.length_nil];omega
 unfold vG;rcases hw with ⟨B,J⟩ | ⟨B,J⟩ | ⟨B,J⟩ | ⟨B,J⟩ | ⟨B,J,au⟩
 ·rw[if_pos B];unfold wR;split
  ·exact pj _ _ _
  ·exact (aD.mono (by omega)).xN _
 ·rw[if_neg (by omega),if_neg (by omega),if_pos B];unfold wS;by_cases bF:(m.bG.lookup from_).isSome=true∨m.fz=true∨w.b≠m.b
  ·rw[if_pos bF]; exact aD.mono (by omega)
  ·rw[if_neg bF];have u9:w.b=m.b:=Classical.byContradiction fun e=>bF (.inr (.inr e));have hu:(bM from_ w.c m.bG).length≤m.bG.length+1:=rE.2;split
   ·exact⟨by simp only; omega,by simp only; omega,by simp only; omega,by simp only; omega⟩
   ·have aj:=Vo h o u9 J.2.2;unfold lead;generalize rm (gT (gM (mu (bM from_ w.c m.bG))))=c4 at aj;have aF:(nl c4.toNat).length≤1000:=by unfold nl; rw[List.length_map,List.length_range]; omega
    have B:=MV (n:=n) (fun s=>((wP (gT (gM (mu (bM from_ w.c m.bG))))).lookup s).getD []) (nl c4.toNat) { m with bG:=bM from_ w.c m.bG,fz:=true };simp only at B;have wj:n*(nl c4.toNat).length≤5*1000:=Nat.mul_le_mul aO aF;exact⟨by rw[B.1]; omega,by rw[B.2.2.1]; omega,Nat.le_trans B.2.1 (by omega),by rw[B.2.2.2]; omega⟩
 ·rw[if_neg (by omega),if_pos B];unfold xJ;split
  ·exact pj _ _ _
  ·exact (aD.mono (by omega)).xN _
 ·rw[if_neg (by omega),if_neg (by omega),if_neg (by omega),if_pos B];unfold xI;split
  ·exact aD.mono (by omega)
  ·rename_i p aH;split
   ·exact aD.mono (by omega)
   ·split
    ·exact aD.mono (by omega)
    ·have hu:(bM w.v.bm (p.1,p.2++[from_]) m.bz).length≤m.bz.length+1:=rE.2;unfold EP;split
     ·exact⟨by simp only; omega,by simp only; omega,by simp only; omega,by simp only; omega⟩
     ·have aT:=Y8 (n:=n) l (lX { m with bz:=bM w.v.bm (p.1,p.2++[from_]) m.bz } w.v.bm p.1) w.v.bm;have a0:(lX { m with bz:=bM w.v.bm (p.1,p.2++[from_]) m.bz } w.v.bm p.1).out=m.out∧(lX { m with bz:=bM w.v.bm (p.1,p.2++[from_]) m.bz } w.v.bm p.1).bz=bM w.v.bm (p.1,p.2++[from_]) m.bz ∧
        (lX { m with bz:=bM w.v.bm (p.1,p.2++[from_]) m.bz } w.v.bm p.1).bG=m.bG∧(lX { m with bz:=bM w.v.bm (p.1,p.2++[from_]) m.bz } w.v.bm p.1).bO.length≤m.bO.length+1:=by
       unfold lX;split
       ·exact⟨rfl,rfl,rfl,by simp only; omega⟩
       ·have B:=ES 1001 { m with bz:=bM w.v.bm (p.1,p.2++[from_]) m.bz,bO:=bM w.v.bm p.1 m.bO };have J:=ET 1001 { m with bz:=bM w.v.bm (p.1,p.2++[from_]) m.bz,bO:=bM w.v.bm p.1 m.bO };exact⟨B.2.2.2.2.2.2,B.2.2.2.2.1,B.2.2.2.2.2.1,by rw[J]; exact rE.2⟩
      refine⟨by rw[a0.1] at aT; omega,by rw[aT.2.2.1,a0.2.2.1]; omega,by rw[aT.2.1,a0.2.1]; omega,by rw[aT.2.2.2]; omega⟩
 ·rw[if_neg (by omega),if_neg (by omega),if_neg (by omega),if_neg (by omega)];exact atH aD
theorem ayW(h:Inv n K)(o:eX n f i m K){x:dU}(F:ir x):Step n f i K (w5 n x m).1:=by
 unfold w5;by_cases B:¬ kd x.Kind
 ·rw[if_pos B]; exact o.step h
 ·rw[if_neg B];by_cases J:m.fz=false
  ·rw[if_pos J]; exact o.step h
  ·rw[if_neg J];by_cases au:1000≤m.c4
   ·rw[if_pos au]; exact o.step h
   ·rw[if_neg au];have u5:m.fz=true:=by simpa using J
    obtain⟨cx,cE,pG⟩:=o.lead u5;have W:=o.core;have ab:own n m.b=i:=by
     rcases W.mf with e | e
     ·omega
     ·exact e.1
    have wy:=W.c4;have lp:=pG (m.c4+1) (by omega);have hR:=afO F;obtain⟨eP,gD,nU⟩:=WW h W ⟨cx,cE⟩ ab lp.1 lp.2.VP (v:=gq x) ⟨by omega,by omega,by omega⟩;refine⟨_,eP,gD,.inl ⟨nU.acc.live.up,nU,fun e=>?_,fun _=>⟨cx,cE,fun s aF=>?_⟩⟩⟩
    ·have:m.fz=false:=e;rw[u5] at this; cases this
    ·have aF:max m.c4 (m.c4+1)<s:=aF;have:=pG s (by omega);refine⟨?_,this.2⟩;cases e:(K.fix m.b (m.c4+1) (gq x)).e2 m.b s with
     |false=>exact e
     |true=>
      rcases z1 e with ⟨_,a0⟩ | a0
      ·omega
      ·rw[this.1] at a0; cases a0
theorem auU(o:eX n f i m K)(s:Int):eX n f i (h4 n m s) K∧(h4 n m s).b=m.b:=by
 unfold h4;split
 ·exact⟨o,rfl⟩
 ·split
  ·exact⟨o,rfl⟩
  ·rename_i p aH;refine⟨o.e8 fun t ak=>?_,rfl⟩;obtain⟨k,_,rfl⟩:=List.mem_map.1 ak;have:=o.core.bz _ (m6 aH);exact⟨by simp[la],by simp[la],.inr (.inr (.inl ⟨rfl,this.1,this.2.1⟩))⟩
theorem V0:∀ (R:List Int) {m:bn},eX n f i m K→eX n f i (R.foldl (h4 n) m) K
 |[],_,o=>o
 |s::R,_,o=>V0 R (auU o s).1
theorem auY(h:Inv n K)(o:eX n f i m K):Step n f i K (Aw n m):=by
 have bF:eX n f i (ty n m) K:=by
  unfold ty;split
  ·rename_i aA;refine o.e8 fun t ak=>?_;obtain⟨k,_,rfl⟩:=List.mem_map.1 ak;rcases o.core.mf with e | ⟨aT,a0,cS⟩
   ·omega
   ·exact⟨by simp[p1],by simp[p1],.inl ⟨rfl,aT,a0,cS⟩⟩
  ·exact o
 exact (V0 _ bF).step h
theorem Y_{k:Int}:∀ (R:List Int) {m:bn},eX n f i m K→(∀ s∈R,∃ u,m.bO.lookup s=some u)→eX n f i (R.foldl (nN n k) m) K
 |[],_,o,_=>o
 |s::R,m,o,h=>by
  obtain⟨u,hu⟩:=h s (by simp);exact Y_ R (o.NT hu) fun t ak=>h t (by simp[ak])
theorem ayu(h:Inv n K)(o:eX n f i m K){k:Int}:Step n f i K (AN n k m):=
 (Y_ _ o fun s aF => by
  obtain⟨t,ak,rfl⟩:=List.mem_map.1 ((hY _).mem_iff.1 aF)
  exact⟨t.2,vm o.core.n3 ak⟩).step h
def wT(out:List (Int×dv)):List Int:=(out.filter fun t=>t.2.k==2).map fun t=>t.2.b
def uq(out:List (Int×dv)):List (Int×Int):=(out.filter fun t=>t.2.k==4).map fun t=>(t.2.b,t.2.v.bm)
theorem VR{out:List (Int×dv)}{b:Int}:b∈wT out↔∃ t∈out,t.2.k=2∧t.2.b=b:=by
 unfold wT;simp[List.mem_filter,and_assoc]
theorem L8{out:List (Int×dv)}{b s:Int}:(b,s)∈uq out↔∃ t∈out,t.2.k=4∧t.2.b=b∧t.2.v.bm=s:=by
 unfold uq;simp[List.mem_filter,and_assoc]
theorem YY(h:Inv n K)(o:eX n f i m K)(aq:i<n):Inv n (K.sync i (wT m.out) (uq m.out))∧Fr n i K (K.sync i (wT m.out) (uq m.out))∧∀ t∈m.out,tV n (K.sync i (wT m.out) (uq m.out)) i t.2:=by
 have W:=o.core
 obtain⟨mY,gg⟩:=h.ay2 aq (dy:=wT m.out) (fW:=uq m.out) (fun b aA=>by
  obtain⟨t,ak,al,rfl⟩:=VR.1 aA;rcases W.out t ak with ⟨g,_⟩ | ⟨g,_,dC,_⟩ | ⟨g,_⟩ | ⟨g,_⟩ | ⟨g,_⟩
  ·omega
  ·exact dC
  ·omega
  ·omega
  ·omega) (fun a ag=>by
  obtain⟨t,ak,al,B,J⟩:=L8.1 (show (a.1,a.2)∈uq m.out from ag);rw[← B,← J];rcases W.out t ak with ⟨g,_⟩ | ⟨g,_⟩ | ⟨g,_⟩ | ⟨g,cD,dC,fx⟩ | ⟨g,_⟩
  ·omega
  ·omega
  ·omega
  ·exact⟨cD,dC,fx⟩
  ·omega)
 refine⟨mY,⟨gg,fun l a7=>⟨rfl,lC a7⟩,fun b s l a7=>?_,fun b l a7=>?_,fun _ _ ap=>.inl ap,fun _=>Nat.le_succ _⟩,fun t ak=>?_⟩
 ·simp only[bN.sync,show (l==i)=false from by simpa using a7,Bool.false_and,Bool.or_false]
 ·simp only[bN.sync,show (l==i)=false from by simpa using a7,Bool.false_and,Bool.or_false]
 ·rcases W.out t ak with ⟨cD,dC,fx,jO⟩ | ⟨cD,gr,dC,fx,jO,q_⟩ | ⟨cD,dC⟩ | ⟨cD,dC,fx,jO⟩ | ⟨cD,dC⟩
  ·refine .inl ⟨cD,fx,?_⟩;rw[dC,G0]; exact jO
  ·refine .inr (.inl ⟨cD,gr.1,Int.le_trans fx (gg.sure _),i,rfl,aq,?_,jO,fun dw s nE cA=>q_ dw s cA ?_,gr.2⟩)
   ·simp only[bN.sync,Bool.or_eq_true,Bool.and_eq_true,beq_self_eq_true,true_and,List.contains_iff_mem];exact .inr (VR.2 ⟨t,ak,cD,rfl⟩)
   ·simp only[bN.sync,Bool.or_eq_true,Bool.and_eq_true,beq_self_eq_true,true_and,List.contains_iff_mem] at nE;rcases nE with nE | nE
    ·exact .inl nE
    ·exact .inr (L8.1 nE)
  ·exact .inr (.inr (.inl ⟨cD,dC⟩))
  ·refine .inr (.inr (.inr (.inl ⟨cD,i,rfl,aq,?_⟩)));simp only[bN.sync,Bool.or_eq_true,Bool.and_eq_true,beq_self_eq_true,true_and,List.contains_iff_mem];exact .inr (L8.2 ⟨t,ak,cD,rfl,rfl⟩)
  ·exact .inr (.inr (.inr (.inr ⟨cD,dC⟩)))
theorem ay3(h:Inv n K)(o:eX n f i m K)(aq:i<n){xf:gj}(aA:oN xf (K.af i) (K.af i).length):eX n f i { m with ai:=xf,out:=[] } (K.sync i (wT m.out) (uq m.out)):=by
 obtain⟨mY,jG,_⟩:=YY h o aq;have W:=o.core;have e:=jG.le;have aO:(K.sync i (wT m.out) (uq m.out)).now i=K.now i:=rfl;refine⟨⟨?_,by rw[aO]; exact W.mf,W.c4,W.lu,fun t B=>?_,fun t B=>?_,W.n3,W.bO,by simp,W.dh,W.v⟩,o.fresh,fun aj=>?_⟩
 ·show oN xf (K.af i) (mB K.gU i (K.af i).length i)
  rw[mC]; exact aA
 ·obtain⟨J,l,au,a8,b_⟩:=W.bG t B;exact⟨Int.le_trans J (e.sure _),l,au,a8,b_.le e⟩
 ·obtain⟨J,au,a8,b_⟩:=W.bz t B;refine⟨J,au,a8,fun k al=>?_⟩;obtain⟨l,cD,dC,fx⟩:=b_ k al;exact⟨l,cD,dC,e.e1 _ _ _ fx⟩
 ·obtain⟨B,J,au⟩:=o.lead aj;exact⟨B,Int.le_trans J (e.sure _),fun s aF=>⟨(au s aF).1,(au s aF).2.le e⟩⟩
theorem aek(o:p_ n f i m K)(act:Int)(bL:List Int):p_ n f i (BN act bL m).1 K:=by
 rcases o with ⟨B,J⟩ | ⟨B,J⟩
 ·have W:=J.core;have ag:=W.acc;exact .inl ⟨B,⟨⟨⟨⟨ag.live.ok.len,ag.live.ok.log⟩,ag.live.up,ag.live.log⟩,ag.dead,ag.log,ag.br⟩,W.mf,W.c4,W.lu,W.bG,W.bz,W.n3,W.bO,W.out,W.dh,W.v⟩,J.fresh,J.lead⟩
 ·exact .inr ⟨⟨⟨B.ok.len,B.ok.log⟩,B.off,B.log⟩,J⟩
theorem afo(h:Inv n K)(o:p_ n f i m K)(bL:List Int):Step n f i K (zQ bL m).1:=by
 rcases o with ⟨B,J⟩ | ⟨B,J⟩
 ·obtain⟨l,au,a8,b_⟩:=J.core.acc.live.j8 (h.tA i) (h.lr i).2 bL;exact BV (m:=(zQ bL m).1) h au b_
 ·refine⟨K,h,Fr.refl n i K,.inr ⟨?_,J⟩⟩;show p5 (Disk.j8 bL m.ai.ah) _
  rw[B.j8]; exact B
theorem VW(h:Inv n K){ah:eQ}(aj:tW ah (K.af i) (K.af i).length)(aF:K.gU i=(K.af i).length):eX n f i (iW f ah (K.af i)) K:=by
 refine⟨⟨⟨by rw[aF]; exact aj,rfl,rfl,rfl⟩,.inl rfl,⟨by simp[iW],by simp[iW]⟩,by simp[iW],by simp[iW],by simp[iW],by simp[iW],by simp[iW],by simp[iW],⟨by simp[iW],fun s B J=>?_⟩,rfl⟩,fun _=>⟨rfl,fun s=>?_⟩,by simp[iW]⟩
 ·have:s≤0:=J;omega
 ·cases e:K.e2 (iW f ah (K.af i)).b s with
  |false=>rfl
  |true=>
   have:=(h.yE _ _ e).1;have a0:(iW f ah (K.af i)).b=0:=rfl;omega
theorem azt(h:Inv n K)(o:p_ n f i m K):p_ n f i (sS f m).1 K:=by
 unfold sS;rcases o with ⟨B,J⟩ | ⟨B,J⟩
 ·rw[if_neg (by simp[B])];exact .inl ⟨B,J⟩
 ·rw[if_pos B.off];obtain⟨eR,_,_,F6⟩:=VS B (h.tA i);unfold Ef;rcases F6 with ⟨dM,aY⟩ | ⟨dM,aY⟩
  ·rw[if_neg (by simp[dM]),eR,SD (h.tA i)];have:=VW (f:=f) h aY J;exact .inl ⟨this.up,this⟩
  ·rw[if_pos dM];exact .inr ⟨aY,J⟩
end dO
namespace dO
open ba Wire Disk Ballot
open Vault (cf Fit)
open Shard (dU gq k2 mO kd jx ir)
structure cL(n f k:Nat)(z:cu)(K:bN):Prop where
 inv:Inv n K
 je:1≤n∧n≤5
 len:z.R.length=n
 fg:z.fg=f
 fit:Fit (jx f)
 tx:∀ i m,z.R[i]?=some m→p_ n f i m K
 cq:∀ t∈z.cq.c,tV n K t.from_ t.w
 cap:z.cq.c.length≤1000
 af:∀ l,(K.af l).length≤k
 wh:∀ m∈z.R,jl k m
variable {n f k:Nat} {z:cu} {K:bN}
theorem cL.mono(g:cL n f k z K){l:Nat}(h:k≤l):cL n f l z K:=⟨g.inv,g.je,g.len,g.fg,g.fit,g.tx,g.cq,g.cap,fun i=>Nat.le_trans (g.af i) h,fun m hm=>(g.wh m hm).mono h⟩
theorem cL.stay(g:cL n f k z K):∃ bj,gE K bj∧cL n f (k+1) z bj:=⟨K,gE.refl K,g.mono (by omega)⟩
theorem cL.set(g:cL n f k z K){i:Nat}{dD:bn}(aq:i<n)(aF:Step n f i K dD)(ap:jl (k+1) dD):∃ bj,gE K bj∧cL n f (k+1) (hK z i dD) bj:=by
 obtain⟨bj,eP,gD,nU⟩:=aF;refine⟨bj,gD.le,eP,g.je,by simp only[hK,List.length_set]; exact g.len,g.fg,g.fit,fun l m hm=>?_,fun t ak=>(g.cq t ak).le gD.le,g.cap,fun l=>?_,fun m hm=>?_⟩
 ·simp only[hK] at hm;rw[List.getElem?_set] at hm;by_cases o:i=l
  ·subst o;rw[if_pos rfl] at hm;split at hm
   ·cases hm; exact nU
   ·cases hm
  ·rw[if_neg o] at hm;exact (g.tx l m hm).bT (fun e=>o e.symm) gD eP
 ·have:=gD.len l;have:=g.af l;omega
 ·simp only[hK] at hm;rcases List.mem_or_eq_of_mem_set hm with hm | rfl
  ·exact (g.wh m hm).mono (by omega)
  ·exact ap
theorem EV{i:Int}{m:bn}(h:fX z i=.ok m):∃ l:Nat,i=l∧l<z.R.length∧z.R[l]?=some m∧m.ai.ah.down=false:=by
 unfold fX at h;split at h
 ·cases h
 ·rename_i q a5;split at h
  ·cases h
  ·rename_i aC;cases h;by_cases o:i<0
   ·rw[if_pos o] at a5; cases a5
   ·rw[if_neg o] at a5;exact⟨i.toNat,by omega,(List.getElem?_eq_some_iff.1 a5).1,a5,by simpa using aC⟩
theorem cL.node(g:cL n f k z K){i:Int}{m:bn}(h:fX z i=.ok m):∃ l:Nat,i=l∧l<n∧eX n f l m K∧jl k m:=by
 obtain⟨l,B,J,au,a8⟩:=EV h;rcases g.tx l m au with ⟨_,b_⟩ | ⟨b_,_⟩
 ·exact⟨l,B,by rw[← g.len]; exact J,b_,g.wh m (List.mem_of_getElem? au)⟩
 ·rw[b_.off] at a8; cases a8
theorem cL.on{S:Type}(g:cL n f k z K){i:Int}{aL:Int→S}{aD:bn→bn×S}(aF:∀ (l:Nat) m,i=l→l<n→eX n f l m K→jl k m→Step n f l K (aD m).1∧jl (k+1) (aD m).1):∃ bj,gE K bj∧cL n f (k+1) (pJ z i aL aD).1 bj:=by
 unfold pJ;cases h:fX z i with
 |error e=>exact g.stay
 |ok m=>
  obtain⟨l,B,J,au,a8⟩:=g.node h;obtain⟨s1,s2⟩:=aF l m B J au a8;simp only;have:i.toNat=l:=by omega
  rw[this];exact g.set J s1 s2
theorem cL.aeO(g:cL n f k z K)(al:k≤99)(i:Int):∃ bj,gE K bj∧cL n f (k+1) (rY z i).1 bj:=g.on fun l m aq a7 o aD=>by
 subst aq;rw[g.len];have:=g.af l;exact⟨aeT (by have:=g.je; omega) a7 g.inv o (by omega),aeS g.je.2 aD⟩
theorem cL.ayU(g:cL n f k z K)(i:Int){x:dU}(F:ir x):∃ bj,gE K bj∧cL n f (k+1) (vD z i x).1 bj:=g.on fun l m aq a7 o aD=>by
 rw[g.len];exact⟨ayW g.inv o F,ayV g.je.2 aD⟩
theorem cL.auV(g:cL n f k z K)(al:k≤99)(i:Int):∃ bj,gE K bj∧cL n f (k+1) (wK z i).1 bj:=g.on fun l m aq a7 o aD=>by
 rw[g.len];exact⟨auY g.inv o,auW g.je.2 (by omega) aD⟩
theorem cL.ayr(g:cL n f k z K)(al:k≤99)(i:Int):∃ bj,gE K bj∧cL n f (k+1) (w0 z i).1 bj:=g.on fun l m aq a7 o aD=>by
 rw[g.len];exact⟨ayu g.inv o,ays g.je.2 (by omega) aD⟩
theorem ayl{i:Int}{ar:mK}{t:Int×dv}{u:kD}(h:u∈(vA n i ar t).c):u∈ar.c∨(u.from_=i∧u.w=t.2):=by
 unfold vA at h;split at h
 ·exact .inl h
 ·rcases List.mem_append.1 h with h | h
  ·exact .inl h
  ·rw[List.mem_singleton.1 h];exact .inr ⟨rfl,rfl⟩
theorem YG{i:Int}{ar:mK}{t:Int×dv}(h:ar.c.length≤1000):(vA n i ar t).c.length≤1000:=by
 unfold vA;split
 ·exact h
 ·rename_i o;rw[List.length_append,List.length_singleton];have:¬ 1000≤ar.c.length:=fun e=>o (.inr e);omega
theorem YH{i:Int}:∀ (out:List (Int×dv)) {ar:mK},ar.c.length≤1000→(DH n i ar out).c.length≤1000∧∀ u∈(DH n i ar out).c,u∈ar.c∨(u.from_=i∧∃ t∈out,u.w=t.2)
 |[],ar,h=>⟨h,fun u hu=>.inl hu⟩
 |t::out,ar,h=>by
  have b8:=YH (i:=i) out (ar:=vA n i ar t) (YG h);refine⟨b8.1,fun u hu=>?_⟩;rcases b8.2 u hu with B | ⟨B,v,ax,e⟩
  ·rcases ayl B with B | ⟨B,J⟩
   ·exact .inl B
   ·exact .inr ⟨B,t,by simp,J⟩
  ·exact .inr ⟨B,v,by simp[ax],e⟩
theorem cL.sync(g:cL n f k z K)(i:Int):∃ bj,gE K bj∧cL n f (k+1) (pW z i).1 bj:=by
 unfold pW;cases h:fX z i with
 |error e=>exact g.stay
 |ok m=>
  obtain⟨l,B,J,o,aD⟩:=g.node h;simp only;subst B;have W:=o.core.acc;rcases ay1 W.live W.dead W.log (g.inv.lr l).2 (g.inv.tA l) with ⟨dM,aY,aI,bh,aR,bU⟩ | ⟨dM,q,aY,aI,bh⟩
  ·rw[if_neg (by simp[dM])];obtain⟨eP,gD,nU⟩:=YY g.inv o J;have pp:=ay3 g.inv o J (xf:=(ji m.ai).1) ⟨aY,aI,bh,by rw[aR,bU]; exact W.br⟩;have aF:Step n f l K { m with ai:=(ji m.ai).1,out:=[] }:=⟨_,eP,gD,.inl ⟨aY.up,pp⟩⟩
   have CF:=YH (n:=z.R.length) (i:=(l:Int)) m.out (ar:=z.cq) g.cap;refine⟨_,gD.le,eP,g.je,by simp only[hK,List.length_set]; exact g.len,g.fg,g.fit,fun q f_ hm=>?_,fun t ak=>?_,CF.1,fun q=>?_,fun f_ hm=>?_⟩
   ·simp only[hK,Int.toNat_natCast] at hm;rw[List.getElem?_set] at hm;by_cases e:l=q
    ·subst e;rw[if_pos rfl] at hm;split at hm
     ·cases hm; exact .inl ⟨aY.up,pp⟩
     ·cases hm
    ·rw[if_neg e] at hm;exact (g.tx q f_ hm).bT (fun a0=>e a0.symm) gD eP
   ·rcases CF.2 t ak with au | ⟨au,u,hu,a8⟩
    ·exact (g.cq t au).le gD.le
    ·rw[au,a8];exact nU u hu
   ·have:=gD.len q;have:=g.af q;omega
   ·simp only[hK] at hm;rcases List.mem_or_eq_of_mem_set hm with hm | rfl
    ·exact (g.wh f_ hm).mono (by omega)
    ·have hv:=aD.bG;have r5:=aD.bz;have wj:=aD.bO;exact⟨by simp,by simp only; omega,by simp only; omega,by simp only; omega⟩
  ·rw[if_pos dM];have:(l:Int).toNat=l:=by omega
   rw[this];exact g.set J (BV (m:={ m with ai:=(ji m.ai).1 }) g.inv aY bh) ((aD.mono (by omega)).xN _)
theorem LS{l:Int}{x:kD}(h:ob z l=some x):x∈z.cq.c∧0≤l∧l<z.cq.c.length:=by
 unfold ob at h;split at h
 ·cases h
 ·have:=(List.getElem?_eq_some_iff.1 h).1;exact⟨List.mem_of_getElem? h,by omega,by omega⟩
theorem cL.nd(g:cL n f k z K)(l:Int):cL n f k (nd z l) K:=by
 refine⟨g.inv,g.je,g.len,g.fg,g.fit,g.tx,fun t ak=>g.cq t (List.mem_of_mem_eraseIdx ak),?_,g.af,g.wh⟩;have:=List.length_eraseIdx_le z.cq.c l.toNat;have:=g.cap;show (z.cq.c.eraseIdx l.toNat).length≤1000
 omega
theorem cL.del(g:cL n f k z K)(al:k≤99)(l:Int):∃ bj,gE K bj∧cL n f (k+1) (r1 z l).1 bj:=by
 unfold r1;cases h:ob z l with
 |none=>exact g.stay
 |some x=>
  simp only;split
  ·exact g.stay
  ·have dC:=g.nd l;have F:=g.cq x (LS h).1;have aj:(dO.nd z l).R.length=n:=g.len;generalize dO.nd z l=ads at *;unfold zR;cases J:fX ads x.bw with
   |error e=>exact dC.stay
   |ok m=>
    obtain⟨q,au,a8,o,aD⟩:=dC.node J;simp only;have:x.bw.toNat=q:=by omega
    rw[this,aj];have:=dC.af q;exact dC.set a8 (azf dC.inv o (by omega) F) (aze dC.je.2 dC.inv o aD F)
theorem cL.copy(g:cL n f k z K)(l:Int):∃ bj,gE K bj∧cL n f (k+1) (zO z l).1 bj:=by
 unfold zO;cases h:ob z l with
 |none=>exact g.stay
 |some x=>
  simp only;split
  ·exact g.stay
  ·rename_i o;have cD:=g.mono (l:=k+1) (by omega);refine⟨K,gE.refl K,cD.inv,cD.je,cD.len,cD.fg,cD.fit,cD.tx,fun t ak=>?_,?_,cD.af,cD.wh⟩
   ·rcases List.mem_append.1 ak with ak | ak
    ·exact g.cq t ak
    ·rw[List.mem_singleton.1 ak];exact g.cq x (LS h).1
   ·show (z.cq.c++[x]).length≤1000
    rw[List.length_append,List.length_singleton]; omega
theorem cL.aug(g:cL n f k z K)(l:Int):∃ bj,gE K bj∧cL n f (k+1) (Ap z l).1 bj:=by
 unfold Ap;cases h:ob z l with
 |none=>exact g.stay
 |some x=>exact (g.nd l).stay
theorem cL.cut(g:cL n f k z K)(i:Int)(q:Bool):∃ bj,gE K bj∧cL n f (k+1) (oX z i q).1 bj:=by
 unfold oX;split
 ·exact g.stay
 ·have cD:=g.mono (l:=k+1) (by omega);exact⟨K,gE.refl K,cD.inv,cD.je,cD.len,cD.fg,cD.fit,cD.tx,cD.cq,cD.cap,cD.af,cD.wh⟩
theorem cL.Om(g:cL n f k z K){i:Int}{aD:bn→bn×Int}(aF:∀ (l:Nat) m,i=l→l<n→p_ n f l m K→jl k m→Step n f l K (aD m).1∧jl (k+1) (aD m).1):∃ bj,gE K bj∧cL n f (k+1) (vP z i aD).1 bj:=by
 unfold vP;split
 ·exact g.stay
 ·rename_i m hm;by_cases o:i<0
  ·rw[if_pos o] at hm; cases hm
  ·rw[if_neg o] at hm;have a7:i.toNat<n:=by rw[← g.len]; exact (List.getElem?_eq_some_iff.1 hm).1
   obtain⟨s1,s2⟩:=aF i.toNat m (by omega) a7 (g.tx _ m hm) (g.wh m (List.mem_of_getElem? hm));exact g.set a7 s1 s2
theorem cL.BM(g:cL n f k z K)(i act:Int)(bL:List Int):∃ bj,gE K bj∧cL n f (k+1) (rU z i act bL).1 bj:=g.Om fun l m aq a7 o aD=>
 ⟨⟨K,g.inv,Fr.refl n l K,aek o act bL⟩,(aD.mono (by omega)).xN _⟩
theorem cL.j8(g:cL n f k z K)(i:Int)(bL:List Int):∃ bj,gE K bj∧cL n f (k+1) (v_ z i bL).1 bj:=g.Om fun l m aq a7 o aD=>
 ⟨afo g.inv o bL,(aD.mono (by omega)).xN _⟩
theorem azs{m:bn}{g:Nat}(aD:jl k m):jl (k+1) (sS g m).1:=by
 unfold sS Ef;split
 ·split
  ·exact (aD.mono (by omega)).xN _
  ·exact⟨by simp[iW],by simp[iW],by simp[iW],by simp[iW]⟩
 ·exact aD.mono (by omega)
theorem cL.up(g:cL n f k z K)(i:Int):∃ bj,gE K bj∧cL n f (k+1) (pY z i).1 bj:=by
 unfold pY;rw[g.fg];exact g.Om fun l m aq a7 o aD=>⟨⟨K,g.inv,Fr.refl n l K,azt g.inv o⟩,azs aD⟩
theorem JT{f:Nat}(aO:1≤n∧n≤5)(ap:Fit (jx f)):cL n f 0 (pe n f) BD:=by
 refine⟨UW n,aO,by simp[pe],rfl,ap,fun i m hm=>?_,by simp[pe],by simp[pe],fun l=>by simp[BD],fun m hm=>?_⟩
 ·have:m=iW f d0 []:=by
   have:=List.mem_of_getElem? hm;simp only[pe] at this;exact List.eq_of_mem_replicate this
  subst this;have:=VW (n:=n) (f:=f) (i:=i) (K:=BD) (UW n) (ah:=d0) ⟨⟨by simp[d0],by simp[d0]⟩,rfl,rfl⟩ rfl;exact .inl ⟨rfl,this⟩
 ·simp only[pe] at hm;rw[List.eq_of_mem_replicate hm];exact⟨by simp[iW],by simp[iW],by simp[iW],by simp[iW]⟩
theorem cL.same(g:cL n f k z K){i l:Int}{a b:bn}(ag:fX z i=.ok a)(aA:fX z l=.ok b)(h:a.dh=b.dh):a.V=b.V∧Fit a.V:=by
 obtain⟨_,_,_,bF,_⟩:=g.node ag;obtain⟨_,_,_,bP,_⟩:=g.node aA;refine⟨by rw[bF.core.v,bP.core.v,h],?_⟩;rw[bF.core.v];exact Tg g.fit _
theorem cL.ag8(g:cL n f k z K){i:Int}{a:bn}(ag:fX z i=.ok a):Fit a.V:=(g.same ag ag rfl).2
end dO
namespace Store
open ba
theorem atu{z:gF}(b6:Inv z):(CU z.rows).length≤8192:=by
 have:=NE (R:=CU z.rows) (qy:=0) (aq:=8191) (LG _).oB fun x F=>by
  obtain⟨r,Z,e⟩:=G_.1 (((LG z.rows).all x).1 F);have:=b6.key r Z;omega
 omega
theorem YQ{z:gF}{t:Int}(b6:Inv z):(w2 z t).length≤8192:=by
 unfold w2;split
 ·unfold w1;exact Nat.le_trans (List.length_filterMap_le _ _) (atu b6)
 ·exact Nat.zero_le _
theorem agw{x N:h0}(B:x.Key=N.Key)(J:x.V=N.V):x=N:=by cases x; cases N; simp_all
section
variable {y w:World} {c bx:List bt}
theorem ax9{DD DG:X}{a b:List h0}(hm:a.length≤1000000)(rk:c0 2 c jC DD a)(tt:c0 2 c jC DG b)(H:E y c w) :
  L Pg 43 [O.enc DD,O.enc DG] bi w fun r I=>(r=true↔a=b)∧E y c I:=by
 have c4:=rk.len H;have vi:=tt.len H;refine aci ?_;unfold QQ;split
 ·rename_i ec;have ec:a.length≠b.length:=by simp at ec; omega
  exact⟨⟨fun h=>(by cases h),fun h=>absurd (congrArg List.length h) ec⟩,H⟩
 ·rename_i ec;have ec:a.length=b.length:=by simp at ec; omega
  refine wH (fun i w=>0≤i∧i≤a.length∧a.take i.toNat=b.take i.toNat∧E y c w) (fun i=>(a.length-i).toNat) ⟨Int.le_refl 0,by omega,by simp,H⟩ ?_;rintro i w ⟨am,B,J,H⟩;unfold Iz;split
  ·rename_i W;have W:i<a.length:=by simp at W; omega
   have aT:IntKind.i64.wrap (i+1)=i+1:=wrap_i64 (by omega) (by omega);have F:a[i.toNat]?=some a[i.toNat]:=List.getElem?_eq_getElem (by omega);have aJ:b[i.toNat]?=some b[i.toNat]:=List.getElem?_eq_getElem (by omega);obtain⟨p,aH⟩:=rk.jI (i:=i) H am W;obtain⟨q,a5⟩:=tt.jI (i:=i) H am (by omega);have ak:a.take (i.toNat+1)=a.take i.toNat++[a[i.toNat]]:=List.take_succ_eq_append_getElem (by omega);have K3:b.take (i.toNat+1)=b.take i.toNat++[b[i.toNat]]:=List.take_succ_eq_append_getElem (by omega);generalize a[i.toNat]=x at F ak;generalize b[i.toNat]=N at aJ K3;refine dH H fun eu H=>?_;refine aQ p aH ?_;refine aQ q a5 ?_;refine aQ x.Key (rk.k5 aH F rfl H) ?_;refine aQ N.Key (tt.k5 a5 aJ rfl H) ?_;refine aQ p (fun _=>aH) ?_;refine aQ q (fun _=>a5) ?_;refine aQ x.V (fun _=>rk.k5 aH F rfl H) ?_;refine aQ N.V (fun _=>tt.k5 a5 aJ rfl H) ?_;split
   ·rename_i aC;refine⟨⟨fun h=>(by cases h),fun h=>?_⟩,H⟩;subst h;rw[F] at aJ; cases aJ;simp at aC
   ·rename_i aC;rw[aT];have Um:x=N:=agw (by simp at aC; exact aC.1) (by simp at aC; exact aC.2);refine⟨⟨by omega,by omega,?_,H⟩,by omega⟩;rw[show (i+1).toNat=i.toNat+1 from by omega,ak,K3,J,Um]
  ·rename_i W;have W:i=a.length:=by simp at W; omega
   subst W;refine⟨⟨fun _=>?_,fun _=>rfl⟩,H⟩;have aT:a.take ((a.length:Int)).toNat=a:=by simp
   have a0:b.take ((a.length:Int)).toNat=b:=by rw[ec]; simp
   rw[aT,a0] at J; exact J
end
end Store
namespace Shard
open ba Wire Disk Store Vault Num
theorem ayj{S:Type}{T:a_ S}{ao:Nat}{c:List bt}:c0 ao c T er []:=fun y bx w H=>⟨rfl,⟨rfl,rfl⟩,fun i am B=>absurd B (by simp only[List.length_nil]; omega)⟩
theorem TQ{v:cf}(aD:Fit v):(Co v).length≤5000:=by
 unfold Co;rw[List.length_map,(show (e0 (v.held.map (·.1))).Perm (v.held.map (·.1)) from List.mergeSort_perm _ _).length_eq,List.length_map];exact TS aD
theorem agC(x:hd):hd.iQ x x=true:=by simp[hd.iQ]
section
variable {y w:World} {c bx:List bt}
theorem YE{DD DG:X}{a:List oR}(rk:c0 6 c ic DD a)(tt:c0 6 c ic DG a)(hm:a.length≤9000000000000000000)(H:E y c w) :
  L Pg 41 [O.enc DD,O.enc DG] bi w fun r I=>r=true∧E y c I:=by
 have c4:=rk.len H;have vi:=tt.len H;refine acg ?_;unfold QO;rw[if_neg (by simp[c4,vi])];refine wH (fun i w=>0≤i∧i≤a.length∧E y c w) (fun i=>(a.length-i).toNat) ⟨Int.le_refl 0,by omega,H⟩ ?_;clear H;rintro i w ⟨am,B,H⟩;unfold Ix;rw[c4];split
 ·rename_i W;have W:i<a.length:=by simpa using W
  have aT:IntKind.i64.wrap (i+1)=i+1:=wrap_i64 (by omega) (by omega);refine dH H fun w H=>?_;obtain⟨cH,B⟩:=rk.jI (i:=i) H am W;obtain⟨fp,J⟩:=tt.jI (i:=i) H am W;have F:a[i.toNat]?=some a[i.toNat]:=List.getElem?_eq_getElem (by omega);generalize a[i.toNat]=x at F;refine aQ cH B ?_;refine aQ fp J ?_;refine aQ x.Part (rk.k5 (cc:=kn) B F rfl H) ?_;refine aQ x.Part (tt.k5 (cc:=kn) J F rfl H) ?_;refine aQ cH (fun _=>B) ?_;refine aQ fp (fun _=>J) ?_;refine aQ x.c6 (fun _=>rk.k5 (cc:=D .i64) B F rfl H) ?_;refine aQ x.c6 (fun _=>tt.k5 (cc:=D .i64) J F rfl H) ?_;refine aQ cH (fun _=>B) ?_;refine aQ fp (fun _=>J) ?_;refine aQ x.p6 (fun _=>rk.k5 (cc:=D .i64) B F rfl H) ?_;refine aQ x.p6 (fun _=>tt.k5 (cc:=D .i64) J F rfl H) ?_;rw[if_neg (by simp[agC]),aT];exact⟨⟨by omega,by omega,H⟩,by omega⟩
 ·exact⟨rfl,H⟩
end
end Shard
namespace dO
open ba Wire Disk Ballot
open Vault (cf Fit dF)
open Shard (dU gq k2 mO kd jx ir)
abbrev RR:=g4
abbrev iK:=eB
abbrev RP:=qW
abbrev lJ:=ta
abbrev zA:=qY
abbrev jD:=uf
abbrev xD:=xx
abbrev I4:=s_
abbrev lI:=xB
abbrev qe:=nW
abbrev xE:=jn
abbrev RM:=iv
abbrev v2:=ej
def aX(s:X)(x:dv):RR:=⟨x.k,x.b,x.v,s⟩
def kr(t:X×Int×dv):RP:=⟨t.2.1,aX t.1 t.2.2⟩
structure vY where
 d:Nat
 a:Nat
 v:Nat
 j6:Nat
 ju:Nat
 hk:Nat
 out:X
 cP:List (X×Int×dv)
 ar:List (Int×X×List dd)
 P:List (Int×Nat×Nat×fG×List (Int×qe))
def l1(m:bn)(q:vY):zA:=⟨some ⟨q.d,0,none⟩,some ⟨q.a,0,none⟩,q.out,some q.j6,some ⟨q.v,0,none⟩,m.dh,m.b,m.fz,some q.ju,some q.hk,m.c4⟩
def hy(t:Int×X×List dd):Int×X:=(t.1,t.2.1)
def jg(t:Int×Nat×Nat×fG×List (Int×qe)):Int×Option Addr:=(t.1,some ⟨t.2.1,0,none⟩)
def kO(t:Int×Nat×Nat×fG×List (Int×qe)):bt:=de [aN t.2.1 (xD.cells ⟨t.2.2.2.1,some t.2.2.1⟩) 164,bR xE .i64 t.2.2.1 t.2.2.2.2]
def yG(t:Int×Nat×Nat×fG×List (Int×qe)):Int×fG×List Int:=(t.1,t.2.2.2.1,t.2.2.2.2.map (·.1))
def sK(t:Int×X×List dd):Int×List dd:=(t.1,t.2.2)
def nY(R:List (X×List dd))(aG:b9):Prop:=∀ t∈R,dL fH t.1 t.2 aG
theorem nY.mono{R:List (X×List dd)}{aG g3:b9}(h:b9.le aG g3):nY R aG→nY R g3:=fun k t ak=>dL.mono h (k t ak)
def jy(R:List (X×List dd)):bt:=qj (nY R) nY.mono
def da(cP:List (X×Int×dv)):List (X×List dd):=cP.map fun t=>(t.1,t.2.2.c)
def kw(ar:List (Int×X×List dd)):List (X×List dd):=ar.map fun t=>(t.2.1,t.2.2)
structure xm(m:bn)(q:vY):Prop where
 A:q.cP.map Prod.snd=m.out
 n:q.ar.map sK=m.bG
 p:q.P.map yG=m.bz
class fP where
 ok:Nat→Nat→Prop
 rows:List Nat→Prop
def nr[fP](aB v:Nat)(V:cf):bt:=de [jT (fP.ok aB v),dF v V]
@[reducible] def nH[fP](aB:Nat)(m:bn)(q:vY)(c:List bt):List bt:=aN aB (jD.cells (l1 m q)) 66::gp q.a q.d m.ai::bR dT .i64 q.j6 m.bO::nr aB q.v m.V::bR O .i64 q.ju (q.ar.map hy)::bR aM .i64 q.hk (q.P.map jg)::de (q.P.map kO)::row lJ 147 7 q.out (q.cP.map kr)::jy (da q.cP++kw q.ar)::c
def eM[fP](aB:Nat)(m:bn):bt:=fE fun q:vY=>de (jT (xm m q)::nH aB m q [])
structure ia where
 c:X
 cq:Nat
 Q:List (Nat×bn)
 a2:List (X×kD)
def iP(t:X×kD):RM:=⟨t.2.id,t.2.from_,t.2.bw,aX t.1 t.2.w⟩
def mV(a2:List (X×kD)):List (X×List dd):=a2.map fun t=>(t.1,t.2.w.c)
def hi(z:cu)(p:ia):Post.eh:=⟨z.R.length,z.cq.kl,p.a2.map iP,z.cq.off⟩
def qk(z:cu)(p:ia):I4:=⟨z.fg,p.c,some ⟨p.cq,0,none⟩⟩
def hV[fP](t:Nat×bn):bt:=eM t.1 t.2
def na(t:Nat×bn):Option Addr:=some ⟨t.1,0,none⟩
structure j2[fP](z:cu)(p:ia):Prop where
 r:fP.rows (p.Q.map Prod.fst)
 q:p.Q.map Prod.snd=z.R
 g:p.a2.map Prod.snd=z.cq.c
@[reducible] def jP[fP](aw:Nat)(z:cu)(p:ia)(c:List bt):List bt:=aN aw (lI.cells (qk z p)) 49::row aM 57 1 p.c (p.Q.map na)::de (p.Q.map hV)::Post.gW p.cq (hi z p)::jy (mV p.a2)::c
def cp[fP](aw:Nat)(z:cu):bt:=fE fun p:ia=>de (jT (j2 z p)::jP aw z p [])
section
variable {y w:World} {c bx:List bt} [fP]
theorem y_{aB v:Nat}{V:cf}(H:E y (nr aB v V::c) w):fP.ok aB v∧E y (dF v V::c) w:=E.sM (eK:=fP.ok aB v) H.open_
theorem w9{aB v:Nat}{V:cf}(h:fP.ok aB v)(H:E y (dF v V::c) w):E y (nr aB v V::c) w:=E.shut (bx:=[jT _,dF v V]) (E.rD h H)
theorem hG{aB:Nat}{m:bn}(H:E y (eM aB m::c) w):∃ q:vY,xm m q∧E y (aN aB (jD.cells (l1 m q)) 66::gp q.a q.d m.ai::bR dT .i64 q.j6 m.bO::nr aB q.v m.V::bR O .i64 q.ju (q.ar.map hy)::bR aM .i64 q.hk (q.P.map jg)::de (q.P.map kO)::row lJ 147 7 q.out (q.cP.map kr)::jy (da q.cP++kw q.ar)::c) w:=by
 obtain⟨q,H⟩:=H.ex;obtain⟨h,H⟩:=E.sM H.open_;exact⟨q,h,H⟩
theorem fl{aB:Nat}{m:bn}{q:vY}(h:xm m q)(H:E y (nH aB m q c) w):E y (eM aB m::c) w:=
 E.kQ q (E.shut (bx:=jT _::nH aB m q []) (E.rD h H))
theorem ln{aw:Nat}{z:cu}(H:E y (cp aw z::c) w):∃ p:ia,j2 z p∧E y (aN aw (lI.cells (qk z p)) 49::row aM 57 1 p.c (p.Q.map na)::de (p.Q.map hV)::Post.gW p.cq (hi z p)::jy (mV p.a2)::c) w:=by
 obtain⟨p,H⟩:=H.ex;obtain⟨h,H⟩:=E.sM H.open_;exact⟨p,h,H⟩
theorem jF{aw:Nat}{z:cu}{p:ia}(h:j2 z p)(H:E y (jP aw z p c) w):E y (cp aw z::c) w:=
 E.kQ p (E.shut (bx:=jT _::jP aw z p []) (E.rD h H))
theorem Ca{z:cu}{p:ia}(h:j2 z p):p.Q.length=z.R.length:=by rw[← h.q,List.length_map]
theorem AR{S:Type}{P:List S}{i:Nat}{p:S}(h:P[i]?=some p):∃ fs gX,P=fs++p::gX∧fs.length=i:=Disk.AR h
theorem Fc{d:Nat}{ah:eQ}(H:E y (fi d ah::c) w):L Pg 81 [.pointer (some ⟨d,0,none⟩)] bi w fun r I=>r=ah.down∧E y (fi d ah::c) I:=by
 refine acU ?_;unfold Rt;refine b2 rfl ?_;obtain⟨q,P,bk,gA,H⟩:=uw H;refine an (x:=ah.down) 0 H rfl rfl rfl ?_;exact⟨rfl,oY gA H⟩
end
end dO
end Go.Proofs.YtnmmjkjkkmbhiaaGreat
