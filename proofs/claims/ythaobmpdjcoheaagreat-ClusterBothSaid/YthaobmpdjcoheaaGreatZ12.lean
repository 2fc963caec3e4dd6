/- Own texts of this claim, part 12: short, merged. -/
import Derived.Shelf.SlIterI.Nil
import Derived.Shelf.SlIterI.Sorted
import Derived.Shelf.SortM.Plain
import Derived.Shelf.SortM.SortNone
import Derived.Ground.GgzProg
import Derived.Ground.SlgmProg
import Derived.Test.YthaobmpdjcoheaaGreatProg
import Derived.Test.YthaobmpdjcoheaaGreatZ11
set_option exponentiation.threshold 4000
set_option maxRecDepth 100000
set_option maxHeartbeats 40000000
set_option linter.defProp false
set_option linter.unusedVariables false
set_option linter.unusedSimpArgs false
namespace Go.Proofs.YthaobmpdjcoheaaGreat
end Go.Proofs.YthaobmpdjcoheaaGreat
namespace Go.Proofs
open Go.Shelf
def Tryz.aa9:Go.Shelf.Ren:=⟨fun | 7=>173 | 10=>225 | n=>n,fun | 23=>216 | 26=>3 | 3=>290 | 28=>132 | 0=>0 | 27=>131 | 33=>88 | 4=>4 | n=>n,fun | n=>n⟩
theorem Tryz.QC:Go.Proofs.SlLaysZI.n7 Tryz.prog Tryz.aa9:={
 mixed:=by kernel_rfl
 f7:=⟨Tryz.f173.name,by decide,Tryz.func173.trans (congrArg some (by kernel_rfl))⟩
 f10:=⟨Tryz.f225.name,by decide,Tryz.func225.trans (congrArg some (by kernel_rfl))⟩
 t0:=Tryz.underlying0
 a0:=Tryz.isAgg0
 z0:=Tryz.sizeOf0
 v0:=Tryz.zeroValue0
 t4:=Tryz.underlying4
 a4:=Tryz.isAgg4
 z4:=Tryz.sizeOf4
 v4:=Tryz.zeroValue4
 t23:=Tryz.underlying216
 a23:=Tryz.isAgg216
 z23:=Tryz.sizeOf216
 v23:=Tryz.zeroValue216
 t26:=Tryz.underlying3
 a26:=Tryz.isAgg3
 z26:=Tryz.sizeOf3
 v26:=Tryz.zeroValue3
 t27:=Tryz.underlying131
 a27:=Tryz.isAgg131
 z27:=Tryz.sizeOf131
 v27:=Tryz.zeroValue131
 t28:=Tryz.underlying132
 a28:=Tryz.isAgg132
 z28:=Tryz.sizeOf132
 v28:=Tryz.zeroValue132
 t33:=Tryz.underlying88
 a33:=Tryz.isAgg88
 z33:=Tryz.sizeOf88
 v33:=Tryz.zeroValue88 }
def Tryz.aba:Go.Shelf.Ren:=⟨fun | 7=>60 | 10=>110 | n=>n,fun | 23=>68 | 26=>3 | 3=>135 | 28=>132 | 0=>0 | 27=>131 | 33=>88 | 4=>4 | n=>n,fun | n=>n⟩
theorem Tryz.QD:Go.Proofs.SlLaysZI.n7 Tryz.prog Tryz.aba:={
 mixed:=by kernel_rfl
 f7:=⟨Tryz.f60.name,by decide,Tryz.func60.trans (congrArg some (by kernel_rfl))⟩
 f10:=⟨Tryz.f110.name,by decide,Tryz.func110.trans (congrArg some (by kernel_rfl))⟩
 t0:=Tryz.underlying0
 a0:=Tryz.isAgg0
 z0:=Tryz.sizeOf0
 v0:=Tryz.zeroValue0
 t4:=Tryz.underlying4
 a4:=Tryz.isAgg4
 z4:=Tryz.sizeOf4
 v4:=Tryz.zeroValue4
 t23:=Tryz.underlying68
 a23:=Tryz.isAgg68
 z23:=Tryz.sizeOf68
 v23:=Tryz.zeroValue68
 t26:=Tryz.underlying3
 a26:=Tryz.isAgg3
 z26:=Tryz.sizeOf3
 v26:=Tryz.zeroValue3
 t27:=Tryz.underlying131
 a27:=Tryz.isAgg131
 z27:=Tryz.sizeOf131
 v27:=Tryz.zeroValue131
 t28:=Tryz.underlying132
 a28:=Tryz.isAgg132
 z28:=Tryz.sizeOf132
 v28:=Tryz.zeroValue132
 t33:=Tryz.underlying88
 a33:=Tryz.isAgg88
 z33:=Tryz.sizeOf88
 v33:=Tryz.zeroValue88 }
def Tryz.abb:Go.Shelf.Ren:=⟨fun | 7=>125 | 10=>176 | n=>n,fun | 23=>97 | 26=>3 | 3=>127 | 28=>132 | 0=>0 | 27=>131 | 33=>88 | 4=>4 | n=>n,fun | n=>n⟩
theorem Tryz.aBw:Go.Proofs.SlLaysZI.n7 Tryz.prog Tryz.abb:={
 mixed:=by kernel_rfl
 f7:=⟨Tryz.f125.name,by decide,Tryz.func125.trans (congrArg some (by kernel_rfl))⟩
 f10:=⟨Tryz.f176.name,by decide,Tryz.func176.trans (congrArg some (by kernel_rfl))⟩
 t0:=Tryz.underlying0
 a0:=Tryz.isAgg0
 z0:=Tryz.sizeOf0
 v0:=Tryz.zeroValue0
 t4:=Tryz.underlying4
 a4:=Tryz.isAgg4
 z4:=Tryz.sizeOf4
 v4:=Tryz.zeroValue4
 t23:=Tryz.underlying97
 a23:=Tryz.isAgg97
 z23:=Tryz.sizeOf97
 v23:=Tryz.zeroValue97
 t26:=Tryz.underlying3
 a26:=Tryz.isAgg3
 z26:=Tryz.sizeOf3
 v26:=Tryz.zeroValue3
 t27:=Tryz.underlying131
 a27:=Tryz.isAgg131
 z27:=Tryz.sizeOf131
 v27:=Tryz.zeroValue131
 t28:=Tryz.underlying132
 a28:=Tryz.isAgg132
 z28:=Tryz.sizeOf132
 v28:=Tryz.zeroValue132
 t33:=Tryz.underlying88
 a33:=Tryz.isAgg88
 z33:=Tryz.sizeOf88
 v33:=Tryz.zeroValue88 }
def Tryz.aeM:Go.Shelf.Ren:=⟨fun | 6=>59 | 8=>108 | 9=>109 | 11=>163 | 13=>165 | 12=>164 | 23=>209 | 24=>154 | 14=>200 | 15=>201 | 16=>202 | 17=>203 | 18=>204 | 19=>205 | 20=>206 | 21=>207 | 22=>208 | 25=>237 | 26=>238 | 27=>239 | 28=>240 | 29=>241 | 30=>242 | 31=>257 | n=>n,fun | 26=>3 | 28=>132 | 24=>33 | 0=>0 | 3=>3 | 37=>270 | 48=>308 | 50=>195 | 4=>4 | 40=>314 | 39=>313 | 45=>319 | 5=>5 | 9=>9 | 51=>338 | 55=>341 | 57=>355 | 58=>356 | 33=>88 | n=>n,fun | n=>n⟩
theorem Tryz.Ss:Go.Proofs.SlLaysZI.n6 Tryz.prog Tryz.aeM:={
 mixed:=by kernel_rfl
 f6:=⟨Tryz.f59.name,by decide,Tryz.func59.trans (congrArg some (by kernel_rfl))⟩
 f8:=⟨Tryz.f108.name,by decide,Tryz.func108.trans (congrArg some (by kernel_rfl))⟩
 f11:=⟨Tryz.f163.name,by decide,Tryz.func163.trans (congrArg some (by kernel_rfl))⟩
 t0:=Tryz.underlying0
 a0:=Tryz.isAgg0
 z0:=Tryz.sizeOf0
 v0:=Tryz.zeroValue0
 t24:=Tryz.underlying33
 a24:=Tryz.isAgg33
 z24:=Tryz.sizeOf33
 v24:=Tryz.zeroValue33
 t26:=Tryz.underlying3
 a26:=Tryz.isAgg3
 z26:=Tryz.sizeOf3
 v26:=Tryz.zeroValue3
 t28:=Tryz.underlying132
 a28:=Tryz.isAgg132
 z28:=Tryz.sizeOf132
 v28:=Tryz.zeroValue132
 i26:=by kernel_rfl }
def Tryz.aHg:Go.Shelf.Ren:=⟨fun | 5=>109 | 8=>165 | 7=>164 | 19=>209 | 20=>154 | 10=>200 | 11=>201 | 12=>202 | 13=>203 | 14=>204 | 15=>205 | 16=>206 | 17=>207 | 18=>208 | 30=>237 | 31=>238 | 32=>239 | 33=>240 | 34=>241 | 35=>242 | 40=>257 | n=>n,fun | 23=>33 | 25=>3 | 3=>3 | 32=>270 | 22=>33 | 0=>0 | 44=>308 | 46=>195 | 4=>4 | 36=>314 | 35=>313 | 41=>319 | 5=>5 | 9=>9 | 53=>338 | 57=>341 | 63=>355 | 64=>356 | n=>n,fun | n=>n⟩
theorem Tryz.aeL:Go.Proofs.SlLaysM.n5 Tryz.prog Tryz.aHg:={
 mixed:=by kernel_rfl
 f5:=⟨Tryz.f109.name,by decide,Tryz.func109.trans (congrArg some (by kernel_rfl))⟩
 f7:=⟨Tryz.f164.name,by decide,Tryz.func164.trans (congrArg some (by kernel_rfl))⟩
 f8:=Tryz.func165.trans (congrArg some (by kernel_rfl))
 f10:=⟨Tryz.f200.name,by decide,Tryz.func200.trans (congrArg some (by kernel_rfl))⟩
 f11:=⟨Tryz.f201.name,by decide,Tryz.func201.trans (congrArg some (by kernel_rfl))⟩
 f12:=⟨Tryz.f202.name,by decide,Tryz.func202.trans (congrArg some (by kernel_rfl))⟩
 f13:=⟨Tryz.f203.name,by decide,Tryz.func203.trans (congrArg some (by kernel_rfl))⟩
 f14:=⟨Tryz.f204.name,by decide,Tryz.func204.trans (congrArg some (by kernel_rfl))⟩
 f15:=⟨Tryz.f205.name,by decide,Tryz.func205.trans (congrArg some (by kernel_rfl))⟩
 f16:=⟨Tryz.f206.name,by decide,Tryz.func206.trans (congrArg some (by kernel_rfl))⟩
 f17:=⟨Tryz.f207.name,by decide,Tryz.func207.trans (congrArg some (by kernel_rfl))⟩
 f18:=⟨Tryz.f208.name,by decide,Tryz.func208.trans (congrArg some (by kernel_rfl))⟩
 f19:=Tryz.func209.trans (congrArg some (by kernel_rfl))
 f20:=Tryz.func154.trans (congrArg some (by kernel_rfl))
 f30:=⟨Tryz.f237.name,by decide,Tryz.func237.trans (congrArg some (by kernel_rfl))⟩
 f31:=Tryz.func238.trans (congrArg some (by kernel_rfl))
 f32:=Tryz.func239.trans (congrArg some (by kernel_rfl))
 f33:=⟨Tryz.f240.name,by decide,Tryz.func240.trans (congrArg some (by kernel_rfl))⟩
 f34:=⟨Tryz.f241.name,by decide,Tryz.func241.trans (congrArg some (by kernel_rfl))⟩
 f35:=⟨Tryz.f242.name,by decide,Tryz.func242.trans (congrArg some (by kernel_rfl))⟩
 f40:=⟨Tryz.f257.name,by decide,Tryz.func257.trans (congrArg some (by kernel_rfl))⟩
 t0:=Tryz.underlying0
 a0:=Tryz.isAgg0
 z0:=Tryz.sizeOf0
 v0:=Tryz.zeroValue0
 t3:=Tryz.underlying3
 a3:=Tryz.isAgg3
 z3:=Tryz.sizeOf3
 v3:=Tryz.zeroValue3
 t4:=Tryz.underlying4
 a4:=Tryz.isAgg4
 z4:=Tryz.sizeOf4
 v4:=Tryz.zeroValue4
 t5:=Tryz.underlying5
 a5:=Tryz.isAgg5
 z5:=Tryz.sizeOf5
 v5:=Tryz.zeroValue5
 t9:=Tryz.underlying9
 a9:=Tryz.isAgg9
 z9:=Tryz.sizeOf9
 v9:=Tryz.zeroValue9
 t22:=Tryz.underlying33
 a22:=Tryz.isAgg33
 z22:=Tryz.sizeOf33
 v22:=Tryz.zeroValue33
 t23:=Tryz.underlying33
 a23:=Tryz.isAgg33
 z23:=Tryz.sizeOf33
 v23:=Tryz.zeroValue33
 t25:=Tryz.underlying3
 a25:=Tryz.isAgg3
 z25:=Tryz.sizeOf3
 v25:=Tryz.zeroValue3
 t32:=Tryz.underlying270
 a32:=Tryz.isAgg270
 z32:=Tryz.sizeOf270
 v32:=Tryz.zeroValue270
 t35:=Tryz.underlying313
 a35:=Tryz.isAgg313
 z35:=Tryz.sizeOf313
 v35:=Tryz.zeroValue313
 t36:=Tryz.underlying314
 a36:=Tryz.isAgg314
 z36:=Tryz.sizeOf314
 v36:=Tryz.zeroValue314
 t41:=Tryz.underlying319
 a41:=Tryz.isAgg319
 z41:=Tryz.sizeOf319
 v41:=Tryz.zeroValue319
 t44:=Tryz.underlying308
 a44:=Tryz.isAgg308
 z44:=Tryz.sizeOf308
 v44:=Tryz.zeroValue308
 t46:=Tryz.underlying195
 a46:=Tryz.isAgg195
 z46:=Tryz.sizeOf195
 v46:=Tryz.zeroValue195
 t53:=Tryz.underlying338
 a53:=Tryz.isAgg338
 z53:=Tryz.sizeOf338
 v53:=Tryz.zeroValue338
 t57:=Tryz.underlying341
 a57:=Tryz.isAgg341
 z57:=Tryz.sizeOf341
 v57:=Tryz.zeroValue341
 t63:=Tryz.underlying355
 a63:=Tryz.isAgg355
 z63:=Tryz.sizeOf355
 v63:=Tryz.zeroValue355
 t64:=Tryz.underlying356
 a64:=Tryz.isAgg356
 z64:=Tryz.sizeOf356
 v64:=Tryz.zeroValue356 }
end Go.Proofs
namespace Go.Proofs.YthaobmpdjcoheaaGreat
namespace bf
open Go.RowKit Go.Maps Go.Sort Go.Shelf Go.WideElems
section
variable {A w:World} {m:List bC} {Z:Type} {T:bu Z}
theorem St(y:Nat):AnyZI.SortsIn Pg Tryz.aeM Fence.wide y:=
  ⟨fun ko off cap ng A aol aoZ ny=>callsIn_wide.2 (AnyM.slices_Sort_int Tryz.aeL ko off cap ng A aol aoZ ny),
   fun p cap A=>callsIn_wide.2 (AnyM.slices_Sort_int_none Tryz.aeL p cap A)⟩
theorem insert_perm{H:Type}(x:Lit×DataW H):∀ r,(DataW.insert x r).Perm (x::r)
 |[]=>List.Perm.refl _
 |S::r=>by
  unfold DataW.insert;split
  ·exact List.Perm.refl _
  ·exact ((insert_perm x r).cons S).trans (List.Perm.swap x S r)
theorem OP{H:Type}:∀ r:List (Lit×DataW H),(r.foldr DataW.insert []).Perm r
 |[]=>List.Perm.refl _
 |x::r=>(insert_perm x _).trans ((OP r).cons x)
def I6(v:Value):Option (DataW Unit×List MemPlace):=some (.nil,[])
theorem Rr{k:TypeId}{r:Nat}{es:List (Int×Z)}{arr:Array MapEntry}{c:Nat}(aq:Tryz.prog.underlying k=some (.int .i64))(ab:∀ p∈es,-9223372036854775808≤p.1∧p.1≤9223372036854775807)(hm:es.length≤9223372036854775807)
  (I:sB T .i64 arr es) (ao:qP arr c) (O:(es.map (·.1)).Nodup) (cD:w.heap[r]?=some (.map arr c)) :
  ∃ nm:DataW Unit,w.ownsMap Pg k I6 r arr.size nm∧(intKeys nm).Perm (es.map (·.1))∧Maps.size nm=es.length:=by
 have r0:arr.toList.map (·.key)=es.map fun p=>Value.int .i64 p.1:=by
  have:=congrArg (List.map Prod.fst) I;simpa[List.map_map,Function.comp_def] using this
 have g3:arr.size=es.length:=by have:=congrArg List.length r0; simpa using this
 have qf:∀ x∈arr.toList,∃ n:Int,x.key=.int .i64 n∧WideElems.rd (H:=Unit) Pg k I6 x=some (.int .i64 n,.nil):=by
  intro x F;have:x.key∈arr.toList.map (·.key):=List.mem_map.2 ⟨x,F,rfl⟩;rw[r0] at this;obtain⟨p,aE,j⟩:=List.mem_map.1 this;refine⟨p.1,j.symm,?_⟩;have h:=ab p aE;have hw:(Lit.int .i64 p.1).wf=true:=by
   show (decide (IntKind.min .i64≤p.1)&&decide (p.1≤IntKind.max .i64))=true
   rw[decide_eq_true (show IntKind.min .i64≤p.1 from h.1),decide_eq_true (show p.1≤IntKind.max .i64 from h.2)]; rfl
  unfold WideElems.rd;rw[← j,Maps.keyOf_int_mk aq hw]; rfl
 refine⟨_,⟨arr,c,cD,⟨by rw[g3]; exact hm,⟨ao.1,ao.2,?_⟩,fun x F=>by obtain⟨n,_,h⟩:=qf x F; exact⟨_,h⟩⟩,Nat.le_refl _,rfl⟩,?_,?_⟩
 ·rw[r0];have j:(es.map fun p=>Value.int .i64 p.1)=(es.map (·.1)).map (Value.int .i64):=by simp
  rw[j];exact List.Pairwise.map _ (fun a l h j=>h (by injection j)) O
 ·refine ((OP (arr.toList.map (WideElems.rg (H:=Unit) Pg k I6))).map _).trans (List.Perm.of_eq ?_);have j:es.map (·.1)=arr.toList.map fun x=>RowKit.intOf x.key:=by
   have:=congrArg (List.map RowKit.intOf) r0;simp only[List.map_map] at this;exact this.symm
  rw[j,List.map_map];refine List.map_congr_left fun x F=>?_;obtain⟨n,I,O⟩:=qf x F;simp[WideElems.rg,O,I];rfl
 ·have:=(OP (arr.toList.map (WideElems.rg (H:=Unit) Pg k I6))).length_eq;rw[Maps.size_eq,this]; simp[g3]
theorem aHi{r eQ:Nat}{es:List (Int×Z)}(ab:∀ p∈es,-9223372036854775808≤p.1∧p.1≤9223372036854775807)(hm:es.length≤1000000)(H:E A (aH eQ [.map (some r)] 216::c_ T .i64 r es::m) w) :
  M Pg 59 [.func (.func 225) #[] #[.pointer (some ⟨eQ,0,none⟩)]] X w fun s J=>∃ fy:List Int,fy.Perm (es.map (·.1)) ∧
   E A (row (B .i64) 3 1 s (fy.mergeSort fun x S=>decide (x≤S))::aH eQ [.map (some r)] 216::c_ T .i64 r es::m) J:=by
 obtain⟨arr,c,I,ao,O,g7⟩:=yH (H.front 1);have cD:=g7.get;obtain⟨nm,G0,G1,zZ⟩:=Rr (k:=3) Tryz.underlying3 ab (by omega) I ao O cD;have zO:=H.get;have dC:eQ<w.heap.size:=(Array.getElem?_eq_some_iff.1 zO).1;have G5:=AnyZI.keys_gives (ρ:=Tryz.aa9) { Tryz.QC with } Fence.wide (5-1-1-1) trivial rfl (by omega) eQ r arr.size nm w dC (by rw[uT zO]; rfl) G0;have wk:=AnyZI.sorted_in Tryz.Ss Fence.wide 5 trivial trivial trivial trivial rfl (by omega) (St _) (enters_of Tryz.func109 (by kernel_rfl) rfl) 225 #[.pointer (some ⟨eQ,0,none⟩)] trivial (enters_of Tryz.func225 (by kernel_rfl) rfl) _ (Maps.size nm) (by rw[zZ]; exact Nat.le_trans hm (Nat.le_of_ble_eq_true rfl)) (by rw[zZ]; omega) w G5;change CallsIn _ _ Pg 59 _ _ _ at wk;refine (callsIn_wide (n:=5)).1 (wk.mono ?_);rintro j J ⟨v,ng,rfl,e0,ve,Z8,GH⟩
 have ve:J.ownsRow w.heap.size 3 1 v ng.length ((ng.mergeSort fun x S=>decide (x≤S)).flatMap (B .i64).cells):=by
  have j:(ng.mergeSort fun x S=>decide (x≤S)).flatMap (B .i64).cells=(ng.mergeSort fun x S=>decide (x≤S)).map encZ:=by
   generalize ng.mergeSort (fun x S=>decide (x≤S))=q;induction q with
   |nil=>rfl
   |cons x q ck=>rw[List.flatMap_cons,ck]; rfl
  rw[j]; exact ve
 obtain⟨s,aG,AW⟩:=H.ownsRow (T:=B .i64) (fun _=>rfl) (by rw[List.length_mergeSort]) GH ve;exact⟨s,aG,ng,e0.trans G1,AW⟩
end
end bf
namespace Store
open bf
theorem vn{ey:Type}{k:Int}{v:ey}:∀ {es:List (Int×ey)},es.lookup k=some v→∃ cQ cU,es=cQ++(k,v)::cU
 |[],h=>by cases h
 |(a,l)::es,h=>by
  simp only[List.lookup] at h;by_cases c:(k==a)=true
  ·rw[c] at h;have j:k=a:=by simpa using c
   cases h; subst j;exact⟨[],es,rfl⟩
  ·simp only[Bool.not_eq_true] at c;rw[c] at h;obtain⟨cQ,cU,j⟩:=vn h;exact⟨(a,l)::cQ,cU,by rw[j]; rfl⟩
theorem QN{ey:Type}{k:Int}{v:ey}{es:List (Int×ey)}(h:es.lookup k=some v):(k,v)∈es:=by
 obtain⟨cQ,cU,j⟩:=vn h;rw[j]; simp
theorem KD{ey:Type}{k:Int}{v:ey}:∀ {es:List (Int×ey)},(es.map (·.1)).Nodup→(k,v)∈es→es.lookup k=some v
 |[],_,h=>by cases h
 |(a,l)::es,aL,h=>by
  have Z5:=List.nodup_cons.1 aL;simp only[List.lookup];rcases List.mem_cons.1 h with j | h
  ·cases j; simp
  ·have:k≠a:=fun j=>Z5.1 (List.mem_map.2 ⟨(k,v),h,j⟩);rw[show (k==a)=false from by simpa using this];exact KD Z5.2 h
theorem afi{ey:Type}{k:Int}{v:ey}:∀ {es:List (Int×ey)},es.lookup k=none→eM k v es=es++[(k,v)]
 |[],_=>rfl
 |(a,l)::es,h=>by
  simp only[List.lookup] at h;by_cases c:(k==a)=true
  ·rw[c] at h; cases h
  ·simp only[Bool.not_eq_true] at c;rw[c] at h;simp only[eM,c];rw[afi h]; rfl
section
variable {A w:World} {m bT:List bC}
structure AZ where
 y:Nat
 eg:List (Int×ki)
def jY(eg:List (Int×ki)):List (Int×Option Addr):=eg.map fun j=>(j.1,some (⟨j.2.l,0,none⟩:Addr))
def mX(g:Int→List eI)(eg:List (Int×ki)):bC:=dA (eg.map fun j=>l9 j.2 (g j.1))
structure Rel(t:AZ)(o:ht):Prop where
 keys:∀ k,aX o.rows k≠[]↔k∈t.eg.map (·.1)
 marks:∀ j∈t.eg,0≤j.2.mark∧j.2.mark≤o.mark
def eY(l:Nat)(o:ht):bC:=hX fun t:AZ=>dA [lo (Rel t o),aH l (p9.cells ⟨some t.y,o.closed,o.mark⟩) 218,c_ aD .i64 t.y (jY t.eg),mX (aX o.rows) t.eg]
theorem w9{l:Nat}{o:ht}(H:E A (eY l o::m) w):∃ t:AZ,Rel t o∧(t.eg.map (·.1)).Nodup∧E A (aH l (p9.cells ⟨some t.y,o.closed,o.mark⟩) 218::c_ aD .i64 t.y (jY t.eg)::mX (aX o.rows) t.eg::m) w:=by
 obtain⟨t,H⟩:=H.ex;have H:=H.open_;obtain⟨h,H⟩:=E.vy (fa:=Rel t o) H;refine⟨t,h,?_,H⟩;have:=Hu (H.front 1);have j:(jY t.eg).map (·.1)=t.eg.map (·.1):=by unfold jY; rw[List.map_map]; rfl
 rw[← j]; exact this
theorem qC{l:Nat}{o:ht}{t:AZ}(h:Rel t o)(H:E A (aH l (p9.cells ⟨some t.y,o.closed,o.mark⟩) 218::c_ aD .i64 t.y (jY t.eg)::mX (aX o.rows) t.eg::m) w):E A (eY l o::m) w:=
 E.mI t (E.shut (bT:=[lo (Rel t o),aH l (p9.cells ⟨some t.y,o.closed,o.mark⟩) 218,c_ aD .i64 t.y (jY t.eg),mX (aX o.rows) t.eg]) (E.vO h H))
theorem Ei(k:Int):∀ eg:List (Int×ki),(jY eg).lookup k=(eg.lookup k).map fun C=>some (⟨C.l,0,none⟩:Addr)
 |[]=>rfl
 |(a,C)::eg=>by
  have ck:=Ei k eg;unfold jY at ck ⊢;simp only[List.map_cons,List.lookup];by_cases c:(k==a)=true
  ·rw[c]; rfl
  ·simp only[Bool.not_eq_true] at c;rw[c]; exact ck
theorem Oa{g cI:Int→List eI}{eg:List (Int×ki)}(h:∀ j∈eg,g j.1=cI j.1):mX g eg=mX cI eg:=by
 unfold mX; rw[List.map_congr_left fun j he=>by rw[h j he]]
theorem Gd{g:Int→List eI}{cQ cU:List (Int×ki)}{j:Int×ki}(H:E A (mX g (cQ++j::cU)::m) w):E A (l9 j.2 (g j.1)::mX g (cQ++cU)::m) w:=Bi (f:=fun j:Int×ki=>l9 j.2 (g j.1)) H
theorem Ja{g:Int→List eI}{cQ cU:List (Int×ki)}{j:Int×ki}(H:E A (l9 j.2 (g j.1)::mX g (cQ++cU)::m) w):E A (mX g (cQ++j::cU)::m) w:=wj (f:=fun j:Int×ki=>l9 j.2 (g j.1)) H
theorem XD{g cI:Int→List eI}{cQ cU:List (Int×ki)}{k:Int}{C:ki}{N:List eI}(aq:cI k=N)(ai:∀ j∈cQ++cU,g j.1=cI j.1)(H:E A (l9 C N::mX g (cQ++cU)::m) w):E A (mX cI (cQ++(k,C)::cU)::m) w:=by
 refine Ja (j:=(k,C)) ?_;rw[← Oa ai]; rw[← aq] at H; exact H
theorem others{cQ cU:List (Int×ki)}{k:Int}{C:ki}(aL:((cQ++(k,C)::cU).map (·.1)).Nodup):∀ j∈cQ++cU,j.1≠k:=by
 intro j he h;rw[List.map_append,List.map_cons] at aL;have O:=(List.nodup_append.1 aL).2;rcases List.mem_append.1 he with aJ | aJ
 ·exact O.2 j.1 (List.mem_map.2 ⟨j,aJ,rfl⟩) k (List.mem_cons_self ..) h
 ·exact (List.nodup_cons.1 O.1).1 (by rw[← h]; exact List.mem_map.2 ⟨j,aJ,rfl⟩)
theorem Rel.none{t:AZ}{o:ht}{k:Int}(h:Rel t o)(al:t.eg.lookup k=.none):aX o.rows k=[]:=by
 by_cases j:aX o.rows k=[]
 ·exact j
 ·exact absurd ((h.keys k).1 j) (Ht.1 al)
theorem aHd(H:E A m w):M Pg 182 [] aD w fun r J=>∃ l,r=some ⟨l,0,none⟩∧E A (eY l ⟨[],0,0⟩::m) J:=by
 refine aha ?_;unfold UI;refine wY H fun y dF H=>?_;refine bP H fun l cB H=>?_;have H:=wU aD .i64 (H.front 1);have H:E A (dA []::c_ aD .i64 y []::aH l (p9.cells ⟨some y,0,0⟩) 218::m) cB:=E.shut (bT:=[]) H;exact⟨l,rfl,qC (t:=⟨y,[]⟩) ⟨fun k=>by simp[CC],fun j h=>by cases h⟩ (H.ord [2,1,0])⟩
theorem Ql{t:Int}(H:E A m w):M Pg 224 [.int .i64 t] bk w fun r J=>r=(decide (t≥0)&&decide (t≤1125899906842624))∧E A m J:=by
 refine ahG ?_;unfold Vb;exact⟨rfl,H⟩
theorem Hj{k:Int}(H:E A m w):M Pg 258 [.int .i64 k] bk w fun r J=>r=(decide (k≥0)&&decide (k<8192))∧E A m J:=by
 refine ah6 ?_;unfold VA;exact⟨rfl,H⟩
theorem alB{l:Nat}{o:ht}{t:Int}(H:E A (eY l o::m) w):M Pg 251 [.pointer (some ⟨l,0,none⟩),.int .i64 t] (B .i64) w fun r J=>r=Jk t∧E A (eY l (sI o t)::m) J:=by
 refine ah0 ?_;unfold Vu;refine ap (Ql H) ?_;rintro r dF ⟨rfl,H⟩;unfold sI Jk;split
 ·rename_i U;rw[if_pos (show t<0∨t>1125899906842624 from by simp at U; omega)];exact⟨rfl,by rw[if_neg (by omega)]; exact H⟩
 ·rename_i U;rw[if_neg (show ¬ (t<0∨t>1125899906842624) from by simp at U; omega),if_pos rfl];obtain⟨p,h,aL,H⟩:=w9 H;refine cb rfl ?_;refine aj (x:=o.closed) 0 H rfl rfl rfl ?_;refine dD (x:=max o.closed t) 0 H rfl rfl (Nat.le_of_ble_eq_true rfl) fun cB H=>?_;exact⟨rfl,qC (o:={ o with closed:=max o.closed t }) ⟨h.keys,h.marks⟩ H⟩
theorem aH2{l:Nat}{o:ht}{t:Int}(H:E A (eY l o::m) w):M Pg 172 [.pointer (some ⟨l,0,none⟩),.int .i64 t] (B .i64) w fun r J=>r=rE o t∧E A (eY l o::m) J:=by
 refine ag1 ?_;unfold Uy;refine ap (Ql H) ?_;rintro r dF ⟨rfl,H⟩;unfold rE;split
 ·rename_i U;rw[if_pos (show t<0∨t>1125899906842624 from by simp at U; omega)];exact⟨rfl,H⟩
 ·rename_i U;rw[if_neg (show ¬ (t<0∨t>1125899906842624) from by simp at U; omega)];obtain⟨p,h,aL,H⟩:=w9 H;refine cb rfl ?_;refine aj (x:=o.closed) 0 H rfl rfl rfl ?_;split
  ·rename_i U;rw[if_pos (by simpa using U)];exact⟨rfl,qC h H⟩
  ·rename_i U;rw[if_neg (by simpa using U)];refine aj (x:=o.mark) 0 H rfl rfl rfl ?_;split
   ·rename_i U;rw[if_pos (by simpa using U)];exact⟨rfl,qC h H⟩
   ·rename_i U;rw[if_neg (by simpa using U)];exact⟨rfl,qC h H⟩
theorem EP{l:Nat}{o:ht}{k:Int}(a7:Inv o)(H:E A (eY l o::m) w):M Pg 211 [.pointer (some ⟨l,0,none⟩),.int .i64 k] (bw dJ bk) w fun r J=>r=pb (aX o.rows k)∧E A (eY l o::m) J:=by
 refine aht ?_;unfold UX;refine bP H fun iC dF H=>?_;obtain⟨t,h,lk,H⟩:=w9 (H.front 1);refine cb rfl ?_;refine aj (x:=some t.y) 0 H rfl rfl rfl ?_;refine mc 1 H rfl rfl ?_;rw[Ei];cases al:t.eg.lookup k with
 |none=>
  rw[if_pos (by simp)];refine c5 (x:=kn) (S:=(⟨0,0⟩:eI)) qi 3 H rfl fun cB H=>?_;refine eh (x:=(⟨0,0⟩:eI)) 0 H rfl ?_;exact⟨by rw[h.none al]; rfl,qC h H.drop⟩
 |some C=>
  rw[if_neg (by simp)];obtain⟨cQ,cU,j⟩:=vn al;have H:=H.front 2;rw[j] at H;have H:=Gd H;refine ap (XR (C:=C) (Nat.le_trans (a7.cap _) (by omega)) H) ?_;rintro r cB ⟨rfl,H⟩;have H:=Ja (j:=(k,C)) H;rw[← j] at H;show bd dJ _ (pb (aX o.rows k)).1 _ _
  generalize pb (aX o.rows k)=q;refine c5 (x:=kn) (S:=q.1) qi 3 H rfl fun bm H=>?_;refine eh (x:=q.1) 0 H rfl ?_;exact⟨rfl,qC h (H.drop.ord [1,2,0])⟩
theorem an0{l:Nat}{o:ht}{k:Int}(a7:Inv o)(H:E A (eY l o::m) w):M Pg 259 [.pointer (some ⟨l,0,none⟩),.int .i64 k] bk w fun r J=>r=decide (10000≤(aX o.rows k).length)∧E A (eY l o::m) J:=by
 refine ah7 ?_;unfold VB;obtain⟨t,h,lk,H⟩:=w9 H;refine cb rfl ?_;refine aj (x:=some t.y) 0 H rfl rfl rfl ?_;refine mc 1 H rfl rfl ?_;rw[Ei];cases al:t.eg.lookup k with
 |none=>
  rw[if_neg (by simp)];unfold Fx;exact⟨by rw[h.none al]; simp,qC h H⟩
 |some C=>
  rw[if_pos (by simp)];obtain⟨cQ,cU,j⟩:=vn al;have H:=H.front 2;rw[j] at H;have H:=Gd H;have g3:(aX o.rows k).length≤10000:=a7.cap k;refine ap (ak6 (C:=C) (by show (aX o.rows k).length≤_; omega) H) ?_;intro r cB H;have ab:=gr H;have H:=Ja (j:=(k,C)) H.drop;rw[← j] at H;unfold Fx;refine⟨?_,qC h (H.ord [1,2,0])⟩;have ab:r.len=(aX o.rows k).length:=ab;rw[ab];rw[Bool.eq_iff_iff,decide_eq_true_eq];simp
  try omega
end
theorem S3{N:List Row}{t:Int}:∀ {xs:List fw} {seen:List Int},xh N t seen xs=0→(∀ x∈xs,0≤x.Key∧x.Key≤8191∧(pb (aX N x.Key)).1.b5<t∧(aX N x.Key).length<10000∧x.Key∉seen)∧(xs.map (·.Key)).Nodup
 |[],seen,_=>⟨fun x h=>(by cases h),List.nodup_nil⟩
 |x::xs,seen,h=>by
  unfold xh at h;split at h
  ·cases h
  ·rename_i I;split at h
   ·cases h
   ·rename_i O;split at h
    ·cases h
    ·rename_i aJ;split at h
     ·cases h
     rename_i bl;obtain⟨bA,eR⟩:=S3 h;refine⟨fun S aB=>?_,List.nodup_cons.2 ⟨fun hm=>?_,eR⟩⟩
     ·rcases List.mem_cons.1 aB with rfl | aB
      ·exact⟨by omega,by omega,by omega,by omega,O⟩
      ·have:=bA S aB;exact⟨this.1,this.2.1,this.2.2.1,this.2.2.2.1,fun aG=>this.2.2.2.2 (List.mem_append_left _ aG)⟩
     ·obtain⟨S,aB,j⟩:=List.mem_map.1 hm;have:=(bA S aB).2.2.2.2;rw[j] at this;exact this (List.mem_append_right _ (List.mem_singleton_self _))
theorem aII{N:List Row}{t:Int}{seen:List Int}{x:fw}{xs:List fw}:xh N t seen (x::xs)=if x.Key<0∨x.Key>8191 then 123 else if x.Key∈seen then 124 else if (pb (aX N x.Key)).1.b5≥t then 121 else if 10000≤(aX N x.Key).length then 125 else xh N t (seen++[x.Key]) xs:=rfl
theorem LV{t k:Int}{xs:List fw}(h:k∉xs.map (·.Key)):aX (news t xs) k=[]:=by
 by_cases j:aX (news t xs) k=[]
 ·exact j
 ·obtain⟨r,ab,aq⟩:=SX.1 j;obtain⟨x,F,rfl⟩:=List.mem_map.1 ab;exact absurd (List.mem_map.2 ⟨x,F,aq⟩) h
section
variable {A w:World} {m bT:List bC}
theorem aHG{l:Nat}{o:ht}{t:Int}{s:af}{xs:List fw}(a7:Inv o)(F:xs.length≤1000)(aS:1≤t)(k:di 2 m hP s xs)(H:E A (eY l o::m) w) :
  M Pg 244 [.pointer (some ⟨l,0,none⟩),.int .i64 t,X.enc s] (B .i64) w fun r J=>r=(if xs.length>100 then 122 else xh o.rows t [] xs)∧E A (eY l o::m) J:=by
 have aG:=k.tail.len H;refine ahS ?_;unfold Vm;split
 ·rename_i U;rw[if_pos (by simp at U; omega)];exact⟨rfl,H⟩
 ·rename_i U;rw[if_neg (by simp at U; omega)];refine wY H fun y dF H=>?_;have H:=wU fq .i64 H;refine vo (fun i w=>0≤i∧i≤xs.length∧xh o.rows t [] xs=xh o.rows t ((xs.take i.toNat).map (·.Key)) (xs.drop i.toNat)∧∃ es:List (Int×oV),(∀ k,(es.lookup k).isSome=decide (k∈(xs.take i.toNat).map (·.Key)))∧E A (c_ fq .i64 y es::eY l o::m) w) (fun i=>(xs.length-i).toNat)
   ⟨Int.le_refl 0,by omega,by simp,[],by simp,H⟩ ?_
  rintro i w ⟨ah,I,O,es,aJ,H⟩;unfold MU;rw[aG];split
  ·rename_i U;have U:i<xs.length:=by simpa using U
   have aR:IntKind.i64.wrap (i+1)=i+1:=wrap_i64 (by omega) (by omega);have Qh:xs[i.toNat]?=some xs[i.toNat]:=List.getElem?_eq_getElem (by omega);have ag:xs.drop i.toNat=xs[i.toNat]::xs.drop (i.toNat+1):=List.drop_eq_getElem_cons (by omega);have iG:xs.take (i.toNat+1)=xs.take i.toNat++[xs[i.toNat]]:=List.take_succ_eq_append_getElem (by omega);obtain⟨a,Y⟩:=k.tail.tail.iw (i:=i) H ah U;refine aP a Y ?_;refine aP xs[i.toNat] (k.tail.tail.rd Y Qh H) ?_;generalize xs[i.toNat]=x at ag iG;refine bP H fun e9 cB H=>?_;refine c5 (x:=Di) (S:=x) QK 0 H rfl fun bm H=>?_;refine aj (x:=x.Key) 0 H rfl rfl rfl ?_;refine mc 1 H rfl rfl ?_;refine bP H fun eb aV H=>?_;refine dD (x:=_) 0 H rfl rfl (Nat.le_of_ble_eq_true rfl) fun a_ H=>?_;refine aj (x:=x.Key) 1 H rfl rfl rfl ?_;refine ap (EP (k:=x.Key) a7 (H.front 3)) ?_;rintro r b2 ⟨rfl,H⟩;refine bP H fun iC bV H=>?_;generalize a8:pb (aX o.rows x.Key)=q
   refine c5 (x:=kn) (S:=q.1) qi 0 H rfl fun bH H=>?_;refine aj (x:=x.Key) 3 H rfl rfl rfl ?_;refine ap (Hj H) ?_;rintro r b3 ⟨rfl,H⟩;rw[ag,aII,a8] at O;have kt:=aJ x.Key;generalize aae:(xs.take i.toNat).map (·.Key)=seen at O kt aJ;split
   ·rename_i aq;rw[if_pos (show x.Key<0∨x.Key>8191 from by simp at aq; omega)] at O;exact⟨O.symm,((((H.drop.front 1).drop.front 1).drop.front 1).drop)⟩
   ·rename_i aq;rw[if_neg (show ¬ (x.Key<0∨x.Key>8191) from by simp at aq; omega)] at O;split
    ·rename_i jp;have jp:(es.lookup x.Key).isSome=true:=jp;rw[kt] at jp;rw[if_pos (by simpa using jp)] at O;exact⟨O.symm,((((H.drop.front 1).drop.front 1).drop.front 1).drop)⟩
    ·rename_i jp;have jp:¬ (es.lookup x.Key).isSome=true:=jp;rw[kt] at jp;rw[if_neg (by simpa using jp)] at O;refine aj (x:=q.1.b5) 0 H rfl rfl rfl ?_;split
     ·rename_i JV;rw[if_pos (by simpa using JV)] at O;exact⟨O.symm,((((H.drop.front 1).drop.front 1).drop.front 1).drop)⟩
     ·rename_i JV;rw[if_neg (by simpa using JV)] at O;refine aj (x:=x.Key) 3 H rfl rfl rfl ?_;refine ap (an0 (k:=x.Key) a7 (H.front 1)) ?_;rintro r cn ⟨rfl,H⟩;by_cases BI:10000≤(aX o.rows x.Key).length
      ·rw[decide_eq_true BI,if_pos rfl];rw[if_pos BI] at O;exact⟨O.symm,((((H.front 1).drop.front 1).drop.front 1).drop.front 1).drop⟩
      rw[if_neg BI] at O;rw[decide_eq_false BI,if_neg (by simp)];refine aj (x:=x.Key) 3 H rfl rfl rfl ?_;refine r8 4 H rfl rfl fun cN H=>?_;rw[aR];refine⟨⟨by omega,by omega,?_,_,?_,((((H.front 2).drop.front 2).drop.front 2).drop)⟩,by omega⟩
      ·rw[show (i+1).toNat=i.toNat+1 from by omega,iG,List.map_append,aae]; exact O
      ·intro k;rw[show (i+1).toNat=i.toNat+1 from by omega,iG,List.map_append,aae,s6];by_cases D4:k=x.Key
       ·subst D4; simp
       ·rw[if_neg (by simpa using D4),aJ k]; simp[D4]
  ·rename_i U;have U:i=xs.length:=by simp at U; omega
   subst U;have j:xs.drop ((xs.length:Int)).toNat=[]:=by simp
   rw[j] at O;exact⟨O.symm,H.drop⟩
end
theorem aCG{t:Int}{xs:List fw}{i:Nat}(h:i<xs.length):news t (xs.take (i+1))=news t (xs.take i)++[⟨t,xs[i]⟩]:=by
 unfold news; rw[List.take_succ_eq_append_getElem h,List.map_append]; rfl
theorem afz(t k:Int)(x:fw):aX [⟨t,x⟩] k=if x.Key=k then [⟨t,x.V⟩] else []:=by rw[za,CC]
theorem afy{t k:Int}:∀ {xs:List fw},(xs.map (·.Key)).Nodup→(aX (news t xs) k).length≤1
 |[],_=>by simp[news,CC]
 |x::xs,h=>by
  have fr:=List.nodup_cons.1 h;have j:news t (x::xs)=⟨t,x⟩::news t xs:=rfl;rw[j,za];split
  ·rename_i aq;have aq:x.Key=k:=aq;subst aq;rw[LV fr.1];simp
  ·exact afy fr.2
theorem Inv.put{o:ht}(a7:Inv o)(t:Int)(xs:List fw):Inv (nF o t xs):=by
 unfold nF;split
 ·rename_i he;unfold vz at he;split at he
  ·cases he
  ·split at he
   ·cases he
   ·split at he
    ·cases he
    ·obtain⟨I,O⟩:=S3 he;refine⟨fun k=>?_,fun r ab=>?_,fun r ab=>?_,?_,a7.mark⟩
     ·simp only;rw[Ij,List.length_append];by_cases aq:k∈xs.map (·.Key)
      ·obtain⟨x,F,rfl⟩:=List.mem_map.1 aq;have:=(I x F).2.2.2.1;have:=afy (t:=t) (k:=x.Key) O;omega
      ·rw[LV aq];have:=a7.cap k;simpa using this
     ·rcases List.mem_append.1 ab with ab | ab
      ·exact a7.key r ab
      ·obtain⟨x,F,rfl⟩:=List.mem_map.1 ab;exact⟨(I x F).1,(I x F).2.1⟩
     ·rcases List.mem_append.1 ab with ab | ab
      ·exact a7.h4 r ab
      ·obtain⟨x,F,rfl⟩:=List.mem_map.1 ab;simp only; omega
     ·refine List.pairwise_append.2 ⟨a7.rB,?_,?_⟩
      ·unfold news;rw[List.pairwise_map];refine (List.pairwise_map.1 O).imp fun dT he=>absurd he dT
      ·rintro r ab q a8 aq;obtain⟨x,F,rfl⟩:=List.mem_map.1 a8;have dC:=(I x F).2.2.1;have aq:r.cf.Key=x.Key:=aq;show r.b5<t
       have hm:(⟨r.b5,r.cf.V⟩:eI)∈aX o.rows x.Key:=List.mem_map.2 ⟨r,List.mem_filter.2 ⟨ab,by simpa using aq⟩,rfl⟩;have aqF:=Ik a7.rB x.Key;unfold pb at dC;generalize aX o.rows x.Key=N at *;rcases List.eq_nil_or_concat N with rfl | ⟨WZ,S,rfl⟩
       ·cases hm
       ·rw[List.concat_eq_append] at *;rw[List.getLast?_append] at dC;simp only[List.getLast?_singleton,Option.some_or,Option.getD_some] at dC;rcases List.mem_append.1 hm with h | h
        ·have:=(List.pairwise_append.1 aqF).2.2 _ h S (List.mem_singleton_self _);simp only at this; omega
        ·cases List.mem_singleton.1 h;simpa using dC
 ·exact a7
theorem Inv.close{o:ht}(a7:Inv o)(t:Int):Inv (sI o t):=by
 unfold sI;split
 ·rename_i h;unfold Jk at h;have:=a7.mark;refine⟨a7.cap,a7.key,a7.h4,a7.rB,?_⟩;split at h
  ·cases h
  ·simp only; omega
 ·exact a7
theorem Inv.Rw{o:ht}(a7:Inv o)(t:Int):Inv (sg o t):=by
 unfold sg;split
 ·rename_i h;unfold vx at h;have:=a7.mark;have aG:=QB (max o.mark t) o.rows;refine⟨fun k=>Nat.le_trans (by unfold aX; rw[List.length_map,List.length_map]; exact (aG.filter _).length_le) (a7.cap k),fun r ab=>a7.key r (aG.subset ab),fun r ab=>a7.h4 r (aG.subset ab),a7.rB.sublist aG,?_⟩;split at h
  ·cases h
  ·split at h
   ·cases h
   ·simp only; omega
 ·exact a7
section
variable {A w:World} {m bT:List bC}
theorem Ch{l:Nat}{o:ht}{t:Int}{s:af}{xs:List fw}(a7:Inv o)(F:xs.length≤1000)(k:di 2 m hP s xs)(H:E A (eY l o::m) w) :
  M Pg 214 [.pointer (some ⟨l,0,none⟩),.int .i64 t,X.enc s] (B .i64) w fun r J=>r=vz o t xs∧E A (eY l (nF o t xs)::m) J:=by
 refine ahw ?_;unfold U0;have aG:=k.tail.len H;split
 ·rename_i U;have j:vz o t xs=120:=by unfold vz; rw[if_pos (by simp at U; omega)]
  unfold nF;rw[j,if_neg (by omega)];exact⟨rfl,H⟩
 ·rename_i U;have U:¬ (t<1∨t>1125899906842624):=by simp at U; omega
  obtain⟨p,h,lk,H⟩:=w9 H;refine cb rfl ?_;refine aj (x:=o.closed) 0 H rfl rfl rfl ?_;have H:=qC h H;split
  ·rename_i hx;have j:vz o t xs=121:=by unfold vz; rw[if_neg U,if_pos (by simpa using hx)]
   unfold nF;rw[j,if_neg (by omega)];exact⟨rfl,H⟩
  ·rename_i hx;have hx:¬ t≤o.closed:=by simpa using hx
   refine ap (aHG (t:=t) a7 F (by omega) k H) ?_;rintro r dF ⟨rfl,H⟩;have j:vz o t xs=if xs.length>100 then 122 else xh o.rows t [] xs:=by unfold vz; rw[if_neg U,if_neg hx]
   rw[← j];unfold nF;split
   ·rename_i dT;have dT:vz o t xs≠0:=by simpa using dT
    rw[if_neg dT];exact⟨rfl,H⟩
   ·rename_i dT;have dT:vz o t xs=0:=by simpa using dT
    rw[if_pos dT,dT];have al:xs.length≤100:=by
     rw[j] at dT;split at dT
     ·cases dT
     ·omega
    rw[j,if_neg (by omega)] at dT;obtain⟨bA,eR⟩:=S3 dT;refine vo (fun i w=>0≤i∧i≤xs.length∧E A (eY l { o with rows:=o.rows++news t (xs.take i.toNat) }::m) w) (fun i=>(xs.length-i).toNat) ⟨Int.le_refl 0,by omega,by simpa[news] using H⟩ ?_;rintro i w ⟨ah,I,H⟩;unfold MN;rw[aG];split
    ·rename_i yc;have yc:i<xs.length:=by simpa using yc
     have aR:IntKind.i64.wrap (i+1)=i+1:=wrap_i64 (by omega) (by omega);have Qh:xs[i.toNat]?=some xs[i.toNat]:=List.getElem?_eq_getElem (by omega);have iG:=aCG (t:=t) (xs:=xs) (i:=i.toNat) (by omega);have Px:=bA xs[i.toNat] (List.getElem_mem _);have GY:(xs[i.toNat]).Key∉(xs.take i.toNat).map (·.Key):=by
      intro hm;rw[List.map_take] at hm;obtain⟨D,bR,apr⟩:=List.mem_take_iff_getElem.1 hm;have:=(List.pairwise_iff_getElem.1 eR) D i.toNat (by simp at bR ⊢; omega) (by simp; omega) (by omega);rw[apr] at this;simp at this
     obtain⟨a,Y⟩:=k.tail.iw (i:=i) H ah yc;refine aP a Y ?_;refine aP xs[i.toNat] (k.tail.rd Y Qh H) ?_;generalize xs[i.toNat]=x at iG Px GY;refine bP H fun e9 cB H=>?_;refine c5 (x:=Di) (S:=x) QK 0 H rfl fun bm H=>?_;refine dp H fun aV H=>?_;have PV:aX (o.rows++news t (xs.take i.toNat)) x.Key=aX o.rows x.Key:=by rw[Ij,LV GY,List.append_nil]
     generalize aqG:o.rows++news t (xs.take i.toNat)=rows at H PV;have aqH:o.rows++news t (xs.take (i+1).toNat)=rows++[⟨t,x⟩]:=by rw[show (i+1).toNat=i.toNat+1 from by omega,iG,← aqG,List.append_assoc]
     have g3:(aX rows x.Key).length<10000:=by rw[PV]; exact Px.2.2.2.1
     have GS:(pb (aX rows x.Key)).1.b5<t:=by rw[PV]; exact Px.2.2.1
     have PS:aX (rows++[⟨t,x⟩]) x.Key=aX rows x.Key++[⟨t,x.V⟩]:=by rw[Ij,afz,if_pos rfl]
     have PG:∀ q,q≠x.Key→aX rows q=aX (rows++[⟨t,x⟩]) q:=fun q a8=>by rw[Ij,afz,if_neg (fun h=>a8 h.symm),List.append_nil]
     have zU:=a7.mark;obtain⟨p,h,lk,H⟩:=w9 (H.front 1);have JT:∀ (C:ki) (cQ cU:List (Int×ki)) (jJ:Nat) (w:World),Rel ⟨jJ,cQ++(x.Key,C)::cU⟩ { o with rows:=rows++[⟨t,x⟩] }→((cQ++(x.Key,C)::cU).map (·.1)).Nodup→0≤C.mark∧C.mark≤o.mark →
       E A (l9 C (aX rows x.Key)::mX (aX rows) (cQ++cU)::c_ aD .i64 jJ (jY (cQ++(x.Key,C)::cU))::aH l (p9.cells ⟨some jJ,o.closed,o.mark⟩) 218::aH e9 (hP.cells x) 87::m) w →
       Fk t i ⟨e9,0,none⟩ (some ⟨C.l,0,none⟩) w (fun fB J=>(0≤fB∧fB≤xs.length∧E A (eY l { o with rows:=o.rows++news t (xs.take fB.toNat) }::m) J)∧(xs.length-fB).toNat<(xs.length-i).toNat) fun r J=>r=0∧E A (eY l { o with rows:=o.rows++news t xs }::m) J:=by
      intro C cQ cU jJ w jn lk hm H;unfold Fk;refine aj (x:=x.V) 4 H rfl rfl rfl ?_;refine ap (ak9 (t:=t) (v:=x.V) (by omega) (by omega) (by omega) (by omega) GS H) ?_;rintro r a_ ⟨s2,H⟩;rw[aR];have H:=XD (cI:=aX (rows++[⟨t,x⟩])) (k:=x.Key) PS (fun j he=>PG j.1 (others lk j he)) H;refine⟨⟨by omega,by omega,?_⟩,by omega⟩;rw[aqH];have aE:jY (cQ++(x.Key,(⟨C.l,s2,C.mark⟩:ki))::cU)=jY (cQ++(x.Key,C)::cU):=by unfold jY; simp
      rw[← aE] at H;refine qC (t:=⟨jJ,cQ++(x.Key,⟨C.l,s2,C.mark⟩)::cU⟩) (o:={ o with rows:=rows++[⟨t,x⟩] }) ⟨fun q=>?_,fun j he=>?_⟩ (((H.front 3).drop).ord [2,1,0])
      ·have:=jn.keys q;simpa using this
      ·rcases List.mem_append.1 he with he | he
       ·exact jn.marks j (List.mem_append_left _ he)
       ·rcases List.mem_cons.1 he with rfl | he
        ·exact hm
        ·exact jn.marks j (List.mem_append_right _ (List.mem_cons_of_mem _ he))
     refine aj (x:=some p.y) 0 H rfl rfl rfl ?_;refine aj (x:=x.Key) 3 H rfl rfl rfl ?_;refine mc 1 H rfl rfl ?_;rw[Ei];cases mb:p.eg.lookup x.Key with
     |none=>
      rw[if_pos (by simp)];refine ap (ak7 H) ?_;rintro r a_ ⟨au,rfl,H⟩;refine dp H fun b2 H=>?_;refine aj (x:=some p.y) 1 H rfl rfl rfl ?_;refine aj (x:=x.Key) 4 H rfl rfl rfl ?_;refine r8 2 H rfl rfl fun bV H=>?_;have aqj:(jY p.eg).lookup x.Key=none:=by rw[Ei,mb]; rfl
      have aE:eM x.Key (some ⟨au,0,none⟩) (jY p.eg)=jY (p.eg++(x.Key,(⟨au,fz,0⟩:ki))::[]):=by rw[afi aqj]; unfold jY; simp
      rw[aE] at H;have an8:aX rows x.Key=[]:=h.none mb;have aqt:x.Key∉p.eg.map (·.1):=Ht.1 mb;refine JT ⟨au,fz,0⟩ p.eg [] p.y bV ⟨fun q=>?_,fun j he=>?_⟩ ?_ ⟨Int.le_refl 0,zU.1⟩ ?_
      ·by_cases a8:q=x.Key
       ·subst a8;simp only[PS]; simp
       ·rw[← PG q a8,h.keys q]; simp[a8]
      ·rcases List.mem_append.1 he with he | he
       ·exact h.marks j he
       ·cases List.mem_singleton.1 he;exact⟨Int.le_refl 0,zU.1⟩
      ·rw[List.map_append];refine List.nodup_append.2 ⟨lk,by simp,?_⟩;intro a Y c U;simp at U; subst U;intro j; subst j; exact aqt Y
      ·rw[an8,List.append_nil];exact H.ord [1,3,0,2,4]
     |some C=>
      rw[if_neg (by simp)];obtain⟨cQ,cU,j⟩:=vn mb;rw[j] at H lk;have hm:=h.marks _ (QN mb);refine JT C cQ cU p.y aV ⟨fun q=>?_,fun hU he=>?_⟩ lk hm ((Gd (H.front 2)).ord [0,1,3,2,4])
      ·have:=h.keys q;rw[j] at this;by_cases a8:q=x.Key
       ·subst a8;simp only[PS]; simp
       ·rw[← PG q a8]; exact this
      ·exact h.marks _ (by rw[j]; assumption)
    ·rename_i yc;have yc:i=xs.length:=by simp at yc; omega
     subst yc;have a9:xs.take ((xs.length:Int)).toNat=xs:=by simp
     rw[a9] at H;exact⟨rfl,H⟩
end
def oH(N:List Int):List Int:=N.mergeSort fun x S=>decide (x≤S)
theorem Sr(N:List Int):(oH N).Pairwise fun x S=>x≤S:=by
 have I:(oH N).Pairwise fun x S=>decide (x≤S)=true:=
  List.pairwise_mergeSort (fun a l c I O=>by simp at I O ⊢; omega) (fun a l=>by simp; omega) N
 exact I.imp fun h=>by simpa using h
theorem oa(N:List Int):(oH N).Perm N:=List.mergeSort_perm N _
theorem Sq{N o:List Int}(h:N.Perm o):oH N=oH o:=
 List.Perm.eq_of_pairwise (fun a l _ _ I O=>by omega) (Sr N) (Sr o) ((oa N).trans (h.trans (oa o).symm))
theorem Sp{N:List Int}(h:N.Nodup):(oH N).Pairwise fun x S=>x<S:=
 ((Sr N).and ((oa N).nodup_iff.2 h)).imp fun {a l} h => by
  have I:=h.1;have O:a≠l:=h.2;omega
theorem Rel.aHh{t:AZ}{o:ht}(h:Rel t o)(aL:(t.eg.map (·.1)).Nodup):Keys o.rows (oH (t.eg.map (·.1))):=
 ⟨Sp aL,fun k=>by rw[(oa _).mem_iff,h.keys]⟩
theorem QH:∀ N:List Row,∃ fy,Keys N fy
 |[]=>⟨[],List.Pairwise.nil,fun k=>by simp[CC]⟩
 |r::N=>by
  obtain⟨fy,h⟩:=QH N;by_cases aq:r.cf.Key∈fy
  ·refine⟨fy,h.rB,fun k=>?_⟩;rw[za];split
   ·rename_i j; subst j; simp[aq]
   ·exact h.all k
  ·refine⟨oH (r.cf.Key::fy),Sp (List.nodup_cons.2 ⟨aq,h.rB.imp fun h=>Int.ne_of_lt h⟩),fun k=>?_⟩;rw[(oa _).mem_iff,za,List.mem_cons,h.all];split
   ·rename_i j; subst j; simp
   ·rename_i j;constructor
    ·rintro (rfl | h)
     ·exact absurd rfl j
     ·exact h
    ·exact fun h=>.inr h
noncomputable def QE(N:List Row):List Int:=Classical.choose (QH N)
theorem aBx(N:List Row):Keys N (QE N):=Classical.choose_spec (QH N)
theorem QF{N:List Row}{fy:List Int}(h:Keys N fy):QE N=fy:=(aBx N).aIc h fun _=>Iff.rfl
noncomputable def nf(o:ht)(t:Int):List fw:=if rE o t=0 then Cz o.rows t (QE o.rows) else []
theorem aHc{N:List Row}{t:Int}{q:List Int}{i:Nat}(h:i<q.length):Cz N t (q.take (i+1))=Cz N t (q.take i)++match tL (aX N q[i]) t with | none=>[] | some v=>[⟨q[i],v.V⟩]:=by
 unfold Cz;rw[List.take_succ_eq_append_getElem h,List.filterMap_append];congr 1;rw[List.filterMap_cons];cases tL (aX N q[i]) t<;>rfl
theorem aH1{o:ht}{t:Int}(h:rE o t=0):0≤t∧t≤1125899906842624∧t≤o.closed∧o.mark≤t:=by
 unfold rE at h;split at h
 ·cases h
 ·split at h
  ·cases h
  ·split at h
   ·cases h
   ·omega
theorem JF(eg:List (Int×ki)):(jY eg).map (·.1)=eg.map (·.1):=by unfold jY; rw[List.map_map]; rfl
theorem aee:∀ {N:List Int} {nB ax:Int},N.Pairwise (fun x S=>x<S)→(∀ x∈N,nB≤x∧x≤ax)→(N.length:Int)≤max 0 (ax-nB+1)
 |[],_,_,_,_=>by simp only[List.length_nil]; omega
 |x::N,nB,ax,h,ao=>by
  have fr:=List.pairwise_cons.1 h;have I:=ao x (List.mem_cons_self ..);have:=aee (N:=N) (nB:=x+1) (ax:=ax) fr.2 fun S aB=>⟨by have:=fr.1 S aB; omega,(ao S (List.mem_cons_of_mem _ aB)).2⟩
  simp only[List.length_cons]; omega
theorem aBz{t:AZ}{o:ht}(a7:Inv o)(h:Rel t o)(aL:(t.eg.map (·.1)).Nodup):t.eg.length≤8192:=by
 have I:=aee (N:=oH (t.eg.map (·.1))) (nB:=0) (ax:=8191) (Sp aL) fun x F=>by
  have F:x∈t.eg.map (·.1):=(oa _).mem_iff.1 F;obtain⟨r,ab,aq⟩:=SX.1 ((h.keys x).2 F);have:=a7.key r ab;omega
 rw[(oa _).length_eq,List.length_map] at I;omega
section
variable {A w:World} {m bT:List bC}
theorem aHb{l:Nat}{o:ht}{t:Int}(a7:Inv o)(H:E A (eY l o::m) w):M Pg 117 [.pointer (some ⟨l,0,none⟩),.int .i64 t] (bw X (B .i64)) w fun r J=>r.2=rE o t∧E A (row hP 87 2 r.1 (nf o t)::eY l o::m) J:=by
 refine agb ?_;unfold TI;refine ap (aH2 (t:=t) H) ?_;rintro r dF ⟨rfl,H⟩;unfold nf;split
 ·rename_i U;have U:rE o t≠0:=by simpa using U
  rw[if_neg U];exact⟨rfl,kN hP 87 2 H⟩
 ·rename_i U;have U:rE o t=0:=by simpa using U
  rw[if_pos U];obtain⟨aq4,J8,aag,aKa⟩:=aH1 U;obtain⟨p,h,lk,H⟩:=w9 H;have Z1:=h.aHh lk;have yd:=aBz a7 h lk;rw[QF Z1];refine cb rfl ?_;refine aj (x:=some p.y) 0 H rfl rfl rfl ?_;refine ag2 ?_;unfold Uz;refine bP H fun eQ cB H=>?_;have G3:∀ j∈jY p.eg,-9223372036854775808≤j.1∧j.1≤9223372036854775807:=by
   intro j he;have:j.1∈p.eg.map (·.1):=by rw[← JF]; exact List.mem_map.2 ⟨j,he,rfl⟩
   obtain⟨r,ab,aq⟩:=SX.1 ((h.keys _).2 this);have:=a7.key r ab;omega
  refine ap (aHi G3 (by unfold jY; rw[List.length_map]; omega) (H.ord [0,2])) ?_;rintro s bm ⟨fy,aE,H⟩;have a8:(fy.mergeSort fun x S=>decide (x≤S))=oH (p.eg.map (·.1)):=by rw[JF] at aE; exact Sq aE
  rw[a8] at H;have aG:=gr H;have wD:(oH (p.eg.map (·.1))).length≤9000:=by rw[(oa _).length_eq,List.length_map]; omega
  generalize oH (p.eg.map (·.1))=q at *;have H:=kN hP 87 2 H;refine vo (fun x w=>0≤x.2∧x.2≤q.length∧E A (row hP 87 2 x.1 (Cz o.rows t (q.take x.2.toNat))::row (B .i64) 3 1 s q::aH eQ [.map (some p.y)] 216::c_ aD .i64 p.y (jY p.eg)::aH l (p9.cells ⟨some p.y,o.closed,o.mark⟩) 218::mX (aX o.rows) p.eg::m) w) (fun x=>(q.length-x.2).toNat)
   ⟨Int.le_refl 0,by simp only; omega,H⟩ ?_
  rintro⟨out,i⟩ w ⟨ah,I,H⟩;simp only at ah I;simp only;unfold Mg;rw[aG];split
  ·rename_i hx;have hx:i<q.length:=by simpa using hx
   have aR:IntKind.i64.wrap (i+1)=i+1:=wrap_i64 (by omega) (by omega);have F:q[i.toNat]?=some q[i.toNat]:=List.getElem?_eq_getElem (by omega);have lN:=aHc (N:=o.rows) (t:=t) (q:=q) (i:=i.toNat) (by omega);have kt:q[i.toNat]∈p.eg.map (·.1):=(h.keys _).1 ((Z1.all _).1 (List.getElem_mem _));have BM:(Cz o.rows t (q.take i.toNat)).length≤9000:=by
    unfold Cz;refine Nat.le_trans (List.length_filterMap_le _ _) ?_;rw[List.length_take]; omega
   obtain⟨a,Y⟩:=kM (ar:=1) (i:=i) (H.front 1) ah hx;refine aP a Y ?_;refine aP q[i.toNat] (mj (fun _=>rfl) Y F (H.front 1)) ?_;generalize q[i.toNat]=k at *;refine aj (x:=some p.y) 4 H rfl rfl rfl ?_;refine mc 3 H rfl rfl ?_;rw[Ei];obtain⟨j,he,JS⟩:=List.mem_map.1 kt;obtain⟨fS,C⟩:=j;simp only at JS;subst JS;have mb:=KD lk he;rw[mb];obtain⟨cQ,cU,ll⟩:=vn mb;have zU:=(h.marks _ he).2;have H:=H.front 5;rw[ll] at H;have H:=Gd H;have g3:(aX o.rows fS).length≤10000:=a7.cap fS;refine ap (ak5 (C:=C) (at_:=t) (by show (aX o.rows fS).length≤_; omega) (Ik a7.rB fS) aq4 J8 (by simp only at zU; omega) H) ?_;rintro r aV ⟨rfl,H⟩;have H:=Ja (j:=(fS,C)) H;rw[← ll] at H;refine bP H fun l8 a_ H=>?_;cases ZL:tL (aX o.rows fS) t with
   |none=>
    rw[ZL] at lN;dsimp only;refine c5 (x:=kn) (S:=(⟨0,0⟩:eI)) qi 0 H rfl fun b2 H=>?_;rw[if_neg (by simp)];unfold E_;rw[aR];refine⟨⟨by simp only; omega,by simp only; omega,?_⟩,by simp only; omega⟩;simp only;rw[show (i+1).toNat=i.toNat+1 from by omega,lN,List.append_nil];exact H.drop.ord [1,2,3,4,5,0]
   |some v=>
    rw[ZL] at lN;dsimp only;refine c5 (x:=kn) (S:=v) qi 0 H rfl fun b2 H=>?_;rw[if_pos (by simp)];refine aj (x:=v.V) 0 H rfl rfl rfl ?_;refine nu (fun _=>rfl) 2 H rfl (by simp only[List.length_singleton]; omega) fun s2 bV H=>?_;unfold E_;rw[aR];refine⟨⟨by simp only; omega,by simp only; omega,?_⟩,by simp only; omega⟩;simp only;rw[show (i+1).toNat=i.toNat+1 from by omega,lN];exact ((H.front 1).drop).ord [0,2,3,4,5,1]
  ·rename_i hx;have hx:i=q.length:=by simp at hx; omega
   subst hx;have j:q.take ((q.length:Int)).toNat=q:=by simp
   rw[j] at H;refine⟨U.symm,?_⟩;exact ((qC h (((H.front 1).drop.front 1).drop.ord [2,1,3])).front 1)
theorem Y8{ey:Type}{p:Int×ey}{left:List (Int×ey)}(aE:p∈left):(left.filter fun q=>q.1 != p.1).length<left.length:=by
 induction left with
 |nil=>cases aE
 |cons x left ck=>
  rw[List.filter_cons];by_cases c:(x.1 != p.1)=true
  ·rw[if_pos c];rcases List.mem_cons.1 aE with j | aE
   ·rw[j] at c; simp at c
   ·have:=ck aE;simp only[List.length_cons]; omega
  ·rw[if_neg c];have:=List.length_filter_le (fun q:Int×ey=>q.1 != p.1) left;simp only[List.length_cons]; omega
def cut(mark:Int)(rows:List Row)(left:List (Int×Option Addr))(k:Int):List eI:=if left.any (fun q=>q.1==k)=true then aX rows k else o_ mark (aX rows k)
theorem aEP{l:Nat}{o:ht}{t:Int}(a7:Inv o)(H:E A (eY l o::m) w):M Pg 252 [.pointer (some ⟨l,0,none⟩),.int .i64 t] (B .i64) w fun r J=>r=vx o t∧E A (eY l (sg o t)::m) J:=by
 refine ah1 ?_;unfold Vv;refine ap (Ql H) ?_;rintro r dF ⟨rfl,H⟩;unfold sg;split
 ·rename_i U;have j:vx o t=120:=by unfold vx; rw[if_pos (by simp at U; omega)]
  rw[j,if_neg (by omega)];exact⟨rfl,H⟩
 ·rename_i U;have U:¬ (t<0∨t>1125899906842624):=by simp at U; omega
  obtain⟨p,h,lk,H⟩:=w9 H;refine cb rfl ?_;refine aj (x:=o.closed) 0 H rfl rfl rfl ?_;split
  ·rename_i hx;have j:vx o t=128:=by unfold vx; rw[if_neg U,if_pos (by simpa using hx)]
   rw[j,if_neg (by omega)];exact⟨rfl,qC h H⟩
  ·rename_i hx;have hx:¬ t>o.closed:=by simpa using hx
   have j:vx o t=0:=by unfold vx; rw[if_neg U,if_neg hx]
   rw[j,if_pos rfl];have zU:=a7.mark;refine aj (x:=o.mark) 0 H rfl rfl rfl ?_;refine dD (x:=max o.mark t) 0 H rfl rfl (Nat.le_of_ble_eq_true rfl) fun cB H=>?_;have H:E A (aH l (p9.cells ⟨some p.y,o.closed,max o.mark t⟩) 218::c_ aD .i64 p.y (jY p.eg)::mX (aX o.rows) p.eg::m) cB:=H;generalize aJ4:max o.mark t=pf at *;have PB:o.mark≤pf∧0≤pf∧pf≤1125899906842624:=by omega
   refine aj (x:=some p.y) 0 H rfl rfl rfl ?_;refine Sg 1 H rfl rfl fun it bm H=>?_;have aq2:mX (aX o.rows) p.eg=mX (cut pf o.rows (jY p.eg)) p.eg:=Oa fun j he=>by
    unfold cut;have:(jY p.eg).any (fun q=>q.1==j.1)=true:=List.any_eq_true.2 ⟨(j.1,some (⟨j.2.l,0,none⟩:Addr)),List.mem_map.2 ⟨j,he,rfl⟩,by simp⟩;rw[if_pos this]
   rw[aq2] at H;refine Ej (fun n _ w=>∃ left jR eg,n=left.length∧(∀ q∈left,q∈jY p.eg)∧jY eg=jY p.eg∧(∀ j∈eg,0≤j.2.mark∧j.2.mark≤pf)∧E A (rA aD .i64 p.y it (jY p.eg) left jR::aH l (p9.cells ⟨some p.y,o.closed,pf⟩) 218::mX (cut pf o.rows left) eg::m) w) _ ⟨jY p.eg,none,p.eg,rfl,fun _ h=>h,rfl,fun j he=>by have:=h.marks j he; omega,H⟩ ?_;clear H;rintro c _ w ⟨left,jR,eg,rfl,I,O,aJ,H⟩ aa ca;have r0:eg.map (·.1)=p.eg.map (·.1):=by rw[← JF,← JF,O]
   unfold MW;refine Q_ 0 H rfl rfl (fun he H=>?_) fun q a8 aV H=>?_
   ·rw[if_neg (by simp)];subst he;have JT:mX (cut pf o.rows []) eg=mX (aX (bG pf o.rows)) eg:=Oa fun j _=>by
     unfold cut; rw[if_neg (by simp),LU]
    rw[JT] at H;have H:=HX H;rw[← O] at H;refine⟨rfl,qC (t:=⟨p.y,eg⟩) (o:=⟨bG pf o.rows,o.closed,pf⟩) ⟨fun k=>?_,aJ⟩ (H.ord [1,0])⟩;rw[r0,← h.keys k,LU,ne_eq,ne_eq,aa7 (Ik a7.rB k)]
   ·rw[if_pos (by simp)];refine OG 0 H rfl rfl ?_;refine aj (x:=pf) 1 H rfl rfl rfl ?_;have r1:=I q a8;rw[← O] at r1;obtain⟨j,he,rfl⟩:=List.mem_map.1 r1;obtain⟨k,C⟩:=j;obtain⟨cQ,cU,ll⟩:=List.append_of_mem he;have aqr:((cQ++(k,C)::cU).map (·.1)).Nodup:=by rw[← ll,r0]; exact lk
    have aqx:=others aqr;have H:=H.front 2;rw[ll] at H;have H:=Gd H;have Pm:cut pf o.rows left k=aX o.rows k:=by
     unfold cut; rw[if_pos (List.any_eq_true.2 ⟨_,a8,by simp⟩)]
    have H:E A (l9 C (aX o.rows k)::mX (cut pf o.rows left) (cQ++cU)::rA aD .i64 p.y it (jY p.eg) (left.filter fun q=>q.1 != k) (some (k,some ⟨C.l,0,none⟩))::aH l (p9.cells ⟨some p.y,o.closed,pf⟩) 218::m) aV:=by rw[← Pm]; exact H
    have g3:(aX o.rows k).length≤10000:=a7.cap k;refine ap (ak8 (C:=C) (mark:=pf) (by omega) (Ik a7.rB k) PB.2.1 PB.2.2 (aJ _ he).2 H) ?_;rintro r a_ ⟨s,H⟩
    have H:=XD (cI:=cut pf o.rows (left.filter fun q=>q.1 != k)) (k:=k) (by
     unfold cut;rw[if_neg];rw[List.any_filter,List.any_eq_true];rintro⟨q,_,h⟩;simp at h) (fun hU oy=>by
     have dT:=aqx hU oy;unfold cut;have:(left.filter fun q=>q.1 != k).any (fun q=>q.1==hU.1)=left.any (fun q=>q.1==hU.1):=by
      rw[List.any_filter];congr 1;funext q;by_cases c:q.1=hU.1
      ·simp[c,dT]
      ·simp[c]
     rw[this]) H
    refine ca _ _ _ (Y8 a8) ⟨_,_,cQ++(k,⟨C.l,s,pf⟩)::cU,rfl,fun q a8=>I q (List.mem_filter.1 a8).1,?_,fun hU oy=>?_,H.ord [1,2,0]⟩
    ·rw[← O,ll]; unfold jY; simp
    ·rcases List.mem_append.1 oy with oy | oy
     ·exact aJ hU (by rw[ll]; exact List.mem_append_left _ oy)
     ·rcases List.mem_cons.1 oy with rfl | oy
      ·exact⟨PB.2.1,Int.le_refl _⟩
      ·exact aJ hU (by rw[ll]; exact List.mem_append_right _ (List.mem_cons_of_mem _ oy))
end
end Store
namespace Vault
open bf Store Num
abbrev Part:=iz
abbrev mu:=rM
abbrev pu:=qT
abbrev kk:=fw
structure dc where
 eD:Nat
 W:ht
 fD:Int
 held:List (Int×mu)
 busy:List (Int×Int)
 dX:List (Int×pu)
def rm(a:Int):Prop:=0≤a∧a<4096
instance (a:Int):Decidable (rm a):=by unfold rm; infer_instance
instance (a:Int):Decidable (il a):=by unfold il; infer_instance
def ud(v:dc)(t:Int):Int:=if t<1∨t>1125899906842624 then 151 else if t≤v.fD then 152 else 0
def gb(v:dc)(a:Int):eI×Bool:=pb (aX v.W.rows a)
def yQ(v:dc)(t a n:Int):dc×Int:=
 if ud v t≠0 then (v,ud v t) else if ¬ rm a then (v,153) else if (gb v a).2=true then (v,154) else if ¬ il n then (v,155)
 else ({ v with W:=nF v.W t [⟨a,n⟩],fD:=max v.fD t },0)
def p3(v:dc)(p:Part):Int×Int:=
 if p.aC<1 then (0,156) else if (v.dX.lookup p.aC).isSome=true then (0,157) else if 5000≤v.dX.length then (0,158) else if ¬ rm p.cd then (0,153)
 else if p.b<1∨¬ il p.b then (0,155) else if (gb v p.cd).2=false then (0,159) else if (v.busy.lookup p.cd).isSome=true then (0,160)
 else if p.ib=false then (if il (gb v p.cd).1.V∧(gb v p.cd).1.V+p.b≤1000000000000000 then (0,0) else (0,162))
 else if (gb v p.cd).1.V<p.b+j8 p.b v.eD then (0,161) else (j8 p.b v.eD,0)
def apb(v:dc)(t:Int)(p:Part)(tO:Int):dc:={ v with held:=eM p.aC ⟨p,t,tO⟩ v.held,busy:=eM p.cd p.aC v.busy,dX:=eM p.aC ⟨1,t⟩ v.dX,fD:=max v.fD t }
def zW(v:dc)(t:Int)(p:Part):dc×Int:=
 if ud v t≠0 then (v,ud v t) else if (p3 v p).2≠0 then (v,(p3 v p).2) else (apb v t p (p3 v p).1,0)
def Bq(v:dc)(h:mu):dc:={ v with held:=del h.Part.aC v.held,busy:=del h.Part.cd v.busy }
def uU(v:dc)(h:mu):List kk:=
 if h.Part.ib=false then [⟨h.Part.cd,IntKind.i64.wrap ((gb v h.Part.cd).1.V+h.Part.b)⟩]
 else ⟨h.Part.cd,IntKind.i64.wrap (IntKind.i64.wrap ((gb v h.Part.cd).1.V-h.Part.b)-h.uE)⟩ ::
  if h.uE>0 then [⟨IntKind.i64.wrap (4096+h.Part.cd),IntKind.i64.wrap ((gb v (IntKind.i64.wrap (4096+h.Part.cd))).1.V+h.uE)⟩] else []
def ff(v:dc)(id:Int):pu:=(v.dX.lookup id).getD ⟨0,0⟩
def o7(v:dc)(id:Int):mu:=(v.held.lookup id).getD ⟨⟨0,0,0,false⟩,0,0⟩
def Yl(v:dc)(t id:Int)(h:mu):dc:={ Bq v h with W:=nF v.W t (uU v h),dX:=eM id ⟨2,t⟩ v.dX,fD:=max v.fD t }
def xK(v:dc)(t id:Int):dc×Int:=
 if t<1∨t>1125899906842624 then (v,151) else if (ff v id).h9=2 then (if (ff v id).gQ≠t then (v,157) else (v,0))
 else if (ff v id).h9=1 then (if t<(o7 v id).b5 then (v,152) else (Yl v t id (o7 v id),0)) else (v,163)
def rW(v:dc)(id:Int):dc:=match v.held.lookup id with
 |some h=>Bq v h
 |none=>v
def xN(v:dc)(id:Int):dc×Int:=
 if id<1 then (v,156) else if (ff v id).h9=2 then (v,157) else if (v.dX.lookup id).isSome=false∧5000≤v.dX.length then (v,158)
 else ({ rW v id with dX:=eM id ⟨3,0⟩ v.dX },0)
def q5(v:dc)(t:Int):dc×Int:=
 if t<0∨t>1125899906842624 then (v,151) else if v.held.any (fun j=>decide (j.2.b5≤t))=true then (v,160)
 else ({ v with W:=sI v.W t,fD:=max v.fD t },0)
def xc(j:Int):Int:=if j=120 then 151 else if j=128 then 164 else if j=126 then 165 else if j=127 then 159 else j
def EH(v:dc)(t:Int):dc×Int:=({ v with W:=sg v.W t },xc (vx v.W t))
def gp(v:dc):List mu:=(oH (v.held.map (·.1))).map (o7 v)
theorem SL{ey:Type}{k:Int}{v:ey}(es:List (Int×ey)):(eM k v es).length=if (es.lookup k).isSome=true then es.length else es.length+1:=by
 have h:=congrArg List.length (Km k v es);rw[List.length_map] at h;rw[h];split<;>simp
def AO(v:dc)(h:mu):Prop:=aX v.W.rows h.Part.cd≠[]∧(h.Part.ib=true→h.Part.b+h.uE≤(gb v h.Part.cd).1.V)∧(h.Part.ib=false→il (gb v h.Part.cd).1.V∧(gb v h.Part.cd).1.V+h.Part.b≤1000000000000000)
structure Fit(v:dc):Prop where
 eY:Inv v.W
 eD:ju v.eD
 ids:∀ id h,v.held.lookup id=some h→h.Part.aC=id∧1≤id∧id≤9223372036854775807∧rm h.Part.cd∧v.dX.lookup id=some ⟨1,h.b5⟩∧v.busy.lookup h.Part.cd=some id ∧
  v.W.closed<h.b5∧h.b5≤v.fD∧1≤h.Part.b∧h.Part.b≤1000000000000000∧0≤h.uE∧h.uE≤2000000000000000∧AO v h∧∀ r∈v.W.rows,r.cf.Key=h.Part.cd∨r.cf.Key=4096+h.Part.cd→r.b5<h.b5
 busy:∀ a id,v.busy.lookup a=some id→∃ h,v.held.lookup id=some h∧h.Part.cd=a
 wu:∀ id f,v.dX.lookup id=some f→1≤id∧((f.h9=1∧∃ h,v.held.lookup id=some h∧h.b5=f.gQ)∨(f.h9=2∧1≤f.gQ∧f.gQ≤1125899906842624)∨(f.h9=3∧f.gQ=0))
 Aa:v.dX.length≤5000
 rv:(v.held.map (·.1)).Nodup
 B8:(v.busy.map (·.1)).Nodup
 En:(v.dX.map (·.1)).Nodup
 fD:v.W.closed≤v.fD∧v.fD≤1125899906842624
 rows:∀ r∈v.W.rows,r.b5≤v.fD
theorem apc{v:dc}(h:Fit v):∀ j∈v.held,1≤j.1∧j.1≤9223372036854775807:=fun j he=>by
 have:=h.ids j.1 j.2 (KD h.rv he);omega
theorem ZP{v:dc}(h:Fit v):v.held.length≤5000:=by
 refine Nat.le_trans ?_ h.Aa;have I:(v.held.map (·.1)) ⊆ (v.dX.map (·.1)):=by
  intro k aq;obtain⟨j,he,rfl⟩:=List.mem_map.1 aq;have:=(h.ids j.1 j.2 (KD h.rv he)).2.2.2.2.1;exact List.mem_map.2 ⟨_,QN this,rfl⟩
 have:=h.rv.length_le_of_subset I;simpa using this
theorem DY{v:dc}{id:Int}{h:mu}(j:v.held.lookup id=some h):o7 v id=h:=by unfold o7; rw[j]; rfl
theorem YX{v:dc}{id:Int}{f:pu}(j:v.dX.lookup id=some f):ff v id=f:=by unfold ff; rw[j]; rfl
theorem apd{v:dc}(aU:Fit v){id:Int}(j:(ff v id).h9=1):∃ h,v.held.lookup id=some h∧h.b5=(ff v id).gQ∧v.dX.lookup id=some (ff v id):=by
 cases am:v.dX.lookup id with
 |none=>unfold ff at j; rw[am] at j; simp at j
 |some f=>
  rw[YX am] at j ⊢;rcases (aU.wu id f am).2 with ⟨_,h⟩ | ⟨h,_⟩ | ⟨h,_⟩
  ·obtain⟨h,I,O⟩:=h;exact⟨h,I,O,rfl⟩
  ·omega
  ·omega
theorem abI{v:dc}{t:Int}(h:ud v t=0):1≤t∧t≤1125899906842624∧v.fD<t:=by
 unfold ud at h;split at h
 ·omega
 ·split at h
  ·omega
  ·omega
theorem afG{v:dc}{p:Part}(h:(p3 v p).2=0):1≤p.aC∧v.dX.lookup p.aC=none∧v.dX.length<5000∧rm p.cd∧1≤p.b∧p.b≤1000000000000000∧(gb v p.cd).2=true∧v.busy.lookup p.cd=none ∧
  ((p.ib=false∧(p3 v p).1=0∧il (gb v p.cd).1.V∧(gb v p.cd).1.V+p.b≤1000000000000000)∨(p.ib=true∧(p3 v p).1=j8 p.b v.eD∧p.b+j8 p.b v.eD≤(gb v p.cd).1.V)):=by
 unfold p3 at h ⊢;by_cases bt:p.aC<1
 ·rw[if_pos bt] at h; simp at h
 ·rw[if_neg bt] at h ⊢;by_cases bI:(v.dX.lookup p.aC).isSome=true
  ·rw[if_pos bI] at h; simp at h
  ·rw[if_neg bI] at h ⊢;by_cases cc:5000≤v.dX.length
   ·rw[if_pos cc] at h; simp at h
   ·rw[if_neg cc] at h ⊢;by_cases fe:¬ rm p.cd
    ·rw[if_pos fe] at h; simp at h
    ·rw[if_neg fe] at h ⊢;by_cases jl:p.b<1∨¬ il p.b
     ·rw[if_pos jl] at h; simp at h
     ·rw[if_neg jl] at h ⊢;by_cases q2:(gb v p.cd).2=false
      ·rw[if_pos q2] at h; simp at h
      ·rw[if_neg q2] at h ⊢;by_cases c7:(v.busy.lookup p.cd).isSome=true
       ·rw[if_pos c7] at h; simp at h
       ·rw[if_neg c7] at h ⊢;have a9:v.dX.lookup p.aC=none:=Option.not_isSome_iff_eq_none.1 bI;have Ot:v.busy.lookup p.cd=none:=Option.not_isSome_iff_eq_none.1 c7;have q9:il p.b:=Classical.byContradiction fun U=>jl (.inr U);refine⟨by omega,a9,by omega,Classical.not_not.1 fe,by omega,q9.2,by simpa using q2,Ot,?_⟩;by_cases c8:p.ib=false
        ·rw[if_pos c8] at h ⊢;by_cases c9:il (gb v p.cd).1.V∧(gb v p.cd).1.V+p.b≤1000000000000000
         ·rw[if_pos c9];exact .inl ⟨c8,rfl,c9.1,c9.2⟩
         ·rw[if_neg c9] at h; simp at h
        ·rw[if_neg c8] at h ⊢;by_cases c9:(gb v p.cd).1.V<p.b+j8 p.b v.eD
         ·rw[if_pos c9] at h; simp at h
         ·rw[if_neg c9];exact .inr ⟨by simpa using c8,rfl,by omega⟩
theorem Fit.new{r:Nat}(h:ju r):Fit ⟨r,⟨[],0,0⟩,0,[],[],[]⟩:=
 ⟨⟨fun k=>by simp[CC],fun r h=>(by cases h),fun r h=>(by cases h),List.Pairwise.nil,by simp⟩,h,fun id h j=>by simp at j,fun a id j=>by simp at j,fun id f j=>by simp at j,by simp,by simp,by simp,by simp,by simp,fun r h=>by cases h⟩
theorem aES(o:ht)(t:Int)(xs:List kk):(nF o t xs).closed=o.closed∧(nF o t xs).mark=o.mark:=by unfold nF; split<;>exact⟨rfl,rfl⟩
theorem acL{o:ht}{t:Int}{xs:List kk}{r:Row}(h:r∈(nF o t xs).rows):r∈o.rows∨(r.b5=t∧r.cf∈xs):=by
 unfold nF at h;split at h
 ·rcases List.mem_append.1 h with h | h
  ·exact .inl h
  ·obtain⟨x,F,rfl⟩:=List.mem_map.1 h;exact .inr ⟨rfl,F⟩
 ·exact .inl h
theorem aIw{o:ht}{t k:Int}{xs:List kk}(h:∀ x∈xs,x.Key≠k):aX (nF o t xs).rows k=aX o.rows k:=by
 unfold nF;split
 ·simp only;rw[Ij,LV,List.append_nil];intro hm;obtain⟨x,F,j⟩:=List.mem_map.1 hm;exact h x F j
 ·rfl
theorem abl(y:Int):∀ m:List eI,(o_ y m).getLast?=m.getLast?
 |[]=>rfl
 |v::m=>by
  have ck:=abl y m;unfold o_;split
  ·rename_i U;rw[ck];cases m with
   |nil=>simp at U
   |cons u AA=>rw[List.getLast?_cons_cons]
  ·rw[List.getLast?_cons,List.getLast?_cons,ck]
theorem abm{v:dc}{a:Int}:(gb v a).2=true↔aX v.W.rows a≠[]:=by
 unfold gb pb;cases aK:aX v.W.rows a with
 |nil=>simp
 |cons x xs=>simp[List.getLast?_cons]
theorem XB{v u:dc}{h:mu}(j:aX u.W.rows h.Part.cd=aX v.W.rows h.Part.cd)(l:AO v h):AO u h:=by
 unfold AO gb at *;rw[j]; exact l
theorem aky{v:dc}{h:mu}(aU:Inv v.W)(t:Int)(l:AO v h):AO { v with W:=sg v.W t } h:=by
 unfold sg;split
 ·unfold AO gb pb at *;simp only;rw[LU,abl,ne_eq,aa7 (Ik aU.rB _)];exact l
 ·exact l
theorem Fit.acM{v:dc}(aU:Fit v){t:Int}{xs:List kk}(ah:t≤1125899906842624)(F:∀ id h,v.held.lookup id=some h→∀ x∈xs,x.Key≠h.Part.cd∧x.Key≠4096+h.Part.cd):Fit { v with W:=nF v.W t xs,fD:=max v.fD t }:=by
 have U:=aES v.W t xs;have aS:=aU.fD;refine⟨aU.eY.put t _,aU.eD,fun id h j=>?_,aU.busy,aU.wu,aU.Aa,aU.rv,aU.B8,aU.En,⟨by show (nF _ _ _).closed≤max _ _; rw[U.1]; omega,by show max _ _≤_; omega⟩,fun r ab=>?_⟩
 ·obtain⟨bA,eR,je,nx,Bs,Bt,OW,Zi,OX,OS,OT,OU,GA,OV⟩:=aU.ids id h j;refine⟨bA,eR,je,nx,Bs,Bt,by show (nF _ _ _).closed<_; rw[U.1]; exact OW,by show _≤max _ _; omega,OX,OS,OT,OU,XB (aIw fun x wE=>(F id h j x wE).1) GA,fun r ab aq=>?_⟩;rcases acL ab with ab | ⟨_,ab⟩
  ·exact OV r ab aq
  ·have:=F id h j _ ab;omega
 ·rcases acL ab with ab | ⟨ab,_⟩
  ·have:=aU.rows r ab;show _≤max _ _; omega
  ·show _≤max _ _; omega
theorem Fit.open{v:dc}(aU:Fit v)(t a n:Int):Fit (yQ v t a n).1:=by
 unfold yQ;split
 ·exact aU
 ·rename_i I;have I:ud v t=0:=Classical.not_not.1 I;obtain⟨t0,t1,t2⟩:=abI I;split
  ·exact aU
  ·rename_i Y;have Y:rm a:=Classical.not_not.1 Y;split
   ·exact aU
   ·rename_i O;split
    ·exact aU
    ·refine aU.acM t1 fun id h j x F=>?_;obtain⟨_,_,_,nx,_,_,_,_,_,_,_,_,GA,_⟩:=aU.ids id h j;have F:=List.mem_singleton.1 F;subst F;have aJ:=nx.1;have bl:=Y.2;refine⟨fun j=>?_,fun j=>?_⟩
     ·simp only at j;subst j;exact O (abm.2 GA.1)
     ·simp only at j;omega
theorem Fit.free{v:dc}(aU:Fit v){id:Int}{h:mu}(j:v.held.lookup id=some h){f:pu}(am:(f.h9=2∧1≤f.gQ∧f.gQ≤1125899906842624)∨(f.h9=3∧f.gQ=0)):Fit { Bq v h with dX:=eM id f v.dX }:=by
 obtain⟨bA,eR,je,nx,Bs,Bt,OW,Zi,OX,OS,OT,OU,GA,OV⟩:=aU.ids id h j;have yB:∀ x,(del h.Part.aC v.held).lookup x=if x==id then none else v.held.lookup x:=fun x=>by rw[Hs _ _ _ aU.rv,bA]
 have n0:∀ x,(del h.Part.cd v.busy).lookup x=if x==h.Part.cd then none else v.busy.lookup x:=fun x=>by rw[Hs _ _ _ aU.B8]
 refine⟨aU.eY,aU.eD,fun x k ex=>?_,fun a x ex=>?_,fun x k ex=>?_,?_,Q4 aU.rv,Q4 aU.B8,Er aU.En,aU.fD,aU.rows⟩
 ·have ex:(del h.Part.aC v.held).lookup x=some k:=ex;rw[yB] at ex;by_cases c:x=id
  ·simp[c] at ex
  ·rw[if_neg (by simpa using c)] at ex;obtain⟨dn,dY,gM,jG,nZ,jT,s4,yv,rp,ys,yt,wK,rn,vk⟩:=aU.ids x k ex;refine⟨dn,dY,gM,jG,?_,?_,s4,yv,rp,ys,yt,wK,rn,vk⟩
   ·show (eM id f v.dX).lookup x=_
    rw[s6,if_neg (by simpa using c)]; exact nZ
   ·show (del h.Part.cd v.busy).lookup _=_
    rw[n0,if_neg]
    ·exact jT
    ·intro U;have U:k.Part.cd=h.Part.cd:=by simpa using U
     rw[U,Bt] at jT;exact c (by injection jT with jT; exact jT.symm)
 ·have ex:(del h.Part.cd v.busy).lookup a=some x:=ex;rw[n0] at ex;by_cases c:a=h.Part.cd
  ·simp[c] at ex
  ·rw[if_neg (by simpa using c)] at ex;obtain⟨k,ma,jp⟩:=aU.busy a x ex;refine⟨k,?_,jp⟩;show (del h.Part.aC v.held).lookup x=_
   rw[yB,if_neg]
   ·exact ma
   ·intro U;have U:x=id:=by simpa using U
    rw[U,j] at ma;injection ma with ma
    exact c (by rw[ma,jp])
 ·have ex:(eM id f v.dX).lookup x=some k:=ex;rw[s6] at ex;by_cases c:x=id
  ·rw[if_pos (by simpa using c)] at ex;cases ex;exact⟨by omega,.inr am⟩
  ·rw[if_neg (by simpa using c)] at ex;refine⟨(aU.wu x k ex).1,?_⟩;rcases (aU.wu x k ex).2 with ⟨dn,fr,dY,gM⟩ | dn
   ·refine .inl ⟨dn,fr,?_,gM⟩;show (del h.Part.aC v.held).lookup x=_
    rw[yB,if_neg (by simpa using c)]; exact dY
   ·exact .inr dn
 ·show (eM id f v.dX).length≤5000
  rw[SL,Bs,if_pos (by simp)]; exact aU.Aa
theorem aIJ{v:dc}(aU:Fit v){p:Part}(h:(p3 v p).2=0):0≤(p3 v p).1∧(p3 v p).1≤2000000000000000:=by
 obtain⟨_,_,_,_,dq,iu,_,_,sO⟩:=afG h;rcases sO with ⟨_,j,_⟩ | ⟨_,j,_⟩
 ·omega
 ·have:=Gz (n:=p.b) (by omega) iu aU.eD;omega
theorem Fit.hold{v:dc}(aU:Fit v){t:Int}{p:Part}(ah:p.aC≤9223372036854775807):Fit (zW v t p).1:=by
 unfold zW;split
 ·exact aU
 ·rename_i I;have I:ud v t=0:=Classical.not_not.1 I;obtain⟨t0,t1,t2⟩:=abI I;split
  ·exact aU
  ·rename_i O;have O:(p3 v p).2=0:=Classical.not_not.1 O;have BH:=aIJ aU O;obtain⟨lG,aY,aA,a6,b1,bY,cg,cP,dE⟩:=afG O;generalize (p3 v p).1=tO at BH dE;have aS:=aU.fD;have aqu:v.held.lookup p.aC=none:=by
    cases cD:v.held.lookup p.aC with
    |none=>rfl
    |some k=>have:=(aU.ids _ _ cD).2.2.2.2.1; rw[aY] at this; cases this
   have yB:∀ x,(eM p.aC (⟨p,t,tO⟩:mu) v.held).lookup x=if x==p.aC then some ⟨p,t,tO⟩ else v.held.lookup x:=fun x=>s6 _ _ _ _
   have n0:∀ x,(eM p.cd p.aC v.busy).lookup x=if x==p.cd then some p.aC else v.busy.lookup x:=fun x=>s6 _ _ _ _
   have Ef:∀ x,(eM p.aC (⟨1,t⟩:pu) v.dX).lookup x=if x==p.aC then some ⟨1,t⟩ else v.dX.lookup x:=fun x=>s6 _ _ _ _
   refine⟨aU.eY,aU.eD,fun x k ex=>?_,fun a x ex=>?_,fun x k ex=>?_,?_,Er aU.rv,Er aU.B8,Er aU.En,⟨by show v.W.closed≤max v.fD t; omega,by show max v.fD t≤_; omega⟩,fun r ab=>by have:=aU.rows r ab; show _≤max v.fD t; omega⟩
   ·have ex:(eM p.aC (⟨p,t,tO⟩:mu) v.held).lookup x=some k:=ex;rw[yB] at ex;by_cases c:x=p.aC
    ·rw[if_pos (by simpa using c)] at ex;cases ex;subst c;refine⟨rfl,lG,ah,a6,?_,?_,by show v.W.closed<t; omega,by show t≤max v.fD t; omega,b1,bY,BH.1,BH.2,⟨abm.1 cg,fun aE=>?_,fun aE=>?_⟩,fun r ab _=>?_⟩
     ·show (eM p.aC (⟨1,t⟩:pu) v.dX).lookup p.aC=_
      rw[Ef,if_pos (by simp)]
     ·show (eM p.cd p.aC v.busy).lookup p.cd=_
      rw[n0,if_pos (by simp)]
     ·rcases dE with ⟨q,_⟩ | ⟨_,gF,gd⟩
      ·rw[aE] at q; cases q
      ·show p.b+tO≤(gb v p.cd).1.V
       rw[gF]; exact gd
     ·rcases dE with ⟨_,_,gF,gd⟩ | ⟨q,_⟩
      ·exact⟨gF,gd⟩
      ·rw[aE] at q; cases q
     ·have:=aU.rows r ab;show r.b5<t; omega
    ·rw[if_neg (by simpa using c)] at ex;obtain⟨dn,dY,gM,jG,nZ,jT,s4,yv,rp,ys,yt,wK,rn,vk⟩:=aU.ids x k ex;refine⟨dn,dY,gM,jG,?_,?_,s4,by show _≤max v.fD t; omega,rp,ys,yt,wK,rn,vk⟩
     ·show (eM p.aC (⟨1,t⟩:pu) v.dX).lookup x=_
      rw[Ef,if_neg (by simpa using c)]; exact nZ
     ·show (eM p.cd p.aC v.busy).lookup _=_
      rw[n0,if_neg]
      ·exact jT
      ·intro U;have U:k.Part.cd=p.cd:=by simpa using U
       rw[U,cP] at jT; cases jT
   ·have ex:(eM p.cd p.aC v.busy).lookup a=some x:=ex;rw[n0] at ex;by_cases c:a=p.cd
    ·rw[if_pos (by simpa using c)] at ex;cases ex;refine⟨⟨p,t,tO⟩,?_,c.symm⟩;show (eM p.aC (⟨p,t,tO⟩:mu) v.held).lookup p.aC=_
     rw[yB,if_pos (by simp)]
    ·rw[if_neg (by simpa using c)] at ex;obtain⟨k,ma,jp⟩:=aU.busy a x ex;refine⟨k,?_,jp⟩;show (eM p.aC (⟨p,t,tO⟩:mu) v.held).lookup x=_
     rw[yB,if_neg]
     ·exact ma
     ·intro U;have U:x=p.aC:=by simpa using U
      rw[U,aqu] at ma; cases ma
   ·have ex:(eM p.aC (⟨1,t⟩:pu) v.dX).lookup x=some k:=ex;rw[Ef] at ex;by_cases c:x=p.aC
    ·rw[if_pos (by simpa using c)] at ex;cases ex;refine⟨by omega,.inl ⟨rfl,⟨p,t,tO⟩,?_,rfl⟩⟩;show (eM p.aC (⟨p,t,tO⟩:mu) v.held).lookup x=_
     rw[yB,if_pos (by simpa using c)]
    ·rw[if_neg (by simpa using c)] at ex;refine⟨(aU.wu x k ex).1,?_⟩;rcases (aU.wu x k ex).2 with ⟨dn,fr,dY,gM⟩ | dn
     ·refine .inl ⟨dn,fr,?_,gM⟩;show (eM p.aC (⟨p,t,tO⟩:mu) v.held).lookup x=_
      rw[yB,if_neg (by simpa using c)]; exact dY
     ·exact .inr dn
   ·show (eM p.aC (⟨1,t⟩:pu) v.dX).length≤5000
    rw[SL,aY,if_neg (by simp)]; omega
theorem ak2{v:dc}{h:mu}(Y:rm h.Part.cd):∀ x∈uU v h,x.Key=h.Part.cd∨x.Key=4096+h.Part.cd:=by
 have j:IntKind.i64.wrap (4096+h.Part.cd)=4096+h.Part.cd:=wrap_i64 (by have:=Y.1; omega) (by have:=Y.2; omega);intro x F;unfold uU at F;rw[j] at F;split at F
 ·rw[List.mem_singleton.1 F]; exact .inl rfl
 ·rcases List.mem_cons.1 F with rfl | F
  ·exact .inl rfl
  ·split at F
   ·rw[List.mem_singleton.1 F]; exact .inr rfl
   ·cases F
theorem Fit.done{v:dc}(aU:Fit v){t id:Int}{h:mu}(j:v.held.lookup id=some h)(ah:h.b5≤t)(I:t≤1125899906842624):Fit (Yl v t id h):=by
 obtain⟨bA,eR,je,nx,Bs,Bt,OW,Zi,OX,OS,OT,OU,GA,OV⟩:=aU.ids id h j;have aS:=aU.fD;have hm:=aU.eY.mark;have afW:=aU.free j (f:=⟨2,t⟩) (.inl ⟨rfl,by show 1≤t; omega,I⟩);have ahq:=afW.acM (t:=t) (xs:=uU v h) I fun x k ex S aB=>by
  have ex:(del h.Part.aC v.held).lookup x=some k:=ex;rw[Hs _ _ _ aU.rv,bA] at ex;by_cases c:x=id
  ·simp[c] at ex
  ·rw[if_neg (by simpa using c)] at ex;obtain⟨dn,dY,gM,jG,nZ,jT,_⟩:=aU.ids x k ex;have dT:k.Part.cd≠h.Part.cd:=fun U=>by
    rw[U,Bt] at jT;exact c (by injection jT with jT; exact jT.symm)
   have O:=jG.1;have aJ:=jG.2;have bl:=nx.1;have dq:=nx.2;rcases ak2 nx S aB with aB | aB<;>omega
 exact ahq
theorem Fit.alQ{v:dc}(aU:Fit v)(t id:Int):Fit (xK v t id).1:=by
 unfold xK;split
 ·exact aU
 ·rename_i ah;split
  ·split<;>exact aU
  ·split
   ·rename_i I;obtain⟨h,aR,a9,df⟩:=apd aU I;rw[DY aR];split
    ·exact aU
    ·exact aU.done aR (by omega) (by omega)
   ·exact aU
theorem Fit.drop{v:dc}(aU:Fit v)(id:Int):Fit (xN v id).1:=by
 unfold xN;split
 ·exact aU
 ·split
  ·exact aU
  ·split
   ·exact aU
   ·rename_i I O aJ;cases j:v.held.lookup id with
    |some h=>
     have:=aU.free j (f:=⟨3,0⟩) (.inr ⟨rfl,rfl⟩);unfold rW;rw[j]; exact this
    |none=>
     unfold rW;rw[j];have Ef:∀ x,(eM id (⟨3,0⟩:pu) v.dX).lookup x=if x==id then some ⟨3,0⟩ else v.dX.lookup x:=fun x=>s6 _ _ _ _
     refine⟨aU.eY,aU.eD,fun x k ex=>?_,aU.busy,fun x k ex=>?_,?_,aU.rv,aU.B8,Er aU.En,aU.fD,aU.rows⟩
     ·obtain⟨dn,dY,gM,jG,nZ,jT,s4,yv,rp,ys,yt,wK,rn,vk⟩:=aU.ids x k ex;refine⟨dn,dY,gM,jG,?_,jT,s4,yv,rp,ys,yt,wK,rn,vk⟩;show (eM id (⟨3,0⟩:pu) v.dX).lookup x=_
      rw[Ef,if_neg]
      ·exact nZ
      ·intro U;have U:x=id:=by simpa using U
       have ex:v.held.lookup x=some k:=ex;rw[U,j] at ex; cases ex
     ·have ex:(eM id (⟨3,0⟩:pu) v.dX).lookup x=some k:=ex;rw[Ef] at ex;by_cases c:x=id
      ·rw[if_pos (by simpa using c)] at ex;cases ex;exact⟨by omega,.inr (.inr ⟨rfl,rfl⟩)⟩
      ·rw[if_neg (by simpa using c)] at ex;exact aU.wu x k ex
     ·show (eM id (⟨3,0⟩:pu) v.dX).length≤5000
      rw[SL];split
      ·exact aU.Aa
      ·rename_i aL;have aL:(v.dX.lookup id).isSome=false:=(Bool.not_eq_true _).mp aL;have:¬ 5000≤v.dX.length:=fun U=>aJ ⟨aL,U⟩;omega
theorem Fit.close{v:dc}(aU:Fit v)(t:Int):Fit (q5 v t).1:=by
 unfold q5;split
 ·exact aU
 ·rename_i ah;split
  ·exact aU
  ·rename_i I;have aS:=aU.fD;have yd:(sI v.W t).rows=v.W.rows∧(sI v.W t).closed≤max v.W.closed t:=by unfold sI; split; exact⟨rfl,Int.le_refl _⟩; exact⟨rfl,by omega⟩
   refine⟨aU.eY.close t,aU.eD,fun x k ex=>?_,aU.busy,aU.wu,aU.Aa,aU.rv,aU.B8,aU.En,⟨by show (sI v.W t).closed≤max v.fD t; omega,by show max v.fD t≤_; omega⟩,fun r ab=>?_⟩
   ·obtain⟨dn,dY,gM,jG,nZ,jT,s4,yv,rp,ys,yt,wK,rn,vk⟩:=aU.ids x k ex;have aJX:t<k.b5:=by
     apply Classical.byContradiction;intro U;exact I (List.any_eq_true.2 ⟨(x,k),QN ex,by simp; omega⟩)
    refine⟨dn,dY,gM,jG,nZ,jT,by show (sI v.W t).closed<_; omega,by show _≤max v.fD t; omega,rp,ys,yt,wK,XB (by show aX (sI v.W t).rows _=_; rw[yd.1]) rn,fun r ab=>vk r (by rw[← yd.1]; exact ab)⟩
   ·have:=aU.rows r (by rw[← yd.1]; exact ab);show _≤max v.fD t; omega
theorem aEO(o:ht)(t:Int):(sg o t).closed=o.closed∧∀ r∈(sg o t).rows,r∈o.rows:=by
 unfold sg;split
 ·exact⟨rfl,fun r ab=>(QB _ _).subset ab⟩
 ·exact⟨rfl,fun r ab=>ab⟩
theorem Fit.Rw{v:dc}(aU:Fit v)(t:Int):Fit (EH v t).1:=by
 have aE:=aEO v.W t;refine⟨aU.eY.Rw t,aU.eD,fun x k ex=>?_,aU.busy,aU.wu,aU.Aa,aU.rv,aU.B8,aU.En,⟨by show (sg v.W t).closed≤_; rw[aE.1]; exact aU.fD.1,aU.fD.2⟩,fun r ab=>aU.rows r (aE.2 r ab)⟩;obtain⟨dn,dY,gM,jG,nZ,jT,s4,yv,rp,ys,yt,wK,rn,vk⟩:=aU.ids x k ex;exact⟨dn,dY,gM,jG,nZ,jT,by show (sg v.W t).closed<_; rw[aE.1]; exact s4,yv,rp,ys,yt,wK,aky aU.eY t rn,fun r ab=>vk r (aE.2 r ab)⟩
end Vault
namespace bf
open Go.RowKit Go.Maps Go.Sort Go.Shelf Go.WideElems
section
variable {A w:World} {m:List bC} {Z:Type} {T:bu Z}
theorem aHj{r eQ:Nat}{es:List (Int×Z)}(ab:∀ p∈es,-9223372036854775808≤p.1∧p.1≤9223372036854775807)(hm:es.length≤1000000)(H:E A (aH eQ [.map (some r)] 68::c_ T .i64 r es::m) w) :
  M Pg 59 [.func (.func 110) #[] #[.pointer (some ⟨eQ,0,none⟩)]] X w fun s J=>∃ fy:List Int,fy.Perm (es.map (·.1)) ∧
   E A (row (B .i64) 3 1 s (fy.mergeSort fun x S=>decide (x≤S))::aH eQ [.map (some r)] 68::c_ T .i64 r es::m) J:=by
 obtain⟨arr,c,I,ao,O,g7⟩:=yH (H.front 1);have cD:=g7.get;obtain⟨nm,G0,G1,zZ⟩:=Rr (k:=3) Tryz.underlying3 ab (by omega) I ao O cD;have zO:=H.get;have dC:eQ<w.heap.size:=(Array.getElem?_eq_some_iff.1 zO).1;have G5:=AnyZI.keys_gives (ρ:=Tryz.aba) { Tryz.QD with } Fence.wide (5-1-1-1) trivial rfl (by omega) eQ r arr.size nm w dC (by rw[uT zO]; rfl) G0;have wk:=AnyZI.sorted_in Tryz.Ss Fence.wide 5 trivial trivial trivial trivial rfl (by omega) (St _) (enters_of Tryz.func109 (by kernel_rfl) rfl) 110 #[.pointer (some ⟨eQ,0,none⟩)] trivial (enters_of Tryz.func110 (by kernel_rfl) rfl) _ (Maps.size nm) (by rw[zZ]; exact Nat.le_trans hm (Nat.le_of_ble_eq_true rfl)) (by rw[zZ]; omega) w G5;change CallsIn _ _ Pg 59 _ _ _ at wk;refine (callsIn_wide (n:=5)).1 (wk.mono ?_);rintro j J ⟨v,ng,rfl,e0,ve,Z8,GH⟩
 have ve:J.ownsRow w.heap.size 3 1 v ng.length ((ng.mergeSort fun x S=>decide (x≤S)).flatMap (B .i64).cells):=by
  have j:(ng.mergeSort fun x S=>decide (x≤S)).flatMap (B .i64).cells=(ng.mergeSort fun x S=>decide (x≤S)).map encZ:=by
   generalize ng.mergeSort (fun x S=>decide (x≤S))=q;induction q with
   |nil=>rfl
   |cons x q ck=>rw[List.flatMap_cons,ck]; rfl
  rw[j]; exact ve
 obtain⟨s,aG,AW⟩:=H.ownsRow (T:=B .i64) (fun _=>rfl) (by rw[List.length_mergeSort]) GH ve;exact⟨s,aG,ng,e0.trans G1,AW⟩
end
end bf
namespace Vault
open bf Store Num
abbrev hv:=A8
abbrev la:=iB
abbrev v_:=lD
structure A9 where
 s:Nat
 g9:Nat
 jV:Nat
 jH:Nat
def pp(v:dc)(p:A9):tB:=⟨(⟨some ⟨p.s,0,none⟩⟩:mU),v.eD,v.fD,some p.g9,some p.jV,some p.jH⟩
def eU(l:Nat)(v:dc):bC:=hX fun p:A9=>dA [aH l (hv.cells (pp v p)) 72,eY p.s v.W,c_ la .i64 p.g9 v.held,c_ (B .i64) .i64 p.jV v.busy,c_ v_ .i64 p.jH v.dX]
section
variable {A w:World} {m bT:List bC}
theorem po{l:Nat}{v:dc}(H:E A (eU l v::m) w):∃ p:A9,E A (aH l (hv.cells (pp v p)) 72::eY p.s v.W::c_ la .i64 p.g9 v.held::c_ (B .i64) .i64 p.jV v.busy::c_ v_ .i64 p.jH v.dX::m) w:=by
 obtain⟨p,H⟩:=H.ex;exact⟨p,H.open_⟩
theorem kf{l:Nat}{v:dc}{p:A9}(H:E A (aH l (hv.cells (pp v p)) 72::eY p.s v.W::c_ la .i64 p.g9 v.held::c_ (B .i64) .i64 p.jV v.busy::c_ v_ .i64 p.jH v.dX::m) w):E A (eU l v::m) w:=
 E.mI p (E.shut (bT:=[aH l (hv.cells (pp v p)) 72,eY p.s v.W,c_ la .i64 p.g9 v.held,c_ (B .i64) .i64 p.jV v.busy,c_ v_ .i64 p.jH v.dX]) H)
theorem On:∀ (D:List bC) {aO:bC},E A (D++aO::m) w→E A (aO::m) w
 |[],_,H=>H
 |_::D,_,H=>On D H.drop
theorem aCv{r:Nat}{ey:Type}{T:bu ey}{es:List (Int×ey)}{aa:Nat→Prop}{y:Option Nat}{g:Bool}(i:Nat)(H:E A m w)(ax:front i m=c_ T .i64 r es::bT)(hm:y=some r)(aq:aa es.length):ex (fun x=>g=true→(rK y w) x) aa:=by
 obtain⟨x,F,aq⟩:=abE (aa:=aa) i H ax hm aq;exact⟨x,fun _=>F,aq⟩
theorem R6{r it:Nat}{ey:Type}{T:bu ey}{k:IntKind}{es left:List (Int×ey)}{jR:Option (Int×ey)}(H:E A (rA T k r it es left jR::m) w):(es.map (·.1)).Nodup:=Hu (HX H)
theorem Q0{f:Nat}(am:f<18446744073709551616)(H:E A m w):M Pg 140 [.float .f64 f] (bw aD (B .i64)) w fun r J=>(ju f→r.2=0∧∃ l,r.1=some ⟨l,0,none⟩∧E A (eU l ⟨f,⟨[],0,0⟩,0,[],[],[]⟩::m) J)∧(¬ ju f→r=(none,150)∧E A m J):=by
 refine agA ?_;unfold T6;refine ap (Ll am H) ?_;rintro r w ⟨I,O,H⟩;by_cases c:r=0
 ·rw[if_neg (by simp[c])];refine ap (aHd H) ?_;rintro oE w ⟨s,rfl,H⟩;refine wY H fun g9 w H=>?_;have H:=wU la .i64 H;refine wY H fun jV w H=>?_;have H:=wU (B .i64) .i64 H;refine wY H fun jH w H=>?_;have H:=wU v_ .i64 H;refine bP H fun l w H=>?_;refine⟨fun _=>⟨rfl,l,rfl,?_⟩,fun h=>absurd (I.1 c) h⟩;exact kf (v:=⟨f,⟨[],0,0⟩,0,[],[],[]⟩) (p:=⟨s,g9,jV,jH⟩) (H.ord [0,4,3,2,1])
 ·rw[if_pos (by simpa using c)];exact⟨fun h=>absurd (I.2 h) c,fun _=>⟨rfl,H⟩⟩
theorem afs{a:Int}(H:E A m w):M Pg 212 [.int .i64 a] bk w fun r J=>r=decide (rm a)∧E A m J:=by
 refine ahu ?_;unfold UY;refine⟨?_,H⟩;rw[Bool.eq_iff_iff,decide_eq_true_eq];unfold rm;simp
theorem aIo{t:Int}(H:E A m w):M Pg 250 [.int .i64 t] bk w fun r J=>r=(decide (t≥0)&&decide (t≤1125899906842624))∧E A m J:=by
 refine ahZ ?_;unfold Vt;exact⟨rfl,H⟩
theorem afu{l:Nat}{v:dc}{t:Int}(H:E A (eU l v::m) w):M Pg 210 [.pointer (some ⟨l,0,none⟩),.int .i64 t] (B .i64) w fun r J=>r=ud v t∧E A (eU l v::m) J:=by
 refine ahs ?_;unfold UW ud;by_cases c:t<1∨t>1125899906842624
 ·rw[if_pos (by simpa using c),if_pos c];exact⟨rfl,H⟩
 ·rw[if_neg (by simpa using c),if_neg c];obtain⟨p,H⟩:=po H;refine cb rfl ?_;refine aj (x:=v.fD) 0 H rfl rfl rfl ?_;by_cases d:t≤v.fD
  ·rw[if_pos (by simpa using d),if_pos d];exact⟨rfl,kf H⟩
  ·rw[if_neg (by simpa using d),if_neg d];exact⟨rfl,kf H⟩
theorem B4{l:Nat}{v:dc}{t:Int}(H:E A (eU l v::m) w):M Pg 215 [.pointer (some ⟨l,0,none⟩),.int .i64 t] dZ w fun _ J=>E A (eU l { v with fD:=max v.fD t }::m) J:=by
 refine ahx ?_;unfold U1;obtain⟨p,H⟩:=po H;refine cb rfl ?_;refine aj (x:=v.fD) 0 H rfl rfl rfl ?_;refine dD (x:=max v.fD t) 0 H rfl rfl (Nat.le_of_ble_eq_true rfl) fun w H=>?_;exact kf (v:={ v with fD:=max v.fD t }) H
theorem Ig{j:Int}(H:E A m w):M Pg 118 [.int .i64 j] (B .i64) w fun r J=>r=xc j∧E A m J:=by
 refine agc ?_;unfold TJ xc;by_cases bt:j=120
 ·rw[if_pos (by simpa using bt),if_pos bt]; exact⟨rfl,H⟩
 ·rw[if_neg (by simpa using bt),if_neg bt];by_cases bI:j=128
  ·rw[if_pos (by simpa using bI),if_pos bI]; exact⟨rfl,H⟩
  ·rw[if_neg (by simpa using bI),if_neg bI];by_cases cc:j=126
   ·rw[if_pos (by simpa using cc),if_pos cc]; exact⟨rfl,H⟩
   ·rw[if_neg (by simpa using cc),if_neg cc];by_cases fe:j=127
    ·rw[if_pos (by simpa using fe),if_pos fe]; exact⟨rfl,H⟩
    ·rw[if_neg (by simpa using fe),if_neg fe]; exact⟨rfl,H⟩
theorem aIp{l:Nat}{v:dc}{t a n:Int}(aU:Fit v)(H:E A (eU l v::m) w):M Pg 169 [.pointer (some ⟨l,0,none⟩),.int .i64 t,.int .i64 a,.int .i64 n] (B .i64) w fun r J=>r=(yQ v t a n).2∧E A (eU l (yQ v t a n).1::m) J:=by
 refine agX ?_;unfold Uu;refine ap (afu (t:=t) H) ?_;rintro r w ⟨rfl,H⟩;unfold yQ;by_cases b7:ud v t=0
 ·rw[if_neg (by simp[b7]),if_neg (by simp[b7])];obtain⟨p,H⟩:=po H;refine cb rfl ?_;refine aj (x:=some (⟨p.s,0,none⟩:Addr)) 0 H rfl rfl rfl ?_;refine ap (EP (k:=a) aU.eY (H.front 1)) ?_;rintro r w ⟨rfl,H⟩;refine bP H fun e9 w H=>?_;show bd dJ _ (pb (aX v.W.rows a)).1 _ _
  generalize a8:pb (aX v.W.rows a)=q;have r1:gb v a=q:=a8;rw[r1];refine c5 (x:=kn) (S:=q.1) qi 0 H rfl fun w H=>?_;refine ap (afs H) ?_;rintro r w ⟨rfl,H⟩;have fin:∀ w,E A (aH e9 (dJ.cells q.1) 292::eY p.s v.W::aH l (hv.cells (pp v p)) 72::c_ la .i64 p.g9 v.held::c_ (B .i64) .i64 p.jV v.busy::c_ v_ .i64 p.jH v.dX::m) w→E A (eU l v::m) w:=fun w H=>kf ((H.drop).front 1);by_cases bt:rm a
  ·rw[decide_eq_true bt,if_neg (by simp:¬ (!true)=true),if_neg (show ¬ ¬ rm a by simp[bt])];by_cases bI:q.2=true
   ·rw[if_pos bI,if_pos bI];exact⟨rfl,fin _ H⟩
   ·rw[if_neg bI,if_neg bI];refine ap (uV (n:=n) H) ?_;rintro r w ⟨rfl,H⟩;by_cases cc:il n
    ·have j:(if 0≤n∧n≤1000000000000000 then (0:Int) else 40)=0:=if_pos cc;rw[j,if_neg (by simp),if_neg (by simp[cc])];refine aj (x:=some (⟨p.s,0,none⟩:Addr)) 2 H rfl rfl rfl ?_;refine vq H fun eb w H=>?_;have H:=us (ar:=2) (y:=1) rfl H;refine ap (Ch (t:=t) (xs:=[⟨a,n⟩]) aU.eY (by simp) (di.row (fun _=>rfl) 0 rfl) (H.front 2)) ?_;rintro r w ⟨_,H⟩;have H:=kf (v:={ v with W:=nF v.W t [⟨a,n⟩] }) (p:=p) ((H.ord [3,0,4,5,6]));refine ap (B4 (t:=t) H) ?_;intro r w H;exact⟨rfl,(((H.front 1).drop).front 1).drop⟩
    ·have j:(if 0≤n∧n≤1000000000000000 then (0:Int) else 40)=40:=if_neg cc;rw[j,if_pos (by simp),if_pos cc];exact⟨rfl,fin _ H⟩
  ·rw[decide_eq_false bt,if_pos (by simp:(!false)=true),if_pos bt];exact⟨rfl,fin _ H⟩
 ·rw[if_pos (by simpa using b7),if_pos b7];exact⟨rfl,H⟩
theorem aIy{l:Nat}{v:dc}{p:Part}(aU:Fit v)(H:E A (eU l v::m) w):M Pg 216 [.pointer (some ⟨l,0,none⟩),g0.enc p] (bw (B .i64) (B .i64)) w fun r J=>r=p3 v p∧E A (eU l v::m) J:=by
 refine ahy ?_;unfold U2;refine bP H fun e9 w H=>?_;refine dp H fun w H=>?_;refine cb rfl ?_;obtain⟨q,H⟩:=po (H.front 1);refine aj (x:=some q.jH) 0 H rfl rfl rfl ?_;refine aj (x:=p.aC) 5 H rfl rfl rfl ?_;refine mc 4 H rfl rfl ?_;refine bP H fun eb w H=>?_;refine c5 (x:=nQ) (S:=(v.dX.lookup p.aC).getD nQ) Hr 0 H rfl fun w H=>?_;refine dp H fun w H=>?_;refine aj (x:=some (⟨q.s,0,none⟩:Addr)) 1 H rfl rfl rfl ?_;refine aj (x:=p.cd) 6 H rfl rfl rfl ?_;have H:=H.drop;have g4:∀ (iC:Nat) (w:World),E A (aH iC (dJ.cells (gb v p.cd).1) 292::eY q.s v.W::aH l (hv.cells (pp v q)) 72::c_ la .i64 q.g9 v.held::c_ (B .i64) .i64 q.jV v.busy::c_ v_ .i64 q.jH v.dX::aH e9 (g0.cells p) 60::m) w →
   Fl ⟨e9,0,none⟩ ⟨l,0,none⟩ (v.dX.lookup p.aC) ⟨iC,0,none⟩ (gb v p.cd).2 w fun r J=>r=p3 v p∧E A (eU l v::m) J:=by
  intro iC w H;have fin:∀ w,E A (aH iC (dJ.cells (gb v p.cd).1) 292::eY q.s v.W::aH l (hv.cells (pp v q)) 72::c_ la .i64 q.g9 v.held::c_ (B .i64) .i64 q.jV v.busy::c_ v_ .i64 q.jH v.dX::aH e9 (g0.cells p) 60::m) w→E A (eU l v::m) w:=
   fun w H=>(kf (p:=q) ((H.drop).front 1) |>.front 1).drop
  unfold Fl p3;refine dp H fun w H=>?_;refine aj (x:=some q.jV) 2 H rfl rfl rfl ?_;refine aj (x:=p.cd) 6 H rfl rfl rfl ?_;refine mc 4 H rfl rfl ?_;refine aj (x:=p.aC) 6 H rfl rfl rfl ?_;by_cases bt:p.aC<1
  ·rw[if_pos (by simpa using bt),if_pos bt]; exact⟨rfl,fin _ H⟩
  ·rw[if_neg (by simpa using bt),if_neg bt];by_cases bI:(v.dX.lookup p.aC).isSome=true
   ·rw[if_pos bI,if_pos bI]; exact⟨rfl,fin _ H⟩
   ·rw[if_neg bI,if_neg bI];refine aj (x:=some q.jH) 2 H rfl rfl rfl ?_;refine abE 5 H rfl rfl ?_;by_cases cc:5000≤v.dX.length
    ·rw[if_pos (by simp; omega),if_pos cc]; exact⟨rfl,fin _ H⟩
    ·rw[if_neg (by simp; omega),if_neg cc];refine aj (x:=p.cd) 6 H rfl rfl rfl ?_;refine ap (afs H) ?_;rintro r w ⟨rfl,H⟩;by_cases fe:rm p.cd
     ·rw[decide_eq_true fe,if_neg (by simp),if_neg (show ¬ ¬ rm p.cd by simp[fe])];refine aj (x:=p.b) 6 H rfl rfl rfl ?_;have vj:∀ (t:Bool) (w:World),(t=true↔p.b<1∨¬ il p.b)→E A (aH iC (dJ.cells (gb v p.cd).1) 292::eY q.s v.W::aH l (hv.cells (pp v q)) 72::c_ la .i64 q.g9 v.held::c_ (B .i64) .i64 q.jV v.busy::c_ v_ .i64 q.jH v.dX::aH e9 (g0.cells p) 60::m) w →
        Fm ⟨e9,0,none⟩ ⟨l,0,none⟩ ⟨iC,0,none⟩ (gb v p.cd).2 (v.busy.lookup p.cd) t w fun r J=>r=(if p.b<1∨¬ il p.b then (0,155) else if (gb v p.cd).2=false then (0,159) else if (v.busy.lookup p.cd).isSome=true then (0,160)
         else if p.ib=false then (if il (gb v p.cd).1.V∧(gb v p.cd).1.V+p.b≤1000000000000000 then (0,0) else (0,162))
         else if (gb v p.cd).1.V<p.b+j8 p.b v.eD then (0,161) else (j8 p.b v.eD,0))∧E A (eU l v::m) J:=by
       intro t w aS H;unfold Fm;by_cases jl:p.b<1∨¬ il p.b
       ·rw[if_pos (aS.2 jl),if_pos jl]; exact⟨rfl,fin _ H⟩
       ·rw[if_neg (fun h=>jl (aS.1 h)),if_neg jl];have q9:il p.b:=Classical.byContradiction fun U=>jl (.inr U);by_cases q2:(gb v p.cd).2=false
        ·rw[if_pos (by simp[q2]),if_pos q2]; exact⟨rfl,fin _ H⟩
        ·rw[if_neg (by simpa using q2),if_neg q2];by_cases c7:(v.busy.lookup p.cd).isSome=true
         ·rw[if_pos c7,if_pos c7]; exact⟨rfl,fin _ H⟩
         ·rw[if_neg c7,if_neg c7];refine aj (x:=p.ib) 6 H rfl rfl rfl ?_;by_cases c8:p.ib=false
          ·rw[if_pos (by simp[c8]),if_pos c8];refine aj (x:=(gb v p.cd).1.V) 0 H rfl rfl rfl ?_;refine aj (x:=p.b) 6 H rfl rfl rfl ?_;refine ap (aj1 H) ?_;rintro r w ⟨I,O,H⟩;by_cases c9:il (gb v p.cd).1.V∧(gb v p.cd).1.V+p.b≤1000000000000000
           ·rw[if_neg (by simp[I.2 ⟨c9.1,q9,c9.2⟩]),if_pos c9]; exact⟨rfl,fin _ H⟩
           ·rw[if_pos (by simp; exact fun h=>c9 ⟨(I.1 h).1,(I.1 h).2.2⟩),if_neg c9]; exact⟨rfl,fin _ H⟩
          ·rw[if_neg (by simpa using c8),if_neg c8];refine dp H fun w H=>?_;refine aj (x:=p.b) 6 H rfl rfl rfl ?_;refine aj (x:=v.eD) 2 H rfl rfl rfl ?_;refine ap (anR q9.1 q9.2 aU.eD H) ?_;rintro r w ⟨rfl,H⟩;refine aj (x:=(gb v p.cd).1.V) 0 H rfl rfl rfl ?_;refine aj (x:=p.b) 6 H rfl rfl rfl ?_;have am:=Gz q9.1 q9.2 aU.eD;have aL:=q9.2;have aJ6:=q9.1;have j:IntKind.i64.wrap (p.b+(j8 p.b v.eD,(0:Int)).1)=p.b+j8 p.b v.eD:=wrap_i64 (by simp only; omega) (by simp only; omega);rw[j];by_cases c9:(gb v p.cd).1.V<p.b+j8 p.b v.eD
           ·rw[if_pos (by simpa using c9),if_pos c9]; exact⟨rfl,fin _ H⟩
           ·rw[if_neg (by simpa using c9),if_neg c9]; exact⟨rfl,fin _ H⟩
      by_cases jl:p.b<1
      ·rw[if_pos (by simpa using jl)];exact vj true w ⟨fun _=>.inl jl,fun _=>rfl⟩ H
      ·rw[if_neg (by simpa using jl)];refine aj (x:=p.b) 6 H rfl rfl rfl ?_;refine ap (uV H) ?_;rintro r w ⟨rfl,H⟩;refine vj _ w ?_ H;by_cases q2:il p.b
       ·have j:(if 0≤p.b∧p.b≤1000000000000000 then (0:Int) else 40)=0:=if_pos q2;rw[j];simp[jl,q2]
       ·have j:(if 0≤p.b∧p.b≤1000000000000000 then (0:Int) else 40)=40:=if_neg q2;rw[j];simp[q2]
     ·rw[decide_eq_false fe,if_pos (by simp),if_pos fe]; exact⟨rfl,fin _ H⟩
 refine⟨?_,?_⟩
 ·refine ap (EP (k:=p.cd) aU.eY (H.front 1)) ?_;rintro r w ⟨rfl,H⟩;refine bP H fun iC w H=>?_;show bd dJ _ (gb v p.cd).1 _ _
  refine c5 (x:=kn) (S:=(gb v p.cd).1) qi 0 H rfl fun w H=>?_;exact g4 iC w H
 ·refine bP H fun iC w H=>?_;refine ap (EP (k:=p.cd) aU.eY (H.front 2)) ?_;rintro r w ⟨rfl,H⟩;show bd dJ _ (gb v p.cd).1 _ _
  refine c5 (x:=kn) (S:=(gb v p.cd).1) qi 1 H rfl fun w H=>?_;exact g4 iC w H
theorem aIn{l:Nat}{v:dc}{t:Int}{p:Part}(aU:Fit v)(H:E A (eU l v::m) w):M Pg 170 [.pointer (some ⟨l,0,none⟩),.int .i64 t,g0.enc p] (B .i64) w fun r J=>r=(zW v t p).2∧E A (eU l (zW v t p).1::m) J:=by
 refine agZ ?_;unfold Uw zW;refine bP H fun e9 w H=>?_;refine ap (afu (t:=t) (H.front 1)) ?_;rintro r w ⟨rfl,H⟩;by_cases b7:ud v t=0
 ·rw[if_neg (by simp[b7]),if_neg (by simp[b7])];refine eh (x:=p) 1 H rfl ?_;refine ap (aIy (p:=p) aU H) ?_;rintro r w ⟨rfl,H⟩;by_cases bt:(p3 v p).2=0
  ·rw[if_neg (by simp[bt]),if_neg (by simp[bt])];refine dp H fun w H=>?_;refine cb rfl ?_;obtain⟨q,H⟩:=po H;refine aj (x:=some q.g9) 0 H rfl rfl rfl ?_;refine aj (x:=p.aC) 5 H rfl rfl rfl ?_;refine eh (x:=p) 5 H rfl ?_;refine r8 2 H rfl rfl fun w H=>?_;refine dp H fun w H=>?_;refine aj (x:=some q.jV) 1 H rfl rfl rfl ?_;refine aj (x:=p.cd) 5 H rfl rfl rfl ?_;refine aj (x:=p.aC) 5 H rfl rfl rfl ?_;refine r8 3 H rfl rfl fun w H=>?_;refine dp H fun w H=>?_;refine aj (x:=some q.jH) 2 H rfl rfl rfl ?_;refine aj (x:=p.aC) 5 H rfl rfl rfl ?_;refine r8 4 H rfl rfl fun w H=>?_;have H:=kf (v:={ v with held:=eM p.aC ⟨p,t,(p3 v p).1⟩ v.held,busy:=eM p.cd p.aC v.busy,dX:=eM p.aC ⟨1,t⟩ v.dX }) (p:=q) (H.ord [3,4,2,1,0]);refine ap (B4 (t:=t) H) ?_;intro r w H;exact⟨rfl,(H.front 1).drop⟩
  ·rw[if_pos (by simpa using bt),if_pos bt];exact⟨rfl,(H.front 1).drop⟩
 ·rw[if_pos (by simpa using b7),if_pos b7];exact⟨rfl,(H.front 1).drop⟩
theorem free_spec{l:Nat}{v:dc}{h:mu}(H:E A (eU l v::m) w):M Pg 249 [.pointer (some ⟨l,0,none⟩),la.enc h] dZ w fun _ J=>E A (eU l (Bq v h)::m) J:=by
 refine ahX ?_;unfold Vr;refine bP H fun e9 w H=>?_;refine dp H fun w H=>?_;refine cb rfl ?_;obtain⟨q,H⟩:=po (H.front 1);refine aj (x:=some q.g9) 0 H rfl rfl rfl ?_;refine aj (x:=h.Part.aC) 5 H rfl rfl rfl ?_;refine QT 2 H rfl rfl fun w H=>?_;refine dp H fun w H=>?_;refine aj (x:=some q.jV) 1 H rfl rfl rfl ?_;refine aj (x:=h.Part.cd) 5 H rfl rfl rfl ?_;refine QT 3 H rfl rfl fun w H=>?_;exact (kf (v:=Bq v h) (p:=q) (H.ord [2,3,1,0,4]) |>.front 1).drop
theorem ak4{l:Nat}{v:dc}{h:mu}{q:A9}(aU:Fit v)(H:E A (aH l (hv.cells (pp v q)) 72::eY q.s v.W::m) w):M Pg 253 [.pointer (some ⟨l,0,none⟩),la.enc h] X w fun r J=>E A (row hP 87 2 r (uU v h)::aH l (hv.cells (pp v q)) 72::eY q.s v.W::m) J:=by
 refine ah2 ?_;unfold Vw uU;refine bP H fun e9 w H=>?_;refine aj (x:=h.Part.cd) 0 H rfl rfl rfl ?_;refine cb rfl ?_;refine aj (x:=some (⟨q.s,0,none⟩:Addr)) 1 H rfl rfl rfl ?_;refine ap (EP (k:=h.Part.cd) aU.eY (H.front 2)) ?_;rintro r w ⟨rfl,H⟩;refine bP H fun eb w H=>?_;show bd dJ _ (gb v h.Part.cd).1 _ _
 refine c5 (x:=kn) (S:=(gb v h.Part.cd).1) qi 0 H rfl fun w H=>?_;refine aj (x:=h.Part.ib) 2 H rfl rfl rfl ?_;by_cases c:h.Part.ib=false
 ·rw[if_pos (by simp[c]),if_pos c];refine aj (x:=(gb v h.Part.cd).1.V) 0 H rfl rfl rfl ?_;refine aj (x:=h.Part.b) 2 H rfl rfl rfl ?_;refine vq H fun iC w H=>?_;have H:=us (ar:=2) (y:=1) rfl H;exact ((((H.front 1).drop.front 2).drop).ord [0,2,1])
 ·rw[if_neg (by simpa using c),if_neg c];refine aj (x:=(gb v h.Part.cd).1.V) 0 H rfl rfl rfl ?_;refine aj (x:=h.Part.b) 2 H rfl rfl rfl ?_;refine aj (x:=h.uE) 2 H rfl rfl rfl ?_;refine vq H fun iC w H=>?_;have H:=us (ar:=2) (y:=1) rfl H;refine aj (x:=h.uE) 3 H rfl rfl rfl ?_;unfold IH;by_cases d:h.uE>0
  ·rw[if_pos (by simpa using d),if_pos d];refine aj (x:=some (⟨q.s,0,none⟩:Addr)) 4 H rfl rfl rfl ?_;generalize PJ:IntKind.i64.wrap (4096+h.Part.cd)=nE;refine ap (EP (k:=nE) aU.eY (H.front 2)) ?_;rintro r w ⟨rfl,H⟩;refine bP H fun iD w H=>?_;show bd dJ _ (gb v nE).1 _ _
   refine c5 (x:=kn) (S:=(gb v nE).1) qi 0 H rfl fun w H=>?_;refine aj (x:=(gb v nE).1.V) 0 H rfl rfl rfl ?_;refine aj (x:=h.uE) 4 H rfl rfl rfl ?_;refine nu (fun _=>rfl) 2 H rfl (by simp) fun r w H=>?_;have H:=((((H.front 1).drop).front 2).drop.front 2).drop;exact H.ord [0,2,1]
  ·rw[if_neg (by simpa using d),if_neg d];have H:=(H.front 1).drop;have H:=(H.front 2).drop;exact H.ord [0,2,1]
theorem ak3(v:dc)(h:mu):(uU v h).length≤2:=by
 unfold uU;split
 ·simp
 ·split<;>simp
theorem alS{l:Nat}{v:dc}{t id:Int}(aU:Fit v)(H:E A (eU l v::m) w):M Pg 220 [.pointer (some ⟨l,0,none⟩),.int .i64 t,.int .i64 id] (B .i64) w fun r J=>r=(xK v t id).2∧E A (eU l (xK v t id).1::m) J:=by
 refine ahC ?_;unfold U8 xK;by_cases b7:t<1∨t>1125899906842624
 ·rw[if_pos (by simpa using b7),if_pos b7]; exact⟨rfl,H⟩
 ·rw[if_neg (by simpa using b7),if_neg b7];refine cb rfl ?_;obtain⟨q,H⟩:=po H;refine aj (x:=some q.jH) 0 H rfl rfl rfl ?_;refine mc 4 H rfl rfl ?_;refine bP H fun e9 w H=>?_;show bd lD _ (ff v id) _ _
  refine c5 (x:=nQ) (S:=ff v id) Hr 0 H rfl fun w H=>?_;refine aj (x:=(ff v id).h9) 0 H rfl rfl rfl ?_;by_cases bt:(ff v id).h9=2
  ·rw[if_pos (by simpa using bt),if_pos bt];refine aj (x:=(ff v id).gQ) 0 H rfl rfl rfl ?_;by_cases bI:(ff v id).gQ=t
   ·rw[if_neg (by simp[bI]),if_neg (by simp[bI])];exact⟨rfl,kf (p:=q) H.drop⟩
   ·rw[if_pos (by simpa using bI),if_pos bI];exact⟨rfl,kf (p:=q) H.drop⟩
  ·rw[if_neg (by simpa using bt),if_neg bt];by_cases bI:(ff v id).h9=1
   ·rw[if_pos (by simpa using bI),if_pos bI];refine aj (x:=some q.g9) 1 H rfl rfl rfl ?_;refine mc 3 H rfl rfl ?_;refine bP H fun eb w H=>?_;show bd la _ (o7 v id) _ _
    refine c5 (x:=qV) (S:=o7 v id) Ed 0 H rfl fun w H=>?_;refine aj (x:=(o7 v id).b5) 0 H rfl rfl rfl ?_;by_cases cc:t<(o7 v id).b5
    ·rw[if_pos (by simpa using cc),if_pos cc];exact⟨rfl,kf (p:=q) H.drop.drop⟩
    ·rw[if_neg (by simpa using cc),if_neg cc];generalize o7 v id=h at *;refine dp H fun w H=>?_;refine aj (x:=some (⟨q.s,0,none⟩:Addr)) 2 H rfl rfl rfl ?_;refine eh (x:=h) 0 H rfl ?_;refine ap (ak4 (h:=h) (q:=q) aU (H.ord [2,3])) ?_;intro r w H;have yd:=ak3 v h;refine⟨bM aD (H.front 1) rfl rfl,?_⟩;refine ap (Ch (t:=t) (xs:=uU v h) aU.eY (by omega) (di.row (fun _=>rfl) 0 rfl) (H.front 2)) ?_;rintro r w ⟨_,H⟩;have H:=(H.front 1).drop;refine⟨bM la (H.front 2) rfl (tF _),?_⟩;refine eh (x:=h) 2 H rfl ?_;have H:=kf (v:={ v with W:=nF v.W t (uU v h) }) (p:=q) (H.ord [1,0,4,5,6]);refine ap (free_spec (h:=h) H) ?_;intro r w H;obtain⟨gx,H⟩:=po H;refine aj (x:=some gx.jH) 0 H rfl rfl rfl ?_;refine r8 4 H rfl rfl fun w H=>?_;have H:=kf (v:={ Bq v h with W:=nF v.W t (uU v h),dX:=eM id ⟨2,t⟩ v.dX }) (p:=gx) (H.ord [1,2,3,4,0]);refine ap (B4 (t:=t) H) ?_;intro r w H
     exact⟨rfl,(((H.front 1).drop).front 1).drop⟩
   ·rw[if_neg (by simpa using bI),if_neg bI];exact⟨rfl,kf (p:=q) H.drop⟩
theorem amj{l:Nat}{v:dc}{id:Int}(H:E A (eU l v::m) w):M Pg 217 [.pointer (some ⟨l,0,none⟩),.int .i64 id] (B .i64) w fun r J=>r=(xN v id).2∧E A (eU l (xN v id).1::m) J:=by
 refine ahz ?_;unfold U3 xN;refine cb rfl ?_;obtain⟨q,H⟩:=po H;refine aj (x:=some q.jH) 0 H rfl rfl rfl ?_;refine mc 4 H rfl rfl ?_;refine bP H fun e9 w H=>?_;show bd lD _ (ff v id) _ _
 refine c5 (x:=nQ) (S:=ff v id) Hr 0 H rfl fun w H=>?_;by_cases b7:id<1
 ·rw[if_pos (by simpa using b7),if_pos b7];exact⟨rfl,kf (p:=q) H.drop⟩
 ·rw[if_neg (by simpa using b7),if_neg b7];refine aj (x:=(ff v id).h9) 0 H rfl rfl rfl ?_;by_cases bt:(ff v id).h9=2
  ·rw[if_pos (by simpa using bt),if_pos bt];exact⟨rfl,kf (p:=q) H.drop⟩
  ·rw[if_neg (by simpa using bt),if_neg bt];refine aP ⟨l,0,none⟩ (fun _=>rfl) ?_;refine aP (some q.jH) (fun _=>bM ek (H.front 1) rfl rfl) ?_;refine aCv (g:=!((v.dX.lookup id).isSome)) 5 H rfl rfl ?_;have g4:∀ (w:World),E A (eU l (rW v id)::m) w→Fo id ⟨l,0,none⟩ w fun r J=>r=0∧E A (eU l { rW v id with dX:=eM id ⟨3,0⟩ v.dX }::m) J:=by
    intro w H;have am:(rW v id).dX=v.dX:=by unfold rW; split<;>rfl
    unfold Fo;obtain⟨gx,H⟩:=po H;refine aj (x:=some gx.jH) 0 H rfl rfl rfl ?_;refine r8 4 H rfl rfl fun w H=>?_;rw[am] at H;exact⟨rfl,kf (v:={ rW v id with dX:=eM id ⟨3,0⟩ v.dX }) (p:=gx) (H.ord [1,2,3,4,0])⟩
   by_cases bI:(v.dX.lookup id).isSome=false∧5000≤v.dX.length
   ·rw[if_pos (by simp only[bI.1]; simp; omega),if_pos bI];exact⟨rfl,kf (p:=q) H.drop⟩
   ·rw[if_neg (by
     intro U;rw[Bool.and_eq_true] at U;refine bI ⟨by simpa using U.1,?_⟩;have:=U.2;simp at this
     omega),if_neg bI]
    refine aj (x:=some q.g9) 1 H rfl rfl rfl ?_;refine mc 3 H rfl rfl ?_;refine bP H fun eb w H=>?_;show bd la _ (o7 v id) _ _
    refine c5 (x:=qV) (S:=o7 v id) Ed 0 H rfl fun w H=>?_;cases cD:v.held.lookup id with
    |some h=>
     rw[if_pos (by simp)];rw[DY cD] at H;refine eh (x:=h) 0 H rfl ?_;have H:=kf (p:=q) (H.ord [2,3,4,5,6]);refine ap (free_spec (h:=h) H) ?_;intro r w H;have R:rW v id=Bq v h:=by unfold rW; rw[cD]
     exact g4 w (by rw[R]; exact (((H.front 1).drop).front 1).drop)
    |none=>
     rw[if_neg (by simp)];have R:rW v id=v:=by unfold rW; rw[cD]
     have H:=kf (p:=q) (H.ord [2,3,4,5,6]);exact g4 w (by rw[R]; exact (((H.front 1).drop).front 1).drop)
theorem aIm{l:Nat}{v:dc}{t:Int}(H:E A (eU l v::m) w):M Pg 218 [.pointer (some ⟨l,0,none⟩),.int .i64 t] (B .i64) w fun r J=>r=(q5 v t).2∧E A (eU l (q5 v t).1::m) J:=by
 refine ahA ?_;unfold U4;refine ap (aIo (t:=t) H) ?_;rintro r w ⟨rfl,H⟩;by_cases b7:t<0∨t>1125899906842624
 ·have j:q5 v t=(v,151):=by unfold q5; rw[if_pos b7]
  rw[j,if_pos (by simp; omega)];exact⟨rfl,H⟩
 ·rw[if_neg (by simp; omega)];refine cb rfl ?_;obtain⟨q,H⟩:=po H;refine aj (x:=some q.g9) 0 H rfl rfl rfl ?_;refine Sg 2 H rfl rfl fun it w H=>?_;refine Ej (fun n _ w=>∃ left jR,n=left.length∧(∀ x∈left,x∈v.held)∧(v.held.any (fun j=>decide (j.2.b5≤t))=left.any (fun j=>decide (j.2.b5≤t)))∧(left.map (·.1)).Nodup∧∃ yr,E A (rA la .i64 q.g9 it v.held left jR::aH l (hv.cells (pp v q)) 72::eY q.s v.W::c_ (B .i64) .i64 q.jV v.busy::c_ v_ .i64 q.jH v.dX::(yr++m)) w) _ ⟨v.held,none,rfl,fun _ h=>h,rfl,?_,[],H⟩ ?_
  ·exact R6 H
  clear H;rintro c _ w ⟨left,jR,rfl,I,O,aL,yr,H⟩ aa ca;unfold MO;refine Q_ 0 H rfl rfl (fun he H=>?_) fun x F w H=>?_
  ·subst he;rw[if_neg (by simp)];have j:q5 v t=({ v with W:=sI v.W t,fD:=max v.fD t },0):=by
    unfold q5; rw[if_neg b7,if_neg (by rw[O]; simp)]
   rw[j];have H:=HX H;refine aj (x:=some (⟨q.s,0,none⟩:Addr)) 1 H rfl rfl rfl ?_;refine ap (alB (t:=t) (H.front 2)) ?_;rintro r w ⟨_,H⟩;have H:=kf (v:={ v with W:=sI v.W t }) (p:=q) (H.ord [2,0,1,3,4]);refine ap (B4 (t:=t) H) ?_;intro r w H;have H:=H.perm (List.perm_middle.symm:(_::(yr++m)).Perm (yr++_::m));exact⟨rfl,On yr H⟩
  ·rw[if_pos (by simp)];refine OG 0 H rfl rfl ?_;refine bP H fun e9 w H=>?_;refine c5 (x:=qV) (S:=x.2) Ed 0 H rfl fun w H=>?_;refine aj (x:=x.2.b5) 0 H rfl rfl rfl ?_;by_cases bt:x.2.b5≤t
   ·rw[if_pos (by simpa using bt)];have j:q5 v t=(v,160):=by
     unfold q5; rw[if_neg b7,if_pos (List.any_eq_true.2 ⟨x,I x F,by simpa using bt⟩)]
    rw[j];have H:=HX H.drop;have H:=kf (v:=v) (p:=q) (H.ord [1,2,0,3,4]);have H:=H.perm (List.perm_middle.symm:(_::(yr++m)).Perm (yr++_::m));exact⟨rfl,On yr H⟩
   ·rw[if_neg (by simpa using bt)];refine ca _ _ _ (Y8 F) ⟨_,_,rfl,fun S aB=>I S (List.mem_filter.1 aB).1,?_,(aL.sublist (List.filter_sublist.map _)),yr,H.drop⟩;rw[O,List.any_filter,Bool.eq_iff_iff,List.any_eq_true,List.any_eq_true];constructor
    ·rintro⟨S,aB,ag⟩;refine⟨S,aB,?_⟩;rw[Bool.and_eq_true];refine⟨?_,ag⟩;rw[bne_iff_ne];intro U;have:S=x:=KL aL S aB x F U;subst this;exact bt (by simpa using ag)
    ·rintro⟨S,aB,ag⟩;rw[Bool.and_eq_true] at ag;exact⟨S,aB,ag.2⟩
theorem aIt{l:Nat}{v:dc}{t:Int}(aU:Fit v)(H:E A (eU l v::m) w):M Pg 219 [.pointer (some ⟨l,0,none⟩),.int .i64 t] (B .i64) w fun r J=>r=(EH v t).2∧E A (eU l (EH v t).1::m) J:=by
 refine ahB ?_;unfold U5;refine cb rfl ?_;obtain⟨q,H⟩:=po H;refine aj (x:=some (⟨q.s,0,none⟩:Addr)) 0 H rfl rfl rfl ?_;refine ap (aEP (t:=t) aU.eY (H.front 1)) ?_;rintro r w ⟨rfl,H⟩;refine ap (Ig H) ?_;rintro r w ⟨rfl,H⟩;exact⟨rfl,kf (v:={ v with W:=sg v.W t }) (p:=q) (H.front 1)⟩
theorem aIx{l:Nat}{v:dc}{t:Int}(aU:Fit v)(H:E A (eU l v::m) w):M Pg 64 [.pointer (some ⟨l,0,none⟩),.int .i64 t] (bw X (B .i64)) w fun r J=>r.2=xc (rE v.W t)∧E A (row hP 87 2 r.1 (nf v.W t)::eU l v::m) J:=by
 refine aiP ?_;unfold Wg;refine cb rfl ?_;obtain⟨q,H⟩:=po H;refine aj (x:=some (⟨q.s,0,none⟩:Addr)) 0 H rfl rfl rfl ?_;refine ap (aHb (t:=t) aU.eY (H.front 1)) ?_;rintro⟨gN,bv⟩ w ⟨ab,H⟩;simp only at ab H;subst ab;refine ap (Ig H) ?_;rintro r w ⟨rfl,H⟩;exact⟨rfl,(kf (p:=q) (H.ord [2,1,3,4,5])).front 1⟩
theorem u0{l:Nat}{v:dc}{id:Int}(H:E A (eU l v::m) w):M Pg 10 [.pointer (some ⟨l,0,none⟩),.int .i64 id] (bw (B .i64) (B .i64)) w fun r J=>r=((ff v id).h9,(ff v id).gQ)∧E A (eU l v::m) J:=by
 refine af4 ?_;unfold Ts;refine cb rfl ?_;obtain⟨q,H⟩:=po H;refine aj (x:=some q.jH) 0 H rfl rfl rfl ?_;refine mc 4 H rfl rfl ?_;refine bP H fun e9 w H=>?_;show bd lD _ (ff v id) _ _
 refine c5 (x:=nQ) (S:=ff v id) Hr 0 H rfl fun w H=>?_;refine dp H fun w H=>?_;refine aj (x:=(ff v id).h9) 0 H rfl rfl rfl ?_;refine aj (x:=(ff v id).gQ) 0 H rfl rfl rfl ?_;exact⟨rfl,kf (p:=q) H.drop⟩
theorem aH7{l:Nat}{v:dc}(H:E A (eU l v::m) w):M Pg 21 [.pointer (some ⟨l,0,none⟩)] (B .i64) w fun r J=>r=v.fD∧E A (eU l v::m) J:=by
 refine U6 ?_;unfold MM;refine cb rfl ?_;obtain⟨q,H⟩:=po H;refine aj (x:=v.fD) 0 H rfl rfl rfl ?_;exact⟨rfl,kf (p:=q) H⟩
theorem Pq{l:Nat}{v:dc}{p:A9}(aU:Fit v)(H:E A (aH l (hv.cells (pp v p)) 72::c_ la .i64 p.g9 v.held::m) w):M Pg 23 [.pointer (some ⟨l,0,none⟩)] X w fun r J=>E A (row la 135 6 r (gp v)::aH l (hv.cells (pp v p)) 72::c_ la .i64 p.g9 v.held::m) J:=by
 refine ahQ ?_;unfold Vf;refine cb rfl ?_;refine aj (x:=some p.g9) 0 H rfl rfl rfl ?_;refine aiL ?_;unfold Wd;refine bP H fun eQ w H=>?_;have G3:∀ j∈v.held,-9223372036854775808≤j.1∧j.1≤9223372036854775807:=fun j he=>by have:=apc aU j he; omega
 have g3:=ZP aU;refine ap (aHj G3 (by omega) (H.ord [0,2])) ?_;rintro s w ⟨fy,aE,H⟩;have a8:(fy.mergeSort fun x S=>decide (x≤S))=oH (v.held.map (·.1)):=Sq aE;rw[a8] at H;have aG:=gr H;have apo:gp v=(oH (v.held.map (·.1))).map (o7 v):=rfl;rw[apo];have wD:(oH (v.held.map (·.1))).length≤5000:=by rw[(oa _).length_eq,List.length_map]; omega
 generalize oH (v.held.map (·.1))=q at *;have H:=kN la 135 6 H;refine vo (fun x w=>0≤x.2∧x.2≤q.length∧E A (row la 135 6 x.1 ((q.take x.2.toNat).map (o7 v))::row (B .i64) 3 1 s q::aH eQ [.map (some p.g9)] 68::c_ la .i64 p.g9 v.held::aH l (hv.cells (pp v p)) 72::m) w) (fun x=>(q.length-x.2).toNat)
  ⟨Int.le_refl 0,by simp only; omega,H⟩ ?_
 rintro⟨out,i⟩ w ⟨ah,I,H⟩;simp only at ah I;simp only;unfold MS;rw[aG];split
 ·rename_i hx;have hx:i<q.length:=by simpa using hx
  have aR:IntKind.i64.wrap (i+1)=i+1:=wrap_i64 (by omega) (by omega);have F:q[i.toNat]?=some q[i.toNat]:=List.getElem?_eq_getElem (by omega);have iG:(q.take (i+1).toNat).map (o7 v)=(q.take i.toNat).map (o7 v)++[o7 v q[i.toNat]]:=by
   rw[show (i+1).toNat=i.toNat+1 from by omega,List.take_succ_eq_append_getElem (by omega),List.map_append]; rfl
  obtain⟨a,Y⟩:=kM (ar:=1) (i:=i) (H.front 1) ah hx;refine aP a Y ?_;refine aP q[i.toNat] (mj (fun _=>rfl) Y F (H.front 1)) ?_;generalize q[i.toNat]=k at *;refine aj (x:=some p.g9) 4 H rfl rfl rfl ?_;refine mc 3 H rfl rfl ?_;show l6 _ la 6 48 _ [o7 v k] _ _
  refine nu (fun _=>rfl) 0 H rfl (by simp only[List.length_map,List.length_take,List.length_singleton]; omega) fun s2 bV H=>?_;rw[aR];refine⟨⟨by simp only; omega,by simp only; omega,?_⟩,by simp only; omega⟩;simp only;rw[iG];exact H
 ·rename_i hx;have hx:i=q.length:=by simp at hx; omega
  subst hx;have j:q.take ((q.length:Int)).toNat=q:=by simp
  rw[j] at H;have H:=((H.front 1).drop.front 1).drop;exact H.ord [0,2,1]
theorem ZQ{l:Nat}{v:dc}(aU:Fit v)(H:E A (eU l v::m) w):M Pg 23 [.pointer (some ⟨l,0,none⟩)] X w fun r J=>E A (row la 135 6 r (gp v)::eU l v::m) J:=by
 obtain⟨p,H⟩:=po H;refine ap (Pq (p:=p) aU (H.ord [0,2])) ?_;intro r w H;exact (kf (p:=p) (H.ord [1,3,2,4,5])).front 1
end
end Vault
namespace Shard
open bf Wire
abbrev dO:=jN
abbrev sE:=fN
structure nO(x:dO):Prop where
 k:-9223372036854775808≤x.Kind∧x.Kind≤9223372036854775807
 t:-9223372036854775808≤x.b5∧x.b5≤9223372036854775807
 i:-9223372036854775808≤x.aC∧x.aC≤9223372036854775807
 a:-9223372036854775808≤x.cd∧x.cd≤9223372036854775807
 n:-9223372036854775808≤x.b∧x.b≤9223372036854775807
def flag(l:Bool):Int:=if l=true then 1 else 0
def mK(x:dO):List fc:=[⟨1,IntKind.u64.wrap x.Kind,0,0,[]⟩,⟨2,0,x.b5,0,[]⟩,⟨2,0,x.aC,0,[]⟩,⟨2,0,x.cd,0,[]⟩,⟨2,0,x.b,0,[]⟩,⟨1,flag x.ib,0,0,[]⟩]
def jd(x:dO):List UInt8:=hW (mK x)
theorem Y3{u:Int}(ah:0≤u)(I:u<18446744073709551616):In ⟨1,u,0,0,[]⟩∧jW ⟨1,u,0,0,[]⟩=0:=⟨⟨by simp,by simp,ah,I,by simp,by simp,by simp⟩,by simp[jW,sf]⟩
theorem wv{u:Int}(ah:-9223372036854775808≤u)(I:u≤9223372036854775807):In ⟨2,0,u,0,[]⟩∧jW ⟨2,0,u,0,[]⟩=0:=⟨⟨by simp,by simp,by simp,by simp,ah,I,by simp⟩,by simp[jW,sf]⟩
theorem JC{x:dO}(h:nO x):nn (mK x):=by
 have ah:=Y3 (u:=IntKind.u64.wrap x.Kind) (by rw[lw]; omega) (by rw[lw]; omega);have I:=wv h.t.1 h.t.2;have O:=wv h.i.1 h.i.2;have aJ:=wv h.a.1 h.a.2;have bl:=wv h.n.1 h.n.2;have dq:=Y3 (u:=flag x.ib) (by unfold flag; split<;>omega) (by unfold flag; split<;>omega);have all:∀ v∈mK x,In v∧jW v=0:=by
  intro v aK;unfold mK at aK;simp only[List.mem_cons,List.mem_nil_iff,or_false] at aK;rcases aK with rfl | rfl | rfl | rfl | rfl | rfl
  ·exact ah
  ·exact I
  ·exact O
  ·exact aJ
  ·exact bl
  ·exact dq
 exact⟨fun v aK=>(all v aK).1,fun v aK=>(all v aK).2⟩
theorem akY(x:dO):(mK x).map nR=mK x:=by simp[mK,nR,zI]
theorem aIe{x:dO}(h:nO x):jL (jd x)=(mK x,0,0):=by
 unfold jd;rw[afe (JC h) (by simp[mK]),akY]
theorem ams{x:dO}(h:nO x):(jd x).length≤6066:=by
 have:=Oy (JC h).qb (JC h).ok;simpa[jd,mK] using this
def qh(k:Int):Prop:=1≤k∧k≤6
instance (k:Int):Decidable (qh k):=by unfold qh; infer_instance
def As(a l c d j f:fc):Option dO:=
 if a.Kind=1∧f.Kind=1∧a.c6≤6∧f.c6≤1∧l.Kind=2∧c.Kind=2∧d.Kind=2∧j.Kind=2∧1≤a.c6 then some ⟨a.c6,l.aW,c.aW,d.aW,j.aW,f.c6==1⟩ else none
def HD:List fc→Option dO
 |[a,l,c,d,j,f]=>As a l c d j f
 |_=>none
def uY(av:List UInt8):Option dO:=if (jL av).2.2=0 then HD (jL av).1 else none
theorem al7{x:dO}(h:nO x)(aq:qh x.Kind):uY (jd x)=some x:=by
 unfold uY;rw[aIe h];have j:IntKind.u64.wrap x.Kind=x.Kind:=by have:=aq.1; have:=aq.2; rw[lw]; omega
 have ma:=aq.1;have jp:=aq.2;have am:(flag x.ib==1)=x.ib:=by unfold flag; cases x.ib<;>rfl
 have ye:flag x.ib≤1:=by unfold flag; split<;>omega
 simp only[mK,HD,As,j,if_true];rw[if_pos ⟨trivial,trivial,jp,ye,trivial,trivial,trivial,trivial,ma⟩,am]
theorem afo{v:fc}(h:jW v=0)(aq:v.Kind=1):v=⟨1,v.c6,0,0,[]⟩:=by
 rcases HI h with ⟨_,I,O,aJ⟩ | ⟨I,_⟩ | ⟨I,_⟩ | ⟨I,_⟩
 ·cases v; simp_all
 ·omega
 ·omega
 ·omega
theorem LQ{v:fc}(h:jW v=0)(aq:v.Kind=2):v=⟨2,0,v.aW,0,[]⟩:=by
 rcases HI h with ⟨I,_⟩ | ⟨_,I,O,aJ⟩ | ⟨I,_⟩ | ⟨I,_⟩
 ·omega
 ·cases v; simp_all
 ·omega
 ·omega
theorem X_{av:List UInt8}{x:dO}(h:uY av=some x):nO x∧qh x.Kind∧av=jd x:=by
 unfold uY at h;split at h
 ·rename_i he;obtain⟨aU,U,ao,_⟩:=aff he rfl;generalize (jL av).1=y at *
  match y,h with
  |[a,l,c,d,j,f],h=>
   simp only[HD,As] at h;split at h
   ·rename_i aq;obtain⟨dn,dY,gM,jG,nZ,jT,s4,yv,rp⟩:=aq;cases h;have Ov:=afo (aU.ok a (by simp)) dn;have Gp:=LQ (aU.ok l (by simp)) nZ;have Gq:=LQ (aU.ok c (by simp)) jT;have Bn:=LQ (aU.ok d (by simp)) s4;have DE:=LQ (aU.ok j (by simp)) yv;have Jr:=afo (aU.ok f (by simp)) dY;have Hg:=aU.qb l (by simp);have aat:=aU.qb c (by simp);have aau:=aU.qb d (by simp);have aav:=aU.qb j (by simp);have aBf:=aU.qb f (by simp);have am:flag (f.c6==1)=f.c6:=by
     unfold flag;have:=aBf.Ih;by_cases bt:f.c6=1
     ·rw[if_pos (by simp[bt]),bt]
     ·rw[if_neg (by simpa using bt)]; omega
    have hw:IntKind.u64.wrap a.c6=a.c6:=by rw[lw]; omega
    refine⟨⟨by simp only; omega,⟨Hg.i0,Hg.i1⟩,⟨aat.i0,aat.i1⟩,⟨aau.i0,aau.i1⟩,⟨aav.i0,aav.i1⟩⟩,⟨rp,gM⟩,?_⟩;rw[ao];unfold jd mK;simp only[hw,am];rw[← Ov,← Gp,← Gq,← Bn,← DE,← Jr]
   ·cases h
 ·cases h
section
variable {A w:World} {m bT:List bC}
theorem pS:∀ x,(gj.cells x).length=5:=fun _=>rfl
theorem aCc{x:dO}(F:nO x)(H:E A m w):M Pg 114 [sE.enc x] X w fun r J=>E A (row (B .u8) 5 1 r (aT (jd x))::m) J:=by
 refine af8 ?_;unfold TF;refine bP H fun eb w H=>?_;refine aj (x:=x.ib) 0 H rfl rfl rfl ?_;have g4:∀ (p:Int) (w:World),p=flag x.ib→E A (aH eb (sE.cells x) 142::m) w→E9 ⟨eb,0,none⟩ p w fun r J=>E A (row (B .u8) 5 1 r (aT (jd x))::m) J:=by
  intro p w aE H;subst aE;unfold E9;refine aj (x:=x.Kind) 0 H rfl rfl rfl ?_;refine vq H fun Gb w H=>?_;have H:=us (ar:=5) (y:=1) rfl H;refine aj (x:=x.b5) 1 H rfl rfl rfl ?_;refine aj (x:=x.aC) 1 H rfl rfl rfl ?_;refine aj (x:=x.cd) 1 H rfl rfl rfl ?_;refine aj (x:=x.b) 1 H rfl rfl rfl ?_;refine vq H fun I_ w H=>?_;have H:=us (ar:=1) (y:=4) rfl H;refine hY (fun s w=>∃ k:Nat,s.2=(k:Int)∧k≤4∧E A (row gj 197 5 s.1 ((mK x).take (k+1))::row (B .i64) 2 1 ⟨some ⟨I_,0,none⟩,4,4⟩ [x.b5,x.aC,x.cd,x.b]::m) w) (fun s=>(4-s.2).toNat) ⟨0,rfl,by omega,((H.front 2).drop).front 1⟩ ?_;clear H;rintro⟨s,t⟩ w ⟨k,aq,BI,H⟩ aa ca;simp only at aq H;subst aq;unfold Mf;simp only;split
  ·rename_i U;have U:k<4:=by
    have:(k:Int)<4:=by simpa using U
    omega
   have aR:IntKind.i64.wrap ((k:Int)+1)=((k+1:Nat):Int):=by rw[wrap_i64 (by omega) (by omega)]; omega
   obtain⟨i_,Y⟩:=kM (i:=(k:Int)) (H.front 1) (by omega) (by simp; omega);refine aP i_ Y ?_;have step:∀ (n:Int),[x.b5,x.aC,x.cd,x.b][k]?=some n→(mK x).take (k+1+1)=(mK x).take (k+1)++[⟨2,0,n,0,[]⟩]:=by
    intro n aL;have dq:k+1<(mK x).length:=by simp[mK]; omega
    rw[List.take_succ_eq_append_getElem dq];congr 2
    match k,U with
    |0,_=>simp at aL; subst aL; rfl
    |1,_=>simp at aL; subst aL; rfl
    |2,_=>simp at aL; subst aL; rfl
    |3,_=>simp at aL; subst aL; rfl
   have F:[x.b5,x.aC,x.cd,x.b][((k:Int)).toNat]?=some ([x.b5,x.aC,x.cd,x.b][k]'(by simp; omega)):=List.getElem?_eq_getElem (by simp; omega);have aG:=step _ F;generalize [x.b5,x.aC,x.cd,x.b][k]'(by simp; omega)=n at F aG;refine aP n (mj (fun _=>rfl) Y F (H.front 1)) ?_;refine nu pS 0 H rfl (by simp; omega) fun r w H=>?_;rw[aR];refine ca _ _ ⟨k+1,rfl,by omega,?_⟩ (by simp only; omega);simp only;rw[aG];exact H
  ·rename_i U;have U:k=4:=by simp at U; omega
   subst U;refine nu pS 0 H rfl (by simp; omega) fun r w H=>?_;have j:(mK x).take (4+1)++[⟨1,flag x.ib,0,0,[]⟩]=mK x:=rfl;rw[j] at H;have aU:=JC F;refine ap (K6 aU.qb (by simp[mK]) (di.row (fun _=>rfl) 0 rfl) H) ?_;rintro r w ⟨_,O,_,_⟩;have aE:yT (mK x)=0:=by
    unfold yT;rw[if_neg (by simp[mK])];exact N_ aU.ok
   have H:=O aE;exact ((H.front 2).drop.front 1).drop
 cases aE:x.ib with
 |true=>rw[if_pos rfl]; exact g4 1 w (by rw[aE]; rfl) H
 |false=>rw[if_neg (by simp)]; exact g4 0 w (by rw[aE]; rfl) H
def xA:dO:=⟨0,0,0,0,0,false⟩
def Ya(G:Option dO):dO×Bool:=match G with
 |some x=>(x,true)
 |none=>(xA,false)
theorem abd{k:Int}(H:E A m w):M Pg 113 [.int .i64 k] bk w fun r J=>r=decide (qh k)∧E A m J:=by
 refine af7 ?_;unfold TE;refine⟨?_,H⟩;rw[Bool.eq_iff_iff,decide_eq_true_eq];unfold qh;simp
theorem al8{s:af}{av:List UInt8}(l_:s.len≤s.cap)(aL:av.length≤9223372036854775806)(k:di 1 m (B .u8) s (aT av))(H:E A m w) :
  M Pg 141 [X.enc s] (bw sE bk) w fun r J=>r=Ya (uY av)∧E A m J:=by
 refine agB ?_;unfold Mq;refine bP H fun eb w H=>?_;refine ap (afg l_ aL k.tail H) ?_;rintro⟨q,p,j⟩ w ⟨_,he,H⟩;simp only at he H;subst he;have al:=gr H;have aJU:=EL H;have H:=vD H;have aq0:(jL av).2.2=0→nn (jL av).1:=fun h=>(aff h rfl).1;have rh:uY av=if (jL av).2.2=0 then HD (jL av).1 else none:=rfl
 generalize (jL av).2.2=j at *;generalize (jL av).1=y at *;have no:∀ (G:Option dO) (w:World),G=none→E A (ro gj q y::aH eb (sE.cells xA) 142::m) w→bd sE ⟨eb,0,none⟩ xA w fun db=>ex (L sE ⟨eb,0,none⟩ db) fun fu=>(fu,false)=Ya G∧E A m db:=by
  intro G w ai H;subst ai;refine c5 (x:=xA) (S:=xA) Ee 1 H rfl fun w H=>?_;refine eh (x:=xA) 0 H rfl ?_;exact⟨rfl,H.drop.drop⟩
 simp only;by_cases c:j=0∧y.length=6
 ·obtain⟨bt,bI⟩:=c;have aU:=aq0 bt;rw[if_pos bt] at rh
  match y,bI with
  |[a,l,c,d,f,g],_=>
   simp only[List.length_cons,List.length_nil] at al;have pa:b6 (ro gj q [a,l,c,d,f,g]::aH eb (sE.cells xA) 142::m) (c3 gj q [a,l,c,d,f,g]):=b6.here (y:=c3.mono);obtain⟨nt,ah⟩:=pa.iw (ar:=5) (i:=0) H (by omega) (by simp);obtain⟨b1,dq⟩:=pa.iw (ar:=5) (i:=5) H (by omega) (by simp);refine aP nt (fun _=>ah) ?_;refine aP a.Kind (fun _=>pa.m2 (c6:=B .i64) pS ah rfl rfl H) ?_;refine aP b1 (fun _=>dq) ?_;refine aP g.Kind (fun _=>pa.m2 (c6:=B .i64) pS dq rfl rfl H) ?_;refine aP nt (fun _=>ah) ?_;refine aP a.c6 (fun _=>pa.m2 (c6:=B .u64) pS ah rfl rfl H) ?_;refine aP b1 (fun _=>dq) ?_;refine aP g.c6 (fun _=>pa.m2 (c6:=B .u64) pS dq rfl rfl H) ?_;have rh:uY av=As a l c d f g:=rh;by_cases cc:a.Kind=1∧g.Kind=1∧a.c6≤6∧g.c6≤1
   ·rw[if_neg (by simp[bt,al,cc])];refine ob (by omega) (by omega) (by omega) (by omega) fun uu Zo=>?_;have fy:=pa.sub pS Zo (by simp);have es:(([a,l,c,d,f,g]:List fc).take (5:Int).toNat).drop (1:Int).toNat=[l,c,d,f]:=rfl;rw[es] at fy;have PP:uu.len=4:=(H_ Zo).1;have aoX:∀ (k:Nat) (v:fc),[l,c,d,f][k]?=some v→v.Kind≠2→uY av=none:=by
     intro k v aK dT;rw[rh];unfold As;rw[if_neg];rintro⟨_,_,_,_,gF,gd,Ak,Ry,_⟩
     match k,aK with
     |0,aK=>simp at aK; subst aK; exact dT gF
     |1,aK=>simp at aK; subst aK; exact dT gd
     |2,aK=>simp at aK; subst aK; exact dT Ak
     |3,aK=>simp at aK; subst aK; exact dT Ry
     |k+4,aK=>simp at aK
    refine hY (fun t w=>∃ k:Nat,t=(k:Int)∧k≤4∧(∀ (D:Nat) (v:fc),D<k→[l,c,d,f][D]?=some v→v.Kind=2)∧E A (ro gj q [a,l,c,d,f,g]::aH eb (sE.cells xA) 142::m) w) (fun t=>(4-t).toNat) ⟨0,rfl,by omega,fun D v bR=>by omega,H⟩ ?_;clear H;rintro t w ⟨k,rfl,BI,tS,H⟩ aa ca;unfold Mr;rw[PP];split
    ·rename_i U;have U:k<4:=by
      have:(k:Int)<4:=by simpa using U
      omega
     have aR:IntKind.i64.wrap ((k:Int)+1)=((k+1:Nat):Int):=by rw[wrap_i64 (by omega) (by omega)]; omega
     obtain⟨py,Zp⟩:=fy.iw (ar:=5) (i:=(k:Int)) H (by omega) (by simp; omega);have F:[l,c,d,f][((k:Int)).toNat]?=some ([l,c,d,f][k]'(by simp; omega)):=List.getElem?_eq_getElem (by simp; omega);generalize [l,c,d,f][k]'(by simp; omega)=v at F;refine aP py Zp ?_;refine aP v (fy.rd pS Zp F H) ?_;refine bP H fun aJz w H=>?_;refine c5 (x:=tD) (S:=v) abu 0 H rfl fun w H=>?_;refine aj (x:=v.Kind) 0 H rfl rfl rfl ?_;by_cases fe:v.Kind=2
     ·rw[if_neg (by simp[fe]),aR];refine ca _ _ ⟨k+1,rfl,by omega,fun D u bR hu=>?_,H.drop⟩ (by omega);by_cases jl:D=k
      ·subst jl;rw[Int.toNat_natCast] at F;rw[F] at hu;cases hu;exact fe
      ·exact tS D u (by omega) hu
     ·rw[if_pos (by simpa using fe)];rw[Int.toNat_natCast] at F;rw[aoX k v F fe];exact no none w rfl H.drop
    ·rename_i U;have U:k=4:=by simp at U; omega
     subst U;refine aP nt ah ?_;refine aP a.c6 (pa.m2 (c6:=B .u64) pS ah rfl rfl H) ?_;have aAB:=aU.qb a (by simp);have aak:=aAB.Ih;have ws:IntKind.i64.wrap a.c6=a.c6:=wrap_i64 (by omega) (by omega);rw[ws];refine ap (abd H) ?_;rintro r w ⟨rfl,H⟩;by_cases fe:qh a.c6
     ·rw[decide_eq_true fe,if_neg (by simp:¬ (!true)=true)];refine dp H fun w H=>?_;obtain⟨lG,I⟩:=pa.iw (ar:=5) (i:=1) H (by omega) (by simp);obtain⟨aY,O⟩:=pa.iw (ar:=5) (i:=2) H (by omega) (by simp);obtain⟨aA,aJ⟩:=pa.iw (ar:=5) (i:=3) H (by omega) (by simp);obtain⟨a6,bl⟩:=pa.iw (ar:=5) (i:=4) H (by omega) (by simp);refine aP nt ah ?_;refine aP lG I ?_;refine aP aY O ?_;refine aP aA aJ ?_;refine aP a6 bl ?_;refine aP b1 dq ?_;refine aP a.c6 (pa.m2 (c6:=B .u64) pS ah rfl rfl H) ?_;refine aP l.aW (pa.m2 (c6:=B .i64) pS I rfl rfl H) ?_;refine aP c.aW (pa.m2 (c6:=B .i64) pS O rfl rfl H) ?_;refine aP d.aW (pa.m2 (c6:=B .i64) pS aJ rfl rfl H) ?_;refine aP f.aW (pa.m2 (c6:=B .i64) pS bl rfl rfl H) ?_;refine aP g.c6 (pa.m2 (c6:=B .u64) pS dq rfl rfl H) ?_;rw[ws];refine c5 (x:=xA) (S:=(⟨a.c6,l.aW,c.aW,d.aW,f.aW,g.c6==1⟩:dO)) Ee 1 H rfl fun w H=>?_
      refine eh (x:=(⟨a.c6,l.aW,c.aW,d.aW,f.aW,g.c6==1⟩:dO)) 0 H rfl ?_;refine⟨?_,H.drop.drop⟩;rw[rh];unfold As;rw[if_pos ⟨cc.1,cc.2.1,cc.2.2.1,cc.2.2.2,tS 0 l (by omega) rfl,tS 1 c (by omega) rfl,tS 2 d (by omega) rfl,tS 3 f (by omega) rfl,fe.1⟩];rfl
     ·rw[decide_eq_false fe,if_pos (by simp:(!false)=true)];refine no _ w ?_ H;rw[rh];unfold As;rw[if_neg];rintro⟨_,_,_,_,_,_,_,_,q⟩;exact fe ⟨q,cc.2.2.1⟩
   ·rw[if_pos (by
     simp only[Bool.or_eq_true,bne_iff_ne,decide_eq_true_eq];apply Classical.byContradiction;intro cD;refine cc ⟨?_,?_,?_,?_⟩
     ·exact Classical.byContradiction fun h=>cD (by simp[h])
     ·exact Classical.byContradiction fun h=>cD (by simp[h])
     ·exact Classical.byContradiction fun h=>cD (.inl (.inr (by omega)))
     ·exact Classical.byContradiction fun h=>cD (.inr (by omega)))]
    refine no _ w ?_ H;rw[rh];unfold As;rw[if_neg];rintro⟨gF,gd,Ak,Ry,_⟩;exact cc ⟨gF,gd,Ak,Ry⟩
 ·have R:((j != (0:Int))||((q.len:Int)!=(6:Int)))=true:=by
   rw[Bool.or_eq_true,bne_iff_ne,bne_iff_ne];by_cases h:j=0
   ·right;intro O;exact c ⟨h,by omega⟩
   ·exact .inl h
  have z:(⟨0,0,none⟩:Addr)=⟨0,0,none⟩:=rfl;refine aP ⟨0,0,none⟩ (fun h=>absurd h (by simp[R])) ?_;refine aP 0 (fun h=>absurd h (by simp[R])) ?_;refine aP ⟨0,0,none⟩ (fun h=>absurd h (by simp[R])) ?_;refine aP 0 (fun h=>absurd h (by simp[R])) ?_;refine aP ⟨0,0,none⟩ (fun h=>absurd h (by simp[R])) ?_;refine aP 0 (fun h=>absurd h (by simp[R])) ?_;refine aP ⟨0,0,none⟩ (fun h=>absurd h (by simp[R])) ?_;refine aP 0 (fun h=>absurd h (by simp[R])) ?_;rw[if_pos (by simp[R])];refine no _ w ?_ H;rw[rh];by_cases h:j=0
  ·rw[if_pos h];unfold HD;split
   ·exact absurd ⟨h,rfl⟩ c
   ·rfl
  ·rw[if_neg h]
end
end Shard
namespace Shard
open bf Wire Disk Store Vault Num
def oq(v:dc)(k t id:Int):dc×Int:=if k=3 then xK v t id else if k=4 then xN v id else if k=5 then q5 v t else EH v t
def mW(v:dc)(x:dO):dc×Int:=
 if x.Kind=1 then yQ v x.b5 x.cd x.b else if x.Kind=2 then zW v x.b5 ⟨x.aC,x.cd,x.b,x.ib⟩ else oq v x.Kind x.b5 x.aC
theorem anT{v:dc}(aU:Fit v)(k t id:Int):Fit (oq v k t id).1:=by
 unfold oq;split
 ·exact aU.alQ ..
 ·split
  ·exact aU.drop ..
  ·split
   ·exact aU.close ..
   ·exact aU.Rw ..
theorem Y5{v:dc}(aU:Fit v){x:dO}(h:x.aC≤9223372036854775807):Fit (mW v x).1:=by
 unfold mW;split
 ·exact aU.open ..
 ·split
  ·exact aU.hold h
  ·exact anT aU ..
structure qU where
 V:nr
 v:dc
abbrev ajD:=A2
def kw(s e_ dv:Nat):bC:=aH s (ajD.cells ⟨some ⟨e_,0,none⟩,some ⟨dv,0,none⟩⟩) 150
def H8(s d:Nat)(W:qU):bC:=hX fun p:Nat×Nat=>dA [kw s p.1 p.2,h8 p.1 d W.V,eU p.2 W.v]
section
variable {A w:World} {m bT:List bC}
theorem aeB{s d:Nat}{W:qU}(H:E A (H8 s d W::m) w):∃ e_ dv:Nat,E A (kw s e_ dv::h8 e_ d W.V::eU dv W.v::m) w:=by
 obtain⟨p,H⟩:=H.ex;exact⟨p.1,p.2,H.open_⟩
theorem aeC{s d e_ dv:Nat}{W:qU}(H:E A (kw s e_ dv::h8 e_ d W.V::eU dv W.v::m) w):E A (H8 s d W::m) w:=
 E.mI (e_,dv) (E.shut (bT:=[kw s e_ dv,h8 e_ d W.V,eU dv W.v]) H)
theorem Bh{s e_ dv:Nat}{v:dc}{k:Int}(aU:Fit v)(H:E A (kw s e_ dv::eU dv v::m) w):M Pg 171 [.pointer (some ⟨s,0,none⟩),.int .i64 k] gg w fun r J=>
  ∃ aO aT C:bC,E A (aO::aT::C::kw s e_ dv::eU dv v::m) J∧∀ (cB:World) (t id:Int),E A (aO::aT::C::kw s e_ dv::eU dv v::m) cB →
   sJ Pg r [.int .i64 t,.int .i64 id] (B .i64) cB fun j bm=>j=(oq v k t id).2∧E A (kw s e_ dv::eU dv (oq v k t id).1::m) bm:=by
 refine ag0 ?_;unfold Ux;refine dp H fun w H=>?_;refine cb rfl ?_;refine aj (x:=some ⟨dv,0,none⟩) 0 H rfl rfl rfl ?_;refine aj (x:=some ⟨dv,0,none⟩) 0 H rfl rfl rfl ?_;refine aj (x:=some ⟨dv,0,none⟩) 0 H rfl rfl rfl ?_;generalize aoh:cm.mk (.func 217) (List.toArray [.pointer (some (⟨dv,0,none⟩:Addr))]) (List.toArray [])=zn;generalize aoj:cm.mk (.func 218) (List.toArray [.pointer (some (⟨dv,0,none⟩:Addr))]) (List.toArray [])=FS;generalize aoi:cm.mk (.func 219) (List.toArray [.pointer (some (⟨dv,0,none⟩:Addr))]) (List.toArray [])=zo;have fin:∀ (q0 av q1:Nat) (w:World),E A (aH q0 (gg.cells zn) 107::aH av (gg.cells FS) 143::aH q1 (gg.cells zo) 143::kw s e_ dv::eU dv v::m) w →
   xm (some ⟨s,0,none⟩) k ⟨q0,0,none⟩ ⟨av,0,none⟩ ⟨q1,0,none⟩ w fun r J=>∃ aO aT C:bC,E A (aO::aT::C::kw s e_ dv::eU dv v::m) J∧∀ (cB:World) (t id:Int),E A (aO::aT::C::kw s e_ dv::eU dv v::m) cB →
   sJ Pg r [.int .i64 t,.int .i64 id] (B .i64) cB fun j bm=>j=(oq v k t id).2∧E A (kw s e_ dv::eU dv (oq v k t id).1::m) bm:=by
  intro q0 av q1 w H;unfold xm;by_cases cc:k=3
  ·rw[if_pos (by simpa using cc)];refine cb rfl ?_;refine aj (x:=some ⟨dv,0,none⟩) 3 H rfl rfl rfl ?_;refine⟨_,_,_,H,fun cB t id H=>?_⟩;refine⟨220,[.pointer (some ⟨dv,0,none⟩)],[],rfl,amV,?_⟩;have j:oq v k t id=xK v t id:=by unfold oq; rw[if_pos cc]
   rw[j];refine ap (alS aU (H.front 4)) ?_;rintro r w ⟨rfl,H⟩;exact⟨rfl,(H.ord [1,2,3]).drop.drop.drop.front 1⟩
  ·rw[if_neg (by simpa using cc)];by_cases fe:k=4
   ·rw[if_pos (by simpa using fe)];refine⟨_,_,_,H,fun cB t id H=>?_⟩;refine⟨221,[],[.pointer (some ⟨q0,0,none⟩)],rfl,amW,?_⟩;have j:oq v k t id=xN v id:=by unfold oq; rw[if_neg cc,if_pos fe]
    rw[j];refine ahD ?_;unfold U9;refine eh (x:=zn) 0 H rfl ?_;refine⟨217,[.pointer (some ⟨dv,0,none⟩)],[],aoh.symm,amS,?_⟩;refine ap (amj (H.front 4)) ?_;rintro r w ⟨rfl,H⟩;exact⟨rfl,(H.ord [1,2,3]).drop.drop.drop.front 1⟩
   ·rw[if_neg (by simpa using fe)];by_cases jl:k=5
    ·rw[if_pos (by simpa using jl)];refine⟨_,_,_,H,fun cB t id H=>?_⟩;refine⟨222,[],[.pointer (some ⟨av,0,none⟩)],rfl,amX,?_⟩;have j:oq v k t id=q5 v t:=by unfold oq; rw[if_neg cc,if_neg fe,if_pos jl]
     rw[j];refine ahE ?_;unfold U_;refine eh (x:=FS) 1 H rfl ?_;refine⟨218,[.pointer (some ⟨dv,0,none⟩)],[],aoj.symm,amT,?_⟩;refine ap (aIm (H.front 4)) ?_;rintro r w ⟨rfl,H⟩;exact⟨rfl,(H.ord [1,2,3]).drop.drop.drop.front 1⟩
    ·rw[if_neg (by simpa using jl)];refine⟨_,_,_,H,fun cB t id H=>?_⟩;refine⟨223,[],[.pointer (some ⟨q1,0,none⟩)],rfl,amY,?_⟩;have j:oq v k t id=EH v t:=by unfold oq; rw[if_neg cc,if_neg fe,if_neg jl]
     rw[j];refine ahF ?_;unfold Va;refine eh (x:=zo) 2 H rfl ?_;refine⟨219,[.pointer (some ⟨dv,0,none⟩)],[],aoi.symm,amU,?_⟩;refine ap (aIt aU (H.front 4)) ?_;rintro r w ⟨rfl,H⟩;exact⟨rfl,(H.ord [1,2,3]).drop.drop.drop.front 1⟩
 have pd:∀ x,(gg.cells x).length=1:=fun _=>rfl;refine⟨?_,?_,?_⟩
 ·refine bP H fun q0 w H=>?_;refine⟨?_,?_⟩
  ·refine bP H fun av w H=>?_;refine bP H fun q1 w H=>?_;have H:=H.ord [2,1,0];refine c5 (x:=cm.nil) (S:=zn) pd 0 H rfl fun w H=>?_;refine⟨bM aD (H.front 3) rfl rfl,bM aD (H.front 3) rfl rfl,?_⟩;refine c5 (x:=cm.nil) (S:=FS) pd 1 H rfl fun w H=>?_;refine⟨bM aD (H.front 3) rfl rfl,?_⟩;refine c5 (x:=cm.nil) (S:=zo) pd 2 H rfl fun w H=>?_;exact fin q0 av q1 w (H.ord [2,1,0])
  ·refine bP H fun q1 w H=>?_;refine bP H fun av w H=>?_;have H:=H.ord [2,0,1];refine c5 (x:=cm.nil) (S:=zn) pd 0 H rfl fun w H=>?_;refine⟨bM aD (H.front 3) rfl rfl,bM aD (H.front 3) rfl rfl,?_⟩;refine c5 (x:=cm.nil) (S:=FS) pd 1 H rfl fun w H=>?_;refine⟨bM aD (H.front 3) rfl rfl,?_⟩;refine c5 (x:=cm.nil) (S:=zo) pd 2 H rfl fun w H=>?_;exact fin q0 av q1 w (H.ord [2,1,0])
 ·refine bP H fun av w H=>?_;refine⟨?_,?_⟩
  ·refine bP H fun q0 w H=>?_;refine bP H fun q1 w H=>?_;have H:=H.ord [1,2,0];refine c5 (x:=cm.nil) (S:=zn) pd 0 H rfl fun w H=>?_;refine⟨bM aD (H.front 3) rfl rfl,bM aD (H.front 3) rfl rfl,?_⟩;refine c5 (x:=cm.nil) (S:=FS) pd 1 H rfl fun w H=>?_;refine⟨bM aD (H.front 3) rfl rfl,?_⟩;refine c5 (x:=cm.nil) (S:=zo) pd 2 H rfl fun w H=>?_;exact fin q0 av q1 w (H.ord [2,1,0])
  ·refine bP H fun q1 w H=>?_;refine bP H fun q0 w H=>?_;have H:=H.ord [0,2,1];refine c5 (x:=cm.nil) (S:=zn) pd 0 H rfl fun w H=>?_;refine⟨bM aD (H.front 3) rfl rfl,bM aD (H.front 3) rfl rfl,?_⟩;refine c5 (x:=cm.nil) (S:=FS) pd 1 H rfl fun w H=>?_;refine⟨bM aD (H.front 3) rfl rfl,?_⟩;refine c5 (x:=cm.nil) (S:=zo) pd 2 H rfl fun w H=>?_;exact fin q0 av q1 w (H.ord [2,1,0])
 ·refine bP H fun q1 w H=>?_;refine⟨?_,?_⟩
  ·refine bP H fun q0 w H=>?_;refine bP H fun av w H=>?_;have H:=H.ord [1,0,2];refine c5 (x:=cm.nil) (S:=zn) pd 0 H rfl fun w H=>?_;refine⟨bM aD (H.front 3) rfl rfl,bM aD (H.front 3) rfl rfl,?_⟩;refine c5 (x:=cm.nil) (S:=FS) pd 1 H rfl fun w H=>?_;refine⟨bM aD (H.front 3) rfl rfl,?_⟩;refine c5 (x:=cm.nil) (S:=zo) pd 2 H rfl fun w H=>?_;exact fin q0 av q1 w (H.ord [2,1,0])
  ·refine bP H fun av w H=>?_;refine bP H fun q0 w H=>?_;have H:=H.ord [0,1,2];refine c5 (x:=cm.nil) (S:=zn) pd 0 H rfl fun w H=>?_;refine⟨bM aD (H.front 3) rfl rfl,bM aD (H.front 3) rfl rfl,?_⟩;refine c5 (x:=cm.nil) (S:=FS) pd 1 H rfl fun w H=>?_;refine⟨bM aD (H.front 3) rfl rfl,?_⟩;refine c5 (x:=cm.nil) (S:=zo) pd 2 H rfl fun w H=>?_;exact fin q0 av q1 w (H.ord [2,1,0])
theorem Ym{s e_ dv:Nat}{v:dc}{x:dO}(aU:Fit v)(H:E A (kw s e_ dv::eU dv v::m) w):M Pg 115 [.pointer (some ⟨s,0,none⟩),sE.enc x] (B .i64) w fun r J=>r=(mW v x).2∧E A (kw s e_ dv::eU dv (mW v x).1::m) J:=by
 refine af9 ?_;unfold TG mW;refine bP H fun iC w H=>?_;refine aj (x:=x.Kind) 0 H rfl rfl rfl ?_;by_cases bt:x.Kind=1
 ·rw[if_pos (by simpa using bt),if_pos bt];refine dp H fun w H=>?_;refine cb rfl ?_;refine aj (x:=some ⟨dv,0,none⟩) 1 H rfl rfl rfl ?_;refine aj (x:=x.b5) 0 H rfl rfl rfl ?_;refine aj (x:=x.cd) 0 H rfl rfl rfl ?_;refine aj (x:=x.b) 0 H rfl rfl rfl ?_;refine ap (aIp aU (H.front 2)) ?_;rintro r w ⟨rfl,H⟩;exact⟨rfl,(H.front 1).drop.front 1⟩
 ·rw[if_neg (by simpa using bt),if_neg bt];by_cases bI:x.Kind=2
  ·rw[if_pos (by simpa using bI),if_pos bI];refine dp H fun w H=>?_;refine cb rfl ?_;refine aj (x:=some ⟨dv,0,none⟩) 1 H rfl rfl rfl ?_;refine aj (x:=x.b5) 0 H rfl rfl rfl ?_;refine aj (x:=x.aC) 0 H rfl rfl rfl ?_;refine aj (x:=x.cd) 0 H rfl rfl rfl ?_;refine aj (x:=x.b) 0 H rfl rfl rfl ?_;refine aj (x:=x.ib) 0 H rfl rfl rfl ?_;refine ap (aIn (p:=⟨x.aC,x.cd,x.b,x.ib⟩) aU (H.front 2)) ?_;rintro r w ⟨rfl,H⟩;have H:=H.front 1;refine⟨bM (B .i64) H rfl rfl,bM (B .i64) H rfl rfl,bM (B .i64) H rfl rfl,bM bk H rfl rfl,?_⟩;exact⟨rfl,H.drop.front 1⟩
  ·rw[if_neg (by simpa using bI),if_neg bI];refine dp H fun w H=>?_;refine aj (x:=x.Kind) 0 H rfl rfl rfl ?_;refine aj (x:=x.b5) 0 H rfl rfl rfl ?_;refine aj (x:=x.aC) 0 H rfl rfl rfl ?_;refine ap (Bh (k:=x.Kind) aU (H.ord [1,2])) ?_;rintro r w ⟨aO,aT,C,H,U⟩;refine⟨bM (B .i64) (H.front 5) rfl rfl,bM (B .i64) (H.front 5) rfl rfl,?_⟩;refine Of (U w x.b5 x.aC H) ?_;rintro j w ⟨rfl,H⟩;have H:=H.front 2;refine⟨bM (B .i64) H rfl rfl,?_⟩;exact⟨rfl,H.drop⟩
def fP(K:cR)(W:qU)(x:dO):cR×qU×Int:=
 if qh x.Kind then
  if (gm K W.V (jd x)).2.2=0 then ((gm K W.V (jd x)).1,⟨(gm K W.V (jd x)).2.1,(mW W.v x).1⟩,(mW W.v x).2)
  else ((gm K W.V (jd x)).1,⟨(gm K W.V (jd x)).2.1,W.v⟩,(gm K W.V (jd x)).2.2)
 else (K,W,192)
theorem DA{s d e_ dv:Nat}{K:cR}{W:qU}{x:dO}(dr:K.hD)(aU:Fit W.v)(F:nO x)(H:E A (kw s e_ dv::h8 e_ d W.V::eU dv W.v::ez d K::m) w) :
  M Pg 62 [.pointer (some ⟨s,0,none⟩),sE.enc x] (B .i64) w fun r J=>r=(fP K W x).2.2∧E A (kw s e_ dv::h8 e_ d (fP K W x).2.1.V::eU dv (fP K W x).2.1.v::ez d (fP K W x).1::m) J:=by
 refine aiN ?_;unfold We fP;refine bP H fun iC w H=>?_;refine aj (x:=x.Kind) 0 H rfl rfl rfl ?_;refine ap (abd H) ?_;rintro r w ⟨rfl,H⟩;by_cases c:qh x.Kind
 ·rw[decide_eq_true c,if_neg (by simp:¬ (!true)=true),if_pos c];refine dp H fun w H=>?_;refine cb rfl ?_;have H:=H.ord [1,2,3];refine aj (x:=some ⟨e_,0,none⟩) 0 H rfl rfl rfl ?_;refine eh (x:=x) 3 H rfl ?_;refine ap (aCc F H) ?_;intro r w H;refine⟨bM aD (H.front 1) rfl rfl,?_⟩;refine ap (N0 (x:=jd x) dr (by have:=ams F; omega) (di.row (fun _=>rfl) 0 rfl) (H.ord [2,5])) ?_;rintro j w ⟨rfl,H⟩;have H:=(H.front 2).drop;generalize gm K W.V (jd x)=q at *;refine⟨bM sE (H.front 4) rfl (tF _),?_⟩;by_cases bI:q.2.2=0
  ·rw[if_neg (by simp[bI]),if_pos bI];refine eh (x:=x) 4 H rfl ?_;refine ap (Ym aU (H.ord [2,3])) ?_;rintro j w ⟨rfl,H⟩;exact⟨rfl,((H.ord [4,0,2,1]).drop)⟩
  ·rw[if_pos (by simpa using bI),if_neg bI];exact⟨rfl,((H.ord [4,2,0,3]).drop)⟩
 ·rw[decide_eq_false c,if_pos (by simp:(!false)=true),if_neg c];exact⟨rfl,H.drop⟩
theorem Jp{s d:Nat}{K:cR}{W:qU}{x:dO}(dr:K.hD)(aU:Fit W.v)(F:nO x)(H:E A (H8 s d W::ez d K::m) w) :
  M Pg 62 [.pointer (some ⟨s,0,none⟩),sE.enc x] (B .i64) w fun r J=>r=(fP K W x).2.2∧E A (H8 s d (fP K W x).2.1::ez d (fP K W x).1::m) J:=by
 obtain⟨e_,dv,H⟩:=aeB H;refine ap (DA dr aU F H) ?_;rintro r w ⟨h,H⟩;exact⟨h,aeC (W:=(fP K W x).2.1) H⟩
theorem y8{s e_ dv:Nat}(H:E A (kw s e_ dv::m) w):M Pg 30 [.pointer (some ⟨s,0,none⟩)] aD w fun r J=>r=some ⟨dv,0,none⟩∧E A (kw s e_ dv::m) J:=by
 refine aif ?_;unfold VK;refine cb rfl ?_;refine aj (x:=some ⟨dv,0,none⟩) 0 H rfl rfl rfl ?_;exact⟨rfl,H⟩
def qn(v:dc)(xs:List dO):dc:=xs.foldl (fun v x=>(mW v x).1) v
theorem acE(v:dc)(xs:List dO)(x:dO):qn v (xs++[x])=(mW (qn v xs) x).1:=by unfold qn; rw[List.foldl_append]; rfl
def ux(f:Nat):dc:=⟨f,⟨[],0,0⟩,0,[],[],[]⟩
theorem Y6{xs:List dO}:∀ {v:dc},Fit v→(∀ x∈xs,x.aC≤9223372036854775807)→Fit (qn v xs):=by
 induction xs with
 |nil=>exact fun aU _=>aU
 |cons x xs ck=>exact fun aU h=>ck (Y5 aU (h x (List.mem_cons_self ..))) fun S aB=>h S (List.mem_cons_of_mem _ aB)
def sL:List (List UInt8)→Option (List dO)
 |[]=>some []
 |l::av=>match uY l with
  |none=>none
  |some x=>(sL av).map (x::·)
theorem Yc:∀ {xs:List dO},(∀ x∈xs,nO x∧qh x.Kind)→sL (xs.map jd)=some xs
 |[],_=>rfl
 |x::xs,h=>by
  have I:=h x (List.mem_cons_self ..);simp only[List.map_cons,sL,al7 I.1 I.2,Yc fun S aB=>h S (List.mem_cons_of_mem _ aB),Option.map_some]
theorem Oj:∀ {N:List (List UInt8)} {xs:List dO},sL N=some xs→xs.length=N.length
 |[],xs,h=>by simp[sL] at h; subst h; rfl
 |l::N,xs,h=>by
  simp only[sL] at h;split at h
  ·cases h
  ·obtain⟨gJ,aB,rfl⟩:=Option.map_eq_some_iff.1 h;have:=Oj aB;simp[this]
theorem Yb:∀ {N:List (List UInt8)} {xs:List dO} {k:Nat} {l:List UInt8} {x:dO},sL N=some xs→N[k]?=some l→xs[k]?=some x→uY l=some x
 |[],_,_,_,_,_,ao,_=>by simp at ao
 |Xv::N,xs,k,l,x,h,ao,F=>by
  simp only[sL] at h;split at h
  ·cases h
  ·rename_i bF ah;obtain⟨gJ,aB,rfl⟩:=Option.map_eq_some_iff.1 h;cases k with
   |zero=>simp at ao F; subst ao; subst F; exact ah
   |succ k=>exact Yb aB (by simpa using ao) (by simpa using F)
theorem aev(av:List UInt8):Small (scan av).1:=by
 have key:∀ (f:Nat) (av:List UInt8) (m:List (List UInt8)) (a:Nat),Small m→Small (qz f av m a).1:=by
  intro f;induction f with
  |zero=>intro av m a h; simpa[qz] using h
  |succ f ck=>
   intro av m a h;simp only[qz];cases ai:nD av with
   |error j=>simpa using h
   |ok p=>
    obtain⟨x,n⟩:=p;refine ck _ _ _ fun S aB=>?_;rcases List.mem_append.1 aB with aB | aB
    ·exact h S aB
    ·rw[List.mem_singleton.1 aB]; exact (K2 ai).2.2.2
 exact key _ _ _ _ fun S aB=>by cases aB
theorem Rm{d f:Nat}{K:cR}{n:Int}{g:dW}{xs:List dO}(dr:K.hD)(ab:ju f)(ah:0≤n)(DX:K.down=false)(R:K.cS[n.toNat]?=some g)(F:sL (scan g.l).1=some xs)(H:E A (ez d K::m) w) :
  M Pg 90 [.pointer (some ⟨d,0,none⟩),.int .i64 n,.float .f64 f] (bw aD (B .i64)) w fun r J=>((dh K n g).2=0→r.2=0∧∃ s:Nat,r.1=some ⟨s,0,none⟩∧E A (H8 s d ⟨⟨(scan g.l).1.length,(scan g.l).1.length,n,false⟩,qn (ux f) xs⟩::ez d (dh K n g).1::m) J) ∧
   ((dh K n g).2≠0→r=(none,(dh K n g).2)∧E A (ez d (dh K n g).1::m) J):=by
 have wA:f<18446744073709551616:=by rcases ab with h | h<;>omega
 refine ajh ?_;unfold WH;refine ap (Ll wA H) ?_;rintro r w ⟨I,_,H⟩;have:=I.2 ab;subst this;rw[if_neg (by simp)];refine ap (ach dr ah DX R H) ?_;rintro⟨p,q,j⟩ w ⟨he,aJ,bl⟩;simp only at he aJ bl;subst he;by_cases c:(dh K n g).2=0
 ·obtain⟨e_,ej,aE,H⟩:=aJ c;subst aE;rw[if_neg (by simp[c])];refine ap (Vault.Q0 wA H) ?_;rintro⟨Ag,a9⟩ w ⟨dq,_⟩;obtain⟨_,dv,aE,H⟩:=dq ab;simp only at aE;subst aE;refine bP H fun s w H=>?_;have Pl:=aet g.l;have J6:=aev g.l;have D1:=dr.log g (List.mem_of_getElem? R);generalize (scan g.l).1=N at *;have PM:ej.length=N.length:=by
   obtain⟨aW,_,a7⟩:=(b6.pF (b6.tail (b6.tail (b6.tail (b6.tail (b6.tail (b6.here (y:=mw.mono)))))))) H;exact a7.1
  have wD:=gr (H.front 4);have rl:=Oj F;have kF:∀ (k:Nat) (l:List UInt8) (x:dO),N[k]?=some l→xs[k]?=some x→uY l=some x:=fun k l x=>Yb F;have afV:Fit (ux f):=Fit.new ab;refine hY (fun t w=>∃ k:Nat,t=(k:Int)∧k≤N.length∧E A (kw s e_ dv::eU dv (qn (ux f) (xs.take k))::h8 e_ d ⟨N.length,N.length,n,false⟩::ez d (dh K n g).1::row X 189 1 q ej::ua ej N::m) w) (fun t=>(N.length-t).toNat) ⟨0,rfl,by omega,H⟩ ?_;clear H;rintro t w ⟨k,rfl,aq,H⟩ aa ca;unfold Nt;simp only;rw[wD,PM];split
  ·rename_i U;have U:k<N.length:=by
    have:(k:Int)<N.length:=by simpa using U
    omega
   have aR:IntKind.i64.wrap ((k:Int)+1)=((k+1:Nat):Int):=by rw[wrap_i64 (by omega) (by omega)]; omega
   obtain⟨gw,Zn⟩:=kM (i:=(k:Int)) (H.front 4) (by omega) (by omega);have ao:N[k]?=some N[k]:=List.getElem?_eq_getElem U;have z1:xs[k]?=some (xs[k]'(by omega)):=List.getElem?_eq_getElem (by omega);have wC:ej[((k:Int)).toNat]?=some (ej[k]'(by omega)):=List.getElem?_eq_getElem (by omega);have iG:xs.take (k+1)=xs.take k++[xs[k]'(by omega)]:=List.take_succ_eq_append_getElem (by omega);have rh:=kF k _ _ ao z1;have G6:(N[k]).length≤65536:=J6 _ (List.getElem_mem _);have jp:∀ aW,mw ej N aW→(ej[k]'(by omega)).len≤(ej[k]'(by omega)).cap∧c3 (B .u8) (ej[k]'(by omega)) (aT N[k]) aW:=fun aW a7=>a7.2 k _ _ (List.getElem?_eq_getElem (by omega)) ao;generalize N[k]=l at ao rh G6 jp;generalize xs[k]'(by omega)=x at z1 rh iG;generalize ej[k]'(by omega)=gF at wC jp;refine aP gw Zn ?_;refine aP gF (mj (fun _=>rfl) Zn wC (H.front 4)) ?_
   have tZ:b6 (kw s e_ dv::eU dv (qn (ux f) (xs.take k))::h8 e_ d ⟨N.length,N.length,n,false⟩::ez d (dh K n g).1::row X 189 1 q ej::ua ej N::m) (mw ej N):=b6.tail (b6.tail (b6.tail (b6.tail (b6.tail (b6.here (y:=mw.mono))))));have l_:gF.len≤gF.cap:=by
    obtain⟨aW,_,a7⟩:=tZ.pF H;exact (jp aW a7).1
   refine ap (al8 l_ (by omega) (di.ro (fun _=>rfl) (tZ.imp fun aW a7=>(jp aW a7).2)) H) ?_;rintro r w ⟨rfl,H⟩;rw[rh];have hJ:=(X_ rh).1.i.2;refine bP H fun N7 w H=>?_;refine c5 (x:=Dh) (S:=x) Ee 0 H rfl fun w H=>?_;show if (!true)=true then _ else _
   rw[if_neg (by simp)];refine eh (x:=x) 0 H rfl ?_;have ajq:Fit (qn (ux f) (xs.take k)):=Y6 afV fun S aB=>by
    have aB:=List.mem_of_mem_take aB;obtain⟨D,bR,rfl⟩:=List.getElem_of_mem aB;exact (X_ (kF D _ _ (List.getElem?_eq_getElem (by omega)) (List.getElem?_eq_getElem bR))).1.i.2
   refine ap (Ym ajq (H.ord [1,2])) ?_;rintro j w ⟨_,H⟩;rw[aR];rw[← acE,← iG] at H;exact ca _ _ ⟨k+1,rfl,by omega,(H.front 2).drop⟩ (by omega)
  ·rename_i U;have U:k=N.length:=by
    have:¬ (k:Int)<N.length:=by simpa using U
    omega
   subst U;rw[← rl,List.take_length] at H;refine⟨fun _=>⟨by trivial,s,rfl,?_⟩,fun h=>absurd c h⟩;rw[rl] at H;have H:=aeC (W:=⟨⟨N.length,N.length,n,false⟩,qn (ux f) xs⟩) (H.ord [0,2,1]);exact ((H.front 2).drop.front 2).drop
 ·obtain⟨aE,H⟩:=bl c;subst aE;rw[if_pos (by simpa using c)];exact⟨fun h=>absurd h c,fun _=>⟨rfl,H⟩⟩
end
def QM(xs:List dO):List UInt8:=cy (xs.map jd)
def xk(xs:List dO):Prop:=∀ x∈xs,nO x∧qh x.Kind
theorem xk.snoc{xs:List dO}{x:dO}(h:xk xs)(F:nO x)(aq:qh x.Kind):xk (xs++[x]):=by
 intro S aB;rcases List.mem_append.1 aB with aB | aB
 ·exact h S aB
 ·rw[List.mem_singleton.1 aB]; exact⟨F,aq⟩
theorem xk.take{xs:List dO}(h:xk xs)(k:Nat):xk (xs.take k):=fun S aB=>h S (List.mem_of_mem_take aB)
theorem xk.id{xs:List dO}(h:xk xs):∀ x∈xs,x.aC≤9223372036854775807:=fun x F=>(h x F).1.i.2
structure IU(K:cR)(n:Nat)(xs:List dO)(k:Nat):Prop where
 ok:K.hD
 up:K.down=false
 log:K.cS[n]?=some ⟨QM xs,(QM (xs.take k)).length⟩
 all:xk xs
 le:k≤xs.length
 lJ:xs.length≤600
def kJ(K:cR)(n:Nat)(f:dW→dW):cR:={ K with ef:=if 1<K.ef then IntKind.i64.wrap (K.ef-1) else K.ef,lH:=IntKind.i64.wrap (K.lH+1),cS:=K.cS.modify n f }
theorem aC2{K:cR}{n y:Nat}{f:dW→dW}(h:y≠n):(kJ K n f).cS[y]?=K.cS[y]?:=by
 show (K.cS.modify n f)[y]?=_
 rw[List.getElem?_modify];cases K.cS[y]? with
 |none=>rfl
 |some g=>
  have:¬ n=y:=fun j=>h j.symm;simp[this]
theorem ajZ{K:cR}{n:Nat}{size:Int}{f:dW→dW}(aL:n<K.cS.length)(ag:K.down=false)(aG:size≤4194304)(Y:K.ef≠1):j6 K n size f=(kJ K n f,0):=by
 unfold j6;rw[if_neg (by omega),if_neg (by simp[ag]),if_neg (by omega),if_neg Y];rfl
theorem ajY{K:cR}{n:Nat}{size:Int}{f:dW→dW}(aL:n<K.cS.length)(ag:K.down=false)(aG:size≤4194304)(Y:K.ef=1):j6 K n size f=(hG K.bG K,71):=by
 unfold j6;rw[if_neg (by omega),if_neg (by simp[ag]),if_neg (by omega),if_pos Y]
theorem IU.lt{K:cR}{n k:Nat}{xs:List dO}(N:IU K n xs k):n<K.cS.length:=(List.getElem?_eq_some_iff.1 N.log).1
theorem IU.size{K:cR}{n k:Nat}{xs:List dO}(N:IU K n xs k):Disk.sizeOf K n=(QM xs).length:=by
 unfold Disk.sizeOf;rw[if_pos (by omega),Int.toNat_natCast,N.log]
end Shard
namespace Cluster
open bf Wire Clock Shard
structure cV where
 k:Int
 x:oo
 t:Int
structure oS(r:cV):Prop where
 k:1≤r.k∧r.k≤3
 i:-9223372036854775808≤r.x.aC∧r.x.aC≤9223372036854775807
 f:-9223372036854775808≤r.x.fF∧r.x.fF≤9223372036854775807
 G:-9223372036854775808≤r.x.fx∧r.x.fx≤9223372036854775807
 n:-9223372036854775808≤r.x.b∧r.x.b≤9223372036854775807
 t:-9223372036854775808≤r.t∧r.t≤9223372036854775807
def s3(n:Int):fc:=⟨2,0,n,0,[]⟩
def mL(r:cV):List fc:=[s3 r.k,s3 r.x.aC,s3 r.x.fF,s3 r.x.fx,s3 r.x.b,s3 r.t]
def fJ(r:cV):List UInt8:=hW (mL r)
theorem Y4{r:cV}(h:oS r):nn (mL r):=by
 have ah:=wv (u:=r.k) (by have:=h.k; omega) (by have:=h.k; omega);have I:=wv h.i.1 h.i.2;have O:=wv h.f.1 h.f.2;have aJ:=wv h.G.1 h.G.2;have bl:=wv h.n.1 h.n.2;have dq:=wv h.t.1 h.t.2;have all:∀ v∈mL r,In v∧jW v=0:=by
  intro v aK;unfold mL s3 at aK;simp only[List.mem_cons,List.mem_nil_iff,or_false] at aK;rcases aK with rfl | rfl | rfl | rfl | rfl | rfl
  ·exact ah
  ·exact I
  ·exact O
  ·exact aJ
  ·exact bl
  ·exact dq
 exact⟨fun v aK=>(all v aK).1,fun v aK=>(all v aK).2⟩
theorem afd{r:cV}(h:oS r):jL (fJ r)=(mL r,0,0):=by
 unfold fJ;rw[afe (Y4 h) (by simp[mL])];have:(mL r).map nR=mL r:=by simp[mL,s3,nR,zI]
 rw[this]
theorem wq{n:Int}(ah:-9223372036854775808≤n)(I:n≤9223372036854775807):(iS (s3 n)).length≤11:=by
 have:=B9 (Ma ah I);simp[iS,s3];omega
theorem Ys{n:Int}(ah:0≤n)(I:n<18446744073709551616):(iS (⟨1,n,0,0,[]⟩:fc)).length≤11:=by
 have:=B9 (n:=n.toNat) (by omega);simp[iS];omega
theorem DF{r:cV}(h:oS r):(fJ r).length≤66:=by
 have ah:=wq (n:=r.k) (by have:=h.k; omega) (by have:=h.k; omega);have I:=wq h.i.1 h.i.2;have O:=wq h.f.1 h.f.2;have aJ:=wq h.G.1 h.G.2;have bl:=wq h.n.1 h.n.2;have dq:=wq h.t.1 h.t.2;unfold fJ hW mL;simp only[List.flatMap_cons,List.flatMap_nil,List.length_append,List.length_nil];omega
theorem Yt{x:dO}(h:nO x):(jd x).length≤66:=by
 have ah:=Ys (n:=IntKind.u64.wrap x.Kind) (by rw[lw]; omega) (by rw[lw]; omega);have I:=wq h.t.1 h.t.2;have O:=wq h.i.1 h.i.2;have aJ:=wq h.a.1 h.a.2;have bl:=wq h.n.1 h.n.2;have dq:=Ys (n:=flag x.ib) (by unfold flag; split<;>omega) (by unfold flag; split<;>omega);unfold s3 at I O aJ bl;unfold jd hW mK;simp only[List.flatMap_cons,List.flatMap_nil,List.length_append,List.length_nil];omega
section
variable {A w:World} {m bT:List bC}
theorem aeb{k:Int}{x:oo}{t:Int}(h:oS ⟨k,x,t⟩)(H:E A m w):M Pg 99 [.int .i64 k,gk.enc x,.int .i64 t] X w fun r J=>E A (row (B .u8) 5 1 r (aT (fJ ⟨k,x,t⟩))::m) J:=by
 refine ajp ?_;unfold WO;refine bP H fun iD w H=>?_;refine aj (x:=x.aC) 0 H rfl rfl rfl ?_;refine aj (x:=x.fF) 0 H rfl rfl rfl ?_;refine aj (x:=x.fx) 0 H rfl rfl rfl ?_;refine aj (x:=x.b) 0 H rfl rfl rfl ?_;refine vq H fun Xw w H=>?_;have H:=us (ar:=1) (y:=6) rfl H;have H:=kN gj 197 5 H;refine hY (fun s w=>∃ i:Nat,s.2=(i:Int)∧i≤6∧E A (row gj 197 5 s.1 ((mL ⟨k,x,t⟩).take i)::row (B .i64) 2 1 ⟨some ⟨Xw,0,none⟩,6,6⟩ [k,x.aC,x.fF,x.fx,x.b,t]::m) w) (fun s=>(6-s.2).toNat) ⟨0,rfl,by omega,((H.front 2).drop)⟩ ?_;clear H;rintro⟨s,q⟩ w ⟨i,ax,aJY,H⟩ aa ca;simp only at ax H;subst ax;unfold Nz;simp only;split
 ·rename_i U;have U:i<6:=by
   have:(i:Int)<6:=by simpa using U
   omega
  have aR:IntKind.i64.wrap ((i:Int)+1)=((i+1:Nat):Int):=by rw[wrap_i64 (by omega) (by omega)]; omega
  obtain⟨jC,Y⟩:=kM (i:=(i:Int)) (H.front 1) (by omega) (by simp; omega);refine aP jC Y ?_;have step:∀ (n:Int),[k,x.aC,x.fF,x.fx,x.b,t][i]?=some n→(mL ⟨k,x,t⟩).take (i+1)=(mL ⟨k,x,t⟩).take i++[s3 n]:=by
   intro n aL;have dq:i<(mL ⟨k,x,t⟩).length:=by simp[mL]; omega
   rw[List.take_succ_eq_append_getElem dq];congr 2
   match i,U with
   |0,_=>simp at aL; subst aL; rfl
   |1,_=>simp at aL; subst aL; rfl
   |2,_=>simp at aL; subst aL; rfl
   |3,_=>simp at aL; subst aL; rfl
   |4,_=>simp at aL; subst aL; rfl
   |5,_=>simp at aL; subst aL; rfl
  have F:[k,x.aC,x.fF,x.fx,x.b,t][((i:Int)).toNat]?=some ([k,x.aC,x.fF,x.fx,x.b,t][i]'(by simp; omega)):=List.getElem?_eq_getElem (by simp; omega);have aG:=step _ F;generalize [k,x.aC,x.fF,x.fx,x.b,t][i]'(by simp; omega)=n at F aG;refine aP n (mj (fun _=>rfl) Y F (H.front 1)) ?_;refine nu pS 0 H rfl (by simp; omega) fun r w H=>?_;rw[aR];refine ca _ _ ⟨i+1,rfl,by omega,?_⟩ (by simp only; omega);simp only;rw[aG];exact H
 ·rename_i U;have U:i=6:=by
   have:¬ (i:Int)<6:=by simpa using U
   omega
  subst U;have j:(mL ⟨k,x,t⟩).take 6=mL ⟨k,x,t⟩:=rfl;rw[j] at H;have aU:=Y4 h;refine ap (K6 aU.qb (by simp[mL]) (di.row (fun _=>rfl) 0 rfl) H) ?_;rintro r w ⟨_,O,_,_⟩;have aE:yT (mL ⟨k,x,t⟩)=0:=by
   unfold yT;rw[if_neg (by simp[mL])];exact N_ aU.ok
  have H:=O aE;exact ((H.front 2).drop.front 1).drop
end
end Cluster
namespace Cluster
open bf Wire Disk Vault Clock Shard
abbrev hM:=ir
abbrev p8:=tx
abbrev mB:=v8
abbrev j4:=A0
abbrev C_:=uI
abbrev Dg:=oV
structure bn where
 aw:hk
 cG:Int
 K:cR
 src:Int
 W:qU
 A:nr
 P:List (Int×bN)
 sure:Int→Bool
 out:List p8
structure kB where
 aw:Nat
 d:Nat
 src:Nat
 iN:Nat
 e_:Nat
 dv:Nat
 cF:Nat
 jJ:Nat
 pk:Nat
 out:af
 Q:List (Int×Nat×bN)
 qB:List (Int×Dg)
def n2(b:bn)(q:kB):C_:=⟨some ⟨q.aw,0,none⟩,b.cG,some ⟨q.d,0,none⟩,some ⟨q.src,0,none⟩,some ⟨q.iN,0,none⟩,some ⟨q.cF,0,none⟩,some q.jJ,some q.pk,q.out⟩
def iV(t:Int×Nat×bN):Int×Option Addr:=(t.1,some ⟨t.2.1,0,none⟩)
def qp(t:Int×Nat×bN):Int×bN:=(t.1,t.2.2)
def lU(t:Int×Nat×bN):bC:=gE t.2.1 t.2.2
def Fits(b:bn)(q:kB):Prop:=q.Q.map qp=b.P∧∀ x,(q.qB.lookup x).isSome=b.sure x
def ka(a0:Nat)(b:bn):bC:=hX fun q:kB=>dA [lo (Fits b q),aH a0 (j4.cells (n2 b q)) 101,j7 q.aw b.aw,ez q.d b.K,oI q.src b.src,kw q.iN q.e_ q.dv,h8 q.e_ q.d b.W.V,eU q.dv b.W.v,h8 q.cF q.d b.A,c_ aD .i64 q.jJ (q.Q.map iV),dA (q.Q.map lU),c_ fq .i64 q.pk q.qB,row mB 161 8 q.out b.out]
section
variable {A w:World} {m bT:List bC}
theorem lS{a0:Nat}{b:bn}(H:E A (ka a0 b::m) w):∃ q:kB,Fits b q∧E A (aH a0 (j4.cells (n2 b q)) 101::j7 q.aw b.aw::ez q.d b.K::oI q.src b.src::kw q.iN q.e_ q.dv::h8 q.e_ q.d b.W.V::eU q.dv b.W.v::h8 q.cF q.d b.A::c_ aD .i64 q.jJ (q.Q.map iV)::dA (q.Q.map lU)::c_ fq .i64 q.pk q.qB::row mB 161 8 q.out b.out::m) w:=by
 obtain⟨q,H⟩:=H.ex;obtain⟨h,H⟩:=E.vy H.open_;exact⟨q,h,H⟩
theorem g_{a0:Nat}{b:bn}{q:kB}(h:Fits b q)(H:E A (aH a0 (j4.cells (n2 b q)) 101::j7 q.aw b.aw::ez q.d b.K::oI q.src b.src::kw q.iN q.e_ q.dv::h8 q.e_ q.d b.W.V::eU q.dv b.W.v::h8 q.cF q.d b.A::c_ aD .i64 q.jJ (q.Q.map iV)::dA (q.Q.map lU)::c_ fq .i64 q.pk q.qB::row mB 161 8 q.out b.out::m) w):E A (ka a0 b::m) w:=
 E.mI q (E.shut (bT:=[lo _,_,_,_,_,_,_,_,_,_,_,_,_]) (E.vO h H))
end
structure bD where
 eu:kZ
 now:Int
 N:List bn
 aZ:Post.dH
 known:Int→Bool
 told:List bg
structure kj where
 nodes:af
 aZ:Nat
 kH:Nat
 told:af
 Q:List (Nat×bn)
 rr:List (Int×Dg)
abbrev gK:=A1
def iE(o:bD)(p:kj):rL:=⟨o.eu,o.now,p.nodes,some ⟨p.aZ,0,none⟩,some p.kH,p.told⟩
def hn(t:Nat×bn):bC:=ka t.1 t.2
def kI(t:Nat×bn):Option Addr:=some ⟨t.1,0,none⟩
def oR(o:bD)(p:kj):Prop:=p.Q.map Prod.snd=o.N∧∀ x,(p.rr.lookup x).isSome=o.known x
def ch(au:Nat)(o:bD):bC:=hX fun p:kj=>dA [lo (oR o p),aH au (gK.cells (iE o p)) 114,row aD 89 1 p.nodes (p.Q.map kI),dA (p.Q.map hn),Post.hN p.aZ o.aZ,c_ fq .i64 p.kH p.rr,row kl 53 3 p.told o.told]
section
variable {A w:World} {m bT:List bC}
theorem alF{au:Nat}{o:bD}(H:E A (ch au o::m) w):∃ p:kj,oR o p∧E A (aH au (gK.cells (iE o p)) 114::row aD 89 1 p.nodes (p.Q.map kI)::dA (p.Q.map hn)::Post.hN p.aZ o.aZ::c_ fq .i64 p.kH p.rr::row kl 53 3 p.told o.told::m) w:=by
 obtain⟨p,H⟩:=H.ex;obtain⟨h,H⟩:=E.vy H.open_;exact⟨p,h,H⟩
theorem fI{au:Nat}{o:bD}{p:kj}(h:oR o p)(H:E A (aH au (gK.cells (iE o p)) 114::row aD 89 1 p.nodes (p.Q.map kI)::dA (p.Q.map hn)::Post.hN p.aZ o.aZ::c_ fq .i64 p.kH p.rr::row kl 53 3 p.told o.told::m) w):E A (ch au o::m) w:=
 E.mI p (E.shut (bT:=[lo _,_,_,_,_,_,_]) (E.vO h H))
theorem SJ{id:Int}(h:-4000000000000000000≤id∧id≤4000000000000000000)(H:E A m w):M Pg 78 [.int .i64 id] (B .i64) w fun r J=>r=Int.tdiv (id+1) 2∧E A m J:=by
 refine ai4 ?_;unfold Wv;rw[wrap_i64 (x:=id+1) (by omega) (by omega)];refine⟨wrap_i64 ?_ ?_,H⟩
 ·rcases Int.le_total 0 (id+1) with c | c
  ·rw[Int.tdiv_eq_ediv_of_nonneg c]; omega
  ·have:Int.tdiv (id+1) 2=-(Int.tdiv (-(id+1)) 2):=by rw[Int.neg_tdiv]; omega
   rw[this,Int.tdiv_eq_ediv_of_nonneg (by omega)]; omega
 ·rcases Int.le_total 0 (id+1) with c | c
  ·rw[Int.tdiv_eq_ediv_of_nonneg c]; omega
  ·have:Int.tdiv (id+1) 2=-(Int.tdiv (-(id+1)) 2):=by rw[Int.neg_tdiv]; omega
   rw[this,Int.tdiv_eq_ediv_of_nonneg (by omega)]; omega
def rF(id:Int)(cq:Bool)(t:Int):hM:=⟨2,⟨id,0,0,false⟩,cq,t⟩
theorem afw{id t:Int}{cq:Bool}(H:E A m w):M Pg 79 [.int .i64 id,.bool cq,.int .i64 t] eJ w fun r J=>r=rF id cq t∧E A m J:=by
 refine ai5 ?_;unfold Ww;refine bP H fun iD w H=>?_;refine c5 (x:=uL) (S:=rF id cq t) Kt 0 H rfl fun w H=>?_;refine eh (x:=rF id cq t) 0 H rfl ?_;exact⟨rfl,H.drop⟩
theorem aer{a0:Nat}{x:C_}{out:List p8}{h5:Int}{y:hM}(ai:out.length≤1000000000000)(H:E A (aH a0 (j4.cells x) 101::row mB 161 8 x.out out::m) w) :
  M Pg 77 [.pointer (some ⟨a0,0,none⟩),.int .i64 h5,eJ.enc y] dZ w fun _ J=>∃ q:af,E A (aH a0 (j4.cells { x with out:=q }) 101::row mB 161 8 q (out++[⟨h5,y⟩])::m) J:=by
 refine ai3 ?_;unfold Wu;refine bP H fun iD w H=>?_;refine dp H fun w H=>?_;refine cb rfl ?_;refine aj (x:=x.out) 1 H rfl rfl rfl ?_;refine eh (x:=y) 0 H rfl ?_;refine nu (fun _=>rfl) 2 H rfl (by simp; omega) fun r w H=>?_;refine⟨bM eJ (H.front 1) rfl (tF _),?_⟩;refine dD (x:=r) 2 H rfl rfl (Nat.le_of_ble_eq_true rfl) fun w H=>?_;exact⟨r,(H.front 2).drop⟩
end
def gz(aw:hk)(rd src:Int)(ie:List Int):hk×Int×Int×Int:=
 if (e6 aw rd).2.2≠0 then ((e6 aw rd).1,src,0,(e6 aw rd).2.2) else ((e6 aw rd).1,Ac src (e6 aw rd).2.1 ie)
section
variable {A w:World} {m bT:List bC}
theorem Sv{a0 c s:Nat}{x:C_}{aw:hk}{src:Int}{q:af}{ie:List Int}(k:iY aw)(F:x.clock=some ⟨c,0,none⟩)(aG:x.source=some ⟨s,0,none⟩)(ab:-9000000000000000000≤x.cG∧x.cG≤9000000000000000000)
  (hm:ie.length≤9000000000000000000) (tX:di 1 m (B .i64) q ie) (H:E A (aH a0 (j4.cells x) 101::j7 c aw::oI s src::m) w) :
  M Pg 96 [.pointer (some ⟨a0,0,none⟩),X.enc q] (bw (B .i64) (B .i64)) w fun r J=>r=(gz aw x.cG src ie).2.2 ∧
   E A (aH a0 (j4.cells x) 101::j7 c (gz aw x.cG src ie).1::oI s (gz aw x.cG src ie).2.1::m) J:=by
 refine ajm ?_;unfold WL;refine dp H fun w H=>?_;refine cb rfl ?_;refine aj (x:=x.clock) 0 H rfl rfl rfl ?_;refine aj (x:=x.cG) 0 H rfl rfl rfl ?_;rw[F];have fin:∀ (l:Nat) (w:World),E A (aH l (pw.cells (e6 aw x.cG).2.1) 137::j7 c (e6 aw x.cG).1::aH a0 (j4.cells x) 101::oI s src::m) w →
   FR (some ⟨a0,0,none⟩) q ⟨l,0,none⟩ (e6 aw x.cG).2.2 w fun r J=>r=(gz aw x.cG src ie).2.2∧E A (aH a0 (j4.cells x) 101::j7 c (gz aw x.cG src ie).1::oI s (gz aw x.cG src ie).2.1::m) J:=by
  intro l w H;unfold FR gz;by_cases j:(e6 aw x.cG).2.2=0
  ·rw[if_neg (by simp[j]),if_neg (fun h=>h j)];refine dp H fun w H=>?_;refine cb rfl ?_;refine aj (x:=x.source) 2 H rfl rfl rfl ?_;refine eh (x:=(e6 aw x.cG).2.1) 0 H rfl ?_;rw[aG];refine ap (Hz hm (tX.l7 [_,_,_]) (H.front 3)) ?_;rintro r w ⟨rfl,H⟩;exact⟨rfl,((H.front 1).drop.ord [2,1,0])⟩
  ·rw[if_pos (by simpa using j),if_pos j];exact⟨rfl,H.drop.ord [1,0,2]⟩
 refine⟨?_,?_⟩
 ·refine ap (HB k ab (H.front 1)) ?_;rintro r w ⟨rfl,H⟩;refine bP H fun l w H=>?_;refine c5 (x:=jB) (S:=(e6 aw x.cG).2.1) pc 0 H rfl fun w H=>?_;exact fin l w H
 ·refine bP H fun l w H=>?_;refine ap (HB k ab (H.front 2)) ?_;rintro r w ⟨rfl,H⟩;refine c5 (x:=jB) (S:=(e6 aw x.cG).2.1) pc 1 H rfl fun w H=>?_;exact fin l w (H.ord [0,1])
theorem DB{d:Nat}{K:cR}(H:E A (ez d K::m) w):M Pg 66 [.pointer (some ⟨d,0,none⟩)] bk w fun r J=>r=K.down∧E A (ez d K::m) J:=by
 refine aiR ?_;unfold Wi;refine cb rfl ?_;obtain⟨q,P,bE,fj,H⟩:=xO H;refine aj (x:=K.down) 0 H rfl rfl rfl ?_;exact⟨rfl,q8 fj H⟩
theorem Bh{au:Nat}{o:bD}{p:kj}{i:Int}(aE:p.Q.length≤1000)(H:E A (aH au (gK.cells (iE o p)) 114::row aD 89 1 p.nodes (p.Q.map kI)::dA (p.Q.map hn)::m) w) :
  M Pg 29 [.pointer (some ⟨au,0,none⟩),.int .i64 i] (bw aD (B .i64)) w fun r J=>
   (match (if i < 0 then none else p.Q[i.toNat]?) with
    |none=>r=(none,202)
    |some t=>if t.2.K.down then r=(none,203) else r=(some ⟨t.1,0,none⟩,0)) ∧
   E A (aH au (gK.cells (iE o p)) 114::row aD 89 1 p.nodes (p.Q.map kI)::dA (p.Q.map hn)::m) J:=by
 refine VI ?_;unfold M2;have aL:=gr (H.front 1);rw[List.length_map] at aL;refine aP ⟨au,0,none⟩ (fun _=>rfl) ?_;refine aP p.nodes (fun _=>bM X H rfl rfl) ?_;by_cases c:i<0∨(p.Q.length:Int)≤i
 ·rw[if_pos (by simp only[Bool.or_eq_true,decide_eq_true_eq]; omega)];have j:(if i<0 then none else p.Q[i.toNat]?)=none:=by
   by_cases ah:i<0
   ·rw[if_pos ah]
   ·rw[if_neg ah,List.getElem?_eq_none (by omega)]
  rw[j];exact⟨rfl,H⟩
 ·rw[if_neg (by simp only[Bool.or_eq_true,decide_eq_true_eq]; omega)];have F:p.Q[i.toNat]?=some (p.Q[i.toNat]'(by omega)):=List.getElem?_eq_getElem (by omega);generalize p.Q[i.toNat]'(by omega)=t at F;have j:(if i<0 then none else p.Q[i.toNat]?)=some t:=by rw[if_neg (by omega),F]
  rw[j];have He:(p.Q.map kI)[i.toNat]?=some (kI t):=by rw[List.getElem?_map,F]; rfl
  refine cb rfl ?_;refine aj (x:=p.nodes) 0 H rfl rfl rfl ?_;obtain⟨a,Y⟩:=kM (i:=i) (H.front 1) (by omega) (by rw[List.length_map]; omega);refine aP a Y ?_;refine aP (kI t) (mj (fun _=>rfl) Y He (H.front 1)) ?_;refine cb rfl ?_;obtain⟨e8,fh,ec,aJ0⟩:=CA F;have g7:E A (hn t::dA ((e8++fh).map hn)::aH au (gK.cells (iE o p)) 114::row aD 89 1 p.nodes (p.Q.map kI)::m) w:=by
   have H:=H.front 2;rw[show dA (p.Q.map hn)=dA ((e8++t::fh).map hn) from by rw[← ec]] at H;exact Bi H
  obtain⟨q,am,g7⟩:=lS g7;refine aj (x:=some ⟨q.d,0,none⟩) 0 g7 rfl rfl rfl ?_;refine ap (DB (g7.front 2)) ?_;rintro r w ⟨rfl,g7⟩;have g7:=g_ am (g7.ord [1,2,0]);have g7:E A (hn t::dA ((e8++fh).map hn)::aH au (gK.cells (iE o p)) 114::row aD 89 1 p.nodes (p.Q.map kI)::m) w:=g7;have H:=wj (f:=hn) g7;rw[← ec] at H;have H:=H.ord [1,2,0];by_cases q4:t.2.K.down=true
  ·rw[if_pos q4];simp only[q4,if_true];exact⟨by trivial,H⟩
  ·rw[if_neg q4];simp only[q4];refine aj (x:=p.nodes) 0 H rfl rfl rfl ?_;refine aP a Y ?_;refine aP (kI t) (mj (fun _=>rfl) Y He (H.front 1)) ?_;exact⟨rfl,H⟩
end
end Cluster
namespace Shard
open bf Wire Disk Store Vault Num
theorem Lz{Z:Type}{T:bu Z}{ar:Nat}{m:List bC}:di ar m T fz []:=fun A bT w H=>⟨rfl,⟨rfl,rfl⟩,fun i ah I=>absurd I (by simp only[List.length_nil]; omega)⟩
theorem Om{A w:World}:∀ (n:Nat) {m:List bC},E A m w→E A (m.drop n) w
 |0,_,H=>H
 |_+1,[],H=>H
 |n+1,_::_,H=>Om n H.drop
theorem Pp{v:dc}(aU:Fit v):(gp v).length≤5000:=by
 unfold gp;rw[List.length_map,(show (oH (v.held.map (·.1))).Perm (v.held.map (·.1)) from List.mergeSort_perm _ _).length_eq,List.length_map];exact ZP aU
end Shard
namespace Cluster
open bf Wire Disk Vault Clock Shard
@[reducible] def eX(a0:Nat)(b:bn)(q:kB)(m:List bC):List bC:=aH a0 (j4.cells (n2 b q)) 101::j7 q.aw b.aw::ez q.d b.K::oI q.src b.src::kw q.iN q.e_ q.dv::h8 q.e_ q.d b.W.V::eU q.dv b.W.v::h8 q.cF q.d b.A::c_ aD .i64 q.jJ (q.Q.map iV)::dA (q.Q.map lU)::c_ fq .i64 q.pk q.qB::row mB 161 8 q.out b.out::m
def nK(b:bn)(h5:Int)(y:hM):bn:={ b with out:=b.out++[⟨h5,y⟩] }
structure IV(b:bn):Prop where
 aw:iY b.aw
 rd:-9000000000000000000≤b.cG∧b.cG≤9000000000000000000
 K:b.K.hD
 v:Fit b.W.v
 src:-9223372036854775808≤b.src∧b.src≤1125899906842624
theorem At{aw:hk}{rd src:Int}{N:List Int}(h:src≤1125899906842624):(gz aw rd src N).2.1≤1125899906842624∧((gz aw rd src N).2.2.2=0→1≤(gz aw rd src N).2.2.1∧(gz aw rd src N).2.2.1≤1125899906842624):=by
 unfold gz;by_cases c:(e6 aw rd).2.2≠0
 ·rw[if_pos c];exact⟨h,fun j=>absurd j c⟩
 ·rw[if_neg c];unfold Ac;by_cases bt:¬ nv (e6 aw rd).2.1
  ·rw[if_pos bt];exact⟨h,fun j=>by cases j⟩
  ·rw[if_neg bt];have bt:=Classical.not_not.1 bt;have I:=bt.2.1.1;have O:=foldl_max N (max src (e6 aw rd).2.1.jx);split
   ·exact⟨h,fun j=>by cases j⟩
   ·refine⟨?_,fun _=>⟨?_,?_⟩⟩<;>simp only<;>omega
def vd(b:bn)(from_:Int)(p:Part)(t:Int)(z:cR×qU×Int):bn:=
 if z.2.2=0 then nK { b with K:=z.1,W:=z.2.1 } from_ (rF p.aC true t)
 else if 150≤z.2.2∧z.2.2≤165 then nK { b with K:=z.1,W:=z.2.1 } from_ (rF p.aC false 0)
 else { b with K:=z.1,W:=z.2.1 }
def yk(b:bn)(from_:Int)(p:Part)(s:hk×Int×Int×Int):bn:=
 if s.2.2.2≠0 then { b with aw:=s.1,src:=s.2.1 } else vd { b with aw:=s.1,src:=s.2.1 } from_ p s.2.2.1 (fP b.K b.W ⟨2,s.2.2.1,p.aC,p.cd,p.b,p.ib⟩)
def rk(b:bn)(from_:Int)(p:Part):bn:=
 if (ff b.W.v p.aC).h9=1 then nK b from_ (rF p.aC true (ff b.W.v p.aC).gQ)
 else if (ff b.W.v p.aC).h9=3 then nK b from_ (rF p.aC false 0)
 else if (ff b.W.v p.aC).h9=0 then yk b from_ p (gz b.aw b.cG b.src []) else b
section
variable {A w:World} {m bT:List bC}
theorem KN{a0:Nat}{b:bn}{q:kB}{h5:Int}{y:hM}(am:Fits b q)(ai:b.out.length≤1000000000000)(H:E A (eX a0 b q m) w):M Pg 77 [.pointer (some ⟨a0,0,none⟩),.int .i64 h5,eJ.enc y] dZ w fun _ J=>E A (ka a0 (nK b h5 y)::m) J:=by
 refine ap (aer (x:=n2 b q) ai (H.ord [0,11])) ?_;rintro r w ⟨G,H⟩;exact g_ (b:=nK b h5 y) (q:={ q with out:=G }) am (H.ord [0,2,3,4,5,6,7,8,9,10,11,1])
theorem aqw{a0:Nat}{b:bn}{from_:Int}{p:Part}(a1:IV b)(ai:b.out.length≤1000000000000)(ax:nO ⟨2,0,p.aC,p.cd,p.b,p.ib⟩)(H:E A (ka a0 b::m) w) :
  M Pg 83 [.pointer (some ⟨a0,0,none⟩),.int .i64 from_,g0.enc p] dZ w fun _ J=>E A (ka a0 (rk b from_ p)::m) J:=by
 refine aja ?_;unfold WA;refine bP H fun iD w H=>?_;refine dp H fun w H=>?_;obtain⟨q,am,H⟩:=lS (H.front 1);refine cb rfl ?_;refine aj (x:=some ⟨q.iN,0,none⟩) 0 H rfl rfl rfl ?_;refine aj (x:=p.aC) 12 H rfl rfl rfl ?_;refine ap (y8 (H.front 4)) ?_;rintro r w ⟨rfl,H⟩;refine⟨bM (B .i64) (H.front 12) rfl rfl,?_⟩;refine ap (u0 (H.front 6)) ?_;rintro r w ⟨rfl,H⟩;refine⟨bM aD (H.front 2) rfl rfl,?_⟩;have H:E A (aH iD (g0.cells p) 60::eX a0 b q m) w:=H.ord [12,2,3,4,5,1,6,0];have b4:∀ (cq:Bool) (t:Int) (cL:bn) (gx:kB) (w:World),Fits cL gx→cL.out.length≤1000000000000→E A (aH iD (g0.cells p) 60::eX a0 cL gx m) w →
   ex (L (B .i64) (Addr.add ⟨iD,0,none⟩ 0) w) fun bJ=>M Pg 79 [.int .i64 bJ,.bool cq,.int .i64 t] eJ w fun gy c2=>
    M Pg 77 [.pointer (some ⟨a0,0,none⟩),.int .i64 from_,eJ.enc gy] dZ c2 fun mH ei=>E A (ka a0 (nK cL from_ (rF p.aC cq t))::m) ei:=by
  intro cq t cL gx w am ai H;refine aj (x:=p.aC) 0 H rfl rfl rfl ?_;refine ap (afw H) ?_;rintro r w ⟨rfl,H⟩;exact KN am ai H.drop
 simp only;by_cases bt:(ff b.W.v p.aC).h9=1
 ·have uZ:rk b from_ p=nK b from_ (rF p.aC true (ff b.W.v p.aC).gQ):=by unfold rk; rw[if_pos bt]
  rw[if_pos (by simpa using bt),uZ];exact b4 true _ b q w am ai H
 ·rw[if_neg (by simpa using bt)];by_cases cc:(ff b.W.v p.aC).h9=3
  ·have uZ:rk b from_ p=nK b from_ (rF p.aC false 0):=by unfold rk; rw[if_neg bt,if_pos cc]
   rw[if_pos (by simpa using cc),uZ];exact b4 false 0 b q w am ai H
  ·rw[if_neg (by simpa using cc)];by_cases b7:(ff b.W.v p.aC).h9=0
   ·rw[if_pos (by simpa using b7)];have uZ:rk b from_ p=yk b from_ p (gz b.aw b.cG b.src []):=by unfold rk; rw[if_neg bt,if_neg cc,if_pos b7]
    rw[uZ];have ll:=Sv (a0:=a0) (c:=q.aw) (s:=q.src) (x:=n2 b q) (aw:=b.aw) (src:=b.src) (q:=fz) (ie:=[]) a1.aw rfl rfl a1.rd (by simp) Lz (H.ord [1,2,4]);refine ap ll ?_;clear ll;rintro r w ⟨rfl,H⟩;have lN:=At (aw:=b.aw) (rd:=b.cG) (N:=[]) a1.src.2;show if _ then _ else _
    have es:(gz b.aw (n2 b q).cG b.src [])=gz b.aw b.cG b.src []:=rfl;rw[es] at H ⊢;generalize gz b.aw b.cG b.src []=bd at *;obtain⟨hd,jK,t,j⟩:=bd;simp only at H lN ⊢;by_cases ce:j=0
    ·subst ce;rw[if_neg (by simp)];have aS:=lN.2 rfl;refine dp H fun w H=>?_;refine aj (x:=some ⟨q.iN,0,none⟩) 0 H rfl rfl rfl ?_;refine aj (x:=p.aC) 3 H rfl rfl rfl ?_;refine aj (x:=p.cd) 3 H rfl rfl rfl ?_;refine aj (x:=p.b) 3 H rfl rfl rfl ?_;refine aj (x:=p.ib) 3 H rfl rfl rfl ?_;have F:nO ⟨2,t,p.aC,p.cd,p.b,p.ib⟩:=⟨ax.k,by simp only; omega,ax.i,ax.a,ax.n⟩
     refine ap (DA (W:=b.W) a1.K a1.v F (H.ord [5,6,7,4])) ?_;rintro r w ⟨rfl,H⟩;refine⟨bM (B .i64) (H.front 7) rfl rfl,bM (B .i64) (H.front 7) rfl rfl,bM (B .i64) (H.front 7) rfl rfl,bM bk (H.front 7) rfl rfl,?_⟩;have Yp:yk b from_ p (hd,jK,t,0)=vd { b with aw:=hd,src:=jK } from_ p t (fP b.K b.W ⟨2,t,p.aC,p.cd,p.b,p.ib⟩):=by unfold yk; rw[if_neg (by simp)]
     rw[Yp];clear Yp;generalize fP b.K b.W ⟨2,t,p.aC,p.cd,p.b,p.ib⟩=z at *;obtain⟨ee,iZ,j⟩:=z;simp only at H ⊢;have H:=H.ord [7,4,5,3,6,0,1,2];by_cases cz:j=0
     ·have df:vd { b with aw:=hd,src:=jK } from_ p t (ee,iZ,j)=nK { b with aw:=hd,src:=jK,K:=ee,W:=iZ } from_ (rF p.aC true t):=by unfold vd; rw[if_pos cz]
      rw[if_pos (by simpa using cz),df];exact b4 true t { b with aw:=hd,src:=jK,K:=ee,W:=iZ } q w am ai H
     ·rw[if_neg (by simpa using cz)];by_cases cr:150≤j∧j≤165
      ·have df:vd { b with aw:=hd,src:=jK } from_ p t (ee,iZ,j)=nK { b with aw:=hd,src:=jK,K:=ee,W:=iZ } from_ (rF p.aC false 0):=by unfold vd; rw[if_neg cz,if_pos cr]
       rw[if_pos (by simpa using cr),df];exact b4 false 0 { b with aw:=hd,src:=jK,K:=ee,W:=iZ } q w am ai H
      ·have df:vd { b with aw:=hd,src:=jK } from_ p t (ee,iZ,j)={ b with aw:=hd,src:=jK,K:=ee,W:=iZ }:=by unfold vd; rw[if_neg cz,if_neg cr]
       rw[if_neg (by simpa using cr),df];exact g_ (b:={ b with aw:=hd,src:=jK,K:=ee,W:=iZ }) (q:=q) am H.drop
    ·have df:yk b from_ p (hd,jK,t,j)={ b with aw:=hd,src:=jK }:=by unfold yk; rw[if_pos ce]
     rw[if_pos (by simpa using ce),df];exact g_ (b:={ b with aw:=hd,src:=jK }) (q:=q) am (H.ord [3,0,1,4,2]).drop
   ·have uZ:rk b from_ p=b:=by unfold rk; rw[if_neg bt,if_neg cc,if_neg b7]
    rw[if_neg (by simpa using b7),uZ];exact g_ (q:=q) am H.drop
end
def Bf(id:Int):hM:=⟨4,⟨id,0,0,false⟩,false,0⟩
def q6(y:hM):dO:=if y.jP then ⟨3,y.b5,y.Part.aC,0,0,false⟩ else ⟨4,0,y.Part.aC,0,0,false⟩
def Bm(b:bn)(y:hM):Bool:=if y.jP then ((ff b.W.v y.Part.aC).h9==2)&&((ff b.W.v y.Part.aC).gQ==y.b5) else (ff b.W.v y.Part.aC).h9==3
def ih(b:bn)(from_:Int)(y:hM)(z:cR×qU×Int):bn:=
 if z.2.2≠0 then { b with K:=z.1,W:=z.2.1 } else nK { b with K:=z.1,W:=z.2.1,src:=if y.jP then (oz b.src y.b5).1 else b.src } from_ (Bf y.Part.aC)
def tM(b:bn)(from_:Int)(y:hM):bn:=if Bm b y then nK b from_ (Bf y.Part.aC) else ih b from_ y (fP b.K b.W (q6 y))
section
variable {A w:World} {m bT:List bC}
theorem al5{a0:Nat}{b:bn}{from_:Int}{y:hM}(a1:IV b)(ai:b.out.length≤1000000000000)(ax:nO (q6 y))(H:E A (ka a0 b::m) w) :
  M Pg 85 [.pointer (some ⟨a0,0,none⟩),.int .i64 from_,eJ.enc y] dZ w fun _ J=>E A (ka a0 (tM b from_ y)::m) J:=by
 refine ajc ?_;unfold Nq;refine bP H fun iD w H=>?_;obtain⟨q,am,H⟩:=lS (H.front 1);refine aj (x:=y.Part.aC) 12 H rfl rfl rfl ?_;refine cb rfl ?_;refine aj (x:=some ⟨q.iN,0,none⟩) 0 H rfl rfl rfl ?_;refine ap (y8 (H.front 4)) ?_;rintro r w ⟨rfl,H⟩;refine ap (u0 (H.front 6)) ?_;rintro r w ⟨rfl,H⟩;have H:E A (aH iD (eJ.cells y) 62::eX a0 b q m) w:=H.ord [12,2,3,4,5,1,6,0];refine bP H fun I_ w H=>?_;refine c5 (x:=Dh) (S:=(⟨4,0,y.Part.aC,0,0,false⟩:dO)) Ee 0 H rfl fun w H=>?_;refine aj (x:=y.jP) 1 H rfl rfl rfl ?_;have z4:∀ (cL:bn) (gx:kB) (w:World),Fits cL gx→cL.out.length≤1000000000000→E A (eX a0 cL gx m) w →
   CY (some ⟨a0,0,none⟩) from_ y.Part.aC w fun _ J=>E A (ka a0 (nK cL from_ (Bf y.Part.aC))::m) J:=by
  intro cL gx w am ai H;unfold CY;exact KN am ai H
 have g4:∀ (w:World),E A (aH I_ (sE.cells (q6 y)) 142::aH iD (eJ.cells y) 62::eX a0 b q m) w →
   CW (some ⟨a0,0,none⟩) from_ ⟨iD,0,none⟩ y.Part.aC ⟨a0,0,none⟩ ⟨I_,0,none⟩ (Bm b y) w fun _ J=>E A (ka a0 (tM b from_ y)::m) J:=by
  intro w H;unfold CW;refine dp H fun w H=>?_;cases ag:Bm b y with
  |true=>
   rw[if_neg (by simp)];have uZ:tM b from_ y=nK b from_ (Bf y.Part.aC):=by unfold tM; rw[if_pos ag]
   unfold CX;rw[if_neg (by simp),uZ];refine aP y.jP (fun _=>bM bk (H.front 1) rfl rfl) ?_;rw[if_neg (by simp)];exact z4 b q w am ai H.drop.drop
  |false=>
   rw[if_pos (by simp)];have uZ:tM b from_ y=ih b from_ y (fP b.K b.W (q6 y)):=by unfold tM; rw[if_neg (by simp[ag])]
   rw[uZ];refine aj (x:=some ⟨q.iN,0,none⟩) 2 H rfl rfl rfl ?_;refine eh (x:=q6 y) 0 H rfl ?_;refine ap (DA (W:=b.W) a1.K a1.v ax (H.ord [6,7,8,4])) ?_;rintro r w ⟨rfl,H⟩;generalize fP b.K b.W (q6 y)=z at *;obtain⟨ee,iZ,j⟩:=z;simp only at H ⊢;have H:E A (aH iD (eJ.cells y) 62::eX a0 { b with K:=ee,W:=iZ } q m) w:=(H.ord [4,5,6,7,3,8,0,1,2]).drop;unfold CX;by_cases ce:j=0
   ·rw[if_neg (by simp[ce])];refine aP y.jP (fun _=>bM bk H rfl rfl) ?_;have df:ih b from_ y (ee,iZ,j)=nK { b with K:=ee,W:=iZ,src:=if y.jP then (oz b.src y.b5).1 else b.src } from_ (Bf y.Part.aC):=by unfold ih; rw[if_neg (by simp[ce])]
    rw[df];cases aB:y.jP with
    |true=>
     rw[if_pos (by simp)];refine dp H fun w H=>?_;refine aj (x:=some ⟨q.src,0,none⟩) 1 H rfl rfl rfl ?_;refine aj (x:=y.b5) 0 H rfl rfl rfl ?_;refine ap (Kl (H.front 4)) ?_;rintro r w ⟨_,H⟩;exact z4 { b with K:=ee,W:=iZ,src:=(oz b.src y.b5).1 } q w am ai (H.ord [1,2,3,4,0]).drop
    |false=>
     rw[if_neg (by simp)];exact z4 { b with K:=ee,W:=iZ } q w am ai H.drop
   ·rw[if_pos (by simpa using ce)];have df:ih b from_ y (ee,iZ,j)={ b with K:=ee,W:=iZ }:=by unfold ih; rw[if_pos ce]
    rw[df];exact g_ (b:={ b with K:=ee,W:=iZ }) (q:=q) am H.drop
 cases aB:y.jP with
 |true=>
  rw[if_pos rfl];refine aj (x:=y.b5) 1 H rfl rfl rfl ?_;refine c5 (x:=(⟨4,0,y.Part.aC,0,0,false⟩:dO)) (S:=(⟨3,y.b5,y.Part.aC,0,0,false⟩:dO)) Ee 0 H rfl fun w H=>?_;refine aP y.b5 (fun _=>bM (B .i64) (H.front 1) rfl rfl) ?_;have aR:q6 y=⟨3,y.b5,y.Part.aC,0,0,false⟩:=by unfold q6; rw[if_pos aB]
  have a9:Bm b y=(((ff b.W.v y.Part.aC).h9==2)&&((ff b.W.v y.Part.aC).gQ==y.b5)):=by unfold Bm; rw[if_pos aB]
  rw[← aR] at H;have:=g4 w H;rw[a9] at this;exact this
 |false=>
  rw[if_neg (by simp)];have aR:q6 y=⟨4,0,y.Part.aC,0,0,false⟩:=by unfold q6; rw[if_neg (by simp[aB])]
  have a9:Bm b y=((ff b.W.v y.Part.aC).h9==3):=by unfold Bm; rw[if_neg (by simp[aB])]
  rw[← aR] at H;have:=g4 w H;rw[a9] at this;exact this
end
abbrev C9:=rL
def Dq(n:Nat)(p:bN)(dK:Bool):p8:=
 ⟨Int.tmod (k5 p dK).cd n,if p.b4≠0 then ⟨3,⟨(k5 p dK).aC,0,0,false⟩,p.b4==2,p.at_⟩ else ⟨1,k5 p dK,false,0⟩⟩
def jQ(n:Nat)(p:bN):List p8:=(nA p).map (Dq n p)
theorem F_(n:Nat)(p:bN):(jQ n p).length≤2:=by
 unfold jQ nA;rw[List.length_map,List.length_append];split<;>split<;>simp
section
variable {A w:World} {m bT:List bC}
theorem Et{au:Nat}{c:C9}{k:Int}(aL:0<c.nodes.len)(H:E A (aH au (gK.cells c) 114::m) w) :
  M Pg 54 [.pointer (some ⟨au,0,none⟩),.int .i64 k] (B .i64) w fun r J=>r=Int.tmod k c.nodes.len∧E A (aH au (gK.cells c) 114::m) J:=by
 refine aiF ?_;unfold V9;refine cb rfl ?_;refine aj (x:=c.nodes) 0 H rfl rfl rfl ?_;refine aP _ ⟨by omega,rfl⟩ ?_;exact⟨rfl,H⟩
theorem N4{au a0 dL:Nat}{c:C9}{x:C_}{p:bN}{out:List p8}(aL:0<c.nodes.len)(hJ:0≤p.x.aC∧p.x.aC≤1000000000000)(ai:out.length≤900000000000)
  (H:E A (aH au (gK.cells c) 114::gE dL p::aH a0 (j4.cells x) 101::row mB 161 8 x.out out::m) w) :
  M Pg 76 [.pointer (some ⟨au,0,none⟩),.pointer (some ⟨a0,0,none⟩),.pointer (some ⟨dL,0,none⟩)] dZ w fun _ J=>∃ q:af,
   E A (aH au (gK.cells c) 114::gE dL p::aH a0 (j4.cells { x with out:=q }) 101::row mB 161 8 q (out++jQ c.nodes.len p)::m) J:=by
 refine ai2 ?_;unfold Wt;refine ap (Ce (H.front 1)) ?_;rintro r w ⟨rfl,H⟩;refine ap (aEG H) ?_;intro bX w H;have al:=gr H;have sV:(nA p).length≤2:=by
  have:=F_ 1 p;unfold jQ at this;rwa [List.length_map] at this
 refine hY (fun t w=>∃ (i:Nat) (q:af),t=(i:Int)∧i≤(nA p).length∧E A (row bk 4 1 bX (nA p)::gE dL p::aH au (gK.cells c) 114::aH a0 (j4.cells { x with out:=q }) 101::row mB 161 8 q (out++(jQ c.nodes.len p).take i)::m) w) (fun t=>(3-t).toNat) ⟨0,x.out,rfl,by omega,by rw[List.take_zero,List.append_nil]; exact H⟩ ?_;clear H;rintro t w ⟨i,q,rfl,ax,H⟩ aa ca;unfold Nn;rw[al];split
 ·rename_i U;have U:i<(nA p).length:=by
   have:(i:Int)<(nA p).length:=by simpa using U
   omega
  have aR:IntKind.i64.wrap ((i:Int)+1)=((i+1:Nat):Int):=by rw[wrap_i64 (by omega) (by omega)]; omega
  obtain⟨a,Y⟩:=kM (i:=(i:Int)) H (by omega) (by omega);have F:(nA p)[((i:Int)).toNat]?=some ((nA p)[i]'U):=by rw[Int.toNat_natCast]; exact List.getElem?_eq_getElem U
  have iG:(jQ c.nodes.len p).take (i+1)=(jQ c.nodes.len p).take i++[Dq c.nodes.len p ((nA p)[i]'U)]:=by
   rw[List.take_succ_eq_append_getElem (by unfold jQ; rw[List.length_map]; exact U)];congr 2;unfold jQ;rw[List.getElem_map]
  generalize (nA p)[i]'U=dK at F iG;refine aP a Y ?_;refine aP dK (mj (fun _=>rfl) Y F H) ?_;refine ap (aEK hJ (H.front 1)) ?_;rintro r w ⟨rfl,H⟩;refine bP H fun Xx w H=>?_;refine c5 (x:=zy) (S:=k5 p dK) Ks 0 H rfl fun w H=>?_;refine eh (x:=k5 p dK) 0 H rfl ?_;refine bP H fun N7 w H=>?_;refine c5 (x:=uL) (S:=(⟨1,k5 p dK,false,0⟩:hM)) Kt 0 H rfl fun w H=>?_;have vj:∀ (y:hM) (w:World),Dq c.nodes.len p dK=⟨Int.tmod (k5 p dK).cd c.nodes.len,y⟩→E A (aH N7 (eJ.cells y) 62::aH Xx (g0.cells (k5 p dK)) 60::gE dL p::row bk 4 1 bX (nA p)::aH au (gK.cells c) 114::aH a0 (j4.cells { x with out:=q }) 101::row mB 161 8 q (out++(jQ c.nodes.len p).take i)::m) w →
    FI (some ⟨au,0,none⟩) (some ⟨a0,0,none⟩) (i:Int) ⟨Xx,0,none⟩ ⟨N7,0,none⟩ w aa fun _ J=>∃ q:af,
     E A (aH au (gK.cells c) 114::gE dL p::aH a0 (j4.cells { x with out:=q }) 101::row mB 161 8 q (out++jQ c.nodes.len p)::m) J:=by
   intro y w hm H;unfold FI;refine dp H fun w H=>?_;refine aj (x:=(k5 p dK).cd) 1 H rfl rfl rfl ?_;refine eh (x:=y) 0 H rfl ?_;refine ap (Et aL (H.front 4)) ?_;rintro r w ⟨rfl,H⟩;refine⟨bM eJ (H.front 1) rfl (tF _),?_⟩;have BM:(out++(jQ c.nodes.len p).take i).length≤1000000000000:=by
    have:=F_ c.nodes.len p;rw[List.length_append,List.length_take]; omega
   refine ap (aer (x:={ x with out:=q }) BM (H.ord [5,6])) ?_;rintro r w ⟨gd,H⟩;refine⟨bM (B .i64) (H.front 4) rfl rfl,?_⟩;rw[aR];refine ca _ _ ⟨i+1,gd,rfl,by omega,?_⟩ (by first | omega | (simp only; omega));rw[iG,← List.append_assoc,hm];exact (H.ord [3,4,6,5,2,0,1]).drop.drop
  by_cases bt:p.b4=0
  ·rw[if_neg (by simp[bt])];exact vj _ w (by unfold Dq; rw[if_neg (fun h=>h bt)]) H
  ·rw[if_pos (by simpa using bt)];refine aj (x:=(k5 p dK).aC) 1 H rfl rfl rfl ?_;refine c5 (x:=(⟨1,k5 p dK,false,0⟩:hM)) (S:=(⟨3,⟨(k5 p dK).aC,0,0,false⟩,p.b4==2,p.at_⟩:hM)) Kt 0 H rfl fun w H=>?_;exact vj _ w (by unfold Dq; rw[if_pos bt]) H
 ·rename_i U;have U:i=(nA p).length:=by
   have:¬ (i:Int)<(nA p).length:=by simpa using U
   omega
  subst U;have j:(jQ c.nodes.len p).take (nA p).length=jQ c.nodes.len p:=List.take_of_length_le (by unfold jQ; rw[List.length_map]; omega);rw[j] at H;exact⟨q,(H.drop).front 1⟩
end
def kq(p:bN)(k t:Int):bN:=if k=2 then (oZ p t).1 else (pA p).1
theorem X8(p:bN)(k t:Int):(kq p k t).x=p.x:=by
 unfold kq oZ pA
 repeat' split
 all_goals rfl
section
variable {A w:World} {m bT:List bC}
theorem al3{au a0 dL cF d:Nat}{c:C9}{x:C_}{p:bN}{out:List p8}{K:cR}{V:nr}{k t:Int}(aL:0<c.nodes.len)(hJ:0≤p.x.aC∧p.x.aC≤1000000000000)(ai:out.length≤900000000000)(F:x.log=some ⟨cF,0,none⟩)(dr:K.hD)(jn:oS ⟨k,p.x,t⟩)
  (H:E A (aH au (gK.cells c) 114::gE dL p::aH a0 (j4.cells x) 101::row mB 161 8 x.out out::h8 cF d V::ez d K::m) w) :
  M Pg 106 [.pointer (some ⟨au,0,none⟩),.pointer (some ⟨a0,0,none⟩),.pointer (some ⟨dL,0,none⟩),.int .i64 k,.int .i64 t] (B .i64) w fun r J=>r=(gm K V (fJ ⟨k,p.x,t⟩)).2.2∧∃ q:af,
   E A (aH au (gK.cells c) 114::gE dL (if (gm K V (fJ ⟨k,p.x,t⟩)).2.2=0 then kq p k t else p)::aH a0 (j4.cells { x with out:=q }) 101::row mB 161 8 q (if (gm K V (fJ ⟨k,p.x,t⟩)).2.2=0 then out++jQ c.nodes.len (kq p k t) else out)::h8 cF d (gm K V (fJ ⟨k,p.x,t⟩)).2.1::ez d (gm K V (fJ ⟨k,p.x,t⟩)).1::m) J:=by
 refine af2 ?_;unfold Tz;refine dp H fun w H=>?_;refine cb rfl ?_;refine aP (some ⟨cF,0,none⟩) (by rw[← F]; exact bM aD (H.front 2) rfl rfl) ?_;refine ap (aEQ (H.front 1)) ?_;rintro r w ⟨rfl,H⟩;refine⟨by rw[← F]; exact bM aD (H.front 2) rfl rfl,?_⟩;refine ap (aeb jn H) ?_;intro r w H;refine⟨by rw[← F]; exact bM aD (H.front 3) rfl rfl,?_⟩;have g3:=DF jn;refine ap (N0 (x:=fJ ⟨k,p.x,t⟩) dr (by omega) (di.row (fun _=>rfl) 0 rfl) (H.ord [5,6])) ?_;rintro j w ⟨rfl,H⟩;generalize gm K V (fJ ⟨k,p.x,t⟩)=z at *;have H:E A (aH au (gK.cells c) 114::gE dL p::aH a0 (j4.cells x) 101::row mB 161 8 x.out out::h8 cF d z.2.1::ez d z.1::m) w:=(H.ord [2,4,3,5,6,0,1]).drop;by_cases cz:z.2.2=0
 ·rw[if_neg (by simp[cz])];simp only[cz,if_true];have g4:∀ (w:World),E A (gE dL (kq p k t)::aH au (gK.cells c) 114::aH a0 (j4.cells x) 101::row mB 161 8 x.out out::h8 cF d z.2.1::ez d z.1::m) w →
    E8 (some ⟨au,0,none⟩) (some ⟨a0,0,none⟩) (some ⟨dL,0,none⟩) w fun r J=>r=0∧∃ q:af,E A (aH au (gK.cells c) 114::gE dL (kq p k t)::aH a0 (j4.cells { x with out:=q }) 101::row mB 161 8 q (out++jQ c.nodes.len (kq p k t))::h8 cF d z.2.1::ez d z.1::m) J:=by
   intro w H;unfold E8;refine ap (N4 aL (by rw[X8]; exact hJ) ai (H.front 1)) ?_;rintro r w ⟨q,H⟩;exact⟨rfl,q,H⟩
  by_cases aw:k=2
  ·rw[if_pos (by simpa using aw)];refine ap (acv (H.front 1)) ?_;rintro r w ⟨_,H⟩;refine g4 w ?_;have j:kq p k t=(oZ p t).1:=by unfold kq; rw[if_pos aw]
   rw[j];exact H
  ·rw[if_neg (by simpa using aw)];refine ap (acq (H.front 1)) ?_;rintro r w ⟨_,H⟩;refine g4 w ?_;have j:kq p k t=(pA p).1:=by unfold kq; rw[if_neg aw]
   rw[j];exact H
 ·rw[if_pos (by simpa using cz)];simp only[cz,if_false];exact⟨by trivial,x.out,H⟩
end
def iO(P:List (Int×bN))(id:Int)(p:bN):List (Int×bN):=P.map fun t=>if t.1=id then (t.1,p) else t
theorem vn:∀ {Q:List (Int×Nat×bN)} {id:Int} {p:bN},(Q.map qp).lookup id=some p→∃ e8 fh dL,Q=e8++(id,dL,p)::fh∧(Q.map iV).lookup id=some (some (⟨dL,0,none⟩:Addr))
 |[],_,_,h=>by cases h
 |t::Q,id,p,h=>by
  obtain⟨k,l,v⟩:=t;simp only[List.map_cons,qp,iV,List.lookup] at h ⊢;by_cases c:(id==k)=true
  ·rw[c] at h ⊢;simp only[Option.some.injEq] at h;have c:=eq_of_beq c;subst c; subst h;exact⟨[],Q,l,rfl,rfl⟩
  ·have c:(id==k)=false:=by simpa using c
   rw[c] at h ⊢;obtain⟨e8,fh,dL,I,O⟩:=vn h;exact⟨(k,l,v)::e8,fh,dL,by rw[I]; rfl,O⟩
theorem BZ:∀ {Q:List (Int×Nat×bN)} {id:Int},(Q.map qp).lookup id=none→(Q.map iV).lookup id=none
 |[],_,_=>rfl
 |t::Q,id,h=>by
  obtain⟨k,l,v⟩:=t;simp only[List.map_cons,qp,iV,List.lookup] at h ⊢;by_cases c:(id==k)=true
  ·rw[c] at h;cases h
  ·have c:(id==k)=false:=by simpa using c
   rw[c] at h ⊢;exact BZ h
theorem SK:∀ {Q:List (Int×Nat×bN)} {id:Int} {p:bN},(∀ t∈Q,t.1≠id)→iO (Q.map qp) id p=Q.map qp
 |[],_,_,_=>rfl
 |t::Q,id,p,h=>by
  have I:=h t (List.mem_cons_self ..);have O:=SK (p:=p) fun x F=>h x (List.mem_cons_of_mem t F);unfold iO at O ⊢;rw[List.map_cons,List.map_cons,O,if_neg (by exact I)]
theorem aIh{e8 fh:List (Int×Nat×bN)}{id:Int}{dL:Nat}{p h0:bN}(h:(((e8++(id,dL,p)::fh).map iV).map (·.1)).Nodup) :
  iO ((e8++(id,dL,p)::fh).map qp) id h0=(e8++(id,dL,h0)::fh).map qp∧(e8++(id,dL,p)::fh).map iV=(e8++(id,dL,h0)::fh).map iV:=by
 have aq:(((e8++(id,dL,p)::fh).map iV).map (·.1))=e8.map (·.1)++id::fh.map (·.1):=by
  simp[List.map_map,Function.comp_def,iV]
 rw[aq,List.nodup_append] at h;obtain⟨_,O,aJ⟩:=h;have O:=(List.nodup_cons.1 O).1;have bA:∀ t∈e8,t.1≠id:=fun t aS j=>aJ t.1 (List.mem_map.2 ⟨t,aS,rfl⟩) id (List.mem_cons_self ..) j;have eR:∀ t∈fh,t.1≠id:=fun t aS j=>O (List.mem_map.2 ⟨t,aS,j⟩);refine⟨?_,by simp[iV]⟩;have vP:=SK (p:=h0) bA;have tk:=SK (p:=h0) eR;unfold iO at vP tk ⊢;rw[List.map_append,List.map_cons,List.map_append,List.map_cons,vP,tk,List.map_append,List.map_cons];rw[if_pos (by rfl)];rfl
@[reducible] def Au(a0:Nat)(b:bn)(q:kB)(dL:Nat)(p:bN)(e8 fh:List (Int×Nat×bN))(m:List bC):List bC:=gE dL p::aH a0 (j4.cells (n2 b q)) 101::j7 q.aw b.aw::ez q.d b.K::oI q.src b.src::kw q.iN q.e_ q.dv::h8 q.e_ q.d b.W.V::eU q.dv b.W.v::h8 q.cF q.d b.A::c_ aD .i64 q.jJ (q.Q.map iV)::dA ((e8++fh).map lU)::c_ fq .i64 q.pk q.qB::row mB 161 8 q.out b.out::m
def sA(P:List (Int×bN)):Prop:=∀ id p,P.lookup id=some p→p.x.aC=id∧jw p.x=0
def gH(id:Int):Int:=Int.tdiv (id+1) 2
def nU(n:Nat)(b:bn)(id:Int)(p:bN)(k t:Int):bn×Int:=
 let z:=gm b.K b.A (fJ ⟨k,p.x,t⟩)
 if z.2.2=0 then ({ b with K:=z.1,A:=z.2.1,P:=iO b.P id (kq p k t),out:=b.out++jQ n (kq p k t) },0) else ({ b with K:=z.1,A:=z.2.1,P:=iO b.P id p },z.2.2)
def y_(n:Nat)(b:bn)(id:Int)(p:bN)(s:hk×Int×Int×Int):bn:=
 if s.2.2.2=0 then (nU n { b with aw:=s.1,src:=s.2.1 } id p 2 s.2.2.1).1 else { b with aw:=s.1,src:=s.2.1,P:=iO b.P id p }
def vR(n:Nat)(b:bn)(id:Int)(p:bN):bn:=
 if p.b4=3 then (nU n b id p 3 0).1
 else if (n4 p).2=true then y_ n b id p (gz b.aw b.cG b.src [(n4 p).1]) else { b with P:=iO b.P id p }
def y9(n:Nat)(b:bn)(from_:Int)(y:hM)(id:Int)(p:bN):bn:=
 if p.b4≠0 then nK b from_ ⟨3,⟨y.Part.aC,0,0,false⟩,p.b4==2,p.at_⟩
 else if (g6 p (Int.tmod y.Part.aC 2==1) y.jP y.b5).2≠0 then { b with P:=iO b.P id (g6 p (Int.tmod y.Part.aC 2==1) y.jP y.b5).1 }
 else vR n b id (g6 p (Int.tmod y.Part.aC 2==1) y.jP y.b5).1
def vS(n:Nat)(b:bn)(from_:Int)(y:hM):bn:=match b.P.lookup (gH y.Part.aC) with
 |none=>b
 |some p=>y9 n b from_ y (gH y.Part.aC) p
theorem LS(p:bN)(a l:Bool)(t:Int):(g6 p a l t).1.x=p.x:=by
 unfold g6 bN.hB
 repeat' split
 all_goals rfl
theorem Ay{x:oo}(h:jw x=0):(1≤x.aC∧x.aC≤1000000)∧(0≤x.fF∧x.fF<4096)∧(0≤x.fx∧x.fx<4096)∧x.fF≠x.fx∧1≤x.b∧x.b≤1000000000000000:=by
 unfold jw vi at h;split at h
 ·cases h
 ·split at h
  ·cases h
  ·split at h
   ·cases h
   ·split at h
    ·cases h
    ·rename_i I O aJ bl;have O:=Classical.not_not.1 O;refine⟨⟨by omega,by omega⟩,O.1,O.2,aJ,by omega,by omega⟩
theorem Ea{k t:Int}{x:oo}(aq:1≤k∧k≤3)(F:jw x=0)(aS:0≤t∧t≤1125899906842624):oS ⟨k,x,t⟩:=by
 obtain⟨I,O,aJ,_,bl,dq⟩:=Ay F;refine⟨aq,?_,?_,?_,?_,?_⟩<;>constructor<;>simp only<;>omega
section
variable {A w:World} {m bT:List bC}
theorem Ah{a0:Nat}{b:bn}{q:kB}{id:Int}{p:bN}(am:Fits b q)(h:b.P.lookup id=some p)(H:E A (eX a0 b q m) w) :
  ∃ dL e8 fh,(q.Q.map iV).lookup id=some (some (⟨dL,0,none⟩:Addr))∧q.Q=e8++(id,dL,p)::fh∧E A (Au a0 b q dL p e8 fh m) w:=by
 rw[← am.1] at h;obtain⟨e8,fh,dL,ec,al⟩:=vn h;refine⟨dL,e8,fh,al,ec,?_⟩;have H:E A (dA (q.Q.map lU)::_) w:=H.front 9;rw[show dA (q.Q.map lU)=dA ((e8++(id,dL,p)::fh).map lU) from by rw[← ec]] at H;exact (Bi H).ord [0,2,3,4,5,6,7,8,9,10,1]
theorem Cf{a0:Nat}{b:bn}{q:kB}{id:Int}{dL:Nat}{p h0:bN}{e8 fh:List (Int×Nat×bN)}(am:Fits b q)(ec:q.Q=e8++(id,dL,p)::fh)(H:E A (Au a0 b q dL h0 e8 fh m) w) :
  Fits { b with P:=iO b.P id h0 } { q with Q:=e8++(id,dL,h0)::fh }∧E A (eX a0 { b with P:=iO b.P id h0 } { q with Q:=e8++(id,dL,h0)::fh } m) w:=by
 have ag:=Hu (H.front 9);rw[ec] at ag;obtain⟨I,O⟩:=aIh (h0:=h0) ag;refine⟨⟨?_,am.2⟩,?_⟩
 ·show (e8++(id,dL,h0)::fh).map qp=iO b.P id h0
  rw[← am.1,ec,I]
 ·have H:E A (lU (id,dL,h0)::dA ((e8++fh).map lU)::_) w:=H.ord [0,10];have H:=wj (f:=lU) H;have H:=H.ord [1,2,3,4,5,6,7,8,9,0];rw[ec,O] at H;exact H
theorem EE{a0:Nat}{b:bn}{q:kB}{id:Int}{dL:Nat}{p:bN}{e8 fh:List (Int×Nat×bN)}(ec:q.Q=e8++(id,dL,p)::fh)(H:E A (Au a0 b q dL p e8 fh m) w):E A (eX a0 b q m) w:=by
 have H:E A (lU (id,dL,p)::dA ((e8++fh).map lU)::_) w:=H.ord [0,10];have H:=(wj (f:=lU) H).ord [1,2,3,4,5,6,7,8,9,0];rw[← ec] at H;exact H
theorem Og{au a0 dL:Nat}{c:C9}{b:bn}{q:kB}{id:Int}{p uh:bN}{k t:Int}{e8 fh:List (Int×Nat×bN)}(am:Fits b q)(ec:q.Q=e8++(id,dL,uh)::fh)(aL:0<c.nodes.len)(F:jw p.x=0)(aq:k=2∨k=3)(aS:0≤t∧t≤1125899906842624)(ai:b.out.length≤900000000000)(ak:b.K.hD)
  (H:E A (aH au (gK.cells c) 114::Au a0 b q dL p e8 fh m) w) :
  M Pg 106 [.pointer (some ⟨au,0,none⟩),.pointer (some ⟨a0,0,none⟩),.pointer (some ⟨dL,0,none⟩),.int .i64 k,.int .i64 t] (B .i64) w fun r J=>r=(nU c.nodes.len b id p k t).2∧E A (aH au (gK.cells c) 114::ka a0 (nU c.nodes.len b id p k t).1::m) J:=by
 have I:=Ay F;refine ap (al3 (x:=n2 b q) (p:=p) (V:=b.A) aL (by omega) ai rfl ak (Ea (by omega) F aS) (H.ord [0,1,2,13,9,4])) ?_;rintro r w ⟨rfl,G,H⟩;unfold nU;generalize gm b.K b.A (fJ ⟨k,p.x,t⟩)=z at *;obtain⟨ee,lE,j⟩:=z;simp only at H ⊢;have H:=H.ord [0,1,2,6,5,7,8,9,10,4,11,12,13,3];by_cases ce:j=0
 ·simp only[ce,if_true] at H ⊢;refine⟨by trivial,?_⟩;obtain⟨bA,H⟩:=Cf (b:={ b with K:=ee,A:=lE,out:=b.out++jQ c.nodes.len (kq p k t) }) (q:={ q with out:=G }) am ec (H.ord [1,2,3,4,5,6,7,8,9,10,11,12,13]);exact (g_ bA H).front 1
 ·simp only[ce,if_false] at H ⊢;refine⟨by trivial,?_⟩;obtain⟨bA,H⟩:=Cf (b:={ b with K:=ee,A:=lE }) (q:={ q with out:=G }) am ec (H.ord [1,2,3,4,5,6,7,8,9,10,11,12,13]);exact (g_ bA H).front 1
theorem aIs{au a0:Nat}{c:C9}{b:bn}{from_:Int}{y:hM}(aL:0<c.nodes.len)(a1:IV b)(fj:sA b.P)(ai:b.out.length≤800000000000)(hm:-4000000000000000000≤y.Part.aC∧y.Part.aC≤4000000000000000000)(H:E A (aH au (gK.cells c) 114::ka a0 b::m) w) :
  M Pg 84 [.pointer (some ⟨au,0,none⟩),.pointer (some ⟨a0,0,none⟩),.int .i64 from_,eJ.enc y] dZ w fun _ J=>E A (aH au (gK.cells c) 114::ka a0 (vS c.nodes.len b from_ y)::m) J:=by
 refine ajb ?_;unfold WB;refine bP H fun l8 w H=>?_;refine dp H fun w H=>?_;obtain⟨q,am,H⟩:=lS (H.front 2);refine cb rfl ?_;refine aj (x:=some q.jJ) 0 H rfl rfl rfl ?_;refine aj (x:=y.Part.aC) 12 H rfl rfl rfl ?_;refine ap (SJ hm H) ?_;rintro r w ⟨rfl,H⟩;refine⟨bM ek H rfl rfl,?_⟩;refine mc 8 H rfl rfl ?_;rw[show Int.tdiv (y.Part.aC+1) 2=gH y.Part.aC from rfl];rcases al:b.P.lookup (gH y.Part.aC) with _ | p
 ·rw[BZ (by rw[am.1]; exact al)];rw[if_pos (by simp)];have xQ:vS c.nodes.len b from_ y=b:=by unfold vS; rw[al]
  rw[xQ];exact ((g_ am H).ord [1]).drop.front 1
 ·have xQ:vS c.nodes.len b from_ y=y9 c.nodes.len b from_ y (gH y.Part.aC) p:=by unfold vS; rw[al]
  rw[xQ];have F:=(fj _ _ al).2;obtain⟨dL,e8,fh,j,ec,H⟩:=Ah am al H;rw[j,if_neg (by simp)];refine ap (Ce H) ?_;rintro r w ⟨rfl,H⟩;simp only;by_cases b7:p.b4=0
  ·rw[if_neg (by simp[b7])];refine aj (x:=y.Part.aC) 13 H rfl rfl rfl ?_;refine aj (x:=y.jP) 13 H rfl rfl rfl ?_;refine aj (x:=y.b5) 13 H rfl rfl rfl ?_;refine ap (Rx H) ?_;rintro r w ⟨rfl,H⟩;have aR:y9 c.nodes.len b from_ y (gH y.Part.aC) p=if (g6 p (Int.tmod y.Part.aC 2==1) y.jP y.b5).2≠0 then { b with P:=iO b.P (gH y.Part.aC) (g6 p (Int.tmod y.Part.aC 2==1) y.jP y.b5).1 } else vR c.nodes.len b (gH y.Part.aC) (g6 p (Int.tmod y.Part.aC 2==1) y.jP y.b5).1:=by unfold y9; rw[if_neg (fun h=>h b7)]
   rw[aR];clear aR;have z1:jw (g6 p (Int.tmod y.Part.aC 2==1) y.jP y.b5).1.x=0:=by rw[LS]; exact F
   generalize g6 p (Int.tmod y.Part.aC 2==1) y.jP y.b5=z at *;obtain⟨cY,aR⟩:=z;simp only at H z1 ⊢;have fin:∀ w,E A (Au a0 b q dL cY e8 fh (aH l8 (eJ.cells y) 62::aH au (gK.cells c) 114::m)) w→E A (aH au (gK.cells c) 114::ka a0 { b with P:=iO b.P (gH y.Part.aC) cY }::m) w:=by
    intro w H;obtain⟨bA,H⟩:=Cf am ec H;exact ((g_ bA H).ord [1]).drop.front 1
   by_cases ce:aR=0
   ·rw[if_neg (by simp[ce]),if_neg (fun h=>h ce)];refine ap (Ce H) ?_;rintro r w ⟨rfl,H⟩;simp only;by_cases cc:cY.b4=3
    ·rw[if_pos (by simpa using cc)];have a9:vR c.nodes.len b (gH y.Part.aC) cY=(nU c.nodes.len b (gH y.Part.aC) cY 3 0).1:=by unfold vR; rw[if_pos cc]
     rw[a9];refine ap (Og (k:=3) (t:=0) am ec aL z1 (.inr rfl) (by omega) (by omega) a1.K (H.front 14)) ?_;rintro r w ⟨_,H⟩;exact (H.ord [2]).drop
    ·rw[if_neg (by simpa using cc)];refine ap (aEL H) ?_;rintro r w ⟨rfl,H⟩;by_cases cr:(n4 cY).2=true
     ·rw[if_pos cr];have a9:vR c.nodes.len b (gH y.Part.aC) cY=y_ c.nodes.len b (gH y.Part.aC) cY (gz b.aw b.cG b.src [(n4 cY).1]):=by unfold vR; rw[if_neg cc,if_pos cr]
      rw[a9];refine vq H fun aJB w H=>?_;have H:=us (ar:=1) (y:=1) rfl H;have ll:=Sv (a0:=a0) (c:=q.aw) (s:=q.src) (x:=n2 b q) (aw:=b.aw) (src:=b.src) (ie:=[(n4 cY).1]) a1.aw rfl rfl a1.rd (by simp) (di.row (fun _=>rfl) 0 rfl) (H.ord [2,3,5]);refine ap ll ?_;clear ll;rintro r w ⟨rfl,H⟩;have lN:=At (aw:=b.aw) (rd:=b.cG) (N:=[(n4 cY).1]) a1.src.2;have es:gz b.aw (n2 b q).cG b.src [(n4 cY).1]=gz b.aw b.cG b.src [(n4 cY).1]:=rfl;rw[es] at H ⊢;generalize gz b.aw b.cG b.src [(n4 cY).1]=bd at *;obtain⟨hd,jK,t,j⟩:=bd;simp only at H lN ⊢;have H:E A (Au a0 { b with aw:=hd,src:=jK } q dL cY e8 fh (aH l8 (eJ.cells y) 62::aH au (gK.cells c) 114::m)) w:=(H.ord [3,4,0,1,5,2]).drop;by_cases cz:j=0
      ·rw[if_pos (by simpa using cz)];have df:y_ c.nodes.len b (gH y.Part.aC) cY (hd,jK,t,j)=(nU c.nodes.len { b with aw:=hd,src:=jK } (gH y.Part.aC) cY 2 t).1:=by unfold y_; rw[if_pos cz]
       rw[df];have aS:=lN.2 cz;refine ap (Og (b:={ b with aw:=hd,src:=jK }) (k:=2) (t:=t) am ec aL z1 (.inl rfl) (by omega) (by simp only; omega) a1.K (H.front 14)) ?_;rintro r w ⟨_,H⟩;exact (H.ord [2]).drop
      ·rw[if_neg (by simpa using cz)];have df:y_ c.nodes.len b (gH y.Part.aC) cY (hd,jK,t,j)={ b with aw:=hd,src:=jK,P:=iO b.P (gH y.Part.aC) cY }:=by unfold y_; rw[if_neg cz]
       rw[df];obtain⟨bA,H⟩:=Cf (b:={ b with aw:=hd,src:=jK }) am ec H;exact ((g_ bA H).ord [1]).drop.front 1
     ·rw[if_neg cr];have a9:vR c.nodes.len b (gH y.Part.aC) cY={ b with P:=iO b.P (gH y.Part.aC) cY }:=by unfold vR; rw[if_neg cc,if_neg cr]
      rw[a9];exact fin w H
   ·rw[if_pos (by simpa using ce),if_pos ce];exact fin w H
  ·rw[if_pos (by simpa using b7)];have aR:y9 c.nodes.len b from_ y (gH y.Part.aC) p=nK b from_ ⟨3,⟨y.Part.aC,0,0,false⟩,p.b4==2,p.at_⟩:=by unfold y9; rw[if_pos b7]
   rw[aR];refine aj (x:=y.Part.aC) 13 H rfl rfl rfl ?_;refine ap (KN am (by omega) (EE ec H)) ?_;rintro r w H;exact (H.ord [1]).drop.front 1
end
def ke(p:bN)(r:cV):bN:=if r.k=3 then (pA p).1 else (oZ (g6 (g6 p true true r.t).1 false true r.t).1 r.t).1
def nc(P:List (Int×bN))(r:cV):List (Int×bN):=if r.k=1 then P++[(r.x.aC,jI r.x)] else match P.lookup r.x.aC with
 |none=>P
 |some p=>iO P r.x.aC (ke p r)
def w5(s:Int→Bool)(r:cV):Int→Bool:=if r.k=1 then s else fun x=>x==r.x.aC||s x
def uo(src:Int)(r:cV):Int:=if r.k=2 then (oz src r.t).1 else src
def vB(b:bn)(r:cV):bn:={ b with P:=nc b.P r,sure:=w5 b.sure r,src:=uo b.src r }
def v4(P:List (Int×bN))(r:cV):Prop:=(r.k=1∧jw r.x=0∧P.lookup r.x.aC=none)∨((r.k=2∨r.k=3)∧(P.lookup r.x.aC).isSome=true)
section
variable {A w:World} {m bT:List bC}
theorem acC{a0 l:Nat}{b:bn}{q:kB}{id:Int}{p:bN}(am:Fits b q)(aL:b.P.lookup id=none)(H:E A (gE l p::aH a0 (j4.cells (n2 b q)) 101::j7 q.aw b.aw::ez q.d b.K::oI q.src b.src::kw q.iN q.e_ q.dv::h8 q.e_ q.d b.W.V::eU q.dv b.W.v::h8 q.cF q.d b.A::c_ aD .i64 q.jJ (eM id (some ⟨l,0,none⟩) (q.Q.map iV))::dA (q.Q.map lU)::c_ fq .i64 q.pk q.qB::row mB 161 8 q.out b.out::m) w) :
  Fits { b with P:=b.P++[(id,p)] } { q with Q:=q.Q++[(id,l,p)] }∧E A (eX a0 { b with P:=b.P++[(id,p)] } { q with Q:=q.Q++[(id,l,p)] } m) w:=by
 refine⟨⟨?_,am.2⟩,?_⟩
 ·show (q.Q++[(id,l,p)]).map qp=b.P++[(id,p)]
  rw[List.map_append,am.1]; rfl
 ·rw[SM _ _ _ (BZ (by rw[am.1]; exact aL))] at H;have H:E A (lU (id,l,p)::dA (q.Q.map lU)::_) w:=H.ord [0,10];rw[show q.Q.map lU=(q.Q++[]).map lU from by rw[List.append_nil]] at H;have H:=(wj (f:=lU) H).ord [1,2,3,4,5,6,7,8,9,0];have j:(q.Q++[(id,l,p)]).map iV=q.Q.map iV++[(id,some ⟨l,0,none⟩)]:=by rw[List.map_append]; rfl
  unfold eX;rw[j];exact H
theorem aHE{a0:Nat}{b:bn}{q:kB}{id:Int}(am:Fits b q):Fits { b with sure:=fun x=>x==id||b.sure x } { q with qB:=eM id ⟨⟩ q.qB }:=by
 refine⟨am.1,fun x=>?_⟩;show ((eM id ⟨⟩ q.qB).lookup x).isSome=(x==id||b.sure x)
 rw[s6];cases h:x==id
 ·simp[am.2 x]
 ·simp
theorem aGg{a0:Nat}{b:bn}{r:cV}(ab:v4 b.P r)(H:E A (ka a0 b::m) w) :
  M Pg 94 [.pointer (some ⟨a0,0,none⟩),.int .i64 r.k,gk.enc r.x,.int .i64 r.t] dZ w fun _ J=>E A (ka a0 (vB b r)::m) J:=by
 refine ajl ?_;unfold WJ;refine bP H fun l8 w H=>?_;obtain⟨q,am,H⟩:=lS (H.front 1);rcases ab with ⟨aq,F,al⟩ | ⟨aq,al⟩
 ·rw[if_pos (by simpa using aq)];refine dp H fun w H=>?_;refine cb rfl ?_;refine aj (x:=some q.jJ) 0 H rfl rfl rfl ?_;refine aj (x:=r.x.aC) 12 H rfl rfl rfl ?_;refine aj (x:=r.x) 12 H rfl rfl (tF _) ?_;refine ap (acG H) ?_;rintro⟨gN,bv⟩ w ⟨I,_⟩;obtain⟨_,l,ao,H⟩:=I F;simp only at ao;subst ao;refine⟨bM ek (H.front 1) rfl rfl,bM (B .i64) (H.front 13) rfl rfl,?_⟩;refine r8 9 H rfl rfl fun w H=>?_;obtain⟨bA,H⟩:=acC am al (H.ord [1,2,3,4,5,6,7,8,9,0]);have j:vB b r={ b with P:=b.P++[(r.x.aC,jI r.x)] }:=by unfold vB nc w5 uo; rw[if_pos aq,if_pos aq,if_neg (by omega)]
  rw[j];exact ((g_ bA H).front 1).drop
 ·rw[if_neg (by simp; omega)];refine dp H fun w H=>?_;refine cb rfl ?_;refine aj (x:=some q.jJ) 0 H rfl rfl rfl ?_;refine aj (x:=r.x.aC) 12 H rfl rfl rfl ?_;obtain⟨p,aE⟩:=Option.isSome_iff_exists.1 al;obtain⟨dL,e8,fh,j,ec,H⟩:=Ah am aE H;refine mc 9 H rfl rfl ?_;rw[j];refine dp H fun w H=>?_;refine aj (x:=some q.pk) 1 H rfl rfl rfl ?_;refine aj (x:=r.x.aC) 13 H rfl rfl rfl ?_;refine r8 11 H rfl rfl fun w H=>?_;have am:=aHE (a0:=a0) (id:=r.x.aC) am;have H:E A (Au a0 { b with sure:=fun x=>x==r.x.aC||b.sure x } { q with qB:=eM r.x.aC ⟨⟩ q.qB } dL p e8 fh (aH l8 (gk.cells r.x) 31::m)) w:=H.ord [1,2,3,4,5,6,7,8,9,10,11,0];have Gw:vB b r={ b with P:=iO b.P r.x.aC (ke p r),sure:=fun x=>x==r.x.aC||b.sure x,src:=uo b.src r }:=by unfold vB nc w5; rw[if_neg (by omega),if_neg (by omega),aE]
  rw[Gw];by_cases cc:r.k=3
  ·rw[if_pos (by simpa using cc)];refine ap (acq H) ?_;rintro _ w ⟨_,H⟩;obtain⟨bA,H⟩:=Cf am ec H;have a9:ke p r=(pA p).1:=by unfold ke; rw[if_pos cc]
   have df:uo b.src r=b.src:=by unfold uo; rw[if_neg (by omega)]
   rw[a9,df];exact ((g_ bA H).front 1).drop
  ·rw[if_neg (by simpa using cc)];have a9:ke p r=(oZ (g6 (g6 p true true r.t).1 false true r.t).1 r.t).1:=by unfold ke; rw[if_neg cc]
   have df:uo b.src r=(oz b.src r.t).1:=by unfold uo; rw[if_pos (by omega)]
   rw[a9,df];refine ap (Rx H) ?_;rintro _ w ⟨_,H⟩;refine ap (Rx H) ?_;rintro _ w ⟨_,H⟩;refine ap (acv H) ?_;rintro _ w ⟨_,H⟩;refine aj (x:=some ⟨q.src,0,none⟩) 1 H rfl rfl rfl ?_;refine ap (Kl (H.front 4)) ?_;rintro _ w ⟨_,H⟩;obtain⟨bA,H⟩:=Cf (b:={ b with sure:=fun x=>x==r.x.aC||b.sure x,src:=(oz b.src r.t).1 }) am ec (H.ord [1,2,3,4,0]);exact ((g_ bA H).front 1).drop
end
end Cluster
namespace Cluster
open bf Wire Disk Vault Clock Shard Num
def E0(aw:hk)(rd:Int)(K:cR)(f:Nat)(xs:List dO)(n:Nat):bn:=⟨aw,rd,K,(oz 0 (qn (ux f) xs).fD).1,⟨⟨xs.length,xs.length,0,false⟩,qn (ux f) xs⟩,⟨n,n,1,false⟩,[],fun _=>false,[]⟩
def zb(aw:hk)(rd:Int)(K:cR)(f:Nat)(xs:List dO)(an:List cV):bn:=an.foldl vB (E0 aw rd K f xs an.length)
def qS(an:List cV):Prop:=∀ i r,an[i]?=some r→oS r∧v4 ((an.take i).foldl nc []) r
theorem anY(an:List cV):∀ b:bn,(an.foldl vB b).P=an.foldl nc b.P:=by
 induction an with
 |nil=>intro b; rfl
 |cons r an ck=>intro b; exact ck _
theorem abD{K:cR}{n:Nat}{g:dW}(dr:K.hD)(ag:K.down=false)(R:K.cS[n]?=some g):(dh K (n:Int) g).1.hD∧((dh K (n:Int) g).2=0→(dh K (n:Int) g).1.down=false∧∀ y,y≠n→(dh K (n:Int) g).1.cS[y]?=K.cS[y]?):=by
 have dC:=(List.getElem?_eq_some_iff.1 R).1;have D1:=dr.log g (List.mem_of_getElem? R);have key:∀ (size:Int) (f:dW→dW),size≤4194304→(j6 K (n:Int) size f).2=0→(j6 K (n:Int) size f).1.down=false∧∀ y,y≠n→(j6 K (n:Int) size f).1.cS[y]?=K.cS[y]?:=by
  intro size f aG ah;by_cases Y:K.ef=1
  ·rw[ajY dC ag aG Y] at ah;cases ah
  ·rw[ajZ dC ag aG Y];exact⟨ag,fun y hm=>aC2 hm⟩
 unfold dh;have J5:=aeu g.l;split
 ·refine⟨I3 dr fun aG cI yg=>?_,key _ _ (by rw[List.length_take]; omega)⟩;simp only[List.length_take]; omega
 ·split
  ·refine⟨I3 dr fun aG cI yg=>?_,key _ _ (by omega)⟩;have:=dr.log cI (List.mem_of_getElem? yg);simp only; omega
  ·exact⟨dr,fun _=>⟨ag,fun _ _=>rfl⟩⟩
section
variable {A w:World} {m bT:List bC}
theorem afF{au a0 d uW:Nat}{c:C9}{x:C_}{aw:hk}{K:cR}{cX bA:dW}{xs:List dO}{an:List cV}(F:x.clock=some ⟨uW,0,none⟩)(Qg:x.Gk=some ⟨d,0,none⟩)(ab:ju c.eu.gD)(dr:K.hD)(ag:K.down=false)
  (yh:K.cS[0]?=some cX) (rl:sL (scan cX.l).1=some xs) (ri:K.cS[1]?=some bA) (J4:(scan bA.l).1=an.map fJ) (o6:qS an)
  (H:E A (aH au (gK.cells c) 114::aH a0 (j4.cells x) 101::j7 uW aw::ez d K::m) w) :
  M Pg 42 [.pointer (some ⟨au,0,none⟩),.pointer (some ⟨a0,0,none⟩)] (B .i64) w fun r J=>
   ((dh K 0 cX).2≠0→r=(dh K 0 cX).2∧E A (aH au (gK.cells c) 114::aH a0 (j4.cells x) 101::j7 uW aw::ez d (dh K 0 cX).1::m) J) ∧
   ((dh K 0 cX).2=0→(dh (dh K 0 cX).1 1 bA).2≠0→r=(dh (dh K 0 cX).1 1 bA).2∧E A (aH au (gK.cells c) 114::aH a0 (j4.cells x) 101::j7 uW aw::ez d (dh (dh K 0 cX).1 1 bA).1::m) J) ∧
   ((dh K 0 cX).2=0→(dh (dh K 0 cX).1 1 bA).2=0→r=0∧E A (aH au (gK.cells c) 114::ka a0 (zb aw x.cG (dh (dh K 0 cX).1 1 bA).1 c.eu.gD xs an)::m) J):=by
 refine ais ?_;unfold VX;refine dp H fun w H=>?_;refine cb rfl ?_;refine cb rfl ?_;refine aj (x:=x.Gk) 1 H rfl rfl rfl ?_;refine aj (x:=c.eu.gD) 0 H rfl rfl rfl ?_;rw[Qg];have zU:=abD (n:=0) dr ag yh;refine ap (Shard.Rm (n:=0) (g:=cX) dr ab (by omega) ag yh rl (H.front 3)) ?_;rintro⟨gN,bv⟩ w ⟨I,O⟩;by_cases b7:(dh K 0 cX).2=0
 ·obtain⟨aJ,s,bl,H⟩:=I b7;simp only at aJ bl;subst aJ; subst bl;rw[if_neg (by simp)];obtain⟨zQ,aqk⟩:=zU.2 b7;have apm:(dh K 0 cX).1.cS[1]?=some bA:=by rw[← ri]; exact aqk 1 (by omega)
  have aqv:=zU.1;have aqY:(scan cX.l).1.length=xs.length:=(Oj rl).symm;rw[aqY] at H;have aJC:(dh K 0 cX).2=0:=b7;generalize dh K 0 cX=j1 at *;refine aj (x:=x.Gk) 3 H rfl rfl rfl ?_;rw[Qg];refine ap (ach (n:=1) (g:=bA) aqv (by omega) zQ apm (H.front 1)) ?_;rintro⟨p,q,j⟩ w ⟨he,aJ,bl⟩;simp only at he aJ bl;subst he;by_cases bt:(dh j1.1 1 bA).2=0
  ·obtain⟨cF,ej,aE,H⟩:=aJ bt;subst aE;rw[if_neg (by simp[bt])];obtain⟨e_,dv,H⟩:=aeB (H.front 4);refine ap (aCH H) ?_;rintro r w ⟨lp,rfl,H⟩;refine dD (x:=(some ⟨s,0,none⟩:Option Addr)) 9 H rfl rfl (Nat.le_of_ble_eq_true rfl) fun w H=>?_;refine dD (x:=(some ⟨cF,0,none⟩:Option Addr)) 0 H rfl rfl (Nat.le_of_ble_eq_true rfl) fun w H=>?_;refine dD (x:=fz) 0 H rfl rfl (Nat.le_of_ble_eq_true rfl) fun w H=>?_;refine dD (x:=(some ⟨lp,0,none⟩:Option Addr)) 0 H rfl rfl (Nat.le_of_ble_eq_true rfl) fun w H=>?_;refine wY H fun jJ w H=>?_;have H:=wU aD .i64 H;refine wY H fun pk w H=>?_;have H:=wU fq .i64 H;refine dD (x:=some jJ) 2 H rfl rfl (Nat.le_of_ble_eq_true rfl) fun w H=>?_;refine dD (x:=some pk) 0 H rfl rfl (Nat.le_of_ble_eq_true rfl) fun w H=>?_
   let nG:kB:=⟨uW,d,lp,s,e_,dv,cF,jJ,pk,fz,[],[]⟩
   let tw:bn:=⟨aw,x.cG,(dh j1.1 1 bA).1,0,⟨⟨xs.length,xs.length,0,false⟩,qn (ux c.eu.gD) xs⟩,⟨(scan bA.l).1.length,(scan bA.l).1.length,1,false⟩,[],fun _=>false,[]⟩
   have xQ:n2 tw nG=⟨some ⟨uW,0,none⟩,x.cG,some ⟨d,0,none⟩,some ⟨lp,0,none⟩,some ⟨s,0,none⟩,some ⟨cF,0,none⟩,some jJ,some pk,fz⟩:=rfl;have H:E A (aH a0 (j4.cells ⟨x.clock,x.cG,x.Gk,some ⟨lp,0,none⟩,some ⟨s,0,none⟩,some ⟨cF,0,none⟩,some jJ,some pk,fz⟩) 101::_) w:=H;rw[F,Qg,← xQ] at H;refine dp H fun w H=>?_;refine aj (x:=(some ⟨lp,0,none⟩:Option Addr)) 0 H rfl rfl rfl ?_;refine ap (y8 (H.front 4)) ?_;rintro r w ⟨rfl,H⟩;refine⟨bM aD (H.front 1) rfl rfl,?_⟩;refine ap (aH7 (H.front 6)) ?_;rintro r w ⟨rfl,H⟩;refine⟨bM aD (H.front 2) rfl rfl,?_⟩;refine ap (Kl (H.front 5)) ?_;rintro r w ⟨_,H⟩;have Pl:=aet bA.l;have J6:=aev bA.l;have D1:=dr.log bA (List.mem_of_getElem? ri);rw[J4] at H Pl J6;simp only[List.length_map] at H Pl;have H:=(kN mB 161 8 (E.shut (bT:=([]:List bC)) H)).ord [5,14,10,2,4,8,3,9,7,1,6,0]
   have H:=g_ (a0:=a0) (b:=E0 aw x.cG (dh j1.1 1 bA).1 c.eu.gD xs an.length) (q:=nG) ⟨rfl,fun _=>rfl⟩ H;have wD:=gr (H.front 1);have PM:ej.length=an.length:=by
    obtain⟨aW,_,a7⟩:=(b6.pF (b6.tail (b6.tail (b6.here (y:=mw.mono))))) H;rw[a7.1,List.length_map]
   refine hY (fun t w=>∃ k:Nat,t=(k:Int)∧k≤an.length∧E A (ka a0 ((an.take k).foldl vB (E0 aw x.cG (dh j1.1 1 bA).1 c.eu.gD xs an.length))::row X 189 1 q ej::ua ej (an.map fJ)::aH au (gK.cells c) 114::m) w) (fun t=>(an.length-t).toNat) ⟨0,rfl,by omega,H⟩ ?_;clear H;rintro t w ⟨k,rfl,aq,H⟩ aa ca;unfold M8;simp only;rw[wD,PM];split
   ·rename_i U;have U:k<an.length:=by
     have:(k:Int)<an.length:=by simpa using U
     omega
    have aR:IntKind.i64.wrap ((k:Int)+1)=((k+1:Nat):Int):=by rw[wrap_i64 (by omega) (by omega)]; omega
    obtain⟨oY,Zq⟩:=kM (i:=(k:Int)) (H.front 1) (by omega) (by omega);have ao:an[k]?=some an[k]:=List.getElem?_eq_getElem U;have wC:ej[((k:Int)).toNat]?=some (ej[k]'(by omega)):=List.getElem?_eq_getElem (by omega);have iG:an.take (k+1)=an.take k++[an[k]]:=List.take_succ_eq_append_getElem U;have G6:(fJ an[k]).length≤65536:=J6 _ (List.mem_map.2 ⟨_,List.getElem_mem _,rfl⟩);have jp:∀ aW,mw ej (an.map fJ) aW→(ej[k]'(by omega)).len≤(ej[k]'(by omega)).cap∧c3 (B .u8) (ej[k]'(by omega)) (aT (fJ an[k])) aW:=fun aW a7=>a7.2 k _ _ (List.getElem?_eq_getElem (by omega)) (by rw[List.getElem?_map,ao]; rfl);obtain⟨kt,kF⟩:=o6 k _ ao;generalize an[k]=r at ao G6 jp kt kF iG;generalize ej[k]'(by omega)=gF at wC jp;refine aP oY Zq ?_;refine aP gF (mj (fun _=>rfl) Zq wC (H.front 1)) ?_
    have tZ:b6 (ka a0 ((an.take k).foldl vB (E0 aw x.cG (dh j1.1 1 bA).1 c.eu.gD xs an.length))::row X 189 1 q ej::ua ej (an.map fJ)::aH au (gK.cells c) 114::m) (mw ej (an.map fJ)):=b6.tail (b6.tail (b6.here (y:=mw.mono)));have l_:gF.len≤gF.cap:=by
     obtain⟨aW,_,a7⟩:=tZ.pF H;exact (jp aW a7).1
    refine ap (afg l_ (by omega) (di.ro (fun _=>rfl) (tZ.imp fun aW a7=>(jp aW a7).2)) H) ?_;rintro⟨v,p,j⟩ w ⟨_,O,H⟩;rw[afd kt] at O H;simp only at O H;subst O;have aq8:=gr H;have aan:(mL r).length=6:=rfl;simp only;rw[aq8,aan,if_neg (by simp)];refine dp H fun w H=>?_;have iw:∀ (D:Nat),D<6→∃ a,cM v 5 (D:Int) a:=fun D bR=>kM H (by omega) (by rw[aan]; omega);obtain⟨Xv,i0⟩:=iw 0 (by omega);obtain⟨e9,i1⟩:=iw 1 (by omega);obtain⟨eb,i2⟩:=iw 2 (by omega);obtain⟨iC,i3⟩:=iw 3 (by omega);obtain⟨iD,i4⟩:=iw 4 (by omega);obtain⟨l8,i5⟩:=iw 5 (by omega);refine aP Xv i0 (aP e9 i1 (aP eb i2 (aP iC i3 (aP iD i4 (aP l8 i5 ?_)))));have rV:∀ {D:Nat} {a:Addr} {n:Int} {w:World} {N:List bC},cM v 5 (D:Int) a→(mL r)[D]?=some (s3 n)→E A (row Wire.hv 197 5 v (mL r)::N) w→L (B .i64) (a.add 2) w n:=fun Y F H=>qd pS Y (by rw[Int.toNat_natCast]; exact F) rfl H
    refine aP r.k (rV i0 rfl H) (aP r.x.aC (rV i1 rfl H) (aP r.x.fF (rV i2 rfl H) (aP r.x.fx (rV i3 rfl H) (aP r.x.b (rV i4 rfl H) (aP r.t (rV i5 rfl H) ?_)))));have fj:((an.take k).foldl vB (E0 aw x.cG (dh j1.1 1 bA).1 c.eu.gD xs an.length)).P=(an.take k).foldl nc []:=anY _ _;refine ap (aGg (r:=r) (by rw[fj]; exact kF) (H.front 1)) ?_;rintro _ w H;have H:=H.front 1;refine⟨rV i1 rfl H,rV i2 rfl H,rV i3 rfl H,rV i4 rfl H,?_⟩;rw[aR];refine ca _ _ ⟨k+1,rfl,by omega,?_⟩ (by omega);rw[iG,List.foldl_append];exact H.drop
   ·rename_i U;have U:k=an.length:=by
     have:¬ (k:Int)<an.length:=by simpa using U
     omega
    subst U;rw[List.take_length] at H;unfold IK;exact⟨fun h=>absurd b7 h,fun _ h=>absurd bt h,fun _ _=>⟨by trivial,((H.ord [1,2]).drop.drop).front 1⟩⟩
  ·obtain⟨aE,H⟩:=bl bt;subst aE;rw[if_pos (by simpa using bt)];refine⟨fun h=>absurd b7 h,fun _ _=>⟨by trivial,?_⟩,fun _ h=>absurd h bt⟩;exact (H.ord [1]).drop.ord [1,2,3,0]
 ·obtain⟨aJ,H⟩:=O b7;cases aJ;rw[if_pos (by simpa using b7)];exact⟨fun _=>⟨by trivial,H.ord [1,2,3,0]⟩,fun h=>absurd h b7,fun h=>absurd h b7⟩
end
theorem YM{Z:Type}(a:List Z)(j:Z)(l:List Z):(a++j::l).eraseIdx a.length=a++l:=by
 rw[List.eraseIdx_append_of_length_le (Nat.le_refl _)]; simp
theorem LA{Z:Type}(a:List Z)(j hU:Z)(l:List Z):(a++j::l).set a.length hU=a++hU::l:=by
 rw[List.set_append_right _ _ (Nat.le_refl _)]; simp
theorem aGX{Z ey:Type}{f:Z→ey}{Q:List Z}{i:Nat}{j hU:Z}(h:Q[i]?=some j)(he:f hU=f j):(Q.set i hU).map f=Q.map f:=by
 obtain⟨e8,fh,rfl,rfl⟩:=CA h;rw[LA]; simp[he]
@[reducible] def hF(au:Nat)(o:bD)(p:kj)(m:List bC):List bC:=aH au (gK.cells (iE o p)) 114::row aD 89 1 p.nodes (p.Q.map kI)::dA (p.Q.map hn)::Post.hN p.aZ o.aZ::c_ fq .i64 p.kH p.rr::row kl 53 3 p.told o.told::m
@[reducible] def hT(au:Nat)(o:bD)(p:kj)(i:Nat)(m:List bC):List bC:=aH au (gK.cells (iE o p)) 114::row aD 89 1 p.nodes (p.Q.map kI)::dA ((p.Q.eraseIdx i).map hn)::Post.hN p.aZ o.aZ::c_ fq .i64 p.kH p.rr::row kl 53 3 p.told o.told::m
def kO(o:bD)(i:Nat)(b:bn):bD:={ o with N:=o.N.set i b }
def fR(o:bD)(i:Int):Int:=match (if i<0 then none else o.N[i.toNat]?) with
 |none=>202
 |some b=>if b.K.down=true then 203 else 0
def m5(o:bD)(i:Int)(f:bn→bn×Int):bD×Int:=match (if i<0 then none else o.N[i.toNat]?) with
 |none=>(o,202)
 |some b=>if b.K.down=true then (o,203) else (kO o i.toNat (f b).1,(f b).2)
def qK(o:bD)(i:Int)(f:bn→bn×Int):bD×Int:=match (if i<0 then none else o.N[i.toNat]?) with
 |none=>(o,202)
 |some b=>(kO o i.toNat (f b).1,(f b).2)
theorem vt{o:bD}{i:Int}{f:bn→bn×Int}(h:fR o i≠0):m5 o i f=(o,fR o i):=by
 unfold m5 fR at *;split
 ·rfl
 ·rename_i b a1;rw[a1] at h;simp only at h ⊢;split
  ·rfl
  ·rename_i ag;rw[if_neg ag] at h;exact absurd rfl h
theorem pV{o:bD}{i:Int}{f:bn→bn×Int}{b:bn}(ah:0≤i)(h:o.N[i.toNat]?=some b)(ag:b.K.down=false):m5 o i f=(kO o i.toNat (f b).1,(f b).2):=by
 unfold m5;rw[if_neg (by omega),h];simp only;rw[if_neg (by simp[ag])]
section
variable {A w:World} {m bT:List bC}
theorem YV{ey:Type}{f:ey→bC}{Q:List ey}{i:Nat}{j:ey}(h:Q[i]?=some j)(H:E A (dA (Q.map f)::m) w):E A (f j::dA ((Q.eraseIdx i).map f)::m) w:=by
 obtain⟨e8,fh,rfl,rfl⟩:=CA h;rw[YM];exact Bi H
theorem OK{ey:Type}{f:ey→bC}{Q:List ey}{i:Nat}{j hU:ey}(h:Q[i]?=some j)(H:E A (f hU::dA ((Q.eraseIdx i).map f)::m) w):E A (dA ((Q.set i hU).map f)::m) w:=by
 obtain⟨e8,fh,rfl,rfl⟩:=CA h;rw[YM] at H;rw[LA];exact wj H
theorem Eo{au i a0:Nat}{b:bn}{o:bD}{p:kj}(h:p.Q[i]?=some (a0,b))(H:E A (hF au o p m) w):E A (ka a0 b::hT au o p i m) w:=(YV (f:=hn) h (H.front 2)).ord [0,2,3,1]
theorem ry{au i a0:Nat}{b cL:bn}{o:bD}{p:kj}(am:oR o p)(h:p.Q[i]?=some (a0,b))(H:E A (ka a0 cL::hT au o p i m) w) :
  oR (kO o i cL) { p with Q:=p.Q.set i (a0,cL) }∧E A (hF au (kO o i cL) { p with Q:=p.Q.set i (a0,cL) } m) w:=by
 refine⟨⟨?_,am.2⟩,?_⟩
 ·show (p.Q.set i (a0,cL)).map Prod.snd=o.N.set i cL
  rw[List.map_set,am.1]
 ·have H:E A (hn (a0,cL)::dA ((p.Q.eraseIdx i).map hn)::_) w:=H.ord [0,3];have H:=(OK (f:=hn) (i:=i) h H).ord [1,2,0];have j:(p.Q.set i (a0,cL)).map kI=p.Q.map kI:=aGX h rfl;unfold hF;rw[j];exact H
theorem wX{au i a0:Nat}{b:bn}{o:bD}{p:kj}(h:p.Q[i]?=some (a0,b))(H:E A (ka a0 b::hT au o p i m) w):E A (hF au o p m) w:=by
 obtain⟨e8,fh,ec,rfl⟩:=CA h;have H:E A (hn (a0,b)::dA ((p.Q.eraseIdx e8.length).map hn)::_) w:=H.ord [0,3];have j:p.Q.set e8.length (a0,b)=p.Q:=by rw[ec,LA]
 have H:=OK (f:=hn) h H;rw[j] at H;exact H.ord [1,2,0]
theorem sG{au:Nat}{o:bD}{p:kj}{i:Int}(am:oR o p)(kE:o.N.length≤8)(H:E A (hF au o p m) w) :
  M Pg 29 [.pointer (some ⟨au,0,none⟩),.int .i64 i] (bw aD (B .i64)) w fun r J=>
   (fR o i≠0∧r=(none,fR o i)∧E A (hF au o p m) J) ∨
   (fR o i=0∧∃ a0 b,0≤i∧p.Q[i.toNat]?=some (a0,b)∧o.N[i.toNat]?=some b∧b.K.down=false∧r=(some ⟨a0,0,none⟩,0)∧E A (ka a0 b::hT au o p i.toNat m) J):=by
 have al:p.Q.length=o.N.length:=by rw[← am.1,List.length_map]
 refine ap (Bh (by omega) H) ?_;rintro r w ⟨h,H⟩;unfold fR;rw[← am.1];simp only[List.getElem?_map];by_cases ah:i<0
 ·rw[if_pos ah] at h ⊢;exact .inl ⟨by simp,h,H⟩
 ·rw[if_neg ah] at h ⊢;rcases a8:p.Q[i.toNat]? with _ | t
  ·rw[a8] at h;exact .inl ⟨by simp,h,H⟩
  ·rw[a8] at h;obtain⟨a0,b⟩:=t;simp only[Option.map_some] at h ⊢;by_cases ag:b.K.down=true
   ·rw[if_pos ag] at h ⊢;exact .inl ⟨by simp,h,H⟩
   ·rw[if_neg ag] at h ⊢;exact .inr ⟨rfl,a0,b,by omega,rfl,rfl,by simpa using ag,h,Eo a8 H⟩
theorem Q6{au:Nat}{o:bD}{p:kj}(H:E A (hF au o p m) w):M Pg 19 [.pointer (some ⟨au,0,none⟩)] (B .i64) w fun r J=>r=o.now∧E A (hF au o p m) J:=by
 refine ahp ?_;unfold UM;refine cb rfl ?_;refine aj (x:=o.now) 0 H rfl rfl rfl ?_;exact⟨rfl,H⟩
theorem acH{au:Nat}{o:bD}{p:kj}{i:Int}(am:oR o p)(kE:o.N.length≤8)(H:E A (hF au o p m) w):M Pg 28 [.pointer (some ⟨au,0,none⟩),.int .i64 i] bk w fun r J=>r=(fR o i==0)∧E A (hF au o p m) J:=by
 refine aie ?_;unfold VH;refine ap (sG am kE H) ?_;rintro r w (⟨_,rfl,H⟩ | ⟨h,a0,b,_,a8,_,_,rfl,H⟩)
 ·exact⟨rfl,H⟩
 ·exact⟨by rw[h],wX a8 H⟩
theorem YW{au:Nat}{o:bD}{p:kj}{id:Int}(am:oR o p)(kE:o.N.length≤8)(ah:0<o.N.length)(H:E A (hF au o p m) w):M Pg 16 [.pointer (some ⟨au,0,none⟩),.int .i64 id] (bw (B .i64) (B .i64)) w fun r J=>
  r=(if id<1 then (0,0) else if fR o (Int.tmod id o.N.length)≠0 then (0,0) else match (o.N[(Int.tmod id o.N.length).toNat]?).bind fun b=>b.P.lookup id with
   |none=>(0,0)
   |some p=>(p.b4,p.at_))∧E A (hF au o p m) J:=by
 refine agY ?_;unfold Un;by_cases c:id<1
 ·rw[if_pos (by simpa using c),if_pos c];exact⟨rfl,H⟩
 ·rw[if_neg (by simpa using c),if_neg c];have aL:=gr (H.front 1);rw[List.length_map] at aL;have al:p.Q.length=o.N.length:=by rw[← am.1,List.length_map]
  refine ap (Et (c:=iE o p) (show 0<p.nodes.len by omega) H) ?_;rintro r w ⟨rfl,H⟩;rw[show ((iE o p).nodes.len:Int)=(o.N.length:Int) from by rw[show (iE o p).nodes.len=p.nodes.len from rfl,aL,al]];refine ap (sG am kE H) ?_;rintro r w (⟨I,rfl,H⟩ | ⟨I,a0,b,O,a8,a1,_,rfl,H⟩)
  ·rw[if_pos I,if_pos (by simpa using I)];exact⟨rfl,H⟩
  ·rw[if_neg (by simp),if_neg (fun h=>h I),a1];simp only[Option.bind_some];obtain⟨q,R,H⟩:=lS H;refine cb rfl ?_;refine aj (x:=some q.jJ) 0 H rfl rfl rfl ?_;refine mc 8 H rfl rfl ?_;rcases mb:b.P.lookup id with _ | pl
   ·rw[BZ (by rw[R.1]; exact mb),if_pos (by simp)];exact⟨by trivial,wX a8 (g_ R H)⟩
   ·obtain⟨dL,e8,fh,j,ec,H⟩:=Ah R mb H;rw[j,if_neg (by simp)];refine ap (Ce H) ?_;rintro r w ⟨rfl,H⟩;exact⟨by trivial,wX a8 (g_ R (EE ec H))⟩
end
abbrev W0:=gZ
abbrev uJ:=eC
structure NJ(y:hM):Prop where
 id:1≤y.Part.aC∧y.Part.aC≤2000000
 ac:0≤y.Part.cd∧y.Part.cd<4096
 n:0≤y.Part.b∧y.Part.b≤1000000000000000
 t:0≤y.b5∧y.b5≤1125899906842624
structure NK(b:bn):Prop where
 hz:IV b
 lV:sA b.P
 out:b.out.length≤800000000000
 lJ:b.P.length≤1000000
 ids:∀ j∈b.W.v.held,j.1≤4000000
structure kV(o:bD):Prop where
 len:0<o.N.length∧o.N.length≤8
 aZ:o.aZ.m.length≤1000
 lets:∀ x∈o.aZ.m,NJ x.o
 nodes:∀ b∈o.N,NK b
 told:o.told.length≤100000000000
 now:0≤o.now∧o.now≤1099511627776
 width:0≤o.eu.jA∧o.eu.jA≤1000
 eD:ju o.eu.gD
 kC:jc o.eu.kX
theorem kV.at{o:bD}(k:kV o){i:Nat}{b:bn}(h:o.N[i]?=some b):NK b:=k.nodes b (List.mem_of_getElem? h)
def xF(b:bn)(y:hM):bn:=match b.P.lookup (gH y.Part.aC) with
 |none=>b
 |some p=>{ b with P:=iO b.P (gH y.Part.aC) (F5 p (Int.tmod y.Part.aC 2==1)).1 }
def mY(n:Nat)(b:bn)(from_:Int)(y:hM):bn:=
 if y.Kind=1 then rk b from_ y.Part else if y.Kind=2 then vS n b from_ y else if y.Kind=3 then tM b from_ y else if y.Kind=4 then xF b y else b
def pD(o:bD)(i:Int):bD×Int:=
 if (Post.dH.take o.aZ i).2.2≠0 then (o,(Post.dH.take o.aZ i).2.2)
 else m5 { o with aZ:=(Post.dH.take o.aZ i).1 } (Post.dH.take o.aZ i).2.1.fx fun b=>(mY o.N.length b (Post.dH.take o.aZ i).2.1.fF (Post.dH.take o.aZ i).2.1.o,0)
def xL(o:bD)(i:Int):bD×Int:=if (o.aZ.at_ i).2≠0 then (o,(o.aZ.at_ i).2) else ({ o with aZ:=(o.aZ.put (o.aZ.at_ i).1).1 },(o.aZ.put (o.aZ.at_ i).1).2)
def B0(o:bD)(i:Int):bD×Int:=({ o with aZ:=if (o.aZ.at_ i).2=0 then { o.aZ with m:=o.aZ.m.eraseIdx i.toNat } else o.aZ },(o.aZ.at_ i).2)
theorem aHT{b:Post.dH}{i:Int}(h:(b.take i).2.2≠0):(b.take i).1=b:=by
 unfold Post.dH.take at h ⊢;split
 ·rfl
 ·rename_i I;rw[if_neg I] at h;split
  ·rfl
  ·rename_i O;rw[if_neg O] at h;exact absurd rfl h
theorem SD{b:Post.dH}{i:Int}(h:(b.take i).2.2=0):(b.take i).2.1∈b.m∧(b.take i).1={ b with m:=b.m.eraseIdx i.toNat }:=by
 unfold Post.dH.take at h ⊢;split
 ·rename_i I; rw[if_pos I] at h; exact absurd h I
 ·rename_i I;rw[if_neg I] at h;split
  ·rename_i O; rw[if_pos O] at h; cases h
  ·have I:=Classical.not_not.1 I;have aJ:=b.I9 I;have F:b.m[i.toNat]?=some (b.m[i.toNat]'(by omega)):=List.getElem?_eq_getElem (by omega);rw[b.I8 aJ.1 F];exact⟨List.getElem_mem _,rfl⟩
section
variable {A w:World} {m bT:List bC}
theorem k2{au:Nat}{o:bD}(H:E A (ch au o::m) w):∃ p:kj,oR o p∧E A (hF au o p m) w:=alF H
theorem alT{au:Nat}{o:bD}{i:Int}(k:kV o)(H:E A (ch au o::m) w):M Pg 46 [.pointer (some ⟨au,0,none⟩),.int .i64 i] (B .i64) w fun r J=>r=(xL o i).2∧E A (ch au (xL o i).1::m) J:=by
 obtain⟨p,am,H⟩:=k2 H;refine aiw ?_;unfold V1;refine cb rfl ?_;refine aj (x:=some ⟨p.aZ,0,none⟩) 0 H rfl rfl rfl ?_;refine ap (Post.alU (H.front 3) k.aZ i) ?_;rintro r w ⟨rfl,H⟩;unfold xL;by_cases c:(o.aZ.at_ i).2≠0
 ·simp only[if_pos c] at H ⊢;exact⟨by trivial,fI am (H.ord [1,2,3])⟩
 ·simp only[if_neg c] at H ⊢;exact⟨by trivial,fI (o:={ o with aZ:=(o.aZ.put (o.aZ.at_ i).1).1 }) am (H.ord [1,2,3])⟩
theorem aCe{au:Nat}{o:bD}{i:Int}(k:kV o)(H:E A (ch au o::m) w):M Pg 47 [.pointer (some ⟨au,0,none⟩),.int .i64 i] (B .i64) w fun r J=>r=(B0 o i).2∧E A (ch au (B0 o i).1::m) J:=by
 obtain⟨p,am,H⟩:=k2 H;refine aix ?_;unfold V2;refine cb rfl ?_;refine aj (x:=some ⟨p.aZ,0,none⟩) 0 H rfl rfl rfl ?_;refine ap (Post.aCf (H.front 3) k.aZ i) ?_;rintro r w ⟨rfl,H⟩;exact⟨rfl,fI (o:=(B0 o i).1) am (H.ord [1,2,3])⟩
theorem Kv{au:Nat}{o:bD}(k:kV o)(H:E A (ch au o::m) w):M Pg 18 [.pointer (some ⟨au,0,none⟩)] X w fun r J=>E A (row uJ 64 10 r o.aZ.m::ch au o::m) J:=by
 obtain⟨p,am,H⟩:=k2 H;refine ahi ?_;unfold UF;refine cb rfl ?_;refine aj (x:=some ⟨p.aZ,0,none⟩) 0 H rfl rfl rfl ?_;refine ap (Post.aB6 (H.front 3) k.aZ) ?_;intro r w H;exact (fI am (H.ord [2,3,4,1,5,6,0])).front 1
theorem alA{v:af}{xs:List bg}(H:E A (row kl 53 3 v xs::m) w)(al:xs.length≤100000000000):M Pg 53 [X.enc v] X w fun r J=>E A (row kl 53 3 r xs::row kl 53 3 v xs::m) J:=by
 refine aiE ?_;unfold V8;split
 ·rename_i U;rcases oG H with ⟨rfl,rfl,_⟩ | ⟨e9,rest,I,_⟩
  ·exact kN _ _ _ H
  ·simp[I] at U
 ·refine vq H fun l w H=>?_;have H:=us (ar:=3) (y:=0) (xs:=[]) rfl H;refine Dp (xs:=[]) (new:=xs) (fun _=>rfl) 0 H rfl (C7 (H.front 1)) (by simp; omega) fun r w H=>?_;exact H
theorem CB{au:Nat}{o:bD}(k:kV o)(H:E A (ch au o::m) w):M Pg 15 [.pointer (some ⟨au,0,none⟩)] X w fun r J=>E A (row kl 53 3 r o.told::ch au o::m) J:=by
 obtain⟨p,am,H⟩:=k2 H;refine agQ ?_;unfold Ud;refine cb rfl ?_;refine aj (x:=p.told) 0 H rfl rfl rfl ?_;refine ap (alA (H.front 5) k.told) ?_;intro r w H;exact (fI am (H.ord [2,3,4,5,6,1,0])).front 1
theorem alN{n:Nat}{b:bn}{f:Int}{y:hM}(h:y.Kind=1):mY n b f y=rk b f y.Part:=by unfold mY; rw[if_pos h]
theorem alP{n:Nat}{b:bn}{f:Int}{y:hM}(h:y.Kind=2):mY n b f y=vS n b f y:=by unfold mY; rw[if_neg (by omega),if_pos h]
theorem alM{n:Nat}{b:bn}{f:Int}{y:hM}(h:y.Kind=3):mY n b f y=tM b f y:=by unfold mY; rw[if_neg (by omega),if_neg (by omega),if_pos h]
theorem alL{n:Nat}{b:bn}{f:Int}{y:hM}(h:y.Kind=4):mY n b f y=xF b y:=by unfold mY; rw[if_neg (by omega),if_neg (by omega),if_neg (by omega),if_pos h]
theorem alO{n:Nat}{b:bn}{f:Int}{y:hM}(I:y.Kind≠1)(O:y.Kind≠2)(aJ:y.Kind≠3)(bl:y.Kind≠4):mY n b f y=b:=by unfold mY; rw[if_neg I,if_neg O,if_neg aJ,if_neg bl]
theorem Ok{au:Nat}{o:bD}{i:Int}(k:kV o)(H:E A (ch au o::m) w):M Pg 36 [.pointer (some ⟨au,0,none⟩),.int .i64 i] (B .i64) w fun r J=>r=(pD o i).2∧E A (ch au (pD o i).1::m) J:=by
 obtain⟨p,am,H⟩:=k2 H;refine ail ?_;unfold VQ;refine cb rfl ?_;refine aj (x:=some ⟨p.aZ,0,none⟩) 0 H rfl rfl rfl ?_;refine ap (Post.SE (H.front 3) k.aZ i) ?_;rintro r w ⟨rfl,H⟩;refine bP H fun Gb w H=>?_;refine c5 (x:=lb) (S:=(o.aZ.take i).2.1) wQ 0 H rfl fun w H=>?_;by_cases b7:(o.aZ.take i).2.2=0
 ·rw[if_neg (by simp[b7])];have xQ:pD o i=m5 { o with aZ:=(o.aZ.take i).1 } (o.aZ.take i).2.1.fx fun b=>(mY o.N.length b (o.aZ.take i).2.1.fF (o.aZ.take i).2.1.o,0):=by unfold pD; rw[if_neg (fun h=>h b7)]
  rw[xQ];have BK:=k.lets _ (SD b7).1;generalize (o.aZ.take i).2.1=x at *;generalize (o.aZ.take i).1=Em at *;refine aj (x:=x.fx) 0 H rfl rfl rfl ?_;have u6:oR { o with aZ:=Em } p:=am;have H:E A (hF au { o with aZ:=Em } p (aH Gb (uJ.cells x) 64::m)) w:=H.ord [2,3,4,1,5,6,0];refine ap (sG u6 k.len.2 H) ?_;rintro r w (⟨I,rfl,H⟩ | ⟨I,a0,b,O,a8,a1,ag,rfl,H⟩)
  ·rw[if_pos (by simpa using I),vt I];exact⟨rfl,fI u6 (H.front 6).drop⟩
  ·rw[if_neg (by simp),pV O a1 ag];simp only at a1;have ok:=k.at a1;have g4:∀ (cL:bn) (w:World),cL=mY o.N.length b x.fF x.o→E A (ka a0 cL::hT au { o with aZ:=Em } p x.fx.toNat (aH Gb (uJ.cells x) 64::m)) w→xn w fun r J=>r=(0:Int)∧E A (ch au (kO { o with aZ:=Em } x.fx.toNat (mY o.N.length b x.fF x.o))::m) J:=by
    intro cL w j H;subst j;unfold xn;obtain⟨bA,H⟩:=ry u6 a8 H;exact⟨rfl,fI bA (H.front 6).drop⟩
   refine aj (x:=x.o.Kind) 7 H rfl rfl rfl ?_;by_cases dn:x.o.Kind=1
   ·rw[if_pos (by simpa using dn)];refine aj (x:=x.fF) 7 H rfl rfl rfl ?_;refine aj (x:=x.o.Part) 7 H rfl rfl rfl ?_;refine ap (aqw (p:=x.o.Part) ok.hz (by have:=ok.out; omega) ⟨by simp,by simp,by have:=BK.id; simp only; omega,by have:=BK.ac; simp only; omega,by have:=BK.n; simp only; omega⟩ H) ?_;intro _ w H;exact g4 _ w (alN dn).symm H
   ·rw[if_neg (by simpa using dn)];by_cases dY:x.o.Kind=2
    ·rw[if_pos (by simpa using dY)];refine aj (x:=x.fF) 7 H rfl rfl rfl ?_;refine aj (x:=x.o) 7 H rfl rfl rfl ?_;have aL:=gr (H.front 2);rw[List.length_map] at aL;have PK:p.Q.length=o.N.length:=by rw[← am.1,List.length_map]
     have yd:(iE { o with aZ:=Em } p).nodes.len=o.N.length:=by rw[← PK]; exact aL
     refine ap (aIs (c:=iE { o with aZ:=Em } p) (by have:=k.len.1; omega) ok.hz ok.lV ok.out (by have:=BK.id; omega) (H.ord [1,0])) ?_;intro _ w H;rw[yd] at H;exact g4 _ w (alP dY).symm (H.front 1)
    ·rw[if_neg (by simpa using dY)];by_cases gM:x.o.Kind=3
     ·rw[if_pos (by simpa using gM)];refine aj (x:=x.fF) 7 H rfl rfl rfl ?_;refine aj (x:=x.o) 7 H rfl rfl rfl ?_;refine ap (al5 ok.hz (by have:=ok.out; omega) (by have dq:=BK.id; have iu:=BK.t; unfold q6; split<;>(constructor<;>(constructor<;>(simp only; omega)))) H) ?_;intro _ w H;exact g4 _ w (alM gM).symm H
     ·rw[if_neg (by simpa using gM)];by_cases jG:x.o.Kind=4
      ·rw[if_pos (by simpa using jG)];refine dp H fun w H=>?_;refine cb rfl ?_;obtain⟨q,R,H⟩:=lS H;refine aj (x:=some q.jJ) 0 H rfl rfl rfl ?_;refine aj (x:=x.o.Part.aC) 18 H rfl rfl rfl ?_;refine ap (SJ (by have:=BK.id; omega) H) ?_;rintro r w ⟨rfl,H⟩;refine⟨bM ek H rfl rfl,?_⟩;refine mc 8 H rfl rfl ?_;rw[show Int.tdiv (x.o.Part.aC+1) 2=gH x.o.Part.aC from rfl];have m0:mY o.N.length b x.fF x.o=xF b x.o:=alL jG;rcases al:b.P.lookup (gH x.o.Part.aC) with _ | pl
       ·rw[BZ (by rw[R.1]; exact al)];rw[if_neg (by simp)];exact g4 b w (by rw[m0]; unfold xF; rw[al]) (g_ R H)
       ·obtain⟨dL,e8,fh,j,ec,H⟩:=Ah R al H;rw[j,if_pos (by simp)];refine aj (x:=x.o.Part.aC) 19 H rfl rfl rfl ?_;refine ap (K6 H) ?_;rintro r w ⟨_,H⟩;obtain⟨bA,H⟩:=Cf R ec H;exact g4 _ w (by rw[m0]; unfold xF; rw[al]) (g_ bA H)
      ·rw[if_neg (by simpa using jG)];exact g4 b w (alO dn dY gM jG).symm H
 ·rw[if_pos (by simpa using b7)];have xQ:pD o i=(o,(o.aZ.take i).2.2):=by unfold pD; rw[if_pos b7]
  rw[xQ];have aR:=aHT b7;have H:=H.drop;rw[aR] at H;exact⟨rfl,fI am (H.ord [1,2,3])⟩
end
theorem akd{K:cR}{n:Int}{av:List UInt8}(h:K.hD):(ot K n av).1.hD:=by
 unfold ot;by_cases c:0≤n
 ·refine I3 h fun aG g R=>?_;have I:=h.log g (List.mem_of_getElem? R);have j:Disk.sizeOf K n=g.l.length:=by unfold Disk.sizeOf; rw[if_pos c,R]
  rw[j] at aG;simp only[List.length_append];omega
 ·unfold j6;rw[if_pos (by omega)];exact h
theorem aHJ{K:cR}{n:Int}(h:K.hD):(oJ K n).1.hD:=by
 unfold oJ;refine I3 h fun aG g R=>?_;have I:=h.log g (List.mem_of_getElem? R);simp only;omega
theorem I7{K:cR}{V:nr}{x:List UInt8}(h:K.hD):(gm K V x).1.hD:=by
 unfold gm;split
 ·exact h
 ·split
  ·exact h
  ·exact akd h
theorem LH{K:cR}{V:nr}(h:K.hD):(gu K V).1.hD:=by
 unfold gu;split
 ·exact h
 ·exact aHJ h
theorem Yh{K:cR}{W:qU}{x:dO}(h:K.hD):(fP K W x).1.hD:=by
 unfold fP;split
 ·split
  ·exact I7 h
  ·exact I7 h
 ·exact h
theorem ama{K:cR}{W:qU}{x:dO}(h:Fit W.v)(F:x.aC≤9223372036854775807):Fit (fP K W x).2.1.v:=by
 unfold fP;split
 ·split
  ·exact Y5 h F
  ·exact h
 ·exact h
def EB(b:bn)(z:cR×qU×Int):bn×Int:=
 if z.2.2≠0 then ({ b with K:=z.1,W:=z.2.1 },z.2.2) else ({ b with K:=(gu z.1 z.2.1.V).1,W:=⟨(gu z.1 z.2.1.V).2.1,z.2.1.v⟩ },(gu z.1 z.2.1.V).2.2)
def yO(b:bn)(a n:Int)(s:hk×Int×Int×Int):bn×Int:=
 if s.2.2.2≠0 then ({ b with aw:=s.1,src:=s.2.1 },s.2.2.2) else EB { b with aw:=s.1,src:=s.2.1 } (fP b.K b.W ⟨1,s.2.2.1,0,a,n,false⟩)
def yP(b:bn)(a n:Int):bn×Int:=yO b a n (gz b.aw b.cG b.src [])
def vv(o:bD)(a n:Int):bD×Int:=if a<0∨4096≤a then (o,153) else m5 o (Int.tmod a o.N.length) fun b=>yP b a n
def B5(n:Nat)(b:bn)(x:oo)(z:cR×nr×Int):bn×Int:=
 if z.2.2≠0 then ({ b with K:=z.1,A:=z.2.1 },z.2.2) else ({ b with K:=z.1,A:=z.2.1,P:=b.P++[(x.aC,jI x)],out:=b.out++jQ n (jI x) },0)
def s9(n:Nat)(b:bn)(x:oo):bn×Int:=if (b.P.lookup x.aC).isSome=true then (b,204) else B5 n b x (gm b.K b.A (fJ ⟨1,x,0⟩))
def pT(o:bD)(x:oo):bD×Int:=if jw x≠0 then (o,jw x) else m5 o (Int.tmod x.aC o.N.length) fun b=>s9 o.N.length b x
def rQ(n:Nat)(b:bn)(id:Int):bn×Int:=match b.P.lookup id with
 |none=>(b,205)
 |some p=>if p.b4≠0 then (b,176) else nU n b id p 3 0
def xD(o:bD)(id:Int):bD×Int:=if id<1 then (o,205) else m5 o (Int.tmod id o.N.length) fun b=>rQ o.N.length b id
section
variable {A w:World} {m bT:List bC}
theorem zE{au:Nat}{o:bD}{p:kj}(am:oR o p)(H:E A (hF au o p m) w):(iE o p).nodes.len=o.N.length:=by
 have aL:=gr (H.front 1);rw[List.length_map] at aL;rw[← am.1,List.length_map];exact aL
theorem Rl{au:Nat}{o:bD}{a n:Int}(k:kV o)(ax:-9223372036854775808≤n∧n≤9223372036854775807)(H:E A (ch au o::m) w):M Pg 44 [.pointer (some ⟨au,0,none⟩),.int .i64 a,.int .i64 n] (B .i64) w fun r J=>r=(vv o a n).2∧E A (ch au (vv o a n).1::m) J:=by
 obtain⟨p,am,H⟩:=k2 H;refine aiu ?_;unfold VZ vv;by_cases c:a<0∨4096≤a
 ·rw[if_pos (by simp; omega),if_pos c];exact⟨rfl,fI am H⟩
 ·rw[if_neg (by simp; omega),if_neg c];have aL:=zE am H;refine ap (Et (c:=iE o p) (by have:=k.len.1; omega) H) ?_;rintro r w ⟨rfl,H⟩;rw[aL];refine ap (sG am k.len.2 H) ?_;rintro r w (⟨I,rfl,H⟩ | ⟨I,a0,b,O,a8,a1,ag,rfl,H⟩)
  ·rw[if_pos (by simpa using I),vt I];exact⟨rfl,fI am H⟩
  ·rw[if_neg (by simp),pV O a1 ag];have ok:=k.at a1;obtain⟨q,R,H⟩:=lS H;have fin:∀ (cL:bn) (gx:kB) (w:World),Fits cL gx→E A (eX a0 cL gx (hT au o p (Int.tmod a o.N.length).toNat m)) w→E A (ch au (kO o (Int.tmod a o.N.length).toNat cL)::m) w:=by
    intro cL gx w R H;obtain⟨bA,H⟩:=ry am a8 (g_ R H);exact fI bA H
   have ll:=Sv (a0:=a0) (c:=q.aw) (s:=q.src) (x:=n2 b q) (aw:=b.aw) (src:=b.src) (q:=fz) (ie:=[]) ok.hz.aw rfl rfl ok.hz.rd (by simp) Lz (H.ord [0,1,3]);refine ap ll ?_;clear ll;rintro r w ⟨rfl,H⟩;have lN:=At (aw:=b.aw) (rd:=b.cG) (N:=[]) ok.hz.src.2;have es:gz b.aw (n2 b q).cG b.src []=gz b.aw b.cG b.src []:=rfl;rw[es] at H ⊢;have YJ:yP b a n=yO b a n (gz b.aw b.cG b.src []):=rfl;rw[YJ];clear YJ es;generalize gz b.aw b.cG b.src []=bd at *;obtain⟨hd,jK,t,j⟩:=bd;simp only at H lN ⊢;have H:E A (eX a0 { b with aw:=hd,src:=jK } q (hT au o p (Int.tmod a o.N.length).toNat m)) w:=H.ord [0,1,3,2];by_cases ce:j=0
   ·subst ce;rw[if_neg (by simp)];have aS:=lN.2 rfl;refine cb rfl ?_;refine aj (x:=some ⟨q.iN,0,none⟩) 0 H rfl rfl rfl ?_;refine ap (DA (W:=b.W) ok.hz.K ok.hz.v (x:=⟨1,t,0,a,n,false⟩) ⟨by simp,by simp only; omega,by simp,by simp only; omega,ax⟩ (H.ord [4,5,6,2])) ?_;rintro r w ⟨rfl,H⟩;have aR:yO b a n (hd,jK,t,0)=EB { b with aw:=hd,src:=jK } (fP b.K b.W ⟨1,t,0,a,n,false⟩):=by unfold yO; rw[if_neg (by simp)]
    rw[aR];clear aR;have ak:=Yh (x:=⟨1,t,0,a,n,false⟩) (W:=b.W) ok.hz.K;generalize fP b.K b.W ⟨1,t,0,a,n,false⟩=z at *;obtain⟨ee,iZ,j⟩:=z;simp only at H ak ⊢;have H:E A (eX a0 { b with aw:=hd,src:=jK,K:=ee,W:=iZ } q (hT au o p (Int.tmod a o.N.length).toNat m)) w:=H.ord [4,5,3,6,0,1,2];unfold EB;by_cases ce:j=0
    ·subst ce;rw[if_neg (by simp)];simp only[ne_eq,not_true_eq_false,if_false];refine aj (x:=some ⟨q.iN,0,none⟩) 0 H rfl rfl rfl ?_;refine cb rfl ?_;refine aj (x:=some ⟨q.e_,0,none⟩) 4 H rfl rfl rfl ?_;refine ap (Sz ak (H.ord [5,2])) ?_;rintro r w ⟨rfl,H⟩;exact⟨rfl,fin { b with aw:=hd,src:=jK,K:=(gu ee iZ.V).1,W:=⟨(gu ee iZ.V).2.1,iZ.v⟩ } q w R (H.ord [2,3,1,4,5,0])⟩
    ·rw[if_pos (by simpa using ce)];simp only[if_pos ce];exact⟨by trivial,fin { b with aw:=hd,src:=jK,K:=ee,W:=iZ } q w R H⟩
   ·rw[if_pos (by simpa using ce)];have aR:yO b a n (hd,jK,t,j)=({ b with aw:=hd,src:=jK },j):=by unfold yO; rw[if_pos ce]
    rw[aR];exact⟨rfl,fin { b with aw:=hd,src:=jK } q w R H⟩
theorem abF{au:Nat}{o:bD}{x:oo}(k:kV o)(H:E A (ch au o::m) w):M Pg 45 [.pointer (some ⟨au,0,none⟩),gk.enc x] (B .i64) w fun r J=>r=(pT o x).2∧E A (ch au (pT o x).1::m) J:=by
 obtain⟨p,am,H⟩:=k2 H;refine aiv ?_;unfold V0 pT;refine bP H fun iC w H=>?_;refine eh (x:=x) 0 H rfl ?_;refine ap (acG H) ?_;rintro⟨gN,bv⟩ w ⟨I,O⟩;by_cases cx:jw x=0
 ·obtain⟨aJ,dL,bl,H⟩:=I cx;simp only at aJ bl;subst aJ; subst bl;rw[if_neg (by simp),if_neg (by simp[cx])];have F:=Ay cx;refine aj (x:=x.aC) 1 H rfl rfl rfl ?_;have H:E A (hF au o p (gE dL (jI x)::aH iC (gk.cells x) 31::m)) w:=H.ord [2,3,4,5,6,7,0,1];have aL:=zE am H;refine ap (Et (c:=iE o p) (by have:=k.len.1; omega) H) ?_;rintro r w ⟨rfl,H⟩;rw[aL];refine ap (sG am k.len.2 H) ?_;rintro r w (⟨I,rfl,H⟩ | ⟨I,a0,b,O,a8,a1,ag,rfl,H⟩)
  ·rw[if_pos (by simpa using I),vt I];exact⟨rfl,fI am ((H.ord [6,7]).drop.drop)⟩
  ·rw[if_neg (by simp),pV O a1 ag];have ok:=k.at a1;obtain⟨q,R,H⟩:=lS H;have fin:∀ (cL:bn) (gx:kB) (w:World),Fits cL gx→E A (eX a0 cL gx (hT au o p (Int.tmod x.aC o.N.length).toNat m)) w→E A (ch au (kO o (Int.tmod x.aC o.N.length).toNat cL)::m) w:=by
    intro cL gx w R H;obtain⟨bA,H⟩:=ry am a8 (g_ R H);exact fI bA H
   refine dp H fun w H=>?_;refine cb rfl ?_;refine aj (x:=some q.jJ) 0 H rfl rfl rfl ?_;refine aj (x:=x.aC) 19 H rfl rfl rfl ?_;refine mc 8 H rfl rfl ?_;rcases al:b.P.lookup x.aC with _ | pl
   ·rw[BZ (by rw[R.1]; exact al),if_neg (by simp)];refine dp H fun w H=>?_;refine aj (x:=some ⟨q.cF,0,none⟩) 0 H rfl rfl rfl ?_;refine aj (x:=x) 19 H rfl rfl (tF _) ?_;have jn:oS ⟨1,x,0⟩:=Ea (by omega) cx (by omega);refine ap (aeb jn H) ?_;intro r w H;refine⟨bM aD (H.front 1) rfl rfl,?_⟩;have g3:=DF jn;refine ap (N0 (x:=fJ ⟨1,x,0⟩) ok.hz.K (by omega) (di.row (fun _=>rfl) 0 rfl) (H.ord [8,3])) ?_;rintro j w ⟨rfl,H⟩;refine⟨bM gk (H.front 20) rfl (tF _),?_⟩;have em:s9 o.N.length b x=B5 o.N.length b x (gm b.K b.A (fJ ⟨1,x,0⟩)):=by unfold s9; rw[al,if_neg (by simp)]
    rw[em];clear em;generalize gm b.K b.A (fJ ⟨1,x,0⟩)=z at *;obtain⟨ee,lE,j⟩:=z;simp only at H ⊢;unfold B5;by_cases ce:j=0
    ·subst ce;rw[if_neg (by simp)];simp only[ne_eq,not_true_eq_false,if_false];refine dp H fun w H=>?_;refine aj (x:=some q.jJ) 3 H rfl rfl rfl ?_;refine aj (x:=x.aC) 20 H rfl rfl rfl ?_;refine r8 9 H rfl rfl fun w H=>?_;refine ap (N4 (c:=iE o p) (x:=n2 b q) (p:=jI x) (by have:=k.len.1; omega) (by show 0≤x.aC∧x.aC≤1000000000000; omega) (by have:=ok.out; omega) (H.ord [13,19,4,12])) ?_;rintro r w ⟨G,H⟩;rw[aL] at H;obtain⟨bA,H⟩:=acC (b:={ b with K:=ee,A:=lE,out:=b.out++jQ o.N.length (jI x) }) (q:={ q with out:=G }) R al (H.ord [1,2,8,6,9,10,11,12,5,4,13,14,3]);exact⟨by trivial,fin _ _ w bA ((H.ord [13,19]).drop.drop)⟩
    ·rw[if_pos (by simpa using ce)];simp only[if_pos ce];exact⟨by trivial,fin { b with K:=ee,A:=lE } q w R (((H.ord [19,20,2]).drop.drop.drop).ord [2,3,1,4,5,6,7,0,8])⟩
   ·obtain⟨HM,e8,fh,j,ec,H⟩:=Ah R al H;rw[j,if_pos (by simp)];have H:=EE ec H;have em:s9 o.N.length b x=(b,204):=by unfold s9; rw[al,if_pos (by simp)]
    rw[em];exact⟨rfl,fin b q w R ((H.ord [18,19]).drop.drop)⟩
 ·obtain⟨aJ,H⟩:=O cx;cases aJ;rw[if_pos (by simpa using cx),if_pos cx];exact⟨rfl,fI am H.drop⟩
theorem ajU{au:Nat}{o:bD}{id:Int}(k:kV o)(H:E A (ch au o::m) w):M Pg 52 [.pointer (some ⟨au,0,none⟩),.int .i64 id] (B .i64) w fun r J=>r=(xD o id).2∧E A (ch au (xD o id).1::m) J:=by
 obtain⟨p,am,H⟩:=k2 H;refine aiD ?_;unfold V7 xD;by_cases c:id<1
 ·rw[if_pos (by simpa using c),if_pos c];exact⟨rfl,fI am H⟩
 ·rw[if_neg (by simpa using c),if_neg c];have aL:=zE am H;refine ap (Et (c:=iE o p) (by have:=k.len.1; omega) H) ?_;rintro r w ⟨rfl,H⟩;rw[aL];refine ap (sG am k.len.2 H) ?_;rintro r w (⟨I,rfl,H⟩ | ⟨I,a0,b,O,a8,a1,ag,rfl,H⟩)
  ·rw[if_pos (by simpa using I),vt I];exact⟨rfl,fI am H⟩
  ·rw[if_neg (by simp),pV O a1 ag];have ok:=k.at a1;obtain⟨q,R,H⟩:=lS H;have fin:∀ (cL:bn) (w:World),E A (ka a0 cL::hT au o p (Int.tmod id o.N.length).toNat m) w→E A (ch au (kO o (Int.tmod id o.N.length).toNat cL)::m) w:=by
    intro cL w H;obtain⟨bA,H⟩:=ry am a8 H;exact fI bA H
   refine cb rfl ?_;refine aj (x:=some q.jJ) 0 H rfl rfl rfl ?_;refine mc 8 H rfl rfl ?_;rcases al:b.P.lookup id with _ | pl
   ·rw[BZ (by rw[R.1]; exact al),if_pos (by simp)];have em:rQ o.N.length b id=(b,205):=by unfold rQ; rw[al]
    rw[em];exact⟨rfl,fin b w (g_ R H)⟩
   ·obtain⟨HM,e8,fh,j,ec,H⟩:=Ah R al H;rw[j,if_neg (by simp)];refine ap (Ce H) ?_;rintro r w ⟨rfl,H⟩;simp only;by_cases b7:pl.b4=0
    ·rw[if_neg (by simp[b7])];have em:rQ o.N.length b id=nU o.N.length b id pl 3 0:=by unfold rQ; rw[al]; simp only; rw[if_neg (fun h=>h b7)]
     rw[em];refine ap (Og (c:=iE o p) (k:=3) (t:=0) R ec (by have:=k.len.1; omega) (ok.lV _ _ al).2 (.inr rfl) (by omega) (by have:=ok.out; omega) ok.hz.K (H.front 13)) ?_;rintro r w ⟨rfl,H⟩;rw[aL] at H ⊢;exact⟨rfl,fin _ w (H.front 1)⟩
    ·rw[if_pos (by simpa using b7)];have em:rQ o.N.length b id=(b,176):=by unfold rQ; rw[al]; simp only; rw[if_pos b7]
     rw[em];exact⟨rfl,fin b w (g_ R (EE ec H))⟩
end
def sK(P:List (Int×bN))(x:Int):Bool:=match P.lookup x with
 |some p=>p.b4 != 0
 |none=>false
def so(aZ:Post.dH)(i:Int)(out:List p8):Post.dH:=out.foldl (fun t s=>(t.send i s.h5 s.y).1) aZ
def y3(b:bn)(l:cR×nr×Int):bn×Int:=
 if l.2.2≠0 then ({ b with K:=l.1,A:=l.2.1 },l.2.2) else ({ b with K:=l.1,A:=l.2.1,out:=[],sure:=fun x=>b.sure x||sK b.P x },0)
def vH(b:bn)(a:cR×nr×Int):bn×Int:=
 if a.2.2≠0 then ({ b with K:=a.1,W:=⟨a.2.1,b.W.v⟩ },a.2.2) else y3 { b with K:=a.1,W:=⟨a.2.1,b.W.v⟩ } (gu a.1 b.A)
def nh(b:bn):bn×Int:=vH b (gu b.K b.W.V)
def qD(o:bD)(i:Int):bD×Int:=
 if fR o i≠0 then (o,fR o i) else
  (if (m5 o i nh).2=0 then { (m5 o i nh).1 with aZ:=so o.aZ i (((o.N[i.toNat]?).map bn.out).getD []) } else (m5 o i nh).1,(m5 o i nh).2)
theorem acK{b:Post.dH}{x:W0}(h:b.m.length≤1000):(b.put x).1.m.length≤1000:=by
 unfold Post.dH.put;split
 ·exact h
 ·simp; omega
theorem aGR{b:Post.dH}{f t:Int}{y:hM}(h:b.m.length≤1000):(b.send f t y).1.m.length≤1000:=by
 unfold Post.dH.send;split
 ·exact h
 ·split
  ·exact h
  ·exact acK h
theorem Sn{i:Int}:∀ {out:List p8} {b:Post.dH},b.m.length≤1000→(so b i out).m.length≤1000
 |[],_,h=>h
 |s::out,b,h=>Sn (out:=out) (aGR h)
theorem z9{ey:Type}:∀ {N:List (Int×ey)} {k:Int} {v:ey},(N.map (·.1)).Nodup→(k,v)∈N→N.lookup k=some v
 |[],_,_,_,h=>by cases h
 |(a,l)::N,k,v,aL,h=>by
  simp only[List.map_cons,List.nodup_cons] at aL;simp only[List.lookup];rcases List.mem_cons.1 h with h | h
  ·cases h; simp
  ·have:k≠a:=fun j=>aL.1 (List.mem_map.2 ⟨(k,v),h,j⟩);have j:(k==a)=false:=by simpa using this
   rw[j];exact z9 aL.2 h
theorem abc(Q:List (Int×Nat×bN)):(Q.map iV).map (·.1)=(Q.map qp).map (·.1):=by simp[List.map_map,Function.comp_def,iV,qp]
theorem al4{Q:List (Int×Nat×bN)}{x:Int}(h:sK (Q.map qp) x=true):((Q.map iV).any fun t=>t.1==x)=true:=by
 unfold sK at h;rcases al:(Q.map qp).lookup x with _ | p
 ·rw[al] at h; cases h
 ·obtain⟨e8,fh,dL,rfl,_⟩:=vn al;rw[List.any_eq_true];exact⟨iV (x,dL,p),List.mem_map.2 ⟨_,by simp,rfl⟩,by simp[iV]⟩
section
variable {A w:World} {m bT:List bC}
theorem Sy{au:Nat}{o:bD}{i:Int}(k:kV o)(H:E A (ch au o::m) w):M Pg 35 [.pointer (some ⟨au,0,none⟩),.int .i64 i] (B .i64) w fun r J=>r=(qD o i).2∧E A (ch au (qD o i).1::m) J:=by
 obtain⟨p,am,H⟩:=k2 H;refine aik ?_;unfold VP;refine ap (sG am k.len.2 H) ?_;rintro r w (⟨I,rfl,H⟩ | ⟨I,a0,b,O,a8,a1,ag,rfl,H⟩)
 ·rw[if_pos (by simpa using I)];have j:qD o i=(o,fR o i):=by unfold qD; rw[if_pos I]
  rw[j];exact⟨rfl,fI am H⟩
 ·rw[if_neg (by simp)];have ok:=k.at a1;have es:qD o i=(if (nh b).2=0 then { kO o i.toNat (nh b).1 with aZ:=so o.aZ i b.out } else kO o i.toNat (nh b).1,(nh b).2):=by
   unfold qD;rw[if_neg (fun h=>h I),pV O a1 ag,a1];rfl
  rw[es];clear es;obtain⟨q,R,H⟩:=lS H;have fin:∀ (cL:bn) (gx:kB) (w:World),Fits cL gx→E A (eX a0 cL gx (hT au o p i.toNat m)) w→E A (ch au (kO o i.toNat cL)::m) w:=by
   intro cL gx w R H;obtain⟨bA,H⟩:=ry am a8 (g_ R H);exact fI bA H
  refine cb rfl ?_;refine aj (x:=some ⟨q.iN,0,none⟩) 0 H rfl rfl rfl ?_;refine cb rfl ?_;refine aj (x:=some ⟨q.e_,0,none⟩) 4 H rfl rfl rfl ?_;refine ap (Sz ok.hz.K (H.ord [5,2])) ?_;rintro r w ⟨rfl,H⟩;have ak:=LH (V:=b.W.V) ok.hz.K;have aR:nh b=vH b (gu b.K b.W.V):=rfl;rw[aR];clear aR;generalize gu b.K b.W.V=a at *;obtain⟨vX,px,j⟩:=a;simp only at H ak ⊢;have H:E A (eX a0 { b with K:=vX,W:=⟨px,b.W.v⟩ } q (hT au o p i.toNat m)) w:=H.ord [2,3,1,4,5,0];by_cases ce:j=0
  ·subst ce;rw[if_neg (by simp)];have aR:vH b (vX,px,0)=y3 { b with K:=vX,W:=⟨px,b.W.v⟩ } (gu vX b.A):=by unfold vH; rw[if_neg (by simp)]
   rw[aR];clear aR;refine aj (x:=some ⟨q.cF,0,none⟩) 0 H rfl rfl rfl ?_;refine ap (Sz ak (H.ord [7,2])) ?_;rintro r w ⟨rfl,H⟩;generalize gu vX b.A=l at *;obtain⟨kW,uK,j⟩:=l;simp only at H ⊢;have H:E A (eX a0 { b with K:=kW,W:=⟨px,b.W.v⟩,A:=uK } q (hT au o p i.toNat m)) w:=H.ord [2,3,1,4,5,6,7,0];by_cases ce:j=0
   ·subst ce;rw[if_neg (by simp)];have aR:y3 { b with K:=vX,W:=⟨px,b.W.v⟩ } (kW,uK,0)=({ b with K:=kW,W:=⟨px,b.W.v⟩,A:=uK,out:=[],sure:=fun x=>b.sure x||sK b.P x },0):=by unfold y3; rw[if_neg (by simp)]
    rw[aR];clear aR;simp only[if_true];refine aj (x:=q.out) 0 H rfl rfl rfl ?_;have BM:=ok.out;have g3:=gr (H.front 11);refine hY (fun t w=>∃ n:Nat,t=(n:Int)∧n≤b.out.length∧E A (eX a0 { b with K:=kW,W:=⟨px,b.W.v⟩,A:=uK } q (hT au { o with aZ:=so o.aZ i (b.out.take n) } p i.toNat m)) w) (fun t=>(b.out.length-t).toNat) ⟨0,rfl,by omega,H⟩ ?_;clear H;rintro t w ⟨n,rfl,aL,H⟩ aa ca;unfold M4;rw[g3];split
    ·rename_i U;have U:n<b.out.length:=by
      have:(n:Int)<b.out.length:=by simpa using U
      omega
     have aR:IntKind.i64.wrap ((n:Int)+1)=((n+1:Nat):Int):=by rw[wrap_i64 (by omega) (by omega)]; omega
     obtain⟨a,Y⟩:=kM (i:=(n:Int)) (H.front 11) (by omega) (by simp only; omega);have F:b.out[((n:Int)).toNat]?=some (b.out[n]'U):=by rw[Int.toNat_natCast]; exact List.getElem?_eq_getElem U
     have iG:b.out.take (n+1)=b.out.take n++[b.out[n]'U]:=List.take_succ_eq_append_getElem U;generalize b.out[n]'U=s at F iG;refine aP a Y ?_;refine aP s (mj (fun _=>rfl) Y F (H.front 11)) ?_;refine bP H fun aJx w H=>?_;refine c5 (x:=NR) (S:=s) abt 0 H rfl fun w H=>?_;refine dp H fun w H=>?_;refine cb rfl ?_;refine aj (x:=some ⟨p.aZ,0,none⟩) 13 H rfl rfl rfl ?_;refine aj (x:=s.h5) 0 H rfl rfl rfl ?_;refine aj (x:=s.y) 0 H rfl rfl rfl ?_;refine ap (Post.aGT (H.front 16) (Sn k.aZ) i s.h5 s.y) ?_;rintro r w ⟨_,H⟩;rw[aR];refine ca _ _ ⟨n+1,rfl,by omega,?_⟩ (by omega);have a9:so o.aZ i (b.out.take (n+1))=((so o.aZ i (b.out.take n)).send i s.h5 s.y).1:=by rw[iG]; unfold so; rw[List.foldl_append]; rfl
     rw[a9];exact (H.front 1).drop.ord [1,2,3,4,5,6,7,8,9,10,11,12,13,14,15,0]
    ·rename_i U;have U:n=b.out.length:=by
      have:¬ (n:Int)<b.out.length:=by simpa using U
      omega
     subst U;rw[List.take_length] at H;refine dD (x:=fz) 0 H rfl rfl (Nat.le_of_ble_eq_true rfl) fun w H=>?_;have H:=kN mB 161 8 H;have H:E A (eX a0 { b with K:=kW,W:=⟨px,b.W.v⟩,A:=uK,out:=[] } { q with out:=fz } (hT au { o with aZ:=so o.aZ i b.out } p i.toNat m)) w:=(H.ord [1,2,3,4,5,6,7,8,9,10,11,0,12]).ord [0,1,2,3,4,5,6,7,8,9,10,11] |> fun H=>((H.front 12).drop)
     refine aj (x:=some q.jJ) 0 H rfl rfl rfl ?_;refine Sg 8 H rfl rfl fun it w H=>?_
     refine Ej (fun n _ w=>∃ left jR Cx,n=left.length∧(∀ x∈left,x∈q.Q.map iV)∧(left.map (·.1)).Nodup∧(∀ x,(List.lookup x Cx).isSome=(b.sure x||(sK b.P x&&!(left.any fun t=>t.1==x)))) ∧
      E A (rA aD .i64 q.jJ it (q.Q.map iV) left jR::aH a0 (j4.cells (n2 { b with K:=kW,W:=⟨px,b.W.v⟩,A:=uK,out:=[] } { q with out:=fz })) 101::j7 q.aw b.aw::ez q.d kW::oI q.src b.src::kw q.iN q.e_ q.dv::h8 q.e_ q.d px::eU q.dv b.W.v::h8 q.cF q.d uK::dA (q.Q.map lU)::c_ fq .i64 q.pk Cx::row mB 161 8 fz []::hT au { o with aZ:=so o.aZ i b.out } p i.toNat m) w) (q.Q.map iV).length ⟨q.Q.map iV,none,q.qB,rfl,fun x h=>h,R6 H,fun x=>?_,H⟩ ?_
     ·rw[R.2 x];cases BE:sK b.P x with
      |false=>simp
      |true=>
       rw[← R.1] at BE;rw[al4 BE];simp
     clear H;rintro n _ w ⟨left,jR,Cx,rfl,BN,lk,aG,H⟩ aa ca;have re:=R6 H;unfold M5;refine Q_ 0 H rfl rfl (fun he H=>?_) fun x F w H=>?_
     ·subst he;rw[if_neg (by simp)];have H:=HX H;have je:Fits { b with K:=kW,W:=⟨px,b.W.v⟩,A:=uK,out:=[],sure:=fun x=>b.sure x||sK b.P x } { q with out:=fz,qB:=Cx }:=⟨R.1,fun x=>by show (List.lookup x Cx).isSome=_; rw[aG x]; simp⟩
      obtain⟨bA,H⟩:=ry (o:={ o with aZ:=so o.aZ i b.out }) am a8 (g_ je (H.ord [1,2,3,4,5,6,7,8,0,9,10,11]));exact⟨by trivial,fI bA H⟩
     ·rw[if_pos (by simp)];refine OG 0 H rfl rfl ?_;obtain⟨t,aS,aq6⟩:=List.mem_map.1 (BN x F);obtain⟨id,dL,pl⟩:=t;subst aq6;obtain⟨D,bR,aps⟩:=List.getElem_of_mem aS;have Pw:q.Q[D]?=some (id,dL,pl):=by rw[← aps]; exact List.getElem?_eq_getElem bR
      have mb:b.P.lookup id=some pl:=by
       rw[← R.1];exact z9 (by rw[← abc]; exact re) (List.mem_map.2 ⟨_,aS,rfl⟩)
      have H:=YV (f:=lU) Pw (H.front 9);refine ap (Ce H) ?_;rintro r w ⟨rfl,H⟩;have aqZ:q.Q.set D (id,dL,pl)=q.Q:=by
       obtain⟨aO,aT,xX,rfl⟩:=CA Pw;rw[xX,LA]
      have H:=OK (f:=lU) Pw (hU:=(id,dL,pl)) H;rw[aqZ] at H;have ZT:((left.filter fun t=>t.1 != id).map (·.1)).Nodup:=lk.sublist (List.filter_sublist.map _);have dC:(left.filter fun t=>t.1 != id).length<left.length:=by
       refine List.length_filter_lt_length_iff_exists.2 ⟨_,F,?_⟩;simp[iV]
      have ZC:∀ S,S≠id→((left.filter fun t=>t.1 != id).any fun t=>t.1==S)=left.any fun t=>t.1==S:=by
       intro S aB;rw[List.any_filter];congr 1;funext t;by_cases j:t.1=S
       ·subst j; simp[aB]
       ·have:(t.1==S)=false:=by simpa using j
        rw[this]; simp
      have vc:((left.filter fun t=>t.1 != id).any fun t=>t.1==id)=false:=by
       rw[List.any_filter,List.any_eq_false];intro t _;simp
      by_cases b7:pl.b4=0
      ·rw[if_neg (by simp[b7])];refine ca _ () w dC ⟨left.filter fun t=>t.1 != id,some (id,some ⟨dL,0,none⟩),Cx,rfl,fun S aB=>BN S (List.mem_filter.1 aB).1,ZT,fun S=>?_,H.ord [1,2,3,4,5,6,7,8,9,0]⟩;rw[aG S];by_cases j:S=id
       ·subst j;have:sK b.P S=false:=by unfold sK; rw[mb]; simp[b7]
        rw[this]; simp
       ·rw[ZC S j]
      ·rw[if_pos (by simpa using b7)];refine aj (x:=some q.pk) 2 H rfl rfl rfl ?_;refine r8 10 H rfl rfl fun w H=>?_;refine ca _ () w dC ⟨left.filter fun t=>t.1 != id,some (id,some ⟨dL,0,none⟩),eM id ⟨⟩ Cx,rfl,fun S aB=>BN S (List.mem_filter.1 aB).1,ZT,fun S=>?_,H.ord [2,3,4,5,6,7,8,9,10,1,0]⟩;rw[s6];by_cases j:S=id
       ·subst j;have:sK b.P S=true:=by unfold sK; rw[mb]; simpa using b7
        rw[this,vc]; simp
       ·have a9:(S==id)=false:=by simpa using j
        rw[a9,ZC S j];simp only[Bool.false_eq_true,if_false];exact aG S
   ·rw[if_pos (by simpa using ce)];have aR:y3 { b with K:=vX,W:=⟨px,b.W.v⟩ } (kW,uK,j)=({ b with K:=kW,W:=⟨px,b.W.v⟩,A:=uK },j):=by unfold y3; rw[if_pos ce]
    rw[aR];simp only[if_neg ce];exact⟨by trivial,fin { b with K:=kW,W:=⟨px,b.W.v⟩,A:=uK } q w R H⟩
  ·rw[if_pos (by simpa using ce)];have aR:vH b (vX,px,j)=({ b with K:=vX,W:=⟨px,b.W.v⟩ },j):=by unfold vH; rw[if_pos ce]
   rw[aR];simp only[if_neg ce];exact⟨by trivial,fin { b with K:=vX,W:=⟨px,b.W.v⟩ } q w R H⟩
end
end Cluster
namespace bf
open Go.RowKit Go.Maps Go.Sort Go.Shelf Go.WideElems
section
variable {A w:World} {m:List bC} {Z:Type} {T:bu Z}
theorem aHk{r eQ:Nat}{es:List (Int×Z)}(ab:∀ p∈es,-9223372036854775808≤p.1∧p.1≤9223372036854775807)(hm:es.length≤1000000)(H:E A (aH eQ [.map (some r)] 97::c_ T .i64 r es::m) w) :
  M Pg 59 [.func (.func 176) #[] #[.pointer (some ⟨eQ,0,none⟩)]] X w fun s J=>∃ fy:List Int,fy.Perm (es.map (·.1)) ∧
   E A (row (B .i64) 3 1 s (fy.mergeSort fun x S=>decide (x≤S))::aH eQ [.map (some r)] 97::c_ T .i64 r es::m) J:=by
 obtain⟨arr,c,I,ao,O,g7⟩:=yH (H.front 1);have cD:=g7.get;obtain⟨nm,G0,G1,zZ⟩:=Rr (k:=3) Tryz.underlying3 ab (by omega) I ao O cD;have zO:=H.get;have dC:eQ<w.heap.size:=(Array.getElem?_eq_some_iff.1 zO).1;have G5:=AnyZI.keys_gives (ρ:=Tryz.abb) { Tryz.aBw with } Fence.wide (5-1-1-1) trivial rfl (by omega) eQ r arr.size nm w dC (by rw[uT zO]; rfl) G0;have wk:=AnyZI.sorted_in Tryz.Ss Fence.wide 5 trivial trivial trivial trivial rfl (by omega) (St _) (enters_of Tryz.func109 (by kernel_rfl) rfl) 176 #[.pointer (some ⟨eQ,0,none⟩)] trivial (enters_of Tryz.func176 (by kernel_rfl) rfl) _ (Maps.size nm) (by rw[zZ]; exact Nat.le_trans hm (Nat.le_of_ble_eq_true rfl)) (by rw[zZ]; omega) w G5;change CallsIn _ _ Pg 59 _ _ _ at wk;refine (callsIn_wide (n:=5)).1 (wk.mono ?_);rintro j J ⟨v,ng,rfl,e0,ve,Z8,GH⟩
 have ve:J.ownsRow w.heap.size 3 1 v ng.length ((ng.mergeSort fun x S=>decide (x≤S)).flatMap (B .i64).cells):=by
  have j:(ng.mergeSort fun x S=>decide (x≤S)).flatMap (B .i64).cells=(ng.mergeSort fun x S=>decide (x≤S)).map encZ:=by
   generalize ng.mergeSort (fun x S=>decide (x≤S))=q;induction q with
   |nil=>rfl
   |cons x q ck=>rw[List.flatMap_cons,ck]; rfl
  rw[j]; exact ve
 obtain⟨s,aG,AW⟩:=H.ownsRow (T:=B .i64) (fun _=>rfl) (by rw[List.length_mergeSort]) GH ve;exact⟨s,aG,ng,e0.trans G1,AW⟩
end
end bf
namespace Cluster
open bf Wire Disk Vault Clock Shard Num Store
def eW(P:List (Int×bN)):List Int:=oH (P.map (·.1))
def ql(n:Nat)(P:List (Int×bN))(ids:List Int):List p8:=ids.flatMap fun id=>match P.lookup id with
 |some p=>jQ n p
 |none=>[]
def rZ(n:Nat)(v:dc):List p8:=(gp v).map fun h=>⟨Int.tmod (gH h.Part.aC) n,rF h.Part.aC true h.b5⟩
def HC(n:Nat)(b:bn):bn:={ b with out:=b.out++ql n b.P (eW b.P)++rZ n b.W.v }
def ue(o:bD)(i:Int):bD×Int:=m5 o i fun b=>(HC o.N.length b,0)
theorem N3(n:Nat)(P:List (Int×bN))(ids:List Int):(ql n P ids).length≤2*ids.length:=by
 unfold ql;induction ids with
 |nil=>simp
 |cons id ids ck=>
  rw[List.flatMap_cons,List.length_append,List.length_cons]
  have:(match P.lookup id with
   |some p=>jQ n p
   |none=>[]).length≤2:=by
   split
   ·exact F_ n _
   ·simp
  omega
theorem aEI{b:bn}(h:sA b.P)(aL:(b.P.map (·.1)).Nodup):∀ j∈b.P,1≤j.1∧j.1≤1000000:=by
 intro j he;obtain⟨I,O⟩:=h j.1 j.2 (z9 aL he);have:=Ay O;omega
section
variable {A w:World} {m bT:List bC}
theorem aHu{a0:Nat}{b:bn}{q:kB}{aO:bC}{N:List bC}(H:E A (eX a0 b q (aO::(N++m))) w):E A (eX a0 b q (N++aO::m)) w:=H.perm (List.Perm.append_left (eX a0 b q []) List.perm_middle.symm)
theorem aeN{a0:Nat}{b:bn}{q:kB}{aO:bC}{N:List bC}(H:E A (eX a0 b q (N++aO::m)) w):E A (aO::eX a0 b q (N++m)) w:=
 (H.perm (List.Perm.append_left (eX a0 b q []) List.perm_middle)).ord [12]
theorem Yo{a0:Nat}{hI:cm}(sz:Nat→bn)(C4:Nat→List bC){P:List (Int×bN)}{q:kB}(fj:∀ k,(sz k).P=P)(dr:sA P)(sV:P.length≤1000000)
  (step : ∀ (k : Nat) (id : Int) (p : bN) (m : List bC) (q : kB) (w : World) (dL : Nat), (eW P)[k]? = some id → P.lookup id = some p → (q.Q.map iV).lookup id = some (some (⟨dL, 0, none⟩ : Addr)) → Fits (sz k) q → E A (eX a0 (sz k) q (C4 k ++ m)) w →
   sJ Pg hI [.int .i64 id,.pointer (some ⟨dL,0,none⟩)] dZ w fun _ J=>∃ gx,Fits (sz (k+1)) gx∧E A (eX a0 (sz (k+1)) gx (C4 (k+1)++m)) J)
  (am:Fits (sz 0) q) (H:E A (eX a0 (sz 0) q (C4 0++m)) w) :
  M Pg 74 [.pointer (some ⟨a0,0,none⟩),hI.enc] dZ w fun _ J=>∃ gx,Fits (sz (eW P).length) gx∧E A (eX a0 (sz (eW P).length) gx (C4 (eW P).length++m)) J:=by
 refine ai0 ?_;unfold Wr;refine cb rfl ?_;refine aj (x:=some q.jJ) 0 H rfl rfl rfl ?_;refine agl ?_;unfold TQ;refine bP H fun eQ w H=>?_;have lk:=Hu (H.front 9);have ZR:q.Q.map qp=P:=by rw[am.1,fj]
 have r0:(q.Q.map iV).map (·.1)=P.map (·.1):=by rw[abc,ZR]
 have Z7:(P.map (·.1)).Nodup:=by rw[← r0]; exact lk
 have aJ1:(q.Q.map iV).length=P.length:=by rw[← ZR]; simp
 have G3:∀ j∈q.Q.map iV,-9223372036854775808≤j.1∧j.1≤9223372036854775807:=by
  intro j he;have:j.1∈P.map (·.1):=by rw[← r0]; exact List.mem_map.2 ⟨j,he,rfl⟩
  obtain⟨hU,oy,I⟩:=List.mem_map.1 this;have:=aEI (b:=sz 0) (by rw[fj]; exact dr) (by rw[fj]; exact Z7) hU (by rw[fj]; exact oy);omega
 refine ap (aHk G3 (by omega) (H.ord [0,9])) ?_;rintro s w ⟨fy,aE,H⟩;have a8:(fy.mergeSort fun x S=>decide (x≤S))=eW P:=by unfold eW; rw[← r0]; exact Sq aE
 rw[a8] at H;have aG:=gr H;have wD:(eW P).length≤1000000:=by unfold eW; rw[(oa _).length_eq,List.length_map]; omega
 have sZ:∀ id∈eW P,∃ p,P.lookup id=some p:=by
  intro id hJ;have:=(oa (P.map (·.1))).mem_iff.1 hJ;obtain⟨j,he,rfl⟩:=List.mem_map.1 this;exact⟨j.2,z9 Z7 he⟩
 have H:E A (eX a0 (sz 0) q (row (B .i64) 3 1 s (eW P)::(C4 0++m))) w:=(H.ord [1]).drop.ord [2,3,4,5,6,7,8,9,1,10,11,12,0];have H:=aHu H;refine hY (fun t w=>∃ k:Nat,t=(k:Int)∧k≤(eW P).length∧∃ q,Fits (sz k) q∧E A (eX a0 (sz k) q (C4 k++row (B .i64) 3 1 s (eW P)::m)) w) (fun t=>((eW P).length-t).toNat) ⟨0,rfl,by omega,q,am,H⟩ ?_;clear H;rintro t w ⟨k,rfl,aq,q,am,H⟩ aa ca;unfold Nm;rw[aG];split
 ·rename_i U;have U:k<(eW P).length:=by
   have:(k:Int)<(eW P).length:=by simpa using U
   omega
  have aR:IntKind.i64.wrap ((k:Int)+1)=((k+1:Nat):Int):=by rw[wrap_i64 (by omega) (by omega)]; omega
  have gY:=aeN H;obtain⟨a,Y⟩:=kM (i:=(k:Int)) gY (by omega) (by omega);have F:(eW P)[((k:Int)).toNat]?=some ((eW P)[k]'U):=by rw[Int.toNat_natCast]; exact List.getElem?_eq_getElem U
  obtain⟨p,aE⟩:=sZ _ (List.getElem_mem U);have wE:(eW P)[k]?=some ((eW P)[k]'U):=List.getElem?_eq_getElem U;generalize (eW P)[k]'U=id at F aE wE;refine aP a Y ?_;refine aP id (mj (fun _=>rfl) Y F gY) ?_;refine aj (x:=some q.jJ) 0 H rfl rfl rfl ?_;refine mc 8 H rfl rfl ?_;obtain⟨e8,fh,dL,ec,al⟩:=vn (Q:=q.Q) (id:=id) (p:=p) (by rw[am.1,fj]; exact aE);rw[al];refine Of (step k id p _ q w dL wE aE al am H) ?_;rintro _ w ⟨gd,ye,H⟩;rw[aR];exact ca _ _ ⟨k+1,rfl,by omega,gd,ye,H⟩ (by omega)
 ·rename_i U;have U:k=(eW P).length:=by
   have:¬ (k:Int)<(eW P).length:=by simpa using U
   omega
  subst U;exact⟨q,am,(aeN H).drop⟩
theorem aC0{n:Nat}{P:List (Int×bN)}{ids:List Int}{k:Nat}{id:Int}{p:bN}(h:ids[k]?=some id)(aE:P.lookup id=some p):ql n P (ids.take (k+1))=ql n P (ids.take k)++jQ n p:=by
 have aq:=(List.getElem?_eq_some_iff.1 h).1;rw[List.take_succ_eq_append_getElem aq,(List.getElem?_eq_some_iff.1 h).2];unfold ql;rw[List.flatMap_append,List.flatMap_cons,List.flatMap_nil,List.append_nil,aE]
theorem abO{au:Nat}{o:bD}{i:Int}(k:kV o)(H:E A (ch au o::m) w):M Pg 34 [.pointer (some ⟨au,0,none⟩),.int .i64 i] (B .i64) w fun r J=>r=(ue o i).2∧E A (ch au (ue o i).1::m) J:=by
 obtain⟨p,am,H⟩:=k2 H;refine aij ?_;unfold VO ue;refine bP H fun aA w H=>?_;refine aj (x:=(some ⟨au,0,none⟩:Option Addr)) 0 H rfl rfl rfl ?_;have H:E A (hF au o p (aH aA (aD.cells (some ⟨au,0,none⟩)) 26::m)) w:=H.ord [1,2,3,4,5,6,0];have ZJ:=zE am H;refine ap (sG am k.len.2 H) ?_;rintro r w (⟨I,rfl,H⟩ | ⟨I,a0,b,O,a8,a1,ag,rfl,H⟩)
 ·refine bP H fun cP w H=>?_;refine dD (x:=(none:Option Addr)) 0 H rfl rfl (Nat.le_of_ble_eq_true rfl) fun w H=>?_;rw[if_pos (by simpa using I),vt I];exact⟨rfl,fI am ((H.front 7).drop.drop)⟩
 ·refine bP H fun cP w H=>?_;refine dD (x:=(some ⟨a0,0,none⟩:Option Addr)) 0 H rfl rfl (Nat.le_of_ble_eq_true rfl) fun w H=>?_;rw[if_neg (by simp),pV O a1 ag];have ok:=k.at a1;refine aj (x:=(some ⟨a0,0,none⟩:Option Addr)) 0 H rfl rfl rfl ?_;obtain⟨q,R,H⟩:=lS (H.front 1);have H:E A (eX a0 { b with out:=b.out++ql o.N.length b.P ((eW b.P).take 0) } q ([aH cP (aD.cells (some ⟨a0,0,none⟩)) 89,aH aA (aD.cells (some ⟨au,0,none⟩)) 26,aH au (gK.cells (iE o p)) 114]++(row aD 89 1 p.nodes (p.Q.map kI)::dA ((p.Q.eraseIdx i.toNat).map hn)::Post.hN p.aZ o.aZ::c_ fq .i64 p.kH p.rr::row kl 53 3 p.told o.told::m))) w:=by
   have j:b.out++ql o.N.length b.P ((eW b.P).take 0)=b.out:=by rw[List.take_zero]; exact List.append_nil _
   rw[j];exact H.ord [0,1,2,3,4,5,6,7,8,9,10,11,12,19]
  refine ap (Yo (hI:=cm.mk (.func 75) (List.toArray []) (List.toArray [.pointer (some ⟨aA,0,none⟩),.pointer (some ⟨cP,0,none⟩)])) (P:=b.P) (fun D=>{ b with out:=b.out++ql o.N.length b.P ((eW b.P).take D) }) (fun _=>[aH cP (aD.cells (some ⟨a0,0,none⟩)) 89,aH aA (aD.cells (some ⟨au,0,none⟩)) 26,aH au (gK.cells (iE o p)) 114]) (fun _=>rfl) ok.lV ok.lJ ?_ R H) ?_
  ·intro D id pl m q w dL bR al mb R H;refine⟨75,[],[.pointer (some ⟨aA,0,none⟩),.pointer (some ⟨cP,0,none⟩)],rfl,ani,?_⟩;refine ai1 ?_;unfold Ws;refine aj (x:=(some ⟨au,0,none⟩:Option Addr)) 13 H rfl rfl rfl ?_;refine aj (x:=(some ⟨a0,0,none⟩:Option Addr)) 12 H rfl rfl rfl ?_;obtain⟨HM,e8,fh,j,ec,H⟩:=Ah R (id:=id) (p:=pl) al H;have:HM=dL:=by rw[j] at mb; cases mb; rfl
   subst this;have F:=Ay (ok.lV _ _ al).2;have aJZ:=(List.getElem?_eq_some_iff.1 bR).1;have sV:=ok.lJ;have s0:(eW b.P).length≤1000000:=by unfold eW; rw[(oa _).length_eq,List.length_map]; exact sV
   have aqy:=ok.out;have BM:(b.out++ql o.N.length b.P ((eW b.P).take D)).length≤900000000000:=by
    have:=N3 o.N.length b.P ((eW b.P).take D);rw[List.length_take] at this;rw[List.length_append]; omega
   refine ap (N4 (c:=iE o p) (by have:=k.len.1; omega) (by omega) BM (H.ord [15,0,1,12])) ?_;rintro _ w ⟨G,H⟩;rw[ZJ] at H;refine⟨{ q with out:=G },R,?_⟩;have a9:b.out++ql o.N.length b.P ((eW b.P).take (D+1))=b.out++ql o.N.length b.P ((eW b.P).take D)++jQ o.N.length pl:=by rw[aC0 bR al,List.append_assoc]
   rw[a9];exact EE (q:={ q with out:=G }) ec (H.ord [1,2,4,5,6,7,8,9,10,11,12,13,3,14,15,0])
  ·rintro _ w ⟨gd,ks,H⟩;simp only[List.take_length] at ks H;have sV:=ok.lJ;have s0:(eW b.P).length≤1000000:=by unfold eW; rw[(oa _).length_eq,List.length_map]; exact sV
   have aqy:=ok.out;have mE:=N3 o.N.length b.P (eW b.P);have Z6:HC o.N.length b={ b with out:=b.out++ql o.N.length b.P (eW b.P)++rZ o.N.length b.W.v }:=rfl;rw[Z6];clear Z6;generalize tR:b.out++ql o.N.length b.P (eW b.P)=NL at *;have aJT:NL.length≤800002000000:=by rw[← tR,List.length_append]; omega
   refine aj (x:=(some ⟨a0,0,none⟩:Option Addr)) 12 H rfl rfl rfl ?_;refine cb rfl ?_;refine aj (x:=some ⟨gd.iN,0,none⟩) 0 H rfl rfl rfl ?_;refine ap (y8 (H.front 4)) ?_;rintro r w ⟨rfl,H⟩;refine ap (ZQ ok.hz.v (H.front 6)) ?_;intro r w H;have ab:=gr H;have apn:=Pp ok.hz.v;have H:=(H.ord [3,4,5,6,2,7,1,8,9,10,11,12])
   have H:=(g_ (b:={ b with out:=NL }) ks H)
   have aJ3:(rZ o.N.length b.W.v).length=(gp b.W.v).length:=by unfold rZ; rw[List.length_map]
   refine hY (fun t w=>∃ D:Nat,t=(D:Int)∧D≤(gp b.W.v).length∧E A (ka a0 { b with out:=NL++(rZ o.N.length b.W.v).take D }::row la 135 6 r (gp b.W.v)::aH cP (aD.cells (some ⟨a0,0,none⟩)) 89::aH aA (aD.cells (some ⟨au,0,none⟩)) 26::hT au o p i.toNat m) w) (fun t=>((gp b.W.v).length-t).toNat) ⟨0,rfl,by omega,by rw[List.take_zero,List.append_nil]; exact H⟩ ?_;clear H;rintro t w ⟨D,rfl,bR,H⟩ aa ca;unfold M3;rw[ab];split
   ·rename_i U;have U:D<(gp b.W.v).length:=by
     have:(D:Int)<(gp b.W.v).length:=by simpa using U
     omega
    have aR:IntKind.i64.wrap ((D:Int)+1)=((D+1:Nat):Int):=by rw[wrap_i64 (by omega) (by omega)]; omega
    obtain⟨a,Y⟩:=kM (i:=(D:Int)) (H.front 1) (by omega) (by omega);have F:(gp b.W.v)[((D:Int)).toNat]?=some ((gp b.W.v)[D]'U):=by rw[Int.toNat_natCast]; exact List.getElem?_eq_getElem U
    have iG:(rZ o.N.length b.W.v).take (D+1)=(rZ o.N.length b.W.v).take D++[⟨Int.tmod (gH ((gp b.W.v)[D]'U).Part.aC) o.N.length,rF ((gp b.W.v)[D]'U).Part.aC true ((gp b.W.v)[D]'U).b5⟩]:=by
     rw[List.take_succ_eq_append_getElem (by omega)];congr 2;unfold rZ;rw[List.getElem_map]
    have hJ:1≤((gp b.W.v)[D]'U).Part.aC∧((gp b.W.v)[D]'U).Part.aC≤4000000:=by
     have hm:=List.getElem_mem U;unfold gp at hm;obtain⟨id,hJ,j⟩:=List.mem_map.1 hm;have hJ:=(oa _).mem_iff.1 hJ;obtain⟨hU,oy,rfl⟩:=List.mem_map.1 hJ;have al:=z9 ok.hz.v.rv oy;have aJ:=ok.hz.v.ids _ _ al;have bl:=ok.ids _ oy;have dq:(gp b.W.v)[D]'U=hU.2:=by rw[← DY al]; exact j.symm
     rw[dq,aJ.1];omega
    generalize (gp b.W.v)[D]'U=h at F iG hJ;refine aP a Y ?_;refine aP h (mj (fun _=>rfl) Y F (H.front 1)) ?_;refine bP H fun aJA w H=>?_;refine c5 (x:=qV) (S:=h) Ed 0 H rfl fun w H=>?_;refine dp H fun w H=>?_;refine aj (x:=(some ⟨a0,0,none⟩:Option Addr)) 3 H rfl rfl rfl ?_;refine aj (x:=(some ⟨au,0,none⟩:Option Addr)) 4 H rfl rfl rfl ?_;refine aj (x:=h.Part.aC) 0 H rfl rfl rfl ?_;refine aj (x:=h.Part.aC) 0 H rfl rfl rfl ?_;refine aj (x:=h.b5) 0 H rfl rfl rfl ?_;refine ap (SJ (by omega) H) ?_;rintro r w ⟨rfl,H⟩;rw[show Int.tdiv (h.Part.aC+1) 2=gH h.Part.aC from rfl];refine⟨bM aD (H.front 3) rfl rfl,bM aD (H.front 4) rfl rfl,bM (B .i64) H rfl rfl,bM (B .i64) H rfl rfl,?_⟩;refine ap (Et (c:=iE o p) (by have:=k.len.1; omega) (H.front 5)) ?_;rintro r w ⟨rfl,H⟩;rw[ZJ];have H:=H.ord [1,2,3,4,5,0]
    refine⟨bM aD (H.front 3) rfl rfl,bM (B .i64) H rfl rfl,bM (B .i64) H rfl rfl,bM (B .i64) H rfl rfl,?_⟩;refine ap (afw H) ?_;rintro r w ⟨rfl,H⟩;refine⟨bM aD (H.front 3) rfl rfl,bM aD (H.front 4) rfl rfl,bM (B .i64) H rfl rfl,?_⟩;obtain⟨Ak,sX,H⟩:=lS (H.front 1);refine ap (KN sX (by simp only[List.length_append,List.length_take]; omega) H) ?_;intro _ w H;refine⟨bM aD (H.front 4) rfl rfl,bM (B .i64) (H.front 1) rfl rfl,bM (B .i64) (H.front 1) rfl rfl,bM (B .i64) (H.front 1) rfl rfl,?_⟩;rw[aR];refine ca _ _ ⟨D+1,rfl,by omega,?_⟩ (by omega);rw[iG,← List.append_assoc];exact (H.front 1).drop
   ·rename_i U;have U:D=(gp b.W.v).length:=by
     have:¬ (D:Int)<(gp b.W.v).length:=by simpa using U
     omega
    subst U;have j:(rZ o.N.length b.W.v).take (gp b.W.v).length=rZ o.N.length b.W.v:=List.take_of_length_le (by omega);rw[j] at H;obtain⟨bA,H⟩:=ry am a8 ((H.ord [1,2,3]).drop.drop.drop);exact⟨rfl,fI bA H⟩
end
abbrev Told:=bg
abbrev ic:=kl
structure km where
 aw:hk
 known:Int→Bool
 told:List Told
def km.hB(s:km)(id:Int)(p:bN):km:={ s with known:=fun x=>x==id||s.known x,told:=s.told++[⟨id,p.b4,p.at_⟩] }
def oL(b:bn)(s:km)(id:Int)(p:bN):km:=
 if (s.known id||!(b.sure id))=true then s
 else if p.b4=2 then
  if (!((e6 s.aw b.cG).2.2==0&&decide (p.at_<(e6 s.aw b.cG).2.1.gS)))=true then { s with aw:=(e6 s.aw b.cG).1 } else km.hB { s with aw:=(e6 s.aw b.cG).1 } id p
 else s.hB id p
def rD(b:bn)(s:km)(id:Int):km:=match b.P.lookup id with
 |some p=>oL b s id p
 |none=>s
def lr(b:bn)(s:km)(ids:List Int):km:=ids.foldl (rD b) s
def SF(o:bD)(i:Nat)(b:bn)(s:km):bD:={ kO o i { b with aw:=s.aw } with known:=s.known,told:=s.told }
def tj(o:bD)(i:Int):bD×Int:=
 if fR o i≠0 then (o,fR o i) else match o.N[i.toNat]? with
  |some b=>(SF o i.toNat b (lr b ⟨b.aw,o.known,o.told⟩ (eW b.P)),0)
  |none=>(o,202)
theorem aHW{b:bn}{s:km}{id:Int}{p:bN}(h:iY s.aw):iY (oL b s id p).aw:=by
 unfold oL km.hB;split
 ·exact h
 ·split
  ·split
   ·exact (h.now _).1
   ·exact (h.now _).1
  ·exact h
theorem aHX{b:bn}{s:km}{id:Int}{p:bN}:(oL b s id p).told.length≤s.told.length+1:=by
 unfold oL km.hB;split
 ·omega
 ·split
  ·split
   ·simp
   ·simp
  ·simp
theorem SG{b:bn}:∀ (ids:List Int) (s:km),iY s.aw→iY (lr b s ids).aw∧(lr b s ids).told.length≤s.told.length+ids.length
 |[],s,h=>⟨h,by simp[lr]⟩
 |id::ids,s,h=>by
  have I:iY (rD b s id).aw∧(rD b s id).told.length≤s.told.length+1:=by
   unfold rD;split
   ·exact⟨aHW h,aHX⟩
   ·exact⟨h,by omega⟩
  have O:=SG (b:=b) ids (rD b s id) I.1;refine⟨O.1,?_⟩;have aJ:=O.2;rw[List.length_cons];show (lr b (rD b s id) ids).told.length≤_
  omega
theorem aHY{b:bn}{s:km}{ids:List Int}{k:Nat}{id:Int}{p:bN}(h:ids[k]?=some id)(aE:b.P.lookup id=some p):lr b s (ids.take (k+1))=oL b (lr b s (ids.take k)) id p:=by
 have aq:=(List.getElem?_eq_some_iff.1 h).1;rw[List.take_succ_eq_append_getElem aq,(List.getElem?_eq_some_iff.1 h).2];unfold lr;rw[List.foldl_append,List.foldl_cons,List.foldl_nil];unfold rD;rw[aE]
def y5(au:Nat)(o:bD)(p:kj)(s:km):bC:=hX fun z:af×List (Int×Dg)=>dA [lo (∀ x,(List.lookup x z.2).isSome=s.known x),aH au (gK.cells (iE o { p with told:=z.1 })) 114,c_ fq .i64 p.kH z.2,row ic 53 3 z.1 s.told]
section
variable {A w:World} {m bT:List bC}
theorem ae5{au:Nat}{o:bD}{p:kj}{s:km}(H:E A (y5 au o p s::m) w):∃ z:af×List (Int×Dg),(∀ x,(List.lookup x z.2).isSome=s.known x)∧E A (aH au (gK.cells (iE o { p with told:=z.1 })) 114::c_ fq .i64 p.kH z.2::row ic 53 3 z.1 s.told::m) w:=by
 obtain⟨z,H⟩:=H.ex;obtain⟨h,H⟩:=E.vy H.open_;exact⟨z,h,H⟩
theorem ae6{au:Nat}{o:bD}{p:kj}{s:km}{z:af×List (Int×Dg)}(h:∀ x,(List.lookup x z.2).isSome=s.known x)(H:E A (aH au (gK.cells (iE o { p with told:=z.1 })) 114::c_ fq .i64 p.kH z.2::row ic 53 3 z.1 s.told::m) w):E A (y5 au o p s::m) w:=
 E.mI z (E.shut (bT:=[lo _,_,_,_]) (E.vO h H))
theorem aHZ{au a0 aA cP dL:Nat}{o:bD}{p:kj}{b:bn}{s:km}{q:kB}{id:Int}{pl:bN}{e8 fh:List (Int×Nat×bN)}(R:Fits b q)(ec:q.Q=e8++(id,dL,pl)::fh)(ao5:iY s.aw)(a1:b.aw=s.aw)(qf:-9000000000000000000≤b.cG∧b.cG≤9000000000000000000)(aS:s.told.length≤200000000000)
  (H:E A (Au a0 b q dL pl e8 fh (aH cP (aD.cells (some ⟨a0,0,none⟩)) 89::aH aA (aD.cells (some ⟨au,0,none⟩)) 26::y5 au o p s::m)) w) :
  M Pg 104 [.int .i64 id,.pointer (some ⟨dL,0,none⟩),.pointer (some ⟨cP,0,none⟩),.pointer (some ⟨aA,0,none⟩)] dZ w fun _ J=>
   Fits { b with aw:=(oL b s id pl).aw } q∧E A (eX a0 { b with aw:=(oL b s id pl).aw } q (aH cP (aD.cells (some ⟨a0,0,none⟩)) 89::aH aA (aD.cells (some ⟨au,0,none⟩)) 26::y5 au o p (oL b s id pl)::m)) J:=by
 refine af0 ?_;unfold Tx;refine ap (Ce H) ?_;rintro r w ⟨rfl,H⟩;have H:=EE ec H;refine aj (x:=(some ⟨a0,0,none⟩:Option Addr)) 12 H rfl rfl rfl ?_;refine cb rfl ?_;refine aj (x:=some q.pk) 0 H rfl rfl rfl ?_;refine mc 10 H rfl rfl ?_;refine bP H fun fG w H=>?_;refine c5 (x:=qW) (S:=_) (n:=0) (fun _=>rfl) 0 H rfl fun w H=>?_;have H:=H.drop;refine aj (x:=(some ⟨au,0,none⟩:Option Addr)) 13 H rfl rfl rfl ?_;refine cb rfl ?_;obtain⟨z,bL,H⟩:=ae5 (H.front 14);refine aj (x:=some p.kH) 0 H rfl rfl rfl ?_;refine mc 1 H rfl rfl ?_;refine bP H fun rO w H=>?_;refine c5 (x:=qW) (S:=_) (n:=0) (fun _=>rfl) 0 H rfl fun w H=>?_;have H:=H.drop
 have fin:∀ (fB:km) (z:af×List (Int×Dg)) (w:World),(∀ x,(List.lookup x z.2).isSome=fB.known x)→E A (aH au (gK.cells (iE o { p with told:=z.1 })) 114::c_ fq .i64 p.kH z.2::row ic 53 3 z.1 fB.told::eX a0 { b with aw:=fB.aw } q (aH cP (aD.cells (some ⟨a0,0,none⟩)) 89::aH aA (aD.cells (some ⟨au,0,none⟩)) 26::m)) w →
   Fits { b with aw:=fB.aw } q∧E A (eX a0 { b with aw:=fB.aw } q (aH cP (aD.cells (some ⟨a0,0,none⟩)) 89::aH aA (aD.cells (some ⟨au,0,none⟩)) 26::y5 au o p fB::m)) w:=by
  intro fB z w bL H;exact⟨R,(ae6 bL H).ord [1,2,3,4,5,6,7,8,9,10,11,12,13,14]⟩
 have g4:∀ (fB:km) (w:World),fB.known=s.known→fB.told=s.told→E A (aH au (gK.cells (iE o { p with told:=z.1 })) 114::c_ fq .i64 p.kH z.2::row ic 53 3 z.1 s.told::eX a0 { b with aw:=fB.aw } q (aH cP (aD.cells (some ⟨a0,0,none⟩)) 89::aH aA (aD.cells (some ⟨au,0,none⟩)) 26::m)) w →
   E7 id ⟨aA,0,none⟩ (pl.b4,pl.at_) w fun _ J=>Fits { b with aw:=(fB.hB id pl).aw } q∧E A (eX a0 { b with aw:=(fB.hB id pl).aw } q (aH cP (aD.cells (some ⟨a0,0,none⟩)) 89::aH aA (aD.cells (some ⟨au,0,none⟩)) 26::y5 au o p (fB.hB id pl)::m)) J:=by
  intro fB w ma jp H;unfold E7;refine aj (x:=(some ⟨au,0,none⟩:Option Addr)) 16 H rfl rfl rfl ?_;refine cb rfl ?_;refine aj (x:=some p.kH) 0 H rfl rfl rfl ?_;refine r8 1 H rfl rfl fun w H=>?_;refine dp H fun w H=>?_;refine aj (x:=(some ⟨au,0,none⟩:Option Addr)) 16 H rfl rfl rfl ?_;refine aj (x:=(some ⟨au,0,none⟩:Option Addr)) 16 H rfl rfl rfl ?_;refine cb rfl ?_;refine aj (x:=z.1) 1 H rfl rfl rfl ?_;refine nu (fun _=>rfl) 2 H rfl (by simp; omega) fun r w H=>?_;refine⟨bM aD (H.front 16) rfl rfl,bM aD (H.front 16) rfl rfl,?_⟩;refine cb rfl ?_;refine dD (x:=r) 2 H rfl rfl (Nat.le_of_ble_eq_true rfl) fun w H=>?_;refine fin (fB.hB id pl) (r,eM id ⟨⟩ z.2) w (fun x=>?_) ?_
  ·show (List.lookup x (eM id ⟨⟩ z.2)).isSome=(x==id||fB.known x)
   rw[s6,ma];cases x==id
   ·simp[bL x]
   ·simp
  ·have j:(fB.hB id pl).told=s.told++[⟨id,pl.b4,pl.at_⟩]:=by rw[← jp]; rfl
   rw[j];exact H.ord [0,2,1]
 simp only;rw[bL id,R.2 id];by_cases bt:(s.known id||!(b.sure id))=true
 ·rw[if_pos bt];have j:oL b s id pl=s:=by unfold oL; rw[if_pos bt]
  rw[j];refine fin s z w bL ?_;rw[← a1];exact H
 ·rw[if_neg bt];by_cases bI:pl.b4=2
  ·rw[if_pos (by simpa using bI)];refine dp H fun w H=>?_;refine aj (x:=(some ⟨a0,0,none⟩:Option Addr)) 15 H rfl rfl rfl ?_;refine cb rfl ?_;refine aj (x:=(some ⟨q.aw,0,none⟩:Option Addr)) 3 H rfl rfl rfl ?_;refine aj (x:=(some ⟨a0,0,none⟩:Option Addr)) 15 H rfl rfl rfl ?_;refine cb rfl ?_;refine aj (x:=b.cG) 3 H rfl rfl rfl ?_;refine ap (aEc (t:=pl.at_) (by rw[a1]; exact ao5) qf (H.front 4)) ?_;rintro r w ⟨rfl,H⟩;rw[a1] at H ⊢;refine⟨bM aD (H.front 15) rfl rfl,bM aD (H.front 15) rfl rfl,?_⟩;have H:E A (aH au (gK.cells (iE o { p with told:=z.1 })) 114::c_ fq .i64 p.kH z.2::row ic 53 3 z.1 s.told::eX a0 { b with aw:=(e6 s.aw b.cG).1 } q (aH cP (aD.cells (some ⟨a0,0,none⟩)) 89::aH aA (aD.cells (some ⟨au,0,none⟩)) 26::m)) w:=H.ord [1,2,3,4,0];simp only;by_cases cc:(!((e6 s.aw b.cG).2.2==0&&decide (pl.at_<(e6 s.aw b.cG).2.1.gS)))=true
   ·rw[if_pos cc];have j:oL b s id pl={ s with aw:=(e6 s.aw b.cG).1 }:=by unfold oL; rw[if_neg bt,if_pos bI,if_pos cc]
    rw[j];exact fin { s with aw:=(e6 s.aw b.cG).1 } z w bL H
   ·rw[if_neg cc];have j:oL b s id pl=km.hB { s with aw:=(e6 s.aw b.cG).1 } id pl:=by unfold oL; rw[if_neg bt,if_pos bI,if_neg cc]
    rw[j];exact g4 { s with aw:=(e6 s.aw b.cG).1 } w rfl rfl H
  ·rw[if_neg (by simpa using bI)];have j:oL b s id pl=s.hB id pl:=by unfold oL; rw[if_neg bt,if_neg bI]
   rw[j];refine g4 s w rfl rfl ?_;rw[← a1];exact H
theorem ae1{au:Nat}{o:bD}{i:Int}(k:kV o)(H:E A (ch au o::m) w):M Pg 49 [.pointer (some ⟨au,0,none⟩),.int .i64 i] (B .i64) w fun r J=>r=(tj o i).2∧E A (ch au (tj o i).1::m) J:=by
 obtain⟨p,am,H⟩:=k2 H;refine aiz ?_;unfold V4;refine bP H fun aA w H=>?_;refine aj (x:=(some ⟨au,0,none⟩:Option Addr)) 0 H rfl rfl rfl ?_;have H:E A (hF au o p (aH aA (aD.cells (some ⟨au,0,none⟩)) 26::m)) w:=H.ord [1,2,3,4,5,6,0];refine ap (sG am k.len.2 H) ?_;rintro r w (⟨I,rfl,H⟩ | ⟨I,a0,b,O,a8,a1,ag,rfl,H⟩)
 ·refine bP H fun cP w H=>?_;refine dD (x:=(none:Option Addr)) 0 H rfl rfl (Nat.le_of_ble_eq_true rfl) fun w H=>?_;have j:tj o i=(o,fR o i):=by unfold tj; rw[if_pos I]
  rw[if_pos (by simpa using I),j];exact⟨rfl,fI am ((H.front 7).drop.drop)⟩
 ·refine bP H fun cP w H=>?_;refine dD (x:=(some ⟨a0,0,none⟩:Option Addr)) 0 H rfl rfl (Nat.le_of_ble_eq_true rfl) fun w H=>?_;have j:tj o i=(SF o i.toNat b (lr b ⟨b.aw,o.known,o.told⟩ (eW b.P)),0):=by unfold tj; rw[if_neg (fun h=>h I),a1]
  rw[if_neg (by simp),j];clear j;have ok:=k.at a1;refine aj (x:=(some ⟨a0,0,none⟩:Option Addr)) 0 H rfl rfl rfl ?_;obtain⟨q,R,H⟩:=lS (H.front 1);have H:=ae6 (o:=o) (p:=p) (s:=⟨b.aw,o.known,o.told⟩) (z:=(p.told,p.rr)) am.2 (H.ord [13,17,18]);have H:E A (eX a0 { b with aw:=(lr b ⟨b.aw,o.known,o.told⟩ ((eW b.P).take 0)).aw } q ([aH cP (aD.cells (some ⟨a0,0,none⟩)) 89,aH aA (aD.cells (some ⟨au,0,none⟩)) 26,y5 au o p (lr b ⟨b.aw,o.known,o.told⟩ ((eW b.P).take 0))]++(row aD 89 1 p.nodes (p.Q.map kI)::dA ((p.Q.eraseIdx i.toNat).map hn)::Post.hN p.aZ o.aZ::m))) w:=by
   rw[List.take_zero];exact H.ord [1,2,3,4,5,6,7,8,9,10,11,12,13,17,0]
  have sV:=ok.lJ;have yo:=k.told;have s0:(eW b.P).length≤1000000:=by unfold eW; rw[(oa _).length_eq,List.length_map]; exact sV
  refine ap (Yo (hI:=cm.mk (.func 104) (List.toArray []) (List.toArray [.pointer (some ⟨cP,0,none⟩),.pointer (some ⟨aA,0,none⟩)])) (P:=b.P) (fun D=>{ b with aw:=(lr b ⟨b.aw,o.known,o.told⟩ ((eW b.P).take D)).aw }) (fun D=>[aH cP (aD.cells (some ⟨a0,0,none⟩)) 89,aH aA (aD.cells (some ⟨au,0,none⟩)) 26,y5 au o p (lr b ⟨b.aw,o.known,o.told⟩ ((eW b.P).take D))]) (fun _=>rfl) ok.lV ok.lJ ?_ R H) ?_
  ·intro D id pl m q w dL bR al mb R H;refine⟨104,[],[.pointer (some ⟨cP,0,none⟩),.pointer (some ⟨aA,0,none⟩)],rfl,amz,?_⟩;obtain⟨HM,e8,fh,j,ec,H⟩:=Ah R (id:=id) (p:=pl) al H;have:HM=dL:=by rw[j] at mb; cases mb; rfl
   subst this;have aG:=SG (b:=b) ((eW b.P).take D) ⟨b.aw,o.known,o.told⟩ ok.hz.aw;have J5:=aG.2;rw[List.length_take] at J5;simp only at J5;have z0:=aHY (s:=⟨b.aw,o.known,o.told⟩) bR al;have aag:=aHZ (au:=au) (aA:=aA) (cP:=cP) (o:=o) (p:=p) (s:=lr b ⟨b.aw,o.known,o.told⟩ ((eW b.P).take D)) R ec aG.1 rfl ok.hz.rd (by omega) H;refine ap aag ?_;rintro _ w ⟨sX,H⟩;refine⟨q,sX,?_⟩;show E A (eX a0 { b with aw:=(lr b ⟨b.aw,o.known,o.told⟩ ((eW b.P).take (D+1))).aw } q ([_,_,y5 au o p (lr b ⟨b.aw,o.known,o.told⟩ ((eW b.P).take (D+1)))]++m)) w
   rw[z0];exact H
  ·rintro _ w ⟨gd,ks,H⟩;simp only[List.take_length] at ks H;obtain⟨z,bL,H⟩:=ae5 (H.front 14);have H:=g_ ks ((H.ord [3,4,5,6,7,8,9,10,11,12,13,14]));have H:E A (ka a0 _::hT au { o with known:=(lr b ⟨b.aw,o.known,o.told⟩ (eW b.P)).known,told:=(lr b ⟨b.aw,o.known,o.told⟩ (eW b.P)).told } { p with told:=z.1,rr:=z.2 } i.toNat m) w:=((H.ord [4,5]).drop.drop).ord [0,1,4,5,6,2,3];obtain⟨bA,H⟩:=ry (o:={ o with known:=(lr b ⟨b.aw,o.known,o.told⟩ (eW b.P)).known,told:=(lr b ⟨b.aw,o.known,o.told⟩ (eW b.P)).told }) (p:={ p with told:=z.1,rr:=z.2 }) ⟨am.1,bL⟩ a8 H;exact⟨rfl,fI bA H⟩
end
end Cluster
end Go.Proofs.YthaobmpdjcoheaaGreat
