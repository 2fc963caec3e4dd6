/- Own texts of this claim, part 12: short, merged. -/
import Derived.Shelf.SlIterI.Nil
import Derived.Shelf.SlIterI.Sorted
import Derived.Shelf.SortM.Plain
import Derived.Shelf.SortM.SortNone
import Derived.Ground.GgzProg
import Derived.Ground.SlgmProg
import Derived.Test.YthaobmpdjcoheaaGreatProg
import Derived.Test.YthaobmpdjcoheaaGreatZ11
set_option exponentiation.threshold 4000
set_option maxRecDepth 100000
set_option maxHeartbeats 40000000
set_option linter.defProp false
set_option linter.unusedVariables false
set_option linter.unusedSimpArgs false
namespace Go.Proofs.YthaobmpdjcoheaaGreat
end Go.Proofs.YthaobmpdjcoheaaGreat
namespace Go.Proofs
open Go.Shelf
def Tryz.aby:Go.Shelf.Ren:=⟨fun | 7=>173 | 10=>225 | n=>n,fun | 23=>216 | 26=>3 | 3=>290 | 28=>132 | 0=>0 | 27=>131 | 33=>88 | 4=>4 | n=>n,fun | n=>n⟩
theorem Tryz.Q5:Go.Proofs.SlLaysZI.n7 Tryz.prog Tryz.aby:={
 mixed:=by kernel_rfl
 f7:=⟨Tryz.f173.name,by decide,Tryz.func173.trans (congrArg some (by kernel_rfl))⟩
 f10:=⟨Tryz.f225.name,by decide,Tryz.func225.trans (congrArg some (by kernel_rfl))⟩
 t0:=Tryz.underlying0
 a0:=Tryz.isAgg0
 z0:=Tryz.sizeOf0
 v0:=Tryz.zeroValue0
 t4:=Tryz.underlying4
 a4:=Tryz.isAgg4
 z4:=Tryz.sizeOf4
 v4:=Tryz.zeroValue4
 t23:=Tryz.underlying216
 a23:=Tryz.isAgg216
 z23:=Tryz.sizeOf216
 v23:=Tryz.zeroValue216
 t26:=Tryz.underlying3
 a26:=Tryz.isAgg3
 z26:=Tryz.sizeOf3
 v26:=Tryz.zeroValue3
 t27:=Tryz.underlying131
 a27:=Tryz.isAgg131
 z27:=Tryz.sizeOf131
 v27:=Tryz.zeroValue131
 t28:=Tryz.underlying132
 a28:=Tryz.isAgg132
 z28:=Tryz.sizeOf132
 v28:=Tryz.zeroValue132
 t33:=Tryz.underlying88
 a33:=Tryz.isAgg88
 z33:=Tryz.sizeOf88
 v33:=Tryz.zeroValue88 }
def Tryz.abz:Go.Shelf.Ren:=⟨fun | 7=>60 | 10=>110 | n=>n,fun | 23=>68 | 26=>3 | 3=>135 | 28=>132 | 0=>0 | 27=>131 | 33=>88 | 4=>4 | n=>n,fun | n=>n⟩
theorem Tryz.Q6:Go.Proofs.SlLaysZI.n7 Tryz.prog Tryz.abz:={
 mixed:=by kernel_rfl
 f7:=⟨Tryz.f60.name,by decide,Tryz.func60.trans (congrArg some (by kernel_rfl))⟩
 f10:=⟨Tryz.f110.name,by decide,Tryz.func110.trans (congrArg some (by kernel_rfl))⟩
 t0:=Tryz.underlying0
 a0:=Tryz.isAgg0
 z0:=Tryz.sizeOf0
 v0:=Tryz.zeroValue0
 t4:=Tryz.underlying4
 a4:=Tryz.isAgg4
 z4:=Tryz.sizeOf4
 v4:=Tryz.zeroValue4
 t23:=Tryz.underlying68
 a23:=Tryz.isAgg68
 z23:=Tryz.sizeOf68
 v23:=Tryz.zeroValue68
 t26:=Tryz.underlying3
 a26:=Tryz.isAgg3
 z26:=Tryz.sizeOf3
 v26:=Tryz.zeroValue3
 t27:=Tryz.underlying131
 a27:=Tryz.isAgg131
 z27:=Tryz.sizeOf131
 v27:=Tryz.zeroValue131
 t28:=Tryz.underlying132
 a28:=Tryz.isAgg132
 z28:=Tryz.sizeOf132
 v28:=Tryz.zeroValue132
 t33:=Tryz.underlying88
 a33:=Tryz.isAgg88
 z33:=Tryz.sizeOf88
 v33:=Tryz.zeroValue88 }
def Tryz.abA:Go.Shelf.Ren:=⟨fun | 7=>125 | 10=>176 | n=>n,fun | 23=>97 | 26=>3 | 3=>127 | 28=>132 | 0=>0 | 27=>131 | 33=>88 | 4=>4 | n=>n,fun | n=>n⟩
theorem Tryz.aB5:Go.Proofs.SlLaysZI.n7 Tryz.prog Tryz.abA:={
 mixed:=by kernel_rfl
 f7:=⟨Tryz.f125.name,by decide,Tryz.func125.trans (congrArg some (by kernel_rfl))⟩
 f10:=⟨Tryz.f176.name,by decide,Tryz.func176.trans (congrArg some (by kernel_rfl))⟩
 t0:=Tryz.underlying0
 a0:=Tryz.isAgg0
 z0:=Tryz.sizeOf0
 v0:=Tryz.zeroValue0
 t4:=Tryz.underlying4
 a4:=Tryz.isAgg4
 z4:=Tryz.sizeOf4
 v4:=Tryz.zeroValue4
 t23:=Tryz.underlying97
 a23:=Tryz.isAgg97
 z23:=Tryz.sizeOf97
 v23:=Tryz.zeroValue97
 t26:=Tryz.underlying3
 a26:=Tryz.isAgg3
 z26:=Tryz.sizeOf3
 v26:=Tryz.zeroValue3
 t27:=Tryz.underlying131
 a27:=Tryz.isAgg131
 z27:=Tryz.sizeOf131
 v27:=Tryz.zeroValue131
 t28:=Tryz.underlying132
 a28:=Tryz.isAgg132
 z28:=Tryz.sizeOf132
 v28:=Tryz.zeroValue132
 t33:=Tryz.underlying88
 a33:=Tryz.isAgg88
 z33:=Tryz.sizeOf88
 v33:=Tryz.zeroValue88 }
def Tryz.afa:Go.Shelf.Ren:=⟨fun | 6=>59 | 8=>108 | 9=>109 | 11=>163 | 13=>165 | 12=>164 | 23=>209 | 24=>154 | 14=>200 | 15=>201 | 16=>202 | 17=>203 | 18=>204 | 19=>205 | 20=>206 | 21=>207 | 22=>208 | 25=>237 | 26=>238 | 27=>239 | 28=>240 | 29=>241 | 30=>242 | 31=>257 | n=>n,fun | 26=>3 | 28=>132 | 24=>33 | 0=>0 | 3=>3 | 37=>270 | 48=>308 | 50=>195 | 4=>4 | 40=>314 | 39=>313 | 45=>319 | 5=>5 | 9=>9 | 51=>338 | 55=>341 | 57=>355 | 58=>356 | 33=>88 | n=>n,fun | n=>n⟩
theorem Tryz.SR:Go.Proofs.SlLaysZI.n6 Tryz.prog Tryz.afa:={
 mixed:=by kernel_rfl
 f6:=⟨Tryz.f59.name,by decide,Tryz.func59.trans (congrArg some (by kernel_rfl))⟩
 f8:=⟨Tryz.f108.name,by decide,Tryz.func108.trans (congrArg some (by kernel_rfl))⟩
 f11:=⟨Tryz.f163.name,by decide,Tryz.func163.trans (congrArg some (by kernel_rfl))⟩
 t0:=Tryz.underlying0
 a0:=Tryz.isAgg0
 z0:=Tryz.sizeOf0
 v0:=Tryz.zeroValue0
 t24:=Tryz.underlying33
 a24:=Tryz.isAgg33
 z24:=Tryz.sizeOf33
 v24:=Tryz.zeroValue33
 t26:=Tryz.underlying3
 a26:=Tryz.isAgg3
 z26:=Tryz.sizeOf3
 v26:=Tryz.zeroValue3
 t28:=Tryz.underlying132
 a28:=Tryz.isAgg132
 z28:=Tryz.sizeOf132
 v28:=Tryz.zeroValue132
 i26:=by kernel_rfl }
def Tryz.aHL:Go.Shelf.Ren:=⟨fun | 5=>109 | 8=>165 | 7=>164 | 19=>209 | 20=>154 | 10=>200 | 11=>201 | 12=>202 | 13=>203 | 14=>204 | 15=>205 | 16=>206 | 17=>207 | 18=>208 | 30=>237 | 31=>238 | 32=>239 | 33=>240 | 34=>241 | 35=>242 | 40=>257 | n=>n,fun | 23=>33 | 25=>3 | 3=>3 | 32=>270 | 22=>33 | 0=>0 | 44=>308 | 46=>195 | 4=>4 | 36=>314 | 35=>313 | 41=>319 | 5=>5 | 9=>9 | 53=>338 | 57=>341 | 63=>355 | 64=>356 | n=>n,fun | n=>n⟩
theorem Tryz.ae9:Go.Proofs.SlLaysM.n5 Tryz.prog Tryz.aHL:={
 mixed:=by kernel_rfl
 f5:=⟨Tryz.f109.name,by decide,Tryz.func109.trans (congrArg some (by kernel_rfl))⟩
 f7:=⟨Tryz.f164.name,by decide,Tryz.func164.trans (congrArg some (by kernel_rfl))⟩
 f8:=Tryz.func165.trans (congrArg some (by kernel_rfl))
 f10:=⟨Tryz.f200.name,by decide,Tryz.func200.trans (congrArg some (by kernel_rfl))⟩
 f11:=⟨Tryz.f201.name,by decide,Tryz.func201.trans (congrArg some (by kernel_rfl))⟩
 f12:=⟨Tryz.f202.name,by decide,Tryz.func202.trans (congrArg some (by kernel_rfl))⟩
 f13:=⟨Tryz.f203.name,by decide,Tryz.func203.trans (congrArg some (by kernel_rfl))⟩
 f14:=⟨Tryz.f204.name,by decide,Tryz.func204.trans (congrArg some (by kernel_rfl))⟩
 f15:=⟨Tryz.f205.name,by decide,Tryz.func205.trans (congrArg some (by kernel_rfl))⟩
 f16:=⟨Tryz.f206.name,by decide,Tryz.func206.trans (congrArg some (by kernel_rfl))⟩
 f17:=⟨Tryz.f207.name,by decide,Tryz.func207.trans (congrArg some (by kernel_rfl))⟩
 f18:=⟨Tryz.f208.name,by decide,Tryz.func208.trans (congrArg some (by kernel_rfl))⟩
 f19:=Tryz.func209.trans (congrArg some (by kernel_rfl))
 f20:=Tryz.func154.trans (congrArg some (by kernel_rfl))
 f30:=⟨Tryz.f237.name,by decide,Tryz.func237.trans (congrArg some (by kernel_rfl))⟩
 f31:=Tryz.func238.trans (congrArg some (by kernel_rfl))
 f32:=Tryz.func239.trans (congrArg some (by kernel_rfl))
 f33:=⟨Tryz.f240.name,by decide,Tryz.func240.trans (congrArg some (by kernel_rfl))⟩
 f34:=⟨Tryz.f241.name,by decide,Tryz.func241.trans (congrArg some (by kernel_rfl))⟩
 f35:=⟨Tryz.f242.name,by decide,Tryz.func242.trans (congrArg some (by kernel_rfl))⟩
 f40:=⟨Tryz.f257.name,by decide,Tryz.func257.trans (congrArg some (by kernel_rfl))⟩
 t0:=Tryz.underlying0
 a0:=Tryz.isAgg0
 z0:=Tryz.sizeOf0
 v0:=Tryz.zeroValue0
 t3:=Tryz.underlying3
 a3:=Tryz.isAgg3
 z3:=Tryz.sizeOf3
 v3:=Tryz.zeroValue3
 t4:=Tryz.underlying4
 a4:=Tryz.isAgg4
 z4:=Tryz.sizeOf4
 v4:=Tryz.zeroValue4
 t5:=Tryz.underlying5
 a5:=Tryz.isAgg5
 z5:=Tryz.sizeOf5
 v5:=Tryz.zeroValue5
 t9:=Tryz.underlying9
 a9:=Tryz.isAgg9
 z9:=Tryz.sizeOf9
 v9:=Tryz.zeroValue9
 t22:=Tryz.underlying33
 a22:=Tryz.isAgg33
 z22:=Tryz.sizeOf33
 v22:=Tryz.zeroValue33
 t23:=Tryz.underlying33
 a23:=Tryz.isAgg33
 z23:=Tryz.sizeOf33
 v23:=Tryz.zeroValue33
 t25:=Tryz.underlying3
 a25:=Tryz.isAgg3
 z25:=Tryz.sizeOf3
 v25:=Tryz.zeroValue3
 t32:=Tryz.underlying270
 a32:=Tryz.isAgg270
 z32:=Tryz.sizeOf270
 v32:=Tryz.zeroValue270
 t35:=Tryz.underlying313
 a35:=Tryz.isAgg313
 z35:=Tryz.sizeOf313
 v35:=Tryz.zeroValue313
 t36:=Tryz.underlying314
 a36:=Tryz.isAgg314
 z36:=Tryz.sizeOf314
 v36:=Tryz.zeroValue314
 t41:=Tryz.underlying319
 a41:=Tryz.isAgg319
 z41:=Tryz.sizeOf319
 v41:=Tryz.zeroValue319
 t44:=Tryz.underlying308
 a44:=Tryz.isAgg308
 z44:=Tryz.sizeOf308
 v44:=Tryz.zeroValue308
 t46:=Tryz.underlying195
 a46:=Tryz.isAgg195
 z46:=Tryz.sizeOf195
 v46:=Tryz.zeroValue195
 t53:=Tryz.underlying338
 a53:=Tryz.isAgg338
 z53:=Tryz.sizeOf338
 v53:=Tryz.zeroValue338
 t57:=Tryz.underlying341
 a57:=Tryz.isAgg341
 z57:=Tryz.sizeOf341
 v57:=Tryz.zeroValue341
 t63:=Tryz.underlying355
 a63:=Tryz.isAgg355
 z63:=Tryz.sizeOf355
 v63:=Tryz.zeroValue355
 t64:=Tryz.underlying356
 a64:=Tryz.isAgg356
 z64:=Tryz.sizeOf356
 v64:=Tryz.zeroValue356 }
end Go.Proofs
namespace Go.Proofs.YthaobmpdjcoheaaGreat
namespace bj
open Go.RowKit Go.Maps Go.Sort Go.Shelf Go.WideElems
section
variable {A w:World} {m:List bE} {Z:Type} {T:bz Z}
theorem SS(o:Nat):AnyZI.SortsIn Pg Tryz.afa Fence.wide o:=
  ⟨fun kF off cap nt A aoR apt nJ=>callsIn_wide.2 (AnyM.slices_Sort_int Tryz.ae9 kF off cap nt A aoR apt nJ),
   fun p cap A=>callsIn_wide.2 (AnyM.slices_Sort_int_none Tryz.ae9 p cap A)⟩
theorem insert_perm{H:Type}(x:Lit×DataW H):∀ r,(DataW.insert x r).Perm (x::r)
 |[]=>List.Perm.refl _
 |S::r=>by
  unfold DataW.insert;split
  ·exact List.Perm.refl _
  ·exact ((insert_perm x r).cons S).trans (List.Perm.swap x S r)
theorem Pe{H:Type}:∀ r:List (Lit×DataW H),(r.foldr DataW.insert []).Perm r
 |[]=>List.Perm.refl _
 |x::r=>(insert_perm x _).trans ((Pe r).cons x)
def Jr(v:Value):Option (DataW Unit×List MemPlace):=some (.nil,[])
theorem RT{k:TypeId}{r:Nat}{es:List (Int×Z)}{aX:Array MapEntry}{c:Nat}(aq:Tryz.prog.underlying k=some (.int .i64))(aa:∀ p∈es,-9223372036854775808≤p.1∧p.1≤9223372036854775807)(hm:es.length≤9223372036854775807)
  (I:sN T .i64 aX es) (ao:qV aX c) (R:(es.map (·.1)).Nodup) (cK:w.heap[r]?=some (.map aX c)) :
  ∃ ny:DataW Unit,w.ownsMap Pg k Jr r aX.size ny∧(intKeys ny).Perm (es.map (·.1))∧Maps.size ny=es.length:=by
 have r7:aX.toList.map (·.key)=es.map fun p=>Value.int .i64 p.1:=by
  have:=congrArg (List.map Prod.fst) I;simpa[List.map_map,Function.comp_def] using this
 have hi:aX.size=es.length:=by have:=congrArg List.length r7; simpa using this
 have qn:∀ x∈aX.toList,∃ n:Int,x.key=.int .i64 n∧WideElems.rd (H:=Unit) Pg k Jr x=some (.int .i64 n,.nil):=by
  intro x F;have:x.key∈aX.toList.map (·.key):=List.mem_map.2 ⟨x,F,rfl⟩;rw[r7] at this;obtain⟨p,aF,l⟩:=List.mem_map.1 this;refine⟨p.1,l.symm,?_⟩;have h:=aa p aF;have hw:(Lit.int .i64 p.1).wf=true:=by
   show (decide (IntKind.min .i64≤p.1)&&decide (p.1≤IntKind.max .i64))=true
   rw[decide_eq_true (show IntKind.min .i64≤p.1 from h.1),decide_eq_true (show p.1≤IntKind.max .i64 from h.2)]; rfl
  unfold WideElems.rd;rw[← l,Maps.keyOf_int_mk aq hw]; rfl
 refine⟨_,⟨aX,c,cK,⟨by rw[hi]; exact hm,⟨ao.1,ao.2,?_⟩,fun x F=>by obtain⟨n,_,h⟩:=qn x F; exact⟨_,h⟩⟩,Nat.le_refl _,rfl⟩,?_,?_⟩
 ·rw[r7];have l:(es.map fun p=>Value.int .i64 p.1)=(es.map (·.1)).map (Value.int .i64):=by simp
  rw[l];exact List.Pairwise.map _ (fun a e h l=>h (by injection l)) R
 ·refine ((Pe (aX.toList.map (WideElems.rg (H:=Unit) Pg k Jr))).map _).trans (List.Perm.of_eq ?_);have l:es.map (·.1)=aX.toList.map fun x=>RowKit.intOf x.key:=by
   have:=congrArg (List.map RowKit.intOf) r7;simp only[List.map_map] at this;exact this.symm
  rw[l,List.map_map];refine List.map_congr_left fun x F=>?_;obtain⟨n,I,R⟩:=qn x F;simp[WideElems.rg,R,I];rfl
 ·have:=(Pe (aX.toList.map (WideElems.rg (H:=Unit) Pg k Jr))).length_eq;rw[Maps.size_eq,this]; simp[hi]
theorem aHN{r e3:Nat}{es:List (Int×Z)}(aa:∀ p∈es,-9223372036854775808≤p.1∧p.1≤9223372036854775807)(hm:es.length≤1000000)(H:E A (aJ e3 [.map (some r)] 216::dh T .i64 r es::m) w) :
  M Pg 59 [.func (.func 225) #[] #[.pointer (some ⟨e3,0,none⟩)]] X w fun s J=>∃ fM:List Int,fM.Perm (es.map (·.1)) ∧
   E A (row (B .i64) 3 1 s (fM.mergeSort fun x S=>decide (x≤S))::aJ e3 [.map (some r)] 216::dh T .i64 r es::m) J:=by
 obtain⟨aX,c,I,ao,R,hn⟩:=yW (H.front 1);have cK:=hn.get;obtain⟨ny,Hd,He,Ag⟩:=RT (k:=3) Tryz.underlying3 aa (by omega) I ao R cK;have z6:=H.get;have dI:e3<w.heap.size:=(Array.getElem?_eq_some_iff.1 z6).1;have Hi:=AnyZI.keys_gives (ρ:=Tryz.aby) { Tryz.Q5 with } Fence.wide (5-1-1-1) trivial rfl (by omega) e3 r aX.size ny w dI (by rw[u2 z6]; rfl) Hd;have wF:=AnyZI.sorted_in Tryz.SR Fence.wide 5 trivial trivial trivial trivial rfl (by omega) (SS _) (enters_of Tryz.func109 (by kernel_rfl) rfl) 225 #[.pointer (some ⟨e3,0,none⟩)] trivial (enters_of Tryz.func225 (by kernel_rfl) rfl) _ (Maps.size ny) (by rw[Ag]; exact Nat.le_trans hm (Nat.le_of_ble_eq_true rfl)) (by rw[Ag]; omega) w Hi;change CallsIn _ _ Pg 59 _ _ _ at wF;refine (callsIn_wide (n:=5)).1 (wF.mono ?_);rintro l J ⟨v,nt,rfl,ff,vo,aav,GW⟩
 have vo:J.ownsRow w.heap.size 3 1 v nt.length ((nt.mergeSort fun x S=>decide (x≤S)).flatMap (B .i64).cells):=by
  have l:(nt.mergeSort fun x S=>decide (x≤S)).flatMap (B .i64).cells=(nt.mergeSort fun x S=>decide (x≤S)).map encZ:=by
   generalize nt.mergeSort (fun x S=>decide (x≤S))=q;induction q with
   |nil=>rfl
   |cons x q cq=>rw[List.flatMap_cons,cq]; rfl
  rw[l]; exact vo
 obtain⟨s,aH,Be⟩:=H.ownsRow (T:=B .i64) (fun _=>rfl) (by rw[List.length_mergeSort]) GW vo;exact⟨s,aH,nt,ff.trans He,Be⟩
end
end bj
namespace Store
open bj
theorem vx{eL:Type}{k:Int}{v:eL}:∀ {es:List (Int×eL)},es.lookup k=some v→∃ c0 c4,es=c0++(k,v)::c4
 |[],h=>by cases h
 |(a,e)::es,h=>by
  simp only[List.lookup] at h;by_cases c:(k==a)=true
  ·rw[c] at h;have l:k=a:=by simpa using c
   cases h; subst l;exact⟨[],es,rfl⟩
  ·simp only[Bool.not_eq_true] at c;rw[c] at h;obtain⟨c0,c4,l⟩:=vx h;exact⟨(a,e)::c0,c4,by rw[l]; rfl⟩
theorem Rf{eL:Type}{k:Int}{v:eL}{es:List (Int×eL)}(h:es.lookup k=some v):(k,v)∈es:=by
 obtain⟨c0,c4,l⟩:=vx h;rw[l]; simp
theorem K3{eL:Type}{k:Int}{v:eL}:∀ {es:List (Int×eL)},(es.map (·.1)).Nodup→(k,v)∈es→es.lookup k=some v
 |[],_,h=>by cases h
 |(a,e)::es,aM,h=>by
  have aas:=List.nodup_cons.1 aM;simp only[List.lookup];rcases List.mem_cons.1 h with l | h
  ·cases l; simp
  ·have:k≠a:=fun l=>aas.1 (List.mem_map.2 ⟨(k,v),h,l⟩);rw[show (k==a)=false from by simpa using this];exact K3 aas.2 h
theorem afI{eL:Type}{k:Int}{v:eL}:∀ {es:List (Int×eL)},es.lookup k=none→eZ k v es=es++[(k,v)]
 |[],_=>rfl
 |(a,e)::es,h=>by
  simp only[List.lookup] at h;by_cases c:(k==a)=true
  ·rw[c] at h; cases h
  ·simp only[Bool.not_eq_true] at c;rw[c] at h;simp only[eZ,c];rw[afI h]; rfl
section
variable {A w:World} {m bX:List bE}
structure Bh where
 o:Nat
 eu:List (Int×ky)
def kc(eu:List (Int×ky)):List (Int×Option Addr):=eu.map fun l=>(l.1,some (⟨l.2.e,0,none⟩:Addr))
def m9(g:Int→List eV)(eu:List (Int×ky)):bE:=dH (eu.map fun l=>mr l.2 (g l.1))
structure Rel(t:Bh)(y:hG):Prop where
 keys:∀ k,a0 y.rows k≠[]↔k∈t.eu.map (·.1)
 marks:∀ l∈t.eu,0≤l.2.mark∧l.2.mark≤y.mark
def e_(e:Nat)(y:hG):bE:=h8 fun t:Bh=>dH [lG (Rel t y),aJ e (qi.cells ⟨some t.o,y.closed,y.mark⟩) 218,dh aE .i64 t.o (kc t.eu),m9 (a0 y.rows) t.eu]
theorem xn{e:Nat}{y:hG}(H:E A (e_ e y::m) w):∃ t:Bh,Rel t y∧(t.eu.map (·.1)).Nodup∧E A (aJ e (qi.cells ⟨some t.o,y.closed,y.mark⟩) 218::dh aE .i64 t.o (kc t.eu)::m9 (a0 y.rows) t.eu::m) w:=by
 obtain⟨t,H⟩:=H.ex;have H:=H.open_;obtain⟨h,H⟩:=E.vJ (fs:=Rel t y) H;refine⟨t,h,?_,H⟩;have:=HM (H.front 1);have l:(kc t.eu).map (·.1)=t.eu.map (·.1):=by unfold kc; rw[List.map_map]; rfl
 rw[← l]; exact this
theorem qK{e:Nat}{y:hG}{t:Bh}(h:Rel t y)(H:E A (aJ e (qi.cells ⟨some t.o,y.closed,y.mark⟩) 218::dh aE .i64 t.o (kc t.eu)::m9 (a0 y.rows) t.eu::m) w):E A (e_ e y::m) w:=
 E.mU t (E.shut (bX:=[lG (Rel t y),aJ e (qi.cells ⟨some t.o,y.closed,y.mark⟩) 218,dh aE .i64 t.o (kc t.eu),m9 (a0 y.rows) t.eu]) (E.v1 h H))
theorem Ez(k:Int):∀ eu:List (Int×ky),(kc eu).lookup k=(eu.lookup k).map fun C=>some (⟨C.e,0,none⟩:Addr)
 |[]=>rfl
 |(a,C)::eu=>by
  have cq:=Ez k eu;unfold kc at cq ⊢;simp only[List.map_cons,List.lookup];by_cases c:(k==a)=true
  ·rw[c]; rfl
  ·simp only[Bool.not_eq_true] at c;rw[c]; exact cq
theorem OF{g cP:Int→List eV}{eu:List (Int×ky)}(h:∀ l∈eu,g l.1=cP l.1):m9 g eu=m9 cP eu:=by
 unfold m9; rw[List.map_congr_left fun l he=>by rw[h l he]]
theorem Gr{g:Int→List eV}{c0 c4:List (Int×ky)}{l:Int×ky}(H:E A (m9 g (c0++l::c4)::m) w):E A (mr l.2 (g l.1)::m9 g (c0++c4)::m) w:=BB (f:=fun l:Int×ky=>mr l.2 (g l.1)) H
theorem Jw{g:Int→List eV}{c0 c4:List (Int×ky)}{l:Int×ky}(H:E A (mr l.2 (g l.1)::m9 g (c0++c4)::m) w):E A (m9 g (c0++l::c4)::m) w:=wE (f:=fun l:Int×ky=>mr l.2 (g l.1)) H
theorem XY{g cP:Int→List eV}{c0 c4:List (Int×ky)}{k:Int}{C:ky}{N:List eV}(aq:cP k=N)(aj:∀ l∈c0++c4,g l.1=cP l.1)(H:E A (mr C N::m9 g (c0++c4)::m) w):E A (m9 cP (c0++(k,C)::c4)::m) w:=by
 refine Jw (l:=(k,C)) ?_;rw[← OF aj]; rw[← aq] at H; exact H
theorem acM{c0 c4:List (Int×ky)}{k:Int}{C:ky}(aM:((c0++(k,C)::c4).map (·.1)).Nodup):∀ l∈c0++c4,l.1≠k:=by
 intro l he h;rw[List.map_append,List.map_cons] at aM;have R:=(List.nodup_append.1 aM).2;rcases List.mem_append.1 he with aK | aK
 ·exact R.2 l.1 (List.mem_map.2 ⟨l,aK,rfl⟩) k (List.mem_cons_self ..) h
 ·exact (List.nodup_cons.1 R.1).1 (by rw[← h]; exact List.mem_map.2 ⟨l,aK,rfl⟩)
theorem Rel.none{t:Bh}{y:hG}{k:Int}(h:Rel t y)(al:t.eu.lookup k=.none):a0 y.rows k=[]:=by
 by_cases l:a0 y.rows k=[]
 ·exact l
 ·exact absurd ((h.keys k).1 l) (HL.1 al)
theorem aHI(H:E A m w):M Pg 182 [] aE w fun r J=>∃ e,r=some ⟨e,0,none⟩∧E A (e_ e ⟨[],0,0⟩::m) J:=by
 refine ahA ?_;unfold U4;refine xc H fun o dL H=>?_;refine bR H fun e cG H=>?_;have H:=w9 aE .i64 (H.front 1);have H:E A (dH []::dh aE .i64 o []::aJ e (qi.cells ⟨some o,0,0⟩) 218::m) cG:=E.shut (bX:=[]) H;exact⟨e,rfl,qK (t:=⟨o,[]⟩) ⟨fun k=>by simp[CV],fun l h=>by cases h⟩ (H.ord [2,1,0])⟩
theorem QP{t:Int}(H:E A m w):M Pg 224 [.int .i64 t] bo w fun r J=>r=(decide (t≥0)&&decide (t≤1125899906842624))∧E A m J:=by
 refine ah6 ?_;unfold Vx;exact⟨rfl,H⟩
theorem HB{k:Int}(H:E A m w):M Pg 258 [.int .i64 k] bo w fun r J=>r=(decide (k≥0)&&decide (k<8192))∧E A m J:=by
 refine aiw ?_;unfold VW;exact⟨rfl,H⟩
theorem al1{e:Nat}{y:hG}{t:Int}(H:E A (e_ e y::m) w):M Pg 251 [.pointer (some ⟨e,0,none⟩),.int .i64 t] (B .i64) w fun r J=>r=JG t∧E A (e_ e (sU y t)::m) J:=by
 refine aiq ?_;unfold VQ;refine ap (QP H) ?_;rintro r dL ⟨rfl,H⟩;unfold sU JG;split
 ·rename_i U;rw[if_pos (show t<0∨t>1125899906842624 from by simp at U; omega)];exact⟨rfl,by rw[if_neg (by omega)]; exact H⟩
 ·rename_i U;rw[if_neg (show ¬ (t<0∨t>1125899906842624) from by simp at U; omega),if_pos rfl];obtain⟨p,h,aM,H⟩:=xn H;refine ch rfl ?_;refine ak (x:=y.closed) 0 H rfl rfl rfl ?_;refine dK (x:=max y.closed t) 0 H rfl rfl (Nat.le_of_ble_eq_true rfl) fun cG H=>?_;exact⟨rfl,qK (y:={ y with closed:=max y.closed t }) ⟨h.keys,h.marks⟩ H⟩
theorem aIv{e:Nat}{y:hG}{t:Int}(H:E A (e_ e y::m) w):M Pg 172 [.pointer (some ⟨e,0,none⟩),.int .i64 t] (B .i64) w fun r J=>r=rL y t∧E A (e_ e y::m) J:=by
 refine ahr ?_;unfold UU;refine ap (QP H) ?_;rintro r dL ⟨rfl,H⟩;unfold rL;split
 ·rename_i U;rw[if_pos (show t<0∨t>1125899906842624 from by simp at U; omega)];exact⟨rfl,H⟩
 ·rename_i U;rw[if_neg (show ¬ (t<0∨t>1125899906842624) from by simp at U; omega)];obtain⟨p,h,aM,H⟩:=xn H;refine ch rfl ?_;refine ak (x:=y.closed) 0 H rfl rfl rfl ?_;split
  ·rename_i U;rw[if_pos (by simpa using U)];exact⟨rfl,qK h H⟩
  ·rename_i U;rw[if_neg (by simpa using U)];refine ak (x:=y.mark) 0 H rfl rfl rfl ?_;split
   ·rename_i U;rw[if_pos (by simpa using U)];exact⟨rfl,qK h H⟩
   ·rename_i U;rw[if_neg (by simpa using U)];exact⟨rfl,qK h H⟩
theorem E5{e:Nat}{y:hG}{k:Int}(a_:Inv y)(H:E A (e_ e y::m) w):M Pg 211 [.pointer (some ⟨e,0,none⟩),.int .i64 k] (bB dR bo) w fun r J=>r=pn (a0 y.rows k)∧E A (e_ e y::m) J:=by
 refine ahT ?_;unfold Vi;refine bR H fun iS dL H=>?_;obtain⟨t,h,lC,H⟩:=xn (H.front 1);refine ch rfl ?_;refine ak (x:=some t.o) 0 H rfl rfl rfl ?_;refine mw 1 H rfl rfl ?_;rw[Ez];cases al:t.eu.lookup k with
 |none=>
  rw[if_pos (by simp)];refine de (x:=kD) (S:=(⟨0,0⟩:eV)) qq 3 H rfl fun cG H=>?_;refine ez (x:=(⟨0,0⟩:eV)) 0 H rfl ?_;exact⟨by rw[h.none al]; rfl,qK h H.drop⟩
 |some C=>
  rw[if_neg (by simp)];obtain⟨c0,c4,l⟩:=vx al;have H:=H.front 2;rw[l] at H;have H:=Gr H;refine ap (Yb (C:=C) (Nat.le_trans (a_.cap _) (by omega)) H) ?_;rintro r cG ⟨rfl,H⟩;have H:=Jw (l:=(k,C)) H;rw[← l] at H;show bi dR _ (pn (a0 y.rows k)).1 _ _
  generalize pn (a0 y.rows k)=q;refine de (x:=kD) (S:=q.1) qq 3 H rfl fun bl H=>?_;refine ez (x:=q.1) 0 H rfl ?_;exact⟨rfl,qK h (H.drop.ord [1,2,0])⟩
theorem aow{e:Nat}{y:hG}{k:Int}(a_:Inv y)(H:E A (e_ e y::m) w):M Pg 259 [.pointer (some ⟨e,0,none⟩),.int .i64 k] bo w fun r J=>r=decide (10000≤(a0 y.rows k).length)∧E A (e_ e y::m) J:=by
 refine aix ?_;unfold VX;obtain⟨t,h,lC,H⟩:=xn H;refine ch rfl ?_;refine ak (x:=some t.o) 0 H rfl rfl rfl ?_;refine mw 1 H rfl rfl ?_;rw[Ez];cases al:t.eu.lookup k with
 |none=>
  rw[if_neg (by simp)];unfold FM;exact⟨by rw[h.none al]; simp,qK h H⟩
 |some C=>
  rw[if_pos (by simp)];obtain⟨c0,c4,l⟩:=vx al;have H:=H.front 2;rw[l] at H;have H:=Gr H;have hi:(a0 y.rows k).length≤10000:=a_.cap k;refine ap (alx (C:=C) (by show (a0 y.rows k).length≤_; omega) H) ?_;intro r cG H;have aa:=gG H;have H:=Jw (l:=(k,C)) H.drop;rw[← l] at H;unfold FM;refine⟨?_,qK h (H.ord [1,2,0])⟩;have aa:r.len=(a0 y.rows k).length:=aa;rw[aa];rw[Bool.eq_iff_iff,decide_eq_true_eq];simp
  try omega
end
theorem Tr{N:List Row}{t:Int}:∀ {xs:List fK} {seen:List Int},xw N t seen xs=0→(∀ x∈xs,0≤x.Key∧x.Key≤8191∧(pn (a0 N x.Key)).1.b9<t∧(a0 N x.Key).length<10000∧x.Key∉seen)∧(xs.map (·.Key)).Nodup
 |[],seen,_=>⟨fun x h=>(by cases h),List.nodup_nil⟩
 |x::xs,seen,h=>by
  unfold xw at h;split at h
  ·cases h
  ·rename_i I;split at h
   ·cases h
   ·rename_i R;split at h
    ·cases h
    ·rename_i aK;split at h
     ·cases h
     rename_i bp;obtain⟨bD,e4⟩:=Tr h;refine⟨fun S aB=>?_,List.nodup_cons.2 ⟨fun hm=>?_,e4⟩⟩
     ·rcases List.mem_cons.1 aB with rfl | aB
      ·exact⟨by omega,by omega,by omega,by omega,R⟩
      ·have:=bD S aB;exact⟨this.1,this.2.1,this.2.2.1,this.2.2.2.1,fun aH=>this.2.2.2.2 (List.mem_append_left _ aH)⟩
     ·obtain⟨S,aB,l⟩:=List.mem_map.1 hm;have:=(bD S aB).2.2.2.2;rw[l] at this;exact this (List.mem_append_right _ (List.mem_singleton_self _))
theorem aJb{N:List Row}{t:Int}{seen:List Int}{x:fK}{xs:List fK}:xw N t seen (x::xs)=if x.Key<0∨x.Key>8191 then 123 else if x.Key∈seen then 124 else if (pn (a0 N x.Key)).1.b9≥t then 121 else if 10000≤(a0 N x.Key).length then 125 else xw N t (seen++[x.Key]) xs:=rfl
theorem Ml{t k:Int}{xs:List fK}(h:k∉xs.map (·.Key)):a0 (news t xs) k=[]:=by
 by_cases l:a0 (news t xs) k=[]
 ·exact l
 ·obtain⟨r,aa,aq⟩:=Tl.1 l;obtain⟨x,F,rfl⟩:=List.mem_map.1 aa;exact absurd (List.mem_map.2 ⟨x,F,aq⟩) h
section
variable {A w:World} {m bX:List bE}
theorem aIb{e:Nat}{y:hG}{t:Int}{s:af}{xs:List fK}(a_:Inv y)(F:xs.length≤1000)(aT:1≤t)(k:dr 2 m h2 s xs)(H:E A (e_ e y::m) w) :
  M Pg 244 [.pointer (some ⟨e,0,none⟩),.int .i64 t,X.enc s] (B .i64) w fun r J=>r=(if xs.length>100 then 122 else xw y.rows t [] xs)∧E A (e_ e y::m) J:=by
 have aH:=k.tail.len H;refine aii ?_;unfold VI;split
 ·rename_i U;rw[if_pos (by simp at U; omega)];exact⟨rfl,H⟩
 ·rename_i U;rw[if_neg (by simp at U; omega)];refine xc H fun o dL H=>?_;have H:=w9 fF .i64 H;refine vy (fun i w=>0≤i∧i≤xs.length∧xw y.rows t [] xs=xw y.rows t ((xs.take i.toNat).map (·.Key)) (xs.drop i.toNat)∧∃ es:List (Int×o8),(∀ k,(es.lookup k).isSome=decide (k∈(xs.take i.toNat).map (·.Key)))∧E A (dh fF .i64 o es::e_ e y::m) w) (fun i=>(xs.length-i).toNat)
   ⟨Int.le_refl 0,by omega,by simp,[],by simp,H⟩ ?_
  rintro i w ⟨ah,I,R,es,aK,H⟩;unfold Nn;rw[aH];split
  ·rename_i U;have U:i<xs.length:=by simpa using U
   have aS:IntKind.i64.wrap (i+1)=i+1:=wrap_i64 (by omega) (by omega);have QL:xs[i.toNat]?=some xs[i.toNat]:=List.getElem?_eq_getElem (by omega);have ag:xs.drop i.toNat=xs[i.toNat]::xs.drop (i.toNat+1):=List.drop_eq_getElem_cons (by omega);have iW:xs.take (i.toNat+1)=xs.take i.toNat++[xs[i.toNat]]:=List.take_succ_eq_append_getElem (by omega);obtain⟨a,Y⟩:=k.tail.tail.iH (i:=i) H ah U;refine aR a Y ?_;refine aR xs[i.toNat] (k.tail.tail.rd Y QL H) ?_;generalize xs[i.toNat]=x at ag iW;refine bR H fun fp cG H=>?_;refine de (x:=DA) (S:=x) Rc 0 H rfl fun bl H=>?_;refine ak (x:=x.Key) 0 H rfl rfl rfl ?_;refine mw 1 H rfl rfl ?_;refine bR H fun ek aY H=>?_;refine dK (x:=_) 0 H rfl rfl (Nat.le_of_ble_eq_true rfl) fun bc H=>?_;refine ak (x:=x.Key) 1 H rfl rfl rfl ?_;refine ap (E5 (k:=x.Key) a_ (H.front 3)) ?_;rintro r b3 ⟨rfl,H⟩;refine bR H fun iS bZ H=>?_;generalize ba:pn (a0 y.rows x.Key)=q
   refine de (x:=kD) (S:=q.1) qq 0 H rfl fun bJ H=>?_;refine ak (x:=x.Key) 3 H rfl rfl rfl ?_;refine ap (HB H) ?_;rintro r b6 ⟨rfl,H⟩;rw[ag,aJb,ba] at R;have kK:=aK x.Key;generalize aaC:(xs.take i.toNat).map (·.Key)=seen at R kK aK;split
   ·rename_i aq;rw[if_pos (show x.Key<0∨x.Key>8191 from by simp at aq; omega)] at R;exact⟨R.symm,((((H.drop.front 1).drop.front 1).drop.front 1).drop)⟩
   ·rename_i aq;rw[if_neg (show ¬ (x.Key<0∨x.Key>8191) from by simp at aq; omega)] at R;split
    ·rename_i jG;have jG:(es.lookup x.Key).isSome=true:=jG;rw[kK] at jG;rw[if_pos (by simpa using jG)] at R;exact⟨R.symm,((((H.drop.front 1).drop.front 1).drop.front 1).drop)⟩
    ·rename_i jG;have jG:¬ (es.lookup x.Key).isSome=true:=jG;rw[kK] at jG;rw[if_neg (by simpa using jG)] at R;refine ak (x:=q.1.b9) 0 H rfl rfl rfl ?_;split
     ·rename_i Ki;rw[if_pos (by simpa using Ki)] at R;exact⟨R.symm,((((H.drop.front 1).drop.front 1).drop.front 1).drop)⟩
     ·rename_i Ki;rw[if_neg (by simpa using Ki)] at R;refine ak (x:=x.Key) 3 H rfl rfl rfl ?_;refine ap (aow (k:=x.Key) a_ (H.front 1)) ?_;rintro r cu ⟨rfl,H⟩;by_cases B0:10000≤(a0 y.rows x.Key).length
      ·rw[decide_eq_true B0,if_pos rfl];rw[if_pos B0] at R;exact⟨R.symm,((((H.front 1).drop.front 1).drop.front 1).drop.front 1).drop⟩
      rw[if_neg B0] at R;rw[decide_eq_false B0,if_neg (by simp)];refine ak (x:=x.Key) 3 H rfl rfl rfl ?_;refine sf 4 H rfl rfl fun cV H=>?_;rw[aS];refine⟨⟨by omega,by omega,?_,_,?_,((((H.front 2).drop.front 2).drop.front 2).drop)⟩,by omega⟩
      ·rw[show (i+1).toNat=i.toNat+1 from by omega,iW,List.map_append,aaC]; exact R
      ·intro k;rw[show (i+1).toNat=i.toNat+1 from by omega,iW,List.map_append,aaC,tg];by_cases Ek:k=x.Key
       ·subst Ek; simp
       ·rw[if_neg (by simpa using Ek),aK k]; simp[Ek]
  ·rename_i U;have U:i=xs.length:=by simp at U; omega
   subst U;have l:xs.drop ((xs.length:Int)).toNat=[]:=by simp
   rw[l] at R;exact⟨R.symm,H.drop⟩
end
theorem aDd{t:Int}{xs:List fK}{i:Nat}(h:i<xs.length):news t (xs.take (i+1))=news t (xs.take i)++[⟨t,xs[i]⟩]:=by
 unfold news; rw[List.take_succ_eq_append_getElem h,List.map_append]; rfl
theorem afZ(t k:Int)(x:fK):a0 [⟨t,x⟩] k=if x.Key=k then [⟨t,x.V⟩] else []:=by rw[zp,CV]
theorem afY{t k:Int}:∀ {xs:List fK},(xs.map (·.Key)).Nodup→(a0 (news t xs) k).length≤1
 |[],_=>by simp[news,CV]
 |x::xs,h=>by
  have fG:=List.nodup_cons.1 h;have l:news t (x::xs)=⟨t,x⟩::news t xs:=rfl;rw[l,zp];split
  ·rename_i aq;have aq:x.Key=k:=aq;subst aq;rw[Ml fG.1];simp
  ·exact afY fG.2
theorem Inv.put{y:hG}(a_:Inv y)(t:Int)(xs:List fK):Inv (nQ y t xs):=by
 unfold nQ;split
 ·rename_i he;unfold vK at he;split at he
  ·cases he
  ·split at he
   ·cases he
   ·split at he
    ·cases he
    ·obtain⟨I,R⟩:=Tr he;refine⟨fun k=>?_,fun r aa=>?_,fun r aa=>?_,?_,a_.mark⟩
     ·simp only;rw[IE,List.length_append];by_cases aq:k∈xs.map (·.Key)
      ·obtain⟨x,F,rfl⟩:=List.mem_map.1 aq;have:=(I x F).2.2.2.1;have:=afY (t:=t) (k:=x.Key) R;omega
      ·rw[Ml aq];have:=a_.cap k;simpa using this
     ·rcases List.mem_append.1 aa with aa | aa
      ·exact a_.key r aa
      ·obtain⟨x,F,rfl⟩:=List.mem_map.1 aa;exact⟨(I x F).1,(I x F).2.1⟩
     ·rcases List.mem_append.1 aa with aa | aa
      ·exact a_.ih r aa
      ·obtain⟨x,F,rfl⟩:=List.mem_map.1 aa;simp only; omega
     ·refine List.pairwise_append.2 ⟨a_.rI,?_,?_⟩
      ·unfold news;rw[List.pairwise_map];refine (List.pairwise_map.1 R).imp fun d_ he=>absurd he d_
      ·rintro r aa q ba aq;obtain⟨x,F,rfl⟩:=List.mem_map.1 ba;have dI:=(I x F).2.2.1;have aq:r.cm.Key=x.Key:=aq;show r.b9<t
       have hm:(⟨r.b9,r.cm.V⟩:eV)∈a0 y.rows x.Key:=List.mem_map.2 ⟨r,List.mem_filter.2 ⟨aa,by simpa using aq⟩,rfl⟩;have ark:=IF a_.rI x.Key;unfold pn at dI;generalize a0 y.rows x.Key=N at *;rcases List.eq_nil_or_concat N with rfl | ⟨Xj,S,rfl⟩
       ·cases hm
       ·rw[List.concat_eq_append] at *;rw[List.getLast?_append] at dI;simp only[List.getLast?_singleton,Option.some_or,Option.getD_some] at dI;rcases List.mem_append.1 hm with h | h
        ·have:=(List.pairwise_append.1 ark).2.2 _ h S (List.mem_singleton_self _);simp only at this; omega
        ·cases List.mem_singleton.1 h;simpa using dI
 ·exact a_
theorem Inv.close{y:hG}(a_:Inv y)(t:Int):Inv (sU y t):=by
 unfold sU;split
 ·rename_i h;unfold JG at h;have:=a_.mark;refine⟨a_.cap,a_.key,a_.ih,a_.rI,?_⟩;split at h
  ·cases h
  ·simp only; omega
 ·exact a_
theorem Inv.RY{y:hG}(a_:Inv y)(t:Int):Inv (sp y t):=by
 unfold sp;split
 ·rename_i h;unfold vI at h;have:=a_.mark;have aH:=Q4 (max y.mark t) y.rows;refine⟨fun k=>Nat.le_trans (by unfold a0; rw[List.length_map,List.length_map]; exact (aH.filter _).length_le) (a_.cap k),fun r aa=>a_.key r (aH.subset aa),fun r aa=>a_.ih r (aH.subset aa),a_.rI.sublist aH,?_⟩;split at h
  ·cases h
  ·split at h
   ·cases h
   ·simp only; omega
 ·exact a_
section
variable {A w:World} {m bX:List bE}
theorem CA{e:Nat}{y:hG}{t:Int}{s:af}{xs:List fK}(a_:Inv y)(F:xs.length≤1000)(k:dr 2 m h2 s xs)(H:E A (e_ e y::m) w) :
  M Pg 214 [.pointer (some ⟨e,0,none⟩),.int .i64 t,X.enc s] (B .i64) w fun r J=>r=vK y t xs∧E A (e_ e (nQ y t xs)::m) J:=by
 refine ahW ?_;unfold Vl;have aH:=k.tail.len H;split
 ·rename_i U;have l:vK y t xs=120:=by unfold vK; rw[if_pos (by simp at U; omega)]
  unfold nQ;rw[l,if_neg (by omega)];exact⟨rfl,H⟩
 ·rename_i U;have U:¬ (t<1∨t>1125899906842624):=by simp at U; omega
  obtain⟨p,h,lC,H⟩:=xn H;refine ch rfl ?_;refine ak (x:=y.closed) 0 H rfl rfl rfl ?_;have H:=qK h H;split
  ·rename_i hI;have l:vK y t xs=121:=by unfold vK; rw[if_neg U,if_pos (by simpa using hI)]
   unfold nQ;rw[l,if_neg (by omega)];exact⟨rfl,H⟩
  ·rename_i hI;have hI:¬ t≤y.closed:=by simpa using hI
   refine ap (aIb (t:=t) a_ F (by omega) k H) ?_;rintro r dL ⟨rfl,H⟩;have l:vK y t xs=if xs.length>100 then 122 else xw y.rows t [] xs:=by unfold vK; rw[if_neg U,if_neg hI]
   rw[← l];unfold nQ;split
   ·rename_i d_;have d_:vK y t xs≠0:=by simpa using d_
    rw[if_neg d_];exact⟨rfl,H⟩
   ·rename_i d_;have d_:vK y t xs=0:=by simpa using d_
    rw[if_pos d_,d_];have al:xs.length≤100:=by
     rw[l] at d_;split at d_
     ·cases d_
     ·omega
    rw[l,if_neg (by omega)] at d_;obtain⟨bD,e4⟩:=Tr d_;refine vy (fun i w=>0≤i∧i≤xs.length∧E A (e_ e { y with rows:=y.rows++news t (xs.take i.toNat) }::m) w) (fun i=>(xs.length-i).toNat) ⟨Int.le_refl 0,by omega,by simpa[news] using H⟩ ?_;rintro i w ⟨ah,I,H⟩;unfold Ng;rw[aH];split
    ·rename_i yr;have yr:i<xs.length:=by simpa using yr
     have aS:IntKind.i64.wrap (i+1)=i+1:=wrap_i64 (by omega) (by omega);have QL:xs[i.toNat]?=some xs[i.toNat]:=List.getElem?_eq_getElem (by omega);have iW:=aDd (t:=t) (xs:=xs) (i:=i.toNat) (by omega);have P1:=bD xs[i.toNat] (List.getElem_mem _);have Hb:(xs[i.toNat]).Key∉(xs.take i.toNat).map (·.Key):=by
      intro hm;rw[List.map_take] at hm;obtain⟨D,bT,apZ⟩:=List.mem_take_iff_getElem.1 hm;have:=(List.pairwise_iff_getElem.1 e4) D i.toNat (by simp at bT ⊢; omega) (by simp; omega) (by omega);rw[apZ] at this;simp at this
     obtain⟨a,Y⟩:=k.tail.iH (i:=i) H ah yr;refine aR a Y ?_;refine aR xs[i.toNat] (k.tail.rd Y QL H) ?_;generalize xs[i.toNat]=x at iW P1 Hb;refine bR H fun fp cG H=>?_;refine de (x:=DA) (S:=x) Rc 0 H rfl fun bl H=>?_;refine dy H fun aY H=>?_;have Qo:a0 (y.rows++news t (xs.take i.toNat)) x.Key=a0 y.rows x.Key:=by rw[IE,Ml Hb,List.append_nil]
     generalize arl:y.rows++news t (xs.take i.toNat)=rows at H Qo;have arm:y.rows++news t (xs.take (i+1).toNat)=rows++[⟨t,x⟩]:=by rw[show (i+1).toNat=i.toNat+1 from by omega,iW,← arl,List.append_assoc]
     have hi:(a0 rows x.Key).length<10000:=by rw[Qo]; exact P1.2.2.2.1
     have G7:(pn (a0 rows x.Key)).1.b9<t:=by rw[Qo]; exact P1.2.2.1
     have Ql:a0 (rows++[⟨t,x⟩]) x.Key=a0 rows x.Key++[⟨t,x.V⟩]:=by rw[IE,afZ,if_pos rfl]
     have P_:∀ q,q≠x.Key→a0 rows q=a0 (rows++[⟨t,x⟩]) q:=fun q ba=>by rw[IE,afZ,if_neg (fun h=>ba h.symm),List.append_nil]
     have Ab:=a_.mark;obtain⟨p,h,lC,H⟩:=xn (H.front 1);have Kg:∀ (C:ky) (c0 c4:List (Int×ky)) (jY:Nat) (w:World),Rel ⟨jY,c0++(x.Key,C)::c4⟩ { y with rows:=rows++[⟨t,x⟩] }→((c0++(x.Key,C)::c4).map (·.1)).Nodup→0≤C.mark∧C.mark≤y.mark →
       E A (mr C (a0 rows x.Key)::m9 (a0 rows) (c0++c4)::dh aE .i64 jY (kc (c0++(x.Key,C)::c4))::aJ e (qi.cells ⟨some jY,y.closed,y.mark⟩) 218::aJ fp (h2.cells x) 87::m) w →
       FB t i ⟨fp,0,none⟩ (some ⟨C.e,0,none⟩) w (fun fO J=>(0≤fO∧fO≤xs.length∧E A (e_ e { y with rows:=y.rows++news t (xs.take fO.toNat) }::m) J)∧(xs.length-fO).toNat<(xs.length-i).toNat) fun r J=>r=0∧E A (e_ e { y with rows:=y.rows++news t xs }::m) J:=by
      intro C c0 c4 jY w jE lC hm H;unfold FB;refine ak (x:=x.V) 4 H rfl rfl rfl ?_;refine ap (alA (t:=t) (v:=x.V) (by omega) (by omega) (by omega) (by omega) G7 H) ?_;rintro r bc ⟨s2,H⟩;rw[aS];have H:=XY (cP:=a0 (rows++[⟨t,x⟩])) (k:=x.Key) Ql (fun l he=>P_ l.1 (acM lC l he)) H;refine⟨⟨by omega,by omega,?_⟩,by omega⟩;rw[arm];have aF:kc (c0++(x.Key,(⟨C.e,s2,C.mark⟩:ky))::c4)=kc (c0++(x.Key,C)::c4):=by unfold kc; simp
      rw[← aF] at H;refine qK (t:=⟨jY,c0++(x.Key,⟨C.e,s2,C.mark⟩)::c4⟩) (y:={ y with rows:=rows++[⟨t,x⟩] }) ⟨fun q=>?_,fun l he=>?_⟩ (((H.front 3).drop).ord [2,1,0])
      ·have:=jE.keys q;simpa using this
      ·rcases List.mem_append.1 he with he | he
       ·exact jE.marks l (List.mem_append_left _ he)
       ·rcases List.mem_cons.1 he with rfl | he
        ·exact hm
        ·exact jE.marks l (List.mem_append_right _ (List.mem_cons_of_mem _ he))
     refine ak (x:=some p.o) 0 H rfl rfl rfl ?_;refine ak (x:=x.Key) 3 H rfl rfl rfl ?_;refine mw 1 H rfl rfl ?_;rw[Ez];cases mv:p.eu.lookup x.Key with
     |none=>
      rw[if_pos (by simp)];refine ap (aly H) ?_;rintro r bc ⟨au,rfl,H⟩;refine dy H fun b3 H=>?_;refine ak (x:=some p.o) 1 H rfl rfl rfl ?_;refine ak (x:=x.Key) 4 H rfl rfl rfl ?_;refine sf 2 H rfl rfl fun bZ H=>?_;have aqX:(kc p.eu).lookup x.Key=none:=by rw[Ez,mv]; rfl
      have aF:eZ x.Key (some ⟨au,0,none⟩) (kc p.eu)=kc (p.eu++(x.Key,(⟨au,fN,0⟩:ky))::[]):=by rw[afI aqX]; unfold kc; simp
      rw[aF] at H;have aoE:a0 rows x.Key=[]:=h.none mv;have aq7:x.Key∉p.eu.map (·.1):=HL.1 mv;refine Kg ⟨au,fN,0⟩ p.eu [] p.o bZ ⟨fun q=>?_,fun l he=>?_⟩ ?_ ⟨Int.le_refl 0,Ab.1⟩ ?_
      ·by_cases ba:q=x.Key
       ·subst ba;simp only[Ql]; simp
       ·rw[← P_ q ba,h.keys q]; simp[ba]
      ·rcases List.mem_append.1 he with he | he
       ·exact h.marks l he
       ·cases List.mem_singleton.1 he;exact⟨Int.le_refl 0,Ab.1⟩
      ·rw[List.map_append];refine List.nodup_append.2 ⟨lC,by simp,?_⟩;intro a Y c U;simp at U; subst U;intro l; subst l; exact aq7 Y
      ·rw[aoE,List.append_nil];exact H.ord [1,3,0,2,4]
     |some C=>
      rw[if_neg (by simp)];obtain⟨c0,c4,l⟩:=vx mv;rw[l] at H lC;have hm:=h.marks _ (Rf mv);refine Kg C c0 c4 p.o aY ⟨fun q=>?_,fun h6 he=>?_⟩ lC hm ((Gr (H.front 2)).ord [0,1,3,2,4])
      ·have:=h.keys q;rw[l] at this;by_cases ba:q=x.Key
       ·subst ba;simp only[Ql]; simp
       ·rw[← P_ q ba]; exact this
      ·exact h.marks _ (by rw[l]; assumption)
    ·rename_i yr;have yr:i=xs.length:=by simp at yr; omega
     subst yr;have bb:xs.take ((xs.length:Int)).toNat=xs:=by simp
     rw[bb] at H;exact⟨rfl,H⟩
end
def oW(N:List Int):List Int:=N.mergeSort fun x S=>decide (x≤S)
theorem SQ(N:List Int):(oW N).Pairwise fun x S=>x≤S:=by
 have I:(oW N).Pairwise fun x S=>decide (x≤S)=true:=
  List.pairwise_mergeSort (fun a e c I R=>by simp at I R ⊢; omega) (fun a e=>by simp; omega) N
 exact I.imp fun h=>by simpa using h
theorem oq(N:List Int):(oW N).Perm N:=List.mergeSort_perm N _
theorem SP{N y:List Int}(h:N.Perm y):oW N=oW y:=
 List.Perm.eq_of_pairwise (fun a e _ _ I R=>by omega) (SQ N) (SQ y) ((oq N).trans (h.trans (oq y).symm))
theorem SO{N:List Int}(h:N.Nodup):(oW N).Pairwise fun x S=>x<S:=
 ((SQ N).and ((oq N).nodup_iff.2 h)).imp fun {a e} h => by
  have I:=h.1;have R:a≠e:=h.2;omega
theorem Rel.aHM{t:Bh}{y:hG}(h:Rel t y)(aM:(t.eu.map (·.1)).Nodup):Keys y.rows (oW (t.eu.map (·.1))):=
 ⟨SO aM,fun k=>by rw[(oq _).mem_iff,h.keys]⟩
theorem Q_:∀ N:List Row,∃ fM,Keys N fM
 |[]=>⟨[],List.Pairwise.nil,fun k=>by simp[CV]⟩
 |r::N=>by
  obtain⟨fM,h⟩:=Q_ N;by_cases aq:r.cm.Key∈fM
  ·refine⟨fM,h.rI,fun k=>?_⟩;rw[zp];split
   ·rename_i l; subst l; simp[aq]
   ·exact h.all k
  ·refine⟨oW (r.cm.Key::fM),SO (List.nodup_cons.2 ⟨aq,h.rI.imp fun h=>Int.ne_of_lt h⟩),fun k=>?_⟩;rw[(oq _).mem_iff,zp,List.mem_cons,h.all];split
   ·rename_i l; subst l; simp
   ·rename_i l;constructor
    ·rintro (rfl | h)
     ·exact absurd rfl l
     ·exact h
    ·exact fun h=>.inr h
noncomputable def Q7(N:List Row):List Int:=Classical.choose (Q_ N)
theorem aB6(N:List Row):Keys N (Q7 N):=Classical.choose_spec (Q_ N)
theorem Q8{N:List Row}{fM:List Int}(h:Keys N fM):Q7 N=fM:=(aB6 N).aIF h fun _=>Iff.rfl
noncomputable def ns(y:hG)(t:Int):List fK:=if rL y t=0 then CS y.rows t (Q7 y.rows) else []
theorem aHH{N:List Row}{t:Int}{q:List Int}{i:Nat}(h:i<q.length):CS N t (q.take (i+1))=CS N t (q.take i)++match tV (a0 N q[i]) t with | none=>[] | some v=>[⟨q[i],v.V⟩]:=by
 unfold CS;rw[List.take_succ_eq_append_getElem h,List.filterMap_append];congr 1;rw[List.filterMap_cons];cases tV (a0 N q[i]) t<;>rfl
theorem aIu{y:hG}{t:Int}(h:rL y t=0):0≤t∧t≤1125899906842624∧t≤y.closed∧y.mark≤t:=by
 unfold rL at h;split at h
 ·cases h
 ·split at h
  ·cases h
  ·split at h
   ·cases h
   ·omega
theorem J2(eu:List (Int×ky)):(kc eu).map (·.1)=eu.map (·.1):=by unfold kc; rw[List.map_map]; rfl
theorem aeC:∀ {N:List Int} {nM ay:Int},N.Pairwise (fun x S=>x<S)→(∀ x∈N,nM≤x∧x≤ay)→(N.length:Int)≤max 0 (ay-nM+1)
 |[],_,_,_,_=>by simp only[List.length_nil]; omega
 |x::N,nM,ay,h,ao=>by
  have fG:=List.pairwise_cons.1 h;have I:=ao x (List.mem_cons_self ..);have:=aeC (N:=N) (nM:=x+1) (ay:=ay) fG.2 fun S aB=>⟨by have:=fG.1 S aB; omega,(ao S (List.mem_cons_of_mem _ aB)).2⟩
  simp only[List.length_cons]; omega
theorem aB8{t:Bh}{y:hG}(a_:Inv y)(h:Rel t y)(aM:(t.eu.map (·.1)).Nodup):t.eu.length≤8192:=by
 have I:=aeC (N:=oW (t.eu.map (·.1))) (nM:=0) (ay:=8191) (SO aM) fun x F=>by
  have F:x∈t.eu.map (·.1):=(oq _).mem_iff.1 F;obtain⟨r,aa,aq⟩:=Tl.1 ((h.keys x).2 F);have:=a_.key r aa;omega
 rw[(oq _).length_eq,List.length_map] at I;omega
section
variable {A w:World} {m bX:List bE}
theorem aHG{e:Nat}{y:hG}{t:Int}(a_:Inv y)(H:E A (e_ e y::m) w):M Pg 117 [.pointer (some ⟨e,0,none⟩),.int .i64 t] (bB X (B .i64)) w fun r J=>r.2=rL y t∧E A (row h2 87 2 r.1 (ns y t)::e_ e y::m) J:=by
 refine agC ?_;unfold T6;refine ap (aIv (t:=t) H) ?_;rintro r dL ⟨rfl,H⟩;unfold ns;split
 ·rename_i U;have U:rL y t≠0:=by simpa using U
  rw[if_neg U];exact⟨rfl,k4 h2 87 2 H⟩
 ·rename_i U;have U:rL y t=0:=by simpa using U
  rw[if_pos U];obtain⟨arJ,Kw,aaE,aKC⟩:=aIu U;obtain⟨p,h,lC,H⟩:=xn H;have aao:=h.aHM lC;have ys:=aB8 a_ h lC;rw[Q8 aao];refine ch rfl ?_;refine ak (x:=some p.o) 0 H rfl rfl rfl ?_;refine ahs ?_;unfold UV;refine bR H fun e3 cG H=>?_;have Hg:∀ l∈kc p.eu,-9223372036854775808≤l.1∧l.1≤9223372036854775807:=by
   intro l he;have:l.1∈p.eu.map (·.1):=by rw[← J2]; exact List.mem_map.2 ⟨l,he,rfl⟩
   obtain⟨r,aa,aq⟩:=Tl.1 ((h.keys _).2 this);have:=a_.key r aa;omega
  refine ap (aHN Hg (by unfold kc; rw[List.length_map]; omega) (H.ord [0,2])) ?_;rintro s bl ⟨fM,aF,H⟩;have ba:(fM.mergeSort fun x S=>decide (x≤S))=oW (p.eu.map (·.1)):=by rw[J2] at aF; exact SP aF
  rw[ba] at H;have aH:=gG H;have wS:(oW (p.eu.map (·.1))).length≤9000:=by rw[(oq _).length_eq,List.length_map]; omega
  generalize oW (p.eu.map (·.1))=q at *;have H:=k4 h2 87 2 H;refine vy (fun x w=>0≤x.2∧x.2≤q.length∧E A (row h2 87 2 x.1 (CS y.rows t (q.take x.2.toNat))::row (B .i64) 3 1 s q::aJ e3 [.map (some p.o)] 216::dh aE .i64 p.o (kc p.eu)::aJ e (qi.cells ⟨some p.o,y.closed,y.mark⟩) 218::m9 (a0 y.rows) p.eu::m) w) (fun x=>(q.length-x.2).toNat)
   ⟨Int.le_refl 0,by simp only; omega,H⟩ ?_
  rintro⟨out,i⟩ w ⟨ah,I,H⟩;simp only at ah I;simp only;unfold MH;rw[aH];split
  ·rename_i hI;have hI:i<q.length:=by simpa using hI
   have aS:IntKind.i64.wrap (i+1)=i+1:=wrap_i64 (by omega) (by omega);have F:q[i.toNat]?=some q[i.toNat]:=List.getElem?_eq_getElem (by omega);have l5:=aHH (N:=y.rows) (t:=t) (q:=q) (i:=i.toNat) (by omega);have kK:q[i.toNat]∈p.eu.map (·.1):=(h.keys _).1 ((aao.all _).1 (List.getElem_mem _));have B4:(CS y.rows t (q.take i.toNat)).length≤9000:=by
    unfold CS;refine Nat.le_trans (List.length_filterMap_le _ _) ?_;rw[List.length_take]; omega
   obtain⟨a,Y⟩:=k3 (ar:=1) (i:=i) (H.front 1) ah hI;refine aR a Y ?_;refine aR q[i.toNat] (my (fun _=>rfl) Y F (H.front 1)) ?_;generalize q[i.toNat]=k at *;refine ak (x:=some p.o) 4 H rfl rfl rfl ?_;refine mw 3 H rfl rfl ?_;rw[Ez];obtain⟨l,he,Kf⟩:=List.mem_map.1 kK;obtain⟨gf,C⟩:=l;simp only at Kf;subst Kf;have mv:=K3 lC he;rw[mv];obtain⟨c0,c4,lD⟩:=vx mv;have Ab:=(h.marks _ he).2;have H:=H.front 5;rw[lD] at H;have H:=Gr H;have hi:(a0 y.rows gf).length≤10000:=a_.cap gf;refine ap (alw (C:=C) (at_:=t) (by show (a0 y.rows gf).length≤_; omega) (IF a_.rI gf) arJ Kw (by simp only at Ab; omega) H) ?_;rintro r aY ⟨rfl,H⟩;have H:=Jw (l:=(gf,C)) H;rw[← lD] at H;refine bR H fun mq bc H=>?_;cases Z9:tV (a0 y.rows gf) t with
   |none=>
    rw[Z9] at l5;dsimp only;refine de (x:=kD) (S:=(⟨0,0⟩:eV)) qq 0 H rfl fun b3 H=>?_;rw[if_neg (by simp)];unfold Fq;rw[aS];refine⟨⟨by simp only; omega,by simp only; omega,?_⟩,by simp only; omega⟩;simp only;rw[show (i+1).toNat=i.toNat+1 from by omega,l5,List.append_nil];exact H.drop.ord [1,2,3,4,5,0]
   |some v=>
    rw[Z9] at l5;dsimp only;refine de (x:=kD) (S:=v) qq 0 H rfl fun b3 H=>?_;rw[if_pos (by simp)];refine ak (x:=v.V) 0 H rfl rfl rfl ?_;refine nF (fun _=>rfl) 2 H rfl (by simp only[List.length_singleton]; omega) fun s2 bZ H=>?_;unfold Fq;rw[aS];refine⟨⟨by simp only; omega,by simp only; omega,?_⟩,by simp only; omega⟩;simp only;rw[show (i+1).toNat=i.toNat+1 from by omega,l5];exact ((H.front 1).drop).ord [0,2,3,4,5,1]
  ·rename_i hI;have hI:i=q.length:=by simp at hI; omega
   subst hI;have l:q.take ((q.length:Int)).toNat=q:=by simp
   rw[l] at H;refine⟨U.symm,?_⟩;exact ((qK h (((H.front 1).drop.front 1).drop.ord [2,1,3])).front 1)
theorem Zw{eL:Type}{p:Int×eL}{left:List (Int×eL)}(aF:p∈left):(left.filter fun q=>q.1 != p.1).length<left.length:=by
 induction left with
 |nil=>cases aF
 |cons x left cq=>
  rw[List.filter_cons];by_cases c:(x.1 != p.1)=true
  ·rw[if_pos c];rcases List.mem_cons.1 aF with l | aF
   ·rw[l] at c; simp at c
   ·have:=cq aF;simp only[List.length_cons]; omega
  ·rw[if_neg c];have:=List.length_filter_le (fun q:Int×eL=>q.1 != p.1) left;simp only[List.length_cons]; omega
def cut(mark:Int)(rows:List Row)(left:List (Int×Option Addr))(k:Int):List eV:=if left.any (fun q=>q.1==k)=true then a0 rows k else pk mark (a0 rows k)
theorem aFm{e:Nat}{y:hG}{t:Int}(a_:Inv y)(H:E A (e_ e y::m) w):M Pg 252 [.pointer (some ⟨e,0,none⟩),.int .i64 t] (B .i64) w fun r J=>r=vI y t∧E A (e_ e (sp y t)::m) J:=by
 refine air ?_;unfold VR;refine ap (QP H) ?_;rintro r dL ⟨rfl,H⟩;unfold sp;split
 ·rename_i U;have l:vI y t=120:=by unfold vI; rw[if_pos (by simp at U; omega)]
  rw[l,if_neg (by omega)];exact⟨rfl,H⟩
 ·rename_i U;have U:¬ (t<0∨t>1125899906842624):=by simp at U; omega
  obtain⟨p,h,lC,H⟩:=xn H;refine ch rfl ?_;refine ak (x:=y.closed) 0 H rfl rfl rfl ?_;split
  ·rename_i hI;have l:vI y t=128:=by unfold vI; rw[if_neg U,if_pos (by simpa using hI)]
   rw[l,if_neg (by omega)];exact⟨rfl,qK h H⟩
  ·rename_i hI;have hI:¬ t>y.closed:=by simpa using hI
   have l:vI y t=0:=by unfold vI; rw[if_neg U,if_neg hI]
   rw[l,if_pos rfl];have Ab:=a_.mark;refine ak (x:=y.mark) 0 H rfl rfl rfl ?_;refine dK (x:=max y.mark t) 0 H rfl rfl (Nat.le_of_ble_eq_true rfl) fun cG H=>?_;have H:E A (aJ e (qi.cells ⟨some p.o,y.closed,max y.mark t⟩) 218::dh aE .i64 p.o (kc p.eu)::m9 (a0 y.rows) p.eu::m) cG:=H;generalize aKw:max y.mark t=pr at *;have P5:y.mark≤pr∧0≤pr∧pr≤1125899906842624:=by omega
   refine ak (x:=some p.o) 0 H rfl rfl rfl ?_;refine SF 1 H rfl rfl fun it bl H=>?_;have arH:m9 (a0 y.rows) p.eu=m9 (cut pr y.rows (kc p.eu)) p.eu:=OF fun l he=>by
    unfold cut;have:(kc p.eu).any (fun q=>q.1==l.1)=true:=List.any_eq_true.2 ⟨(l.1,some (⟨l.2.e,0,none⟩:Addr)),List.mem_map.2 ⟨l,he,rfl⟩,by simp⟩;rw[if_pos this]
   rw[arH] at H;refine EA (fun n _ w=>∃ left j7 eu,n=left.length∧(∀ q∈left,q∈kc p.eu)∧kc eu=kc p.eu∧(∀ l∈eu,0≤l.2.mark∧l.2.mark≤pr)∧E A (rH aE .i64 p.o it (kc p.eu) left j7::aJ e (qi.cells ⟨some p.o,y.closed,pr⟩) 218::m9 (cut pr y.rows left) eu::m) w) _ ⟨kc p.eu,none,p.eu,rfl,fun _ h=>h,rfl,fun l he=>by have:=h.marks l he; omega,H⟩ ?_;clear H;rintro c _ w ⟨left,j7,eu,rfl,I,R,aK,H⟩ ab cg;have r7:eu.map (·.1)=p.eu.map (·.1):=by rw[← J2,← J2,R]
   unfold Np;refine RC 0 H rfl rfl (fun he H=>?_) fun q ba aY H=>?_
   ·rw[if_neg (by simp)];subst he;have Kg:m9 (cut pr y.rows []) eu=m9 (a0 (bI pr y.rows)) eu:=OF fun l _=>by
     unfold cut; rw[if_neg (by simp),Mk]
    rw[Kg] at H;have H:=Ih H;rw[← R] at H;refine⟨rfl,qK (t:=⟨p.o,eu⟩) (y:=⟨bI pr y.rows,y.closed,pr⟩) ⟨fun k=>?_,aK⟩ (H.ord [1,0])⟩;rw[r7,← h.keys k,Mk,ne_eq,ne_eq,abw (IF a_.rI k)]
   ·rw[if_pos (by simp)];refine O6 0 H rfl rfl ?_;refine ak (x:=pr) 1 H rfl rfl rfl ?_;have r8:=I q ba;rw[← R] at r8;obtain⟨l,he,rfl⟩:=List.mem_map.1 r8;obtain⟨k,C⟩:=l;obtain⟨c0,c4,lD⟩:=List.append_of_mem he;have aq5:((c0++(k,C)::c4).map (·.1)).Nodup:=by rw[← lD,r7]; exact lC
    have arb:=acM aq5;have H:=H.front 2;rw[lD] at H;have H:=Gr H;have PP:cut pr y.rows left k=a0 y.rows k:=by
     unfold cut; rw[if_pos (List.any_eq_true.2 ⟨_,ba,by simp⟩)]
    have H:E A (mr C (a0 y.rows k)::m9 (cut pr y.rows left) (c0++c4)::rH aE .i64 p.o it (kc p.eu) (left.filter fun q=>q.1 != k) (some (k,some ⟨C.e,0,none⟩))::aJ e (qi.cells ⟨some p.o,y.closed,pr⟩) 218::m) aY:=by rw[← PP]; exact H
    have hi:(a0 y.rows k).length≤10000:=a_.cap k;refine ap (alz (C:=C) (mark:=pr) (by omega) (IF a_.rI k) P5.2.1 P5.2.2 (aK _ he).2 H) ?_;rintro r bc ⟨s,H⟩
    have H:=XY (cP:=cut pr y.rows (left.filter fun q=>q.1 != k)) (k:=k) (by
     unfold cut;rw[if_neg];rw[List.any_filter,List.any_eq_true];rintro⟨q,_,h⟩;simp at h) (fun h6 oN=>by
     have d_:=arb h6 oN;unfold cut;have:(left.filter fun q=>q.1 != k).any (fun q=>q.1==h6.1)=left.any (fun q=>q.1==h6.1):=by
      rw[List.any_filter];congr 1;funext q;by_cases c:q.1=h6.1
      ·simp[c,d_]
      ·simp[c]
     rw[this]) H
    refine cg _ _ _ (Zw ba) ⟨_,_,c0++(k,⟨C.e,s,pr⟩)::c4,rfl,fun q ba=>I q (List.mem_filter.1 ba).1,?_,fun h6 oN=>?_,H.ord [1,2,0]⟩
    ·rw[← R,lD]; unfold kc; simp
    ·rcases List.mem_append.1 oN with oN | oN
     ·exact aK h6 (by rw[lD]; exact List.mem_append_left _ oN)
     ·rcases List.mem_cons.1 oN with rfl | oN
      ·exact⟨P5.2.1,Int.le_refl _⟩
      ·exact aK h6 (by rw[lD]; exact List.mem_append_right _ (List.mem_cons_of_mem _ oN))
end
end Store
namespace Vault
open bj Store Num
abbrev Part:=iO
abbrev mF:=rT
abbrev pD:=qZ
abbrev kA:=fK
structure dl where
 eR:Nat
 W:hG
 fQ:Int
 held:List (Int×mF)
 busy:List (Int×Int)
 ee:List (Int×pD)
def ru(a:Int):Prop:=0≤a∧a<4096
instance (a:Int):Decidable (ru a):=by unfold ru; infer_instance
instance (a:Int):Decidable (iA a):=by unfold iA; infer_instance
def uo(v:dl)(t:Int):Int:=if t<1∨t>1125899906842624 then 151 else if t≤v.fQ then 152 else 0
def gr(v:dl)(a:Int):eV×Bool:=pn (a0 v.W.rows a)
def y6(v:dl)(t a n:Int):dl×Int:=
 if uo v t≠0 then (v,uo v t) else if ¬ ru a then (v,153) else if (gr v a).2=true then (v,154) else if ¬ iA n then (v,155)
 else ({ v with W:=nQ v.W t [⟨a,n⟩],fQ:=max v.fQ t },0)
def qb(v:dl)(p:Part):Int×Int:=
 if p.aD<1 then (0,156) else if (v.ee.lookup p.aD).isSome=true then (0,157) else if 5000≤v.ee.length then (0,158) else if ¬ ru p.cl then (0,153)
 else if p.b<1∨¬ iA p.b then (0,155) else if (gr v p.cl).2=false then (0,159) else if (v.busy.lookup p.cl).isSome=true then (0,160)
 else if p.ir=false then (if iA (gr v p.cl).1.V∧(gr v p.cl).1.V+p.b≤1000000000000000 then (0,0) else (0,162))
 else if (gr v p.cl).1.V<p.b+ko p.b v.eR then (0,161) else (ko p.b v.eR,0)
def apJ(v:dl)(t:Int)(p:Part)(tY:Int):dl:={ v with held:=eZ p.aD ⟨p,t,tY⟩ v.held,busy:=eZ p.cl p.aD v.busy,ee:=eZ p.aD ⟨1,t⟩ v.ee,fQ:=max v.fQ t }
def Ad(v:dl)(t:Int)(p:Part):dl×Int:=
 if uo v t≠0 then (v,uo v t) else if (qb v p).2≠0 then (v,(qb v p).2) else (apJ v t p (qb v p).1,0)
def BJ(v:dl)(h:mF):dl:={ v with held:=del h.Part.aD v.held,busy:=del h.Part.cl v.busy }
def u3(v:dl)(h:mF):List kA:=
 if h.Part.ir=false then [⟨h.Part.cl,IntKind.i64.wrap ((gr v h.Part.cl).1.V+h.Part.b)⟩]
 else ⟨h.Part.cl,IntKind.i64.wrap (IntKind.i64.wrap ((gr v h.Part.cl).1.V-h.Part.b)-h.uN)⟩ ::
  if h.uN>0 then [⟨IntKind.i64.wrap (4096+h.Part.cl),IntKind.i64.wrap ((gr v (IntKind.i64.wrap (4096+h.Part.cl))).1.V+h.uN)⟩] else []
def fw(v:dl)(id:Int):pD:=(v.ee.lookup id).getD ⟨0,0⟩
def pi(v:dl)(id:Int):mF:=(v.held.lookup id).getD ⟨⟨0,0,0,false⟩,0,0⟩
def YG(v:dl)(t id:Int)(h:mF):dl:={ BJ v h with W:=nQ v.W t (u3 v h),ee:=eZ id ⟨2,t⟩ v.ee,fQ:=max v.fQ t }
def xZ(v:dl)(t id:Int):dl×Int:=
 if t<1∨t>1125899906842624 then (v,151) else if (fw v id).im=2 then (if (fw v id).g5≠t then (v,157) else (v,0))
 else if (fw v id).im=1 then (if t<(pi v id).b9 then (v,152) else (YG v t id (pi v id),0)) else (v,163)
def r3(v:dl)(id:Int):dl:=match v.held.lookup id with
 |some h=>BJ v h
 |none=>v
def x2(v:dl)(id:Int):dl×Int:=
 if id<1 then (v,156) else if (fw v id).im=2 then (v,157) else if (v.ee.lookup id).isSome=false∧5000≤v.ee.length then (v,158)
 else ({ r3 v id with ee:=eZ id ⟨3,0⟩ v.ee },0)
def q_(v:dl)(t:Int):dl×Int:=
 if t<0∨t>1125899906842624 then (v,151) else if v.held.any (fun l=>decide (l.2.b9≤t))=true then (v,160)
 else ({ v with W:=sU v.W t,fQ:=max v.fQ t },0)
def xr(l:Int):Int:=if l=120 then 151 else if l=128 then 164 else if l=126 then 165 else if l=127 then 159 else l
def EX(v:dl)(t:Int):dl×Int:=({ v with W:=sp v.W t },xr (vI v.W t))
def gE(v:dl):List mF:=(oW (v.held.map (·.1))).map (pi v)
theorem Ta{eL:Type}{k:Int}{v:eL}(es:List (Int×eL)):(eZ k v es).length=if (es.lookup k).isSome=true then es.length else es.length+1:=by
 have h:=congrArg List.length (KN k v es);rw[List.length_map] at h;rw[h];split<;>simp
def A4(v:dl)(h:mF):Prop:=a0 v.W.rows h.Part.cl≠[]∧(h.Part.ir=true→h.Part.b+h.uN≤(gr v h.Part.cl).1.V)∧(h.Part.ir=false→iA (gr v h.Part.cl).1.V∧(gr v h.Part.cl).1.V+h.Part.b≤1000000000000000)
structure Fit(v:dl):Prop where
 e_:Inv v.W
 eR:jL v.eR
 ids:∀ id h,v.held.lookup id=some h→h.Part.aD=id∧1≤id∧id≤9223372036854775807∧ru h.Part.cl∧v.ee.lookup id=some ⟨1,h.b9⟩∧v.busy.lookup h.Part.cl=some id ∧
  v.W.closed<h.b9∧h.b9≤v.fQ∧1≤h.Part.b∧h.Part.b≤1000000000000000∧0≤h.uN∧h.uN≤2000000000000000∧A4 v h∧∀ r∈v.W.rows,r.cm.Key=h.Part.cl∨r.cm.Key=4096+h.Part.cl→r.b9<h.b9
 busy:∀ a id,v.busy.lookup a=some id→∃ h,v.held.lookup id=some h∧h.Part.cl=a
 wK:∀ id f,v.ee.lookup id=some f→1≤id∧((f.im=1∧∃ h,v.held.lookup id=some h∧h.b9=f.g5)∨(f.im=2∧1≤f.g5∧f.g5≤1125899906842624)∨(f.im=3∧f.g5=0))
 As:v.ee.length≤5000
 rF:(v.held.map (·.1)).Nodup
 Cr:(v.busy.map (·.1)).Nodup
 EE:(v.ee.map (·.1)).Nodup
 fQ:v.W.closed≤v.fQ∧v.fQ≤1125899906842624
 rows:∀ r∈v.W.rows,r.b9≤v.fQ
theorem apK{v:dl}(h:Fit v):∀ l∈v.held,1≤l.1∧l.1≤9223372036854775807:=fun l he=>by
 have:=h.ids l.1 l.2 (K3 h.rF he);omega
theorem aac{v:dl}(h:Fit v):v.held.length≤5000:=by
 refine Nat.le_trans ?_ h.As;have I:(v.held.map (·.1)) ⊆ (v.ee.map (·.1)):=by
  intro k aq;obtain⟨l,he,rfl⟩:=List.mem_map.1 aq;have:=(h.ids l.1 l.2 (K3 h.rF he)).2.2.2.2.1;exact List.mem_map.2 ⟨_,Rf this,rfl⟩
 have:=h.rF.length_le_of_subset I;simpa using this
theorem Ee{v:dl}{id:Int}{h:mF}(l:v.held.lookup id=some h):pi v id=h:=by unfold pi; rw[l]; rfl
theorem Zl{v:dl}{id:Int}{f:pD}(l:v.ee.lookup id=some f):fw v id=f:=by unfold fw; rw[l]; rfl
theorem apL{v:dl}(aW:Fit v){id:Int}(l:(fw v id).im=1):∃ h,v.held.lookup id=some h∧h.b9=(fw v id).g5∧v.ee.lookup id=some (fw v id):=by
 cases am:v.ee.lookup id with
 |none=>unfold fw at l; rw[am] at l; simp at l
 |some f=>
  rw[Zl am] at l ⊢;rcases (aW.wK id f am).2 with ⟨_,h⟩ | ⟨h,_⟩ | ⟨h,_⟩
  ·obtain⟨h,I,R⟩:=h;exact⟨h,I,R,rfl⟩
  ·omega
  ·omega
theorem ab6{v:dl}{t:Int}(h:uo v t=0):1≤t∧t≤1125899906842624∧v.fQ<t:=by
 unfold uo at h;split at h
 ·omega
 ·split at h
  ·omega
  ·omega
theorem af6{v:dl}{p:Part}(h:(qb v p).2=0):1≤p.aD∧v.ee.lookup p.aD=none∧v.ee.length<5000∧ru p.cl∧1≤p.b∧p.b≤1000000000000000∧(gr v p.cl).2=true∧v.busy.lookup p.cl=none ∧
  ((p.ir=false∧(qb v p).1=0∧iA (gr v p.cl).1.V∧(gr v p.cl).1.V+p.b≤1000000000000000)∨(p.ir=true∧(qb v p).1=ko p.b v.eR∧p.b+ko p.b v.eR≤(gr v p.cl).1.V)):=by
 unfold qb at h ⊢;by_cases bx:p.aD<1
 ·rw[if_pos bx] at h; simp at h
 ·rw[if_neg bx] at h ⊢;by_cases bK:(v.ee.lookup p.aD).isSome=true
  ·rw[if_pos bK] at h; simp at h
  ·rw[if_neg bK] at h ⊢;by_cases ck:5000≤v.ee.length
   ·rw[if_pos ck] at h; simp at h
   ·rw[if_neg ck] at h ⊢;by_cases fv:¬ ru p.cl
    ·rw[if_pos fv] at h; simp at h
    ·rw[if_neg fv] at h ⊢;by_cases jC:p.b<1∨¬ iA p.b
     ·rw[if_pos jC] at h; simp at h
     ·rw[if_neg jC] at h ⊢;by_cases q8:(gr v p.cl).2=false
      ·rw[if_pos q8] at h; simp at h
      ·rw[if_neg q8] at h ⊢;by_cases c7:(v.busy.lookup p.cl).isSome=true
       ·rw[if_pos c7] at h; simp at h
       ·rw[if_neg c7] at h ⊢;have bb:v.ee.lookup p.aD=none:=Option.not_isSome_iff_eq_none.1 bK;have OV:v.busy.lookup p.cl=none:=Option.not_isSome_iff_eq_none.1 c7;have re:iA p.b:=Classical.byContradiction fun U=>jC (.inr U);refine⟨by omega,bb,by omega,Classical.not_not.1 fv,by omega,re.2,by simpa using q8,OV,?_⟩;by_cases c8:p.ir=false
        ·rw[if_pos c8] at h ⊢;by_cases c9:iA (gr v p.cl).1.V∧(gr v p.cl).1.V+p.b≤1000000000000000
         ·rw[if_pos c9];exact .inl ⟨c8,rfl,c9.1,c9.2⟩
         ·rw[if_neg c9] at h; simp at h
        ·rw[if_neg c8] at h ⊢;by_cases c9:(gr v p.cl).1.V<p.b+ko p.b v.eR
         ·rw[if_pos c9] at h; simp at h
         ·rw[if_neg c9];exact .inr ⟨by simpa using c8,rfl,by omega⟩
theorem Fit.new{r:Nat}(h:jL r):Fit ⟨r,⟨[],0,0⟩,0,[],[],[]⟩:=
 ⟨⟨fun k=>by simp[CV],fun r h=>(by cases h),fun r h=>(by cases h),List.Pairwise.nil,by simp⟩,h,fun id h l=>by simp at l,fun a id l=>by simp at l,fun id f l=>by simp at l,by simp,by simp,by simp,by simp,by simp,fun r h=>by cases h⟩
theorem aFp(y:hG)(t:Int)(xs:List kA):(nQ y t xs).closed=y.closed∧(nQ y t xs).mark=y.mark:=by unfold nQ; split<;>exact⟨rfl,rfl⟩
theorem ada{y:hG}{t:Int}{xs:List kA}{r:Row}(h:r∈(nQ y t xs).rows):r∈y.rows∨(r.b9=t∧r.cm∈xs):=by
 unfold nQ at h;split at h
 ·rcases List.mem_append.1 h with h | h
  ·exact .inl h
  ·obtain⟨x,F,rfl⟩:=List.mem_map.1 h;exact .inr ⟨rfl,F⟩
 ·exact .inl h
theorem aIZ{y:hG}{t k:Int}{xs:List kA}(h:∀ x∈xs,x.Key≠k):a0 (nQ y t xs).rows k=a0 y.rows k:=by
 unfold nQ;split
 ·simp only;rw[IE,Ml,List.append_nil];intro hm;obtain⟨x,F,l⟩:=List.mem_map.1 hm;exact h x F l
 ·rfl
theorem abK(o:Int):∀ m:List eV,(pk o m).getLast?=m.getLast?
 |[]=>rfl
 |v::m=>by
  have cq:=abK o m;unfold pk;split
  ·rename_i U;rw[cq];cases m with
   |nil=>simp at U
   |cons u AR=>rw[List.getLast?_cons_cons]
  ·rw[List.getLast?_cons,List.getLast?_cons,cq]
theorem abL{v:dl}{a:Int}:(gr v a).2=true↔a0 v.W.rows a≠[]:=by
 unfold gr pn;cases aL:a0 v.W.rows a with
 |nil=>simp
 |cons x xs=>simp[List.getLast?_cons]
theorem XW{v u:dl}{h:mF}(l:a0 u.W.rows h.Part.cl=a0 v.W.rows h.Part.cl)(e:A4 v h):A4 u h:=by
 unfold A4 gr at *;rw[l]; exact e
theorem akY{v:dl}{h:mF}(aW:Inv v.W)(t:Int)(e:A4 v h):A4 { v with W:=sp v.W t } h:=by
 unfold sp;split
 ·unfold A4 gr pn at *;simp only;rw[Mk,abK,ne_eq,abw (IF aW.rI _)];exact e
 ·exact e
theorem Fit.adb{v:dl}(aW:Fit v){t:Int}{xs:List kA}(ah:t≤1125899906842624)(F:∀ id h,v.held.lookup id=some h→∀ x∈xs,x.Key≠h.Part.cl∧x.Key≠4096+h.Part.cl):Fit { v with W:=nQ v.W t xs,fQ:=max v.fQ t }:=by
 have U:=aFp v.W t xs;have aT:=aW.fQ;refine⟨aW.e_.put t _,aW.eR,fun id h l=>?_,aW.busy,aW.wK,aW.As,aW.rF,aW.Cr,aW.EE,⟨by show (nQ _ _ _).closed≤max _ _; rw[U.1]; omega,by show max _ _≤_; omega⟩,fun r aa=>?_⟩
 ·obtain⟨bD,e4,jr,nI,BL,BM,Pn,ZH,Po,Pj,Pk,Pl,GP,Pm⟩:=aW.ids id h l;refine⟨bD,e4,jr,nI,BL,BM,by show (nQ _ _ _).closed<_; rw[U.1]; exact Pn,by show _≤max _ _; omega,Po,Pj,Pk,Pl,XW (aIZ fun x wT=>(F id h l x wT).1) GP,fun r aa aq=>?_⟩;rcases ada aa with aa | ⟨_,aa⟩
  ·exact Pm r aa aq
  ·have:=F id h l _ aa;omega
 ·rcases ada aa with aa | ⟨aa,_⟩
  ·have:=aW.rows r aa;show _≤max _ _; omega
  ·show _≤max _ _; omega
theorem Fit.open{v:dl}(aW:Fit v)(t a n:Int):Fit (y6 v t a n).1:=by
 unfold y6;split
 ·exact aW
 ·rename_i I;have I:uo v t=0:=Classical.not_not.1 I;obtain⟨t0,t1,t2⟩:=ab6 I;split
  ·exact aW
  ·rename_i Y;have Y:ru a:=Classical.not_not.1 Y;split
   ·exact aW
   ·rename_i R;split
    ·exact aW
    ·refine aW.adb t1 fun id h l x F=>?_;obtain⟨_,_,_,nI,_,_,_,_,_,_,_,_,GP,_⟩:=aW.ids id h l;have F:=List.mem_singleton.1 F;subst F;have aK:=nI.1;have bp:=Y.2;refine⟨fun l=>?_,fun l=>?_⟩
     ·simp only at l;subst l;exact R (abL.2 GP.1)
     ·simp only at l;omega
theorem Fit.free{v:dl}(aW:Fit v){id:Int}{h:mF}(l:v.held.lookup id=some h){f:pD}(am:(f.im=2∧1≤f.g5∧f.g5≤1125899906842624)∨(f.im=3∧f.g5=0)):Fit { BJ v h with ee:=eZ id f v.ee }:=by
 obtain⟨bD,e4,jr,nI,BL,BM,Pn,ZH,Po,Pj,Pk,Pl,GP,Pm⟩:=aW.ids id h l;have yQ:∀ x,(del h.Part.aD v.held).lookup x=if x==id then none else v.held.lookup x:=fun x=>by rw[HK _ _ _ aW.rF,bD]
 have oe:∀ x,(del h.Part.cl v.busy).lookup x=if x==h.Part.cl then none else v.busy.lookup x:=fun x=>by rw[HK _ _ _ aW.Cr]
 refine⟨aW.e_,aW.eR,fun x k ex=>?_,fun a x ex=>?_,fun x k ex=>?_,?_,Rw aW.rF,Rw aW.Cr,EH aW.EE,aW.fQ,aW.rows⟩
 ·have ex:(del h.Part.aD v.held).lookup x=some k:=ex;rw[yQ] at ex;by_cases c:x=id
  ·simp[c] at ex
  ·rw[if_neg (by simpa using c)] at ex;obtain⟨dx,ef,g0,jV,od,j8,te,yK,rz,yH,yI,wZ,ry,vu⟩:=aW.ids x k ex;refine⟨dx,ef,g0,jV,?_,?_,te,yK,rz,yH,yI,wZ,ry,vu⟩
   ·show (eZ id f v.ee).lookup x=_
    rw[tg,if_neg (by simpa using c)]; exact od
   ·show (del h.Part.cl v.busy).lookup _=_
    rw[oe,if_neg]
    ·exact j8
    ·intro U;have U:k.Part.cl=h.Part.cl:=by simpa using U
     rw[U,BM] at j8;exact c (by injection j8 with j8; exact j8.symm)
 ·have ex:(del h.Part.cl v.busy).lookup a=some x:=ex;rw[oe] at ex;by_cases c:a=h.Part.cl
  ·simp[c] at ex
  ·rw[if_neg (by simpa using c)] at ex;obtain⟨k,mu,jG⟩:=aW.busy a x ex;refine⟨k,?_,jG⟩;show (del h.Part.aD v.held).lookup x=_
   rw[yQ,if_neg]
   ·exact mu
   ·intro U;have U:x=id:=by simpa using U
    rw[U,l] at mu;injection mu with mu
    exact c (by rw[mu,jG])
 ·have ex:(eZ id f v.ee).lookup x=some k:=ex;rw[tg] at ex;by_cases c:x=id
  ·rw[if_pos (by simpa using c)] at ex;cases ex;exact⟨by omega,.inr am⟩
  ·rw[if_neg (by simpa using c)] at ex;refine⟨(aW.wK x k ex).1,?_⟩;rcases (aW.wK x k ex).2 with ⟨dx,fG,ef,g0⟩ | dx
   ·refine .inl ⟨dx,fG,?_,g0⟩;show (del h.Part.aD v.held).lookup x=_
    rw[yQ,if_neg (by simpa using c)]; exact ef
   ·exact .inr dx
 ·show (eZ id f v.ee).length≤5000
  rw[Ta,BL,if_pos (by simp)]; exact aW.As
theorem aJc{v:dl}(aW:Fit v){p:Part}(h:(qb v p).2=0):0≤(qb v p).1∧(qb v p).1≤2000000000000000:=by
 obtain⟨_,_,_,_,dz,iG,_,_,s0⟩:=af6 h;rcases s0 with ⟨_,l,_⟩ | ⟨_,l,_⟩
 ·omega
 ·have:=GO (n:=p.b) (by omega) iG aW.eR;omega
theorem Fit.hold{v:dl}(aW:Fit v){t:Int}{p:Part}(ah:p.aD≤9223372036854775807):Fit (Ad v t p).1:=by
 unfold Ad;split
 ·exact aW
 ·rename_i I;have I:uo v t=0:=Classical.not_not.1 I;obtain⟨t0,t1,t2⟩:=ab6 I;split
  ·exact aW
  ·rename_i R;have R:(qb v p).2=0:=Classical.not_not.1 R;have BZ:=aJc aW R;obtain⟨lY,a1,aA,a9,b1,b2,cj,cZ,dE⟩:=af6 R;generalize (qb v p).1=tY at BZ dE;have aT:=aW.fQ;have aq8:v.held.lookup p.aD=none:=by
    cases cK:v.held.lookup p.aD with
    |none=>rfl
    |some k=>have:=(aW.ids _ _ cK).2.2.2.2.1; rw[a1] at this; cases this
   have yQ:∀ x,(eZ p.aD (⟨p,t,tY⟩:mF) v.held).lookup x=if x==p.aD then some ⟨p,t,tY⟩ else v.held.lookup x:=fun x=>tg _ _ _ _
   have oe:∀ x,(eZ p.cl p.aD v.busy).lookup x=if x==p.cl then some p.aD else v.busy.lookup x:=fun x=>tg _ _ _ _
   have Ex:∀ x,(eZ p.aD (⟨1,t⟩:pD) v.ee).lookup x=if x==p.aD then some ⟨1,t⟩ else v.ee.lookup x:=fun x=>tg _ _ _ _
   refine⟨aW.e_,aW.eR,fun x k ex=>?_,fun a x ex=>?_,fun x k ex=>?_,?_,EH aW.rF,EH aW.Cr,EH aW.EE,⟨by show v.W.closed≤max v.fQ t; omega,by show max v.fQ t≤_; omega⟩,fun r aa=>by have:=aW.rows r aa; show _≤max v.fQ t; omega⟩
   ·have ex:(eZ p.aD (⟨p,t,tY⟩:mF) v.held).lookup x=some k:=ex;rw[yQ] at ex;by_cases c:x=p.aD
    ·rw[if_pos (by simpa using c)] at ex;cases ex;subst c;refine⟨rfl,lY,ah,a9,?_,?_,by show v.W.closed<t; omega,by show t≤max v.fQ t; omega,b1,b2,BZ.1,BZ.2,⟨abL.1 cj,fun aF=>?_,fun aF=>?_⟩,fun r aa _=>?_⟩
     ·show (eZ p.aD (⟨1,t⟩:pD) v.ee).lookup p.aD=_
      rw[Ex,if_pos (by simp)]
     ·show (eZ p.cl p.aD v.busy).lookup p.cl=_
      rw[oe,if_pos (by simp)]
     ·rcases dE with ⟨q,_⟩ | ⟨_,gS,gu⟩
      ·rw[aF] at q; cases q
      ·show p.b+tY≤(gr v p.cl).1.V
       rw[gS]; exact gu
     ·rcases dE with ⟨_,_,gS,gu⟩ | ⟨q,_⟩
      ·exact⟨gS,gu⟩
      ·rw[aF] at q; cases q
     ·have:=aW.rows r aa;show r.b9<t; omega
    ·rw[if_neg (by simpa using c)] at ex;obtain⟨dx,ef,g0,jV,od,j8,te,yK,rz,yH,yI,wZ,ry,vu⟩:=aW.ids x k ex;refine⟨dx,ef,g0,jV,?_,?_,te,by show _≤max v.fQ t; omega,rz,yH,yI,wZ,ry,vu⟩
     ·show (eZ p.aD (⟨1,t⟩:pD) v.ee).lookup x=_
      rw[Ex,if_neg (by simpa using c)]; exact od
     ·show (eZ p.cl p.aD v.busy).lookup _=_
      rw[oe,if_neg]
      ·exact j8
      ·intro U;have U:k.Part.cl=p.cl:=by simpa using U
       rw[U,cZ] at j8; cases j8
   ·have ex:(eZ p.cl p.aD v.busy).lookup a=some x:=ex;rw[oe] at ex;by_cases c:a=p.cl
    ·rw[if_pos (by simpa using c)] at ex;cases ex;refine⟨⟨p,t,tY⟩,?_,c.symm⟩;show (eZ p.aD (⟨p,t,tY⟩:mF) v.held).lookup p.aD=_
     rw[yQ,if_pos (by simp)]
    ·rw[if_neg (by simpa using c)] at ex;obtain⟨k,mu,jG⟩:=aW.busy a x ex;refine⟨k,?_,jG⟩;show (eZ p.aD (⟨p,t,tY⟩:mF) v.held).lookup x=_
     rw[yQ,if_neg]
     ·exact mu
     ·intro U;have U:x=p.aD:=by simpa using U
      rw[U,aq8] at mu; cases mu
   ·have ex:(eZ p.aD (⟨1,t⟩:pD) v.ee).lookup x=some k:=ex;rw[Ex] at ex;by_cases c:x=p.aD
    ·rw[if_pos (by simpa using c)] at ex;cases ex;refine⟨by omega,.inl ⟨rfl,⟨p,t,tY⟩,?_,rfl⟩⟩;show (eZ p.aD (⟨p,t,tY⟩:mF) v.held).lookup x=_
     rw[yQ,if_pos (by simpa using c)]
    ·rw[if_neg (by simpa using c)] at ex;refine⟨(aW.wK x k ex).1,?_⟩;rcases (aW.wK x k ex).2 with ⟨dx,fG,ef,g0⟩ | dx
     ·refine .inl ⟨dx,fG,?_,g0⟩;show (eZ p.aD (⟨p,t,tY⟩:mF) v.held).lookup x=_
      rw[yQ,if_neg (by simpa using c)]; exact ef
     ·exact .inr dx
   ·show (eZ p.aD (⟨1,t⟩:pD) v.ee).length≤5000
    rw[Ta,a1,if_neg (by simp)]; omega
theorem alt{v:dl}{h:mF}(Y:ru h.Part.cl):∀ x∈u3 v h,x.Key=h.Part.cl∨x.Key=4096+h.Part.cl:=by
 have l:IntKind.i64.wrap (4096+h.Part.cl)=4096+h.Part.cl:=wrap_i64 (by have:=Y.1; omega) (by have:=Y.2; omega);intro x F;unfold u3 at F;rw[l] at F;split at F
 ·rw[List.mem_singleton.1 F]; exact .inl rfl
 ·rcases List.mem_cons.1 F with rfl | F
  ·exact .inl rfl
  ·split at F
   ·rw[List.mem_singleton.1 F]; exact .inr rfl
   ·cases F
theorem Fit.done{v:dl}(aW:Fit v){t id:Int}{h:mF}(l:v.held.lookup id=some h)(ah:h.b9≤t)(I:t≤1125899906842624):Fit (YG v t id h):=by
 obtain⟨bD,e4,jr,nI,BL,BM,Pn,ZH,Po,Pj,Pk,Pl,GP,Pm⟩:=aW.ids id h l;have aT:=aW.fQ;have hm:=aW.e_.mark;have agn:=aW.free l (f:=⟨2,t⟩) (.inl ⟨rfl,by show 1≤t; omega,I⟩);have ahQ:=agn.adb (t:=t) (xs:=u3 v h) I fun x k ex S aB=>by
  have ex:(del h.Part.aD v.held).lookup x=some k:=ex;rw[HK _ _ _ aW.rF,bD] at ex;by_cases c:x=id
  ·simp[c] at ex
  ·rw[if_neg (by simpa using c)] at ex;obtain⟨dx,ef,g0,jV,od,j8,_⟩:=aW.ids x k ex;have d_:k.Part.cl≠h.Part.cl:=fun U=>by
    rw[U,BM] at j8;exact c (by injection j8 with j8; exact j8.symm)
   have R:=jV.1;have aK:=jV.2;have bp:=nI.1;have dz:=nI.2;rcases alt nI S aB with aB | aB<;>omega
 exact ahQ
theorem Fit.amg{v:dl}(aW:Fit v)(t id:Int):Fit (xZ v t id).1:=by
 unfold xZ;split
 ·exact aW
 ·rename_i ah;split
  ·split<;>exact aW
  ·split
   ·rename_i I;obtain⟨h,aS,bb,dn⟩:=apL aW I;rw[Ee aS];split
    ·exact aW
    ·exact aW.done aS (by omega) (by omega)
   ·exact aW
theorem Fit.drop{v:dl}(aW:Fit v)(id:Int):Fit (x2 v id).1:=by
 unfold x2;split
 ·exact aW
 ·split
  ·exact aW
  ·split
   ·exact aW
   ·rename_i I R aK;cases l:v.held.lookup id with
    |some h=>
     have:=aW.free l (f:=⟨3,0⟩) (.inr ⟨rfl,rfl⟩);unfold r3;rw[l]; exact this
    |none=>
     unfold r3;rw[l];have Ex:∀ x,(eZ id (⟨3,0⟩:pD) v.ee).lookup x=if x==id then some ⟨3,0⟩ else v.ee.lookup x:=fun x=>tg _ _ _ _
     refine⟨aW.e_,aW.eR,fun x k ex=>?_,aW.busy,fun x k ex=>?_,?_,aW.rF,aW.Cr,EH aW.EE,aW.fQ,aW.rows⟩
     ·obtain⟨dx,ef,g0,jV,od,j8,te,yK,rz,yH,yI,wZ,ry,vu⟩:=aW.ids x k ex;refine⟨dx,ef,g0,jV,?_,j8,te,yK,rz,yH,yI,wZ,ry,vu⟩;show (eZ id (⟨3,0⟩:pD) v.ee).lookup x=_
      rw[Ex,if_neg]
      ·exact od
      ·intro U;have U:x=id:=by simpa using U
       have ex:v.held.lookup x=some k:=ex;rw[U,l] at ex; cases ex
     ·have ex:(eZ id (⟨3,0⟩:pD) v.ee).lookup x=some k:=ex;rw[Ex] at ex;by_cases c:x=id
      ·rw[if_pos (by simpa using c)] at ex;cases ex;exact⟨by omega,.inr (.inr ⟨rfl,rfl⟩)⟩
      ·rw[if_neg (by simpa using c)] at ex;exact aW.wK x k ex
     ·show (eZ id (⟨3,0⟩:pD) v.ee).length≤5000
      rw[Ta];split
      ·exact aW.As
      ·rename_i aM;have aM:(v.ee.lookup id).isSome=false:=(Bool.not_eq_true _).mp aM;have:¬ 5000≤v.ee.length:=fun U=>aK ⟨aM,U⟩;omega
theorem Fit.close{v:dl}(aW:Fit v)(t:Int):Fit (q_ v t).1:=by
 unfold q_;split
 ·exact aW
 ·rename_i ah;split
  ·exact aW
  ·rename_i I;have aT:=aW.fQ;have ys:(sU v.W t).rows=v.W.rows∧(sU v.W t).closed≤max v.W.closed t:=by unfold sU; split; exact⟨rfl,Int.le_refl _⟩; exact⟨rfl,by omega⟩
   refine⟨aW.e_.close t,aW.eR,fun x k ex=>?_,aW.busy,aW.wK,aW.As,aW.rF,aW.Cr,aW.EE,⟨by show (sU v.W t).closed≤max v.fQ t; omega,by show max v.fQ t≤_; omega⟩,fun r aa=>?_⟩
   ·obtain⟨dx,ef,g0,jV,od,j8,te,yK,rz,yH,yI,wZ,ry,vu⟩:=aW.ids x k ex;have aKp:t<k.b9:=by
     apply Classical.byContradiction;intro U;exact I (List.any_eq_true.2 ⟨(x,k),Rf ex,by simp; omega⟩)
    refine⟨dx,ef,g0,jV,od,j8,by show (sU v.W t).closed<_; omega,by show _≤max v.fQ t; omega,rz,yH,yI,wZ,XW (by show a0 (sU v.W t).rows _=_; rw[ys.1]) ry,fun r aa=>vu r (by rw[← ys.1]; exact aa)⟩
   ·have:=aW.rows r (by rw[← ys.1]; exact aa);show _≤max v.fQ t; omega
theorem aFl(y:hG)(t:Int):(sp y t).closed=y.closed∧∀ r∈(sp y t).rows,r∈y.rows:=by
 unfold sp;split
 ·exact⟨rfl,fun r aa=>(Q4 _ _).subset aa⟩
 ·exact⟨rfl,fun r aa=>aa⟩
theorem Fit.RY{v:dl}(aW:Fit v)(t:Int):Fit (EX v t).1:=by
 have aF:=aFl v.W t;refine⟨aW.e_.RY t,aW.eR,fun x k ex=>?_,aW.busy,aW.wK,aW.As,aW.rF,aW.Cr,aW.EE,⟨by show (sp v.W t).closed≤_; rw[aF.1]; exact aW.fQ.1,aW.fQ.2⟩,fun r aa=>aW.rows r (aF.2 r aa)⟩;obtain⟨dx,ef,g0,jV,od,j8,te,yK,rz,yH,yI,wZ,ry,vu⟩:=aW.ids x k ex;exact⟨dx,ef,g0,jV,od,j8,by show (sp v.W t).closed<_; rw[aF.1]; exact te,yK,rz,yH,yI,wZ,akY aW.e_ t ry,fun r aa=>vu r (aF.2 r aa)⟩
end Vault
namespace bj
open Go.RowKit Go.Maps Go.Sort Go.Shelf Go.WideElems
section
variable {A w:World} {m:List bE} {Z:Type} {T:bz Z}
theorem aHO{r e3:Nat}{es:List (Int×Z)}(aa:∀ p∈es,-9223372036854775808≤p.1∧p.1≤9223372036854775807)(hm:es.length≤1000000)(H:E A (aJ e3 [.map (some r)] 68::dh T .i64 r es::m) w) :
  M Pg 59 [.func (.func 110) #[] #[.pointer (some ⟨e3,0,none⟩)]] X w fun s J=>∃ fM:List Int,fM.Perm (es.map (·.1)) ∧
   E A (row (B .i64) 3 1 s (fM.mergeSort fun x S=>decide (x≤S))::aJ e3 [.map (some r)] 68::dh T .i64 r es::m) J:=by
 obtain⟨aX,c,I,ao,R,hn⟩:=yW (H.front 1);have cK:=hn.get;obtain⟨ny,Hd,He,Ag⟩:=RT (k:=3) Tryz.underlying3 aa (by omega) I ao R cK;have z6:=H.get;have dI:e3<w.heap.size:=(Array.getElem?_eq_some_iff.1 z6).1;have Hi:=AnyZI.keys_gives (ρ:=Tryz.abz) { Tryz.Q6 with } Fence.wide (5-1-1-1) trivial rfl (by omega) e3 r aX.size ny w dI (by rw[u2 z6]; rfl) Hd;have wF:=AnyZI.sorted_in Tryz.SR Fence.wide 5 trivial trivial trivial trivial rfl (by omega) (SS _) (enters_of Tryz.func109 (by kernel_rfl) rfl) 110 #[.pointer (some ⟨e3,0,none⟩)] trivial (enters_of Tryz.func110 (by kernel_rfl) rfl) _ (Maps.size ny) (by rw[Ag]; exact Nat.le_trans hm (Nat.le_of_ble_eq_true rfl)) (by rw[Ag]; omega) w Hi;change CallsIn _ _ Pg 59 _ _ _ at wF;refine (callsIn_wide (n:=5)).1 (wF.mono ?_);rintro l J ⟨v,nt,rfl,ff,vo,aav,GW⟩
 have vo:J.ownsRow w.heap.size 3 1 v nt.length ((nt.mergeSort fun x S=>decide (x≤S)).flatMap (B .i64).cells):=by
  have l:(nt.mergeSort fun x S=>decide (x≤S)).flatMap (B .i64).cells=(nt.mergeSort fun x S=>decide (x≤S)).map encZ:=by
   generalize nt.mergeSort (fun x S=>decide (x≤S))=q;induction q with
   |nil=>rfl
   |cons x q cq=>rw[List.flatMap_cons,cq]; rfl
  rw[l]; exact vo
 obtain⟨s,aH,Be⟩:=H.ownsRow (T:=B .i64) (fun _=>rfl) (by rw[List.length_mergeSort]) GW vo;exact⟨s,aH,nt,ff.trans He,Be⟩
end
end bj
namespace Vault
open bj Store Num
abbrev hH:=Bq
abbrev lv:=iQ
abbrev wv:=lV
structure Br where
 s:Nat
 hp:Nat
 j_:Nat
 jW:Nat
def pz(v:dl)(p:Br):tL:=⟨(⟨some ⟨p.s,0,none⟩⟩:m6),v.eR,v.fQ,some p.hp,some p.j_,some p.jW⟩
def e6(e:Nat)(v:dl):bE:=h8 fun p:Br=>dH [aJ e (hH.cells (pz v p)) 72,e_ p.s v.W,dh lv .i64 p.hp v.held,dh (B .i64) .i64 p.j_ v.busy,dh wv .i64 p.jW v.ee]
section
variable {A w:World} {m bX:List bE}
theorem py{e:Nat}{v:dl}(H:E A (e6 e v::m) w):∃ p:Br,E A (aJ e (hH.cells (pz v p)) 72::e_ p.s v.W::dh lv .i64 p.hp v.held::dh (B .i64) .i64 p.j_ v.busy::dh wv .i64 p.jW v.ee::m) w:=by
 obtain⟨p,H⟩:=H.ex;exact⟨p,H.open_⟩
theorem kv{e:Nat}{v:dl}{p:Br}(H:E A (aJ e (hH.cells (pz v p)) 72::e_ p.s v.W::dh lv .i64 p.hp v.held::dh (B .i64) .i64 p.j_ v.busy::dh wv .i64 p.jW v.ee::m) w):E A (e6 e v::m) w:=
 E.mU p (E.shut (bX:=[aJ e (hH.cells (pz v p)) 72,e_ p.s v.W,dh lv .i64 p.hp v.held,dh (B .i64) .i64 p.j_ v.busy,dh wv .i64 p.jW v.ee]) H)
theorem OS:∀ (D:List bE) {aQ:bE},E A (D++aQ::m) w→E A (aQ::m) w
 |[],_,H=>H
 |_::D,_,H=>OS D H.drop
theorem aC4{r:Nat}{eL:Type}{T:bz eL}{es:List (Int×eL)}{ab:Nat→Prop}{o:Option Nat}{g:Bool}(i:Nat)(H:E A m w)(ay:front i m=dh T .i64 r es::bX)(hm:o=some r)(aq:ab es.length):ex (fun x=>g=true→(rR o w) x) ab:=by
 obtain⟨x,F,aq⟩:=ab2 (ab:=ab) i H ay hm aq;exact⟨x,fun _=>F,aq⟩
theorem Su{r it:Nat}{eL:Type}{T:bz eL}{k:IntKind}{es left:List (Int×eL)}{j7:Option (Int×eL)}(H:E A (rH T k r it es left j7::m) w):(es.map (·.1)).Nodup:=HM (Ih H)
theorem Rs{f:Nat}(am:f<18446744073709551616)(H:E A m w):M Pg 140 [.float .f64 f] (bB aE (B .i64)) w fun r J=>(jL f→r.2=0∧∃ e,r.1=some ⟨e,0,none⟩∧E A (e6 e ⟨f,⟨[],0,0⟩,0,[],[],[]⟩::m) J)∧(¬ jL f→r=(none,150)∧E A m J):=by
 refine ag0 ?_;unfold Ut;refine ap (LN am H) ?_;rintro r w ⟨I,R,H⟩;by_cases c:r=0
 ·rw[if_neg (by simp[c])];refine ap (aHI H) ?_;rintro oT w ⟨s,rfl,H⟩;refine xc H fun hp w H=>?_;have H:=w9 lv .i64 H;refine xc H fun j_ w H=>?_;have H:=w9 (B .i64) .i64 H;refine xc H fun jW w H=>?_;have H:=w9 wv .i64 H;refine bR H fun e w H=>?_;refine⟨fun _=>⟨rfl,e,rfl,?_⟩,fun h=>absurd (I.1 c) h⟩;exact kv (v:=⟨f,⟨[],0,0⟩,0,[],[],[]⟩) (p:=⟨s,hp,j_,jW⟩) (H.ord [0,4,3,2,1])
 ·rw[if_pos (by simpa using c)];exact⟨fun h=>absurd (I.2 h) c,fun _=>⟨rfl,H⟩⟩
theorem afS{a:Int}(H:E A m w):M Pg 212 [.int .i64 a] bo w fun r J=>r=decide (ru a)∧E A m J:=by
 refine ahU ?_;unfold Vj;refine⟨?_,H⟩;rw[Bool.eq_iff_iff,decide_eq_true_eq];unfold ru;simp
theorem aIR{t:Int}(H:E A m w):M Pg 250 [.int .i64 t] bo w fun r J=>r=(decide (t≥0)&&decide (t≤1125899906842624))∧E A m J:=by
 refine aip ?_;unfold VP;exact⟨rfl,H⟩
theorem afU{e:Nat}{v:dl}{t:Int}(H:E A (e6 e v::m) w):M Pg 210 [.pointer (some ⟨e,0,none⟩),.int .i64 t] (B .i64) w fun r J=>r=uo v t∧E A (e6 e v::m) J:=by
 refine ahS ?_;unfold Vh uo;by_cases c:t<1∨t>1125899906842624
 ·rw[if_pos (by simpa using c),if_pos c];exact⟨rfl,H⟩
 ·rw[if_neg (by simpa using c),if_neg c];obtain⟨p,H⟩:=py H;refine ch rfl ?_;refine ak (x:=v.fQ) 0 H rfl rfl rfl ?_;by_cases d:t≤v.fQ
  ·rw[if_pos (by simpa using d),if_pos d];exact⟨rfl,kv H⟩
  ·rw[if_neg (by simpa using d),if_neg d];exact⟨rfl,kv H⟩
theorem Cn{e:Nat}{v:dl}{t:Int}(H:E A (e6 e v::m) w):M Pg 215 [.pointer (some ⟨e,0,none⟩),.int .i64 t] eh w fun _ J=>E A (e6 e { v with fQ:=max v.fQ t }::m) J:=by
 refine ahX ?_;unfold Vm;obtain⟨p,H⟩:=py H;refine ch rfl ?_;refine ak (x:=v.fQ) 0 H rfl rfl rfl ?_;refine dK (x:=max v.fQ t) 0 H rfl rfl (Nat.le_of_ble_eq_true rfl) fun w H=>?_;exact kv (v:={ v with fQ:=max v.fQ t }) H
theorem IB{l:Int}(H:E A m w):M Pg 118 [.int .i64 l] (B .i64) w fun r J=>r=xr l∧E A m J:=by
 refine agD ?_;unfold T7 xr;by_cases bx:l=120
 ·rw[if_pos (by simpa using bx),if_pos bx]; exact⟨rfl,H⟩
 ·rw[if_neg (by simpa using bx),if_neg bx];by_cases bK:l=128
  ·rw[if_pos (by simpa using bK),if_pos bK]; exact⟨rfl,H⟩
  ·rw[if_neg (by simpa using bK),if_neg bK];by_cases ck:l=126
   ·rw[if_pos (by simpa using ck),if_pos ck]; exact⟨rfl,H⟩
   ·rw[if_neg (by simpa using ck),if_neg ck];by_cases fv:l=127
    ·rw[if_pos (by simpa using fv),if_pos fv]; exact⟨rfl,H⟩
    ·rw[if_neg (by simpa using fv),if_neg fv]; exact⟨rfl,H⟩
theorem aIS{e:Nat}{v:dl}{t a n:Int}(aW:Fit v)(H:E A (e6 e v::m) w):M Pg 169 [.pointer (some ⟨e,0,none⟩),.int .i64 t,.int .i64 a,.int .i64 n] (B .i64) w fun r J=>r=(y6 v t a n).2∧E A (e6 e (y6 v t a n).1::m) J:=by
 refine ahn ?_;unfold UQ;refine ap (afU (t:=t) H) ?_;rintro r w ⟨rfl,H⟩;unfold y6;by_cases cb:uo v t=0
 ·rw[if_neg (by simp[cb]),if_neg (by simp[cb])];obtain⟨p,H⟩:=py H;refine ch rfl ?_;refine ak (x:=some (⟨p.s,0,none⟩:Addr)) 0 H rfl rfl rfl ?_;refine ap (E5 (k:=a) aW.e_ (H.front 1)) ?_;rintro r w ⟨rfl,H⟩;refine bR H fun fp w H=>?_;show bi dR _ (pn (a0 v.W.rows a)).1 _ _
  generalize ba:pn (a0 v.W.rows a)=q;have r8:gr v a=q:=ba;rw[r8];refine de (x:=kD) (S:=q.1) qq 0 H rfl fun w H=>?_;refine ap (afS H) ?_;rintro r w ⟨rfl,H⟩;have fin:∀ w,E A (aJ fp (dR.cells q.1) 292::e_ p.s v.W::aJ e (hH.cells (pz v p)) 72::dh lv .i64 p.hp v.held::dh (B .i64) .i64 p.j_ v.busy::dh wv .i64 p.jW v.ee::m) w→E A (e6 e v::m) w:=fun w H=>kv ((H.drop).front 1);by_cases bx:ru a
  ·rw[decide_eq_true bx,if_neg (by simp:¬ (!true)=true),if_neg (show ¬ ¬ ru a by simp[bx])];by_cases bK:q.2=true
   ·rw[if_pos bK,if_pos bK];exact⟨rfl,fin _ H⟩
   ·rw[if_neg bK,if_neg bK];refine ap (u4 (n:=n) H) ?_;rintro r w ⟨rfl,H⟩;by_cases ck:iA n
    ·have l:(if 0≤n∧n≤1000000000000000 then (0:Int) else 40)=0:=if_pos ck;rw[l,if_neg (by simp),if_neg (by simp[ck])];refine ak (x:=some (⟨p.s,0,none⟩:Addr)) 2 H rfl rfl rfl ?_;refine vA H fun ek w H=>?_;have H:=uB (ar:=2) (o:=1) rfl H;refine ap (CA (t:=t) (xs:=[⟨a,n⟩]) aW.e_ (by simp) (dr.row (fun _=>rfl) 0 rfl) (H.front 2)) ?_;rintro r w ⟨_,H⟩;have H:=kv (v:={ v with W:=nQ v.W t [⟨a,n⟩] }) (p:=p) ((H.ord [3,0,4,5,6]));refine ap (Cn (t:=t) H) ?_;intro r w H;exact⟨rfl,(((H.front 1).drop).front 1).drop⟩
    ·have l:(if 0≤n∧n≤1000000000000000 then (0:Int) else 40)=40:=if_neg ck;rw[l,if_pos (by simp),if_pos ck];exact⟨rfl,fin _ H⟩
  ·rw[decide_eq_false bx,if_pos (by simp:(!false)=true),if_pos bx];exact⟨rfl,fin _ H⟩
 ·rw[if_pos (by simpa using cb),if_pos cb];exact⟨rfl,H⟩
theorem aI1{e:Nat}{v:dl}{p:Part}(aW:Fit v)(H:E A (e6 e v::m) w):M Pg 216 [.pointer (some ⟨e,0,none⟩),hd.enc p] (bB (B .i64) (B .i64)) w fun r J=>r=qb v p∧E A (e6 e v::m) J:=by
 refine ahY ?_;unfold Vn;refine bR H fun fp w H=>?_;refine dy H fun w H=>?_;refine ch rfl ?_;obtain⟨q,H⟩:=py (H.front 1);refine ak (x:=some q.jW) 0 H rfl rfl rfl ?_;refine ak (x:=p.aD) 5 H rfl rfl rfl ?_;refine mw 4 H rfl rfl ?_;refine bR H fun ek w H=>?_;refine de (x:=n1) (S:=(v.ee.lookup p.aD).getD n1) HI 0 H rfl fun w H=>?_;refine dy H fun w H=>?_;refine ak (x:=some (⟨q.s,0,none⟩:Addr)) 1 H rfl rfl rfl ?_;refine ak (x:=p.cl) 6 H rfl rfl rfl ?_;have H:=H.drop;have hj:∀ (iS:Nat) (w:World),E A (aJ iS (dR.cells (gr v p.cl).1) 292::e_ q.s v.W::aJ e (hH.cells (pz v q)) 72::dh lv .i64 q.hp v.held::dh (B .i64) .i64 q.j_ v.busy::dh wv .i64 q.jW v.ee::aJ fp (hd.cells p) 60::m) w →
   FC ⟨fp,0,none⟩ ⟨e,0,none⟩ (v.ee.lookup p.aD) ⟨iS,0,none⟩ (gr v p.cl).2 w fun r J=>r=qb v p∧E A (e6 e v::m) J:=by
  intro iS w H;have fin:∀ w,E A (aJ iS (dR.cells (gr v p.cl).1) 292::e_ q.s v.W::aJ e (hH.cells (pz v q)) 72::dh lv .i64 q.hp v.held::dh (B .i64) .i64 q.j_ v.busy::dh wv .i64 q.jW v.ee::aJ fp (hd.cells p) 60::m) w→E A (e6 e v::m) w:=
   fun w H=>(kv (p:=q) ((H.drop).front 1) |>.front 1).drop
  unfold FC qb;refine dy H fun w H=>?_;refine ak (x:=some q.j_) 2 H rfl rfl rfl ?_;refine ak (x:=p.cl) 6 H rfl rfl rfl ?_;refine mw 4 H rfl rfl ?_;refine ak (x:=p.aD) 6 H rfl rfl rfl ?_;by_cases bx:p.aD<1
  ·rw[if_pos (by simpa using bx),if_pos bx]; exact⟨rfl,fin _ H⟩
  ·rw[if_neg (by simpa using bx),if_neg bx];by_cases bK:(v.ee.lookup p.aD).isSome=true
   ·rw[if_pos bK,if_pos bK]; exact⟨rfl,fin _ H⟩
   ·rw[if_neg bK,if_neg bK];refine ak (x:=some q.jW) 2 H rfl rfl rfl ?_;refine ab2 5 H rfl rfl ?_;by_cases ck:5000≤v.ee.length
    ·rw[if_pos (by simp; omega),if_pos ck]; exact⟨rfl,fin _ H⟩
    ·rw[if_neg (by simp; omega),if_neg ck];refine ak (x:=p.cl) 6 H rfl rfl rfl ?_;refine ap (afS H) ?_;rintro r w ⟨rfl,H⟩;by_cases fv:ru p.cl
     ·rw[decide_eq_true fv,if_neg (by simp),if_neg (show ¬ ¬ ru p.cl by simp[fv])];refine ak (x:=p.b) 6 H rfl rfl rfl ?_;have vt:∀ (t:Bool) (w:World),(t=true↔p.b<1∨¬ iA p.b)→E A (aJ iS (dR.cells (gr v p.cl).1) 292::e_ q.s v.W::aJ e (hH.cells (pz v q)) 72::dh lv .i64 q.hp v.held::dh (B .i64) .i64 q.j_ v.busy::dh wv .i64 q.jW v.ee::aJ fp (hd.cells p) 60::m) w →
        FD ⟨fp,0,none⟩ ⟨e,0,none⟩ ⟨iS,0,none⟩ (gr v p.cl).2 (v.busy.lookup p.cl) t w fun r J=>r=(if p.b<1∨¬ iA p.b then (0,155) else if (gr v p.cl).2=false then (0,159) else if (v.busy.lookup p.cl).isSome=true then (0,160)
         else if p.ir=false then (if iA (gr v p.cl).1.V∧(gr v p.cl).1.V+p.b≤1000000000000000 then (0,0) else (0,162))
         else if (gr v p.cl).1.V<p.b+ko p.b v.eR then (0,161) else (ko p.b v.eR,0))∧E A (e6 e v::m) J:=by
       intro t w aT H;unfold FD;by_cases jC:p.b<1∨¬ iA p.b
       ·rw[if_pos (aT.2 jC),if_pos jC]; exact⟨rfl,fin _ H⟩
       ·rw[if_neg (fun h=>jC (aT.1 h)),if_neg jC];have re:iA p.b:=Classical.byContradiction fun U=>jC (.inr U);by_cases q8:(gr v p.cl).2=false
        ·rw[if_pos (by simp[q8]),if_pos q8]; exact⟨rfl,fin _ H⟩
        ·rw[if_neg (by simpa using q8),if_neg q8];by_cases c7:(v.busy.lookup p.cl).isSome=true
         ·rw[if_pos c7,if_pos c7]; exact⟨rfl,fin _ H⟩
         ·rw[if_neg c7,if_neg c7];refine ak (x:=p.ir) 6 H rfl rfl rfl ?_;by_cases c8:p.ir=false
          ·rw[if_pos (by simp[c8]),if_pos c8];refine ak (x:=(gr v p.cl).1.V) 0 H rfl rfl rfl ?_;refine ak (x:=p.b) 6 H rfl rfl rfl ?_;refine ap (akr H) ?_;rintro r w ⟨I,R,H⟩;by_cases c9:iA (gr v p.cl).1.V∧(gr v p.cl).1.V+p.b≤1000000000000000
           ·rw[if_neg (by simp[I.2 ⟨c9.1,re,c9.2⟩]),if_pos c9]; exact⟨rfl,fin _ H⟩
           ·rw[if_pos (by simp; exact fun h=>c9 ⟨(I.1 h).1,(I.1 h).2.2⟩),if_neg c9]; exact⟨rfl,fin _ H⟩
          ·rw[if_neg (by simpa using c8),if_neg c8];refine dy H fun w H=>?_;refine ak (x:=p.b) 6 H rfl rfl rfl ?_;refine ak (x:=v.eR) 2 H rfl rfl rfl ?_;refine ap (aon re.1 re.2 aW.eR H) ?_;rintro r w ⟨rfl,H⟩;refine ak (x:=(gr v p.cl).1.V) 0 H rfl rfl rfl ?_;refine ak (x:=p.b) 6 H rfl rfl rfl ?_;have am:=GO re.1 re.2 aW.eR;have aM:=re.2;have aKy:=re.1;have l:IntKind.i64.wrap (p.b+(ko p.b v.eR,(0:Int)).1)=p.b+ko p.b v.eR:=wrap_i64 (by simp only; omega) (by simp only; omega);rw[l];by_cases c9:(gr v p.cl).1.V<p.b+ko p.b v.eR
           ·rw[if_pos (by simpa using c9),if_pos c9]; exact⟨rfl,fin _ H⟩
           ·rw[if_neg (by simpa using c9),if_neg c9]; exact⟨rfl,fin _ H⟩
      by_cases jC:p.b<1
      ·rw[if_pos (by simpa using jC)];exact vt true w ⟨fun _=>.inl jC,fun _=>rfl⟩ H
      ·rw[if_neg (by simpa using jC)];refine ak (x:=p.b) 6 H rfl rfl rfl ?_;refine ap (u4 H) ?_;rintro r w ⟨rfl,H⟩;refine vt _ w ?_ H;by_cases q8:iA p.b
       ·have l:(if 0≤p.b∧p.b≤1000000000000000 then (0:Int) else 40)=0:=if_pos q8;rw[l];simp[jC,q8]
       ·have l:(if 0≤p.b∧p.b≤1000000000000000 then (0:Int) else 40)=40:=if_neg q8;rw[l];simp[q8]
     ·rw[decide_eq_false fv,if_pos (by simp),if_pos fv]; exact⟨rfl,fin _ H⟩
 refine⟨?_,?_⟩
 ·refine ap (E5 (k:=p.cl) aW.e_ (H.front 1)) ?_;rintro r w ⟨rfl,H⟩;refine bR H fun iS w H=>?_;show bi dR _ (gr v p.cl).1 _ _
  refine de (x:=kD) (S:=(gr v p.cl).1) qq 0 H rfl fun w H=>?_;exact hj iS w H
 ·refine bR H fun iS w H=>?_;refine ap (E5 (k:=p.cl) aW.e_ (H.front 2)) ?_;rintro r w ⟨rfl,H⟩;show bi dR _ (gr v p.cl).1 _ _
  refine de (x:=kD) (S:=(gr v p.cl).1) qq 1 H rfl fun w H=>?_;exact hj iS w H
theorem aIQ{e:Nat}{v:dl}{t:Int}{p:Part}(aW:Fit v)(H:E A (e6 e v::m) w):M Pg 170 [.pointer (some ⟨e,0,none⟩),.int .i64 t,hd.enc p] (B .i64) w fun r J=>r=(Ad v t p).2∧E A (e6 e (Ad v t p).1::m) J:=by
 refine ahp ?_;unfold US Ad;refine bR H fun fp w H=>?_;refine ap (afU (t:=t) (H.front 1)) ?_;rintro r w ⟨rfl,H⟩;by_cases cb:uo v t=0
 ·rw[if_neg (by simp[cb]),if_neg (by simp[cb])];refine ez (x:=p) 1 H rfl ?_;refine ap (aI1 (p:=p) aW H) ?_;rintro r w ⟨rfl,H⟩;by_cases bx:(qb v p).2=0
  ·rw[if_neg (by simp[bx]),if_neg (by simp[bx])];refine dy H fun w H=>?_;refine ch rfl ?_;obtain⟨q,H⟩:=py H;refine ak (x:=some q.hp) 0 H rfl rfl rfl ?_;refine ak (x:=p.aD) 5 H rfl rfl rfl ?_;refine ez (x:=p) 5 H rfl ?_;refine sf 2 H rfl rfl fun w H=>?_;refine dy H fun w H=>?_;refine ak (x:=some q.j_) 1 H rfl rfl rfl ?_;refine ak (x:=p.cl) 5 H rfl rfl rfl ?_;refine ak (x:=p.aD) 5 H rfl rfl rfl ?_;refine sf 3 H rfl rfl fun w H=>?_;refine dy H fun w H=>?_;refine ak (x:=some q.jW) 2 H rfl rfl rfl ?_;refine ak (x:=p.aD) 5 H rfl rfl rfl ?_;refine sf 4 H rfl rfl fun w H=>?_;have H:=kv (v:={ v with held:=eZ p.aD ⟨p,t,(qb v p).1⟩ v.held,busy:=eZ p.cl p.aD v.busy,ee:=eZ p.aD ⟨1,t⟩ v.ee }) (p:=q) (H.ord [3,4,2,1,0]);refine ap (Cn (t:=t) H) ?_;intro r w H;exact⟨rfl,(H.front 1).drop⟩
  ·rw[if_pos (by simpa using bx),if_pos bx];exact⟨rfl,(H.front 1).drop⟩
 ·rw[if_pos (by simpa using cb),if_pos cb];exact⟨rfl,(H.front 1).drop⟩
theorem free_spec{e:Nat}{v:dl}{h:mF}(H:E A (e6 e v::m) w):M Pg 249 [.pointer (some ⟨e,0,none⟩),lv.enc h] eh w fun _ J=>E A (e6 e (BJ v h)::m) J:=by
 refine ain ?_;unfold VN;refine bR H fun fp w H=>?_;refine dy H fun w H=>?_;refine ch rfl ?_;obtain⟨q,H⟩:=py (H.front 1);refine ak (x:=some q.hp) 0 H rfl rfl rfl ?_;refine ak (x:=h.Part.aD) 5 H rfl rfl rfl ?_;refine Rl 2 H rfl rfl fun w H=>?_;refine dy H fun w H=>?_;refine ak (x:=some q.j_) 1 H rfl rfl rfl ?_;refine ak (x:=h.Part.cl) 5 H rfl rfl rfl ?_;refine Rl 3 H rfl rfl fun w H=>?_;exact (kv (v:=BJ v h) (p:=q) (H.ord [2,3,1,0,4]) |>.front 1).drop
theorem alv{e:Nat}{v:dl}{h:mF}{q:Br}(aW:Fit v)(H:E A (aJ e (hH.cells (pz v q)) 72::e_ q.s v.W::m) w):M Pg 253 [.pointer (some ⟨e,0,none⟩),lv.enc h] X w fun r J=>E A (row h2 87 2 r (u3 v h)::aJ e (hH.cells (pz v q)) 72::e_ q.s v.W::m) J:=by
 refine ais ?_;unfold VS u3;refine bR H fun fp w H=>?_;refine ak (x:=h.Part.cl) 0 H rfl rfl rfl ?_;refine ch rfl ?_;refine ak (x:=some (⟨q.s,0,none⟩:Addr)) 1 H rfl rfl rfl ?_;refine ap (E5 (k:=h.Part.cl) aW.e_ (H.front 2)) ?_;rintro r w ⟨rfl,H⟩;refine bR H fun ek w H=>?_;show bi dR _ (gr v h.Part.cl).1 _ _
 refine de (x:=kD) (S:=(gr v h.Part.cl).1) qq 0 H rfl fun w H=>?_;refine ak (x:=h.Part.ir) 2 H rfl rfl rfl ?_;by_cases c:h.Part.ir=false
 ·rw[if_pos (by simp[c]),if_pos c];refine ak (x:=(gr v h.Part.cl).1.V) 0 H rfl rfl rfl ?_;refine ak (x:=h.Part.b) 2 H rfl rfl rfl ?_;refine vA H fun iS w H=>?_;have H:=uB (ar:=2) (o:=1) rfl H;exact ((((H.front 1).drop.front 2).drop).ord [0,2,1])
 ·rw[if_neg (by simpa using c),if_neg c];refine ak (x:=(gr v h.Part.cl).1.V) 0 H rfl rfl rfl ?_;refine ak (x:=h.Part.b) 2 H rfl rfl rfl ?_;refine ak (x:=h.uN) 2 H rfl rfl rfl ?_;refine vA H fun iS w H=>?_;have H:=uB (ar:=2) (o:=1) rfl H;refine ak (x:=h.uN) 3 H rfl rfl rfl ?_;unfold I2;by_cases d:h.uN>0
  ·rw[if_pos (by simpa using d),if_pos d];refine ak (x:=some (⟨q.s,0,none⟩:Addr)) 4 H rfl rfl rfl ?_;generalize Qc:IntKind.i64.wrap (4096+h.Part.cl)=nP;refine ap (E5 (k:=nP) aW.e_ (H.front 2)) ?_;rintro r w ⟨rfl,H⟩;refine bR H fun iT w H=>?_;show bi dR _ (gr v nP).1 _ _
   refine de (x:=kD) (S:=(gr v nP).1) qq 0 H rfl fun w H=>?_;refine ak (x:=(gr v nP).1.V) 0 H rfl rfl rfl ?_;refine ak (x:=h.uN) 4 H rfl rfl rfl ?_;refine nF (fun _=>rfl) 2 H rfl (by simp) fun r w H=>?_;have H:=((((H.front 1).drop).front 2).drop.front 2).drop;exact H.ord [0,2,1]
  ·rw[if_neg (by simpa using d),if_neg d];have H:=(H.front 1).drop;have H:=(H.front 2).drop;exact H.ord [0,2,1]
theorem alu(v:dl)(h:mF):(u3 v h).length≤2:=by
 unfold u3;split
 ·simp
 ·split<;>simp
theorem ami{e:Nat}{v:dl}{t id:Int}(aW:Fit v)(H:E A (e6 e v::m) w):M Pg 220 [.pointer (some ⟨e,0,none⟩),.int .i64 t,.int .i64 id] (B .i64) w fun r J=>r=(xZ v t id).2∧E A (e6 e (xZ v t id).1::m) J:=by
 refine ah2 ?_;unfold Vt xZ;by_cases cb:t<1∨t>1125899906842624
 ·rw[if_pos (by simpa using cb),if_pos cb]; exact⟨rfl,H⟩
 ·rw[if_neg (by simpa using cb),if_neg cb];refine ch rfl ?_;obtain⟨q,H⟩:=py H;refine ak (x:=some q.jW) 0 H rfl rfl rfl ?_;refine mw 4 H rfl rfl ?_;refine bR H fun fp w H=>?_;show bi lV _ (fw v id) _ _
  refine de (x:=n1) (S:=fw v id) HI 0 H rfl fun w H=>?_;refine ak (x:=(fw v id).im) 0 H rfl rfl rfl ?_;by_cases bx:(fw v id).im=2
  ·rw[if_pos (by simpa using bx),if_pos bx];refine ak (x:=(fw v id).g5) 0 H rfl rfl rfl ?_;by_cases bK:(fw v id).g5=t
   ·rw[if_neg (by simp[bK]),if_neg (by simp[bK])];exact⟨rfl,kv (p:=q) H.drop⟩
   ·rw[if_pos (by simpa using bK),if_pos bK];exact⟨rfl,kv (p:=q) H.drop⟩
  ·rw[if_neg (by simpa using bx),if_neg bx];by_cases bK:(fw v id).im=1
   ·rw[if_pos (by simpa using bK),if_pos bK];refine ak (x:=some q.hp) 1 H rfl rfl rfl ?_;refine mw 3 H rfl rfl ?_;refine bR H fun ek w H=>?_;show bi lv _ (pi v id) _ _
    refine de (x:=q1) (S:=pi v id) Ev 0 H rfl fun w H=>?_;refine ak (x:=(pi v id).b9) 0 H rfl rfl rfl ?_;by_cases ck:t<(pi v id).b9
    ·rw[if_pos (by simpa using ck),if_pos ck];exact⟨rfl,kv (p:=q) H.drop.drop⟩
    ·rw[if_neg (by simpa using ck),if_neg ck];generalize pi v id=h at *;refine dy H fun w H=>?_;refine ak (x:=some (⟨q.s,0,none⟩:Addr)) 2 H rfl rfl rfl ?_;refine ez (x:=h) 0 H rfl ?_;refine ap (alv (h:=h) (q:=q) aW (H.ord [2,3])) ?_;intro r w H;have ys:=alu v h;refine⟨bO aE (H.front 1) rfl rfl,?_⟩;refine ap (CA (t:=t) (xs:=u3 v h) aW.e_ (by omega) (dr.row (fun _=>rfl) 0 rfl) (H.front 2)) ?_;rintro r w ⟨_,H⟩;have H:=(H.front 1).drop;refine⟨bO lv (H.front 2) rfl (tP _),?_⟩;refine ez (x:=h) 2 H rfl ?_;have H:=kv (v:={ v with W:=nQ v.W t (u3 v h) }) (p:=q) (H.ord [1,0,4,5,6]);refine ap (free_spec (h:=h) H) ?_;intro r w H;obtain⟨gK,H⟩:=py H;refine ak (x:=some gK.jW) 0 H rfl rfl rfl ?_;refine sf 4 H rfl rfl fun w H=>?_;have H:=kv (v:={ BJ v h with W:=nQ v.W t (u3 v h),ee:=eZ id ⟨2,t⟩ v.ee }) (p:=gK) (H.ord [1,2,3,4,0]);refine ap (Cn (t:=t) H) ?_;intro r w H
     exact⟨rfl,(((H.front 1).drop).front 1).drop⟩
   ·rw[if_neg (by simpa using bK),if_neg bK];exact⟨rfl,kv (p:=q) H.drop⟩
theorem amJ{e:Nat}{v:dl}{id:Int}(H:E A (e6 e v::m) w):M Pg 217 [.pointer (some ⟨e,0,none⟩),.int .i64 id] (B .i64) w fun r J=>r=(x2 v id).2∧E A (e6 e (x2 v id).1::m) J:=by
 refine ahZ ?_;unfold Vo x2;refine ch rfl ?_;obtain⟨q,H⟩:=py H;refine ak (x:=some q.jW) 0 H rfl rfl rfl ?_;refine mw 4 H rfl rfl ?_;refine bR H fun fp w H=>?_;show bi lV _ (fw v id) _ _
 refine de (x:=n1) (S:=fw v id) HI 0 H rfl fun w H=>?_;by_cases cb:id<1
 ·rw[if_pos (by simpa using cb),if_pos cb];exact⟨rfl,kv (p:=q) H.drop⟩
 ·rw[if_neg (by simpa using cb),if_neg cb];refine ak (x:=(fw v id).im) 0 H rfl rfl rfl ?_;by_cases bx:(fw v id).im=2
  ·rw[if_pos (by simpa using bx),if_pos bx];exact⟨rfl,kv (p:=q) H.drop⟩
  ·rw[if_neg (by simpa using bx),if_neg bx];refine aR ⟨e,0,none⟩ (fun _=>rfl) ?_;refine aR (some q.jW) (fun _=>bO eC (H.front 1) rfl rfl) ?_;refine aC4 (g:=!((v.ee.lookup id).isSome)) 5 H rfl rfl ?_;have hj:∀ (w:World),E A (e6 e (r3 v id)::m) w→FE id ⟨e,0,none⟩ w fun r J=>r=0∧E A (e6 e { r3 v id with ee:=eZ id ⟨3,0⟩ v.ee }::m) J:=by
    intro w H;have am:(r3 v id).ee=v.ee:=by unfold r3; split<;>rfl
    unfold FE;obtain⟨gK,H⟩:=py H;refine ak (x:=some gK.jW) 0 H rfl rfl rfl ?_;refine sf 4 H rfl rfl fun w H=>?_;rw[am] at H;exact⟨rfl,kv (v:={ r3 v id with ee:=eZ id ⟨3,0⟩ v.ee }) (p:=gK) (H.ord [1,2,3,4,0])⟩
   by_cases bK:(v.ee.lookup id).isSome=false∧5000≤v.ee.length
   ·rw[if_pos (by simp only[bK.1]; simp; omega),if_pos bK];exact⟨rfl,kv (p:=q) H.drop⟩
   ·rw[if_neg (by
     intro U;rw[Bool.and_eq_true] at U;refine bK ⟨by simpa using U.1,?_⟩;have:=U.2;simp at this
     omega),if_neg bK]
    refine ak (x:=some q.hp) 1 H rfl rfl rfl ?_;refine mw 3 H rfl rfl ?_;refine bR H fun ek w H=>?_;show bi lv _ (pi v id) _ _
    refine de (x:=q1) (S:=pi v id) Ev 0 H rfl fun w H=>?_;cases cK:v.held.lookup id with
    |some h=>
     rw[if_pos (by simp)];rw[Ee cK] at H;refine ez (x:=h) 0 H rfl ?_;have H:=kv (p:=q) (H.ord [2,3,4,5,6]);refine ap (free_spec (h:=h) H) ?_;intro r w H;have O:r3 v id=BJ v h:=by unfold r3; rw[cK]
     exact hj w (by rw[O]; exact (((H.front 1).drop).front 1).drop)
    |none=>
     rw[if_neg (by simp)];have O:r3 v id=v:=by unfold r3; rw[cK]
     have H:=kv (p:=q) (H.ord [2,3,4,5,6]);exact hj w (by rw[O]; exact (((H.front 1).drop).front 1).drop)
theorem aIP{e:Nat}{v:dl}{t:Int}(H:E A (e6 e v::m) w):M Pg 218 [.pointer (some ⟨e,0,none⟩),.int .i64 t] (B .i64) w fun r J=>r=(q_ v t).2∧E A (e6 e (q_ v t).1::m) J:=by
 refine ah0 ?_;unfold Vp;refine ap (aIR (t:=t) H) ?_;rintro r w ⟨rfl,H⟩;by_cases cb:t<0∨t>1125899906842624
 ·have l:q_ v t=(v,151):=by unfold q_; rw[if_pos cb]
  rw[l,if_pos (by simp; omega)];exact⟨rfl,H⟩
 ·rw[if_neg (by simp; omega)];refine ch rfl ?_;obtain⟨q,H⟩:=py H;refine ak (x:=some q.hp) 0 H rfl rfl rfl ?_;refine SF 2 H rfl rfl fun it w H=>?_;refine EA (fun n _ w=>∃ left j7,n=left.length∧(∀ x∈left,x∈v.held)∧(v.held.any (fun l=>decide (l.2.b9≤t))=left.any (fun l=>decide (l.2.b9≤t)))∧(left.map (·.1)).Nodup∧∃ yG,E A (rH lv .i64 q.hp it v.held left j7::aJ e (hH.cells (pz v q)) 72::e_ q.s v.W::dh (B .i64) .i64 q.j_ v.busy::dh wv .i64 q.jW v.ee::(yG++m)) w) _ ⟨v.held,none,rfl,fun _ h=>h,rfl,?_,[],H⟩ ?_
  ·exact Su H
  clear H;rintro c _ w ⟨left,j7,rfl,I,R,aM,yG,H⟩ ab cg;unfold Nh;refine RC 0 H rfl rfl (fun he H=>?_) fun x F w H=>?_
  ·subst he;rw[if_neg (by simp)];have l:q_ v t=({ v with W:=sU v.W t,fQ:=max v.fQ t },0):=by
    unfold q_; rw[if_neg cb,if_neg (by rw[R]; simp)]
   rw[l];have H:=Ih H;refine ak (x:=some (⟨q.s,0,none⟩:Addr)) 1 H rfl rfl rfl ?_;refine ap (al1 (t:=t) (H.front 2)) ?_;rintro r w ⟨_,H⟩;have H:=kv (v:={ v with W:=sU v.W t }) (p:=q) (H.ord [2,0,1,3,4]);refine ap (Cn (t:=t) H) ?_;intro r w H;have H:=H.perm (List.perm_middle.symm:(_::(yG++m)).Perm (yG++_::m));exact⟨rfl,OS yG H⟩
  ·rw[if_pos (by simp)];refine O6 0 H rfl rfl ?_;refine bR H fun fp w H=>?_;refine de (x:=q1) (S:=x.2) Ev 0 H rfl fun w H=>?_;refine ak (x:=x.2.b9) 0 H rfl rfl rfl ?_;by_cases bx:x.2.b9≤t
   ·rw[if_pos (by simpa using bx)];have l:q_ v t=(v,160):=by
     unfold q_; rw[if_neg cb,if_pos (List.any_eq_true.2 ⟨x,I x F,by simpa using bx⟩)]
    rw[l];have H:=Ih H.drop;have H:=kv (v:=v) (p:=q) (H.ord [1,2,0,3,4]);have H:=H.perm (List.perm_middle.symm:(_::(yG++m)).Perm (yG++_::m));exact⟨rfl,OS yG H⟩
   ·rw[if_neg (by simpa using bx)];refine cg _ _ _ (Zw F) ⟨_,_,rfl,fun S aB=>I S (List.mem_filter.1 aB).1,?_,(aM.sublist (List.filter_sublist.map _)),yG,H.drop⟩;rw[R,List.any_filter,Bool.eq_iff_iff,List.any_eq_true,List.any_eq_true];constructor
    ·rintro⟨S,aB,ag⟩;refine⟨S,aB,?_⟩;rw[Bool.and_eq_true];refine⟨?_,ag⟩;rw[bne_iff_ne];intro U;have:S=x:=La aM S aB x F U;subst this;exact bx (by simpa using ag)
    ·rintro⟨S,aB,ag⟩;rw[Bool.and_eq_true] at ag;exact⟨S,aB,ag.2⟩
theorem aIW{e:Nat}{v:dl}{t:Int}(aW:Fit v)(H:E A (e6 e v::m) w):M Pg 219 [.pointer (some ⟨e,0,none⟩),.int .i64 t] (B .i64) w fun r J=>r=(EX v t).2∧E A (e6 e (EX v t).1::m) J:=by
 refine ah1 ?_;unfold Vq;refine ch rfl ?_;obtain⟨q,H⟩:=py H;refine ak (x:=some (⟨q.s,0,none⟩:Addr)) 0 H rfl rfl rfl ?_;refine ap (aFm (t:=t) aW.e_ (H.front 1)) ?_;rintro r w ⟨rfl,H⟩;refine ap (IB H) ?_;rintro r w ⟨rfl,H⟩;exact⟨rfl,kv (v:={ v with W:=sp v.W t }) (p:=q) (H.front 1)⟩
theorem aI0{e:Nat}{v:dl}{t:Int}(aW:Fit v)(H:E A (e6 e v::m) w):M Pg 64 [.pointer (some ⟨e,0,none⟩),.int .i64 t] (bB X (B .i64)) w fun r J=>r.2=xr (rL v.W t)∧E A (row h2 87 2 r.1 (ns v.W t)::e6 e v::m) J:=by
 refine ajf ?_;unfold WB;refine ch rfl ?_;obtain⟨q,H⟩:=py H;refine ak (x:=some (⟨q.s,0,none⟩:Addr)) 0 H rfl rfl rfl ?_;refine ap (aHG (t:=t) aW.e_ (H.front 1)) ?_;rintro⟨g2,bA⟩ w ⟨aa,H⟩;simp only at aa H;subst aa;refine ap (IB H) ?_;rintro r w ⟨rfl,H⟩;exact⟨rfl,(kv (p:=q) (H.ord [2,1,3,4,5])).front 1⟩
theorem u_{e:Nat}{v:dl}{id:Int}(H:E A (e6 e v::m) w):M Pg 10 [.pointer (some ⟨e,0,none⟩),.int .i64 id] (bB (B .i64) (B .i64)) w fun r J=>r=((fw v id).im,(fw v id).g5)∧E A (e6 e v::m) J:=by
 refine agv ?_;unfold TQ;refine ch rfl ?_;obtain⟨q,H⟩:=py H;refine ak (x:=some q.jW) 0 H rfl rfl rfl ?_;refine mw 4 H rfl rfl ?_;refine bR H fun fp w H=>?_;show bi lV _ (fw v id) _ _
 refine de (x:=n1) (S:=fw v id) HI 0 H rfl fun w H=>?_;refine dy H fun w H=>?_;refine ak (x:=(fw v id).im) 0 H rfl rfl rfl ?_;refine ak (x:=(fw v id).g5) 0 H rfl rfl rfl ?_;exact⟨rfl,kv (p:=q) H.drop⟩
theorem aIA{e:Nat}{v:dl}(H:E A (e6 e v::m) w):M Pg 21 [.pointer (some ⟨e,0,none⟩)] (B .i64) w fun r J=>r=v.fQ∧E A (e6 e v::m) J:=by
 refine Vr ?_;unfold Nf;refine ch rfl ?_;obtain⟨q,H⟩:=py H;refine ak (x:=v.fQ) 0 H rfl rfl rfl ?_;exact⟨rfl,kv (p:=q) H⟩
theorem PT{e:Nat}{v:dl}{p:Br}(aW:Fit v)(H:E A (aJ e (hH.cells (pz v p)) 72::dh lv .i64 p.hp v.held::m) w):M Pg 23 [.pointer (some ⟨e,0,none⟩)] X w fun r J=>E A (row lv 135 6 r (gE v)::aJ e (hH.cells (pz v p)) 72::dh lv .i64 p.hp v.held::m) J:=by
 refine aig ?_;unfold VB;refine ch rfl ?_;refine ak (x:=some p.hp) 0 H rfl rfl rfl ?_;refine ajb ?_;unfold Wy;refine bR H fun e3 w H=>?_;have Hg:∀ l∈v.held,-9223372036854775808≤l.1∧l.1≤9223372036854775807:=fun l he=>by have:=apK aW l he; omega
 have hi:=aac aW;refine ap (aHO Hg (by omega) (H.ord [0,2])) ?_;rintro s w ⟨fM,aF,H⟩;have ba:(fM.mergeSort fun x S=>decide (x≤S))=oW (v.held.map (·.1)):=SP aF;rw[ba] at H;have aH:=gG H;have apW:gE v=(oW (v.held.map (·.1))).map (pi v):=rfl;rw[apW];have wS:(oW (v.held.map (·.1))).length≤5000:=by rw[(oq _).length_eq,List.length_map]; omega
 generalize oW (v.held.map (·.1))=q at *;have H:=k4 lv 135 6 H;refine vy (fun x w=>0≤x.2∧x.2≤q.length∧E A (row lv 135 6 x.1 ((q.take x.2.toNat).map (pi v))::row (B .i64) 3 1 s q::aJ e3 [.map (some p.hp)] 68::dh lv .i64 p.hp v.held::aJ e (hH.cells (pz v p)) 72::m) w) (fun x=>(q.length-x.2).toNat)
  ⟨Int.le_refl 0,by simp only; omega,H⟩ ?_
 rintro⟨out,i⟩ w ⟨ah,I,H⟩;simp only at ah I;simp only;unfold Nl;rw[aH];split
 ·rename_i hI;have hI:i<q.length:=by simpa using hI
  have aS:IntKind.i64.wrap (i+1)=i+1:=wrap_i64 (by omega) (by omega);have F:q[i.toNat]?=some q[i.toNat]:=List.getElem?_eq_getElem (by omega);have iW:(q.take (i+1).toNat).map (pi v)=(q.take i.toNat).map (pi v)++[pi v q[i.toNat]]:=by
   rw[show (i+1).toNat=i.toNat+1 from by omega,List.take_succ_eq_append_getElem (by omega),List.map_append]; rfl
  obtain⟨a,Y⟩:=k3 (ar:=1) (i:=i) (H.front 1) ah hI;refine aR a Y ?_;refine aR q[i.toNat] (my (fun _=>rfl) Y F (H.front 1)) ?_;generalize q[i.toNat]=k at *;refine ak (x:=some p.hp) 4 H rfl rfl rfl ?_;refine mw 3 H rfl rfl ?_;show mn _ lv 6 48 _ [pi v k] _ _
  refine nF (fun _=>rfl) 0 H rfl (by simp only[List.length_map,List.length_take,List.length_singleton]; omega) fun s2 bZ H=>?_;rw[aS];refine⟨⟨by simp only; omega,by simp only; omega,?_⟩,by simp only; omega⟩;simp only;rw[iW];exact H
 ·rename_i hI;have hI:i=q.length:=by simp at hI; omega
  subst hI;have l:q.take ((q.length:Int)).toNat=q:=by simp
  rw[l] at H;have H:=((H.front 1).drop.front 1).drop;exact H.ord [0,2,1]
theorem aad{e:Nat}{v:dl}(aW:Fit v)(H:E A (e6 e v::m) w):M Pg 23 [.pointer (some ⟨e,0,none⟩)] X w fun r J=>E A (row lv 135 6 r (gE v)::e6 e v::m) J:=by
 obtain⟨p,H⟩:=py H;refine ap (PT (p:=p) aW (H.ord [0,2])) ?_;intro r w H;exact (kv (p:=p) (H.ord [1,3,2,4,5])).front 1
end
end Vault
namespace Shard
open bj Wire
abbrev dW:=j3
abbrev sQ:=fY
structure nZ(x:dW):Prop where
 k:-9223372036854775808≤x.Kind∧x.Kind≤9223372036854775807
 t:-9223372036854775808≤x.b9∧x.b9≤9223372036854775807
 i:-9223372036854775808≤x.aD∧x.aD≤9223372036854775807
 a:-9223372036854775808≤x.cl∧x.cl≤9223372036854775807
 n:-9223372036854775808≤x.b∧x.b≤9223372036854775807
def flag(e:Bool):Int:=if e=true then 1 else 0
def mW(x:dW):List fu:=[⟨1,IntKind.u64.wrap x.Kind,0,0,[]⟩,⟨2,0,x.b9,0,[]⟩,⟨2,0,x.aD,0,[]⟩,⟨2,0,x.cl,0,[]⟩,⟨2,0,x.b,0,[]⟩,⟨1,flag x.ir,0,0,[]⟩]
def jq(x:dW):List UInt8:=h7 (mW x)
theorem Zr{u:Int}(ah:0≤u)(I:u<18446744073709551616):In ⟨1,u,0,0,[]⟩∧ka ⟨1,u,0,0,[]⟩=0:=⟨⟨by simp,by simp,ah,I,by simp,by simp,by simp⟩,by simp[ka,so]⟩
theorem wL{u:Int}(ah:-9223372036854775808≤u)(I:u≤9223372036854775807):In ⟨2,0,u,0,[]⟩∧ka ⟨2,0,u,0,[]⟩=0:=⟨⟨by simp,by simp,by simp,by simp,ah,I,by simp⟩,by simp[ka,so]⟩
theorem JZ{x:dW}(h:nZ x):nz (mW x):=by
 have ah:=Zr (u:=IntKind.u64.wrap x.Kind) (by rw[lP]; omega) (by rw[lP]; omega);have I:=wL h.t.1 h.t.2;have R:=wL h.i.1 h.i.2;have aK:=wL h.a.1 h.a.2;have bp:=wL h.n.1 h.n.2;have dz:=Zr (u:=flag x.ir) (by unfold flag; split<;>omega) (by unfold flag; split<;>omega);have all:∀ v∈mW x,In v∧ka v=0:=by
  intro v aL;unfold mW at aL;simp only[List.mem_cons,List.mem_nil_iff,or_false] at aL;rcases aL with rfl | rfl | rfl | rfl | rfl | rfl
  ·exact ah
  ·exact I
  ·exact R
  ·exact aK
  ·exact bp
  ·exact dz
 exact⟨fun v aL=>(all v aL).1,fun v aL=>(all v aL).2⟩
theorem alp(x:dW):(mW x).map n2=mW x:=by simp[mW,n2,zY]
theorem aIH{x:dW}(h:nZ x):j1 (jq x)=(mW x,0,0):=by
 unfold jq;rw[afE (JZ h) (by simp[mW]),alp]
theorem amS{x:dW}(h:nZ x):(jq x).length≤6066:=by
 have:=OZ (JZ h).qk (JZ h).ok;simpa[jq,mW] using this
def qp(k:Int):Prop:=1≤k∧k≤6
instance (k:Int):Decidable (qp k):=by unfold qp; infer_instance
def AJ(a e c d l f:fu):Option dW:=
 if a.Kind=1∧f.Kind=1∧a.dg≤6∧f.dg≤1∧e.Kind=2∧c.Kind=2∧d.Kind=2∧l.Kind=2∧1≤a.dg then some ⟨a.dg,e.aZ,c.aZ,d.aZ,l.aZ,f.dg==1⟩ else none
def HV:List fu→Option dW
 |[a,e,c,d,l,f]=>AJ a e c d l f
 |_=>none
def u7(aw:List UInt8):Option dW:=if (j1 aw).2.2=0 then HV (j1 aw).1 else none
theorem amx{x:dW}(h:nZ x)(aq:qp x.Kind):u7 (jq x)=some x:=by
 unfold u7;rw[aIH h];have l:IntKind.u64.wrap x.Kind=x.Kind:=by have:=aq.1; have:=aq.2; rw[lP]; omega
 have mu:=aq.1;have jG:=aq.2;have am:(flag x.ir==1)=x.ir:=by unfold flag; cases x.ir<;>rfl
 have yt:flag x.ir≤1:=by unfold flag; split<;>omega
 simp only[mW,HV,AJ,l,if_true];rw[if_pos ⟨trivial,trivial,jG,yt,trivial,trivial,trivial,trivial,mu⟩,am]
theorem afO{v:fu}(h:ka v=0)(aq:v.Kind=1):v=⟨1,v.dg,0,0,[]⟩:=by
 rcases H0 h with ⟨_,I,R,aK⟩ | ⟨I,_⟩ | ⟨I,_⟩ | ⟨I,_⟩
 ·cases v; simp_all
 ·omega
 ·omega
 ·omega
theorem Mh{v:fu}(h:ka v=0)(aq:v.Kind=2):v=⟨2,0,v.aZ,0,[]⟩:=by
 rcases H0 h with ⟨I,_⟩ | ⟨_,I,R,aK⟩ | ⟨I,_⟩ | ⟨I,_⟩
 ·omega
 ·cases v; simp_all
 ·omega
 ·omega
theorem Yu{aw:List UInt8}{x:dW}(h:u7 aw=some x):nZ x∧qp x.Kind∧aw=jq x:=by
 unfold u7 at h;split at h
 ·rename_i he;obtain⟨aW,U,ao,_⟩:=afF he rfl;generalize (j1 aw).1=o at *
  match o,h with
  |[a,e,c,d,l,f],h=>
   simp only[HV,AJ] at h;split at h
   ·rename_i aq;obtain⟨dx,ef,g0,jV,od,j8,te,yK,rz⟩:=aq;cases h;have OW:=afO (aW.ok a (by simp)) dx;have GC:=Mh (aW.ok e (by simp)) od;have GD:=Mh (aW.ok c (by simp)) j8;have BG:=Mh (aW.ok d (by simp)) te;have DW:=Mh (aW.ok l (by simp)) yK;have JO:=afO (aW.ok f (by simp)) ef;have Hy:=aW.qk e (by simp);have aaR:=aW.qk c (by simp);have aaS:=aW.qk d (by simp);have aaT:=aW.qk l (by simp);have aBO:=aW.qk f (by simp);have am:flag (f.dg==1)=f.dg:=by
     unfold flag;have:=aBO.IC;by_cases bx:f.dg=1
     ·rw[if_pos (by simp[bx]),bx]
     ·rw[if_neg (by simpa using bx)]; omega
    have hw:IntKind.u64.wrap a.dg=a.dg:=by rw[lP]; omega
    refine⟨⟨by simp only; omega,⟨Hy.i0,Hy.i1⟩,⟨aaR.i0,aaR.i1⟩,⟨aaS.i0,aaS.i1⟩,⟨aaT.i0,aaT.i1⟩⟩,⟨rz,g0⟩,?_⟩;rw[ao];unfold jq mW;simp only[hw,am];rw[← OW,← GC,← GD,← BG,← DW,← JO]
   ·cases h
 ·cases h
section
variable {A w:World} {m bX:List bE}
theorem p0:∀ x,(gy.cells x).length=5:=fun _=>rfl
theorem aCL{x:dW}(F:nZ x)(H:E A m w):M Pg 114 [sQ.enc x] X w fun r J=>E A (row (B .u8) 5 1 r (aV (jq x))::m) J:=by
 refine agz ?_;unfold T3;refine bR H fun ek w H=>?_;refine ak (x:=x.ir) 0 H rfl rfl rfl ?_;have hj:∀ (p:Int) (w:World),p=flag x.ir→E A (aJ ek (sQ.cells x) 142::m) w→Fp ⟨ek,0,none⟩ p w fun r J=>E A (row (B .u8) 5 1 r (aV (jq x))::m) J:=by
  intro p w aF H;subst aF;unfold Fp;refine ak (x:=x.Kind) 0 H rfl rfl rfl ?_;refine vA H fun Gp w H=>?_;have H:=uB (ar:=5) (o:=1) rfl H;refine ak (x:=x.b9) 1 H rfl rfl rfl ?_;refine ak (x:=x.aD) 1 H rfl rfl rfl ?_;refine ak (x:=x.cl) 1 H rfl rfl rfl ?_;refine ak (x:=x.b) 1 H rfl rfl rfl ?_;refine vA H fun Jv w H=>?_;have H:=uB (ar:=1) (o:=4) rfl H;refine ia (fun s w=>∃ k:Nat,s.2=(k:Int)∧k≤4∧E A (row gy 197 5 s.1 ((mW x).take (k+1))::row (B .i64) 2 1 ⟨some ⟨Jv,0,none⟩,4,4⟩ [x.b9,x.aD,x.cl,x.b]::m) w) (fun s=>(4-s.2).toNat) ⟨0,rfl,by omega,((H.front 2).drop).front 1⟩ ?_;clear H;rintro⟨s,t⟩ w ⟨k,aq,B0,H⟩ ab cg;simp only at aq H;subst aq;unfold MG;simp only;split
  ·rename_i U;have U:k<4:=by
    have:(k:Int)<4:=by simpa using U
    omega
   have aS:IntKind.i64.wrap ((k:Int)+1)=((k+1:Nat):Int):=by rw[wrap_i64 (by omega) (by omega)]; omega
   obtain⟨je,Y⟩:=k3 (i:=(k:Int)) (H.front 1) (by omega) (by simp; omega);refine aR je Y ?_;have step:∀ (n:Int),[x.b9,x.aD,x.cl,x.b][k]?=some n→(mW x).take (k+1+1)=(mW x).take (k+1)++[⟨2,0,n,0,[]⟩]:=by
    intro n aM;have dz:k+1<(mW x).length:=by simp[mW]; omega
    rw[List.take_succ_eq_append_getElem dz];congr 2
    match k,U with
    |0,_=>simp at aM; subst aM; rfl
    |1,_=>simp at aM; subst aM; rfl
    |2,_=>simp at aM; subst aM; rfl
    |3,_=>simp at aM; subst aM; rfl
   have F:[x.b9,x.aD,x.cl,x.b][((k:Int)).toNat]?=some ([x.b9,x.aD,x.cl,x.b][k]'(by simp; omega)):=List.getElem?_eq_getElem (by simp; omega);have aH:=step _ F;generalize [x.b9,x.aD,x.cl,x.b][k]'(by simp; omega)=n at F aH;refine aR n (my (fun _=>rfl) Y F (H.front 1)) ?_;refine nF p0 0 H rfl (by simp; omega) fun r w H=>?_;rw[aS];refine cg _ _ ⟨k+1,rfl,by omega,?_⟩ (by simp only; omega);simp only;rw[aH];exact H
  ·rename_i U;have U:k=4:=by simp at U; omega
   subst U;refine nF p0 0 H rfl (by simp; omega) fun r w H=>?_;have l:(mW x).take (4+1)++[⟨1,flag x.ir,0,0,[]⟩]=mW x:=rfl;rw[l] at H;have aW:=JZ F;refine ap (Lu aW.qk (by simp[mW]) (dr.row (fun _=>rfl) 0 rfl) H) ?_;rintro r w ⟨_,R,_,_⟩;have aF:y9 (mW x)=0:=by
    unfold y9;rw[if_neg (by simp[mW])];exact OE aW.ok
   have H:=R aF;exact ((H.front 2).drop.front 1).drop
 cases aF:x.ir with
 |true=>rw[if_pos rfl]; exact hj 1 w (by rw[aF]; rfl) H
 |false=>rw[if_neg (by simp)]; exact hj 0 w (by rw[aF]; rfl) H
def xP:dW:=⟨0,0,0,0,0,false⟩
def Yv(G:Option dW):dW×Bool:=match G with
 |some x=>(x,true)
 |none=>(xP,false)
theorem abC{k:Int}(H:E A m w):M Pg 113 [.int .i64 k] bo w fun r J=>r=decide (qp k)∧E A m J:=by
 refine agy ?_;unfold T2;refine⟨?_,H⟩;rw[Bool.eq_iff_iff,decide_eq_true_eq];unfold qp;simp
theorem amy{s:af}{aw:List UInt8}(ms:s.len≤s.cap)(aM:aw.length≤9223372036854775806)(k:dr 1 m (B .u8) s (aV aw))(H:E A m w) :
  M Pg 141 [X.enc s] (bB sQ bo) w fun r J=>r=Yv (u7 aw)∧E A m J:=by
 refine ag1 ?_;unfold MR;refine bR H fun ek w H=>?_;refine ap (afG ms aM k.tail H) ?_;rintro⟨q,p,l⟩ w ⟨_,he,H⟩;simp only at he H;subst he;have al:=gG H;have aKm:=E1 H;have H:=vP H;have arF:(j1 aw).2.2=0→nz (j1 aw).1:=fun h=>(afF h rfl).1;have rn:u7 aw=if (j1 aw).2.2=0 then HV (j1 aw).1 else none:=rfl
 generalize (j1 aw).2.2=l at *;generalize (j1 aw).1=o at *;have no:∀ (G:Option dW) (w:World),G=none→E A (ro gy q o::aJ ek (sQ.cells xP) 142::m) w→bi sQ ⟨ek,0,none⟩ xP w fun df=>ex (L sQ ⟨ek,0,none⟩ df) fun ep=>(ep,false)=Yv G∧E A m df:=by
  intro G w aj H;subst aj;refine de (x:=xP) (S:=xP) Ew 1 H rfl fun w H=>?_;refine ez (x:=xP) 0 H rfl ?_;exact⟨rfl,H.drop.drop⟩
 simp only;by_cases c:l=0∧o.length=6
 ·obtain⟨bx,bK⟩:=c;have aW:=arF bx;rw[if_pos bx] at rn
  match o,bK with
  |[a,e,c,d,f,g],_=>
   simp only[List.length_cons,List.length_nil] at al;have pm:ca (ro gy q [a,e,c,d,f,g]::aJ ek (sQ.cells xP) 142::m) (dd gy q [a,e,c,d,f,g]):=ca.here (o:=dd.mono);obtain⟨nE,ah⟩:=pm.iH (ar:=5) (i:=0) H (by omega) (by simp);obtain⟨b1,dz⟩:=pm.iH (ar:=5) (i:=5) H (by omega) (by simp);refine aR nE (fun _=>ah) ?_;refine aR a.Kind (fun _=>pm.nd (dg:=B .i64) p0 ah rfl rfl H) ?_;refine aR b1 (fun _=>dz) ?_;refine aR g.Kind (fun _=>pm.nd (dg:=B .i64) p0 dz rfl rfl H) ?_;refine aR nE (fun _=>ah) ?_;refine aR a.dg (fun _=>pm.nd (dg:=B .u64) p0 ah rfl rfl H) ?_;refine aR b1 (fun _=>dz) ?_;refine aR g.dg (fun _=>pm.nd (dg:=B .u64) p0 dz rfl rfl H) ?_;have rn:u7 aw=AJ a e c d f g:=rn;by_cases ck:a.Kind=1∧g.Kind=1∧a.dg≤6∧g.dg≤1
   ·rw[if_neg (by simp[bx,al,ck])];refine ot (by omega) (by omega) (by omega) (by omega) fun uD ZN=>?_;have fM:=pm.sub p0 ZN (by simp);have es:(([a,e,c,d,f,g]:List fu).take (5:Int).toNat).drop (1:Int).toNat=[e,c,d,f]:=rfl;rw[es] at fM;have Qi:uD.len=4:=(Iv ZN).1;have apr:∀ (k:Nat) (v:fu),[e,c,d,f][k]?=some v→v.Kind≠2→u7 aw=none:=by
     intro k v aL d_;rw[rn];unfold AJ;rw[if_neg];rintro⟨_,_,_,_,gS,gu,AD,R0,_⟩
     match k,aL with
     |0,aL=>simp at aL; subst aL; exact d_ gS
     |1,aL=>simp at aL; subst aL; exact d_ gu
     |2,aL=>simp at aL; subst aL; exact d_ AD
     |3,aL=>simp at aL; subst aL; exact d_ R0
     |k+4,aL=>simp at aL
    refine ia (fun t w=>∃ k:Nat,t=(k:Int)∧k≤4∧(∀ (D:Nat) (v:fu),D<k→[e,c,d,f][D]?=some v→v.Kind=2)∧E A (ro gy q [a,e,c,d,f,g]::aJ ek (sQ.cells xP) 142::m) w) (fun t=>(4-t).toNat) ⟨0,rfl,by omega,fun D v bT=>by omega,H⟩ ?_;clear H;rintro t w ⟨k,rfl,B0,uc,H⟩ ab cg;unfold MS;rw[Qi];split
    ·rename_i U;have U:k<4:=by
      have:(k:Int)<4:=by simpa using U
      omega
     have aS:IntKind.i64.wrap ((k:Int)+1)=((k+1:Nat):Int):=by rw[wrap_i64 (by omega) (by omega)]; omega
     obtain⟨pH,ZO⟩:=fM.iH (ar:=5) (i:=(k:Int)) H (by omega) (by simp; omega);have F:[e,c,d,f][((k:Int)).toNat]?=some ([e,c,d,f][k]'(by simp; omega)):=List.getElem?_eq_getElem (by simp; omega);generalize [e,c,d,f][k]'(by simp; omega)=v at F;refine aR pH ZO ?_;refine aR v (fM.rd p0 ZO F H) ?_;refine bR H fun aJ1 w H=>?_;refine de (x:=tN) (S:=v) abS 0 H rfl fun w H=>?_;refine ak (x:=v.Kind) 0 H rfl rfl rfl ?_;by_cases fv:v.Kind=2
     ·rw[if_neg (by simp[fv]),aS];refine cg _ _ ⟨k+1,rfl,by omega,fun D u bT hu=>?_,H.drop⟩ (by omega);by_cases jC:D=k
      ·subst jC;rw[Int.toNat_natCast] at F;rw[F] at hu;cases hu;exact fv
      ·exact uc D u (by omega) hu
     ·rw[if_pos (by simpa using fv)];rw[Int.toNat_natCast] at F;rw[apr k v F fv];exact no none w rfl H.drop
    ·rename_i U;have U:k=4:=by simp at U; omega
     subst U;refine aR nE ah ?_;refine aR a.dg (pm.nd (dg:=B .u64) p0 ah rfl rfl H) ?_;have aBa:=aW.qk a (by simp);have aaI:=aBa.IC;have wJ:IntKind.i64.wrap a.dg=a.dg:=wrap_i64 (by omega) (by omega);rw[wJ];refine ap (abC H) ?_;rintro r w ⟨rfl,H⟩;by_cases fv:qp a.dg
     ·rw[decide_eq_true fv,if_neg (by simp:¬ (!true)=true)];refine dy H fun w H=>?_;obtain⟨lY,I⟩:=pm.iH (ar:=5) (i:=1) H (by omega) (by simp);obtain⟨a1,R⟩:=pm.iH (ar:=5) (i:=2) H (by omega) (by simp);obtain⟨aA,aK⟩:=pm.iH (ar:=5) (i:=3) H (by omega) (by simp);obtain⟨a9,bp⟩:=pm.iH (ar:=5) (i:=4) H (by omega) (by simp);refine aR nE ah ?_;refine aR lY I ?_;refine aR a1 R ?_;refine aR aA aK ?_;refine aR a9 bp ?_;refine aR b1 dz ?_;refine aR a.dg (pm.nd (dg:=B .u64) p0 ah rfl rfl H) ?_;refine aR e.aZ (pm.nd (dg:=B .i64) p0 I rfl rfl H) ?_;refine aR c.aZ (pm.nd (dg:=B .i64) p0 R rfl rfl H) ?_;refine aR d.aZ (pm.nd (dg:=B .i64) p0 aK rfl rfl H) ?_;refine aR f.aZ (pm.nd (dg:=B .i64) p0 bp rfl rfl H) ?_;refine aR g.dg (pm.nd (dg:=B .u64) p0 dz rfl rfl H) ?_;rw[wJ];refine de (x:=xP) (S:=(⟨a.dg,e.aZ,c.aZ,d.aZ,f.aZ,g.dg==1⟩:dW)) Ew 1 H rfl fun w H=>?_
      refine ez (x:=(⟨a.dg,e.aZ,c.aZ,d.aZ,f.aZ,g.dg==1⟩:dW)) 0 H rfl ?_;refine⟨?_,H.drop.drop⟩;rw[rn];unfold AJ;rw[if_pos ⟨ck.1,ck.2.1,ck.2.2.1,ck.2.2.2,uc 0 e (by omega) rfl,uc 1 c (by omega) rfl,uc 2 d (by omega) rfl,uc 3 f (by omega) rfl,fv.1⟩];rfl
     ·rw[decide_eq_false fv,if_pos (by simp:(!false)=true)];refine no _ w ?_ H;rw[rn];unfold AJ;rw[if_neg];rintro⟨_,_,_,_,_,_,_,_,q⟩;exact fv ⟨q,ck.2.2.1⟩
   ·rw[if_pos (by
     simp only[Bool.or_eq_true,bne_iff_ne,decide_eq_true_eq];apply Classical.byContradiction;intro cK;refine ck ⟨?_,?_,?_,?_⟩
     ·exact Classical.byContradiction fun h=>cK (by simp[h])
     ·exact Classical.byContradiction fun h=>cK (by simp[h])
     ·exact Classical.byContradiction fun h=>cK (.inl (.inr (by omega)))
     ·exact Classical.byContradiction fun h=>cK (.inr (by omega)))]
    refine no _ w ?_ H;rw[rn];unfold AJ;rw[if_neg];rintro⟨gS,gu,AD,R0,_⟩;exact ck ⟨gS,gu,AD,R0⟩
 ·have O:((l != (0:Int))||((q.len:Int)!=(6:Int)))=true:=by
   rw[Bool.or_eq_true,bne_iff_ne,bne_iff_ne];by_cases h:l=0
   ·right;intro R;exact c ⟨h,by omega⟩
   ·exact .inl h
  have z:(⟨0,0,none⟩:Addr)=⟨0,0,none⟩:=rfl;refine aR ⟨0,0,none⟩ (fun h=>absurd h (by simp[O])) ?_;refine aR 0 (fun h=>absurd h (by simp[O])) ?_;refine aR ⟨0,0,none⟩ (fun h=>absurd h (by simp[O])) ?_;refine aR 0 (fun h=>absurd h (by simp[O])) ?_;refine aR ⟨0,0,none⟩ (fun h=>absurd h (by simp[O])) ?_;refine aR 0 (fun h=>absurd h (by simp[O])) ?_;refine aR ⟨0,0,none⟩ (fun h=>absurd h (by simp[O])) ?_;refine aR 0 (fun h=>absurd h (by simp[O])) ?_;rw[if_pos (by simp[O])];refine no _ w ?_ H;rw[rn];by_cases h:l=0
  ·rw[if_pos h];unfold HV;split
   ·exact absurd ⟨h,rfl⟩ c
   ·rfl
  ·rw[if_neg h]
end
end Shard
namespace Shard
open bj Wire Disk Store Vault Num
def oF(v:dl)(k t id:Int):dl×Int:=if k=3 then xZ v t id else if k=4 then x2 v id else if k=5 then q_ v t else EX v t
def m8(v:dl)(x:dW):dl×Int:=
 if x.Kind=1 then y6 v x.b9 x.cl x.b else if x.Kind=2 then Ad v x.b9 ⟨x.aD,x.cl,x.b,x.ir⟩ else oF v x.Kind x.b9 x.aD
theorem aop{v:dl}(aW:Fit v)(k t id:Int):Fit (oF v k t id).1:=by
 unfold oF;split
 ·exact aW.amg ..
 ·split
  ·exact aW.drop ..
  ·split
   ·exact aW.close ..
   ·exact aW.RY ..
theorem Zt{v:dl}(aW:Fit v){x:dW}(h:x.aD≤9223372036854775807):Fit (m8 v x).1:=by
 unfold m8;split
 ·exact aW.open ..
 ·split
  ·exact aW.hold h
  ·exact aop aW ..
structure q0 where
 V:nC
 v:dl
abbrev aj3:=Bk
def kN(s fr dC:Nat):bE:=aJ s (aj3.cells ⟨some ⟨fr,0,none⟩,some ⟨dC,0,none⟩⟩) 150
def It(s d:Nat)(W:q0):bE:=h8 fun p:Nat×Nat=>dH [kN s p.1 p.2,il p.1 d W.V,e6 p.2 W.v]
section
variable {A w:World} {m bX:List bE}
theorem aeZ{s d:Nat}{W:q0}(H:E A (It s d W::m) w):∃ fr dC:Nat,E A (kN s fr dC::il fr d W.V::e6 dC W.v::m) w:=by
 obtain⟨p,H⟩:=H.ex;exact⟨p.1,p.2,H.open_⟩
theorem ae0{s d fr dC:Nat}{W:q0}(H:E A (kN s fr dC::il fr d W.V::e6 dC W.v::m) w):E A (It s d W::m) w:=
 E.mU (fr,dC) (E.shut (bX:=[kN s fr dC,il fr d W.V,e6 dC W.v]) H)
theorem BA{s fr dC:Nat}{v:dl}{k:Int}(aW:Fit v)(H:E A (kN s fr dC::e6 dC v::m) w):M Pg 171 [.pointer (some ⟨s,0,none⟩),.int .i64 k] gw w fun r J=>
  ∃ aQ aV C:bE,E A (aQ::aV::C::kN s fr dC::e6 dC v::m) J∧∀ (cG:World) (t id:Int),E A (aQ::aV::C::kN s fr dC::e6 dC v::m) cG →
   sV Pg r [.int .i64 t,.int .i64 id] (B .i64) cG fun l bl=>l=(oF v k t id).2∧E A (kN s fr dC::e6 dC (oF v k t id).1::m) bl:=by
 refine ahq ?_;unfold UT;refine dy H fun w H=>?_;refine ch rfl ?_;refine ak (x:=some ⟨dC,0,none⟩) 0 H rfl rfl rfl ?_;refine ak (x:=some ⟨dC,0,none⟩) 0 H rfl rfl rfl ?_;refine ak (x:=some ⟨dC,0,none⟩) 0 H rfl rfl rfl ?_;generalize aoN:cw.mk (.func 217) (List.toArray [.pointer (some (⟨dC,0,none⟩:Addr))]) (List.toArray [])=zD;generalize aoP:cw.mk (.func 218) (List.toArray [.pointer (some (⟨dC,0,none⟩:Addr))]) (List.toArray [])=FS;generalize aoO:cw.mk (.func 219) (List.toArray [.pointer (some (⟨dC,0,none⟩:Addr))]) (List.toArray [])=zE;have fin:∀ (q6 aw q7:Nat) (w:World),E A (aJ q6 (gw.cells zD) 107::aJ aw (gw.cells FS) 143::aJ q7 (gw.cells zE) 143::kN s fr dC::e6 dC v::m) w →
   xC (some ⟨s,0,none⟩) k ⟨q6,0,none⟩ ⟨aw,0,none⟩ ⟨q7,0,none⟩ w fun r J=>∃ aQ aV C:bE,E A (aQ::aV::C::kN s fr dC::e6 dC v::m) J∧∀ (cG:World) (t id:Int),E A (aQ::aV::C::kN s fr dC::e6 dC v::m) cG →
   sV Pg r [.int .i64 t,.int .i64 id] (B .i64) cG fun l bl=>l=(oF v k t id).2∧E A (kN s fr dC::e6 dC (oF v k t id).1::m) bl:=by
  intro q6 aw q7 w H;unfold xC;by_cases ck:k=3
  ·rw[if_pos (by simpa using ck)];refine ch rfl ?_;refine ak (x:=some ⟨dC,0,none⟩) 3 H rfl rfl rfl ?_;refine⟨_,_,_,H,fun cG t id H=>?_⟩;refine⟨220,[.pointer (some ⟨dC,0,none⟩)],[],rfl,anr,?_⟩;have l:oF v k t id=xZ v t id:=by unfold oF; rw[if_pos ck]
   rw[l];refine ap (ami aW (H.front 4)) ?_;rintro r w ⟨rfl,H⟩;exact⟨rfl,(H.ord [1,2,3]).drop.drop.drop.front 1⟩
  ·rw[if_neg (by simpa using ck)];by_cases fv:k=4
   ·rw[if_pos (by simpa using fv)];refine⟨_,_,_,H,fun cG t id H=>?_⟩;refine⟨221,[],[.pointer (some ⟨q6,0,none⟩)],rfl,ans,?_⟩;have l:oF v k t id=x2 v id:=by unfold oF; rw[if_neg ck,if_pos fv]
    rw[l];refine ah3 ?_;unfold Vu;refine ez (x:=zD) 0 H rfl ?_;refine⟨217,[.pointer (some ⟨dC,0,none⟩)],[],aoN.symm,ano,?_⟩;refine ap (amJ (H.front 4)) ?_;rintro r w ⟨rfl,H⟩;exact⟨rfl,(H.ord [1,2,3]).drop.drop.drop.front 1⟩
   ·rw[if_neg (by simpa using fv)];by_cases jC:k=5
    ·rw[if_pos (by simpa using jC)];refine⟨_,_,_,H,fun cG t id H=>?_⟩;refine⟨222,[],[.pointer (some ⟨aw,0,none⟩)],rfl,ant,?_⟩;have l:oF v k t id=q_ v t:=by unfold oF; rw[if_neg ck,if_neg fv,if_pos jC]
     rw[l];refine ah4 ?_;unfold Vv;refine ez (x:=FS) 1 H rfl ?_;refine⟨218,[.pointer (some ⟨dC,0,none⟩)],[],aoP.symm,anp,?_⟩;refine ap (aIP (H.front 4)) ?_;rintro r w ⟨rfl,H⟩;exact⟨rfl,(H.ord [1,2,3]).drop.drop.drop.front 1⟩
    ·rw[if_neg (by simpa using jC)];refine⟨_,_,_,H,fun cG t id H=>?_⟩;refine⟨223,[],[.pointer (some ⟨q7,0,none⟩)],rfl,anu,?_⟩;have l:oF v k t id=EX v t:=by unfold oF; rw[if_neg ck,if_neg fv,if_neg jC]
     rw[l];refine ah5 ?_;unfold Vw;refine ez (x:=zE) 2 H rfl ?_;refine⟨219,[.pointer (some ⟨dC,0,none⟩)],[],aoO.symm,anq,?_⟩;refine ap (aIW aW (H.front 4)) ?_;rintro r w ⟨rfl,H⟩;exact⟨rfl,(H.ord [1,2,3]).drop.drop.drop.front 1⟩
 have pp:∀ x,(gw.cells x).length=1:=fun _=>rfl;refine⟨?_,?_,?_⟩
 ·refine bR H fun q6 w H=>?_;refine⟨?_,?_⟩
  ·refine bR H fun aw w H=>?_;refine bR H fun q7 w H=>?_;have H:=H.ord [2,1,0];refine de (x:=cw.nil) (S:=zD) pp 0 H rfl fun w H=>?_;refine⟨bO aE (H.front 3) rfl rfl,bO aE (H.front 3) rfl rfl,?_⟩;refine de (x:=cw.nil) (S:=FS) pp 1 H rfl fun w H=>?_;refine⟨bO aE (H.front 3) rfl rfl,?_⟩;refine de (x:=cw.nil) (S:=zE) pp 2 H rfl fun w H=>?_;exact fin q6 aw q7 w (H.ord [2,1,0])
  ·refine bR H fun q7 w H=>?_;refine bR H fun aw w H=>?_;have H:=H.ord [2,0,1];refine de (x:=cw.nil) (S:=zD) pp 0 H rfl fun w H=>?_;refine⟨bO aE (H.front 3) rfl rfl,bO aE (H.front 3) rfl rfl,?_⟩;refine de (x:=cw.nil) (S:=FS) pp 1 H rfl fun w H=>?_;refine⟨bO aE (H.front 3) rfl rfl,?_⟩;refine de (x:=cw.nil) (S:=zE) pp 2 H rfl fun w H=>?_;exact fin q6 aw q7 w (H.ord [2,1,0])
 ·refine bR H fun aw w H=>?_;refine⟨?_,?_⟩
  ·refine bR H fun q6 w H=>?_;refine bR H fun q7 w H=>?_;have H:=H.ord [1,2,0];refine de (x:=cw.nil) (S:=zD) pp 0 H rfl fun w H=>?_;refine⟨bO aE (H.front 3) rfl rfl,bO aE (H.front 3) rfl rfl,?_⟩;refine de (x:=cw.nil) (S:=FS) pp 1 H rfl fun w H=>?_;refine⟨bO aE (H.front 3) rfl rfl,?_⟩;refine de (x:=cw.nil) (S:=zE) pp 2 H rfl fun w H=>?_;exact fin q6 aw q7 w (H.ord [2,1,0])
  ·refine bR H fun q7 w H=>?_;refine bR H fun q6 w H=>?_;have H:=H.ord [0,2,1];refine de (x:=cw.nil) (S:=zD) pp 0 H rfl fun w H=>?_;refine⟨bO aE (H.front 3) rfl rfl,bO aE (H.front 3) rfl rfl,?_⟩;refine de (x:=cw.nil) (S:=FS) pp 1 H rfl fun w H=>?_;refine⟨bO aE (H.front 3) rfl rfl,?_⟩;refine de (x:=cw.nil) (S:=zE) pp 2 H rfl fun w H=>?_;exact fin q6 aw q7 w (H.ord [2,1,0])
 ·refine bR H fun q7 w H=>?_;refine⟨?_,?_⟩
  ·refine bR H fun q6 w H=>?_;refine bR H fun aw w H=>?_;have H:=H.ord [1,0,2];refine de (x:=cw.nil) (S:=zD) pp 0 H rfl fun w H=>?_;refine⟨bO aE (H.front 3) rfl rfl,bO aE (H.front 3) rfl rfl,?_⟩;refine de (x:=cw.nil) (S:=FS) pp 1 H rfl fun w H=>?_;refine⟨bO aE (H.front 3) rfl rfl,?_⟩;refine de (x:=cw.nil) (S:=zE) pp 2 H rfl fun w H=>?_;exact fin q6 aw q7 w (H.ord [2,1,0])
  ·refine bR H fun aw w H=>?_;refine bR H fun q6 w H=>?_;have H:=H.ord [0,1,2];refine de (x:=cw.nil) (S:=zD) pp 0 H rfl fun w H=>?_;refine⟨bO aE (H.front 3) rfl rfl,bO aE (H.front 3) rfl rfl,?_⟩;refine de (x:=cw.nil) (S:=FS) pp 1 H rfl fun w H=>?_;refine⟨bO aE (H.front 3) rfl rfl,?_⟩;refine de (x:=cw.nil) (S:=zE) pp 2 H rfl fun w H=>?_;exact fin q6 aw q7 w (H.ord [2,1,0])
theorem YH{s fr dC:Nat}{v:dl}{x:dW}(aW:Fit v)(H:E A (kN s fr dC::e6 dC v::m) w):M Pg 115 [.pointer (some ⟨s,0,none⟩),sQ.enc x] (B .i64) w fun r J=>r=(m8 v x).2∧E A (kN s fr dC::e6 dC (m8 v x).1::m) J:=by
 refine agA ?_;unfold T4 m8;refine bR H fun iS w H=>?_;refine ak (x:=x.Kind) 0 H rfl rfl rfl ?_;by_cases bx:x.Kind=1
 ·rw[if_pos (by simpa using bx),if_pos bx];refine dy H fun w H=>?_;refine ch rfl ?_;refine ak (x:=some ⟨dC,0,none⟩) 1 H rfl rfl rfl ?_;refine ak (x:=x.b9) 0 H rfl rfl rfl ?_;refine ak (x:=x.cl) 0 H rfl rfl rfl ?_;refine ak (x:=x.b) 0 H rfl rfl rfl ?_;refine ap (aIS aW (H.front 2)) ?_;rintro r w ⟨rfl,H⟩;exact⟨rfl,(H.front 1).drop.front 1⟩
 ·rw[if_neg (by simpa using bx),if_neg bx];by_cases bK:x.Kind=2
  ·rw[if_pos (by simpa using bK),if_pos bK];refine dy H fun w H=>?_;refine ch rfl ?_;refine ak (x:=some ⟨dC,0,none⟩) 1 H rfl rfl rfl ?_;refine ak (x:=x.b9) 0 H rfl rfl rfl ?_;refine ak (x:=x.aD) 0 H rfl rfl rfl ?_;refine ak (x:=x.cl) 0 H rfl rfl rfl ?_;refine ak (x:=x.b) 0 H rfl rfl rfl ?_;refine ak (x:=x.ir) 0 H rfl rfl rfl ?_;refine ap (aIQ (p:=⟨x.aD,x.cl,x.b,x.ir⟩) aW (H.front 2)) ?_;rintro r w ⟨rfl,H⟩;have H:=H.front 1;refine⟨bO (B .i64) H rfl rfl,bO (B .i64) H rfl rfl,bO (B .i64) H rfl rfl,bO bo H rfl rfl,?_⟩;exact⟨rfl,H.drop.front 1⟩
  ·rw[if_neg (by simpa using bK),if_neg bK];refine dy H fun w H=>?_;refine ak (x:=x.Kind) 0 H rfl rfl rfl ?_;refine ak (x:=x.b9) 0 H rfl rfl rfl ?_;refine ak (x:=x.aD) 0 H rfl rfl rfl ?_;refine ap (BA (k:=x.Kind) aW (H.ord [1,2])) ?_;rintro r w ⟨aQ,aV,C,H,U⟩;refine⟨bO (B .i64) (H.front 5) rfl rfl,bO (B .i64) (H.front 5) rfl rfl,?_⟩;refine OK (U w x.b9 x.aD H) ?_;rintro l w ⟨rfl,H⟩;have H:=H.front 2;refine⟨bO (B .i64) H rfl rfl,?_⟩;exact⟨rfl,H.drop⟩
def f_(K:c1)(W:q0)(x:dW):c1×q0×Int:=
 if qp x.Kind then
  if (gB K W.V (jq x)).2.2=0 then ((gB K W.V (jq x)).1,⟨(gB K W.V (jq x)).2.1,(m8 W.v x).1⟩,(m8 W.v x).2)
  else ((gB K W.V (jq x)).1,⟨(gB K W.V (jq x)).2.1,W.v⟩,(gB K W.V (jq x)).2.2)
 else (K,W,192)
theorem DS{s d fr dC:Nat}{K:c1}{W:q0}{x:dW}(dA:K.hP)(aW:Fit W.v)(F:nZ x)(H:E A (kN s fr dC::il fr d W.V::e6 dC W.v::eN d K::m) w) :
  M Pg 62 [.pointer (some ⟨s,0,none⟩),sQ.enc x] (B .i64) w fun r J=>r=(f_ K W x).2.2∧E A (kN s fr dC::il fr d (f_ K W x).2.1.V::e6 dC (f_ K W x).2.1.v::eN d (f_ K W x).1::m) J:=by
 refine ajd ?_;unfold Wz f_;refine bR H fun iS w H=>?_;refine ak (x:=x.Kind) 0 H rfl rfl rfl ?_;refine ap (abC H) ?_;rintro r w ⟨rfl,H⟩;by_cases c:qp x.Kind
 ·rw[decide_eq_true c,if_neg (by simp:¬ (!true)=true),if_pos c];refine dy H fun w H=>?_;refine ch rfl ?_;have H:=H.ord [1,2,3];refine ak (x:=some ⟨fr,0,none⟩) 0 H rfl rfl rfl ?_;refine ez (x:=x) 3 H rfl ?_;refine ap (aCL F H) ?_;intro r w H;refine⟨bO aE (H.front 1) rfl rfl,?_⟩;refine ap (Ou (x:=jq x) dA (by have:=amS F; omega) (dr.row (fun _=>rfl) 0 rfl) (H.ord [2,5])) ?_;rintro l w ⟨rfl,H⟩;have H:=(H.front 2).drop;generalize gB K W.V (jq x)=q at *;refine⟨bO sQ (H.front 4) rfl (tP _),?_⟩;by_cases bK:q.2.2=0
  ·rw[if_neg (by simp[bK]),if_pos bK];refine ez (x:=x) 4 H rfl ?_;refine ap (YH aW (H.ord [2,3])) ?_;rintro l w ⟨rfl,H⟩;exact⟨rfl,((H.ord [4,0,2,1]).drop)⟩
  ·rw[if_pos (by simpa using bK),if_neg bK];exact⟨rfl,((H.ord [4,2,0,3]).drop)⟩
 ·rw[decide_eq_false c,if_pos (by simp:(!false)=true),if_neg c];exact⟨rfl,H.drop⟩
theorem JL{s d:Nat}{K:c1}{W:q0}{x:dW}(dA:K.hP)(aW:Fit W.v)(F:nZ x)(H:E A (It s d W::eN d K::m) w) :
  M Pg 62 [.pointer (some ⟨s,0,none⟩),sQ.enc x] (B .i64) w fun r J=>r=(f_ K W x).2.2∧E A (It s d (f_ K W x).2.1::eN d (f_ K W x).1::m) J:=by
 obtain⟨fr,dC,H⟩:=aeZ H;refine ap (DS dA aW F H) ?_;rintro r w ⟨h,H⟩;exact⟨h,ae0 (W:=(f_ K W x).2.1) H⟩
theorem zm{s fr dC:Nat}(H:E A (kN s fr dC::m) w):M Pg 30 [.pointer (some ⟨s,0,none⟩)] aE w fun r J=>r=some ⟨dC,0,none⟩∧E A (kN s fr dC::m) J:=by
 refine aiF ?_;unfold V5;refine ch rfl ?_;refine ak (x:=some ⟨dC,0,none⟩) 0 H rfl rfl rfl ?_;exact⟨rfl,H⟩
def qw(v:dl)(xs:List dW):dl:=xs.foldl (fun v x=>(m8 v x).1) v
theorem ac3(v:dl)(xs:List dW)(x:dW):qw v (xs++[x])=(m8 (qw v xs) x).1:=by unfold qw; rw[List.foldl_append]; rfl
def uG(f:Nat):dl:=⟨f,⟨[],0,0⟩,0,[],[],[]⟩
theorem Zu{xs:List dW}:∀ {v:dl},Fit v→(∀ x∈xs,x.aD≤9223372036854775807)→Fit (qw v xs):=by
 induction xs with
 |nil=>exact fun aW _=>aW
 |cons x xs cq=>exact fun aW h=>cq (Zt aW (h x (List.mem_cons_self ..))) fun S aB=>h S (List.mem_cons_of_mem _ aB)
def sX:List (List UInt8)→Option (List dW)
 |[]=>some []
 |e::aw=>match u7 e with
  |none=>none
  |some x=>(sX aw).map (x::·)
theorem Yx:∀ {xs:List dW},(∀ x∈xs,nZ x∧qp x.Kind)→sX (xs.map jq)=some xs
 |[],_=>rfl
 |x::xs,h=>by
  have I:=h x (List.mem_cons_self ..);simp only[List.map_cons,sX,amx I.1 I.2,Yx fun S aB=>h S (List.mem_cons_of_mem _ aB),Option.map_some]
theorem OO:∀ {N:List (List UInt8)} {xs:List dW},sX N=some xs→xs.length=N.length
 |[],xs,h=>by simp[sX] at h; subst h; rfl
 |e::N,xs,h=>by
  simp only[sX] at h;split at h
  ·cases h
  ·obtain⟨gX,aB,rfl⟩:=Option.map_eq_some_iff.1 h;have:=OO aB;simp[this]
theorem Yw:∀ {N:List (List UInt8)} {xs:List dW} {k:Nat} {e:List UInt8} {x:dW},sX N=some xs→N[k]?=some e→xs[k]?=some x→u7 e=some x
 |[],_,_,_,_,_,ao,_=>by simp at ao
 |XQ::N,xs,k,e,x,h,ao,F=>by
  simp only[sX] at h;split at h
  ·cases h
  ·rename_i bH ah;obtain⟨gX,aB,rfl⟩:=Option.map_eq_some_iff.1 h;cases k with
   |zero=>simp at ao F; subst ao; subst F; exact ah
   |succ k=>exact Yw aB (by simpa using ao) (by simpa using F)
theorem aeT(aw:List UInt8):Small (scan aw).1:=by
 have key:∀ (f:Nat) (aw:List UInt8) (m:List (List UInt8)) (a:Nat),Small m→Small (qH f aw m a).1:=by
  intro f;induction f with
  |zero=>intro aw m a h; simpa[qH] using h
  |succ f cq=>
   intro aw m a h;simp only[qH];cases aj:nO aw with
   |error l=>simpa using h
   |ok p=>
    obtain⟨x,n⟩:=p;refine cq _ _ _ fun S aB=>?_;rcases List.mem_append.1 aB with aB | aB
    ·exact h S aB
    ·rw[List.mem_singleton.1 aB]; exact (Lq aj).2.2.2
 exact key _ _ _ _ fun S aB=>by cases aB
theorem RO{d f:Nat}{K:c1}{n:Int}{g:ed}{xs:List dW}(dA:K.hP)(aa:jL f)(ah:0≤n)(Ed:K.down=false)(O:K.c3[n.toNat]?=some g)(F:sX (scan g.e).1=some xs)(H:E A (eN d K::m) w) :
  M Pg 90 [.pointer (some ⟨d,0,none⟩),.int .i64 n,.float .f64 f] (bB aE (B .i64)) w fun r J=>((dq K n g).2=0→r.2=0∧∃ s:Nat,r.1=some ⟨s,0,none⟩∧E A (It s d ⟨⟨(scan g.e).1.length,(scan g.e).1.length,n,false⟩,qw (uG f) xs⟩::eN d (dq K n g).1::m) J) ∧
   ((dq K n g).2≠0→r=(none,(dq K n g).2)∧E A (eN d (dq K n g).1::m) J):=by
 have wP:f<18446744073709551616:=by rcases aa with h | h<;>omega
 refine ajH ?_;unfold W2;refine ap (LN wP H) ?_;rintro r w ⟨I,_,H⟩;have:=I.2 aa;subst this;rw[if_neg (by simp)];refine ap (acG dA ah Ed O H) ?_;rintro⟨p,q,l⟩ w ⟨he,aK,bp⟩;simp only at he aK bp;subst he;by_cases c:(dq K n g).2=0
 ·obtain⟨fr,eA,aF,H⟩:=aK c;subst aF;rw[if_neg (by simp[c])];refine ap (Vault.Rs wP H) ?_;rintro⟨Ay,bb⟩ w ⟨dz,_⟩;obtain⟨_,dC,aF,H⟩:=dz aa;simp only at aF;subst aF;refine bR H fun s w H=>?_;have PO:=aeR g.e;have Ku:=aeT g.e;have Eh:=dA.log g (List.mem_of_getElem? O);generalize (scan g.e).1=N at *;have Qf:eA.length=N.length:=by
   obtain⟨aZ,_,a_⟩:=(ca.pP (ca.tail (ca.tail (ca.tail (ca.tail (ca.tail (ca.here (o:=mH.mono)))))))) H;exact a_.1
  have wS:=gG (H.front 4);have rs:=OO F;have kY:∀ (k:Nat) (e:List UInt8) (x:dW),N[k]?=some e→xs[k]?=some x→u7 e=some x:=fun k e x=>Yw F;have agm:Fit (uG f):=Fit.new aa;refine ia (fun t w=>∃ k:Nat,t=(k:Int)∧k≤N.length∧E A (kN s fr dC::e6 dC (qw (uG f) (xs.take k))::il fr d ⟨N.length,N.length,n,false⟩::eN d (dq K n g).1::row X 189 1 q eA::ul eA N::m) w) (fun t=>(N.length-t).toNat) ⟨0,rfl,by omega,H⟩ ?_;clear H;rintro t w ⟨k,rfl,aq,H⟩ ab cg;unfold NX;simp only;rw[wS,Qf];split
  ·rename_i U;have U:k<N.length:=by
    have:(k:Int)<N.length:=by simpa using U
    omega
   have aS:IntKind.i64.wrap ((k:Int)+1)=((k+1:Nat):Int):=by rw[wrap_i64 (by omega) (by omega)]; omega
   obtain⟨gJ,ZM⟩:=k3 (i:=(k:Int)) (H.front 4) (by omega) (by omega);have ao:N[k]?=some N[k]:=List.getElem?_eq_getElem U;have Ai:xs[k]?=some (xs[k]'(by omega)):=List.getElem?_eq_getElem (by omega);have wR:eA[((k:Int)).toNat]?=some (eA[k]'(by omega)):=List.getElem?_eq_getElem (by omega);have iW:xs.take (k+1)=xs.take k++[xs[k]'(by omega)]:=List.take_succ_eq_append_getElem (by omega);have rn:=kY k _ _ ao Ai;have Hj:(N[k]).length≤65536:=Ku _ (List.getElem_mem _);have jG:∀ aZ,mH eA N aZ→(eA[k]'(by omega)).len≤(eA[k]'(by omega)).cap∧dd (B .u8) (eA[k]'(by omega)) (aV N[k]) aZ:=fun aZ a_=>a_.2 k _ _ (List.getElem?_eq_getElem (by omega)) ao;generalize N[k]=e at ao rn Hj jG;generalize xs[k]'(by omega)=x at Ai rn iW;generalize eA[k]'(by omega)=gS at wR jG;refine aR gJ ZM ?_;refine aR gS (my (fun _=>rfl) ZM wR (H.front 4)) ?_
   have uj:ca (kN s fr dC::e6 dC (qw (uG f) (xs.take k))::il fr d ⟨N.length,N.length,n,false⟩::eN d (dq K n g).1::row X 189 1 q eA::ul eA N::m) (mH eA N):=ca.tail (ca.tail (ca.tail (ca.tail (ca.tail (ca.here (o:=mH.mono))))));have ms:gS.len≤gS.cap:=by
    obtain⟨aZ,_,a_⟩:=uj.pP H;exact (jG aZ a_).1
   refine ap (amy ms (by omega) (dr.ro (fun _=>rfl) (uj.imp fun aZ a_=>(jG aZ a_).2)) H) ?_;rintro r w ⟨rfl,H⟩;rw[rn];have hW:=(Yu rn).1.i.2;refine bR H fun OB w H=>?_;refine de (x:=Dz) (S:=x) Ew 0 H rfl fun w H=>?_;show if (!true)=true then _ else _
   rw[if_neg (by simp)];refine ez (x:=x) 0 H rfl ?_;have ajQ:Fit (qw (uG f) (xs.take k)):=Zu agm fun S aB=>by
    have aB:=List.mem_of_mem_take aB;obtain⟨D,bT,rfl⟩:=List.getElem_of_mem aB;exact (Yu (kY D _ _ (List.getElem?_eq_getElem (by omega)) (List.getElem?_eq_getElem bT))).1.i.2
   refine ap (YH ajQ (H.ord [1,2])) ?_;rintro l w ⟨_,H⟩;rw[aS];rw[← ac3,← iW] at H;exact cg _ _ ⟨k+1,rfl,by omega,(H.front 2).drop⟩ (by omega)
  ·rename_i U;have U:k=N.length:=by
    have:¬ (k:Int)<N.length:=by simpa using U
    omega
   subst U;rw[← rs,List.take_length] at H;refine⟨fun _=>⟨by trivial,s,rfl,?_⟩,fun h=>absurd c h⟩;rw[rs] at H;have H:=ae0 (W:=⟨⟨N.length,N.length,n,false⟩,qw (uG f) xs⟩) (H.ord [0,2,1]);exact ((H.front 2).drop.front 2).drop
 ·obtain⟨aF,H⟩:=bp c;subst aF;rw[if_pos (by simpa using c)];exact⟨fun h=>absurd h c,fun _=>⟨rfl,H⟩⟩
end
def Re(xs:List dW):List UInt8:=cF (xs.map jq)
def xA(xs:List dW):Prop:=∀ x∈xs,nZ x∧qp x.Kind
theorem xA.snoc{xs:List dW}{x:dW}(h:xA xs)(F:nZ x)(aq:qp x.Kind):xA (xs++[x]):=by
 intro S aB;rcases List.mem_append.1 aB with aB | aB
 ·exact h S aB
 ·rw[List.mem_singleton.1 aB]; exact⟨F,aq⟩
theorem xA.take{xs:List dW}(h:xA xs)(k:Nat):xA (xs.take k):=fun S aB=>h S (List.mem_of_mem_take aB)
theorem xA.id{xs:List dW}(h:xA xs):∀ x∈xs,x.aD≤9223372036854775807:=fun x F=>(h x F).1.i.2
structure Jf(K:c1)(n:Nat)(xs:List dW)(k:Nat):Prop where
 ok:K.hP
 up:K.down=false
 log:K.c3[n]?=some ⟨Re xs,(Re (xs.take k)).length⟩
 all:xA xs
 le:k≤xs.length
 l1:xs.length≤600
def k1(K:c1)(n:Nat)(f:ed→ed):c1:={ K with et:=if 1<K.et then IntKind.i64.wrap (K.et-1) else K.et,lZ:=IntKind.i64.wrap (K.lZ+1),c3:=K.c3.modify n f }
theorem aDz{K:c1}{n o:Nat}{f:ed→ed}(h:o≠n):(k1 K n f).c3[o]?=K.c3[o]?:=by
 show (K.c3.modify n f)[o]?=_
 rw[List.getElem?_modify];cases K.c3[o]? with
 |none=>rfl
 |some g=>
  have:¬ n=o:=fun l=>h l.symm;simp[this]
theorem akp{K:c1}{n:Nat}{size:Int}{f:ed→ed}(aM:n<K.c3.length)(ag:K.down=false)(aH:size≤4194304)(Y:K.et≠1):km K n size f=(k1 K n f,0):=by
 unfold km;rw[if_neg (by omega),if_neg (by simp[ag]),if_neg (by omega),if_neg Y];rfl
theorem ako{K:c1}{n:Nat}{size:Int}{f:ed→ed}(aM:n<K.c3.length)(ag:K.down=false)(aH:size≤4194304)(Y:K.et=1):km K n size f=(hT K.bI K,71):=by
 unfold km;rw[if_neg (by omega),if_neg (by simp[ag]),if_neg (by omega),if_pos Y]
theorem Jf.lt{K:c1}{n k:Nat}{xs:List dW}(N:Jf K n xs k):n<K.c3.length:=(List.getElem?_eq_some_iff.1 N.log).1
theorem Jf.size{K:c1}{n k:Nat}{xs:List dW}(N:Jf K n xs k):Disk.sizeOf K n=(Re xs).length:=by
 unfold Disk.sizeOf;rw[if_pos (by omega),Int.toNat_natCast,N.log]
end Shard
namespace Cluster
open bj Wire Clock Shard
structure c5 where
 k:Int
 x:oE
 t:Int
structure o5(r:c5):Prop where
 k:1≤r.k∧r.k≤3
 i:-9223372036854775808≤r.x.aD∧r.x.aD≤9223372036854775807
 f:-9223372036854775808≤r.x.fR∧r.x.fR≤9223372036854775807
 G:-9223372036854775808≤r.x.fL∧r.x.fL≤9223372036854775807
 n:-9223372036854775808≤r.x.b∧r.x.b≤9223372036854775807
 t:-9223372036854775808≤r.t∧r.t≤9223372036854775807
def td(n:Int):fu:=⟨2,0,n,0,[]⟩
def mX(r:c5):List fu:=[td r.k,td r.x.aD,td r.x.fR,td r.x.fL,td r.x.b,td r.t]
def fV(r:c5):List UInt8:=h7 (mX r)
theorem Zs{r:c5}(h:o5 r):nz (mX r):=by
 have ah:=wL (u:=r.k) (by have:=h.k; omega) (by have:=h.k; omega);have I:=wL h.i.1 h.i.2;have R:=wL h.f.1 h.f.2;have aK:=wL h.G.1 h.G.2;have bp:=wL h.n.1 h.n.2;have dz:=wL h.t.1 h.t.2;have all:∀ v∈mX r,In v∧ka v=0:=by
  intro v aL;unfold mX td at aL;simp only[List.mem_cons,List.mem_nil_iff,or_false] at aL;rcases aL with rfl | rfl | rfl | rfl | rfl | rfl
  ·exact ah
  ·exact I
  ·exact R
  ·exact aK
  ·exact bp
  ·exact dz
 exact⟨fun v aL=>(all v aL).1,fun v aL=>(all v aL).2⟩
theorem afD{r:c5}(h:o5 r):j1 (fV r)=(mX r,0,0):=by
 unfold fV;rw[afE (Zs h) (by simp[mX])];have:(mX r).map n2=mX r:=by simp[mX,td,n2,zY]
 rw[this]
theorem wI{n:Int}(ah:-9223372036854775808≤n)(I:n≤9223372036854775807):(jh (td n)).length≤11:=by
 have:=Cs (MB ah I);simp[jh,td];omega
theorem YN{n:Int}(ah:0≤n)(I:n<18446744073709551616):(jh (⟨1,n,0,0,[]⟩:fu)).length≤11:=by
 have:=Cs (n:=n.toNat) (by omega);simp[jh];omega
theorem DX{r:c5}(h:o5 r):(fV r).length≤66:=by
 have ah:=wI (n:=r.k) (by have:=h.k; omega) (by have:=h.k; omega);have I:=wI h.i.1 h.i.2;have R:=wI h.f.1 h.f.2;have aK:=wI h.G.1 h.G.2;have bp:=wI h.n.1 h.n.2;have dz:=wI h.t.1 h.t.2;unfold fV h7 mX;simp only[List.flatMap_cons,List.flatMap_nil,List.length_append,List.length_nil];omega
theorem YO{x:dW}(h:nZ x):(jq x).length≤66:=by
 have ah:=YN (n:=IntKind.u64.wrap x.Kind) (by rw[lP]; omega) (by rw[lP]; omega);have I:=wI h.t.1 h.t.2;have R:=wI h.i.1 h.i.2;have aK:=wI h.a.1 h.a.2;have bp:=wI h.n.1 h.n.2;have dz:=YN (n:=flag x.ir) (by unfold flag; split<;>omega) (by unfold flag; split<;>omega);unfold td at I R aK bp;unfold jq h7 mW;simp only[List.flatMap_cons,List.flatMap_nil,List.length_append,List.length_nil];omega
section
variable {A w:World} {m bX:List bE}
theorem aez{k:Int}{x:oE}{t:Int}(h:o5 ⟨k,x,t⟩)(H:E A m w):M Pg 99 [.int .i64 k,gz.enc x,.int .i64 t] X w fun r J=>E A (row (B .u8) 5 1 r (aV (fV ⟨k,x,t⟩))::m) J:=by
 refine ajP ?_;unfold W9;refine bR H fun iT w H=>?_;refine ak (x:=x.aD) 0 H rfl rfl rfl ?_;refine ak (x:=x.fR) 0 H rfl rfl rfl ?_;refine ak (x:=x.fL) 0 H rfl rfl rfl ?_;refine ak (x:=x.b) 0 H rfl rfl rfl ?_;refine vA H fun XR w H=>?_;have H:=uB (ar:=1) (o:=6) rfl H;have H:=k4 gy 197 5 H;refine ia (fun s w=>∃ i:Nat,s.2=(i:Int)∧i≤6∧E A (row gy 197 5 s.1 ((mX ⟨k,x,t⟩).take i)::row (B .i64) 2 1 ⟨some ⟨XR,0,none⟩,6,6⟩ [k,x.aD,x.fR,x.fL,x.b,t]::m) w) (fun s=>(6-s.2).toNat) ⟨0,rfl,by omega,((H.front 2).drop)⟩ ?_;clear H;rintro⟨s,q⟩ w ⟨i,ay,aKq,H⟩ ab cg;simp only at ay H;subst ay;unfold N1;simp only;split
 ·rename_i U;have U:i<6:=by
   have:(i:Int)<6:=by simpa using U
   omega
  have aS:IntKind.i64.wrap ((i:Int)+1)=((i+1:Nat):Int):=by rw[wrap_i64 (by omega) (by omega)]; omega
  obtain⟨iR,Y⟩:=k3 (i:=(i:Int)) (H.front 1) (by omega) (by simp; omega);refine aR iR Y ?_;have step:∀ (n:Int),[k,x.aD,x.fR,x.fL,x.b,t][i]?=some n→(mX ⟨k,x,t⟩).take (i+1)=(mX ⟨k,x,t⟩).take i++[td n]:=by
   intro n aM;have dz:i<(mX ⟨k,x,t⟩).length:=by simp[mX]; omega
   rw[List.take_succ_eq_append_getElem dz];congr 2
   match i,U with
   |0,_=>simp at aM; subst aM; rfl
   |1,_=>simp at aM; subst aM; rfl
   |2,_=>simp at aM; subst aM; rfl
   |3,_=>simp at aM; subst aM; rfl
   |4,_=>simp at aM; subst aM; rfl
   |5,_=>simp at aM; subst aM; rfl
  have F:[k,x.aD,x.fR,x.fL,x.b,t][((i:Int)).toNat]?=some ([k,x.aD,x.fR,x.fL,x.b,t][i]'(by simp; omega)):=List.getElem?_eq_getElem (by simp; omega);have aH:=step _ F;generalize [k,x.aD,x.fR,x.fL,x.b,t][i]'(by simp; omega)=n at F aH;refine aR n (my (fun _=>rfl) Y F (H.front 1)) ?_;refine nF p0 0 H rfl (by simp; omega) fun r w H=>?_;rw[aS];refine cg _ _ ⟨i+1,rfl,by omega,?_⟩ (by simp only; omega);simp only;rw[aH];exact H
 ·rename_i U;have U:i=6:=by
   have:¬ (i:Int)<6:=by simpa using U
   omega
  subst U;have l:(mX ⟨k,x,t⟩).take 6=mX ⟨k,x,t⟩:=rfl;rw[l] at H;have aW:=Zs h;refine ap (Lu aW.qk (by simp[mX]) (dr.row (fun _=>rfl) 0 rfl) H) ?_;rintro r w ⟨_,R,_,_⟩;have aF:y9 (mX ⟨k,x,t⟩)=0:=by
   unfold y9;rw[if_neg (by simp[mX])];exact OE aW.ok
  have H:=R aF;exact ((H.front 2).drop.front 1).drop
end
end Cluster
namespace Cluster
open bj Wire Disk Vault Clock Shard
abbrev hZ:=iE
abbrev qh:=tH
abbrev mM:=ws
abbrev kk:=Bi
abbrev Dr:=uR
abbrev Dy:=o8
structure br where
 ax:hz
 cO:Int
 K:c1
 src:Int
 W:q0
 A:nC
 P:List (Int×bP)
 sure:Int→Bool
 out:List qh
structure kT where
 ax:Nat
 d:Nat
 src:Nat
 jb:Nat
 fr:Nat
 dC:Nat
 cN:Nat
 jY:Nat
 pv:Nat
 out:af
 Q:List (Int×Nat×bP)
 qJ:List (Int×Dy)
def oh(b:br)(q:kT):Dr:=⟨some ⟨q.ax,0,none⟩,b.cO,some ⟨q.d,0,none⟩,some ⟨q.src,0,none⟩,some ⟨q.jb,0,none⟩,some ⟨q.cN,0,none⟩,some q.jY,some q.pv,q.out⟩
def jj(t:Int×Nat×bP):Int×Option Addr:=(t.1,some ⟨t.2.1,0,none⟩)
def qy(t:Int×Nat×bP):Int×bP:=(t.1,t.2.2)
def mb(t:Int×Nat×bP):bE:=gR t.2.1 t.2.2
def Fits(b:br)(q:kT):Prop:=q.Q.map qy=b.P∧∀ x,(q.qJ.lookup x).isSome=b.sure x
def kr(a3:Nat)(b:br):bE:=h8 fun q:kT=>dH [lG (Fits b q),aJ a3 (kk.cells (oh b q)) 101,kn q.ax b.ax,eN q.d b.K,oX q.src b.src,kN q.jb q.fr q.dC,il q.fr q.d b.W.V,e6 q.dC b.W.v,il q.cN q.d b.A,dh aE .i64 q.jY (q.Q.map jj),dH (q.Q.map mb),dh fF .i64 q.pv q.qJ,row mM 161 8 q.out b.out]
section
variable {A w:World} {m bX:List bE}
theorem l_{a3:Nat}{b:br}(H:E A (kr a3 b::m) w):∃ q:kT,Fits b q∧E A (aJ a3 (kk.cells (oh b q)) 101::kn q.ax b.ax::eN q.d b.K::oX q.src b.src::kN q.jb q.fr q.dC::il q.fr q.d b.W.V::e6 q.dC b.W.v::il q.cN q.d b.A::dh aE .i64 q.jY (q.Q.map jj)::dH (q.Q.map mb)::dh fF .i64 q.pv q.qJ::row mM 161 8 q.out b.out::m) w:=by
 obtain⟨q,H⟩:=H.ex;obtain⟨h,H⟩:=E.vJ H.open_;exact⟨q,h,H⟩
theorem hq{a3:Nat}{b:br}{q:kT}(h:Fits b q)(H:E A (aJ a3 (kk.cells (oh b q)) 101::kn q.ax b.ax::eN q.d b.K::oX q.src b.src::kN q.jb q.fr q.dC::il q.fr q.d b.W.V::e6 q.dC b.W.v::il q.cN q.d b.A::dh aE .i64 q.jY (q.Q.map jj)::dH (q.Q.map mb)::dh fF .i64 q.pv q.qJ::row mM 161 8 q.out b.out::m) w):E A (kr a3 b::m) w:=
 E.mU q (E.shut (bX:=[lG _,_,_,_,_,_,_,_,_,_,_,_,_]) (E.v1 h H))
end
structure bF where
 eH:kU
 now:Int
 N:List br
 a2:Post.dN
 known:Int→Bool
 told:List bk
structure kz where
 nodes:af
 a2:Nat
 kZ:Nat
 told:af
 Q:List (Nat×br)
 rB:List (Int×Dy)
abbrev gY:=Bj
def iU(y:bF)(p:kz):rS:=⟨y.eH,y.now,p.nodes,some ⟨p.a2,0,none⟩,some p.kZ,p.told⟩
def hB(t:Nat×br):bE:=kr t.1 t.2
def k0(t:Nat×br):Option Addr:=some ⟨t.1,0,none⟩
def o4(y:bF)(p:kz):Prop:=p.Q.map Prod.snd=y.N∧∀ x,(p.rB.lookup x).isSome=y.known x
def cn(au:Nat)(y:bF):bE:=h8 fun p:kz=>dH [lG (o4 y p),aJ au (gY.cells (iU y p)) 114,row aE 89 1 p.nodes (p.Q.map k0),dH (p.Q.map hB),Post.h0 p.a2 y.a2,dh fF .i64 p.kZ p.rB,row kB 53 3 p.told y.told]
section
variable {A w:World} {m bX:List bE}
theorem al5{au:Nat}{y:bF}(H:E A (cn au y::m) w):∃ p:kz,o4 y p∧E A (aJ au (gY.cells (iU y p)) 114::row aE 89 1 p.nodes (p.Q.map k0)::dH (p.Q.map hB)::Post.h0 p.a2 y.a2::dh fF .i64 p.kZ p.rB::row kB 53 3 p.told y.told::m) w:=by
 obtain⟨p,H⟩:=H.ex;obtain⟨h,H⟩:=E.vJ H.open_;exact⟨p,h,H⟩
theorem fU{au:Nat}{y:bF}{p:kz}(h:o4 y p)(H:E A (aJ au (gY.cells (iU y p)) 114::row aE 89 1 p.nodes (p.Q.map k0)::dH (p.Q.map hB)::Post.h0 p.a2 y.a2::dh fF .i64 p.kZ p.rB::row kB 53 3 p.told y.told::m) w):E A (cn au y::m) w:=
 E.mU p (E.shut (bX:=[lG _,_,_,_,_,_,_]) (E.v1 h H))
theorem S9{id:Int}(h:-4000000000000000000≤id∧id≤4000000000000000000)(H:E A m w):M Pg 78 [.int .i64 id] (B .i64) w fun r J=>r=Int.tdiv (id+1) 2∧E A m J:=by
 refine aju ?_;unfold WR;rw[wrap_i64 (x:=id+1) (by omega) (by omega)];refine⟨wrap_i64 ?_ ?_,H⟩
 ·rcases Int.le_total 0 (id+1) with c | c
  ·rw[Int.tdiv_eq_ediv_of_nonneg c]; omega
  ·have:Int.tdiv (id+1) 2=-(Int.tdiv (-(id+1)) 2):=by rw[Int.neg_tdiv]; omega
   rw[this,Int.tdiv_eq_ediv_of_nonneg (by omega)]; omega
 ·rcases Int.le_total 0 (id+1) with c | c
  ·rw[Int.tdiv_eq_ediv_of_nonneg c]; omega
  ·have:Int.tdiv (id+1) 2=-(Int.tdiv (-(id+1)) 2):=by rw[Int.neg_tdiv]; omega
   rw[this,Int.tdiv_eq_ediv_of_nonneg (by omega)]; omega
def rM(id:Int)(b7:Bool)(t:Int):hZ:=⟨2,⟨id,0,0,false⟩,b7,t⟩
theorem afW{id t:Int}{b7:Bool}(H:E A m w):M Pg 79 [.int .i64 id,.bool b7,.int .i64 t] eW w fun r J=>r=rM id b7 t∧E A m J:=by
 refine ajv ?_;unfold WS;refine bR H fun iT w H=>?_;refine de (x:=uU) (S:=rM id b7 t) KT 0 H rfl fun w H=>?_;refine ez (x:=rM id b7 t) 0 H rfl ?_;exact⟨rfl,H.drop⟩
theorem aeP{a3:Nat}{x:Dr}{out:List qh}{ij:Int}{o:hZ}(aj:out.length≤1000000000000)(H:E A (aJ a3 (kk.cells x) 101::row mM 161 8 x.out out::m) w) :
  M Pg 77 [.pointer (some ⟨a3,0,none⟩),.int .i64 ij,eW.enc o] eh w fun _ J=>∃ q:af,E A (aJ a3 (kk.cells { x with out:=q }) 101::row mM 161 8 q (out++[⟨ij,o⟩])::m) J:=by
 refine ajt ?_;unfold WQ;refine bR H fun iT w H=>?_;refine dy H fun w H=>?_;refine ch rfl ?_;refine ak (x:=x.out) 1 H rfl rfl rfl ?_;refine ez (x:=o) 0 H rfl ?_;refine nF (fun _=>rfl) 2 H rfl (by simp; omega) fun r w H=>?_;refine⟨bO eW (H.front 1) rfl (tP _),?_⟩;refine dK (x:=r) 2 H rfl rfl (Nat.le_of_ble_eq_true rfl) fun w H=>?_;exact⟨r,(H.front 2).drop⟩
end
def gL(ax:hz)(rd src:Int)(iu:List Int):hz×Int×Int×Int:=
 if (fj ax rd).2.2≠0 then ((fj ax rd).1,src,0,(fj ax rd).2.2) else ((fj ax rd).1,Au src (fj ax rd).2.1 iu)
section
variable {A w:World} {m bX:List bE}
theorem SV{a3 c s:Nat}{x:Dr}{ax:hz}{src:Int}{q:af}{iu:List Int}(k:jl ax)(F:x.clock=some ⟨c,0,none⟩)(aH:x.source=some ⟨s,0,none⟩)(aa:-9000000000000000000≤x.cO∧x.cO≤9000000000000000000)
  (hm:iu.length≤9000000000000000000) (uh:dr 1 m (B .i64) q iu) (H:E A (aJ a3 (kk.cells x) 101::kn c ax::oX s src::m) w) :
  M Pg 96 [.pointer (some ⟨a3,0,none⟩),X.enc q] (bB (B .i64) (B .i64)) w fun r J=>r=(gL ax x.cO src iu).2.2 ∧
   E A (aJ a3 (kk.cells x) 101::kn c (gL ax x.cO src iu).1::oX s (gL ax x.cO src iu).2.1::m) J:=by
 refine ajM ?_;unfold W6;refine dy H fun w H=>?_;refine ch rfl ?_;refine ak (x:=x.clock) 0 H rfl rfl rfl ?_;refine ak (x:=x.cO) 0 H rfl rfl rfl ?_;rw[F];have fin:∀ (e:Nat) (w:World),E A (aJ e (pF.cells (fj ax x.cO).2.1) 137::kn c (fj ax x.cO).1::aJ a3 (kk.cells x) 101::oX s src::m) w →
   F5 (some ⟨a3,0,none⟩) q ⟨e,0,none⟩ (fj ax x.cO).2.2 w fun r J=>r=(gL ax x.cO src iu).2.2∧E A (aJ a3 (kk.cells x) 101::kn c (gL ax x.cO src iu).1::oX s (gL ax x.cO src iu).2.1::m) J:=by
  intro e w H;unfold F5 gL;by_cases l:(fj ax x.cO).2.2=0
  ·rw[if_neg (by simp[l]),if_neg (fun h=>h l)];refine dy H fun w H=>?_;refine ch rfl ?_;refine ak (x:=x.source) 2 H rfl rfl rfl ?_;refine ez (x:=(fj ax x.cO).2.1) 0 H rfl ?_;rw[aH];refine ap (HR hm (uh.mo [_,_,_]) (H.front 3)) ?_;rintro r w ⟨rfl,H⟩;exact⟨rfl,((H.front 1).drop.ord [2,1,0])⟩
  ·rw[if_pos (by simpa using l),if_pos l];exact⟨rfl,H.drop.ord [1,0,2]⟩
 refine⟨?_,?_⟩
 ·refine ap (HT k aa (H.front 1)) ?_;rintro r w ⟨rfl,H⟩;refine bR H fun e w H=>?_;refine de (x:=jR) (S:=(fj ax x.cO).2.1) po 0 H rfl fun w H=>?_;exact fin e w H
 ·refine bR H fun e w H=>?_;refine ap (HT k aa (H.front 2)) ?_;rintro r w ⟨rfl,H⟩;refine de (x:=jR) (S:=(fj ax x.cO).2.1) po 1 H rfl fun w H=>?_;exact fin e w (H.ord [0,1])
theorem DT{d:Nat}{K:c1}(H:E A (eN d K::m) w):M Pg 66 [.pointer (some ⟨d,0,none⟩)] bo w fun r J=>r=K.down∧E A (eN d K::m) J:=by
 refine ajh ?_;unfold WD;refine ch rfl ?_;obtain⟨q,P,bG,fA,H⟩:=x3 H;refine ak (x:=K.down) 0 H rfl rfl rfl ?_;exact⟨rfl,rc fA H⟩
theorem BA{au:Nat}{y:bF}{p:kz}{i:Int}(aF:p.Q.length≤1000)(H:E A (aJ au (gY.cells (iU y p)) 114::row aE 89 1 p.nodes (p.Q.map k0)::dH (p.Q.map hB)::m) w) :
  M Pg 29 [.pointer (some ⟨au,0,none⟩),.int .i64 i] (bB aE (B .i64)) w fun r J=>
   (match (if i < 0 then none else p.Q[i.toNat]?) with
    |none=>r=(none,202)
    |some t=>if t.2.K.down then r=(none,203) else r=(some ⟨t.1,0,none⟩,0)) ∧
   E A (aJ au (gY.cells (iU y p)) 114::row aE 89 1 p.nodes (p.Q.map k0)::dH (p.Q.map hB)::m) J:=by
 refine V4 ?_;unfold Nv;have aM:=gG (H.front 1);rw[List.length_map] at aM;refine aR ⟨au,0,none⟩ (fun _=>rfl) ?_;refine aR p.nodes (fun _=>bO X H rfl rfl) ?_;by_cases c:i<0∨(p.Q.length:Int)≤i
 ·rw[if_pos (by simp only[Bool.or_eq_true,decide_eq_true_eq]; omega)];have l:(if i<0 then none else p.Q[i.toNat]?)=none:=by
   by_cases ah:i<0
   ·rw[if_pos ah]
   ·rw[if_neg ah,List.getElem?_eq_none (by omega)]
  rw[l];exact⟨rfl,H⟩
 ·rw[if_neg (by simp only[Bool.or_eq_true,decide_eq_true_eq]; omega)];have F:p.Q[i.toNat]?=some (p.Q[i.toNat]'(by omega)):=List.getElem?_eq_getElem (by omega);generalize p.Q[i.toNat]'(by omega)=t at F;have l:(if i<0 then none else p.Q[i.toNat]?)=some t:=by rw[if_neg (by omega),F]
  rw[l];have Hw:(p.Q.map k0)[i.toNat]?=some (k0 t):=by rw[List.getElem?_map,F]; rfl
  refine ch rfl ?_;refine ak (x:=p.nodes) 0 H rfl rfl rfl ?_;obtain⟨a,Y⟩:=k3 (i:=i) (H.front 1) (by omega) (by rw[List.length_map]; omega);refine aR a Y ?_;refine aR (k0 t) (my (fun _=>rfl) Y Hw (H.front 1)) ?_;refine ch rfl ?_;obtain⟨fo,fx,en,aKs⟩:=CT F;have hn:E A (hB t::dH ((fo++fx).map hB)::aJ au (gY.cells (iU y p)) 114::row aE 89 1 p.nodes (p.Q.map k0)::m) w:=by
   have H:=H.front 2;rw[show dH (p.Q.map hB)=dH ((fo++t::fx).map hB) from by rw[← en]] at H;exact BB H
  obtain⟨q,am,hn⟩:=l_ hn;refine ak (x:=some ⟨q.d,0,none⟩) 0 hn rfl rfl rfl ?_;refine ap (DT (hn.front 2)) ?_;rintro r w ⟨rfl,hn⟩;have hn:=hq am (hn.ord [1,2,0]);have hn:E A (hB t::dH ((fo++fx).map hB)::aJ au (gY.cells (iU y p)) 114::row aE 89 1 p.nodes (p.Q.map k0)::m) w:=hn;have H:=wE (f:=hB) hn;rw[← en] at H;have H:=H.ord [1,2,0];by_cases q9:t.2.K.down=true
  ·rw[if_pos q9];simp only[q9,if_true];exact⟨by trivial,H⟩
  ·rw[if_neg q9];simp only[q9];refine ak (x:=p.nodes) 0 H rfl rfl rfl ?_;refine aR a Y ?_;refine aR (k0 t) (my (fun _=>rfl) Y Hw (H.front 1)) ?_;exact⟨rfl,H⟩
end
end Cluster
namespace Shard
open bj Wire Disk Store Vault Num
theorem L2{Z:Type}{T:bz Z}{ar:Nat}{m:List bE}:dr ar m T fN []:=fun A bX w H=>⟨rfl,⟨rfl,rfl⟩,fun i ah I=>absurd I (by simp only[List.length_nil]; omega)⟩
theorem OR{A w:World}:∀ (n:Nat) {m:List bE},E A m w→E A (m.drop n) w
 |0,_,H=>H
 |_+1,[],H=>H
 |n+1,_::_,H=>OR n H.drop
theorem PS{v:dl}(aW:Fit v):(gE v).length≤5000:=by
 unfold gE;rw[List.length_map,(show (oW (v.held.map (·.1))).Perm (v.held.map (·.1)) from List.mergeSort_perm _ _).length_eq,List.length_map];exact aac aW
end Shard
namespace Cluster
open bj Wire Disk Vault Clock Shard
@[reducible] def e9(a3:Nat)(b:br)(q:kT)(m:List bE):List bE:=aJ a3 (kk.cells (oh b q)) 101::kn q.ax b.ax::eN q.d b.K::oX q.src b.src::kN q.jb q.fr q.dC::il q.fr q.d b.W.V::e6 q.dC b.W.v::il q.cN q.d b.A::dh aE .i64 q.jY (q.Q.map jj)::dH (q.Q.map mb)::dh fF .i64 q.pv q.qJ::row mM 161 8 q.out b.out::m
def nV(b:br)(ij:Int)(o:hZ):br:={ b with out:=b.out++[⟨ij,o⟩] }
structure Jg(b:br):Prop where
 ax:jl b.ax
 rd:-9000000000000000000≤b.cO∧b.cO≤9000000000000000000
 K:b.K.hP
 v:Fit b.W.v
 src:-9223372036854775808≤b.src∧b.src≤1125899906842624
theorem AK{ax:hz}{rd src:Int}{N:List Int}(h:src≤1125899906842624):(gL ax rd src N).2.1≤1125899906842624∧((gL ax rd src N).2.2.2=0→1≤(gL ax rd src N).2.2.1∧(gL ax rd src N).2.2.1≤1125899906842624):=by
 unfold gL;by_cases c:(fj ax rd).2.2≠0
 ·rw[if_pos c];exact⟨h,fun l=>absurd l c⟩
 ·rw[if_neg c];unfold Au;by_cases bx:¬ nG (fj ax rd).2.1
  ·rw[if_pos bx];exact⟨h,fun l=>by cases l⟩
  ·rw[if_neg bx];have bx:=Classical.not_not.1 bx;have I:=bx.2.1.1;have R:=foldl_max N (max src (fj ax rd).2.1.jO);split
   ·exact⟨h,fun l=>by cases l⟩
   ·refine⟨?_,fun _=>⟨?_,?_⟩⟩<;>simp only<;>omega
def vn(b:br)(from_:Int)(p:Part)(t:Int)(z:c1×q0×Int):br:=
 if z.2.2=0 then nV { b with K:=z.1,W:=z.2.1 } from_ (rM p.aD true t)
 else if 150≤z.2.2∧z.2.2≤165 then nV { b with K:=z.1,W:=z.2.1 } from_ (rM p.aD false 0)
 else { b with K:=z.1,W:=z.2.1 }
def yz(b:br)(from_:Int)(p:Part)(s:hz×Int×Int×Int):br:=
 if s.2.2.2≠0 then { b with ax:=s.1,src:=s.2.1 } else vn { b with ax:=s.1,src:=s.2.1 } from_ p s.2.2.1 (f_ b.K b.W ⟨2,s.2.2.1,p.aD,p.cl,p.b,p.ir⟩)
def rr(b:br)(from_:Int)(p:Part):br:=
 if (fw b.W.v p.aD).im=1 then nV b from_ (rM p.aD true (fw b.W.v p.aD).g5)
 else if (fw b.W.v p.aD).im=3 then nV b from_ (rM p.aD false 0)
 else if (fw b.W.v p.aD).im=0 then yz b from_ p (gL b.ax b.cO b.src []) else b
section
variable {A w:World} {m bX:List bE}
theorem Lc{a3:Nat}{b:br}{q:kT}{ij:Int}{o:hZ}(am:Fits b q)(aj:b.out.length≤1000000000000)(H:E A (e9 a3 b q m) w):M Pg 77 [.pointer (some ⟨a3,0,none⟩),.int .i64 ij,eW.enc o] eh w fun _ J=>E A (kr a3 (nV b ij o)::m) J:=by
 refine ap (aeP (x:=oh b q) aj (H.ord [0,11])) ?_;rintro r w ⟨G,H⟩;exact hq (b:=nV b ij o) (q:={ q with out:=G }) am (H.ord [0,2,3,4,5,6,7,8,9,10,11,1])
theorem ara{a3:Nat}{b:br}{from_:Int}{p:Part}(a5:Jg b)(aj:b.out.length≤1000000000000)(ay:nZ ⟨2,0,p.aD,p.cl,p.b,p.ir⟩)(H:E A (kr a3 b::m) w) :
  M Pg 83 [.pointer (some ⟨a3,0,none⟩),.int .i64 from_,hd.enc p] eh w fun _ J=>E A (kr a3 (rr b from_ p)::m) J:=by
 refine ajA ?_;unfold WW;refine bR H fun iT w H=>?_;refine dy H fun w H=>?_;obtain⟨q,am,H⟩:=l_ (H.front 1);refine ch rfl ?_;refine ak (x:=some ⟨q.jb,0,none⟩) 0 H rfl rfl rfl ?_;refine ak (x:=p.aD) 12 H rfl rfl rfl ?_;refine ap (zm (H.front 4)) ?_;rintro r w ⟨rfl,H⟩;refine⟨bO (B .i64) (H.front 12) rfl rfl,?_⟩;refine ap (u_ (H.front 6)) ?_;rintro r w ⟨rfl,H⟩;refine⟨bO aE (H.front 2) rfl rfl,?_⟩;have H:E A (aJ iT (hd.cells p) 60::e9 a3 b q m) w:=H.ord [12,2,3,4,5,1,6,0];have b8:∀ (b7:Bool) (t:Int) (cR:br) (gK:kT) (w:World),Fits cR gK→cR.out.length≤1000000000000→E A (aJ iT (hd.cells p) 60::e9 a3 cR gK m) w →
   ex (L (B .i64) (Addr.add ⟨iT,0,none⟩ 0) w) fun bL=>M Pg 79 [.int .i64 bL,.bool b7,.int .i64 t] eW w fun ea db=>
    M Pg 77 [.pointer (some ⟨a3,0,none⟩),.int .i64 from_,eW.enc ea] eh db fun mR ev=>E A (kr a3 (nV cR from_ (rM p.aD b7 t))::m) ev:=by
  intro b7 t cR gK w am aj H;refine ak (x:=p.aD) 0 H rfl rfl rfl ?_;refine ap (afW H) ?_;rintro r w ⟨rfl,H⟩;exact Lc am aj H.drop
 simp only;by_cases bx:(fw b.W.v p.aD).im=1
 ·have u9:rr b from_ p=nV b from_ (rM p.aD true (fw b.W.v p.aD).g5):=by unfold rr; rw[if_pos bx]
  rw[if_pos (by simpa using bx),u9];exact b8 true _ b q w am aj H
 ·rw[if_neg (by simpa using bx)];by_cases ck:(fw b.W.v p.aD).im=3
  ·have u9:rr b from_ p=nV b from_ (rM p.aD false 0):=by unfold rr; rw[if_neg bx,if_pos ck]
   rw[if_pos (by simpa using ck),u9];exact b8 false 0 b q w am aj H
  ·rw[if_neg (by simpa using ck)];by_cases cb:(fw b.W.v p.aD).im=0
   ·rw[if_pos (by simpa using cb)];have u9:rr b from_ p=yz b from_ p (gL b.ax b.cO b.src []):=by unfold rr; rw[if_neg bx,if_neg ck,if_pos cb]
    rw[u9];have lD:=SV (a3:=a3) (c:=q.ax) (s:=q.src) (x:=oh b q) (ax:=b.ax) (src:=b.src) (q:=fN) (iu:=[]) a5.ax rfl rfl a5.rd (by simp) L2 (H.ord [1,2,4]);refine ap lD ?_;clear lD;rintro r w ⟨rfl,H⟩;have l5:=AK (ax:=b.ax) (rd:=b.cO) (N:=[]) a5.src.2;show if _ then _ else _
    have es:(gL b.ax (oh b q).cO b.src [])=gL b.ax b.cO b.src []:=rfl;rw[es] at H ⊢;generalize gL b.ax b.cO b.src []=bi at *;obtain⟨hv,j0,t,l⟩:=bi;simp only at H l5 ⊢;by_cases ce:l=0
    ·subst ce;rw[if_neg (by simp)];have aT:=l5.2 rfl;refine dy H fun w H=>?_;refine ak (x:=some ⟨q.jb,0,none⟩) 0 H rfl rfl rfl ?_;refine ak (x:=p.aD) 3 H rfl rfl rfl ?_;refine ak (x:=p.cl) 3 H rfl rfl rfl ?_;refine ak (x:=p.b) 3 H rfl rfl rfl ?_;refine ak (x:=p.ir) 3 H rfl rfl rfl ?_;have F:nZ ⟨2,t,p.aD,p.cl,p.b,p.ir⟩:=⟨ay.k,by simp only; omega,ay.i,ay.a,ay.n⟩
     refine ap (DS (W:=b.W) a5.K a5.v F (H.ord [5,6,7,4])) ?_;rintro r w ⟨rfl,H⟩;refine⟨bO (B .i64) (H.front 7) rfl rfl,bO (B .i64) (H.front 7) rfl rfl,bO (B .i64) (H.front 7) rfl rfl,bO bo (H.front 7) rfl rfl,?_⟩;have YK:yz b from_ p (hv,j0,t,0)=vn { b with ax:=hv,src:=j0 } from_ p t (f_ b.K b.W ⟨2,t,p.aD,p.cl,p.b,p.ir⟩):=by unfold yz; rw[if_neg (by simp)]
     rw[YK];clear YK;generalize f_ b.K b.W ⟨2,t,p.aD,p.cl,p.b,p.ir⟩=z at *;obtain⟨er,jm,l⟩:=z;simp only at H ⊢;have H:=H.ord [7,4,5,3,6,0,1,2];by_cases cz:l=0
     ·have dn:vn { b with ax:=hv,src:=j0 } from_ p t (er,jm,l)=nV { b with ax:=hv,src:=j0,K:=er,W:=jm } from_ (rM p.aD true t):=by unfold vn; rw[if_pos cz]
      rw[if_pos (by simpa using cz),dn];exact b8 true t { b with ax:=hv,src:=j0,K:=er,W:=jm } q w am aj H
     ·rw[if_neg (by simpa using cz)];by_cases cr:150≤l∧l≤165
      ·have dn:vn { b with ax:=hv,src:=j0 } from_ p t (er,jm,l)=nV { b with ax:=hv,src:=j0,K:=er,W:=jm } from_ (rM p.aD false 0):=by unfold vn; rw[if_neg cz,if_pos cr]
       rw[if_pos (by simpa using cr),dn];exact b8 false 0 { b with ax:=hv,src:=j0,K:=er,W:=jm } q w am aj H
      ·have dn:vn { b with ax:=hv,src:=j0 } from_ p t (er,jm,l)={ b with ax:=hv,src:=j0,K:=er,W:=jm }:=by unfold vn; rw[if_neg cz,if_neg cr]
       rw[if_neg (by simpa using cr),dn];exact hq (b:={ b with ax:=hv,src:=j0,K:=er,W:=jm }) (q:=q) am H.drop
    ·have dn:yz b from_ p (hv,j0,t,l)={ b with ax:=hv,src:=j0 }:=by unfold yz; rw[if_pos ce]
     rw[if_pos (by simpa using ce),dn];exact hq (b:={ b with ax:=hv,src:=j0 }) (q:=q) am (H.ord [3,0,1,4,2]).drop
   ·have u9:rr b from_ p=b:=by unfold rr; rw[if_neg bx,if_neg ck,if_neg cb]
    rw[if_neg (by simpa using cb),u9];exact hq (q:=q) am H.drop
end
def By(id:Int):hZ:=⟨4,⟨id,0,0,false⟩,false,0⟩
def ra(o:hZ):dW:=if o.j5 then ⟨3,o.b9,o.Part.aD,0,0,false⟩ else ⟨4,0,o.Part.aD,0,0,false⟩
def BF(b:br)(o:hZ):Bool:=if o.j5 then ((fw b.W.v o.Part.aD).im==2)&&((fw b.W.v o.Part.aD).g5==o.b9) else (fw b.W.v o.Part.aD).im==3
def iw(b:br)(from_:Int)(o:hZ)(z:c1×q0×Int):br:=
 if z.2.2≠0 then { b with K:=z.1,W:=z.2.1 } else nV { b with K:=z.1,W:=z.2.1,src:=if o.j5 then (oO b.src o.b9).1 else b.src } from_ (By o.Part.aD)
def tW(b:br)(from_:Int)(o:hZ):br:=if BF b o then nV b from_ (By o.Part.aD) else iw b from_ o (f_ b.K b.W (ra o))
section
variable {A w:World} {m bX:List bE}
theorem amv{a3:Nat}{b:br}{from_:Int}{o:hZ}(a5:Jg b)(aj:b.out.length≤1000000000000)(ay:nZ (ra o))(H:E A (kr a3 b::m) w) :
  M Pg 85 [.pointer (some ⟨a3,0,none⟩),.int .i64 from_,eW.enc o] eh w fun _ J=>E A (kr a3 (tW b from_ o)::m) J:=by
 refine ajC ?_;unfold NU;refine bR H fun iT w H=>?_;obtain⟨q,am,H⟩:=l_ (H.front 1);refine ak (x:=o.Part.aD) 12 H rfl rfl rfl ?_;refine ch rfl ?_;refine ak (x:=some ⟨q.jb,0,none⟩) 0 H rfl rfl rfl ?_;refine ap (zm (H.front 4)) ?_;rintro r w ⟨rfl,H⟩;refine ap (u_ (H.front 6)) ?_;rintro r w ⟨rfl,H⟩;have H:E A (aJ iT (eW.cells o) 62::e9 a3 b q m) w:=H.ord [12,2,3,4,5,1,6,0];refine bR H fun Jv w H=>?_;refine de (x:=Dz) (S:=(⟨4,0,o.Part.aD,0,0,false⟩:dW)) Ew 0 H rfl fun w H=>?_;refine ak (x:=o.j5) 1 H rfl rfl rfl ?_;have Al:∀ (cR:br) (gK:kT) (w:World),Fits cR gK→cR.out.length≤1000000000000→E A (e9 a3 cR gK m) w →
   Df (some ⟨a3,0,none⟩) from_ o.Part.aD w fun _ J=>E A (kr a3 (nV cR from_ (By o.Part.aD))::m) J:=by
  intro cR gK w am aj H;unfold Df;exact Lc am aj H
 have hj:∀ (w:World),E A (aJ Jv (sQ.cells (ra o)) 142::aJ iT (eW.cells o) 62::e9 a3 b q m) w →
   Dd (some ⟨a3,0,none⟩) from_ ⟨iT,0,none⟩ o.Part.aD ⟨a3,0,none⟩ ⟨Jv,0,none⟩ (BF b o) w fun _ J=>E A (kr a3 (tW b from_ o)::m) J:=by
  intro w H;unfold Dd;refine dy H fun w H=>?_;cases ag:BF b o with
  |true=>
   rw[if_neg (by simp)];have u9:tW b from_ o=nV b from_ (By o.Part.aD):=by unfold tW; rw[if_pos ag]
   unfold De;rw[if_neg (by simp),u9];refine aR o.j5 (fun _=>bO bo (H.front 1) rfl rfl) ?_;rw[if_neg (by simp)];exact Al b q w am aj H.drop.drop
  |false=>
   rw[if_pos (by simp)];have u9:tW b from_ o=iw b from_ o (f_ b.K b.W (ra o)):=by unfold tW; rw[if_neg (by simp[ag])]
   rw[u9];refine ak (x:=some ⟨q.jb,0,none⟩) 2 H rfl rfl rfl ?_;refine ez (x:=ra o) 0 H rfl ?_;refine ap (DS (W:=b.W) a5.K a5.v ay (H.ord [6,7,8,4])) ?_;rintro r w ⟨rfl,H⟩;generalize f_ b.K b.W (ra o)=z at *;obtain⟨er,jm,l⟩:=z;simp only at H ⊢;have H:E A (aJ iT (eW.cells o) 62::e9 a3 { b with K:=er,W:=jm } q m) w:=(H.ord [4,5,6,7,3,8,0,1,2]).drop;unfold De;by_cases ce:l=0
   ·rw[if_neg (by simp[ce])];refine aR o.j5 (fun _=>bO bo H rfl rfl) ?_;have dn:iw b from_ o (er,jm,l)=nV { b with K:=er,W:=jm,src:=if o.j5 then (oO b.src o.b9).1 else b.src } from_ (By o.Part.aD):=by unfold iw; rw[if_neg (by simp[ce])]
    rw[dn];cases aB:o.j5 with
    |true=>
     rw[if_pos (by simp)];refine dy H fun w H=>?_;refine ak (x:=some ⟨q.src,0,none⟩) 1 H rfl rfl rfl ?_;refine ak (x:=o.b9) 0 H rfl rfl rfl ?_;refine ap (KM (H.front 4)) ?_;rintro r w ⟨_,H⟩;exact Al { b with K:=er,W:=jm,src:=(oO b.src o.b9).1 } q w am aj (H.ord [1,2,3,4,0]).drop
    |false=>
     rw[if_neg (by simp)];exact Al { b with K:=er,W:=jm } q w am aj H.drop
   ·rw[if_pos (by simpa using ce)];have dn:iw b from_ o (er,jm,l)={ b with K:=er,W:=jm }:=by unfold iw; rw[if_pos ce]
    rw[dn];exact hq (b:={ b with K:=er,W:=jm }) (q:=q) am H.drop
 cases aB:o.j5 with
 |true=>
  rw[if_pos rfl];refine ak (x:=o.b9) 1 H rfl rfl rfl ?_;refine de (x:=(⟨4,0,o.Part.aD,0,0,false⟩:dW)) (S:=(⟨3,o.b9,o.Part.aD,0,0,false⟩:dW)) Ew 0 H rfl fun w H=>?_;refine aR o.b9 (fun _=>bO (B .i64) (H.front 1) rfl rfl) ?_;have aS:ra o=⟨3,o.b9,o.Part.aD,0,0,false⟩:=by unfold ra; rw[if_pos aB]
  have bb:BF b o=(((fw b.W.v o.Part.aD).im==2)&&((fw b.W.v o.Part.aD).g5==o.b9)):=by unfold BF; rw[if_pos aB]
  rw[← aS] at H;have:=hj w H;rw[bb] at this;exact this
 |false=>
  rw[if_neg (by simp)];have aS:ra o=⟨4,0,o.Part.aD,0,0,false⟩:=by unfold ra; rw[if_neg (by simp[aB])]
  have bb:BF b o=((fw b.W.v o.Part.aD).im==3):=by unfold BF; rw[if_neg (by simp[aB])]
  rw[← aS] at H;have:=hj w H;rw[bb] at this;exact this
end
abbrev Dq:=rS
def DI(n:Nat)(p:bP)(dS:Bool):qh:=
 ⟨Int.tmod (ln p dS).cl n,if p.b8≠0 then ⟨3,⟨(ln p dS).aD,0,0,false⟩,p.b8==2,p.at_⟩ else ⟨1,ln p dS,false,0⟩⟩
def j6(n:Nat)(p:bP):List qh:=(nL p).map (DI n p)
theorem Gm(n:Nat)(p:bP):(j6 n p).length≤2:=by
 unfold j6 nL;rw[List.length_map,List.length_append];split<;>split<;>simp
section
variable {A w:World} {m bX:List bE}
theorem EJ{au:Nat}{c:Dq}{k:Int}(aM:0<c.nodes.len)(H:E A (aJ au (gY.cells c) 114::m) w) :
  M Pg 54 [.pointer (some ⟨au,0,none⟩),.int .i64 k] (B .i64) w fun r J=>r=Int.tmod k c.nodes.len∧E A (aJ au (gY.cells c) 114::m) J:=by
 refine ai5 ?_;unfold Wt;refine ch rfl ?_;refine ak (x:=c.nodes) 0 H rfl rfl rfl ?_;refine aR _ ⟨by omega,rfl⟩ ?_;exact⟨rfl,H⟩
theorem Oy{au a3 dT:Nat}{c:Dq}{x:Dr}{p:bP}{out:List qh}(aM:0<c.nodes.len)(hW:0≤p.x.aD∧p.x.aD≤1000000000000)(aj:out.length≤900000000000)
  (H:E A (aJ au (gY.cells c) 114::gR dT p::aJ a3 (kk.cells x) 101::row mM 161 8 x.out out::m) w) :
  M Pg 76 [.pointer (some ⟨au,0,none⟩),.pointer (some ⟨a3,0,none⟩),.pointer (some ⟨dT,0,none⟩)] eh w fun _ J=>∃ q:af,
   E A (aJ au (gY.cells c) 114::gR dT p::aJ a3 (kk.cells { x with out:=q }) 101::row mM 161 8 q (out++j6 c.nodes.len p)::m) J:=by
 refine ajs ?_;unfold WP;refine ap (Cx (H.front 1)) ?_;rintro r w ⟨rfl,H⟩;refine ap (aFd H) ?_;intro bU w H;have al:=gG H;have s8:(nL p).length≤2:=by
  have:=Gm 1 p;unfold j6 at this;rwa [List.length_map] at this
 refine ia (fun t w=>∃ (i:Nat) (q:af),t=(i:Int)∧i≤(nL p).length∧E A (row bo 4 1 bU (nL p)::gR dT p::aJ au (gY.cells c) 114::aJ a3 (kk.cells { x with out:=q }) 101::row mM 161 8 q (out++(j6 c.nodes.len p).take i)::m) w) (fun t=>(3-t).toNat) ⟨0,x.out,rfl,by omega,by rw[List.take_zero,List.append_nil]; exact H⟩ ?_;clear H;rintro t w ⟨i,q,rfl,ay,H⟩ ab cg;unfold NR;rw[al];split
 ·rename_i U;have U:i<(nL p).length:=by
   have:(i:Int)<(nL p).length:=by simpa using U
   omega
  have aS:IntKind.i64.wrap ((i:Int)+1)=((i+1:Nat):Int):=by rw[wrap_i64 (by omega) (by omega)]; omega
  obtain⟨a,Y⟩:=k3 (i:=(i:Int)) H (by omega) (by omega);have F:(nL p)[((i:Int)).toNat]?=some ((nL p)[i]'U):=by rw[Int.toNat_natCast]; exact List.getElem?_eq_getElem U
  have iW:(j6 c.nodes.len p).take (i+1)=(j6 c.nodes.len p).take i++[DI c.nodes.len p ((nL p)[i]'U)]:=by
   rw[List.take_succ_eq_append_getElem (by unfold j6; rw[List.length_map]; exact U)];congr 2;unfold j6;rw[List.getElem_map]
  generalize (nL p)[i]'U=dS at F iW;refine aR a Y ?_;refine aR dS (my (fun _=>rfl) Y F H) ?_;refine ap (aFh hW (H.front 1)) ?_;rintro r w ⟨rfl,H⟩;refine bR H fun XS w H=>?_;refine de (x:=zO) (S:=ln p dS) KS 0 H rfl fun w H=>?_;refine ez (x:=ln p dS) 0 H rfl ?_;refine bR H fun OB w H=>?_;refine de (x:=uU) (S:=(⟨1,ln p dS,false,0⟩:hZ)) KT 0 H rfl fun w H=>?_;have vt:∀ (o:hZ) (w:World),DI c.nodes.len p dS=⟨Int.tmod (ln p dS).cl c.nodes.len,o⟩→E A (aJ OB (eW.cells o) 62::aJ XS (hd.cells (ln p dS)) 60::gR dT p::row bo 4 1 bU (nL p)::aJ au (gY.cells c) 114::aJ a3 (kk.cells { x with out:=q }) 101::row mM 161 8 q (out++(j6 c.nodes.len p).take i)::m) w →
    FX (some ⟨au,0,none⟩) (some ⟨a3,0,none⟩) (i:Int) ⟨XS,0,none⟩ ⟨OB,0,none⟩ w ab fun _ J=>∃ q:af,
     E A (aJ au (gY.cells c) 114::gR dT p::aJ a3 (kk.cells { x with out:=q }) 101::row mM 161 8 q (out++j6 c.nodes.len p)::m) J:=by
   intro o w hm H;unfold FX;refine dy H fun w H=>?_;refine ak (x:=(ln p dS).cl) 1 H rfl rfl rfl ?_;refine ez (x:=o) 0 H rfl ?_;refine ap (EJ aM (H.front 4)) ?_;rintro r w ⟨rfl,H⟩;refine⟨bO eW (H.front 1) rfl (tP _),?_⟩;have B4:(out++(j6 c.nodes.len p).take i).length≤1000000000000:=by
    have:=Gm c.nodes.len p;rw[List.length_append,List.length_take]; omega
   refine ap (aeP (x:={ x with out:=q }) B4 (H.ord [5,6])) ?_;rintro r w ⟨gu,H⟩;refine⟨bO (B .i64) (H.front 4) rfl rfl,?_⟩;rw[aS];refine cg _ _ ⟨i+1,gu,rfl,by omega,?_⟩ (by first | omega | (simp only; omega));rw[iW,← List.append_assoc,hm];exact (H.ord [3,4,6,5,2,0,1]).drop.drop
  by_cases bx:p.b8=0
  ·rw[if_neg (by simp[bx])];exact vt _ w (by unfold DI; rw[if_neg (fun h=>h bx)]) H
  ·rw[if_pos (by simpa using bx)];refine ak (x:=(ln p dS).aD) 1 H rfl rfl rfl ?_;refine de (x:=(⟨1,ln p dS,false,0⟩:hZ)) (S:=(⟨3,⟨(ln p dS).aD,0,0,false⟩,p.b8==2,p.at_⟩:hZ)) KT 0 H rfl fun w H=>?_;exact vt _ w (by unfold DI; rw[if_pos bx]) H
 ·rename_i U;have U:i=(nL p).length:=by
   have:¬ (i:Int)<(nL p).length:=by simpa using U
   omega
  subst U;have l:(j6 c.nodes.len p).take (nL p).length=j6 c.nodes.len p:=List.take_of_length_le (by unfold j6; rw[List.length_map]; omega);rw[l] at H;exact⟨q,(H.drop).front 1⟩
end
def kH(p:bP)(k t:Int):bP:=if k=2 then (pb p t).1 else (pK p).1
theorem Ys(p:bP)(k t:Int):(kH p k t).x=p.x:=by
 unfold kH pb pK
 repeat' split
 all_goals rfl
section
variable {A w:World} {m bX:List bE}
theorem amt{au a3 dT cN d:Nat}{c:Dq}{x:Dr}{p:bP}{out:List qh}{K:c1}{V:nC}{k t:Int}(aM:0<c.nodes.len)(hW:0≤p.x.aD∧p.x.aD≤1000000000000)(aj:out.length≤900000000000)(F:x.log=some ⟨cN,0,none⟩)(dA:K.hP)(jE:o5 ⟨k,p.x,t⟩)
  (H:E A (aJ au (gY.cells c) 114::gR dT p::aJ a3 (kk.cells x) 101::row mM 161 8 x.out out::il cN d V::eN d K::m) w) :
  M Pg 106 [.pointer (some ⟨au,0,none⟩),.pointer (some ⟨a3,0,none⟩),.pointer (some ⟨dT,0,none⟩),.int .i64 k,.int .i64 t] (B .i64) w fun r J=>r=(gB K V (fV ⟨k,p.x,t⟩)).2.2∧∃ q:af,
   E A (aJ au (gY.cells c) 114::gR dT (if (gB K V (fV ⟨k,p.x,t⟩)).2.2=0 then kH p k t else p)::aJ a3 (kk.cells { x with out:=q }) 101::row mM 161 8 q (if (gB K V (fV ⟨k,p.x,t⟩)).2.2=0 then out++j6 c.nodes.len (kH p k t) else out)::il cN d (gB K V (fV ⟨k,p.x,t⟩)).2.1::eN d (gB K V (fV ⟨k,p.x,t⟩)).1::m) J:=by
 refine agt ?_;unfold TX;refine dy H fun w H=>?_;refine ch rfl ?_;refine aR (some ⟨cN,0,none⟩) (by rw[← F]; exact bO aE (H.front 2) rfl rfl) ?_;refine ap (aFn (H.front 1)) ?_;rintro r w ⟨rfl,H⟩;refine⟨by rw[← F]; exact bO aE (H.front 2) rfl rfl,?_⟩;refine ap (aez jE H) ?_;intro r w H;refine⟨by rw[← F]; exact bO aE (H.front 3) rfl rfl,?_⟩;have hi:=DX jE;refine ap (Ou (x:=fV ⟨k,p.x,t⟩) dA (by omega) (dr.row (fun _=>rfl) 0 rfl) (H.ord [5,6])) ?_;rintro l w ⟨rfl,H⟩;generalize gB K V (fV ⟨k,p.x,t⟩)=z at *;have H:E A (aJ au (gY.cells c) 114::gR dT p::aJ a3 (kk.cells x) 101::row mM 161 8 x.out out::il cN d z.2.1::eN d z.1::m) w:=(H.ord [2,4,3,5,6,0,1]).drop;by_cases cz:z.2.2=0
 ·rw[if_neg (by simp[cz])];simp only[cz,if_true];have hj:∀ (w:World),E A (gR dT (kH p k t)::aJ au (gY.cells c) 114::aJ a3 (kk.cells x) 101::row mM 161 8 x.out out::il cN d z.2.1::eN d z.1::m) w →
    Fo (some ⟨au,0,none⟩) (some ⟨a3,0,none⟩) (some ⟨dT,0,none⟩) w fun r J=>r=0∧∃ q:af,E A (aJ au (gY.cells c) 114::gR dT (kH p k t)::aJ a3 (kk.cells { x with out:=q }) 101::row mM 161 8 q (out++j6 c.nodes.len (kH p k t))::il cN d z.2.1::eN d z.1::m) J:=by
   intro w H;unfold Fo;refine ap (Oy aM (by rw[Ys]; exact hW) aj (H.front 1)) ?_;rintro r w ⟨q,H⟩;exact⟨rfl,q,H⟩
  by_cases ax:k=2
  ·rw[if_pos (by simpa using ax)];refine ap (acU (H.front 1)) ?_;rintro r w ⟨_,H⟩;refine hj w ?_;have l:kH p k t=(pb p t).1:=by unfold kH; rw[if_pos ax]
   rw[l];exact H
  ·rw[if_neg (by simpa using ax)];refine ap (acQ (H.front 1)) ?_;rintro r w ⟨_,H⟩;refine hj w ?_;have l:kH p k t=(pK p).1:=by unfold kH; rw[if_neg ax]
   rw[l];exact H
 ·rw[if_pos (by simpa using cz)];simp only[cz,if_false];exact⟨by trivial,x.out,H⟩
end
def jc(P:List (Int×bP))(id:Int)(p:bP):List (Int×bP):=P.map fun t=>if t.1=id then (t.1,p) else t
theorem vx:∀ {Q:List (Int×Nat×bP)} {id:Int} {p:bP},(Q.map qy).lookup id=some p→∃ fo fx dT,Q=fo++(id,dT,p)::fx∧(Q.map jj).lookup id=some (some (⟨dT,0,none⟩:Addr))
 |[],_,_,h=>by cases h
 |t::Q,id,p,h=>by
  obtain⟨k,e,v⟩:=t;simp only[List.map_cons,qy,jj,List.lookup] at h ⊢;by_cases c:(id==k)=true
  ·rw[c] at h ⊢;simp only[Option.some.injEq] at h;have c:=eq_of_beq c;subst c; subst h;exact⟨[],Q,e,rfl,rfl⟩
  ·have c:(id==k)=false:=by simpa using c
   rw[c] at h ⊢;obtain⟨fo,fx,dT,I,R⟩:=vx h;exact⟨(k,e,v)::fo,fx,dT,by rw[I]; rfl,R⟩
theorem Ci:∀ {Q:List (Int×Nat×bP)} {id:Int},(Q.map qy).lookup id=none→(Q.map jj).lookup id=none
 |[],_,_=>rfl
 |t::Q,id,h=>by
  obtain⟨k,e,v⟩:=t;simp only[List.map_cons,qy,jj,List.lookup] at h ⊢;by_cases c:(id==k)=true
  ·rw[c] at h;cases h
  ·have c:(id==k)=false:=by simpa using c
   rw[c] at h ⊢;exact Ci h
theorem S_:∀ {Q:List (Int×Nat×bP)} {id:Int} {p:bP},(∀ t∈Q,t.1≠id)→jc (Q.map qy) id p=Q.map qy
 |[],_,_,_=>rfl
 |t::Q,id,p,h=>by
  have I:=h t (List.mem_cons_self ..);have R:=S_ (p:=p) fun x F=>h x (List.mem_cons_of_mem t F);unfold jc at R ⊢;rw[List.map_cons,List.map_cons,R,if_neg (by exact I)]
theorem aIK{fo fx:List (Int×Nat×bP)}{id:Int}{dT:Nat}{p ic:bP}(h:(((fo++(id,dT,p)::fx).map jj).map (·.1)).Nodup) :
  jc ((fo++(id,dT,p)::fx).map qy) id ic=(fo++(id,dT,ic)::fx).map qy∧(fo++(id,dT,p)::fx).map jj=(fo++(id,dT,ic)::fx).map jj:=by
 have aq:(((fo++(id,dT,p)::fx).map jj).map (·.1))=fo.map (·.1)++id::fx.map (·.1):=by
  simp[List.map_map,Function.comp_def,jj]
 rw[aq,List.nodup_append] at h;obtain⟨_,R,aK⟩:=h;have R:=(List.nodup_cons.1 R).1;have bD:∀ t∈fo,t.1≠id:=fun t aT l=>aK t.1 (List.mem_map.2 ⟨t,aT,rfl⟩) id (List.mem_cons_self ..) l;have e4:∀ t∈fx,t.1≠id:=fun t aT l=>R (List.mem_map.2 ⟨t,aT,l⟩);refine⟨?_,by simp[jj]⟩;have v2:=S_ (p:=ic) bD;have tu:=S_ (p:=ic) e4;unfold jc at v2 tu ⊢;rw[List.map_append,List.map_cons,List.map_append,List.map_cons,v2,tu,List.map_append,List.map_cons];rw[if_pos (by rfl)];rfl
@[reducible] def AL(a3:Nat)(b:br)(q:kT)(dT:Nat)(p:bP)(fo fx:List (Int×Nat×bP))(m:List bE):List bE:=gR dT p::aJ a3 (kk.cells (oh b q)) 101::kn q.ax b.ax::eN q.d b.K::oX q.src b.src::kN q.jb q.fr q.dC::il q.fr q.d b.W.V::e6 q.dC b.W.v::il q.cN q.d b.A::dh aE .i64 q.jY (q.Q.map jj)::dH ((fo++fx).map mb)::dh fF .i64 q.pv q.qJ::row mM 161 8 q.out b.out::m
def sM(P:List (Int×bP)):Prop:=∀ id p,P.lookup id=some p→p.x.aD=id∧jN p.x=0
def gU(id:Int):Int:=Int.tdiv (id+1) 2
def n8(n:Nat)(b:br)(id:Int)(p:bP)(k t:Int):br×Int:=
 let z:=gB b.K b.A (fV ⟨k,p.x,t⟩)
 if z.2.2=0 then ({ b with K:=z.1,A:=z.2.1,P:=jc b.P id (kH p k t),out:=b.out++j6 n (kH p k t) },0) else ({ b with K:=z.1,A:=z.2.1,P:=jc b.P id p },z.2.2)
def zo(n:Nat)(b:br)(id:Int)(p:bP)(s:hz×Int×Int×Int):br:=
 if s.2.2.2=0 then (n8 n { b with ax:=s.1,src:=s.2.1 } id p 2 s.2.2.1).1 else { b with ax:=s.1,src:=s.2.1,P:=jc b.P id p }
def v4(n:Nat)(b:br)(id:Int)(p:bP):br:=
 if p.b8=3 then (n8 n b id p 3 0).1
 else if (ol p).2=true then zo n b id p (gL b.ax b.cO b.src [(ol p).1]) else { b with P:=jc b.P id p }
def zn(n:Nat)(b:br)(from_:Int)(o:hZ)(id:Int)(p:bP):br:=
 if p.b8≠0 then nV b from_ ⟨3,⟨o.Part.aD,0,0,false⟩,p.b8==2,p.at_⟩
 else if (hl p (Int.tmod o.Part.aD 2==1) o.j5 o.b9).2≠0 then { b with P:=jc b.P id (hl p (Int.tmod o.Part.aD 2==1) o.j5 o.b9).1 }
 else v4 n b id (hl p (Int.tmod o.Part.aD 2==1) o.j5 o.b9).1
def v5(n:Nat)(b:br)(from_:Int)(o:hZ):br:=match b.P.lookup (gU o.Part.aD) with
 |none=>b
 |some p=>zn n b from_ o (gU o.Part.aD) p
theorem Mj(p:bP)(a e:Bool)(t:Int):(hl p a e t).1.x=p.x:=by
 unfold hl bP.hN
 repeat' split
 all_goals rfl
theorem AP{x:oE}(h:jN x=0):(1≤x.aD∧x.aD≤1000000)∧(0≤x.fR∧x.fR<4096)∧(0≤x.fL∧x.fL<4096)∧x.fR≠x.fL∧1≤x.b∧x.b≤1000000000000000:=by
 unfold jN vs at h;split at h
 ·cases h
 ·split at h
  ·cases h
  ·split at h
   ·cases h
   ·split at h
    ·cases h
    ·rename_i I R aK bp;have R:=Classical.not_not.1 R;refine⟨⟨by omega,by omega⟩,R.1,R.2,aK,by omega,by omega⟩
theorem Es{k t:Int}{x:oE}(aq:1≤k∧k≤3)(F:jN x=0)(aT:0≤t∧t≤1125899906842624):o5 ⟨k,x,t⟩:=by
 obtain⟨I,R,aK,_,bp,dz⟩:=AP F;refine⟨aq,?_,?_,?_,?_,?_⟩<;>constructor<;>simp only<;>omega
section
variable {A w:World} {m bX:List bE}
theorem Az{a3:Nat}{b:br}{q:kT}{id:Int}{p:bP}(am:Fits b q)(h:b.P.lookup id=some p)(H:E A (e9 a3 b q m) w) :
  ∃ dT fo fx,(q.Q.map jj).lookup id=some (some (⟨dT,0,none⟩:Addr))∧q.Q=fo++(id,dT,p)::fx∧E A (AL a3 b q dT p fo fx m) w:=by
 rw[← am.1] at h;obtain⟨fo,fx,dT,en,al⟩:=vx h;refine⟨dT,fo,fx,al,en,?_⟩;have H:E A (dH (q.Q.map mb)::_) w:=H.front 9;rw[show dH (q.Q.map mb)=dH ((fo++(id,dT,p)::fx).map mb) from by rw[← en]] at H;exact (BB H).ord [0,2,3,4,5,6,7,8,9,10,1]
theorem Cy{a3:Nat}{b:br}{q:kT}{id:Int}{dT:Nat}{p ic:bP}{fo fx:List (Int×Nat×bP)}(am:Fits b q)(en:q.Q=fo++(id,dT,p)::fx)(H:E A (AL a3 b q dT ic fo fx m) w) :
  Fits { b with P:=jc b.P id ic } { q with Q:=fo++(id,dT,ic)::fx }∧E A (e9 a3 { b with P:=jc b.P id ic } { q with Q:=fo++(id,dT,ic)::fx } m) w:=by
 have ag:=HM (H.front 9);rw[en] at ag;obtain⟨I,R⟩:=aIK (ic:=ic) ag;refine⟨⟨?_,am.2⟩,?_⟩
 ·show (fo++(id,dT,ic)::fx).map qy=jc b.P id ic
  rw[← am.1,en,I]
 ·have H:E A (mb (id,dT,ic)::dH ((fo++fx).map mb)::_) w:=H.ord [0,10];have H:=wE (f:=mb) H;have H:=H.ord [1,2,3,4,5,6,7,8,9,0];rw[en,R] at H;exact H
theorem EU{a3:Nat}{b:br}{q:kT}{id:Int}{dT:Nat}{p:bP}{fo fx:List (Int×Nat×bP)}(en:q.Q=fo++(id,dT,p)::fx)(H:E A (AL a3 b q dT p fo fx m) w):E A (e9 a3 b q m) w:=by
 have H:E A (mb (id,dT,p)::dH ((fo++fx).map mb)::_) w:=H.ord [0,10];have H:=(wE (f:=mb) H).ord [1,2,3,4,5,6,7,8,9,0];rw[← en] at H;exact H
theorem OL{au a3 dT:Nat}{c:Dq}{b:br}{q:kT}{id:Int}{p ut:bP}{k t:Int}{fo fx:List (Int×Nat×bP)}(am:Fits b q)(en:q.Q=fo++(id,dT,ut)::fx)(aM:0<c.nodes.len)(F:jN p.x=0)(aq:k=2∨k=3)(aT:0≤t∧t≤1125899906842624)(aj:b.out.length≤900000000000)(ai:b.K.hP)
  (H:E A (aJ au (gY.cells c) 114::AL a3 b q dT p fo fx m) w) :
  M Pg 106 [.pointer (some ⟨au,0,none⟩),.pointer (some ⟨a3,0,none⟩),.pointer (some ⟨dT,0,none⟩),.int .i64 k,.int .i64 t] (B .i64) w fun r J=>r=(n8 c.nodes.len b id p k t).2∧E A (aJ au (gY.cells c) 114::kr a3 (n8 c.nodes.len b id p k t).1::m) J:=by
 have I:=AP F;refine ap (amt (x:=oh b q) (p:=p) (V:=b.A) aM (by omega) aj rfl ai (Es (by omega) F aT) (H.ord [0,1,2,13,9,4])) ?_;rintro r w ⟨rfl,G,H⟩;unfold n8;generalize gB b.K b.A (fV ⟨k,p.x,t⟩)=z at *;obtain⟨er,lW,l⟩:=z;simp only at H ⊢;have H:=H.ord [0,1,2,6,5,7,8,9,10,4,11,12,13,3];by_cases ce:l=0
 ·simp only[ce,if_true] at H ⊢;refine⟨by trivial,?_⟩;obtain⟨bD,H⟩:=Cy (b:={ b with K:=er,A:=lW,out:=b.out++j6 c.nodes.len (kH p k t) }) (q:={ q with out:=G }) am en (H.ord [1,2,3,4,5,6,7,8,9,10,11,12,13]);exact (hq bD H).front 1
 ·simp only[ce,if_false] at H ⊢;refine⟨by trivial,?_⟩;obtain⟨bD,H⟩:=Cy (b:={ b with K:=er,A:=lW }) (q:={ q with out:=G }) am en (H.ord [1,2,3,4,5,6,7,8,9,10,11,12,13]);exact (hq bD H).front 1
theorem aIV{au a3:Nat}{c:Dq}{b:br}{from_:Int}{o:hZ}(aM:0<c.nodes.len)(a5:Jg b)(fA:sM b.P)(aj:b.out.length≤800000000000)(hm:-4000000000000000000≤o.Part.aD∧o.Part.aD≤4000000000000000000)(H:E A (aJ au (gY.cells c) 114::kr a3 b::m) w) :
  M Pg 84 [.pointer (some ⟨au,0,none⟩),.pointer (some ⟨a3,0,none⟩),.int .i64 from_,eW.enc o] eh w fun _ J=>E A (aJ au (gY.cells c) 114::kr a3 (v5 c.nodes.len b from_ o)::m) J:=by
 refine ajB ?_;unfold WX;refine bR H fun mq w H=>?_;refine dy H fun w H=>?_;obtain⟨q,am,H⟩:=l_ (H.front 2);refine ch rfl ?_;refine ak (x:=some q.jY) 0 H rfl rfl rfl ?_;refine ak (x:=o.Part.aD) 12 H rfl rfl rfl ?_;refine ap (S9 hm H) ?_;rintro r w ⟨rfl,H⟩;refine⟨bO eC H rfl rfl,?_⟩;refine mw 8 H rfl rfl ?_;rw[show Int.tdiv (o.Part.aD+1) 2=gU o.Part.aD from rfl];rcases al:b.P.lookup (gU o.Part.aD) with _ | p
 ·rw[Ci (by rw[am.1]; exact al)];rw[if_pos (by simp)];have x5:v5 c.nodes.len b from_ o=b:=by unfold v5; rw[al]
  rw[x5];exact ((hq am H).ord [1]).drop.front 1
 ·have x5:v5 c.nodes.len b from_ o=zn c.nodes.len b from_ o (gU o.Part.aD) p:=by unfold v5; rw[al]
  rw[x5];have F:=(fA _ _ al).2;obtain⟨dT,fo,fx,l,en,H⟩:=Az am al H;rw[l,if_neg (by simp)];refine ap (Cx H) ?_;rintro r w ⟨rfl,H⟩;simp only;by_cases cb:p.b8=0
  ·rw[if_neg (by simp[cb])];refine ak (x:=o.Part.aD) 13 H rfl rfl rfl ?_;refine ak (x:=o.j5) 13 H rfl rfl rfl ?_;refine ak (x:=o.b9) 13 H rfl rfl rfl ?_;refine ap (RZ H) ?_;rintro r w ⟨rfl,H⟩;have aS:zn c.nodes.len b from_ o (gU o.Part.aD) p=if (hl p (Int.tmod o.Part.aD 2==1) o.j5 o.b9).2≠0 then { b with P:=jc b.P (gU o.Part.aD) (hl p (Int.tmod o.Part.aD 2==1) o.j5 o.b9).1 } else v4 c.nodes.len b (gU o.Part.aD) (hl p (Int.tmod o.Part.aD 2==1) o.j5 o.b9).1:=by unfold zn; rw[if_neg (fun h=>h cb)]
   rw[aS];clear aS;have Ai:jN (hl p (Int.tmod o.Part.aD 2==1) o.j5 o.b9).1.x=0:=by rw[Mj]; exact F
   generalize hl p (Int.tmod o.Part.aD 2==1) o.j5 o.b9=z at *;obtain⟨c6,aS⟩:=z;simp only at H Ai ⊢;have fin:∀ w,E A (AL a3 b q dT c6 fo fx (aJ mq (eW.cells o) 62::aJ au (gY.cells c) 114::m)) w→E A (aJ au (gY.cells c) 114::kr a3 { b with P:=jc b.P (gU o.Part.aD) c6 }::m) w:=by
    intro w H;obtain⟨bD,H⟩:=Cy am en H;exact ((hq bD H).ord [1]).drop.front 1
   by_cases ce:aS=0
   ·rw[if_neg (by simp[ce]),if_neg (fun h=>h ce)];refine ap (Cx H) ?_;rintro r w ⟨rfl,H⟩;simp only;by_cases ck:c6.b8=3
    ·rw[if_pos (by simpa using ck)];have bb:v4 c.nodes.len b (gU o.Part.aD) c6=(n8 c.nodes.len b (gU o.Part.aD) c6 3 0).1:=by unfold v4; rw[if_pos ck]
     rw[bb];refine ap (OL (k:=3) (t:=0) am en aM Ai (.inr rfl) (by omega) (by omega) a5.K (H.front 14)) ?_;rintro r w ⟨_,H⟩;exact (H.ord [2]).drop
    ·rw[if_neg (by simpa using ck)];refine ap (aFi H) ?_;rintro r w ⟨rfl,H⟩;by_cases cr:(ol c6).2=true
     ·rw[if_pos cr];have bb:v4 c.nodes.len b (gU o.Part.aD) c6=zo c.nodes.len b (gU o.Part.aD) c6 (gL b.ax b.cO b.src [(ol c6).1]):=by unfold v4; rw[if_neg ck,if_pos cr]
      rw[bb];refine vA H fun aJ3 w H=>?_;have H:=uB (ar:=1) (o:=1) rfl H;have lD:=SV (a3:=a3) (c:=q.ax) (s:=q.src) (x:=oh b q) (ax:=b.ax) (src:=b.src) (iu:=[(ol c6).1]) a5.ax rfl rfl a5.rd (by simp) (dr.row (fun _=>rfl) 0 rfl) (H.ord [2,3,5]);refine ap lD ?_;clear lD;rintro r w ⟨rfl,H⟩;have l5:=AK (ax:=b.ax) (rd:=b.cO) (N:=[(ol c6).1]) a5.src.2;have es:gL b.ax (oh b q).cO b.src [(ol c6).1]=gL b.ax b.cO b.src [(ol c6).1]:=rfl;rw[es] at H ⊢;generalize gL b.ax b.cO b.src [(ol c6).1]=bi at *;obtain⟨hv,j0,t,l⟩:=bi;simp only at H l5 ⊢;have H:E A (AL a3 { b with ax:=hv,src:=j0 } q dT c6 fo fx (aJ mq (eW.cells o) 62::aJ au (gY.cells c) 114::m)) w:=(H.ord [3,4,0,1,5,2]).drop;by_cases cz:l=0
      ·rw[if_pos (by simpa using cz)];have dn:zo c.nodes.len b (gU o.Part.aD) c6 (hv,j0,t,l)=(n8 c.nodes.len { b with ax:=hv,src:=j0 } (gU o.Part.aD) c6 2 t).1:=by unfold zo; rw[if_pos cz]
       rw[dn];have aT:=l5.2 cz;refine ap (OL (b:={ b with ax:=hv,src:=j0 }) (k:=2) (t:=t) am en aM Ai (.inl rfl) (by omega) (by simp only; omega) a5.K (H.front 14)) ?_;rintro r w ⟨_,H⟩;exact (H.ord [2]).drop
      ·rw[if_neg (by simpa using cz)];have dn:zo c.nodes.len b (gU o.Part.aD) c6 (hv,j0,t,l)={ b with ax:=hv,src:=j0,P:=jc b.P (gU o.Part.aD) c6 }:=by unfold zo; rw[if_neg cz]
       rw[dn];obtain⟨bD,H⟩:=Cy (b:={ b with ax:=hv,src:=j0 }) am en H;exact ((hq bD H).ord [1]).drop.front 1
     ·rw[if_neg cr];have bb:v4 c.nodes.len b (gU o.Part.aD) c6={ b with P:=jc b.P (gU o.Part.aD) c6 }:=by unfold v4; rw[if_neg ck,if_neg cr]
      rw[bb];exact fin w H
   ·rw[if_pos (by simpa using ce),if_pos ce];exact fin w H
  ·rw[if_pos (by simpa using cb)];have aS:zn c.nodes.len b from_ o (gU o.Part.aD) p=nV b from_ ⟨3,⟨o.Part.aD,0,0,false⟩,p.b8==2,p.at_⟩:=by unfold zn; rw[if_pos cb]
   rw[aS];refine ak (x:=o.Part.aD) 13 H rfl rfl rfl ?_;refine ap (Lc am (by omega) (EU en H)) ?_;rintro r w H;exact (H.ord [1]).drop.front 1
end
def ku(p:bP)(r:c5):bP:=if r.k=3 then (pK p).1 else (pb (hl (hl p true true r.t).1 false true r.t).1 r.t).1
def nq(P:List (Int×bP))(r:c5):List (Int×bP):=if r.k=1 then P++[(r.x.aD,jX r.x)] else match P.lookup r.x.aD with
 |none=>P
 |some p=>jc P r.x.aD (ku p r)
def xj(s:Int→Bool)(r:c5):Int→Bool:=if r.k=1 then s else fun x=>x==r.x.aD||s x
def uy(src:Int)(r:c5):Int:=if r.k=2 then (oO src r.t).1 else src
def vN(b:br)(r:c5):br:={ b with P:=nq b.P r,sure:=xj b.sure r,src:=uy b.src r }
def wk(P:List (Int×bP))(r:c5):Prop:=(r.k=1∧jN r.x=0∧P.lookup r.x.aD=none)∨((r.k=2∨r.k=3)∧(P.lookup r.x.aD).isSome=true)
section
variable {A w:World} {m bX:List bE}
theorem ac1{a3 e:Nat}{b:br}{q:kT}{id:Int}{p:bP}(am:Fits b q)(aM:b.P.lookup id=none)(H:E A (gR e p::aJ a3 (kk.cells (oh b q)) 101::kn q.ax b.ax::eN q.d b.K::oX q.src b.src::kN q.jb q.fr q.dC::il q.fr q.d b.W.V::e6 q.dC b.W.v::il q.cN q.d b.A::dh aE .i64 q.jY (eZ id (some ⟨e,0,none⟩) (q.Q.map jj))::dH (q.Q.map mb)::dh fF .i64 q.pv q.qJ::row mM 161 8 q.out b.out::m) w) :
  Fits { b with P:=b.P++[(id,p)] } { q with Q:=q.Q++[(id,e,p)] }∧E A (e9 a3 { b with P:=b.P++[(id,p)] } { q with Q:=q.Q++[(id,e,p)] } m) w:=by
 refine⟨⟨?_,am.2⟩,?_⟩
 ·show (q.Q++[(id,e,p)]).map qy=b.P++[(id,p)]
  rw[List.map_append,am.1]; rfl
 ·rw[Tb _ _ _ (Ci (by rw[am.1]; exact aM))] at H;have H:E A (mb (id,e,p)::dH (q.Q.map mb)::_) w:=H.ord [0,10];rw[show q.Q.map mb=(q.Q++[]).map mb from by rw[List.append_nil]] at H;have H:=(wE (f:=mb) H).ord [1,2,3,4,5,6,7,8,9,0];have l:(q.Q++[(id,e,p)]).map jj=q.Q.map jj++[(id,some ⟨e,0,none⟩)]:=by rw[List.map_append]; rfl
  unfold e9;rw[l];exact H
theorem aH9{a3:Nat}{b:br}{q:kT}{id:Int}(am:Fits b q):Fits { b with sure:=fun x=>x==id||b.sure x } { q with qJ:=eZ id ⟨⟩ q.qJ }:=by
 refine⟨am.1,fun x=>?_⟩;show ((eZ id ⟨⟩ q.qJ).lookup x).isSome=(x==id||b.sure x)
 rw[tg];cases h:x==id
 ·simp[am.2 x]
 ·simp
theorem aGL{a3:Nat}{b:br}{r:c5}(aa:wk b.P r)(H:E A (kr a3 b::m) w) :
  M Pg 94 [.pointer (some ⟨a3,0,none⟩),.int .i64 r.k,gz.enc r.x,.int .i64 r.t] eh w fun _ J=>E A (kr a3 (vN b r)::m) J:=by
 refine ajL ?_;unfold W4;refine bR H fun mq w H=>?_;obtain⟨q,am,H⟩:=l_ (H.front 1);rcases aa with ⟨aq,F,al⟩ | ⟨aq,al⟩
 ·rw[if_pos (by simpa using aq)];refine dy H fun w H=>?_;refine ch rfl ?_;refine ak (x:=some q.jY) 0 H rfl rfl rfl ?_;refine ak (x:=r.x.aD) 12 H rfl rfl rfl ?_;refine ak (x:=r.x) 12 H rfl rfl (tP _) ?_;refine ap (ac5 H) ?_;rintro⟨g2,bA⟩ w ⟨I,_⟩;obtain⟨_,e,ao,H⟩:=I F;simp only at ao;subst ao;refine⟨bO eC (H.front 1) rfl rfl,bO (B .i64) (H.front 13) rfl rfl,?_⟩;refine sf 9 H rfl rfl fun w H=>?_;obtain⟨bD,H⟩:=ac1 am al (H.ord [1,2,3,4,5,6,7,8,9,0]);have l:vN b r={ b with P:=b.P++[(r.x.aD,jX r.x)] }:=by unfold vN nq xj uy; rw[if_pos aq,if_pos aq,if_neg (by omega)]
  rw[l];exact ((hq bD H).front 1).drop
 ·rw[if_neg (by simp; omega)];refine dy H fun w H=>?_;refine ch rfl ?_;refine ak (x:=some q.jY) 0 H rfl rfl rfl ?_;refine ak (x:=r.x.aD) 12 H rfl rfl rfl ?_;obtain⟨p,aF⟩:=Option.isSome_iff_exists.1 al;obtain⟨dT,fo,fx,l,en,H⟩:=Az am aF H;refine mw 9 H rfl rfl ?_;rw[l];refine dy H fun w H=>?_;refine ak (x:=some q.pv) 1 H rfl rfl rfl ?_;refine ak (x:=r.x.aD) 13 H rfl rfl rfl ?_;refine sf 11 H rfl rfl fun w H=>?_;have am:=aH9 (a3:=a3) (id:=r.x.aD) am;have H:E A (AL a3 { b with sure:=fun x=>x==r.x.aD||b.sure x } { q with qJ:=eZ r.x.aD ⟨⟩ q.qJ } dT p fo fx (aJ mq (gz.cells r.x) 31::m)) w:=H.ord [1,2,3,4,5,6,7,8,9,10,11,0];have GL:vN b r={ b with P:=jc b.P r.x.aD (ku p r),sure:=fun x=>x==r.x.aD||b.sure x,src:=uy b.src r }:=by unfold vN nq xj; rw[if_neg (by omega),if_neg (by omega),aF]
  rw[GL];by_cases ck:r.k=3
  ·rw[if_pos (by simpa using ck)];refine ap (acQ H) ?_;rintro _ w ⟨_,H⟩;obtain⟨bD,H⟩:=Cy am en H;have bb:ku p r=(pK p).1:=by unfold ku; rw[if_pos ck]
   have dn:uy b.src r=b.src:=by unfold uy; rw[if_neg (by omega)]
   rw[bb,dn];exact ((hq bD H).front 1).drop
  ·rw[if_neg (by simpa using ck)];have bb:ku p r=(pb (hl (hl p true true r.t).1 false true r.t).1 r.t).1:=by unfold ku; rw[if_neg ck]
   have dn:uy b.src r=(oO b.src r.t).1:=by unfold uy; rw[if_pos (by omega)]
   rw[bb,dn];refine ap (RZ H) ?_;rintro _ w ⟨_,H⟩;refine ap (RZ H) ?_;rintro _ w ⟨_,H⟩;refine ap (acU H) ?_;rintro _ w ⟨_,H⟩;refine ak (x:=some ⟨q.src,0,none⟩) 1 H rfl rfl rfl ?_;refine ap (KM (H.front 4)) ?_;rintro _ w ⟨_,H⟩;obtain⟨bD,H⟩:=Cy (b:={ b with sure:=fun x=>x==r.x.aD||b.sure x,src:=(oO b.src r.t).1 }) am en (H.ord [1,2,3,4,0]);exact ((hq bD H).front 1).drop
end
end Cluster
namespace Cluster
open bj Wire Disk Vault Clock Shard Num
def Fg(ax:hz)(rd:Int)(K:c1)(f:Nat)(xs:List dW)(n:Nat):br:=⟨ax,rd,K,(oO 0 (qw (uG f) xs).fQ).1,⟨⟨xs.length,xs.length,0,false⟩,qw (uG f) xs⟩,⟨n,n,1,false⟩,[],fun _=>false,[]⟩
def zr(ax:hz)(rd:Int)(K:c1)(f:Nat)(xs:List dW)(an:List c5):br:=an.foldl vN (Fg ax rd K f xs an.length)
def qY(an:List c5):Prop:=∀ i r,an[i]?=some r→o5 r∧wk ((an.take i).foldl nq []) r
theorem aou(an:List c5):∀ b:br,(an.foldl vN b).P=an.foldl nq b.P:=by
 induction an with
 |nil=>intro b; rfl
 |cons r an cq=>intro b; exact cq _
theorem ab1{K:c1}{n:Nat}{g:ed}(dA:K.hP)(ag:K.down=false)(O:K.c3[n]?=some g):(dq K (n:Int) g).1.hP∧((dq K (n:Int) g).2=0→(dq K (n:Int) g).1.down=false∧∀ o,o≠n→(dq K (n:Int) g).1.c3[o]?=K.c3[o]?):=by
 have dI:=(List.getElem?_eq_some_iff.1 O).1;have Eh:=dA.log g (List.mem_of_getElem? O);have key:∀ (size:Int) (f:ed→ed),size≤4194304→(km K (n:Int) size f).2=0→(km K (n:Int) size f).1.down=false∧∀ o,o≠n→(km K (n:Int) size f).1.c3[o]?=K.c3[o]?:=by
  intro size f aH ah;by_cases Y:K.et=1
  ·rw[ako dI ag aH Y] at ah;cases ah
  ·rw[akp dI ag aH Y];exact⟨ag,fun o hm=>aDz hm⟩
 unfold dq;have Kt:=aeS g.e;split
 ·refine⟨Jo dA fun aH cP yv=>?_,key _ _ (by rw[List.length_take]; omega)⟩;simp only[List.length_take]; omega
 ·split
  ·refine⟨Jo dA fun aH cP yv=>?_,key _ _ (by omega)⟩;have:=dA.log cP (List.mem_of_getElem? yv);simp only; omega
  ·exact⟨dA,fun _=>⟨ag,fun _ _=>rfl⟩⟩
section
variable {A w:World} {m bX:List bE}
theorem af5{au a3 d u5:Nat}{c:Dq}{x:Dr}{ax:hz}{K:c1}{cX bD:ed}{xs:List dW}{an:List c5}(F:x.clock=some ⟨u5,0,none⟩)(QK:x.Gy=some ⟨d,0,none⟩)(aa:jL c.eH.gP)(dA:K.hP)(ag:K.down=false)
  (yw:K.c3[0]?=some cX) (rs:sX (scan cX.e).1=some xs) (rp:K.c3[1]?=some bD) (Ks:(scan bD.e).1=an.map fV) (ph:qY an)
  (H:E A (aJ au (gY.cells c) 114::aJ a3 (kk.cells x) 101::kn u5 ax::eN d K::m) w) :
  M Pg 42 [.pointer (some ⟨au,0,none⟩),.pointer (some ⟨a3,0,none⟩)] (B .i64) w fun r J=>
   ((dq K 0 cX).2≠0→r=(dq K 0 cX).2∧E A (aJ au (gY.cells c) 114::aJ a3 (kk.cells x) 101::kn u5 ax::eN d (dq K 0 cX).1::m) J) ∧
   ((dq K 0 cX).2=0→(dq (dq K 0 cX).1 1 bD).2≠0→r=(dq (dq K 0 cX).1 1 bD).2∧E A (aJ au (gY.cells c) 114::aJ a3 (kk.cells x) 101::kn u5 ax::eN d (dq (dq K 0 cX).1 1 bD).1::m) J) ∧
   ((dq K 0 cX).2=0→(dq (dq K 0 cX).1 1 bD).2=0→r=0∧E A (aJ au (gY.cells c) 114::kr a3 (zr ax x.cO (dq (dq K 0 cX).1 1 bD).1 c.eH.gP xs an)::m) J):=by
 refine aiS ?_;unfold Wh;refine dy H fun w H=>?_;refine ch rfl ?_;refine ch rfl ?_;refine ak (x:=x.Gy) 1 H rfl rfl rfl ?_;refine ak (x:=c.eH.gP) 0 H rfl rfl rfl ?_;rw[QK];have Ab:=ab1 (n:=0) dA ag yw;refine ap (Shard.RO (n:=0) (g:=cX) dA aa (by omega) ag yw rs (H.front 3)) ?_;rintro⟨g2,bA⟩ w ⟨I,R⟩;by_cases cb:(dq K 0 cX).2=0
 ·obtain⟨aK,s,bp,H⟩:=I cb;simp only at aK bp;subst aK; subst bp;rw[if_neg (by simp)];obtain⟨z8,aqY⟩:=Ab.2 cb;have apU:(dq K 0 cX).1.c3[1]?=some bD:=by rw[← rp]; exact aqY 1 (by omega)
  have aq9:=Ab.1;have arD:(scan cX.e).1.length=xs.length:=(OO rs).symm;rw[arD] at H;have aJ4:(dq K 0 cX).2=0:=cb;generalize dq K 0 cX=kh at *;refine ak (x:=x.Gy) 3 H rfl rfl rfl ?_;rw[QK];refine ap (acG (n:=1) (g:=bD) aq9 (by omega) z8 apU (H.front 1)) ?_;rintro⟨p,q,l⟩ w ⟨he,aK,bp⟩;simp only at he aK bp;subst he;by_cases bx:(dq kh.1 1 bD).2=0
  ·obtain⟨cN,eA,aF,H⟩:=aK bx;subst aF;rw[if_neg (by simp[bx])];obtain⟨fr,dC,H⟩:=aeZ (H.front 4);refine ap (aDe H) ?_;rintro r w ⟨lJ,rfl,H⟩;refine dK (x:=(some ⟨s,0,none⟩:Option Addr)) 9 H rfl rfl (Nat.le_of_ble_eq_true rfl) fun w H=>?_;refine dK (x:=(some ⟨cN,0,none⟩:Option Addr)) 0 H rfl rfl (Nat.le_of_ble_eq_true rfl) fun w H=>?_;refine dK (x:=fN) 0 H rfl rfl (Nat.le_of_ble_eq_true rfl) fun w H=>?_;refine dK (x:=(some ⟨lJ,0,none⟩:Option Addr)) 0 H rfl rfl (Nat.le_of_ble_eq_true rfl) fun w H=>?_;refine xc H fun jY w H=>?_;have H:=w9 aE .i64 H;refine xc H fun pv w H=>?_;have H:=w9 fF .i64 H;refine dK (x:=some jY) 2 H rfl rfl (Nat.le_of_ble_eq_true rfl) fun w H=>?_;refine dK (x:=some pv) 0 H rfl rfl (Nat.le_of_ble_eq_true rfl) fun w H=>?_
   let nR:kT:=⟨u5,d,lJ,s,fr,dC,cN,jY,pv,fN,[],[]⟩
   let tG:br:=⟨ax,x.cO,(dq kh.1 1 bD).1,0,⟨⟨xs.length,xs.length,0,false⟩,qw (uG c.eH.gP) xs⟩,⟨(scan bD.e).1.length,(scan bD.e).1.length,1,false⟩,[],fun _=>false,[]⟩
   have x5:oh tG nR=⟨some ⟨u5,0,none⟩,x.cO,some ⟨d,0,none⟩,some ⟨lJ,0,none⟩,some ⟨s,0,none⟩,some ⟨cN,0,none⟩,some jY,some pv,fN⟩:=rfl;have H:E A (aJ a3 (kk.cells ⟨x.clock,x.cO,x.Gy,some ⟨lJ,0,none⟩,some ⟨s,0,none⟩,some ⟨cN,0,none⟩,some jY,some pv,fN⟩) 101::_) w:=H;rw[F,QK,← x5] at H;refine dy H fun w H=>?_;refine ak (x:=(some ⟨lJ,0,none⟩:Option Addr)) 0 H rfl rfl rfl ?_;refine ap (zm (H.front 4)) ?_;rintro r w ⟨rfl,H⟩;refine⟨bO aE (H.front 1) rfl rfl,?_⟩;refine ap (aIA (H.front 6)) ?_;rintro r w ⟨rfl,H⟩;refine⟨bO aE (H.front 2) rfl rfl,?_⟩;refine ap (KM (H.front 5)) ?_;rintro r w ⟨_,H⟩;have PO:=aeR bD.e;have Ku:=aeT bD.e;have Eh:=dA.log bD (List.mem_of_getElem? rp);rw[Ks] at H PO Ku;simp only[List.length_map] at H PO;have H:=(k4 mM 161 8 (E.shut (bX:=([]:List bE)) H)).ord [5,14,10,2,4,8,3,9,7,1,6,0]
   have H:=hq (a3:=a3) (b:=Fg ax x.cO (dq kh.1 1 bD).1 c.eH.gP xs an.length) (q:=nR) ⟨rfl,fun _=>rfl⟩ H;have wS:=gG (H.front 1);have Qf:eA.length=an.length:=by
    obtain⟨aZ,_,a_⟩:=(ca.pP (ca.tail (ca.tail (ca.here (o:=mH.mono))))) H;rw[a_.1,List.length_map]
   refine ia (fun t w=>∃ k:Nat,t=(k:Int)∧k≤an.length∧E A (kr a3 ((an.take k).foldl vN (Fg ax x.cO (dq kh.1 1 bD).1 c.eH.gP xs an.length))::row X 189 1 q eA::ul eA (an.map fV)::aJ au (gY.cells c) 114::m) w) (fun t=>(an.length-t).toNat) ⟨0,rfl,by omega,H⟩ ?_;clear H;rintro t w ⟨k,rfl,aq,H⟩ ab cg;unfold NC;simp only;rw[wS,Qf];split
   ·rename_i U;have U:k<an.length:=by
     have:(k:Int)<an.length:=by simpa using U
     omega
    have aS:IntKind.i64.wrap ((k:Int)+1)=((k+1:Nat):Int):=by rw[wrap_i64 (by omega) (by omega)]; omega
    obtain⟨pa,ZP⟩:=k3 (i:=(k:Int)) (H.front 1) (by omega) (by omega);have ao:an[k]?=some an[k]:=List.getElem?_eq_getElem U;have wR:eA[((k:Int)).toNat]?=some (eA[k]'(by omega)):=List.getElem?_eq_getElem (by omega);have iW:an.take (k+1)=an.take k++[an[k]]:=List.take_succ_eq_append_getElem U;have Hj:(fV an[k]).length≤65536:=Ku _ (List.mem_map.2 ⟨_,List.getElem_mem _,rfl⟩);have jG:∀ aZ,mH eA (an.map fV) aZ→(eA[k]'(by omega)).len≤(eA[k]'(by omega)).cap∧dd (B .u8) (eA[k]'(by omega)) (aV (fV an[k])) aZ:=fun aZ a_=>a_.2 k _ _ (List.getElem?_eq_getElem (by omega)) (by rw[List.getElem?_map,ao]; rfl);obtain⟨kK,kY⟩:=ph k _ ao;generalize an[k]=r at ao Hj jG kK kY iW;generalize eA[k]'(by omega)=gS at wR jG;refine aR pa ZP ?_;refine aR gS (my (fun _=>rfl) ZP wR (H.front 1)) ?_
    have uj:ca (kr a3 ((an.take k).foldl vN (Fg ax x.cO (dq kh.1 1 bD).1 c.eH.gP xs an.length))::row X 189 1 q eA::ul eA (an.map fV)::aJ au (gY.cells c) 114::m) (mH eA (an.map fV)):=ca.tail (ca.tail (ca.here (o:=mH.mono)));have ms:gS.len≤gS.cap:=by
     obtain⟨aZ,_,a_⟩:=uj.pP H;exact (jG aZ a_).1
    refine ap (afG ms (by omega) (dr.ro (fun _=>rfl) (uj.imp fun aZ a_=>(jG aZ a_).2)) H) ?_;rintro⟨v,p,l⟩ w ⟨_,R,H⟩;rw[afD kK] at R H;simp only at R H;subst R;have arN:=gG H;have aaL:(mX r).length=6:=rfl;simp only;rw[arN,aaL,if_neg (by simp)];refine dy H fun w H=>?_;have iH:∀ (D:Nat),D<6→∃ a,cT v 5 (D:Int) a:=fun D bT=>k3 H (by omega) (by rw[aaL]; omega);obtain⟨XQ,i0⟩:=iH 0 (by omega);obtain⟨fp,i1⟩:=iH 1 (by omega);obtain⟨ek,i2⟩:=iH 2 (by omega);obtain⟨iS,i3⟩:=iH 3 (by omega);obtain⟨iT,i4⟩:=iH 4 (by omega);obtain⟨mq,i5⟩:=iH 5 (by omega);refine aR XQ i0 (aR fp i1 (aR ek i2 (aR iS i3 (aR iT i4 (aR mq i5 ?_)))));have r2:∀ {D:Nat} {a:Addr} {n:Int} {w:World} {N:List bE},cT v 5 (D:Int) a→(mX r)[D]?=some (td n)→E A (row Wire.hH 197 5 v (mX r)::N) w→L (B .i64) (a.add 2) w n:=fun Y F H=>ql p0 Y (by rw[Int.toNat_natCast]; exact F) rfl H
    refine aR r.k (r2 i0 rfl H) (aR r.x.aD (r2 i1 rfl H) (aR r.x.fR (r2 i2 rfl H) (aR r.x.fL (r2 i3 rfl H) (aR r.x.b (r2 i4 rfl H) (aR r.t (r2 i5 rfl H) ?_)))));have fA:((an.take k).foldl vN (Fg ax x.cO (dq kh.1 1 bD).1 c.eH.gP xs an.length)).P=(an.take k).foldl nq []:=aou _ _;refine ap (aGL (r:=r) (by rw[fA]; exact kY) (H.front 1)) ?_;rintro _ w H;have H:=H.front 1;refine⟨r2 i1 rfl H,r2 i2 rfl H,r2 i3 rfl H,r2 i4 rfl H,?_⟩;rw[aS];refine cg _ _ ⟨k+1,rfl,by omega,?_⟩ (by omega);rw[iW,List.foldl_append];exact H.drop
   ·rename_i U;have U:k=an.length:=by
     have:¬ (k:Int)<an.length:=by simpa using U
     omega
    subst U;rw[List.take_length] at H;unfold I5;exact⟨fun h=>absurd cb h,fun _ h=>absurd bx h,fun _ _=>⟨by trivial,((H.ord [1,2]).drop.drop).front 1⟩⟩
  ·obtain⟨aF,H⟩:=bp bx;subst aF;rw[if_pos (by simpa using bx)];refine⟨fun h=>absurd cb h,fun _ _=>⟨by trivial,?_⟩,fun _ h=>absurd h bx⟩;exact (H.ord [1]).drop.ord [1,2,3,0]
 ·obtain⟨aK,H⟩:=R cb;cases aK;rw[if_pos (by simpa using cb)];exact⟨fun _=>⟨by trivial,H.ord [1,2,3,0]⟩,fun h=>absurd h cb,fun h=>absurd h cb⟩
end
theorem Za{Z:Type}(a:List Z)(l:Z)(e:List Z):(a++l::e).eraseIdx a.length=a++e:=by
 rw[List.eraseIdx_append_of_length_le (Nat.le_refl _)]; simp
theorem L3{Z:Type}(a:List Z)(l h6:Z)(e:List Z):(a++l::e).set a.length h6=a++h6::e:=by
 rw[List.set_append_right _ _ (Nat.le_refl _)]; simp
theorem aHs{Z eL:Type}{f:Z→eL}{Q:List Z}{i:Nat}{l h6:Z}(h:Q[i]?=some l)(he:f h6=f l):(Q.set i h6).map f=Q.map f:=by
 obtain⟨fo,fx,rfl,rfl⟩:=CT h;rw[L3]; simp[he]
@[reducible] def hS(au:Nat)(y:bF)(p:kz)(m:List bE):List bE:=aJ au (gY.cells (iU y p)) 114::row aE 89 1 p.nodes (p.Q.map k0)::dH (p.Q.map hB)::Post.h0 p.a2 y.a2::dh fF .i64 p.kZ p.rB::row kB 53 3 p.told y.told::m
@[reducible] def h5(au:Nat)(y:bF)(p:kz)(i:Nat)(m:List bE):List bE:=aJ au (gY.cells (iU y p)) 114::row aE 89 1 p.nodes (p.Q.map k0)::dH ((p.Q.eraseIdx i).map hB)::Post.h0 p.a2 y.a2::dh fF .i64 p.kZ p.rB::row kB 53 3 p.told y.told::m
def k5(y:bF)(i:Nat)(b:br):bF:={ y with N:=y.N.set i b }
def gd(y:bF)(i:Int):Int:=match (if i<0 then none else y.N[i.toNat]?) with
 |none=>202
 |some b=>if b.K.down=true then 203 else 0
def nh(y:bF)(i:Int)(f:br→br×Int):bF×Int:=match (if i<0 then none else y.N[i.toNat]?) with
 |none=>(y,202)
 |some b=>if b.K.down=true then (y,203) else (k5 y i.toNat (f b).1,(f b).2)
def qR(y:bF)(i:Int)(f:br→br×Int):bF×Int:=match (if i<0 then none else y.N[i.toNat]?) with
 |none=>(y,202)
 |some b=>(k5 y i.toNat (f b).1,(f b).2)
theorem vE{y:bF}{i:Int}{f:br→br×Int}(h:gd y i≠0):nh y i f=(y,gd y i):=by
 unfold nh gd at *;split
 ·rfl
 ·rename_i b a5;rw[a5] at h;simp only at h ⊢;split
  ·rfl
  ·rename_i ag;rw[if_neg ag] at h;exact absurd rfl h
theorem p2{y:bF}{i:Int}{f:br→br×Int}{b:br}(ah:0≤i)(h:y.N[i.toNat]?=some b)(ag:b.K.down=false):nh y i f=(k5 y i.toNat (f b).1,(f b).2):=by
 unfold nh;rw[if_neg (by omega),h];simp only;rw[if_neg (by simp[ag])]
section
variable {A w:World} {m bX:List bE}
theorem Zj{eL:Type}{f:eL→bE}{Q:List eL}{i:Nat}{l:eL}(h:Q[i]?=some l)(H:E A (dH (Q.map f)::m) w):E A (f l::dH ((Q.eraseIdx i).map f)::m) w:=by
 obtain⟨fo,fx,rfl,rfl⟩:=CT h;rw[Za];exact BB H
theorem O_{eL:Type}{f:eL→bE}{Q:List eL}{i:Nat}{l h6:eL}(h:Q[i]?=some l)(H:E A (f h6::dH ((Q.eraseIdx i).map f)::m) w):E A (dH ((Q.set i h6).map f)::m) w:=by
 obtain⟨fo,fx,rfl,rfl⟩:=CT h;rw[Za] at H;rw[L3];exact wE H
theorem EF{au i a3:Nat}{b:br}{y:bF}{p:kz}(h:p.Q[i]?=some (a3,b))(H:E A (hS au y p m) w):E A (kr a3 b::h5 au y p i m) w:=(Zj (f:=hB) h (H.front 2)).ord [0,2,3,1]
theorem rG{au i a3:Nat}{b cR:br}{y:bF}{p:kz}(am:o4 y p)(h:p.Q[i]?=some (a3,b))(H:E A (kr a3 cR::h5 au y p i m) w) :
  o4 (k5 y i cR) { p with Q:=p.Q.set i (a3,cR) }∧E A (hS au (k5 y i cR) { p with Q:=p.Q.set i (a3,cR) } m) w:=by
 refine⟨⟨?_,am.2⟩,?_⟩
 ·show (p.Q.set i (a3,cR)).map Prod.snd=y.N.set i cR
  rw[List.map_set,am.1]
 ·have H:E A (hB (a3,cR)::dH ((p.Q.eraseIdx i).map hB)::_) w:=H.ord [0,3];have H:=(O_ (f:=hB) (i:=i) h H).ord [1,2,0];have l:(p.Q.set i (a3,cR)).map k0=p.Q.map k0:=aHs h rfl;unfold hS;rw[l];exact H
theorem xb{au i a3:Nat}{b:br}{y:bF}{p:kz}(h:p.Q[i]?=some (a3,b))(H:E A (kr a3 b::h5 au y p i m) w):E A (hS au y p m) w:=by
 obtain⟨fo,fx,en,rfl⟩:=CT h;have H:E A (hB (a3,b)::dH ((p.Q.eraseIdx fo.length).map hB)::_) w:=H.ord [0,3];have l:p.Q.set fo.length (a3,b)=p.Q:=by rw[en,L3]
 have H:=O_ (f:=hB) h H;rw[l] at H;exact H.ord [1,2,0]
theorem sS{au:Nat}{y:bF}{p:kz}{i:Int}(am:o4 y p)(kX:y.N.length≤8)(H:E A (hS au y p m) w) :
  M Pg 29 [.pointer (some ⟨au,0,none⟩),.int .i64 i] (bB aE (B .i64)) w fun r J=>
   (gd y i≠0∧r=(none,gd y i)∧E A (hS au y p m) J) ∨
   (gd y i=0∧∃ a3 b,0≤i∧p.Q[i.toNat]?=some (a3,b)∧y.N[i.toNat]?=some b∧b.K.down=false∧r=(some ⟨a3,0,none⟩,0)∧E A (kr a3 b::h5 au y p i.toNat m) J):=by
 have al:p.Q.length=y.N.length:=by rw[← am.1,List.length_map]
 refine ap (BA (by omega) H) ?_;rintro r w ⟨h,H⟩;unfold gd;rw[← am.1];simp only[List.getElem?_map];by_cases ah:i<0
 ·rw[if_pos ah] at h ⊢;exact .inl ⟨by simp,h,H⟩
 ·rw[if_neg ah] at h ⊢;rcases ba:p.Q[i.toNat]? with _ | t
  ·rw[ba] at h;exact .inl ⟨by simp,h,H⟩
  ·rw[ba] at h;obtain⟨a3,b⟩:=t;simp only[Option.map_some] at h ⊢;by_cases ag:b.K.down=true
   ·rw[if_pos ag] at h ⊢;exact .inl ⟨by simp,h,H⟩
   ·rw[if_neg ag] at h ⊢;exact .inr ⟨rfl,a3,b,by omega,rfl,rfl,by simpa using ag,h,EF ba H⟩
theorem Ry{au:Nat}{y:bF}{p:kz}(H:E A (hS au y p m) w):M Pg 19 [.pointer (some ⟨au,0,none⟩)] (B .i64) w fun r J=>r=y.now∧E A (hS au y p m) J:=by
 refine ahP ?_;unfold U8;refine ch rfl ?_;refine ak (x:=y.now) 0 H rfl rfl rfl ?_;exact⟨rfl,H⟩
theorem ac6{au:Nat}{y:bF}{p:kz}{i:Int}(am:o4 y p)(kX:y.N.length≤8)(H:E A (hS au y p m) w):M Pg 28 [.pointer (some ⟨au,0,none⟩),.int .i64 i] bo w fun r J=>r=(gd y i==0)∧E A (hS au y p m) J:=by
 refine aiE ?_;unfold V3;refine ap (sS am kX H) ?_;rintro r w (⟨_,rfl,H⟩ | ⟨h,a3,b,_,ba,_,_,rfl,H⟩)
 ·exact⟨rfl,H⟩
 ·exact⟨by rw[h],xb ba H⟩
theorem Zk{au:Nat}{y:bF}{p:kz}{id:Int}(am:o4 y p)(kX:y.N.length≤8)(ah:0<y.N.length)(H:E A (hS au y p m) w):M Pg 16 [.pointer (some ⟨au,0,none⟩),.int .i64 id] (bB (B .i64) (B .i64)) w fun r J=>
  r=(if id<1 then (0,0) else if gd y (Int.tmod id y.N.length)≠0 then (0,0) else match (y.N[(Int.tmod id y.N.length).toNat]?).bind fun b=>b.P.lookup id with
   |none=>(0,0)
   |some p=>(p.b8,p.at_))∧E A (hS au y p m) J:=by
 refine aho ?_;unfold UK;by_cases c:id<1
 ·rw[if_pos (by simpa using c),if_pos c];exact⟨rfl,H⟩
 ·rw[if_neg (by simpa using c),if_neg c];have aM:=gG (H.front 1);rw[List.length_map] at aM;have al:p.Q.length=y.N.length:=by rw[← am.1,List.length_map]
  refine ap (EJ (c:=iU y p) (show 0<p.nodes.len by omega) H) ?_;rintro r w ⟨rfl,H⟩;rw[show ((iU y p).nodes.len:Int)=(y.N.length:Int) from by rw[show (iU y p).nodes.len=p.nodes.len from rfl,aM,al]];refine ap (sS am kX H) ?_;rintro r w (⟨I,rfl,H⟩ | ⟨I,a3,b,R,ba,a5,_,rfl,H⟩)
  ·rw[if_pos I,if_pos (by simpa using I)];exact⟨rfl,H⟩
  ·rw[if_neg (by simp),if_neg (fun h=>h I),a5];simp only[Option.bind_some];obtain⟨q,O,H⟩:=l_ H;refine ch rfl ?_;refine ak (x:=some q.jY) 0 H rfl rfl rfl ?_;refine mw 8 H rfl rfl ?_;rcases mv:b.P.lookup id with _ | pl
   ·rw[Ci (by rw[O.1]; exact mv),if_pos (by simp)];exact⟨by trivial,xb ba (hq O H)⟩
   ·obtain⟨dT,fo,fx,l,en,H⟩:=Az O mv H;rw[l,if_neg (by simp)];refine ap (Cx H) ?_;rintro r w ⟨rfl,H⟩;exact⟨by trivial,xb ba (hq O (EU en H))⟩
end
abbrev Xk:=hc
abbrev uS:=eQ
structure Oa(o:hZ):Prop where
 id:1≤o.Part.aD∧o.Part.aD≤2000000
 ac:0≤o.Part.cl∧o.Part.cl<4096
 n:0≤o.Part.b∧o.Part.b≤1000000000000000
 t:0≤o.b9∧o.b9≤1125899906842624
structure Ob(b:br):Prop where
 hK:Jg b
 mc:sM b.P
 out:b.out.length≤800000000000
 l1:b.P.length≤1000000
 ids:∀ l∈b.W.v.held,l.1≤4000000
structure la(y:bF):Prop where
 len:0<y.N.length∧y.N.length≤8
 a2:y.a2.m.length≤1000
 lets:∀ x∈y.a2.m,Oa x.y
 nodes:∀ b∈y.N,Ob b
 told:y.told.length≤100000000000
 now:0≤y.now∧y.now≤1099511627776
 width:0≤y.eH.jQ∧y.eH.jQ≤1000
 eR:jL y.eH.gP
 kV:jo y.eH.lc
theorem la.at{y:bF}(k:la y){i:Nat}{b:br}(h:y.N[i]?=some b):Ob b:=k.nodes b (List.mem_of_getElem? h)
def xU(b:br)(o:hZ):br:=match b.P.lookup (gU o.Part.aD) with
 |none=>b
 |some p=>{ b with P:=jc b.P (gU o.Part.aD) (Gh p (Int.tmod o.Part.aD 2==1)).1 }
def m_(n:Nat)(b:br)(from_:Int)(o:hZ):br:=
 if o.Kind=1 then rr b from_ o.Part else if o.Kind=2 then v5 n b from_ o else if o.Kind=3 then tW b from_ o else if o.Kind=4 then xU b o else b
def pN(y:bF)(i:Int):bF×Int:=
 if (Post.dN.take y.a2 i).2.2≠0 then (y,(Post.dN.take y.a2 i).2.2)
 else nh { y with a2:=(Post.dN.take y.a2 i).1 } (Post.dN.take y.a2 i).2.1.fL fun b=>(m_ y.N.length b (Post.dN.take y.a2 i).2.1.fR (Post.dN.take y.a2 i).2.1.y,0)
def x0(y:bF)(i:Int):bF×Int:=if (y.a2.at_ i).2≠0 then (y,(y.a2.at_ i).2) else ({ y with a2:=(y.a2.put (y.a2.at_ i).1).1 },(y.a2.put (y.a2.at_ i).1).2)
def Cj(y:bF)(i:Int):bF×Int:=({ y with a2:=if (y.a2.at_ i).2=0 then { y.a2 with m:=y.a2.m.eraseIdx i.toNat } else y.a2 },(y.a2.at_ i).2)
theorem aIm{b:Post.dN}{i:Int}(h:(b.take i).2.2≠0):(b.take i).1=b:=by
 unfold Post.dN.take at h ⊢;split
 ·rfl
 ·rename_i I;rw[if_neg I] at h;split
  ·rfl
  ·rename_i R;rw[if_neg R] at h;exact absurd rfl h
theorem S3{b:Post.dN}{i:Int}(h:(b.take i).2.2=0):(b.take i).2.1∈b.m∧(b.take i).1={ b with m:=b.m.eraseIdx i.toNat }:=by
 unfold Post.dN.take at h ⊢;split
 ·rename_i I; rw[if_pos I] at h; exact absurd h I
 ·rename_i I;rw[if_neg I] at h;split
  ·rename_i R; rw[if_pos R] at h; cases h
  ·have I:=Classical.not_not.1 I;have aK:=b.Ju I;have F:b.m[i.toNat]?=some (b.m[i.toNat]'(by omega)):=List.getElem?_eq_getElem (by omega);rw[b.Jt aK.1 F];exact⟨List.getElem_mem _,rfl⟩
section
variable {A w:World} {m bX:List bE}
theorem lh{au:Nat}{y:bF}(H:E A (cn au y::m) w):∃ p:kz,o4 y p∧E A (hS au y p m) w:=al5 H
theorem amj{au:Nat}{y:bF}{i:Int}(k:la y)(H:E A (cn au y::m) w):M Pg 46 [.pointer (some ⟨au,0,none⟩),.int .i64 i] (B .i64) w fun r J=>r=(x0 y i).2∧E A (cn au (x0 y i).1::m) J:=by
 obtain⟨p,am,H⟩:=lh H;refine aiW ?_;unfold Wl;refine ch rfl ?_;refine ak (x:=some ⟨p.a2,0,none⟩) 0 H rfl rfl rfl ?_;refine ap (Post.amk (H.front 3) k.a2 i) ?_;rintro r w ⟨rfl,H⟩;unfold x0;by_cases c:(y.a2.at_ i).2≠0
 ·simp only[if_pos c] at H ⊢;exact⟨by trivial,fU am (H.ord [1,2,3])⟩
 ·simp only[if_neg c] at H ⊢;exact⟨by trivial,fU (y:={ y with a2:=(y.a2.put (y.a2.at_ i).1).1 }) am (H.ord [1,2,3])⟩
theorem aCN{au:Nat}{y:bF}{i:Int}(k:la y)(H:E A (cn au y::m) w):M Pg 47 [.pointer (some ⟨au,0,none⟩),.int .i64 i] (B .i64) w fun r J=>r=(Cj y i).2∧E A (cn au (Cj y i).1::m) J:=by
 obtain⟨p,am,H⟩:=lh H;refine aiX ?_;unfold Wm;refine ch rfl ?_;refine ak (x:=some ⟨p.a2,0,none⟩) 0 H rfl rfl rfl ?_;refine ap (Post.aCO (H.front 3) k.a2 i) ?_;rintro r w ⟨rfl,H⟩;exact⟨rfl,fU (y:=(Cj y i).1) am (H.ord [1,2,3])⟩
theorem KV{au:Nat}{y:bF}(k:la y)(H:E A (cn au y::m) w):M Pg 18 [.pointer (some ⟨au,0,none⟩)] X w fun r J=>E A (row uS 64 10 r y.a2.m::cn au y::m) J:=by
 obtain⟨p,am,H⟩:=lh H;refine ahI ?_;unfold U1;refine ch rfl ?_;refine ak (x:=some ⟨p.a2,0,none⟩) 0 H rfl rfl rfl ?_;refine ap (Post.aCF (H.front 3) k.a2) ?_;intro r w H;exact (fU am (H.ord [2,3,4,1,5,6,0])).front 1
theorem al0{v:af}{xs:List bk}(H:E A (row kB 53 3 v xs::m) w)(al:xs.length≤100000000000):M Pg 53 [X.enc v] X w fun r J=>E A (row kB 53 3 r xs::row kB 53 3 v xs::m) J:=by
 refine ai4 ?_;unfold Ws;split
 ·rename_i U;rcases oV H with ⟨rfl,rfl,_⟩ | ⟨fp,rest,I,_⟩
  ·exact k4 _ _ _ H
  ·simp[I] at U
 ·refine vA H fun e w H=>?_;have H:=uB (ar:=3) (o:=0) (xs:=[]) rfl H;refine DH (xs:=[]) (new:=xs) (fun _=>rfl) 0 H rfl (Do (H.front 1)) (by simp; omega) fun r w H=>?_;exact H
theorem CU{au:Nat}{y:bF}(k:la y)(H:E A (cn au y::m) w):M Pg 15 [.pointer (some ⟨au,0,none⟩)] X w fun r J=>E A (row kB 53 3 r y.told::cn au y::m) J:=by
 obtain⟨p,am,H⟩:=lh H;refine ahg ?_;unfold UA;refine ch rfl ?_;refine ak (x:=p.told) 0 H rfl rfl rfl ?_;refine ap (al0 (H.front 5) k.told) ?_;intro r w H;exact (fU am (H.ord [2,3,4,5,6,1,0])).front 1
theorem amd{n:Nat}{b:br}{f:Int}{o:hZ}(h:o.Kind=1):m_ n b f o=rr b f o.Part:=by unfold m_; rw[if_pos h]
theorem amf{n:Nat}{b:br}{f:Int}{o:hZ}(h:o.Kind=2):m_ n b f o=v5 n b f o:=by unfold m_; rw[if_neg (by omega),if_pos h]
theorem amc{n:Nat}{b:br}{f:Int}{o:hZ}(h:o.Kind=3):m_ n b f o=tW b f o:=by unfold m_; rw[if_neg (by omega),if_neg (by omega),if_pos h]
theorem amb{n:Nat}{b:br}{f:Int}{o:hZ}(h:o.Kind=4):m_ n b f o=xU b o:=by unfold m_; rw[if_neg (by omega),if_neg (by omega),if_neg (by omega),if_pos h]
theorem ame{n:Nat}{b:br}{f:Int}{o:hZ}(I:o.Kind≠1)(R:o.Kind≠2)(aK:o.Kind≠3)(bp:o.Kind≠4):m_ n b f o=b:=by unfold m_; rw[if_neg I,if_neg R,if_neg aK,if_neg bp]
theorem OP{au:Nat}{y:bF}{i:Int}(k:la y)(H:E A (cn au y::m) w):M Pg 36 [.pointer (some ⟨au,0,none⟩),.int .i64 i] (B .i64) w fun r J=>r=(pN y i).2∧E A (cn au (pN y i).1::m) J:=by
 obtain⟨p,am,H⟩:=lh H;refine aiL ?_;unfold Wa;refine ch rfl ?_;refine ak (x:=some ⟨p.a2,0,none⟩) 0 H rfl rfl rfl ?_;refine ap (Post.S4 (H.front 3) k.a2 i) ?_;rintro r w ⟨rfl,H⟩;refine bR H fun Gp w H=>?_;refine de (x:=lw) (S:=(y.a2.take i).2.1) w5 0 H rfl fun w H=>?_;by_cases cb:(y.a2.take i).2.2=0
 ·rw[if_neg (by simp[cb])];have x5:pN y i=nh { y with a2:=(y.a2.take i).1 } (y.a2.take i).2.1.fL fun b=>(m_ y.N.length b (y.a2.take i).2.1.fR (y.a2.take i).2.1.y,0):=by unfold pN; rw[if_neg (fun h=>h cb)]
  rw[x5];have B2:=k.lets _ (S3 cb).1;generalize (y.a2.take i).2.1=x at *;generalize (y.a2.take i).1=ED at *;refine ak (x:=x.fL) 0 H rfl rfl rfl ?_;have vg:o4 { y with a2:=ED } p:=am;have H:E A (hS au { y with a2:=ED } p (aJ Gp (uS.cells x) 64::m)) w:=H.ord [2,3,4,1,5,6,0];refine ap (sS vg k.len.2 H) ?_;rintro r w (⟨I,rfl,H⟩ | ⟨I,a3,b,R,ba,a5,ag,rfl,H⟩)
  ·rw[if_pos (by simpa using I),vE I];exact⟨rfl,fU vg (H.front 6).drop⟩
  ·rw[if_neg (by simp),p2 R a5 ag];simp only at a5;have ok:=k.at a5;have hj:∀ (cR:br) (w:World),cR=m_ y.N.length b x.fR x.y→E A (kr a3 cR::h5 au { y with a2:=ED } p x.fL.toNat (aJ Gp (uS.cells x) 64::m)) w→xD w fun r J=>r=(0:Int)∧E A (cn au (k5 { y with a2:=ED } x.fL.toNat (m_ y.N.length b x.fR x.y))::m) J:=by
    intro cR w l H;subst l;unfold xD;obtain⟨bD,H⟩:=rG vg ba H;exact⟨rfl,fU bD (H.front 6).drop⟩
   refine ak (x:=x.y.Kind) 7 H rfl rfl rfl ?_;by_cases dx:x.y.Kind=1
   ·rw[if_pos (by simpa using dx)];refine ak (x:=x.fR) 7 H rfl rfl rfl ?_;refine ak (x:=x.y.Part) 7 H rfl rfl rfl ?_;refine ap (ara (p:=x.y.Part) ok.hK (by have:=ok.out; omega) ⟨by simp,by simp,by have:=B2.id; simp only; omega,by have:=B2.ac; simp only; omega,by have:=B2.n; simp only; omega⟩ H) ?_;intro _ w H;exact hj _ w (amd dx).symm H
   ·rw[if_neg (by simpa using dx)];by_cases ef:x.y.Kind=2
    ·rw[if_pos (by simpa using ef)];refine ak (x:=x.fR) 7 H rfl rfl rfl ?_;refine ak (x:=x.y) 7 H rfl rfl rfl ?_;have aM:=gG (H.front 2);rw[List.length_map] at aM;have Qd:p.Q.length=y.N.length:=by rw[← am.1,List.length_map]
     have ys:(iU { y with a2:=ED } p).nodes.len=y.N.length:=by rw[← Qd]; exact aM
     refine ap (aIV (c:=iU { y with a2:=ED } p) (by have:=k.len.1; omega) ok.hK ok.mc ok.out (by have:=B2.id; omega) (H.ord [1,0])) ?_;intro _ w H;rw[ys] at H;exact hj _ w (amf ef).symm (H.front 1)
    ·rw[if_neg (by simpa using ef)];by_cases g0:x.y.Kind=3
     ·rw[if_pos (by simpa using g0)];refine ak (x:=x.fR) 7 H rfl rfl rfl ?_;refine ak (x:=x.y) 7 H rfl rfl rfl ?_;refine ap (amv ok.hK (by have:=ok.out; omega) (by have dz:=B2.id; have iG:=B2.t; unfold ra; split<;>(constructor<;>(constructor<;>(simp only; omega)))) H) ?_;intro _ w H;exact hj _ w (amc g0).symm H
     ·rw[if_neg (by simpa using g0)];by_cases jV:x.y.Kind=4
      ·rw[if_pos (by simpa using jV)];refine dy H fun w H=>?_;refine ch rfl ?_;obtain⟨q,O,H⟩:=l_ H;refine ak (x:=some q.jY) 0 H rfl rfl rfl ?_;refine ak (x:=x.y.Part.aD) 18 H rfl rfl rfl ?_;refine ap (S9 (by have:=B2.id; omega) H) ?_;rintro r w ⟨rfl,H⟩;refine⟨bO eC H rfl rfl,?_⟩;refine mw 8 H rfl rfl ?_;rw[show Int.tdiv (x.y.Part.aD+1) 2=gU x.y.Part.aD from rfl];have nb:m_ y.N.length b x.fR x.y=xU b x.y:=amb jV;rcases al:b.P.lookup (gU x.y.Part.aD) with _ | pl
       ·rw[Ci (by rw[O.1]; exact al)];rw[if_neg (by simp)];exact hj b w (by rw[nb]; unfold xU; rw[al]) (hq O H)
       ·obtain⟨dT,fo,fx,l,en,H⟩:=Az O al H;rw[l,if_pos (by simp)];refine ak (x:=x.y.Part.aD) 19 H rfl rfl rfl ?_;refine ap (Lu H) ?_;rintro r w ⟨_,H⟩;obtain⟨bD,H⟩:=Cy O en H;exact hj _ w (by rw[nb]; unfold xU; rw[al]) (hq bD H)
      ·rw[if_neg (by simpa using jV)];exact hj b w (ame dx ef g0 jV).symm H
 ·rw[if_pos (by simpa using cb)];have x5:pN y i=(y,(y.a2.take i).2.2):=by unfold pN; rw[if_pos cb]
  rw[x5];have aS:=aIm cb;have H:=H.drop;rw[aS] at H;exact⟨rfl,fU am (H.ord [1,2,3])⟩
end
theorem akD{K:c1}{n:Int}{aw:List UInt8}(h:K.hP):(oG K n aw).1.hP:=by
 unfold oG;by_cases c:0≤n
 ·refine Jo h fun aH g O=>?_;have I:=h.log g (List.mem_of_getElem? O);have l:Disk.sizeOf K n=g.e.length:=by unfold Disk.sizeOf; rw[if_pos c,O]
  rw[l] at aH;simp only[List.length_append];omega
 ·unfold km;rw[if_pos (by omega)];exact h
theorem aIe{K:c1}{n:Int}(h:K.hP):(oY K n).1.hP:=by
 unfold oY;refine Jo h fun aH g O=>?_;have I:=h.log g (List.mem_of_getElem? O);simp only;omega
theorem Js{K:c1}{V:nC}{x:List UInt8}(h:K.hP):(gB K V x).1.hP:=by
 unfold gB;split
 ·exact h
 ·split
  ·exact h
  ·exact akD h
theorem L9{K:c1}{V:nC}(h:K.hP):(gH K V).1.hP:=by
 unfold gH;split
 ·exact h
 ·exact aIe h
theorem YC{K:c1}{W:q0}{x:dW}(h:K.hP):(f_ K W x).1.hP:=by
 unfold f_;split
 ·split
  ·exact Js h
  ·exact Js h
 ·exact h
theorem amA{K:c1}{W:q0}{x:dW}(h:Fit W.v)(F:x.aD≤9223372036854775807):Fit (f_ K W x).2.1.v:=by
 unfold f_;split
 ·split
  ·exact Zt h F
  ·exact h
 ·exact h
def ER(b:br)(z:c1×q0×Int):br×Int:=
 if z.2.2≠0 then ({ b with K:=z.1,W:=z.2.1 },z.2.2) else ({ b with K:=(gH z.1 z.2.1.V).1,W:=⟨(gH z.1 z.2.1.V).2.1,z.2.1.v⟩ },(gH z.1 z.2.1.V).2.2)
def y4(b:br)(a n:Int)(s:hz×Int×Int×Int):br×Int:=
 if s.2.2.2≠0 then ({ b with ax:=s.1,src:=s.2.1 },s.2.2.2) else ER { b with ax:=s.1,src:=s.2.1 } (f_ b.K b.W ⟨1,s.2.2.1,0,a,n,false⟩)
def y5(b:br)(a n:Int):br×Int:=y4 b a n (gL b.ax b.cO b.src [])
def vG(y:bF)(a n:Int):bF×Int:=if a<0∨4096≤a then (y,153) else nh y (Int.tmod a y.N.length) fun b=>y5 b a n
def Co(n:Nat)(b:br)(x:oE)(z:c1×nC×Int):br×Int:=
 if z.2.2≠0 then ({ b with K:=z.1,A:=z.2.1 },z.2.2) else ({ b with K:=z.1,A:=z.2.1,P:=b.P++[(x.aD,jX x)],out:=b.out++j6 n (jX x) },0)
def ti(n:Nat)(b:br)(x:oE):br×Int:=if (b.P.lookup x.aD).isSome=true then (b,204) else Co n b x (gB b.K b.A (fV ⟨1,x,0⟩))
def p1(y:bF)(x:oE):bF×Int:=if jN x≠0 then (y,jN x) else nh y (Int.tmod x.aD y.N.length) fun b=>ti y.N.length b x
def rX(n:Nat)(b:br)(id:Int):br×Int:=match b.P.lookup id with
 |none=>(b,205)
 |some p=>if p.b8≠0 then (b,176) else n8 n b id p 3 0
def xS(y:bF)(id:Int):bF×Int:=if id<1 then (y,205) else nh y (Int.tmod id y.N.length) fun b=>rX y.N.length b id
section
variable {A w:World} {m bX:List bE}
theorem zU{au:Nat}{y:bF}{p:kz}(am:o4 y p)(H:E A (hS au y p m) w):(iU y p).nodes.len=y.N.length:=by
 have aM:=gG (H.front 1);rw[List.length_map] at aM;rw[← am.1,List.length_map];exact aM
theorem RN{au:Nat}{y:bF}{a n:Int}(k:la y)(ay:-9223372036854775808≤n∧n≤9223372036854775807)(H:E A (cn au y::m) w):M Pg 44 [.pointer (some ⟨au,0,none⟩),.int .i64 a,.int .i64 n] (B .i64) w fun r J=>r=(vG y a n).2∧E A (cn au (vG y a n).1::m) J:=by
 obtain⟨p,am,H⟩:=lh H;refine aiU ?_;unfold Wj vG;by_cases c:a<0∨4096≤a
 ·rw[if_pos (by simp; omega),if_pos c];exact⟨rfl,fU am H⟩
 ·rw[if_neg (by simp; omega),if_neg c];have aM:=zU am H;refine ap (EJ (c:=iU y p) (by have:=k.len.1; omega) H) ?_;rintro r w ⟨rfl,H⟩;rw[aM];refine ap (sS am k.len.2 H) ?_;rintro r w (⟨I,rfl,H⟩ | ⟨I,a3,b,R,ba,a5,ag,rfl,H⟩)
  ·rw[if_pos (by simpa using I),vE I];exact⟨rfl,fU am H⟩
  ·rw[if_neg (by simp),p2 R a5 ag];have ok:=k.at a5;obtain⟨q,O,H⟩:=l_ H;have fin:∀ (cR:br) (gK:kT) (w:World),Fits cR gK→E A (e9 a3 cR gK (h5 au y p (Int.tmod a y.N.length).toNat m)) w→E A (cn au (k5 y (Int.tmod a y.N.length).toNat cR)::m) w:=by
    intro cR gK w O H;obtain⟨bD,H⟩:=rG am ba (hq O H);exact fU bD H
   have lD:=SV (a3:=a3) (c:=q.ax) (s:=q.src) (x:=oh b q) (ax:=b.ax) (src:=b.src) (q:=fN) (iu:=[]) ok.hK.ax rfl rfl ok.hK.rd (by simp) L2 (H.ord [0,1,3]);refine ap lD ?_;clear lD;rintro r w ⟨rfl,H⟩;have l5:=AK (ax:=b.ax) (rd:=b.cO) (N:=[]) ok.hK.src.2;have es:gL b.ax (oh b q).cO b.src []=gL b.ax b.cO b.src []:=rfl;rw[es] at H ⊢;have Y8:y5 b a n=y4 b a n (gL b.ax b.cO b.src []):=rfl;rw[Y8];clear Y8 es;generalize gL b.ax b.cO b.src []=bi at *;obtain⟨hv,j0,t,l⟩:=bi;simp only at H l5 ⊢;have H:E A (e9 a3 { b with ax:=hv,src:=j0 } q (h5 au y p (Int.tmod a y.N.length).toNat m)) w:=H.ord [0,1,3,2];by_cases ce:l=0
   ·subst ce;rw[if_neg (by simp)];have aT:=l5.2 rfl;refine ch rfl ?_;refine ak (x:=some ⟨q.jb,0,none⟩) 0 H rfl rfl rfl ?_;refine ap (DS (W:=b.W) ok.hK.K ok.hK.v (x:=⟨1,t,0,a,n,false⟩) ⟨by simp,by simp only; omega,by simp,by simp only; omega,ay⟩ (H.ord [4,5,6,2])) ?_;rintro r w ⟨rfl,H⟩;have aS:y4 b a n (hv,j0,t,0)=ER { b with ax:=hv,src:=j0 } (f_ b.K b.W ⟨1,t,0,a,n,false⟩):=by unfold y4; rw[if_neg (by simp)]
    rw[aS];clear aS;have ai:=YC (x:=⟨1,t,0,a,n,false⟩) (W:=b.W) ok.hK.K;generalize f_ b.K b.W ⟨1,t,0,a,n,false⟩=z at *;obtain⟨er,jm,l⟩:=z;simp only at H ai ⊢;have H:E A (e9 a3 { b with ax:=hv,src:=j0,K:=er,W:=jm } q (h5 au y p (Int.tmod a y.N.length).toNat m)) w:=H.ord [4,5,3,6,0,1,2];unfold ER;by_cases ce:l=0
    ·subst ce;rw[if_neg (by simp)];simp only[ne_eq,not_true_eq_false,if_false];refine ak (x:=some ⟨q.jb,0,none⟩) 0 H rfl rfl rfl ?_;refine ch rfl ?_;refine ak (x:=some ⟨q.fr,0,none⟩) 4 H rfl rfl rfl ?_;refine ap (SZ ai (H.ord [5,2])) ?_;rintro r w ⟨rfl,H⟩;exact⟨rfl,fin { b with ax:=hv,src:=j0,K:=(gH er jm.V).1,W:=⟨(gH er jm.V).2.1,jm.v⟩ } q w O (H.ord [2,3,1,4,5,0])⟩
    ·rw[if_pos (by simpa using ce)];simp only[if_pos ce];exact⟨by trivial,fin { b with ax:=hv,src:=j0,K:=er,W:=jm } q w O H⟩
   ·rw[if_pos (by simpa using ce)];have aS:y4 b a n (hv,j0,t,l)=({ b with ax:=hv,src:=j0 },l):=by unfold y4; rw[if_pos ce]
    rw[aS];exact⟨rfl,fin { b with ax:=hv,src:=j0 } q w O H⟩
theorem ab3{au:Nat}{y:bF}{x:oE}(k:la y)(H:E A (cn au y::m) w):M Pg 45 [.pointer (some ⟨au,0,none⟩),gz.enc x] (B .i64) w fun r J=>r=(p1 y x).2∧E A (cn au (p1 y x).1::m) J:=by
 obtain⟨p,am,H⟩:=lh H;refine aiV ?_;unfold Wk p1;refine bR H fun iS w H=>?_;refine ez (x:=x) 0 H rfl ?_;refine ap (ac5 H) ?_;rintro⟨g2,bA⟩ w ⟨I,R⟩;by_cases cx:jN x=0
 ·obtain⟨aK,dT,bp,H⟩:=I cx;simp only at aK bp;subst aK; subst bp;rw[if_neg (by simp),if_neg (by simp[cx])];have F:=AP cx;refine ak (x:=x.aD) 1 H rfl rfl rfl ?_;have H:E A (hS au y p (gR dT (jX x)::aJ iS (gz.cells x) 31::m)) w:=H.ord [2,3,4,5,6,7,0,1];have aM:=zU am H;refine ap (EJ (c:=iU y p) (by have:=k.len.1; omega) H) ?_;rintro r w ⟨rfl,H⟩;rw[aM];refine ap (sS am k.len.2 H) ?_;rintro r w (⟨I,rfl,H⟩ | ⟨I,a3,b,R,ba,a5,ag,rfl,H⟩)
  ·rw[if_pos (by simpa using I),vE I];exact⟨rfl,fU am ((H.ord [6,7]).drop.drop)⟩
  ·rw[if_neg (by simp),p2 R a5 ag];have ok:=k.at a5;obtain⟨q,O,H⟩:=l_ H;have fin:∀ (cR:br) (gK:kT) (w:World),Fits cR gK→E A (e9 a3 cR gK (h5 au y p (Int.tmod x.aD y.N.length).toNat m)) w→E A (cn au (k5 y (Int.tmod x.aD y.N.length).toNat cR)::m) w:=by
    intro cR gK w O H;obtain⟨bD,H⟩:=rG am ba (hq O H);exact fU bD H
   refine dy H fun w H=>?_;refine ch rfl ?_;refine ak (x:=some q.jY) 0 H rfl rfl rfl ?_;refine ak (x:=x.aD) 19 H rfl rfl rfl ?_;refine mw 8 H rfl rfl ?_;rcases al:b.P.lookup x.aD with _ | pl
   ·rw[Ci (by rw[O.1]; exact al),if_neg (by simp)];refine dy H fun w H=>?_;refine ak (x:=some ⟨q.cN,0,none⟩) 0 H rfl rfl rfl ?_;refine ak (x:=x) 19 H rfl rfl (tP _) ?_;have jE:o5 ⟨1,x,0⟩:=Es (by omega) cx (by omega);refine ap (aez jE H) ?_;intro r w H;refine⟨bO aE (H.front 1) rfl rfl,?_⟩;have hi:=DX jE;refine ap (Ou (x:=fV ⟨1,x,0⟩) ok.hK.K (by omega) (dr.row (fun _=>rfl) 0 rfl) (H.ord [8,3])) ?_;rintro l w ⟨rfl,H⟩;refine⟨bO gz (H.front 20) rfl (tP _),?_⟩;have em:ti y.N.length b x=Co y.N.length b x (gB b.K b.A (fV ⟨1,x,0⟩)):=by unfold ti; rw[al,if_neg (by simp)]
    rw[em];clear em;generalize gB b.K b.A (fV ⟨1,x,0⟩)=z at *;obtain⟨er,lW,l⟩:=z;simp only at H ⊢;unfold Co;by_cases ce:l=0
    ·subst ce;rw[if_neg (by simp)];simp only[ne_eq,not_true_eq_false,if_false];refine dy H fun w H=>?_;refine ak (x:=some q.jY) 3 H rfl rfl rfl ?_;refine ak (x:=x.aD) 20 H rfl rfl rfl ?_;refine sf 9 H rfl rfl fun w H=>?_;refine ap (Oy (c:=iU y p) (x:=oh b q) (p:=jX x) (by have:=k.len.1; omega) (by show 0≤x.aD∧x.aD≤1000000000000; omega) (by have:=ok.out; omega) (H.ord [13,19,4,12])) ?_;rintro r w ⟨G,H⟩;rw[aM] at H;obtain⟨bD,H⟩:=ac1 (b:={ b with K:=er,A:=lW,out:=b.out++j6 y.N.length (jX x) }) (q:={ q with out:=G }) O al (H.ord [1,2,8,6,9,10,11,12,5,4,13,14,3]);exact⟨by trivial,fin _ _ w bD ((H.ord [13,19]).drop.drop)⟩
    ·rw[if_pos (by simpa using ce)];simp only[if_pos ce];exact⟨by trivial,fin { b with K:=er,A:=lW } q w O (((H.ord [19,20,2]).drop.drop.drop).ord [2,3,1,4,5,6,7,0,8])⟩
   ·obtain⟨H4,fo,fx,l,en,H⟩:=Az O al H;rw[l,if_pos (by simp)];have H:=EU en H;have em:ti y.N.length b x=(b,204):=by unfold ti; rw[al,if_pos (by simp)]
    rw[em];exact⟨rfl,fin b q w O ((H.ord [18,19]).drop.drop)⟩
 ·obtain⟨aK,H⟩:=R cx;cases aK;rw[if_pos (by simpa using cx),if_pos cx];exact⟨rfl,fU am H.drop⟩
theorem akk{au:Nat}{y:bF}{id:Int}(k:la y)(H:E A (cn au y::m) w):M Pg 52 [.pointer (some ⟨au,0,none⟩),.int .i64 id] (B .i64) w fun r J=>r=(xS y id).2∧E A (cn au (xS y id).1::m) J:=by
 obtain⟨p,am,H⟩:=lh H;refine ai3 ?_;unfold Wr xS;by_cases c:id<1
 ·rw[if_pos (by simpa using c),if_pos c];exact⟨rfl,fU am H⟩
 ·rw[if_neg (by simpa using c),if_neg c];have aM:=zU am H;refine ap (EJ (c:=iU y p) (by have:=k.len.1; omega) H) ?_;rintro r w ⟨rfl,H⟩;rw[aM];refine ap (sS am k.len.2 H) ?_;rintro r w (⟨I,rfl,H⟩ | ⟨I,a3,b,R,ba,a5,ag,rfl,H⟩)
  ·rw[if_pos (by simpa using I),vE I];exact⟨rfl,fU am H⟩
  ·rw[if_neg (by simp),p2 R a5 ag];have ok:=k.at a5;obtain⟨q,O,H⟩:=l_ H;have fin:∀ (cR:br) (w:World),E A (kr a3 cR::h5 au y p (Int.tmod id y.N.length).toNat m) w→E A (cn au (k5 y (Int.tmod id y.N.length).toNat cR)::m) w:=by
    intro cR w H;obtain⟨bD,H⟩:=rG am ba H;exact fU bD H
   refine ch rfl ?_;refine ak (x:=some q.jY) 0 H rfl rfl rfl ?_;refine mw 8 H rfl rfl ?_;rcases al:b.P.lookup id with _ | pl
   ·rw[Ci (by rw[O.1]; exact al),if_pos (by simp)];have em:rX y.N.length b id=(b,205):=by unfold rX; rw[al]
    rw[em];exact⟨rfl,fin b w (hq O H)⟩
   ·obtain⟨H4,fo,fx,l,en,H⟩:=Az O al H;rw[l,if_neg (by simp)];refine ap (Cx H) ?_;rintro r w ⟨rfl,H⟩;simp only;by_cases cb:pl.b8=0
    ·rw[if_neg (by simp[cb])];have em:rX y.N.length b id=n8 y.N.length b id pl 3 0:=by unfold rX; rw[al]; simp only; rw[if_neg (fun h=>h cb)]
     rw[em];refine ap (OL (c:=iU y p) (k:=3) (t:=0) O en (by have:=k.len.1; omega) (ok.mc _ _ al).2 (.inr rfl) (by omega) (by have:=ok.out; omega) ok.hK.K (H.front 13)) ?_;rintro r w ⟨rfl,H⟩;rw[aM] at H ⊢;exact⟨rfl,fin _ w (H.front 1)⟩
    ·rw[if_pos (by simpa using cb)];have em:rX y.N.length b id=(b,176):=by unfold rX; rw[al]; simp only; rw[if_pos cb]
     rw[em];exact⟨rfl,fin b w (hq O (EU en H))⟩
end
def sW(P:List (Int×bP))(x:Int):Bool:=match P.lookup x with
 |some p=>p.b8 != 0
 |none=>false
def sA(a2:Post.dN)(i:Int)(out:List qh):Post.dN:=out.foldl (fun t s=>(t.send i s.ij s.o).1) a2
def zh(b:br)(e:c1×nC×Int):br×Int:=
 if e.2.2≠0 then ({ b with K:=e.1,A:=e.2.1 },e.2.2) else ({ b with K:=e.1,A:=e.2.1,out:=[],sure:=fun x=>b.sure x||sW b.P x },0)
def vU(b:br)(a:c1×nC×Int):br×Int:=
 if a.2.2≠0 then ({ b with K:=a.1,W:=⟨a.2.1,b.W.v⟩ },a.2.2) else zh { b with K:=a.1,W:=⟨a.2.1,b.W.v⟩ } (gH a.1 b.A)
def nu(b:br):br×Int:=vU b (gH b.K b.W.V)
def qL(y:bF)(i:Int):bF×Int:=
 if gd y i≠0 then (y,gd y i) else
  (if (nh y i nu).2=0 then { (nh y i nu).1 with a2:=sA y.a2 i (((y.N[i.toNat]?).map br.out).getD []) } else (nh y i nu).1,(nh y i nu).2)
theorem ac9{b:Post.dN}{x:Xk}(h:b.m.length≤1000):(b.put x).1.m.length≤1000:=by
 unfold Post.dN.put;split
 ·exact h
 ·simp; omega
theorem aHm{b:Post.dN}{f t:Int}{o:hZ}(h:b.m.length≤1000):(b.send f t o).1.m.length≤1000:=by
 unfold Post.dN.send;split
 ·exact h
 ·split
  ·exact h
  ·exact ac9 h
theorem SM{i:Int}:∀ {out:List qh} {b:Post.dN},b.m.length≤1000→(sA b i out).m.length≤1000
 |[],_,h=>h
 |s::out,b,h=>SM (out:=out) (aHm h)
theorem Aq{eL:Type}:∀ {N:List (Int×eL)} {k:Int} {v:eL},(N.map (·.1)).Nodup→(k,v)∈N→N.lookup k=some v
 |[],_,_,_,h=>by cases h
 |(a,e)::N,k,v,aM,h=>by
  simp only[List.map_cons,List.nodup_cons] at aM;simp only[List.lookup];rcases List.mem_cons.1 h with h | h
  ·cases h; simp
  ·have:k≠a:=fun l=>aM.1 (List.mem_map.2 ⟨(k,v),h,l⟩);have l:(k==a)=false:=by simpa using this
   rw[l];exact Aq aM.2 h
theorem abB(Q:List (Int×Nat×bP)):(Q.map jj).map (·.1)=(Q.map qy).map (·.1):=by simp[List.map_map,Function.comp_def,jj,qy]
theorem amu{Q:List (Int×Nat×bP)}{x:Int}(h:sW (Q.map qy) x=true):((Q.map jj).any fun t=>t.1==x)=true:=by
 unfold sW at h;rcases al:(Q.map qy).lookup x with _ | p
 ·rw[al] at h; cases h
 ·obtain⟨fo,fx,dT,rfl,_⟩:=vx al;rw[List.any_eq_true];exact⟨jj (x,dT,p),List.mem_map.2 ⟨_,by simp,rfl⟩,by simp[jj]⟩
section
variable {A w:World} {m bX:List bE}
theorem SY{au:Nat}{y:bF}{i:Int}(k:la y)(H:E A (cn au y::m) w):M Pg 35 [.pointer (some ⟨au,0,none⟩),.int .i64 i] (B .i64) w fun r J=>r=(qL y i).2∧E A (cn au (qL y i).1::m) J:=by
 obtain⟨p,am,H⟩:=lh H;refine aiK ?_;unfold V_;refine ap (sS am k.len.2 H) ?_;rintro r w (⟨I,rfl,H⟩ | ⟨I,a3,b,R,ba,a5,ag,rfl,H⟩)
 ·rw[if_pos (by simpa using I)];have l:qL y i=(y,gd y i):=by unfold qL; rw[if_pos I]
  rw[l];exact⟨rfl,fU am H⟩
 ·rw[if_neg (by simp)];have ok:=k.at a5;have es:qL y i=(if (nu b).2=0 then { k5 y i.toNat (nu b).1 with a2:=sA y.a2 i b.out } else k5 y i.toNat (nu b).1,(nu b).2):=by
   unfold qL;rw[if_neg (fun h=>h I),p2 R a5 ag,a5];rfl
  rw[es];clear es;obtain⟨q,O,H⟩:=l_ H;have fin:∀ (cR:br) (gK:kT) (w:World),Fits cR gK→E A (e9 a3 cR gK (h5 au y p i.toNat m)) w→E A (cn au (k5 y i.toNat cR)::m) w:=by
   intro cR gK w O H;obtain⟨bD,H⟩:=rG am ba (hq O H);exact fU bD H
  refine ch rfl ?_;refine ak (x:=some ⟨q.jb,0,none⟩) 0 H rfl rfl rfl ?_;refine ch rfl ?_;refine ak (x:=some ⟨q.fr,0,none⟩) 4 H rfl rfl rfl ?_;refine ap (SZ ok.hK.K (H.ord [5,2])) ?_;rintro r w ⟨rfl,H⟩;have ai:=L9 (V:=b.W.V) ok.hK.K;have aS:nu b=vU b (gH b.K b.W.V):=rfl;rw[aS];clear aS;generalize gH b.K b.W.V=a at *;obtain⟨wb,pG,l⟩:=a;simp only at H ai ⊢;have H:E A (e9 a3 { b with K:=wb,W:=⟨pG,b.W.v⟩ } q (h5 au y p i.toNat m)) w:=H.ord [2,3,1,4,5,0];by_cases ce:l=0
  ·subst ce;rw[if_neg (by simp)];have aS:vU b (wb,pG,0)=zh { b with K:=wb,W:=⟨pG,b.W.v⟩ } (gH wb b.A):=by unfold vU; rw[if_neg (by simp)]
   rw[aS];clear aS;refine ak (x:=some ⟨q.cN,0,none⟩) 0 H rfl rfl rfl ?_;refine ap (SZ ai (H.ord [7,2])) ?_;rintro r w ⟨rfl,H⟩;generalize gH wb b.A=e at *;obtain⟨lb,uT,l⟩:=e;simp only at H ⊢;have H:E A (e9 a3 { b with K:=lb,W:=⟨pG,b.W.v⟩,A:=uT } q (h5 au y p i.toNat m)) w:=H.ord [2,3,1,4,5,6,7,0];by_cases ce:l=0
   ·subst ce;rw[if_neg (by simp)];have aS:zh { b with K:=wb,W:=⟨pG,b.W.v⟩ } (lb,uT,0)=({ b with K:=lb,W:=⟨pG,b.W.v⟩,A:=uT,out:=[],sure:=fun x=>b.sure x||sW b.P x },0):=by unfold zh; rw[if_neg (by simp)]
    rw[aS];clear aS;simp only[if_true];refine ak (x:=q.out) 0 H rfl rfl rfl ?_;have B4:=ok.out;have hi:=gG (H.front 11);refine ia (fun t w=>∃ n:Nat,t=(n:Int)∧n≤b.out.length∧E A (e9 a3 { b with K:=lb,W:=⟨pG,b.W.v⟩,A:=uT } q (h5 au { y with a2:=sA y.a2 i (b.out.take n) } p i.toNat m)) w) (fun t=>(b.out.length-t).toNat) ⟨0,rfl,by omega,H⟩ ?_;clear H;rintro t w ⟨n,rfl,aM,H⟩ ab cg;unfold Ny;rw[hi];split
    ·rename_i U;have U:n<b.out.length:=by
      have:(n:Int)<b.out.length:=by simpa using U
      omega
     have aS:IntKind.i64.wrap ((n:Int)+1)=((n+1:Nat):Int):=by rw[wrap_i64 (by omega) (by omega)]; omega
     obtain⟨a,Y⟩:=k3 (i:=(n:Int)) (H.front 11) (by omega) (by simp only; omega);have F:b.out[((n:Int)).toNat]?=some (b.out[n]'U):=by rw[Int.toNat_natCast]; exact List.getElem?_eq_getElem U
     have iW:b.out.take (n+1)=b.out.take n++[b.out[n]'U]:=List.take_succ_eq_append_getElem U;generalize b.out[n]'U=s at F iW;refine aR a Y ?_;refine aR s (my (fun _=>rfl) Y F (H.front 11)) ?_;refine bR H fun aJZ w H=>?_;refine de (x:=Oi) (S:=s) abR 0 H rfl fun w H=>?_;refine dy H fun w H=>?_;refine ch rfl ?_;refine ak (x:=some ⟨p.a2,0,none⟩) 13 H rfl rfl rfl ?_;refine ak (x:=s.ij) 0 H rfl rfl rfl ?_;refine ak (x:=s.o) 0 H rfl rfl rfl ?_;refine ap (Post.aHo (H.front 16) (SM k.a2) i s.ij s.o) ?_;rintro r w ⟨_,H⟩;rw[aS];refine cg _ _ ⟨n+1,rfl,by omega,?_⟩ (by omega);have bb:sA y.a2 i (b.out.take (n+1))=((sA y.a2 i (b.out.take n)).send i s.ij s.o).1:=by rw[iW]; unfold sA; rw[List.foldl_append]; rfl
     rw[bb];exact (H.front 1).drop.ord [1,2,3,4,5,6,7,8,9,10,11,12,13,14,15,0]
    ·rename_i U;have U:n=b.out.length:=by
      have:¬ (n:Int)<b.out.length:=by simpa using U
      omega
     subst U;rw[List.take_length] at H;refine dK (x:=fN) 0 H rfl rfl (Nat.le_of_ble_eq_true rfl) fun w H=>?_;have H:=k4 mM 161 8 H;have H:E A (e9 a3 { b with K:=lb,W:=⟨pG,b.W.v⟩,A:=uT,out:=[] } { q with out:=fN } (h5 au { y with a2:=sA y.a2 i b.out } p i.toNat m)) w:=(H.ord [1,2,3,4,5,6,7,8,9,10,11,0,12]).ord [0,1,2,3,4,5,6,7,8,9,10,11] |> fun H=>((H.front 12).drop)
     refine ak (x:=some q.jY) 0 H rfl rfl rfl ?_;refine SF 8 H rfl rfl fun it w H=>?_
     refine EA (fun n _ w=>∃ left j7 CQ,n=left.length∧(∀ x∈left,x∈q.Q.map jj)∧(left.map (·.1)).Nodup∧(∀ x,(List.lookup x CQ).isSome=(b.sure x||(sW b.P x&&!(left.any fun t=>t.1==x)))) ∧
      E A (rH aE .i64 q.jY it (q.Q.map jj) left j7::aJ a3 (kk.cells (oh { b with K:=lb,W:=⟨pG,b.W.v⟩,A:=uT,out:=[] } { q with out:=fN })) 101::kn q.ax b.ax::eN q.d lb::oX q.src b.src::kN q.jb q.fr q.dC::il q.fr q.d pG::e6 q.dC b.W.v::il q.cN q.d uT::dH (q.Q.map mb)::dh fF .i64 q.pv CQ::row mM 161 8 fN []::h5 au { y with a2:=sA y.a2 i b.out } p i.toNat m) w) (q.Q.map jj).length ⟨q.Q.map jj,none,q.qJ,rfl,fun x h=>h,Su H,fun x=>?_,H⟩ ?_
     ·rw[O.2 x];cases BW:sW b.P x with
      |false=>simp
      |true=>
       rw[← O.1] at BW;rw[amu BW];simp
     clear H;rintro n _ w ⟨left,j7,CQ,rfl,B5,lC,aH,H⟩ ab cg;have rl:=Su H;unfold Nz;refine RC 0 H rfl rfl (fun he H=>?_) fun x F w H=>?_
     ·subst he;rw[if_neg (by simp)];have H:=Ih H;have jr:Fits { b with K:=lb,W:=⟨pG,b.W.v⟩,A:=uT,out:=[],sure:=fun x=>b.sure x||sW b.P x } { q with out:=fN,qJ:=CQ }:=⟨O.1,fun x=>by show (List.lookup x CQ).isSome=_; rw[aH x]; simp⟩
      obtain⟨bD,H⟩:=rG (y:={ y with a2:=sA y.a2 i b.out }) am ba (hq jr (H.ord [1,2,3,4,5,6,7,8,0,9,10,11]));exact⟨by trivial,fU bD H⟩
     ·rw[if_pos (by simp)];refine O6 0 H rfl rfl ?_;obtain⟨t,aT,arL⟩:=List.mem_map.1 (B5 x F);obtain⟨id,dT,pl⟩:=t;subst arL;obtain⟨D,bT,ap0⟩:=List.getElem_of_mem aT;have PZ:q.Q[D]?=some (id,dT,pl):=by rw[← ap0]; exact List.getElem?_eq_getElem bT
      have mv:b.P.lookup id=some pl:=by
       rw[← O.1];exact Aq (by rw[← abB]; exact rl) (List.mem_map.2 ⟨_,aT,rfl⟩)
      have H:=Zj (f:=mb) PZ (H.front 9);refine ap (Cx H) ?_;rintro r w ⟨rfl,H⟩;have arE:q.Q.set D (id,dT,pl)=q.Q:=by
       obtain⟨aQ,aV,yb,rfl⟩:=CT PZ;rw[yb,L3]
      have H:=O_ (f:=mb) PZ (h6:=(id,dT,pl)) H;rw[arE] at H;have aag:((left.filter fun t=>t.1 != id).map (·.1)).Nodup:=lC.sublist (List.filter_sublist.map _);have dI:(left.filter fun t=>t.1 != id).length<left.length:=by
       refine List.length_filter_lt_length_iff_exists.2 ⟨_,F,?_⟩;simp[jj]
      have Z0:∀ S,S≠id→((left.filter fun t=>t.1 != id).any fun t=>t.1==S)=left.any fun t=>t.1==S:=by
       intro S aB;rw[List.any_filter];congr 1;funext t;by_cases l:t.1=S
       ·subst l; simp[aB]
       ·have:(t.1==S)=false:=by simpa using l
        rw[this]; simp
      have vm:((left.filter fun t=>t.1 != id).any fun t=>t.1==id)=false:=by
       rw[List.any_filter,List.any_eq_false];intro t _;simp
      by_cases cb:pl.b8=0
      ·rw[if_neg (by simp[cb])];refine cg _ () w dI ⟨left.filter fun t=>t.1 != id,some (id,some ⟨dT,0,none⟩),CQ,rfl,fun S aB=>B5 S (List.mem_filter.1 aB).1,aag,fun S=>?_,H.ord [1,2,3,4,5,6,7,8,9,0]⟩;rw[aH S];by_cases l:S=id
       ·subst l;have:sW b.P S=false:=by unfold sW; rw[mv]; simp[cb]
        rw[this]; simp
       ·rw[Z0 S l]
      ·rw[if_pos (by simpa using cb)];refine ak (x:=some q.pv) 2 H rfl rfl rfl ?_;refine sf 10 H rfl rfl fun w H=>?_;refine cg _ () w dI ⟨left.filter fun t=>t.1 != id,some (id,some ⟨dT,0,none⟩),eZ id ⟨⟩ CQ,rfl,fun S aB=>B5 S (List.mem_filter.1 aB).1,aag,fun S=>?_,H.ord [2,3,4,5,6,7,8,9,10,1,0]⟩;rw[tg];by_cases l:S=id
       ·subst l;have:sW b.P S=true:=by unfold sW; rw[mv]; simpa using cb
        rw[this,vm]; simp
       ·have bb:(S==id)=false:=by simpa using l
        rw[bb,Z0 S l];simp only[Bool.false_eq_true,if_false];exact aH S
   ·rw[if_pos (by simpa using ce)];have aS:zh { b with K:=wb,W:=⟨pG,b.W.v⟩ } (lb,uT,l)=({ b with K:=lb,W:=⟨pG,b.W.v⟩,A:=uT },l):=by unfold zh; rw[if_pos ce]
    rw[aS];simp only[if_neg ce];exact⟨by trivial,fin { b with K:=lb,W:=⟨pG,b.W.v⟩,A:=uT } q w O H⟩
  ·rw[if_pos (by simpa using ce)];have aS:vU b (wb,pG,l)=({ b with K:=wb,W:=⟨pG,b.W.v⟩ },l):=by unfold vU; rw[if_pos ce]
   rw[aS];simp only[if_neg ce];exact⟨by trivial,fin { b with K:=wb,W:=⟨pG,b.W.v⟩ } q w O H⟩
end
end Cluster
namespace bj
open Go.RowKit Go.Maps Go.Sort Go.Shelf Go.WideElems
section
variable {A w:World} {m:List bE} {Z:Type} {T:bz Z}
theorem aHP{r e3:Nat}{es:List (Int×Z)}(aa:∀ p∈es,-9223372036854775808≤p.1∧p.1≤9223372036854775807)(hm:es.length≤1000000)(H:E A (aJ e3 [.map (some r)] 97::dh T .i64 r es::m) w) :
  M Pg 59 [.func (.func 176) #[] #[.pointer (some ⟨e3,0,none⟩)]] X w fun s J=>∃ fM:List Int,fM.Perm (es.map (·.1)) ∧
   E A (row (B .i64) 3 1 s (fM.mergeSort fun x S=>decide (x≤S))::aJ e3 [.map (some r)] 97::dh T .i64 r es::m) J:=by
 obtain⟨aX,c,I,ao,R,hn⟩:=yW (H.front 1);have cK:=hn.get;obtain⟨ny,Hd,He,Ag⟩:=RT (k:=3) Tryz.underlying3 aa (by omega) I ao R cK;have z6:=H.get;have dI:e3<w.heap.size:=(Array.getElem?_eq_some_iff.1 z6).1;have Hi:=AnyZI.keys_gives (ρ:=Tryz.abA) { Tryz.aB5 with } Fence.wide (5-1-1-1) trivial rfl (by omega) e3 r aX.size ny w dI (by rw[u2 z6]; rfl) Hd;have wF:=AnyZI.sorted_in Tryz.SR Fence.wide 5 trivial trivial trivial trivial rfl (by omega) (SS _) (enters_of Tryz.func109 (by kernel_rfl) rfl) 176 #[.pointer (some ⟨e3,0,none⟩)] trivial (enters_of Tryz.func176 (by kernel_rfl) rfl) _ (Maps.size ny) (by rw[Ag]; exact Nat.le_trans hm (Nat.le_of_ble_eq_true rfl)) (by rw[Ag]; omega) w Hi;change CallsIn _ _ Pg 59 _ _ _ at wF;refine (callsIn_wide (n:=5)).1 (wF.mono ?_);rintro l J ⟨v,nt,rfl,ff,vo,aav,GW⟩
 have vo:J.ownsRow w.heap.size 3 1 v nt.length ((nt.mergeSort fun x S=>decide (x≤S)).flatMap (B .i64).cells):=by
  have l:(nt.mergeSort fun x S=>decide (x≤S)).flatMap (B .i64).cells=(nt.mergeSort fun x S=>decide (x≤S)).map encZ:=by
   generalize nt.mergeSort (fun x S=>decide (x≤S))=q;induction q with
   |nil=>rfl
   |cons x q cq=>rw[List.flatMap_cons,cq]; rfl
  rw[l]; exact vo
 obtain⟨s,aH,Be⟩:=H.ownsRow (T:=B .i64) (fun _=>rfl) (by rw[List.length_mergeSort]) GW vo;exact⟨s,aH,nt,ff.trans He,Be⟩
end
end bj
namespace Cluster
open bj Wire Disk Vault Clock Shard Num Store
def e8(P:List (Int×bP)):List Int:=oW (P.map (·.1))
def qu(n:Nat)(P:List (Int×bP))(ids:List Int):List qh:=ids.flatMap fun id=>match P.lookup id with
 |some p=>j6 n p
 |none=>[]
def r6(n:Nat)(v:dl):List qh:=(gE v).map fun h=>⟨Int.tmod (gU h.Part.aD) n,rM h.Part.aD true h.b9⟩
def HU(n:Nat)(b:br):br:={ b with out:=b.out++qu n b.P (e8 b.P)++r6 n b.W.v }
def uq(y:bF)(i:Int):bF×Int:=nh y i fun b=>(HU y.N.length b,0)
theorem Ox(n:Nat)(P:List (Int×bP))(ids:List Int):(qu n P ids).length≤2*ids.length:=by
 unfold qu;induction ids with
 |nil=>simp
 |cons id ids cq=>
  rw[List.flatMap_cons,List.length_append,List.length_cons]
  have:(match P.lookup id with
   |some p=>j6 n p
   |none=>[]).length≤2:=by
   split
   ·exact Gm n _
   ·simp
  omega
theorem aFf{b:br}(h:sM b.P)(aM:(b.P.map (·.1)).Nodup):∀ l∈b.P,1≤l.1∧l.1≤1000000:=by
 intro l he;obtain⟨I,R⟩:=h l.1 l.2 (Aq aM he);have:=AP R;omega
section
variable {A w:World} {m bX:List bE}
theorem aHZ{a3:Nat}{b:br}{q:kT}{aQ:bE}{N:List bE}(H:E A (e9 a3 b q (aQ::(N++m))) w):E A (e9 a3 b q (N++aQ::m)) w:=H.perm (List.Perm.append_left (e9 a3 b q []) List.perm_middle.symm)
theorem afb{a3:Nat}{b:br}{q:kT}{aQ:bE}{N:List bE}(H:E A (e9 a3 b q (N++aQ::m)) w):E A (aQ::e9 a3 b q (N++m)) w:=
 (H.perm (List.Perm.append_left (e9 a3 b q []) List.perm_middle)).ord [12]
theorem YJ{a3:Nat}{hV:cw}(sL:Nat→br)(Dl:Nat→List bE){P:List (Int×bP)}{q:kT}(fA:∀ k,(sL k).P=P)(dA:sM P)(s8:P.length≤1000000)
  (step : ∀ (k : Nat) (id : Int) (p : bP) (m : List bE) (q : kT) (w : World) (dT : Nat), (e8 P)[k]? = some id → P.lookup id = some p → (q.Q.map jj).lookup id = some (some (⟨dT, 0, none⟩ : Addr)) → Fits (sL k) q → E A (e9 a3 (sL k) q (Dl k ++ m)) w →
   sV Pg hV [.int .i64 id,.pointer (some ⟨dT,0,none⟩)] eh w fun _ J=>∃ gK,Fits (sL (k+1)) gK∧E A (e9 a3 (sL (k+1)) gK (Dl (k+1)++m)) J)
  (am:Fits (sL 0) q) (H:E A (e9 a3 (sL 0) q (Dl 0++m)) w) :
  M Pg 74 [.pointer (some ⟨a3,0,none⟩),hV.enc] eh w fun _ J=>∃ gK,Fits (sL (e8 P).length) gK∧E A (e9 a3 (sL (e8 P).length) gK (Dl (e8 P).length++m)) J:=by
 refine ajq ?_;unfold WN;refine ch rfl ?_;refine ak (x:=some q.jY) 0 H rfl rfl rfl ?_;refine agL ?_;unfold Ud;refine bR H fun e3 w H=>?_;have lC:=HM (H.front 9);have aae:q.Q.map qy=P:=by rw[am.1,fA]
 have r7:(q.Q.map jj).map (·.1)=P.map (·.1):=by rw[abB,aae]
 have aau:(P.map (·.1)).Nodup:=by rw[← r7]; exact lC
 have aKt:(q.Q.map jj).length=P.length:=by rw[← aae]; simp
 have Hg:∀ l∈q.Q.map jj,-9223372036854775808≤l.1∧l.1≤9223372036854775807:=by
  intro l he;have:l.1∈P.map (·.1):=by rw[← r7]; exact List.mem_map.2 ⟨l,he,rfl⟩
  obtain⟨h6,oN,I⟩:=List.mem_map.1 this;have:=aFf (b:=sL 0) (by rw[fA]; exact dA) (by rw[fA]; exact aau) h6 (by rw[fA]; exact oN);omega
 refine ap (aHP Hg (by omega) (H.ord [0,9])) ?_;rintro s w ⟨fM,aF,H⟩;have ba:(fM.mergeSort fun x S=>decide (x≤S))=e8 P:=by unfold e8; rw[← r7]; exact SP aF
 rw[ba] at H;have aH:=gG H;have wS:(e8 P).length≤1000000:=by unfold e8; rw[(oq _).length_eq,List.length_map]; omega
 have tb:∀ id∈e8 P,∃ p,P.lookup id=some p:=by
  intro id hW;have:=(oq (P.map (·.1))).mem_iff.1 hW;obtain⟨l,he,rfl⟩:=List.mem_map.1 this;exact⟨l.2,Aq aau he⟩
 have H:E A (e9 a3 (sL 0) q (row (B .i64) 3 1 s (e8 P)::(Dl 0++m))) w:=(H.ord [1]).drop.ord [2,3,4,5,6,7,8,9,1,10,11,12,0];have H:=aHZ H;refine ia (fun t w=>∃ k:Nat,t=(k:Int)∧k≤(e8 P).length∧∃ q,Fits (sL k) q∧E A (e9 a3 (sL k) q (Dl k++row (B .i64) 3 1 s (e8 P)::m)) w) (fun t=>((e8 P).length-t).toNat) ⟨0,rfl,by omega,q,am,H⟩ ?_;clear H;rintro t w ⟨k,rfl,aq,q,am,H⟩ ab cg;unfold NQ;rw[aH];split
 ·rename_i U;have U:k<(e8 P).length:=by
   have:(k:Int)<(e8 P).length:=by simpa using U
   omega
  have aS:IntKind.i64.wrap ((k:Int)+1)=((k+1:Nat):Int):=by rw[wrap_i64 (by omega) (by omega)]; omega
  have hb:=afb H;obtain⟨a,Y⟩:=k3 (i:=(k:Int)) hb (by omega) (by omega);have F:(e8 P)[((k:Int)).toNat]?=some ((e8 P)[k]'U):=by rw[Int.toNat_natCast]; exact List.getElem?_eq_getElem U
  obtain⟨p,aF⟩:=tb _ (List.getElem_mem U);have wT:(e8 P)[k]?=some ((e8 P)[k]'U):=List.getElem?_eq_getElem U;generalize (e8 P)[k]'U=id at F aF wT;refine aR a Y ?_;refine aR id (my (fun _=>rfl) Y F hb) ?_;refine ak (x:=some q.jY) 0 H rfl rfl rfl ?_;refine mw 8 H rfl rfl ?_;obtain⟨fo,fx,dT,en,al⟩:=vx (Q:=q.Q) (id:=id) (p:=p) (by rw[am.1,fA]; exact aF);rw[al];refine OK (step k id p _ q w dT wT aF al am H) ?_;rintro _ w ⟨gu,yt,H⟩;rw[aS];exact cg _ _ ⟨k+1,rfl,by omega,gu,yt,H⟩ (by omega)
 ·rename_i U;have U:k=(e8 P).length:=by
   have:¬ (k:Int)<(e8 P).length:=by simpa using U
   omega
  subst U;exact⟨q,am,(afb H).drop⟩
theorem aDx{n:Nat}{P:List (Int×bP)}{ids:List Int}{k:Nat}{id:Int}{p:bP}(h:ids[k]?=some id)(aF:P.lookup id=some p):qu n P (ids.take (k+1))=qu n P (ids.take k)++j6 n p:=by
 have aq:=(List.getElem?_eq_some_iff.1 h).1;rw[List.take_succ_eq_append_getElem aq,(List.getElem?_eq_some_iff.1 h).2];unfold qu;rw[List.flatMap_append,List.flatMap_cons,List.flatMap_nil,List.append_nil,aF]
theorem acd{au:Nat}{y:bF}{i:Int}(k:la y)(H:E A (cn au y::m) w):M Pg 34 [.pointer (some ⟨au,0,none⟩),.int .i64 i] (B .i64) w fun r J=>r=(uq y i).2∧E A (cn au (uq y i).1::m) J:=by
 obtain⟨p,am,H⟩:=lh H;refine aiJ ?_;unfold V9 uq;refine bR H fun aA w H=>?_;refine ak (x:=(some ⟨au,0,none⟩:Option Addr)) 0 H rfl rfl rfl ?_;have H:E A (hS au y p (aJ aA (aE.cells (some ⟨au,0,none⟩)) 26::m)) w:=H.ord [1,2,3,4,5,6,0];have Z7:=zU am H;refine ap (sS am k.len.2 H) ?_;rintro r w (⟨I,rfl,H⟩ | ⟨I,a3,b,R,ba,a5,ag,rfl,H⟩)
 ·refine bR H fun cZ w H=>?_;refine dK (x:=(none:Option Addr)) 0 H rfl rfl (Nat.le_of_ble_eq_true rfl) fun w H=>?_;rw[if_pos (by simpa using I),vE I];exact⟨rfl,fU am ((H.front 7).drop.drop)⟩
 ·refine bR H fun cZ w H=>?_;refine dK (x:=(some ⟨a3,0,none⟩:Option Addr)) 0 H rfl rfl (Nat.le_of_ble_eq_true rfl) fun w H=>?_;rw[if_neg (by simp),p2 R a5 ag];have ok:=k.at a5;refine ak (x:=(some ⟨a3,0,none⟩:Option Addr)) 0 H rfl rfl rfl ?_;obtain⟨q,O,H⟩:=l_ (H.front 1);have H:E A (e9 a3 { b with out:=b.out++qu y.N.length b.P ((e8 b.P).take 0) } q ([aJ cZ (aE.cells (some ⟨a3,0,none⟩)) 89,aJ aA (aE.cells (some ⟨au,0,none⟩)) 26,aJ au (gY.cells (iU y p)) 114]++(row aE 89 1 p.nodes (p.Q.map k0)::dH ((p.Q.eraseIdx i.toNat).map hB)::Post.h0 p.a2 y.a2::dh fF .i64 p.kZ p.rB::row kB 53 3 p.told y.told::m))) w:=by
   have l:b.out++qu y.N.length b.P ((e8 b.P).take 0)=b.out:=by rw[List.take_zero]; exact List.append_nil _
   rw[l];exact H.ord [0,1,2,3,4,5,6,7,8,9,10,11,12,19]
  refine ap (YJ (hV:=cw.mk (.func 75) (List.toArray []) (List.toArray [.pointer (some ⟨aA,0,none⟩),.pointer (some ⟨cZ,0,none⟩)])) (P:=b.P) (fun D=>{ b with out:=b.out++qu y.N.length b.P ((e8 b.P).take D) }) (fun _=>[aJ cZ (aE.cells (some ⟨a3,0,none⟩)) 89,aJ aA (aE.cells (some ⟨au,0,none⟩)) 26,aJ au (gY.cells (iU y p)) 114]) (fun _=>rfl) ok.mc ok.l1 ?_ O H) ?_
  ·intro D id pl m q w dT bT al mv O H;refine⟨75,[],[.pointer (some ⟨aA,0,none⟩),.pointer (some ⟨cZ,0,none⟩)],rfl,anO,?_⟩;refine ajr ?_;unfold WO;refine ak (x:=(some ⟨au,0,none⟩:Option Addr)) 13 H rfl rfl rfl ?_;refine ak (x:=(some ⟨a3,0,none⟩:Option Addr)) 12 H rfl rfl rfl ?_;obtain⟨H4,fo,fx,l,en,H⟩:=Az O (id:=id) (p:=pl) al H;have:H4=dT:=by rw[l] at mv; cases mv; rfl
   subst this;have F:=AP (ok.mc _ _ al).2;have aKr:=(List.getElem?_eq_some_iff.1 bT).1;have s8:=ok.l1;have tc:(e8 b.P).length≤1000000:=by unfold e8; rw[(oq _).length_eq,List.length_map]; exact s8
   have arc:=ok.out;have B4:(b.out++qu y.N.length b.P ((e8 b.P).take D)).length≤900000000000:=by
    have:=Ox y.N.length b.P ((e8 b.P).take D);rw[List.length_take] at this;rw[List.length_append]; omega
   refine ap (Oy (c:=iU y p) (by have:=k.len.1; omega) (by omega) B4 (H.ord [15,0,1,12])) ?_;rintro _ w ⟨G,H⟩;rw[Z7] at H;refine⟨{ q with out:=G },O,?_⟩;have bb:b.out++qu y.N.length b.P ((e8 b.P).take (D+1))=b.out++qu y.N.length b.P ((e8 b.P).take D)++j6 y.N.length pl:=by rw[aDx bT al,List.append_assoc]
   rw[bb];exact EU (q:={ q with out:=G }) en (H.ord [1,2,4,5,6,7,8,9,10,11,12,13,3,14,15,0])
  ·rintro _ w ⟨gu,kJ,H⟩;simp only[List.take_length] at kJ H;have s8:=ok.l1;have tc:(e8 b.P).length≤1000000:=by unfold e8; rw[(oq _).length_eq,List.length_map]; exact s8
   have arc:=ok.out;have mP:=Ox y.N.length b.P (e8 b.P);have aat:HU y.N.length b={ b with out:=b.out++qu y.N.length b.P (e8 b.P)++r6 y.N.length b.W.v }:=rfl;rw[aat];clear aat;generalize ua:b.out++qu y.N.length b.P (e8 b.P)=Oc at *;have aKl:Oc.length≤800002000000:=by rw[← ua,List.length_append]; omega
   refine ak (x:=(some ⟨a3,0,none⟩:Option Addr)) 12 H rfl rfl rfl ?_;refine ch rfl ?_;refine ak (x:=some ⟨gu.jb,0,none⟩) 0 H rfl rfl rfl ?_;refine ap (zm (H.front 4)) ?_;rintro r w ⟨rfl,H⟩;refine ap (aad ok.hK.v (H.front 6)) ?_;intro r w H;have aa:=gG H;have apV:=PS ok.hK.v;have H:=(H.ord [3,4,5,6,2,7,1,8,9,10,11,12])
   have H:=(hq (b:={ b with out:=Oc }) kJ H)
   have aKv:(r6 y.N.length b.W.v).length=(gE b.W.v).length:=by unfold r6; rw[List.length_map]
   refine ia (fun t w=>∃ D:Nat,t=(D:Int)∧D≤(gE b.W.v).length∧E A (kr a3 { b with out:=Oc++(r6 y.N.length b.W.v).take D }::row lv 135 6 r (gE b.W.v)::aJ cZ (aE.cells (some ⟨a3,0,none⟩)) 89::aJ aA (aE.cells (some ⟨au,0,none⟩)) 26::h5 au y p i.toNat m) w) (fun t=>((gE b.W.v).length-t).toNat) ⟨0,rfl,by omega,by rw[List.take_zero,List.append_nil]; exact H⟩ ?_;clear H;rintro t w ⟨D,rfl,bT,H⟩ ab cg;unfold Nx;rw[aa];split
   ·rename_i U;have U:D<(gE b.W.v).length:=by
     have:(D:Int)<(gE b.W.v).length:=by simpa using U
     omega
    have aS:IntKind.i64.wrap ((D:Int)+1)=((D+1:Nat):Int):=by rw[wrap_i64 (by omega) (by omega)]; omega
    obtain⟨a,Y⟩:=k3 (i:=(D:Int)) (H.front 1) (by omega) (by omega);have F:(gE b.W.v)[((D:Int)).toNat]?=some ((gE b.W.v)[D]'U):=by rw[Int.toNat_natCast]; exact List.getElem?_eq_getElem U
    have iW:(r6 y.N.length b.W.v).take (D+1)=(r6 y.N.length b.W.v).take D++[⟨Int.tmod (gU ((gE b.W.v)[D]'U).Part.aD) y.N.length,rM ((gE b.W.v)[D]'U).Part.aD true ((gE b.W.v)[D]'U).b9⟩]:=by
     rw[List.take_succ_eq_append_getElem (by omega)];congr 2;unfold r6;rw[List.getElem_map]
    have hW:1≤((gE b.W.v)[D]'U).Part.aD∧((gE b.W.v)[D]'U).Part.aD≤4000000:=by
     have hm:=List.getElem_mem U;unfold gE at hm;obtain⟨id,hW,l⟩:=List.mem_map.1 hm;have hW:=(oq _).mem_iff.1 hW;obtain⟨h6,oN,rfl⟩:=List.mem_map.1 hW;have al:=Aq ok.hK.v.rF oN;have aK:=ok.hK.v.ids _ _ al;have bp:=ok.ids _ oN;have dz:(gE b.W.v)[D]'U=h6.2:=by rw[← Ee al]; exact l.symm
     rw[dz,aK.1];omega
    generalize (gE b.W.v)[D]'U=h at F iW hW;refine aR a Y ?_;refine aR h (my (fun _=>rfl) Y F (H.front 1)) ?_;refine bR H fun aJ2 w H=>?_;refine de (x:=q1) (S:=h) Ev 0 H rfl fun w H=>?_;refine dy H fun w H=>?_;refine ak (x:=(some ⟨a3,0,none⟩:Option Addr)) 3 H rfl rfl rfl ?_;refine ak (x:=(some ⟨au,0,none⟩:Option Addr)) 4 H rfl rfl rfl ?_;refine ak (x:=h.Part.aD) 0 H rfl rfl rfl ?_;refine ak (x:=h.Part.aD) 0 H rfl rfl rfl ?_;refine ak (x:=h.b9) 0 H rfl rfl rfl ?_;refine ap (S9 (by omega) H) ?_;rintro r w ⟨rfl,H⟩;rw[show Int.tdiv (h.Part.aD+1) 2=gU h.Part.aD from rfl];refine⟨bO aE (H.front 3) rfl rfl,bO aE (H.front 4) rfl rfl,bO (B .i64) H rfl rfl,bO (B .i64) H rfl rfl,?_⟩;refine ap (EJ (c:=iU y p) (by have:=k.len.1; omega) (H.front 5)) ?_;rintro r w ⟨rfl,H⟩;rw[Z7];have H:=H.ord [1,2,3,4,5,0]
    refine⟨bO aE (H.front 3) rfl rfl,bO (B .i64) H rfl rfl,bO (B .i64) H rfl rfl,bO (B .i64) H rfl rfl,?_⟩;refine ap (afW H) ?_;rintro r w ⟨rfl,H⟩;refine⟨bO aE (H.front 3) rfl rfl,bO aE (H.front 4) rfl rfl,bO (B .i64) H rfl rfl,?_⟩;obtain⟨AD,s_,H⟩:=l_ (H.front 1);refine ap (Lc s_ (by simp only[List.length_append,List.length_take]; omega) H) ?_;intro _ w H;refine⟨bO aE (H.front 4) rfl rfl,bO (B .i64) (H.front 1) rfl rfl,bO (B .i64) (H.front 1) rfl rfl,bO (B .i64) (H.front 1) rfl rfl,?_⟩;rw[aS];refine cg _ _ ⟨D+1,rfl,by omega,?_⟩ (by omega);rw[iW,← List.append_assoc];exact (H.front 1).drop
   ·rename_i U;have U:D=(gE b.W.v).length:=by
     have:¬ (D:Int)<(gE b.W.v).length:=by simpa using U
     omega
    subst U;have l:(r6 y.N.length b.W.v).take (gE b.W.v).length=r6 y.N.length b.W.v:=List.take_of_length_le (by omega);rw[l] at H;obtain⟨bD,H⟩:=rG am ba ((H.ord [1,2,3]).drop.drop.drop);exact⟨rfl,fU bD H⟩
end
abbrev Told:=bk
abbrev is:=kB
structure kC where
 ax:hz
 known:Int→Bool
 told:List Told
def kC.hN(s:kC)(id:Int)(p:bP):kC:={ s with known:=fun x=>x==id||s.known x,told:=s.told++[⟨id,p.b8,p.at_⟩] }
def oZ(b:br)(s:kC)(id:Int)(p:bP):kC:=
 if (s.known id||!(b.sure id))=true then s
 else if p.b8=2 then
  if (!((fj s.ax b.cO).2.2==0&&decide (p.at_<(fj s.ax b.cO).2.1.g7)))=true then { s with ax:=(fj s.ax b.cO).1 } else kC.hN { s with ax:=(fj s.ax b.cO).1 } id p
 else s.hN id p
def rK(b:br)(s:kC)(id:Int):kC:=match b.P.lookup id with
 |some p=>oZ b s id p
 |none=>s
def lM(b:br)(s:kC)(ids:List Int):kC:=ids.foldl (rK b) s
def S5(y:bF)(i:Nat)(b:br)(s:kC):bF:={ k5 y i { b with ax:=s.ax } with known:=s.known,told:=s.told }
def tt(y:bF)(i:Int):bF×Int:=
 if gd y i≠0 then (y,gd y i) else match y.N[i.toNat]? with
  |some b=>(S5 y i.toNat b (lM b ⟨b.ax,y.known,y.told⟩ (e8 b.P)),0)
  |none=>(y,202)
theorem aIp{b:br}{s:kC}{id:Int}{p:bP}(h:jl s.ax):jl (oZ b s id p).ax:=by
 unfold oZ kC.hN;split
 ·exact h
 ·split
  ·split
   ·exact (h.now _).1
   ·exact (h.now _).1
  ·exact h
theorem aIq{b:br}{s:kC}{id:Int}{p:bP}:(oZ b s id p).told.length≤s.told.length+1:=by
 unfold oZ kC.hN;split
 ·omega
 ·split
  ·split
   ·simp
   ·simp
  ·simp
theorem S6{b:br}:∀ (ids:List Int) (s:kC),jl s.ax→jl (lM b s ids).ax∧(lM b s ids).told.length≤s.told.length+ids.length
 |[],s,h=>⟨h,by simp[lM]⟩
 |id::ids,s,h=>by
  have I:jl (rK b s id).ax∧(rK b s id).told.length≤s.told.length+1:=by
   unfold rK;split
   ·exact⟨aIp h,aIq⟩
   ·exact⟨h,by omega⟩
  have R:=S6 (b:=b) ids (rK b s id) I.1;refine⟨R.1,?_⟩;have aK:=R.2;rw[List.length_cons];show (lM b (rK b s id) ids).told.length≤_
  omega
theorem aIr{b:br}{s:kC}{ids:List Int}{k:Nat}{id:Int}{p:bP}(h:ids[k]?=some id)(aF:b.P.lookup id=some p):lM b s (ids.take (k+1))=oZ b (lM b s (ids.take k)) id p:=by
 have aq:=(List.getElem?_eq_some_iff.1 h).1;rw[List.take_succ_eq_append_getElem aq,(List.getElem?_eq_some_iff.1 h).2];unfold lM;rw[List.foldl_append,List.foldl_cons,List.foldl_nil];unfold rK;rw[aF]
def zj(au:Nat)(y:bF)(p:kz)(s:kC):bE:=h8 fun z:af×List (Int×Dy)=>dH [lG (∀ x,(List.lookup x z.2).isSome=s.known x),aJ au (gY.cells (iU y { p with told:=z.1 })) 114,dh fF .i64 p.kZ z.2,row is 53 3 z.1 s.told]
section
variable {A w:World} {m bX:List bE}
theorem afv{au:Nat}{y:bF}{p:kz}{s:kC}(H:E A (zj au y p s::m) w):∃ z:af×List (Int×Dy),(∀ x,(List.lookup x z.2).isSome=s.known x)∧E A (aJ au (gY.cells (iU y { p with told:=z.1 })) 114::dh fF .i64 p.kZ z.2::row is 53 3 z.1 s.told::m) w:=by
 obtain⟨z,H⟩:=H.ex;obtain⟨h,H⟩:=E.vJ H.open_;exact⟨z,h,H⟩
theorem afw{au:Nat}{y:bF}{p:kz}{s:kC}{z:af×List (Int×Dy)}(h:∀ x,(List.lookup x z.2).isSome=s.known x)(H:E A (aJ au (gY.cells (iU y { p with told:=z.1 })) 114::dh fF .i64 p.kZ z.2::row is 53 3 z.1 s.told::m) w):E A (zj au y p s::m) w:=
 E.mU z (E.shut (bX:=[lG _,_,_,_]) (E.v1 h H))
theorem aIs{au a3 aA cZ dT:Nat}{y:bF}{p:kz}{b:br}{s:kC}{q:kT}{id:Int}{pl:bP}{fo fx:List (Int×Nat×bP)}(O:Fits b q)(en:q.Q=fo++(id,dT,pl)::fx)(apz:jl s.ax)(a5:b.ax=s.ax)(qn:-9000000000000000000≤b.cO∧b.cO≤9000000000000000000)(aT:s.told.length≤200000000000)
  (H:E A (AL a3 b q dT pl fo fx (aJ cZ (aE.cells (some ⟨a3,0,none⟩)) 89::aJ aA (aE.cells (some ⟨au,0,none⟩)) 26::zj au y p s::m)) w) :
  M Pg 104 [.int .i64 id,.pointer (some ⟨dT,0,none⟩),.pointer (some ⟨cZ,0,none⟩),.pointer (some ⟨aA,0,none⟩)] eh w fun _ J=>
   Fits { b with ax:=(oZ b s id pl).ax } q∧E A (e9 a3 { b with ax:=(oZ b s id pl).ax } q (aJ cZ (aE.cells (some ⟨a3,0,none⟩)) 89::aJ aA (aE.cells (some ⟨au,0,none⟩)) 26::zj au y p (oZ b s id pl)::m)) J:=by
 refine agr ?_;unfold TV;refine ap (Cx H) ?_;rintro r w ⟨rfl,H⟩;have H:=EU en H;refine ak (x:=(some ⟨a3,0,none⟩:Option Addr)) 12 H rfl rfl rfl ?_;refine ch rfl ?_;refine ak (x:=some q.pv) 0 H rfl rfl rfl ?_;refine mw 10 H rfl rfl ?_;refine bR H fun fS w H=>?_;refine de (x:=q2) (S:=_) (n:=0) (fun _=>rfl) 0 H rfl fun w H=>?_;have H:=H.drop;refine ak (x:=(some ⟨au,0,none⟩:Option Addr)) 13 H rfl rfl rfl ?_;refine ch rfl ?_;obtain⟨z,bN,H⟩:=afv (H.front 14);refine ak (x:=some p.kZ) 0 H rfl rfl rfl ?_;refine mw 1 H rfl rfl ?_;refine bR H fun rV w H=>?_;refine de (x:=q2) (S:=_) (n:=0) (fun _=>rfl) 0 H rfl fun w H=>?_;have H:=H.drop
 have fin:∀ (fO:kC) (z:af×List (Int×Dy)) (w:World),(∀ x,(List.lookup x z.2).isSome=fO.known x)→E A (aJ au (gY.cells (iU y { p with told:=z.1 })) 114::dh fF .i64 p.kZ z.2::row is 53 3 z.1 fO.told::e9 a3 { b with ax:=fO.ax } q (aJ cZ (aE.cells (some ⟨a3,0,none⟩)) 89::aJ aA (aE.cells (some ⟨au,0,none⟩)) 26::m)) w →
   Fits { b with ax:=fO.ax } q∧E A (e9 a3 { b with ax:=fO.ax } q (aJ cZ (aE.cells (some ⟨a3,0,none⟩)) 89::aJ aA (aE.cells (some ⟨au,0,none⟩)) 26::zj au y p fO::m)) w:=by
  intro fO z w bN H;exact⟨O,(afw bN H).ord [1,2,3,4,5,6,7,8,9,10,11,12,13,14]⟩
 have hj:∀ (fO:kC) (w:World),fO.known=s.known→fO.told=s.told→E A (aJ au (gY.cells (iU y { p with told:=z.1 })) 114::dh fF .i64 p.kZ z.2::row is 53 3 z.1 s.told::e9 a3 { b with ax:=fO.ax } q (aJ cZ (aE.cells (some ⟨a3,0,none⟩)) 89::aJ aA (aE.cells (some ⟨au,0,none⟩)) 26::m)) w →
   Fm id ⟨aA,0,none⟩ (pl.b8,pl.at_) w fun _ J=>Fits { b with ax:=(fO.hN id pl).ax } q∧E A (e9 a3 { b with ax:=(fO.hN id pl).ax } q (aJ cZ (aE.cells (some ⟨a3,0,none⟩)) 89::aJ aA (aE.cells (some ⟨au,0,none⟩)) 26::zj au y p (fO.hN id pl)::m)) J:=by
  intro fO w mu jG H;unfold Fm;refine ak (x:=(some ⟨au,0,none⟩:Option Addr)) 16 H rfl rfl rfl ?_;refine ch rfl ?_;refine ak (x:=some p.kZ) 0 H rfl rfl rfl ?_;refine sf 1 H rfl rfl fun w H=>?_;refine dy H fun w H=>?_;refine ak (x:=(some ⟨au,0,none⟩:Option Addr)) 16 H rfl rfl rfl ?_;refine ak (x:=(some ⟨au,0,none⟩:Option Addr)) 16 H rfl rfl rfl ?_;refine ch rfl ?_;refine ak (x:=z.1) 1 H rfl rfl rfl ?_;refine nF (fun _=>rfl) 2 H rfl (by simp; omega) fun r w H=>?_;refine⟨bO aE (H.front 16) rfl rfl,bO aE (H.front 16) rfl rfl,?_⟩;refine ch rfl ?_;refine dK (x:=r) 2 H rfl rfl (Nat.le_of_ble_eq_true rfl) fun w H=>?_;refine fin (fO.hN id pl) (r,eZ id ⟨⟩ z.2) w (fun x=>?_) ?_
  ·show (List.lookup x (eZ id ⟨⟩ z.2)).isSome=(x==id||fO.known x)
   rw[tg,mu];cases x==id
   ·simp[bN x]
   ·simp
  ·have l:(fO.hN id pl).told=s.told++[⟨id,pl.b8,pl.at_⟩]:=by rw[← jG]; rfl
   rw[l];exact H.ord [0,2,1]
 simp only;rw[bN id,O.2 id];by_cases bx:(s.known id||!(b.sure id))=true
 ·rw[if_pos bx];have l:oZ b s id pl=s:=by unfold oZ; rw[if_pos bx]
  rw[l];refine fin s z w bN ?_;rw[← a5];exact H
 ·rw[if_neg bx];by_cases bK:pl.b8=2
  ·rw[if_pos (by simpa using bK)];refine dy H fun w H=>?_;refine ak (x:=(some ⟨a3,0,none⟩:Option Addr)) 15 H rfl rfl rfl ?_;refine ch rfl ?_;refine ak (x:=(some ⟨q.ax,0,none⟩:Option Addr)) 3 H rfl rfl rfl ?_;refine ak (x:=(some ⟨a3,0,none⟩:Option Addr)) 15 H rfl rfl rfl ?_;refine ch rfl ?_;refine ak (x:=b.cO) 3 H rfl rfl rfl ?_;refine ap (aEJ (t:=pl.at_) (by rw[a5]; exact apz) qn (H.front 4)) ?_;rintro r w ⟨rfl,H⟩;rw[a5] at H ⊢;refine⟨bO aE (H.front 15) rfl rfl,bO aE (H.front 15) rfl rfl,?_⟩;have H:E A (aJ au (gY.cells (iU y { p with told:=z.1 })) 114::dh fF .i64 p.kZ z.2::row is 53 3 z.1 s.told::e9 a3 { b with ax:=(fj s.ax b.cO).1 } q (aJ cZ (aE.cells (some ⟨a3,0,none⟩)) 89::aJ aA (aE.cells (some ⟨au,0,none⟩)) 26::m)) w:=H.ord [1,2,3,4,0];simp only;by_cases ck:(!((fj s.ax b.cO).2.2==0&&decide (pl.at_<(fj s.ax b.cO).2.1.g7)))=true
   ·rw[if_pos ck];have l:oZ b s id pl={ s with ax:=(fj s.ax b.cO).1 }:=by unfold oZ; rw[if_neg bx,if_pos bK,if_pos ck]
    rw[l];exact fin { s with ax:=(fj s.ax b.cO).1 } z w bN H
   ·rw[if_neg ck];have l:oZ b s id pl=kC.hN { s with ax:=(fj s.ax b.cO).1 } id pl:=by unfold oZ; rw[if_neg bx,if_pos bK,if_neg ck]
    rw[l];exact hj { s with ax:=(fj s.ax b.cO).1 } w rfl rfl H
  ·rw[if_neg (by simpa using bK)];have l:oZ b s id pl=s.hN id pl:=by unfold oZ; rw[if_neg bx,if_neg bK]
   rw[l];refine hj s w rfl rfl ?_;rw[← a5];exact H
theorem afr{au:Nat}{y:bF}{i:Int}(k:la y)(H:E A (cn au y::m) w):M Pg 49 [.pointer (some ⟨au,0,none⟩),.int .i64 i] (B .i64) w fun r J=>r=(tt y i).2∧E A (cn au (tt y i).1::m) J:=by
 obtain⟨p,am,H⟩:=lh H;refine aiZ ?_;unfold Wo;refine bR H fun aA w H=>?_;refine ak (x:=(some ⟨au,0,none⟩:Option Addr)) 0 H rfl rfl rfl ?_;have H:E A (hS au y p (aJ aA (aE.cells (some ⟨au,0,none⟩)) 26::m)) w:=H.ord [1,2,3,4,5,6,0];refine ap (sS am k.len.2 H) ?_;rintro r w (⟨I,rfl,H⟩ | ⟨I,a3,b,R,ba,a5,ag,rfl,H⟩)
 ·refine bR H fun cZ w H=>?_;refine dK (x:=(none:Option Addr)) 0 H rfl rfl (Nat.le_of_ble_eq_true rfl) fun w H=>?_;have l:tt y i=(y,gd y i):=by unfold tt; rw[if_pos I]
  rw[if_pos (by simpa using I),l];exact⟨rfl,fU am ((H.front 7).drop.drop)⟩
 ·refine bR H fun cZ w H=>?_;refine dK (x:=(some ⟨a3,0,none⟩:Option Addr)) 0 H rfl rfl (Nat.le_of_ble_eq_true rfl) fun w H=>?_;have l:tt y i=(S5 y i.toNat b (lM b ⟨b.ax,y.known,y.told⟩ (e8 b.P)),0):=by unfold tt; rw[if_neg (fun h=>h I),a5]
  rw[if_neg (by simp),l];clear l;have ok:=k.at a5;refine ak (x:=(some ⟨a3,0,none⟩:Option Addr)) 0 H rfl rfl rfl ?_;obtain⟨q,O,H⟩:=l_ (H.front 1);have H:=afw (y:=y) (p:=p) (s:=⟨b.ax,y.known,y.told⟩) (z:=(p.told,p.rB)) am.2 (H.ord [13,17,18]);have H:E A (e9 a3 { b with ax:=(lM b ⟨b.ax,y.known,y.told⟩ ((e8 b.P).take 0)).ax } q ([aJ cZ (aE.cells (some ⟨a3,0,none⟩)) 89,aJ aA (aE.cells (some ⟨au,0,none⟩)) 26,zj au y p (lM b ⟨b.ax,y.known,y.told⟩ ((e8 b.P).take 0))]++(row aE 89 1 p.nodes (p.Q.map k0)::dH ((p.Q.eraseIdx i.toNat).map hB)::Post.h0 p.a2 y.a2::m))) w:=by
   rw[List.take_zero];exact H.ord [1,2,3,4,5,6,7,8,9,10,11,12,13,17,0]
  have s8:=ok.l1;have yD:=k.told;have tc:(e8 b.P).length≤1000000:=by unfold e8; rw[(oq _).length_eq,List.length_map]; exact s8
  refine ap (YJ (hV:=cw.mk (.func 104) (List.toArray []) (List.toArray [.pointer (some ⟨cZ,0,none⟩),.pointer (some ⟨aA,0,none⟩)])) (P:=b.P) (fun D=>{ b with ax:=(lM b ⟨b.ax,y.known,y.told⟩ ((e8 b.P).take D)).ax }) (fun D=>[aJ cZ (aE.cells (some ⟨a3,0,none⟩)) 89,aJ aA (aE.cells (some ⟨au,0,none⟩)) 26,zj au y p (lM b ⟨b.ax,y.known,y.told⟩ ((e8 b.P).take D))]) (fun _=>rfl) ok.mc ok.l1 ?_ O H) ?_
  ·intro D id pl m q w dT bT al mv O H;refine⟨104,[],[.pointer (some ⟨cZ,0,none⟩),.pointer (some ⟨aA,0,none⟩)],rfl,amY,?_⟩;obtain⟨H4,fo,fx,l,en,H⟩:=Az O (id:=id) (p:=pl) al H;have:H4=dT:=by rw[l] at mv; cases mv; rfl
   subst this;have aH:=S6 (b:=b) ((e8 b.P).take D) ⟨b.ax,y.known,y.told⟩ ok.hK.ax;have Kt:=aH.2;rw[List.length_take] at Kt;simp only at Kt;have Ah:=aIr (s:=⟨b.ax,y.known,y.told⟩) bT al;have aaE:=aIs (au:=au) (aA:=aA) (cZ:=cZ) (y:=y) (p:=p) (s:=lM b ⟨b.ax,y.known,y.told⟩ ((e8 b.P).take D)) O en aH.1 rfl ok.hK.rd (by omega) H;refine ap aaE ?_;rintro _ w ⟨s_,H⟩;refine⟨q,s_,?_⟩;show E A (e9 a3 { b with ax:=(lM b ⟨b.ax,y.known,y.told⟩ ((e8 b.P).take (D+1))).ax } q ([_,_,zj au y p (lM b ⟨b.ax,y.known,y.told⟩ ((e8 b.P).take (D+1)))]++m)) w
   rw[Ah];exact H
  ·rintro _ w ⟨gu,kJ,H⟩;simp only[List.take_length] at kJ H;obtain⟨z,bN,H⟩:=afv (H.front 14);have H:=hq kJ ((H.ord [3,4,5,6,7,8,9,10,11,12,13,14]));have H:E A (kr a3 _::h5 au { y with known:=(lM b ⟨b.ax,y.known,y.told⟩ (e8 b.P)).known,told:=(lM b ⟨b.ax,y.known,y.told⟩ (e8 b.P)).told } { p with told:=z.1,rB:=z.2 } i.toNat m) w:=((H.ord [4,5]).drop.drop).ord [0,1,4,5,6,2,3];obtain⟨bD,H⟩:=rG (y:={ y with known:=(lM b ⟨b.ax,y.known,y.told⟩ (e8 b.P)).known,told:=(lM b ⟨b.ax,y.known,y.told⟩ (e8 b.P)).told }) (p:={ p with told:=z.1,rB:=z.2 }) ⟨am.1,bN⟩ ba H;exact⟨rfl,fU bD H⟩
end
end Cluster
end Go.Proofs.YthaobmpdjcoheaaGreat
