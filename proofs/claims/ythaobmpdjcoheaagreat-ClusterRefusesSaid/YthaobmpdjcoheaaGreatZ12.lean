/- Own texts of this claim, part 12: short, merged. -/
import Derived.Shelf.SlIterI.Nil
import Derived.Shelf.SlIterI.Sorted
import Derived.Shelf.SortM.Plain
import Derived.Shelf.SortM.SortNone
import Derived.Ground.GgzProg
import Derived.Ground.SlgmProg
import Derived.Test.YthaobmpdjcoheaaGreatProg
import Derived.Test.YthaobmpdjcoheaaGreatZ11
set_option exponentiation.threshold 4000
set_option maxRecDepth 100000
set_option maxHeartbeats 40000000
set_option linter.defProp false
set_option linter.unusedVariables false
set_option linter.unusedSimpArgs false
namespace Go.Proofs.YthaobmpdjcoheaaGreat
end Go.Proofs.YthaobmpdjcoheaaGreat
namespace Go.Proofs
open Go.Shelf
def Tryz.abc:Go.Shelf.Ren:=⟨fun | 7=>173 | 10=>225 | n=>n,fun | 23=>216 | 26=>3 | 3=>290 | 28=>132 | 0=>0 | 27=>131 | 33=>88 | 4=>4 | n=>n,fun | n=>n⟩
theorem Tryz.QF:Go.Proofs.SlLaysZI.n7 Tryz.prog Tryz.abc:={
 mixed:=by kernel_rfl
 f7:=⟨Tryz.f173.name,by decide,Tryz.func173.trans (congrArg some (by kernel_rfl))⟩
 f10:=⟨Tryz.f225.name,by decide,Tryz.func225.trans (congrArg some (by kernel_rfl))⟩
 t0:=Tryz.underlying0
 a0:=Tryz.isAgg0
 z0:=Tryz.sizeOf0
 v0:=Tryz.zeroValue0
 t4:=Tryz.underlying4
 a4:=Tryz.isAgg4
 z4:=Tryz.sizeOf4
 v4:=Tryz.zeroValue4
 t23:=Tryz.underlying216
 a23:=Tryz.isAgg216
 z23:=Tryz.sizeOf216
 v23:=Tryz.zeroValue216
 t26:=Tryz.underlying3
 a26:=Tryz.isAgg3
 z26:=Tryz.sizeOf3
 v26:=Tryz.zeroValue3
 t27:=Tryz.underlying131
 a27:=Tryz.isAgg131
 z27:=Tryz.sizeOf131
 v27:=Tryz.zeroValue131
 t28:=Tryz.underlying132
 a28:=Tryz.isAgg132
 z28:=Tryz.sizeOf132
 v28:=Tryz.zeroValue132
 t33:=Tryz.underlying88
 a33:=Tryz.isAgg88
 z33:=Tryz.sizeOf88
 v33:=Tryz.zeroValue88 }
def Tryz.abd:Go.Shelf.Ren:=⟨fun | 7=>60 | 10=>110 | n=>n,fun | 23=>68 | 26=>3 | 3=>135 | 28=>132 | 0=>0 | 27=>131 | 33=>88 | 4=>4 | n=>n,fun | n=>n⟩
theorem Tryz.QG:Go.Proofs.SlLaysZI.n7 Tryz.prog Tryz.abd:={
 mixed:=by kernel_rfl
 f7:=⟨Tryz.f60.name,by decide,Tryz.func60.trans (congrArg some (by kernel_rfl))⟩
 f10:=⟨Tryz.f110.name,by decide,Tryz.func110.trans (congrArg some (by kernel_rfl))⟩
 t0:=Tryz.underlying0
 a0:=Tryz.isAgg0
 z0:=Tryz.sizeOf0
 v0:=Tryz.zeroValue0
 t4:=Tryz.underlying4
 a4:=Tryz.isAgg4
 z4:=Tryz.sizeOf4
 v4:=Tryz.zeroValue4
 t23:=Tryz.underlying68
 a23:=Tryz.isAgg68
 z23:=Tryz.sizeOf68
 v23:=Tryz.zeroValue68
 t26:=Tryz.underlying3
 a26:=Tryz.isAgg3
 z26:=Tryz.sizeOf3
 v26:=Tryz.zeroValue3
 t27:=Tryz.underlying131
 a27:=Tryz.isAgg131
 z27:=Tryz.sizeOf131
 v27:=Tryz.zeroValue131
 t28:=Tryz.underlying132
 a28:=Tryz.isAgg132
 z28:=Tryz.sizeOf132
 v28:=Tryz.zeroValue132
 t33:=Tryz.underlying88
 a33:=Tryz.isAgg88
 z33:=Tryz.sizeOf88
 v33:=Tryz.zeroValue88 }
def Tryz.abe:Go.Shelf.Ren:=⟨fun | 7=>125 | 10=>176 | n=>n,fun | 23=>97 | 26=>3 | 3=>127 | 28=>132 | 0=>0 | 27=>131 | 33=>88 | 4=>4 | n=>n,fun | n=>n⟩
theorem Tryz.aBz:Go.Proofs.SlLaysZI.n7 Tryz.prog Tryz.abe:={
 mixed:=by kernel_rfl
 f7:=⟨Tryz.f125.name,by decide,Tryz.func125.trans (congrArg some (by kernel_rfl))⟩
 f10:=⟨Tryz.f176.name,by decide,Tryz.func176.trans (congrArg some (by kernel_rfl))⟩
 t0:=Tryz.underlying0
 a0:=Tryz.isAgg0
 z0:=Tryz.sizeOf0
 v0:=Tryz.zeroValue0
 t4:=Tryz.underlying4
 a4:=Tryz.isAgg4
 z4:=Tryz.sizeOf4
 v4:=Tryz.zeroValue4
 t23:=Tryz.underlying97
 a23:=Tryz.isAgg97
 z23:=Tryz.sizeOf97
 v23:=Tryz.zeroValue97
 t26:=Tryz.underlying3
 a26:=Tryz.isAgg3
 z26:=Tryz.sizeOf3
 v26:=Tryz.zeroValue3
 t27:=Tryz.underlying131
 a27:=Tryz.isAgg131
 z27:=Tryz.sizeOf131
 v27:=Tryz.zeroValue131
 t28:=Tryz.underlying132
 a28:=Tryz.isAgg132
 z28:=Tryz.sizeOf132
 v28:=Tryz.zeroValue132
 t33:=Tryz.underlying88
 a33:=Tryz.isAgg88
 z33:=Tryz.sizeOf88
 v33:=Tryz.zeroValue88 }
def Tryz.aeP:Go.Shelf.Ren:=⟨fun | 6=>59 | 8=>108 | 9=>109 | 11=>163 | 13=>165 | 12=>164 | 23=>209 | 24=>154 | 14=>200 | 15=>201 | 16=>202 | 17=>203 | 18=>204 | 19=>205 | 20=>206 | 21=>207 | 22=>208 | 25=>237 | 26=>238 | 27=>239 | 28=>240 | 29=>241 | 30=>242 | 31=>257 | n=>n,fun | 26=>3 | 28=>132 | 24=>33 | 0=>0 | 3=>3 | 37=>270 | 48=>308 | 50=>195 | 4=>4 | 40=>314 | 39=>313 | 45=>319 | 5=>5 | 9=>9 | 51=>338 | 55=>341 | 57=>355 | 58=>356 | 33=>88 | n=>n,fun | n=>n⟩
theorem Tryz.Sv:Go.Proofs.SlLaysZI.n6 Tryz.prog Tryz.aeP:={
 mixed:=by kernel_rfl
 f6:=⟨Tryz.f59.name,by decide,Tryz.func59.trans (congrArg some (by kernel_rfl))⟩
 f8:=⟨Tryz.f108.name,by decide,Tryz.func108.trans (congrArg some (by kernel_rfl))⟩
 f11:=⟨Tryz.f163.name,by decide,Tryz.func163.trans (congrArg some (by kernel_rfl))⟩
 t0:=Tryz.underlying0
 a0:=Tryz.isAgg0
 z0:=Tryz.sizeOf0
 v0:=Tryz.zeroValue0
 t24:=Tryz.underlying33
 a24:=Tryz.isAgg33
 z24:=Tryz.sizeOf33
 v24:=Tryz.zeroValue33
 t26:=Tryz.underlying3
 a26:=Tryz.isAgg3
 z26:=Tryz.sizeOf3
 v26:=Tryz.zeroValue3
 t28:=Tryz.underlying132
 a28:=Tryz.isAgg132
 z28:=Tryz.sizeOf132
 v28:=Tryz.zeroValue132
 i26:=by kernel_rfl }
def Tryz.aHj:Go.Shelf.Ren:=⟨fun | 5=>109 | 8=>165 | 7=>164 | 19=>209 | 20=>154 | 10=>200 | 11=>201 | 12=>202 | 13=>203 | 14=>204 | 15=>205 | 16=>206 | 17=>207 | 18=>208 | 30=>237 | 31=>238 | 32=>239 | 33=>240 | 34=>241 | 35=>242 | 40=>257 | n=>n,fun | 23=>33 | 25=>3 | 3=>3 | 32=>270 | 22=>33 | 0=>0 | 44=>308 | 46=>195 | 4=>4 | 36=>314 | 35=>313 | 41=>319 | 5=>5 | 9=>9 | 53=>338 | 57=>341 | 63=>355 | 64=>356 | n=>n,fun | n=>n⟩
theorem Tryz.aeO:Go.Proofs.SlLaysM.n5 Tryz.prog Tryz.aHj:={
 mixed:=by kernel_rfl
 f5:=⟨Tryz.f109.name,by decide,Tryz.func109.trans (congrArg some (by kernel_rfl))⟩
 f7:=⟨Tryz.f164.name,by decide,Tryz.func164.trans (congrArg some (by kernel_rfl))⟩
 f8:=Tryz.func165.trans (congrArg some (by kernel_rfl))
 f10:=⟨Tryz.f200.name,by decide,Tryz.func200.trans (congrArg some (by kernel_rfl))⟩
 f11:=⟨Tryz.f201.name,by decide,Tryz.func201.trans (congrArg some (by kernel_rfl))⟩
 f12:=⟨Tryz.f202.name,by decide,Tryz.func202.trans (congrArg some (by kernel_rfl))⟩
 f13:=⟨Tryz.f203.name,by decide,Tryz.func203.trans (congrArg some (by kernel_rfl))⟩
 f14:=⟨Tryz.f204.name,by decide,Tryz.func204.trans (congrArg some (by kernel_rfl))⟩
 f15:=⟨Tryz.f205.name,by decide,Tryz.func205.trans (congrArg some (by kernel_rfl))⟩
 f16:=⟨Tryz.f206.name,by decide,Tryz.func206.trans (congrArg some (by kernel_rfl))⟩
 f17:=⟨Tryz.f207.name,by decide,Tryz.func207.trans (congrArg some (by kernel_rfl))⟩
 f18:=⟨Tryz.f208.name,by decide,Tryz.func208.trans (congrArg some (by kernel_rfl))⟩
 f19:=Tryz.func209.trans (congrArg some (by kernel_rfl))
 f20:=Tryz.func154.trans (congrArg some (by kernel_rfl))
 f30:=⟨Tryz.f237.name,by decide,Tryz.func237.trans (congrArg some (by kernel_rfl))⟩
 f31:=Tryz.func238.trans (congrArg some (by kernel_rfl))
 f32:=Tryz.func239.trans (congrArg some (by kernel_rfl))
 f33:=⟨Tryz.f240.name,by decide,Tryz.func240.trans (congrArg some (by kernel_rfl))⟩
 f34:=⟨Tryz.f241.name,by decide,Tryz.func241.trans (congrArg some (by kernel_rfl))⟩
 f35:=⟨Tryz.f242.name,by decide,Tryz.func242.trans (congrArg some (by kernel_rfl))⟩
 f40:=⟨Tryz.f257.name,by decide,Tryz.func257.trans (congrArg some (by kernel_rfl))⟩
 t0:=Tryz.underlying0
 a0:=Tryz.isAgg0
 z0:=Tryz.sizeOf0
 v0:=Tryz.zeroValue0
 t3:=Tryz.underlying3
 a3:=Tryz.isAgg3
 z3:=Tryz.sizeOf3
 v3:=Tryz.zeroValue3
 t4:=Tryz.underlying4
 a4:=Tryz.isAgg4
 z4:=Tryz.sizeOf4
 v4:=Tryz.zeroValue4
 t5:=Tryz.underlying5
 a5:=Tryz.isAgg5
 z5:=Tryz.sizeOf5
 v5:=Tryz.zeroValue5
 t9:=Tryz.underlying9
 a9:=Tryz.isAgg9
 z9:=Tryz.sizeOf9
 v9:=Tryz.zeroValue9
 t22:=Tryz.underlying33
 a22:=Tryz.isAgg33
 z22:=Tryz.sizeOf33
 v22:=Tryz.zeroValue33
 t23:=Tryz.underlying33
 a23:=Tryz.isAgg33
 z23:=Tryz.sizeOf33
 v23:=Tryz.zeroValue33
 t25:=Tryz.underlying3
 a25:=Tryz.isAgg3
 z25:=Tryz.sizeOf3
 v25:=Tryz.zeroValue3
 t32:=Tryz.underlying270
 a32:=Tryz.isAgg270
 z32:=Tryz.sizeOf270
 v32:=Tryz.zeroValue270
 t35:=Tryz.underlying313
 a35:=Tryz.isAgg313
 z35:=Tryz.sizeOf313
 v35:=Tryz.zeroValue313
 t36:=Tryz.underlying314
 a36:=Tryz.isAgg314
 z36:=Tryz.sizeOf314
 v36:=Tryz.zeroValue314
 t41:=Tryz.underlying319
 a41:=Tryz.isAgg319
 z41:=Tryz.sizeOf319
 v41:=Tryz.zeroValue319
 t44:=Tryz.underlying308
 a44:=Tryz.isAgg308
 z44:=Tryz.sizeOf308
 v44:=Tryz.zeroValue308
 t46:=Tryz.underlying195
 a46:=Tryz.isAgg195
 z46:=Tryz.sizeOf195
 v46:=Tryz.zeroValue195
 t53:=Tryz.underlying338
 a53:=Tryz.isAgg338
 z53:=Tryz.sizeOf338
 v53:=Tryz.zeroValue338
 t57:=Tryz.underlying341
 a57:=Tryz.isAgg341
 z57:=Tryz.sizeOf341
 v57:=Tryz.zeroValue341
 t63:=Tryz.underlying355
 a63:=Tryz.isAgg355
 z63:=Tryz.sizeOf355
 v63:=Tryz.zeroValue355
 t64:=Tryz.underlying356
 a64:=Tryz.isAgg356
 z64:=Tryz.sizeOf356
 v64:=Tryz.zeroValue356 }
end Go.Proofs
namespace Go.Proofs.YthaobmpdjcoheaaGreat
namespace bb
open Go.RowKit Go.Maps Go.Sort Go.Shelf Go.WideElems
section
variable {A w:World} {m:List bu} {Z:Type} {T:bn Z}
theorem Sw(y:Nat):AnyZI.SortsIn Pg Tryz.aeP Fence.wide y:=
  ⟨fun kk off cap nc A aoo ao2 nu=>callsIn_wide.2 (AnyM.slices_Sort_int Tryz.aeO kk off cap nc A aoo ao2 nu),
   fun p cap A=>callsIn_wide.2 (AnyM.slices_Sort_int_none Tryz.aeO p cap A)⟩
theorem insert_perm{H:Type}(x:Lit×DataW H):∀ r,(DataW.insert x r).Perm (x::r)
 |[]=>List.Perm.refl _
 |S::r=>by
  unfold DataW.insert;split
  ·exact List.Perm.refl _
  ·exact ((insert_perm x r).cons S).trans (List.Perm.swap x S r)
theorem OS{H:Type}:∀ r:List (Lit×DataW H),(r.foldr DataW.insert []).Perm r
 |[]=>List.Perm.refl _
 |x::r=>(insert_perm x _).trans ((OS r).cons x)
def I9(v:Value):Option (DataW Unit×List MemPlace):=some (.nil,[])
theorem Ru{k:TypeId}{r:Nat}{es:List (Int×Z)}{arr:Array MapEntry}{c:Nat}(aq:Tryz.prog.underlying k=some (.int .i64))(ab:∀ p∈es,-9223372036854775808≤p.1∧p.1≤9223372036854775807)(hm:es.length≤9223372036854775807)
  (I:sw T .i64 arr es) (ao:qM arr c) (O:(es.map (·.1)).Nodup) (cn:w.heap[r]?=some (.map arr c)) :
  ∃ ni:DataW Unit,w.ownsMap Pg k I9 r arr.size ni∧(intKeys ni).Perm (es.map (·.1))∧Maps.size ni=es.length:=by
 have rX:arr.toList.map (·.key)=es.map fun p=>Value.int .i64 p.1:=by
  have:=congrArg (List.map Prod.fst) I;simpa[List.map_map,Function.comp_def] using this
 have g1:arr.size=es.length:=by have:=congrArg List.length rX; simpa using this
 have qc:∀ x∈arr.toList,∃ n:Int,x.key=.int .i64 n∧WideElems.rd (H:=Unit) Pg k I9 x=some (.int .i64 n,.nil):=by
  intro x F;have:x.key∈arr.toList.map (·.key):=List.mem_map.2 ⟨x,F,rfl⟩;rw[rX] at this;obtain⟨p,aF,e⟩:=List.mem_map.1 this;refine⟨p.1,e.symm,?_⟩;have h:=ab p aF;have hw:(Lit.int .i64 p.1).wf=true:=by
   show (decide (IntKind.min .i64≤p.1)&&decide (p.1≤IntKind.max .i64))=true
   rw[decide_eq_true (show IntKind.min .i64≤p.1 from h.1),decide_eq_true (show p.1≤IntKind.max .i64 from h.2)]; rfl
  unfold WideElems.rd;rw[← e,Maps.keyOf_int_mk aq hw]; rfl
 refine⟨_,⟨arr,c,cn,⟨by rw[g1]; exact hm,⟨ao.1,ao.2,?_⟩,fun x F=>by obtain⟨n,_,h⟩:=qc x F; exact⟨_,h⟩⟩,Nat.le_refl _,rfl⟩,?_,?_⟩
 ·rw[rX];have e:(es.map fun p=>Value.int .i64 p.1)=(es.map (·.1)).map (Value.int .i64):=by simp
  rw[e];exact List.Pairwise.map _ (fun a l h e=>h (by injection e)) O
 ·refine ((OS (arr.toList.map (WideElems.rg (H:=Unit) Pg k I9))).map _).trans (List.Perm.of_eq ?_);have e:es.map (·.1)=arr.toList.map fun x=>RowKit.intOf x.key:=by
   have:=congrArg (List.map RowKit.intOf) rX;simp only[List.map_map] at this;exact this.symm
  rw[e,List.map_map];refine List.map_congr_left fun x F=>?_;obtain⟨n,I,O⟩:=qc x F;simp[WideElems.rg,O,I];rfl
 ·have:=(OS (arr.toList.map (WideElems.rg (H:=Unit) Pg k I9))).length_eq;rw[Maps.size_eq,this]; simp[g1]
theorem aHl{r eM:Nat}{es:List (Int×Z)}(ab:∀ p∈es,-9223372036854775808≤p.1∧p.1≤9223372036854775807)(hm:es.length≤1000000)(H:E A (aI eM [.map (some r)] 216::cZ T .i64 r es::m) w) :
  M Pg 59 [.func (.func 225) #[] #[.pointer (some ⟨eM,0,none⟩)]] X w fun s J=>∃ fw:List Int,fw.Perm (es.map (·.1)) ∧
   E A (row (B .i64) 3 1 s (fw.mergeSort fun x S=>decide (x≤S))::aI eM [.map (some r)] 216::cZ T .i64 r es::m) J:=by
 obtain⟨arr,c,I,ao,O,g4⟩:=yF (H.front 1);have cn:=g4.get;obtain⟨ni,G2,G3,zY⟩:=Ru (k:=3) Tryz.underlying3 ab (by omega) I ao O cn;have zN:=H.get;have dv:eM<w.heap.size:=(Array.getElem?_eq_some_iff.1 zN).1;have G7:=AnyZI.keys_gives (ρ:=Tryz.abc) { Tryz.QF with } Fence.wide (5-1-1-1) trivial rfl (by omega) eM r arr.size ni w dv (by rw[uO zN]; rfl) G2;have wg:=AnyZI.sorted_in Tryz.Sv Fence.wide 5 trivial trivial trivial trivial rfl (by omega) (Sw _) (enters_of Tryz.func109 (by kernel_rfl) rfl) 225 #[.pointer (some ⟨eM,0,none⟩)] trivial (enters_of Tryz.func225 (by kernel_rfl) rfl) _ (Maps.size ni) (by rw[zY]; exact Nat.le_trans hm (Nat.le_of_ble_eq_true rfl)) (by rw[zY]; omega) w G7;change CallsIn _ _ Pg 59 _ _ _ at wg;refine (callsIn_wide (n:=5)).1 (wg.mono ?_);rintro e J ⟨v,nc,rfl,eX,u_,aaa,GJ⟩
 have u_:J.ownsRow w.heap.size 3 1 v nc.length ((nc.mergeSort fun x S=>decide (x≤S)).flatMap (B .i64).cells):=by
  have e:(nc.mergeSort fun x S=>decide (x≤S)).flatMap (B .i64).cells=(nc.mergeSort fun x S=>decide (x≤S)).map encZ:=by
   generalize nc.mergeSort (fun x S=>decide (x≤S))=q;induction q with
   |nil=>rfl
   |cons x q b_=>rw[List.flatMap_cons,b_]; rfl
  rw[e]; exact u_
 obtain⟨s,aG,AW⟩:=H.ownsRow (T:=B .i64) (fun _=>rfl) (by rw[List.length_mergeSort]) GJ u_;exact⟨s,aG,nc,eX.trans G3,AW⟩
end
end bb
namespace Store
open bb
theorem vj{ep:Type}{k:Int}{v:ep}:∀ {es:List (Int×ep)},es.lookup k=some v→∃ cI cL,es=cI++(k,v)::cL
 |[],h=>by cases h
 |(a,l)::es,h=>by
  simp only[List.lookup] at h;by_cases c:(k==a)=true
  ·rw[c] at h;have e:k=a:=by simpa using c
   cases h; subst e;exact⟨[],es,rfl⟩
  ·simp only[Bool.not_eq_true] at c;rw[c] at h;obtain⟨cI,cL,e⟩:=vj h;exact⟨(a,l)::cI,cL,by rw[e]; rfl⟩
theorem QQ{ep:Type}{k:Int}{v:ep}{es:List (Int×ep)}(h:es.lookup k=some v):(k,v)∈es:=by
 obtain⟨cI,cL,e⟩:=vj h;rw[e]; simp
theorem KG{ep:Type}{k:Int}{v:ep}:∀ {es:List (Int×ep)},(es.map (·.1)).Nodup→(k,v)∈es→es.lookup k=some v
 |[],_,h=>by cases h
 |(a,l)::es,aK,h=>by
  have Z8:=List.nodup_cons.1 aK;simp only[List.lookup];rcases List.mem_cons.1 h with e | h
  ·cases e; simp
  ·have:k≠a:=fun e=>Z8.1 (List.mem_map.2 ⟨(k,v),h,e⟩);rw[show (k==a)=false from by simpa using this];exact KG Z8.2 h
theorem afl{ep:Type}{k:Int}{v:ep}:∀ {es:List (Int×ep)},es.lookup k=none→eH k v es=es++[(k,v)]
 |[],_=>rfl
 |(a,l)::es,h=>by
  simp only[List.lookup] at h;by_cases c:(k==a)=true
  ·rw[c] at h; cases h
  ·simp only[Bool.not_eq_true] at c;rw[c] at h;simp only[eH,c];rw[afl h]; rfl
section
variable {A w:World} {m bL:List bu}
structure AZ where
 y:Nat
 eb:List (Int×ke)
def jU(eb:List (Int×ke)):List (Int×Option Addr):=eb.map fun e=>(e.1,some (⟨e.2.l,0,none⟩:Addr))
def mT(g:Int→List eD)(eb:List (Int×ke)):bu:=dt (eb.map fun e=>l6 e.2 (g e.1))
structure Rel(t:AZ)(o:hp):Prop where
 keys:∀ k,aW o.rows k≠[]↔k∈t.eb.map (·.1)
 marks:∀ e∈t.eb,0≤e.2.mark∧e.2.mark≤o.mark
def eU(l:Nat)(o:hp):bu:=hT fun t:AZ=>dt [ll (Rel t o),aI l (p6.cells ⟨some t.y,o.closed,o.mark⟩) 218,cZ aE .i64 t.y (jU t.eb),mT (aW o.rows) t.eb]
theorem w5{l:Nat}{o:hp}(H:E A (eU l o::m) w):∃ t:AZ,Rel t o∧(t.eb.map (·.1)).Nodup∧E A (aI l (p6.cells ⟨some t.y,o.closed,o.mark⟩) 218::cZ aE .i64 t.y (jU t.eb)::mT (aW o.rows) t.eb::m) w:=by
 obtain⟨t,H⟩:=H.ex;have H:=H.open_;obtain⟨h,H⟩:=E.vu (e8:=Rel t o) H;refine⟨t,h,?_,H⟩;have:=Hw (H.front 1);have e:(jU t.eb).map (·.1)=t.eb.map (·.1):=by unfold jU; rw[List.map_map]; rfl
 rw[← e]; exact this
theorem qy{l:Nat}{o:hp}{t:AZ}(h:Rel t o)(H:E A (aI l (p6.cells ⟨some t.y,o.closed,o.mark⟩) 218::cZ aE .i64 t.y (jU t.eb)::mT (aW o.rows) t.eb::m) w):E A (eU l o::m) w:=
 E.mF t (E.shut (bL:=[ll (Rel t o),aI l (p6.cells ⟨some t.y,o.closed,o.mark⟩) 218,cZ aE .i64 t.y (jU t.eb),mT (aW o.rows) t.eb]) (E.vK h H))
theorem Ej(k:Int):∀ eb:List (Int×ke),(jU eb).lookup k=(eb.lookup k).map fun C=>some (⟨C.l,0,none⟩:Addr)
 |[]=>rfl
 |(a,C)::eb=>by
  have b_:=Ej k eb;unfold jU at b_ ⊢;simp only[List.map_cons,List.lookup];by_cases c:(k==a)=true
  ·rw[c]; rfl
  ·simp only[Bool.not_eq_true] at c;rw[c]; exact b_
theorem Od{g cy:Int→List eD}{eb:List (Int×ke)}(h:∀ e∈eb,g e.1=cy e.1):mT g eb=mT cy eb:=by
 unfold mT; rw[List.map_congr_left fun e he=>by rw[h e he]]
theorem Gf{g:Int→List eD}{cI cL:List (Int×ke)}{e:Int×ke}(H:E A (mT g (cI++e::cL)::m) w):E A (l6 e.2 (g e.1)::mT g (cI++cL)::m) w:=Bi (f:=fun e:Int×ke=>l6 e.2 (g e.1)) H
theorem Jd{g:Int→List eD}{cI cL:List (Int×ke)}{e:Int×ke}(H:E A (l6 e.2 (g e.1)::mT g (cI++cL)::m) w):E A (mT g (cI++e::cL)::m) w:=we (f:=fun e:Int×ke=>l6 e.2 (g e.1)) H
theorem XG{g cy:Int→List eD}{cI cL:List (Int×ke)}{k:Int}{C:ke}{N:List eD}(aq:cy k=N)(ai:∀ e∈cI++cL,g e.1=cy e.1)(H:E A (l6 C N::mT g (cI++cL)::m) w):E A (mT cy (cI++(k,C)::cL)::m) w:=by
 refine Jd (e:=(k,C)) ?_;rw[← Od ai]; rw[← aq] at H; exact H
theorem others{cI cL:List (Int×ke)}{k:Int}{C:ke}(aK:((cI++(k,C)::cL).map (·.1)).Nodup):∀ e∈cI++cL,e.1≠k:=by
 intro e he h;rw[List.map_append,List.map_cons] at aK;have O:=(List.nodup_append.1 aK).2;rcases List.mem_append.1 he with aH | aH
 ·exact O.2 e.1 (List.mem_map.2 ⟨e,aH,rfl⟩) k (List.mem_cons_self ..) h
 ·exact (List.nodup_cons.1 O.1).1 (by rw[← h]; exact List.mem_map.2 ⟨e,aH,rfl⟩)
theorem Rel.none{t:AZ}{o:hp}{k:Int}(h:Rel t o)(al:t.eb.lookup k=.none):aW o.rows k=[]:=by
 by_cases e:aW o.rows k=[]
 ·exact e
 ·exact absurd ((h.keys k).1 e) (Hv.1 al)
theorem aHg(H:E A m w):M Pg 182 [] aE w fun r J=>∃ l,r=some ⟨l,0,none⟩∧E A (eU l ⟨[],0,0⟩::m) J:=by
 refine ahd ?_;unfold UL;refine wU H fun y dz H=>?_;refine bH H fun l cm H=>?_;have H:=wQ aE .i64 (H.front 1);have H:E A (dt []::cZ aE .i64 y []::aI l (p6.cells ⟨some y,0,0⟩) 218::m) cm:=E.shut (bL:=[]) H;exact⟨l,rfl,qy (t:=⟨y,[]⟩) ⟨fun k=>by simp[CD],fun e h=>by cases h⟩ (H.ord [2,1,0])⟩
theorem alF{l:Nat}{o:hp}(H:E A (eU l o::m) w):M Pg 57 [.pointer (some ⟨l,0,none⟩)] (B .i64) w fun r J=>r=o.closed∧E A (eU l o::m) J:=by
 refine aiL ?_;unfold We;obtain⟨t,h,aK,H⟩:=w5 H;refine b3 rfl ?_;refine aj (x:=o.closed) 0 H rfl rfl rfl ?_;exact⟨rfl,qy h H⟩
theorem aCt{l:Nat}{o:hp}(H:E A (eU l o::m) w):M Pg 58 [.pointer (some ⟨l,0,none⟩)] (B .i64) w fun r J=>r=o.mark∧E A (eU l o::m) J:=by
 refine aiM ?_;unfold Wf;obtain⟨t,h,aK,H⟩:=w5 H;refine b3 rfl ?_;refine aj (x:=o.mark) 0 H rfl rfl rfl ?_;exact⟨rfl,qy h H⟩
theorem Qo{t:Int}(H:E A m w):M Pg 224 [.int .i64 t] bf w fun r J=>r=(decide (t≥0)&&decide (t≤1125899906842624))∧E A m J:=by
 refine ahJ ?_;unfold Ve;exact⟨rfl,H⟩
theorem Hl{k:Int}(H:E A m w):M Pg 258 [.int .i64 k] bf w fun r J=>r=(decide (k≥0)&&decide (k<8192))∧E A m J:=by
 refine ah9 ?_;unfold VD;exact⟨rfl,H⟩
theorem alE{l:Nat}{o:hp}{t:Int}(H:E A (eU l o::m) w):M Pg 251 [.pointer (some ⟨l,0,none⟩),.int .i64 t] (B .i64) w fun r J=>r=Jn t∧E A (eU l (sD o t)::m) J:=by
 refine ah3 ?_;unfold Vx;refine ap (Qo H) ?_;rintro r dz ⟨rfl,H⟩;unfold sD Jn;split
 ·rename_i U;rw[if_pos (show t<0∨t>1125899906842624 from by simp at U; omega)];exact⟨rfl,by rw[if_neg (by omega)]; exact H⟩
 ·rename_i U;rw[if_neg (show ¬ (t<0∨t>1125899906842624) from by simp at U; omega),if_pos rfl];obtain⟨p,h,aK,H⟩:=w5 H;refine b3 rfl ?_;refine aj (x:=o.closed) 0 H rfl rfl rfl ?_;refine dx (x:=max o.closed t) 0 H rfl rfl (Nat.le_of_ble_eq_true rfl) fun cm H=>?_;exact⟨rfl,qy (o:={ o with closed:=max o.closed t }) ⟨h.keys,h.marks⟩ H⟩
theorem aH5{l:Nat}{o:hp}{t:Int}(H:E A (eU l o::m) w):M Pg 172 [.pointer (some ⟨l,0,none⟩),.int .i64 t] (B .i64) w fun r J=>r=rB o t∧E A (eU l o::m) J:=by
 refine ag4 ?_;unfold UB;refine ap (Qo H) ?_;rintro r dz ⟨rfl,H⟩;unfold rB;split
 ·rename_i U;rw[if_pos (show t<0∨t>1125899906842624 from by simp at U; omega)];exact⟨rfl,H⟩
 ·rename_i U;rw[if_neg (show ¬ (t<0∨t>1125899906842624) from by simp at U; omega)];obtain⟨p,h,aK,H⟩:=w5 H;refine b3 rfl ?_;refine aj (x:=o.closed) 0 H rfl rfl rfl ?_;split
  ·rename_i U;rw[if_pos (by simpa using U)];exact⟨rfl,qy h H⟩
  ·rename_i U;rw[if_neg (by simpa using U)];refine aj (x:=o.mark) 0 H rfl rfl rfl ?_;split
   ·rename_i U;rw[if_pos (by simpa using U)];exact⟨rfl,qy h H⟩
   ·rename_i U;rw[if_neg (by simpa using U)];exact⟨rfl,qy h H⟩
theorem ER{l:Nat}{o:hp}{k:Int}(a4:Inv o)(H:E A (eU l o::m) w):M Pg 211 [.pointer (some ⟨l,0,none⟩),.int .i64 k] (bo dD bf) w fun r J=>r=pa (aW o.rows k)∧E A (eU l o::m) J:=by
 refine ahw ?_;unfold U0;refine bH H fun iy dz H=>?_;obtain⟨t,h,lh,H⟩:=w5 (H.front 1);refine b3 rfl ?_;refine aj (x:=some t.y) 0 H rfl rfl rfl ?_;refine l_ 1 H rfl rfl ?_;rw[Ej];cases al:t.eb.lookup k with
 |none=>
  rw[if_pos (by simp)];refine cV (x:=kj) (S:=(⟨0,0⟩:eD)) qf 3 H rfl fun cm H=>?_;refine ec (x:=(⟨0,0⟩:eD)) 0 H rfl ?_;exact⟨by rw[h.none al]; rfl,qy h H.drop⟩
 |some C=>
  rw[if_neg (by simp)];obtain⟨cI,cL,e⟩:=vj al;have H:=H.front 2;rw[e] at H;have H:=Gf H;refine ap (XU (C:=C) (Nat.le_trans (a4.cap _) (by omega)) H) ?_;rintro r cm ⟨rfl,H⟩;have H:=Jd (e:=(k,C)) H;rw[← e] at H;show ba dD _ (pa (aW o.rows k)).1 _ _
  generalize pa (aW o.rows k)=q;refine cV (x:=kj) (S:=q.1) qf 3 H rfl fun bh H=>?_;refine ec (x:=q.1) 0 H rfl ?_;exact⟨rfl,qy h (H.drop.ord [1,2,0])⟩
theorem an3{l:Nat}{o:hp}{k:Int}(a4:Inv o)(H:E A (eU l o::m) w):M Pg 259 [.pointer (some ⟨l,0,none⟩),.int .i64 k] bf w fun r J=>r=decide (10000≤(aW o.rows k).length)∧E A (eU l o::m) J:=by
 refine aia ?_;unfold VE;obtain⟨t,h,lh,H⟩:=w5 H;refine b3 rfl ?_;refine aj (x:=some t.y) 0 H rfl rfl rfl ?_;refine l_ 1 H rfl rfl ?_;rw[Ej];cases al:t.eb.lookup k with
 |none=>
  rw[if_neg (by simp)];unfold Fz;exact⟨by rw[h.none al]; simp,qy h H⟩
 |some C=>
  rw[if_pos (by simp)];obtain⟨cI,cL,e⟩:=vj al;have H:=H.front 2;rw[e] at H;have H:=Gf H;have g1:(aW o.rows k).length≤10000:=a4.cap k;refine ap (ak9 (C:=C) (by show (aW o.rows k).length≤_; omega) H) ?_;intro r cm H;have ab:=gn H;have H:=Jd (e:=(k,C)) H.drop;rw[← e] at H;unfold Fz;refine⟨?_,qy h (H.ord [1,2,0])⟩;have ab:r.len=(aW o.rows k).length:=ab;rw[ab];rw[Bool.eq_iff_iff,decide_eq_true_eq];simp
  try omega
end
theorem S6{N:List Row}{t:Int}:∀ {xs:List fu} {seen:List Int},xd N t seen xs=0→(∀ x∈xs,0≤x.Key∧x.Key≤8191∧(pa (aW N x.Key)).1.bW<t∧(aW N x.Key).length<10000∧x.Key∉seen)∧(xs.map (·.Key)).Nodup
 |[],seen,_=>⟨fun x h=>(by cases h),List.nodup_nil⟩
 |x::xs,seen,h=>by
  unfold xd at h;split at h
  ·cases h
  ·rename_i I;split at h
   ·cases h
   ·rename_i O;split at h
    ·cases h
    ·rename_i aH;split at h
     ·cases h
     rename_i bg;obtain⟨br,eN⟩:=S6 h;refine⟨fun S aB=>?_,List.nodup_cons.2 ⟨fun hm=>?_,eN⟩⟩
     ·rcases List.mem_cons.1 aB with rfl | aB
      ·exact⟨by omega,by omega,by omega,by omega,O⟩
      ·have:=br S aB;exact⟨this.1,this.2.1,this.2.2.1,this.2.2.2.1,fun aG=>this.2.2.2.2 (List.mem_append_left _ aG)⟩
     ·obtain⟨S,aB,e⟩:=List.mem_map.1 hm;have:=(br S aB).2.2.2.2;rw[e] at this;exact this (List.mem_append_right _ (List.mem_singleton_self _))
theorem aIL{N:List Row}{t:Int}{seen:List Int}{x:fu}{xs:List fu}:xd N t seen (x::xs)=if x.Key<0∨x.Key>8191 then 123 else if x.Key∈seen then 124 else if (pa (aW N x.Key)).1.bW≥t then 121 else if 10000≤(aW N x.Key).length then 125 else xd N t (seen++[x.Key]) xs:=rfl
theorem LY{t k:Int}{xs:List fu}(h:k∉xs.map (·.Key)):aW (news t xs) k=[]:=by
 by_cases e:aW (news t xs) k=[]
 ·exact e
 ·obtain⟨r,ab,aq⟩:=S0.1 e;obtain⟨x,F,rfl⟩:=List.mem_map.1 ab;exact absurd (List.mem_map.2 ⟨x,F,aq⟩) h
section
variable {A w:World} {m bL:List bu}
theorem aHJ{l:Nat}{o:hp}{t:Int}{s:af}{xs:List fu}(a4:Inv o)(F:xs.length≤1000)(aR:1≤t)(k:dc 2 m hL s xs)(H:E A (eU l o::m) w) :
  M Pg 244 [.pointer (some ⟨l,0,none⟩),.int .i64 t,X.enc s] (B .i64) w fun r J=>r=(if xs.length>100 then 122 else xd o.rows t [] xs)∧E A (eU l o::m) J:=by
 have aG:=k.tail.len H;refine ahV ?_;unfold Vp;split
 ·rename_i U;rw[if_pos (by simp at U; omega)];exact⟨rfl,H⟩
 ·rename_i U;rw[if_neg (by simp at U; omega)];refine wU H fun y dz H=>?_;have H:=wQ fm .i64 H;refine vk (fun i w=>0≤i∧i≤xs.length∧xd o.rows t [] xs=xd o.rows t ((xs.take i.toNat).map (·.Key)) (xs.drop i.toNat)∧∃ es:List (Int×oU),(∀ k,(es.lookup k).isSome=decide (k∈(xs.take i.toNat).map (·.Key)))∧E A (cZ fm .i64 y es::eU l o::m) w) (fun i=>(xs.length-i).toNat)
   ⟨Int.le_refl 0,by omega,by simp,[],by simp,H⟩ ?_
  rintro i w ⟨ah,I,O,es,aH,H⟩;unfold MX;rw[aG];split
  ·rename_i U;have U:i<xs.length:=by simpa using U
   have aQ:IntKind.i64.wrap (i+1)=i+1:=wrap_i64 (by omega) (by omega);have Qk:xs[i.toNat]?=some xs[i.toNat]:=List.getElem?_eq_getElem (by omega);have ag:xs.drop i.toNat=xs[i.toNat]::xs.drop (i.toNat+1):=List.drop_eq_getElem_cons (by omega);have iC:xs.take (i.toNat+1)=xs.take i.toNat++[xs[i.toNat]]:=List.take_succ_eq_append_getElem (by omega);obtain⟨a,Y⟩:=k.tail.tail.iq (i:=i) H ah U;refine aO a Y ?_;refine aO xs[i.toNat] (k.tail.tail.rd Y Qk H) ?_;generalize xs[i.toNat]=x at ag iC;refine bH H fun e5 cm H=>?_;refine cV (x:=Dj) (S:=x) QN 0 H rfl fun bh H=>?_;refine aj (x:=x.Key) 0 H rfl rfl rfl ?_;refine l_ 1 H rfl rfl ?_;refine bH H fun dX aU H=>?_;refine dx (x:=_) 0 H rfl rfl (Nat.le_of_ble_eq_true rfl) fun a7 H=>?_;refine aj (x:=x.Key) 1 H rfl rfl rfl ?_;refine ap (ER (k:=x.Key) a4 (H.front 3)) ?_;rintro r bT ⟨rfl,H⟩;refine bH H fun iy bN H=>?_;generalize a5:pa (aW o.rows x.Key)=q
   refine cV (x:=kj) (S:=q.1) qf 0 H rfl fun bA H=>?_;refine aj (x:=x.Key) 3 H rfl rfl rfl ?_;refine ap (Hl H) ?_;rintro r bU ⟨rfl,H⟩;rw[ag,aIL,a5] at O;have kq:=aH x.Key;generalize aah:(xs.take i.toNat).map (·.Key)=seen at O kq aH;split
   ·rename_i aq;rw[if_pos (show x.Key<0∨x.Key>8191 from by simp at aq; omega)] at O;exact⟨O.symm,((((H.drop.front 1).drop.front 1).drop.front 1).drop)⟩
   ·rename_i aq;rw[if_neg (show ¬ (x.Key<0∨x.Key>8191) from by simp at aq; omega)] at O;split
    ·rename_i jj;have jj:(es.lookup x.Key).isSome=true:=jj;rw[kq] at jj;rw[if_pos (by simpa using jj)] at O;exact⟨O.symm,((((H.drop.front 1).drop.front 1).drop.front 1).drop)⟩
    ·rename_i jj;have jj:¬ (es.lookup x.Key).isSome=true:=jj;rw[kq] at jj;rw[if_neg (by simpa using jj)] at O;refine aj (x:=q.1.bW) 0 H rfl rfl rfl ?_;split
     ·rename_i JY;rw[if_pos (by simpa using JY)] at O;exact⟨O.symm,((((H.drop.front 1).drop.front 1).drop.front 1).drop)⟩
     ·rename_i JY;rw[if_neg (by simpa using JY)] at O;refine aj (x:=x.Key) 3 H rfl rfl rfl ?_;refine ap (an3 (k:=x.Key) a4 (H.front 1)) ?_;rintro r cd ⟨rfl,H⟩;by_cases BI:10000≤(aW o.rows x.Key).length
      ·rw[decide_eq_true BI,if_pos rfl];rw[if_pos BI] at O;exact⟨O.symm,((((H.front 1).drop.front 1).drop.front 1).drop.front 1).drop⟩
      rw[if_neg BI] at O;rw[decide_eq_false BI,if_neg (by simp)];refine aj (x:=x.Key) 3 H rfl rfl rfl ?_;refine r4 4 H rfl rfl fun cF H=>?_;rw[aQ];refine⟨⟨by omega,by omega,?_,_,?_,((((H.front 2).drop.front 2).drop.front 2).drop)⟩,by omega⟩
      ·rw[show (i+1).toNat=i.toNat+1 from by omega,iC,List.map_append,aah]; exact O
      ·intro k;rw[show (i+1).toNat=i.toNat+1 from by omega,iC,List.map_append,aah,sZ];by_cases D5:k=x.Key
       ·subst D5; simp
       ·rw[if_neg (by simpa using D5),aH k]; simp[D5]
  ·rename_i U;have U:i=xs.length:=by simp at U; omega
   subst U;have e:xs.drop ((xs.length:Int)).toNat=[]:=by simp
   rw[e] at O;exact⟨O.symm,H.drop⟩
end
theorem aCJ{t:Int}{xs:List fu}{i:Nat}(h:i<xs.length):news t (xs.take (i+1))=news t (xs.take i)++[⟨t,xs[i]⟩]:=by
 unfold news; rw[List.take_succ_eq_append_getElem h,List.map_append]; rfl
theorem afC(t k:Int)(x:fu):aW [⟨t,x⟩] k=if x.Key=k then [⟨t,x.V⟩] else []:=by rw[y_,CD]
theorem afB{t k:Int}:∀ {xs:List fu},(xs.map (·.Key)).Nodup→(aW (news t xs) k).length≤1
 |[],_=>by simp[news,CD]
 |x::xs,h=>by
  have fp:=List.nodup_cons.1 h;have e:news t (x::xs)=⟨t,x⟩::news t xs:=rfl;rw[e,y_];split
  ·rename_i aq;have aq:x.Key=k:=aq;subst aq;rw[LY fp.1];simp
  ·exact afB fp.2
theorem Inv.put{o:hp}(a4:Inv o)(t:Int)(xs:List fu):Inv (nB o t xs):=by
 unfold nB;split
 ·rename_i he;unfold vv at he;split at he
  ·cases he
  ·split at he
   ·cases he
   ·split at he
    ·cases he
    ·obtain⟨I,O⟩:=S6 he;refine⟨fun k=>?_,fun r ab=>?_,fun r ab=>?_,?_,a4.mark⟩
     ·simp only;rw[Im,List.length_append];by_cases aq:k∈xs.map (·.Key)
      ·obtain⟨x,F,rfl⟩:=List.mem_map.1 aq;have:=(I x F).2.2.2.1;have:=afB (t:=t) (k:=x.Key) O;omega
      ·rw[LY aq];have:=a4.cap k;simpa using this
     ·rcases List.mem_append.1 ab with ab | ab
      ·exact a4.key r ab
      ·obtain⟨x,F,rfl⟩:=List.mem_map.1 ab;exact⟨(I x F).1,(I x F).2.1⟩
     ·rcases List.mem_append.1 ab with ab | ab
      ·exact a4.h0 r ab
      ·obtain⟨x,F,rfl⟩:=List.mem_map.1 ab;simp only; omega
     ·refine List.pairwise_append.2 ⟨a4.ry,?_,?_⟩
      ·unfold news;rw[List.pairwise_map];refine (List.pairwise_map.1 O).imp fun dO he=>absurd he dO
      ·rintro r ab q a5 aq;obtain⟨x,F,rfl⟩:=List.mem_map.1 a5;have dv:=(I x F).2.2.1;have aq:r.b6.Key=x.Key:=aq;show r.bW<t
       have hm:(⟨r.bW,r.b6.V⟩:eD)∈aW o.rows x.Key:=List.mem_map.2 ⟨r,List.mem_filter.2 ⟨ab,by simpa using aq⟩,rfl⟩;have aqI:=Io a4.ry x.Key;unfold pa at dv;generalize aW o.rows x.Key=N at *;rcases List.eq_nil_or_concat N with rfl | ⟨W2,S,rfl⟩
       ·cases hm
       ·rw[List.concat_eq_append] at *;rw[List.getLast?_append] at dv;simp only[List.getLast?_singleton,Option.some_or,Option.getD_some] at dv;rcases List.mem_append.1 hm with h | h
        ·have:=(List.pairwise_append.1 aqI).2.2 _ h S (List.mem_singleton_self _);simp only at this; omega
        ·cases List.mem_singleton.1 h;simpa using dv
 ·exact a4
theorem Inv.close{o:hp}(a4:Inv o)(t:Int):Inv (sD o t):=by
 unfold sD;split
 ·rename_i h;unfold Jn at h;have:=a4.mark;refine⟨a4.cap,a4.key,a4.h0,a4.ry,?_⟩;split at h
  ·cases h
  ·simp only; omega
 ·exact a4
theorem Inv.Rz{o:hp}(a4:Inv o)(t:Int):Inv (sc o t):=by
 unfold sc;split
 ·rename_i h;unfold vt at h;have:=a4.mark;have aG:=QE (max o.mark t) o.rows;refine⟨fun k=>Nat.le_trans (by unfold aW; rw[List.length_map,List.length_map]; exact (aG.filter _).length_le) (a4.cap k),fun r ab=>a4.key r (aG.subset ab),fun r ab=>a4.h0 r (aG.subset ab),a4.ry.sublist aG,?_⟩;split at h
  ·cases h
  ·split at h
   ·cases h
   ·simp only; omega
 ·exact a4
section
variable {A w:World} {m bL:List bu}
theorem Ch{l:Nat}{o:hp}{t:Int}{s:af}{xs:List fu}(a4:Inv o)(F:xs.length≤1000)(k:dc 2 m hL s xs)(H:E A (eU l o::m) w) :
  M Pg 214 [.pointer (some ⟨l,0,none⟩),.int .i64 t,X.enc s] (B .i64) w fun r J=>r=vv o t xs∧E A (eU l (nB o t xs)::m) J:=by
 refine ahz ?_;unfold U3;have aG:=k.tail.len H;split
 ·rename_i U;have e:vv o t xs=120:=by unfold vv; rw[if_pos (by simp at U; omega)]
  unfold nB;rw[e,if_neg (by omega)];exact⟨rfl,H⟩
 ·rename_i U;have U:¬ (t<1∨t>1125899906842624):=by simp at U; omega
  obtain⟨p,h,lh,H⟩:=w5 H;refine b3 rfl ?_;refine aj (x:=o.closed) 0 H rfl rfl rfl ?_;have H:=qy h H;split
  ·rename_i hr;have e:vv o t xs=121:=by unfold vv; rw[if_neg U,if_pos (by simpa using hr)]
   unfold nB;rw[e,if_neg (by omega)];exact⟨rfl,H⟩
  ·rename_i hr;have hr:¬ t≤o.closed:=by simpa using hr
   refine ap (aHJ (t:=t) a4 F (by omega) k H) ?_;rintro r dz ⟨rfl,H⟩;have e:vv o t xs=if xs.length>100 then 122 else xd o.rows t [] xs:=by unfold vv; rw[if_neg U,if_neg hr]
   rw[← e];unfold nB;split
   ·rename_i dO;have dO:vv o t xs≠0:=by simpa using dO
    rw[if_neg dO];exact⟨rfl,H⟩
   ·rename_i dO;have dO:vv o t xs=0:=by simpa using dO
    rw[if_pos dO,dO];have al:xs.length≤100:=by
     rw[e] at dO;split at dO
     ·cases dO
     ·omega
    rw[e,if_neg (by omega)] at dO;obtain⟨br,eN⟩:=S6 dO;refine vk (fun i w=>0≤i∧i≤xs.length∧E A (eU l { o with rows:=o.rows++news t (xs.take i.toNat) }::m) w) (fun i=>(xs.length-i).toNat) ⟨Int.le_refl 0,by omega,by simpa[news] using H⟩ ?_;rintro i w ⟨ah,I,H⟩;unfold MQ;rw[aG];split
    ·rename_i ya;have ya:i<xs.length:=by simpa using ya
     have aQ:IntKind.i64.wrap (i+1)=i+1:=wrap_i64 (by omega) (by omega);have Qk:xs[i.toNat]?=some xs[i.toNat]:=List.getElem?_eq_getElem (by omega);have iC:=aCJ (t:=t) (xs:=xs) (i:=i.toNat) (by omega);have PA:=br xs[i.toNat] (List.getElem_mem _);have G0:(xs[i.toNat]).Key∉(xs.take i.toNat).map (·.Key):=by
      intro hm;rw[List.map_take] at hm;obtain⟨D,bI,apu⟩:=List.mem_take_iff_getElem.1 hm;have:=(List.pairwise_iff_getElem.1 eN) D i.toNat (by simp at bI ⊢; omega) (by simp; omega) (by omega);rw[apu] at this;simp at this
     obtain⟨a,Y⟩:=k.tail.iq (i:=i) H ah ya;refine aO a Y ?_;refine aO xs[i.toNat] (k.tail.rd Y Qk H) ?_;generalize xs[i.toNat]=x at iC PA G0;refine bH H fun e5 cm H=>?_;refine cV (x:=Dj) (S:=x) QN 0 H rfl fun bh H=>?_;refine dg H fun aU H=>?_;have PY:aW (o.rows++news t (xs.take i.toNat)) x.Key=aW o.rows x.Key:=by rw[Im,LY G0,List.append_nil]
     generalize aqJ:o.rows++news t (xs.take i.toNat)=rows at H PY;have aqK:o.rows++news t (xs.take (i+1).toNat)=rows++[⟨t,x⟩]:=by rw[show (i+1).toNat=i.toNat+1 from by omega,iC,← aqJ,List.append_assoc]
     have g1:(aW rows x.Key).length<10000:=by rw[PY]; exact PA.2.2.2.1
     have GV:(pa (aW rows x.Key)).1.bW<t:=by rw[PY]; exact PA.2.2.1
     have PV:aW (rows++[⟨t,x⟩]) x.Key=aW rows x.Key++[⟨t,x.V⟩]:=by rw[Im,afC,if_pos rfl]
     have PJ:∀ q,q≠x.Key→aW rows q=aW (rows++[⟨t,x⟩]) q:=fun q a5=>by rw[Im,afC,if_neg (fun h=>a5 h.symm),List.append_nil]
     have zT:=a4.mark;obtain⟨p,h,lh,H⟩:=w5 (H.front 1);have JW:∀ (C:ke) (cI cL:List (Int×ke)) (jE:Nat) (w:World),Rel ⟨jE,cI++(x.Key,C)::cL⟩ { o with rows:=rows++[⟨t,x⟩] }→((cI++(x.Key,C)::cL).map (·.1)).Nodup→0≤C.mark∧C.mark≤o.mark →
       E A (l6 C (aW rows x.Key)::mT (aW rows) (cI++cL)::cZ aE .i64 jE (jU (cI++(x.Key,C)::cL))::aI l (p6.cells ⟨some jE,o.closed,o.mark⟩) 218::aI e5 (hL.cells x) 87::m) w →
       Fm t i ⟨e5,0,none⟩ (some ⟨C.l,0,none⟩) w (fun fy J=>(0≤fy∧fy≤xs.length∧E A (eU l { o with rows:=o.rows++news t (xs.take fy.toNat) }::m) J)∧(xs.length-fy).toNat<(xs.length-i).toNat) fun r J=>r=0∧E A (eU l { o with rows:=o.rows++news t xs }::m) J:=by
      intro C cI cL jE w jh lh hm H;unfold Fm;refine aj (x:=x.V) 4 H rfl rfl rfl ?_;refine ap (alc (t:=t) (v:=x.V) (by omega) (by omega) (by omega) (by omega) GV H) ?_;rintro r a7 ⟨s2,H⟩;rw[aQ];have H:=XG (cy:=aW (rows++[⟨t,x⟩])) (k:=x.Key) PV (fun e he=>PJ e.1 (others lh e he)) H;refine⟨⟨by omega,by omega,?_⟩,by omega⟩;rw[aqK];have aF:jU (cI++(x.Key,(⟨C.l,s2,C.mark⟩:ke))::cL)=jU (cI++(x.Key,C)::cL):=by unfold jU; simp
      rw[← aF] at H;refine qy (t:=⟨jE,cI++(x.Key,⟨C.l,s2,C.mark⟩)::cL⟩) (o:={ o with rows:=rows++[⟨t,x⟩] }) ⟨fun q=>?_,fun e he=>?_⟩ (((H.front 3).drop).ord [2,1,0])
      ·have:=jh.keys q;simpa using this
      ·rcases List.mem_append.1 he with he | he
       ·exact jh.marks e (List.mem_append_left _ he)
       ·rcases List.mem_cons.1 he with rfl | he
        ·exact hm
        ·exact jh.marks e (List.mem_append_right _ (List.mem_cons_of_mem _ he))
     refine aj (x:=some p.y) 0 H rfl rfl rfl ?_;refine aj (x:=x.Key) 3 H rfl rfl rfl ?_;refine l_ 1 H rfl rfl ?_;rw[Ej];cases l9:p.eb.lookup x.Key with
     |none=>
      rw[if_pos (by simp)];refine ap (ala H) ?_;rintro r a7 ⟨au,rfl,H⟩;refine dg H fun bT H=>?_;refine aj (x:=some p.y) 1 H rfl rfl rfl ?_;refine aj (x:=x.Key) 4 H rfl rfl rfl ?_;refine r4 2 H rfl rfl fun bN H=>?_;have aqm:(jU p.eb).lookup x.Key=none:=by rw[Ej,l9]; rfl
      have aF:eH x.Key (some ⟨au,0,none⟩) (jU p.eb)=jU (p.eb++(x.Key,(⟨au,fx,0⟩:ke))::[]):=by rw[afl aqm]; unfold jU; simp
      rw[aF] at H;have aob:aW rows x.Key=[]:=h.none l9;have aqw:x.Key∉p.eb.map (·.1):=Hv.1 l9;refine JW ⟨au,fx,0⟩ p.eb [] p.y bN ⟨fun q=>?_,fun e he=>?_⟩ ?_ ⟨Int.le_refl 0,zT.1⟩ ?_
      ·by_cases a5:q=x.Key
       ·subst a5;simp only[PV]; simp
       ·rw[← PJ q a5,h.keys q]; simp[a5]
      ·rcases List.mem_append.1 he with he | he
       ·exact h.marks e he
       ·cases List.mem_singleton.1 he;exact⟨Int.le_refl 0,zT.1⟩
      ·rw[List.map_append];refine List.nodup_append.2 ⟨lh,by simp,?_⟩;intro a Y c U;simp at U; subst U;intro e; subst e; exact aqw Y
      ·rw[aob,List.append_nil];exact H.ord [1,3,0,2,4]
     |some C=>
      rw[if_neg (by simp)];obtain⟨cI,cL,e⟩:=vj l9;rw[e] at H lh;have hm:=h.marks _ (QQ l9);refine JW C cI cL p.y aU ⟨fun q=>?_,fun hQ he=>?_⟩ lh hm ((Gf (H.front 2)).ord [0,1,3,2,4])
      ·have:=h.keys q;rw[e] at this;by_cases a5:q=x.Key
       ·subst a5;simp only[PV]; simp
       ·rw[← PJ q a5]; exact this
      ·exact h.marks _ (by rw[e]; assumption)
    ·rename_i ya;have ya:i=xs.length:=by simp at ya; omega
     subst ya;have a6:xs.take ((xs.length:Int)).toNat=xs:=by simp
     rw[a6] at H;exact⟨rfl,H⟩
end
def oG(N:List Int):List Int:=N.mergeSort fun x S=>decide (x≤S)
theorem Su(N:List Int):(oG N).Pairwise fun x S=>x≤S:=by
 have I:(oG N).Pairwise fun x S=>decide (x≤S)=true:=
  List.pairwise_mergeSort (fun a l c I O=>by simp at I O ⊢; omega) (fun a l=>by simp; omega) N
 exact I.imp fun h=>by simpa using h
theorem n_(N:List Int):(oG N).Perm N:=List.mergeSort_perm N _
theorem St{N o:List Int}(h:N.Perm o):oG N=oG o:=
 List.Perm.eq_of_pairwise (fun a l _ _ I O=>by omega) (Su N) (Su o) ((n_ N).trans (h.trans (n_ o).symm))
theorem Ss{N:List Int}(h:N.Nodup):(oG N).Pairwise fun x S=>x<S:=
 ((Su N).and ((n_ N).nodup_iff.2 h)).imp fun {a l} h => by
  have I:=h.1;have O:a≠l:=h.2;omega
theorem Rel.aHk{t:AZ}{o:hp}(h:Rel t o)(aK:(t.eb.map (·.1)).Nodup):Keys o.rows (oG (t.eb.map (·.1))):=
 ⟨Ss aK,fun k=>by rw[(n_ _).mem_iff,h.keys]⟩
theorem QK:∀ N:List Row,∃ fw,Keys N fw
 |[]=>⟨[],List.Pairwise.nil,fun k=>by simp[CD]⟩
 |r::N=>by
  obtain⟨fw,h⟩:=QK N;by_cases aq:r.b6.Key∈fw
  ·refine⟨fw,h.ry,fun k=>?_⟩;rw[y_];split
   ·rename_i e; subst e; simp[aq]
   ·exact h.all k
  ·refine⟨oG (r.b6.Key::fw),Ss (List.nodup_cons.2 ⟨aq,h.ry.imp fun h=>Int.ne_of_lt h⟩),fun k=>?_⟩;rw[(n_ _).mem_iff,y_,List.mem_cons,h.all];split
   ·rename_i e; subst e; simp
   ·rename_i e;constructor
    ·rintro (rfl | h)
     ·exact absurd rfl e
     ·exact h
    ·exact fun h=>.inr h
noncomputable def QH(N:List Row):List Int:=Classical.choose (QK N)
theorem aBA(N:List Row):Keys N (QH N):=Classical.choose_spec (QK N)
theorem QI{N:List Row}{fw:List Int}(h:Keys N fw):QH N=fw:=(aBA N).aIf h fun _=>Iff.rfl
noncomputable def nb(o:hp)(t:Int):List fu:=if rB o t=0 then CA o.rows t (QH o.rows) else []
theorem aHf{N:List Row}{t:Int}{q:List Int}{i:Nat}(h:i<q.length):CA N t (q.take (i+1))=CA N t (q.take i)++match tG (aW N q[i]) t with | none=>[] | some v=>[⟨q[i],v.V⟩]:=by
 unfold CA;rw[List.take_succ_eq_append_getElem h,List.filterMap_append];congr 1;rw[List.filterMap_cons];cases tG (aW N q[i]) t<;>rfl
theorem aH4{o:hp}{t:Int}(h:rB o t=0):0≤t∧t≤1125899906842624∧t≤o.closed∧o.mark≤t:=by
 unfold rB at h;split at h
 ·cases h
 ·split at h
  ·cases h
  ·split at h
   ·cases h
   ·omega
theorem JI(eb:List (Int×ke)):(jU eb).map (·.1)=eb.map (·.1):=by unfold jU; rw[List.map_map]; rfl
theorem aeh:∀ {N:List Int} {nx aw:Int},N.Pairwise (fun x S=>x<S)→(∀ x∈N,nx≤x∧x≤aw)→(N.length:Int)≤max 0 (aw-nx+1)
 |[],_,_,_,_=>by simp only[List.length_nil]; omega
 |x::N,nx,aw,h,ao=>by
  have fp:=List.pairwise_cons.1 h;have I:=ao x (List.mem_cons_self ..);have:=aeh (N:=N) (nx:=x+1) (aw:=aw) fp.2 fun S aB=>⟨by have:=fp.1 S aB; omega,(ao S (List.mem_cons_of_mem _ aB)).2⟩
  simp only[List.length_cons]; omega
theorem aBC{t:AZ}{o:hp}(a4:Inv o)(h:Rel t o)(aK:(t.eb.map (·.1)).Nodup):t.eb.length≤8192:=by
 have I:=aeh (N:=oG (t.eb.map (·.1))) (nx:=0) (aw:=8191) (Ss aK) fun x F=>by
  have F:x∈t.eb.map (·.1):=(n_ _).mem_iff.1 F;obtain⟨r,ab,aq⟩:=S0.1 ((h.keys x).2 F);have:=a4.key r ab;omega
 rw[(n_ _).length_eq,List.length_map] at I;omega
section
variable {A w:World} {m bL:List bu}
theorem aHe{l:Nat}{o:hp}{t:Int}(a4:Inv o)(H:E A (eU l o::m) w):M Pg 117 [.pointer (some ⟨l,0,none⟩),.int .i64 t] (bo X (B .i64)) w fun r J=>r.2=rB o t∧E A (row hL 87 2 r.1 (nb o t)::eU l o::m) J:=by
 refine age ?_;unfold TL;refine ap (aH5 (t:=t) H) ?_;rintro r dz ⟨rfl,H⟩;unfold nb;split
 ·rename_i U;have U:rB o t≠0:=by simpa using U
  rw[if_neg U];exact⟨rfl,kJ hL 87 2 H⟩
 ·rename_i U;have U:rB o t=0:=by simpa using U
  rw[if_pos U];obtain⟨aq7,Ka,aaj,aKe⟩:=aH4 U;obtain⟨p,h,lh,H⟩:=w5 H;have Z4:=h.aHk lh;have yb:=aBC a4 h lh;rw[QI Z4];refine b3 rfl ?_;refine aj (x:=some p.y) 0 H rfl rfl rfl ?_;refine ag5 ?_;unfold UC;refine bH H fun eM cm H=>?_;have G5:∀ e∈jU p.eb,-9223372036854775808≤e.1∧e.1≤9223372036854775807:=by
   intro e he;have:e.1∈p.eb.map (·.1):=by rw[← JI]; exact List.mem_map.2 ⟨e,he,rfl⟩
   obtain⟨r,ab,aq⟩:=S0.1 ((h.keys _).2 this);have:=a4.key r ab;omega
  refine ap (aHl G5 (by unfold jU; rw[List.length_map]; omega) (H.ord [0,2])) ?_;rintro s bh ⟨fw,aF,H⟩;have a5:(fw.mergeSort fun x S=>decide (x≤S))=oG (p.eb.map (·.1)):=by rw[JI] at aF; exact St aF
  rw[a5] at H;have aG:=gn H;have wz:(oG (p.eb.map (·.1))).length≤9000:=by rw[(n_ _).length_eq,List.length_map]; omega
  generalize oG (p.eb.map (·.1))=q at *;have H:=kJ hL 87 2 H;refine vk (fun x w=>0≤x.2∧x.2≤q.length∧E A (row hL 87 2 x.1 (CA o.rows t (q.take x.2.toNat))::row (B .i64) 3 1 s q::aI eM [.map (some p.y)] 216::cZ aE .i64 p.y (jU p.eb)::aI l (p6.cells ⟨some p.y,o.closed,o.mark⟩) 218::mT (aW o.rows) p.eb::m) w) (fun x=>(q.length-x.2).toNat)
   ⟨Int.le_refl 0,by simp only; omega,H⟩ ?_
  rintro⟨out,i⟩ w ⟨ah,I,H⟩;simp only at ah I;simp only;unfold Mj;rw[aG];split
  ·rename_i hr;have hr:i<q.length:=by simpa using hr
   have aQ:IntKind.i64.wrap (i+1)=i+1:=wrap_i64 (by omega) (by omega);have F:q[i.toNat]?=some q[i.toNat]:=List.getElem?_eq_getElem (by omega);have lK:=aHf (N:=o.rows) (t:=t) (q:=q) (i:=i.toNat) (by omega);have kq:q[i.toNat]∈p.eb.map (·.1):=(h.keys _).1 ((Z4.all _).1 (List.getElem_mem _));have BM:(CA o.rows t (q.take i.toNat)).length≤9000:=by
    unfold CA;refine Nat.le_trans (List.length_filterMap_le _ _) ?_;rw[List.length_take]; omega
   obtain⟨a,Y⟩:=kI (ar:=1) (i:=i) (H.front 1) ah hr;refine aO a Y ?_;refine aO q[i.toNat] (mh (fun _=>rfl) Y F (H.front 1)) ?_;generalize q[i.toNat]=k at *;refine aj (x:=some p.y) 4 H rfl rfl rfl ?_;refine l_ 3 H rfl rfl ?_;rw[Ej];obtain⟨e,he,JV⟩:=List.mem_map.1 kq;obtain⟨fQ,C⟩:=e;simp only at JV;subst JV;have l9:=KG lh he;rw[l9];obtain⟨cI,cL,li⟩:=vj l9;have zT:=(h.marks _ he).2;have H:=H.front 5;rw[li] at H;have H:=Gf H;have g1:(aW o.rows fQ).length≤10000:=a4.cap fQ;refine ap (ak8 (C:=C) (at_:=t) (by show (aW o.rows fQ).length≤_; omega) (Io a4.ry fQ) aq7 Ka (by simp only at zT; omega) H) ?_;rintro r aU ⟨rfl,H⟩;have H:=Jd (e:=(fQ,C)) H;rw[← li] at H;refine bH H fun l5 a7 H=>?_;cases ZO:tG (aW o.rows fQ) t with
   |none=>
    rw[ZO] at lK;dsimp only;refine cV (x:=kj) (S:=(⟨0,0⟩:eD)) qf 0 H rfl fun bT H=>?_;rw[if_neg (by simp)];unfold Fb;rw[aQ];refine⟨⟨by simp only; omega,by simp only; omega,?_⟩,by simp only; omega⟩;simp only;rw[show (i+1).toNat=i.toNat+1 from by omega,lK,List.append_nil];exact H.drop.ord [1,2,3,4,5,0]
   |some v=>
    rw[ZO] at lK;dsimp only;refine cV (x:=kj) (S:=v) qf 0 H rfl fun bT H=>?_;rw[if_pos (by simp)];refine aj (x:=v.V) 0 H rfl rfl rfl ?_;refine nq (fun _=>rfl) 2 H rfl (by simp only[List.length_singleton]; omega) fun s2 bN H=>?_;unfold Fb;rw[aQ];refine⟨⟨by simp only; omega,by simp only; omega,?_⟩,by simp only; omega⟩;simp only;rw[show (i+1).toNat=i.toNat+1 from by omega,lK];exact ((H.front 1).drop).ord [0,2,3,4,5,1]
  ·rename_i hr;have hr:i=q.length:=by simp at hr; omega
   subst hr;have e:q.take ((q.length:Int)).toNat=q:=by simp
   rw[e] at H;refine⟨U.symm,?_⟩;exact ((qy h (((H.front 1).drop.front 1).drop.ord [2,1,3])).front 1)
theorem Za{ep:Type}{p:Int×ep}{left:List (Int×ep)}(aF:p∈left):(left.filter fun q=>q.1 != p.1).length<left.length:=by
 induction left with
 |nil=>cases aF
 |cons x left b_=>
  rw[List.filter_cons];by_cases c:(x.1 != p.1)=true
  ·rw[if_pos c];rcases List.mem_cons.1 aF with e | aF
   ·rw[e] at c; simp at c
   ·have:=b_ aF;simp only[List.length_cons]; omega
  ·rw[if_neg c];have:=List.length_filter_le (fun q:Int×ep=>q.1 != p.1) left;simp only[List.length_cons]; omega
def cut(mark:Int)(rows:List Row)(left:List (Int×Option Addr))(k:Int):List eD:=if left.any (fun q=>q.1==k)=true then aW rows k else o9 mark (aW rows k)
theorem aES{l:Nat}{o:hp}{t:Int}(a4:Inv o)(H:E A (eU l o::m) w):M Pg 252 [.pointer (some ⟨l,0,none⟩),.int .i64 t] (B .i64) w fun r J=>r=vt o t∧E A (eU l (sc o t)::m) J:=by
 refine ah4 ?_;unfold Vy;refine ap (Qo H) ?_;rintro r dz ⟨rfl,H⟩;unfold sc;split
 ·rename_i U;have e:vt o t=120:=by unfold vt; rw[if_pos (by simp at U; omega)]
  rw[e,if_neg (by omega)];exact⟨rfl,H⟩
 ·rename_i U;have U:¬ (t<0∨t>1125899906842624):=by simp at U; omega
  obtain⟨p,h,lh,H⟩:=w5 H;refine b3 rfl ?_;refine aj (x:=o.closed) 0 H rfl rfl rfl ?_;split
  ·rename_i hr;have e:vt o t=128:=by unfold vt; rw[if_neg U,if_pos (by simpa using hr)]
   rw[e,if_neg (by omega)];exact⟨rfl,qy h H⟩
  ·rename_i hr;have hr:¬ t>o.closed:=by simpa using hr
   have e:vt o t=0:=by unfold vt; rw[if_neg U,if_neg hr]
   rw[e,if_pos rfl];have zT:=a4.mark;refine aj (x:=o.mark) 0 H rfl rfl rfl ?_;refine dx (x:=max o.mark t) 0 H rfl rfl (Nat.le_of_ble_eq_true rfl) fun cm H=>?_;have H:E A (aI l (p6.cells ⟨some p.y,o.closed,max o.mark t⟩) 218::cZ aE .i64 p.y (jU p.eb)::mT (aW o.rows) p.eb::m) cm:=H;generalize aJ8:max o.mark t=pe at *;have PE:o.mark≤pe∧0≤pe∧pe≤1125899906842624:=by omega
   refine aj (x:=some p.y) 0 H rfl rfl rfl ?_;refine Sj 1 H rfl rfl fun it bh H=>?_;have aq5:mT (aW o.rows) p.eb=mT (cut pe o.rows (jU p.eb)) p.eb:=Od fun e he=>by
    unfold cut;have:(jU p.eb).any (fun q=>q.1==e.1)=true:=List.any_eq_true.2 ⟨(e.1,some (⟨e.2.l,0,none⟩:Addr)),List.mem_map.2 ⟨e,he,rfl⟩,by simp⟩;rw[if_pos this]
   rw[aq5] at H;refine Ek (fun n _ w=>∃ left jM eb,n=left.length∧(∀ q∈left,q∈jU p.eb)∧jU eb=jU p.eb∧(∀ e∈eb,0≤e.2.mark∧e.2.mark≤pe)∧E A (rv aE .i64 p.y it (jU p.eb) left jM::aI l (p6.cells ⟨some p.y,o.closed,pe⟩) 218::mT (cut pe o.rows left) eb::m) w) _ ⟨jU p.eb,none,p.eb,rfl,fun _ h=>h,rfl,fun e he=>by have:=h.marks e he; omega,H⟩ ?_;clear H;rintro c _ w ⟨left,jM,eb,rfl,I,O,aH,H⟩ aa b2;have rX:eb.map (·.1)=p.eb.map (·.1):=by rw[← JI,← JI,O]
   unfold MZ;refine Rc 0 H rfl rfl (fun he H=>?_) fun q a5 aU H=>?_
   ·rw[if_neg (by simp)];subst he;have JW:mT (cut pe o.rows []) eb=mT (aW (bz pe o.rows)) eb:=Od fun e _=>by
     unfold cut; rw[if_neg (by simp),LX]
    rw[JW] at H;have H:=HZ H;rw[← O] at H;refine⟨rfl,qy (t:=⟨p.y,eb⟩) (o:=⟨bz pe o.rows,o.closed,pe⟩) ⟨fun k=>?_,aH⟩ (H.ord [1,0])⟩;rw[rX,← h.keys k,LX,ne_eq,ne_eq,aba (Io a4.ry k)]
   ·rw[if_pos (by simp)];refine OJ 0 H rfl rfl ?_;refine aj (x:=pe) 1 H rfl rfl rfl ?_;have rY:=I q a5;rw[← O] at rY;obtain⟨e,he,rfl⟩:=List.mem_map.1 rY;obtain⟨k,C⟩:=e;obtain⟨cI,cL,li⟩:=List.append_of_mem he;have aqu:((cI++(k,C)::cL).map (·.1)).Nodup:=by rw[← li,rX]; exact lh
    have aqA:=others aqu;have H:=H.front 2;rw[li] at H;have H:=Gf H;have Pp:cut pe o.rows left k=aW o.rows k:=by
     unfold cut; rw[if_pos (List.any_eq_true.2 ⟨_,a5,by simp⟩)]
    have H:E A (l6 C (aW o.rows k)::mT (cut pe o.rows left) (cI++cL)::rv aE .i64 p.y it (jU p.eb) (left.filter fun q=>q.1 != k) (some (k,some ⟨C.l,0,none⟩))::aI l (p6.cells ⟨some p.y,o.closed,pe⟩) 218::m) aU:=by rw[← Pp]; exact H
    have g1:(aW o.rows k).length≤10000:=a4.cap k;refine ap (alb (C:=C) (mark:=pe) (by omega) (Io a4.ry k) PE.2.1 PE.2.2 (aH _ he).2 H) ?_;rintro r a7 ⟨s,H⟩
    have H:=XG (cy:=cut pe o.rows (left.filter fun q=>q.1 != k)) (k:=k) (by
     unfold cut;rw[if_neg];rw[List.any_filter,List.any_eq_true];rintro⟨q,_,h⟩;simp at h) (fun hQ ox=>by
     have dO:=aqA hQ ox;unfold cut;have:(left.filter fun q=>q.1 != k).any (fun q=>q.1==hQ.1)=left.any (fun q=>q.1==hQ.1):=by
      rw[List.any_filter];congr 1;funext q;by_cases c:q.1=hQ.1
      ·simp[c,dO]
      ·simp[c]
     rw[this]) H
    refine b2 _ _ _ (Za a5) ⟨_,_,cI++(k,⟨C.l,s,pe⟩)::cL,rfl,fun q a5=>I q (List.mem_filter.1 a5).1,?_,fun hQ ox=>?_,H.ord [1,2,0]⟩
    ·rw[← O,li]; unfold jU; simp
    ·rcases List.mem_append.1 ox with ox | ox
     ·exact aH hQ (by rw[li]; exact List.mem_append_left _ ox)
     ·rcases List.mem_cons.1 ox with rfl | ox
      ·exact⟨PE.2.1,Int.le_refl _⟩
      ·exact aH hQ (by rw[li]; exact List.mem_append_right _ (List.mem_cons_of_mem _ ox))
end
end Store
namespace Vault
open bb Store Num
abbrev Part:=iv
abbrev mr:=rJ
abbrev ps:=qQ
abbrev kg:=fu
structure c4 where
 ey:Nat
 W:hp
 fA:Int
 held:List (Int×mr)
 busy:List (Int×Int)
 dS:List (Int×ps)
def rj(a:Int):Prop:=0≤a∧a<4096
instance (a:Int):Decidable (rj a):=by unfold rj; infer_instance
instance (a:Int):Decidable (ig a):=by unfold ig; infer_instance
def tZ(v:c4)(t:Int):Int:=if t<1∨t>1125899906842624 then 151 else if t≤v.fA then 152 else 0
def fZ(v:c4)(a:Int):eD×Bool:=pa (aW v.W.rows a)
def yP(v:c4)(t a n:Int):c4×Int:=
 if tZ v t≠0 then (v,tZ v t) else if ¬ rj a then (v,153) else if (fZ v a).2=true then (v,154) else if ¬ ig n then (v,155)
 else ({ v with W:=nB v.W t [⟨a,n⟩],fA:=max v.fA t },0)
def p0(v:c4)(p:Part):Int×Int:=
 if p.aD<1 then (0,156) else if (v.dS.lookup p.aD).isSome=true then (0,157) else if 5000≤v.dS.length then (0,158) else if ¬ rj p.b5 then (0,153)
 else if p.b<1∨¬ ig p.b then (0,155) else if (fZ v p.b5).2=false then (0,159) else if (v.busy.lookup p.b5).isSome=true then (0,160)
 else if p.h8=false then (if ig (fZ v p.b5).1.V∧(fZ v p.b5).1.V+p.b≤1000000000000000 then (0,0) else (0,162))
 else if (fZ v p.b5).1.V<p.b+j5 p.b v.ey then (0,161) else (j5 p.b v.ey,0)
def ape(v:c4)(t:Int)(p:Part)(tJ:Int):c4:={ v with held:=eH p.aD ⟨p,t,tJ⟩ v.held,busy:=eH p.b5 p.aD v.busy,dS:=eH p.aD ⟨1,t⟩ v.dS,fA:=max v.fA t }
def zV(v:c4)(t:Int)(p:Part):c4×Int:=
 if tZ v t≠0 then (v,tZ v t) else if (p0 v p).2≠0 then (v,(p0 v p).2) else (ape v t p (p0 v p).1,0)
def Bq(v:c4)(h:mr):c4:={ v with held:=del h.Part.aD v.held,busy:=del h.Part.b5 v.busy }
def uP(v:c4)(h:mr):List kg:=
 if h.Part.h8=false then [⟨h.Part.b5,IntKind.i64.wrap ((fZ v h.Part.b5).1.V+h.Part.b)⟩]
 else ⟨h.Part.b5,IntKind.i64.wrap (IntKind.i64.wrap ((fZ v h.Part.b5).1.V-h.Part.b)-h.uz)⟩ ::
  if h.uz>0 then [⟨IntKind.i64.wrap (4096+h.Part.b5),IntKind.i64.wrap ((fZ v (IntKind.i64.wrap (4096+h.Part.b5))).1.V+h.uz)⟩] else []
def fb(v:c4)(id:Int):ps:=(v.dS.lookup id).getD ⟨0,0⟩
def o6(v:c4)(id:Int):mr:=(v.held.lookup id).getD ⟨⟨0,0,0,false⟩,0,0⟩
def Yo(v:c4)(t id:Int)(h:mr):c4:={ Bq v h with W:=nB v.W t (uP v h),dS:=eH id ⟨2,t⟩ v.dS,fA:=max v.fA t }
def xH(v:c4)(t id:Int):c4×Int:=
 if t<1∨t>1125899906842624 then (v,151) else if (fb v id).h5=2 then (if (fb v id).gL≠t then (v,157) else (v,0))
 else if (fb v id).h5=1 then (if t<(o6 v id).bW then (v,152) else (Yo v t id (o6 v id),0)) else (v,163)
def rT(v:c4)(id:Int):c4:=match v.held.lookup id with
 |some h=>Bq v h
 |none=>v
def xK(v:c4)(id:Int):c4×Int:=
 if id<1 then (v,156) else if (fb v id).h5=2 then (v,157) else if (v.dS.lookup id).isSome=false∧5000≤v.dS.length then (v,158)
 else ({ rT v id with dS:=eH id ⟨3,0⟩ v.dS },0)
def q2(v:c4)(t:Int):c4×Int:=
 if t<0∨t>1125899906842624 then (v,151) else if v.held.any (fun e=>decide (e.2.bW≤t))=true then (v,160)
 else ({ v with W:=sD v.W t,fA:=max v.fA t },0)
def w9(e:Int):Int:=if e=120 then 151 else if e=128 then 164 else if e=126 then 165 else if e=127 then 159 else e
def EI(v:c4)(t:Int):c4×Int:=({ v with W:=sc v.W t },w9 (vt v.W t))
def gl(v:c4):List mr:=(oG (v.held.map (·.1))).map (o6 v)
theorem SO{ep:Type}{k:Int}{v:ep}(es:List (Int×ep)):(eH k v es).length=if (es.lookup k).isSome=true then es.length else es.length+1:=by
 have h:=congrArg List.length (Kq k v es);rw[List.length_map] at h;rw[h];split<;>simp
def AO(v:c4)(h:mr):Prop:=aW v.W.rows h.Part.b5≠[]∧(h.Part.h8=true→h.Part.b+h.uz≤(fZ v h.Part.b5).1.V)∧(h.Part.h8=false→ig (fZ v h.Part.b5).1.V∧(fZ v h.Part.b5).1.V+h.Part.b≤1000000000000000)
structure Fit(v:c4):Prop where
 eU:Inv v.W
 ey:jo v.ey
 ids:∀ id h,v.held.lookup id=some h→h.Part.aD=id∧1≤id∧id≤9223372036854775807∧rj h.Part.b5∧v.dS.lookup id=some ⟨1,h.bW⟩∧v.busy.lookup h.Part.b5=some id ∧
  v.W.closed<h.bW∧h.bW≤v.fA∧1≤h.Part.b∧h.Part.b≤1000000000000000∧0≤h.uz∧h.uz≤2000000000000000∧AO v h∧∀ r∈v.W.rows,r.b6.Key=h.Part.b5∨r.b6.Key=4096+h.Part.b5→r.bW<h.bW
 busy:∀ a id,v.busy.lookup a=some id→∃ h,v.held.lookup id=some h∧h.Part.b5=a
 wm:∀ id f,v.dS.lookup id=some f→1≤id∧((f.h5=1∧∃ h,v.held.lookup id=some h∧h.bW=f.gL)∨(f.h5=2∧1≤f.gL∧f.gL≤1125899906842624)∨(f.h5=3∧f.gL=0))
 z_:v.dS.length≤5000
 rr:(v.held.map (·.1)).Nodup
 B8:(v.busy.map (·.1)).Nodup
 Eo:(v.dS.map (·.1)).Nodup
 fA:v.W.closed≤v.fA∧v.fA≤1125899906842624
 rows:∀ r∈v.W.rows,r.bW≤v.fA
theorem apf{v:c4}(h:Fit v):∀ e∈v.held,1≤e.1∧e.1≤9223372036854775807:=fun e he=>by
 have:=h.ids e.1 e.2 (KG h.rr he);omega
theorem ZS{v:c4}(h:Fit v):v.held.length≤5000:=by
 refine Nat.le_trans ?_ h.z_;have I:(v.held.map (·.1)) ⊆ (v.dS.map (·.1)):=by
  intro k aq;obtain⟨e,he,rfl⟩:=List.mem_map.1 aq;have:=(h.ids e.1 e.2 (KG h.rr he)).2.2.2.2.1;exact List.mem_map.2 ⟨_,QQ this,rfl⟩
 have:=h.rr.length_le_of_subset I;simpa using this
theorem DZ{v:c4}{id:Int}{h:mr}(e:v.held.lookup id=some h):o6 v id=h:=by unfold o6; rw[e]; rfl
theorem Y0{v:c4}{id:Int}{f:ps}(e:v.dS.lookup id=some f):fb v id=f:=by unfold fb; rw[e]; rfl
theorem apg{v:c4}(aT:Fit v){id:Int}(e:(fb v id).h5=1):∃ h,v.held.lookup id=some h∧h.bW=(fb v id).gL∧v.dS.lookup id=some (fb v id):=by
 cases am:v.dS.lookup id with
 |none=>unfold fb at e; rw[am] at e; simp at e
 |some f=>
  rw[Y0 am] at e ⊢;rcases (aT.wm id f am).2 with ⟨_,h⟩ | ⟨h,_⟩ | ⟨h,_⟩
  ·obtain⟨h,I,O⟩:=h;exact⟨h,I,O,rfl⟩
  ·omega
  ·omega
theorem abL{v:c4}{t:Int}(h:tZ v t=0):1≤t∧t≤1125899906842624∧v.fA<t:=by
 unfold tZ at h;split at h
 ·omega
 ·split at h
  ·omega
  ·omega
theorem afJ{v:c4}{p:Part}(h:(p0 v p).2=0):1≤p.aD∧v.dS.lookup p.aD=none∧v.dS.length<5000∧rj p.b5∧1≤p.b∧p.b≤1000000000000000∧(fZ v p.b5).2=true∧v.busy.lookup p.b5=none ∧
  ((p.h8=false∧(p0 v p).1=0∧ig (fZ v p.b5).1.V∧(fZ v p.b5).1.V+p.b≤1000000000000000)∨(p.h8=true∧(p0 v p).1=j5 p.b v.ey∧p.b+j5 p.b v.ey≤(fZ v p.b5).1.V)):=by
 unfold p0 at h ⊢;by_cases bm:p.aD<1
 ·rw[if_pos bm] at h; simp at h
 ·rw[if_neg bm] at h ⊢;by_cases bB:(v.dS.lookup p.aD).isSome=true
  ·rw[if_pos bB] at h; simp at h
  ·rw[if_neg bB] at h ⊢;by_cases b4:5000≤v.dS.length
   ·rw[if_pos b4] at h; simp at h
   ·rw[if_neg b4] at h ⊢;by_cases fa:¬ rj p.b5
    ·rw[if_pos fa] at h; simp at h
    ·rw[if_neg fa] at h ⊢;by_cases jf:p.b<1∨¬ ig p.b
     ·rw[if_pos jf] at h; simp at h
     ·rw[if_neg jf] at h ⊢;by_cases qZ:(fZ v p.b5).2=false
      ·rw[if_pos qZ] at h; simp at h
      ·rw[if_neg qZ] at h ⊢;by_cases c7:(v.busy.lookup p.b5).isSome=true
       ·rw[if_pos c7] at h; simp at h
       ·rw[if_neg c7] at h ⊢;have a6:v.dS.lookup p.aD=none:=Option.not_isSome_iff_eq_none.1 bB;have Ow:v.busy.lookup p.b5=none:=Option.not_isSome_iff_eq_none.1 c7;have q6:ig p.b:=Classical.byContradiction fun U=>jf (.inr U);refine⟨by omega,a6,by omega,Classical.not_not.1 fa,by omega,q6.2,by simpa using qZ,Ow,?_⟩;by_cases c8:p.h8=false
        ·rw[if_pos c8] at h ⊢;by_cases c9:ig (fZ v p.b5).1.V∧(fZ v p.b5).1.V+p.b≤1000000000000000
         ·rw[if_pos c9];exact .inl ⟨c8,rfl,c9.1,c9.2⟩
         ·rw[if_neg c9] at h; simp at h
        ·rw[if_neg c8] at h ⊢;by_cases c9:(fZ v p.b5).1.V<p.b+j5 p.b v.ey
         ·rw[if_pos c9] at h; simp at h
         ·rw[if_neg c9];exact .inr ⟨by simpa using c8,rfl,by omega⟩
theorem Fit.new{r:Nat}(h:jo r):Fit ⟨r,⟨[],0,0⟩,0,[],[],[]⟩:=
 ⟨⟨fun k=>by simp[CD],fun r h=>(by cases h),fun r h=>(by cases h),List.Pairwise.nil,by simp⟩,h,fun id h e=>by simp at e,fun a id e=>by simp at e,fun id f e=>by simp at e,by simp,by simp,by simp,by simp,by simp,fun r h=>by cases h⟩
theorem aEV(o:hp)(t:Int)(xs:List kg):(nB o t xs).closed=o.closed∧(nB o t xs).mark=o.mark:=by unfold nB; split<;>exact⟨rfl,rfl⟩
theorem acO{o:hp}{t:Int}{xs:List kg}{r:Row}(h:r∈(nB o t xs).rows):r∈o.rows∨(r.bW=t∧r.b6∈xs):=by
 unfold nB at h;split at h
 ·rcases List.mem_append.1 h with h | h
  ·exact .inl h
  ·obtain⟨x,F,rfl⟩:=List.mem_map.1 h;exact .inr ⟨rfl,F⟩
 ·exact .inl h
theorem aIz{o:hp}{t k:Int}{xs:List kg}(h:∀ x∈xs,x.Key≠k):aW (nB o t xs).rows k=aW o.rows k:=by
 unfold nB;split
 ·simp only;rw[Im,LY,List.append_nil];intro hm;obtain⟨x,F,e⟩:=List.mem_map.1 hm;exact h x F e
 ·rfl
theorem abo(y:Int):∀ m:List eD,(o9 y m).getLast?=m.getLast?
 |[]=>rfl
 |v::m=>by
  have b_:=abo y m;unfold o9;split
  ·rename_i U;rw[b_];cases m with
   |nil=>simp at U
   |cons u AA=>rw[List.getLast?_cons_cons]
  ·rw[List.getLast?_cons,List.getLast?_cons,b_]
theorem abp{v:c4}{a:Int}:(fZ v a).2=true↔aW v.W.rows a≠[]:=by
 unfold fZ pa;cases aJ:aW v.W.rows a with
 |nil=>simp
 |cons x xs=>simp[List.getLast?_cons]
theorem XE{v u:c4}{h:mr}(e:aW u.W.rows h.Part.b5=aW v.W.rows h.Part.b5)(l:AO v h):AO u h:=by
 unfold AO fZ at *;rw[e]; exact l
theorem akB{v:c4}{h:mr}(aT:Inv v.W)(t:Int)(l:AO v h):AO { v with W:=sc v.W t } h:=by
 unfold sc;split
 ·unfold AO fZ pa at *;simp only;rw[LX,abo,ne_eq,aba (Io aT.ry _)];exact l
 ·exact l
theorem Fit.acP{v:c4}(aT:Fit v){t:Int}{xs:List kg}(ah:t≤1125899906842624)(F:∀ id h,v.held.lookup id=some h→∀ x∈xs,x.Key≠h.Part.b5∧x.Key≠4096+h.Part.b5):Fit { v with W:=nB v.W t xs,fA:=max v.fA t }:=by
 have U:=aEV v.W t xs;have aR:=aT.fA;refine⟨aT.eU.put t _,aT.ey,fun id h e=>?_,aT.busy,aT.wm,aT.z_,aT.rr,aT.B8,aT.Eo,⟨by show (nB _ _ _).closed≤max _ _; rw[U.1]; omega,by show max _ _≤_; omega⟩,fun r ab=>?_⟩
 ·obtain⟨br,eN,iZ,nt,Bs,Bt,OZ,Zl,O0,OV,OW,OX,GC,OY⟩:=aT.ids id h e;refine⟨br,eN,iZ,nt,Bs,Bt,by show (nB _ _ _).closed<_; rw[U.1]; exact OZ,by show _≤max _ _; omega,O0,OV,OW,OX,XE (aIz fun x wA=>(F id h e x wA).1) GC,fun r ab aq=>?_⟩;rcases acO ab with ab | ⟨_,ab⟩
  ·exact OY r ab aq
  ·have:=F id h e _ ab;omega
 ·rcases acO ab with ab | ⟨ab,_⟩
  ·have:=aT.rows r ab;show _≤max _ _; omega
  ·show _≤max _ _; omega
theorem Fit.open{v:c4}(aT:Fit v)(t a n:Int):Fit (yP v t a n).1:=by
 unfold yP;split
 ·exact aT
 ·rename_i I;have I:tZ v t=0:=Classical.not_not.1 I;obtain⟨t0,t1,t2⟩:=abL I;split
  ·exact aT
  ·rename_i Y;have Y:rj a:=Classical.not_not.1 Y;split
   ·exact aT
   ·rename_i O;split
    ·exact aT
    ·refine aT.acP t1 fun id h e x F=>?_;obtain⟨_,_,_,nt,_,_,_,_,_,_,_,_,GC,_⟩:=aT.ids id h e;have F:=List.mem_singleton.1 F;subst F;have aH:=nt.1;have bg:=Y.2;refine⟨fun e=>?_,fun e=>?_⟩
     ·simp only at e;subst e;exact O (abp.2 GC.1)
     ·simp only at e;omega
theorem Fit.free{v:c4}(aT:Fit v){id:Int}{h:mr}(e:v.held.lookup id=some h){f:ps}(am:(f.h5=2∧1≤f.gL∧f.gL≤1125899906842624)∨(f.h5=3∧f.gL=0)):Fit { Bq v h with dS:=eH id f v.dS }:=by
 obtain⟨br,eN,iZ,nt,Bs,Bt,OZ,Zl,O0,OV,OW,OX,GC,OY⟩:=aT.ids id h e;have yz:∀ x,(del h.Part.aD v.held).lookup x=if x==id then none else v.held.lookup x:=fun x=>by rw[Hu _ _ _ aT.rr,br]
 have nZ:∀ x,(del h.Part.b5 v.busy).lookup x=if x==h.Part.b5 then none else v.busy.lookup x:=fun x=>by rw[Hu _ _ _ aT.B8]
 refine⟨aT.eU,aT.ey,fun x k ex=>?_,fun a x ex=>?_,fun x k ex=>?_,?_,Q7 aT.rr,Q7 aT.B8,Es aT.Eo,aT.fA,aT.rows⟩
 ·have ex:(del h.Part.aD v.held).lookup x=some k:=ex;rw[yz] at ex;by_cases c:x=id
  ·simp[c] at ex
  ·rw[if_neg (by simpa using c)] at ex;obtain⟨df,dT,gI,jB,nY,jP,sX,yt,rl,yq,yr,wG,rk,vg⟩:=aT.ids x k ex;refine⟨df,dT,gI,jB,?_,?_,sX,yt,rl,yq,yr,wG,rk,vg⟩
   ·show (eH id f v.dS).lookup x=_
    rw[sZ,if_neg (by simpa using c)]; exact nY
   ·show (del h.Part.b5 v.busy).lookup _=_
    rw[nZ,if_neg]
    ·exact jP
    ·intro U;have U:k.Part.b5=h.Part.b5:=by simpa using U
     rw[U,Bt] at jP;exact c (by injection jP with jP; exact jP.symm)
 ·have ex:(del h.Part.b5 v.busy).lookup a=some x:=ex;rw[nZ] at ex;by_cases c:a=h.Part.b5
  ·simp[c] at ex
  ·rw[if_neg (by simpa using c)] at ex;obtain⟨k,l8,jj⟩:=aT.busy a x ex;refine⟨k,?_,jj⟩;show (del h.Part.aD v.held).lookup x=_
   rw[yz,if_neg]
   ·exact l8
   ·intro U;have U:x=id:=by simpa using U
    rw[U,e] at l8;injection l8 with l8
    exact c (by rw[l8,jj])
 ·have ex:(eH id f v.dS).lookup x=some k:=ex;rw[sZ] at ex;by_cases c:x=id
  ·rw[if_pos (by simpa using c)] at ex;cases ex;exact⟨by omega,.inr am⟩
  ·rw[if_neg (by simpa using c)] at ex;refine⟨(aT.wm x k ex).1,?_⟩;rcases (aT.wm x k ex).2 with ⟨df,fp,dT,gI⟩ | df
   ·refine .inl ⟨df,fp,?_,gI⟩;show (del h.Part.aD v.held).lookup x=_
    rw[yz,if_neg (by simpa using c)]; exact dT
   ·exact .inr df
 ·show (eH id f v.dS).length≤5000
  rw[SO,Bs,if_pos (by simp)]; exact aT.z_
theorem aIM{v:c4}(aT:Fit v){p:Part}(h:(p0 v p).2=0):0≤(p0 v p).1∧(p0 v p).1≤2000000000000000:=by
 obtain⟨_,_,_,_,dh,il,_,_,sJ⟩:=afJ h;rcases sJ with ⟨_,e,_⟩ | ⟨_,e,_⟩
 ·omega
 ·have:=GB (n:=p.b) (by omega) il aT.ey;omega
theorem Fit.hold{v:c4}(aT:Fit v){t:Int}{p:Part}(ah:p.aD≤9223372036854775807):Fit (zV v t p).1:=by
 unfold zV;split
 ·exact aT
 ·rename_i I;have I:tZ v t=0:=Classical.not_not.1 I;obtain⟨t0,t1,t2⟩:=abL I;split
  ·exact aT
  ·rename_i O;have O:(p0 v p).2=0:=Classical.not_not.1 O;have BH:=aIM aT O;obtain⟨lD,aX,aA,a3,bS,bP,b7,cH,dy⟩:=afJ O;generalize (p0 v p).1=tJ at BH dy;have aR:=aT.fA;have aqx:v.held.lookup p.aD=none:=by
    cases cn:v.held.lookup p.aD with
    |none=>rfl
    |some k=>have:=(aT.ids _ _ cn).2.2.2.2.1; rw[aX] at this; cases this
   have yz:∀ x,(eH p.aD (⟨p,t,tJ⟩:mr) v.held).lookup x=if x==p.aD then some ⟨p,t,tJ⟩ else v.held.lookup x:=fun x=>sZ _ _ _ _
   have nZ:∀ x,(eH p.b5 p.aD v.busy).lookup x=if x==p.b5 then some p.aD else v.busy.lookup x:=fun x=>sZ _ _ _ _
   have Eg:∀ x,(eH p.aD (⟨1,t⟩:ps) v.dS).lookup x=if x==p.aD then some ⟨1,t⟩ else v.dS.lookup x:=fun x=>sZ _ _ _ _
   refine⟨aT.eU,aT.ey,fun x k ex=>?_,fun a x ex=>?_,fun x k ex=>?_,?_,Es aT.rr,Es aT.B8,Es aT.Eo,⟨by show v.W.closed≤max v.fA t; omega,by show max v.fA t≤_; omega⟩,fun r ab=>by have:=aT.rows r ab; show _≤max v.fA t; omega⟩
   ·have ex:(eH p.aD (⟨p,t,tJ⟩:mr) v.held).lookup x=some k:=ex;rw[yz] at ex;by_cases c:x=p.aD
    ·rw[if_pos (by simpa using c)] at ex;cases ex;subst c;refine⟨rfl,lD,ah,a3,?_,?_,by show v.W.closed<t; omega,by show t≤max v.fA t; omega,bS,bP,BH.1,BH.2,⟨abp.1 b7,fun aF=>?_,fun aF=>?_⟩,fun r ab _=>?_⟩
     ·show (eH p.aD (⟨1,t⟩:ps) v.dS).lookup p.aD=_
      rw[Eg,if_pos (by simp)]
     ·show (eH p.b5 p.aD v.busy).lookup p.b5=_
      rw[nZ,if_pos (by simp)]
     ·rcases dy with ⟨q,_⟩ | ⟨_,gC,f_⟩
      ·rw[aF] at q; cases q
      ·show p.b+tJ≤(fZ v p.b5).1.V
       rw[gC]; exact f_
     ·rcases dy with ⟨_,_,gC,f_⟩ | ⟨q,_⟩
      ·exact⟨gC,f_⟩
      ·rw[aF] at q; cases q
     ·have:=aT.rows r ab;show r.bW<t; omega
    ·rw[if_neg (by simpa using c)] at ex;obtain⟨df,dT,gI,jB,nY,jP,sX,yt,rl,yq,yr,wG,rk,vg⟩:=aT.ids x k ex;refine⟨df,dT,gI,jB,?_,?_,sX,by show _≤max v.fA t; omega,rl,yq,yr,wG,rk,vg⟩
     ·show (eH p.aD (⟨1,t⟩:ps) v.dS).lookup x=_
      rw[Eg,if_neg (by simpa using c)]; exact nY
     ·show (eH p.b5 p.aD v.busy).lookup _=_
      rw[nZ,if_neg]
      ·exact jP
      ·intro U;have U:k.Part.b5=p.b5:=by simpa using U
       rw[U,cH] at jP; cases jP
   ·have ex:(eH p.b5 p.aD v.busy).lookup a=some x:=ex;rw[nZ] at ex;by_cases c:a=p.b5
    ·rw[if_pos (by simpa using c)] at ex;cases ex;refine⟨⟨p,t,tJ⟩,?_,c.symm⟩;show (eH p.aD (⟨p,t,tJ⟩:mr) v.held).lookup p.aD=_
     rw[yz,if_pos (by simp)]
    ·rw[if_neg (by simpa using c)] at ex;obtain⟨k,l8,jj⟩:=aT.busy a x ex;refine⟨k,?_,jj⟩;show (eH p.aD (⟨p,t,tJ⟩:mr) v.held).lookup x=_
     rw[yz,if_neg]
     ·exact l8
     ·intro U;have U:x=p.aD:=by simpa using U
      rw[U,aqx] at l8; cases l8
   ·have ex:(eH p.aD (⟨1,t⟩:ps) v.dS).lookup x=some k:=ex;rw[Eg] at ex;by_cases c:x=p.aD
    ·rw[if_pos (by simpa using c)] at ex;cases ex;refine⟨by omega,.inl ⟨rfl,⟨p,t,tJ⟩,?_,rfl⟩⟩;show (eH p.aD (⟨p,t,tJ⟩:mr) v.held).lookup x=_
     rw[yz,if_pos (by simpa using c)]
    ·rw[if_neg (by simpa using c)] at ex;refine⟨(aT.wm x k ex).1,?_⟩;rcases (aT.wm x k ex).2 with ⟨df,fp,dT,gI⟩ | df
     ·refine .inl ⟨df,fp,?_,gI⟩;show (eH p.aD (⟨p,t,tJ⟩:mr) v.held).lookup x=_
      rw[yz,if_neg (by simpa using c)]; exact dT
     ·exact .inr df
   ·show (eH p.aD (⟨1,t⟩:ps) v.dS).length≤5000
    rw[SO,aX,if_neg (by simp)]; omega
theorem ak5{v:c4}{h:mr}(Y:rj h.Part.b5):∀ x∈uP v h,x.Key=h.Part.b5∨x.Key=4096+h.Part.b5:=by
 have e:IntKind.i64.wrap (4096+h.Part.b5)=4096+h.Part.b5:=wrap_i64 (by have:=Y.1; omega) (by have:=Y.2; omega);intro x F;unfold uP at F;rw[e] at F;split at F
 ·rw[List.mem_singleton.1 F]; exact .inl rfl
 ·rcases List.mem_cons.1 F with rfl | F
  ·exact .inl rfl
  ·split at F
   ·rw[List.mem_singleton.1 F]; exact .inr rfl
   ·cases F
theorem Fit.done{v:c4}(aT:Fit v){t id:Int}{h:mr}(e:v.held.lookup id=some h)(ah:h.bW≤t)(I:t≤1125899906842624):Fit (Yo v t id h):=by
 obtain⟨br,eN,iZ,nt,Bs,Bt,OZ,Zl,O0,OV,OW,OX,GC,OY⟩:=aT.ids id h e;have aR:=aT.fA;have hm:=aT.eU.mark;have afZ:=aT.free e (f:=⟨2,t⟩) (.inl ⟨rfl,by show 1≤t; omega,I⟩);have aht:=afZ.acP (t:=t) (xs:=uP v h) I fun x k ex S aB=>by
  have ex:(del h.Part.aD v.held).lookup x=some k:=ex;rw[Hu _ _ _ aT.rr,br] at ex;by_cases c:x=id
  ·simp[c] at ex
  ·rw[if_neg (by simpa using c)] at ex;obtain⟨df,dT,gI,jB,nY,jP,_⟩:=aT.ids x k ex;have dO:k.Part.b5≠h.Part.b5:=fun U=>by
    rw[U,Bt] at jP;exact c (by injection jP with jP; exact jP.symm)
   have O:=jB.1;have aH:=jB.2;have bg:=nt.1;have dh:=nt.2;rcases ak5 nt S aB with aB | aB<;>omega
 exact aht
theorem Fit.alT{v:c4}(aT:Fit v)(t id:Int):Fit (xH v t id).1:=by
 unfold xH;split
 ·exact aT
 ·rename_i ah;split
  ·split<;>exact aT
  ·split
   ·rename_i I;obtain⟨h,aQ,a6,c_⟩:=apg aT I;rw[DZ aQ];split
    ·exact aT
    ·exact aT.done aQ (by omega) (by omega)
   ·exact aT
theorem Fit.drop{v:c4}(aT:Fit v)(id:Int):Fit (xK v id).1:=by
 unfold xK;split
 ·exact aT
 ·split
  ·exact aT
  ·split
   ·exact aT
   ·rename_i I O aH;cases e:v.held.lookup id with
    |some h=>
     have:=aT.free e (f:=⟨3,0⟩) (.inr ⟨rfl,rfl⟩);unfold rT;rw[e]; exact this
    |none=>
     unfold rT;rw[e];have Eg:∀ x,(eH id (⟨3,0⟩:ps) v.dS).lookup x=if x==id then some ⟨3,0⟩ else v.dS.lookup x:=fun x=>sZ _ _ _ _
     refine⟨aT.eU,aT.ey,fun x k ex=>?_,aT.busy,fun x k ex=>?_,?_,aT.rr,aT.B8,Es aT.Eo,aT.fA,aT.rows⟩
     ·obtain⟨df,dT,gI,jB,nY,jP,sX,yt,rl,yq,yr,wG,rk,vg⟩:=aT.ids x k ex;refine⟨df,dT,gI,jB,?_,jP,sX,yt,rl,yq,yr,wG,rk,vg⟩;show (eH id (⟨3,0⟩:ps) v.dS).lookup x=_
      rw[Eg,if_neg]
      ·exact nY
      ·intro U;have U:x=id:=by simpa using U
       have ex:v.held.lookup x=some k:=ex;rw[U,e] at ex; cases ex
     ·have ex:(eH id (⟨3,0⟩:ps) v.dS).lookup x=some k:=ex;rw[Eg] at ex;by_cases c:x=id
      ·rw[if_pos (by simpa using c)] at ex;cases ex;exact⟨by omega,.inr (.inr ⟨rfl,rfl⟩)⟩
      ·rw[if_neg (by simpa using c)] at ex;exact aT.wm x k ex
     ·show (eH id (⟨3,0⟩:ps) v.dS).length≤5000
      rw[SO];split
      ·exact aT.z_
      ·rename_i aK;have aK:(v.dS.lookup id).isSome=false:=(Bool.not_eq_true _).mp aK;have:¬ 5000≤v.dS.length:=fun U=>aH ⟨aK,U⟩;omega
theorem Fit.close{v:c4}(aT:Fit v)(t:Int):Fit (q2 v t).1:=by
 unfold q2;split
 ·exact aT
 ·rename_i ah;split
  ·exact aT
  ·rename_i I;have aR:=aT.fA;have yb:(sD v.W t).rows=v.W.rows∧(sD v.W t).closed≤max v.W.closed t:=by unfold sD; split; exact⟨rfl,Int.le_refl _⟩; exact⟨rfl,by omega⟩
   refine⟨aT.eU.close t,aT.ey,fun x k ex=>?_,aT.busy,aT.wm,aT.z_,aT.rr,aT.B8,aT.Eo,⟨by show (sD v.W t).closed≤max v.fA t; omega,by show max v.fA t≤_; omega⟩,fun r ab=>?_⟩
   ·obtain⟨df,dT,gI,jB,nY,jP,sX,yt,rl,yq,yr,wG,rk,vg⟩:=aT.ids x k ex;have aJ1:t<k.bW:=by
     apply Classical.byContradiction;intro U;exact I (List.any_eq_true.2 ⟨(x,k),QQ ex,by simp; omega⟩)
    refine⟨df,dT,gI,jB,nY,jP,by show (sD v.W t).closed<_; omega,by show _≤max v.fA t; omega,rl,yq,yr,wG,XE (by show aW (sD v.W t).rows _=_; rw[yb.1]) rk,fun r ab=>vg r (by rw[← yb.1]; exact ab)⟩
   ·have:=aT.rows r (by rw[← yb.1]; exact ab);show _≤max v.fA t; omega
theorem aER(o:hp)(t:Int):(sc o t).closed=o.closed∧∀ r∈(sc o t).rows,r∈o.rows:=by
 unfold sc;split
 ·exact⟨rfl,fun r ab=>(QE _ _).subset ab⟩
 ·exact⟨rfl,fun r ab=>ab⟩
theorem Fit.Rz{v:c4}(aT:Fit v)(t:Int):Fit (EI v t).1:=by
 have aF:=aER v.W t;refine⟨aT.eU.Rz t,aT.ey,fun x k ex=>?_,aT.busy,aT.wm,aT.z_,aT.rr,aT.B8,aT.Eo,⟨by show (sc v.W t).closed≤_; rw[aF.1]; exact aT.fA.1,aT.fA.2⟩,fun r ab=>aT.rows r (aF.2 r ab)⟩;obtain⟨df,dT,gI,jB,nY,jP,sX,yt,rl,yq,yr,wG,rk,vg⟩:=aT.ids x k ex;exact⟨df,dT,gI,jB,nY,jP,by show (sc v.W t).closed<_; rw[aF.1]; exact sX,yt,rl,yq,yr,wG,akB aT.eU t rk,fun r ab=>vg r (aF.2 r ab)⟩
end Vault
namespace bb
open Go.RowKit Go.Maps Go.Sort Go.Shelf Go.WideElems
section
variable {A w:World} {m:List bu} {Z:Type} {T:bn Z}
theorem aHm{r eM:Nat}{es:List (Int×Z)}(ab:∀ p∈es,-9223372036854775808≤p.1∧p.1≤9223372036854775807)(hm:es.length≤1000000)(H:E A (aI eM [.map (some r)] 68::cZ T .i64 r es::m) w) :
  M Pg 59 [.func (.func 110) #[] #[.pointer (some ⟨eM,0,none⟩)]] X w fun s J=>∃ fw:List Int,fw.Perm (es.map (·.1)) ∧
   E A (row (B .i64) 3 1 s (fw.mergeSort fun x S=>decide (x≤S))::aI eM [.map (some r)] 68::cZ T .i64 r es::m) J:=by
 obtain⟨arr,c,I,ao,O,g4⟩:=yF (H.front 1);have cn:=g4.get;obtain⟨ni,G2,G3,zY⟩:=Ru (k:=3) Tryz.underlying3 ab (by omega) I ao O cn;have zN:=H.get;have dv:eM<w.heap.size:=(Array.getElem?_eq_some_iff.1 zN).1;have G7:=AnyZI.keys_gives (ρ:=Tryz.abd) { Tryz.QG with } Fence.wide (5-1-1-1) trivial rfl (by omega) eM r arr.size ni w dv (by rw[uO zN]; rfl) G2;have wg:=AnyZI.sorted_in Tryz.Sv Fence.wide 5 trivial trivial trivial trivial rfl (by omega) (Sw _) (enters_of Tryz.func109 (by kernel_rfl) rfl) 110 #[.pointer (some ⟨eM,0,none⟩)] trivial (enters_of Tryz.func110 (by kernel_rfl) rfl) _ (Maps.size ni) (by rw[zY]; exact Nat.le_trans hm (Nat.le_of_ble_eq_true rfl)) (by rw[zY]; omega) w G7;change CallsIn _ _ Pg 59 _ _ _ at wg;refine (callsIn_wide (n:=5)).1 (wg.mono ?_);rintro e J ⟨v,nc,rfl,eX,u_,aaa,GJ⟩
 have u_:J.ownsRow w.heap.size 3 1 v nc.length ((nc.mergeSort fun x S=>decide (x≤S)).flatMap (B .i64).cells):=by
  have e:(nc.mergeSort fun x S=>decide (x≤S)).flatMap (B .i64).cells=(nc.mergeSort fun x S=>decide (x≤S)).map encZ:=by
   generalize nc.mergeSort (fun x S=>decide (x≤S))=q;induction q with
   |nil=>rfl
   |cons x q b_=>rw[List.flatMap_cons,b_]; rfl
  rw[e]; exact u_
 obtain⟨s,aG,AW⟩:=H.ownsRow (T:=B .i64) (fun _=>rfl) (by rw[List.length_mergeSort]) GJ u_;exact⟨s,aG,nc,eX.trans G3,AW⟩
end
end bb
namespace Vault
open bb Store Num
abbrev hq:=A8
abbrev k8:=ix
abbrev v6:=lA
structure A9 where
 s:Nat
 g6:Nat
 jR:Nat
 jC:Nat
def pn(v:c4)(p:A9):tw:=⟨(⟨some ⟨p.s,0,none⟩⟩:mQ),v.ey,v.fA,some p.g6,some p.jR,some p.jC⟩
def eQ(l:Nat)(v:c4):bu:=hT fun p:A9=>dt [aI l (hq.cells (pn v p)) 72,eU p.s v.W,cZ k8 .i64 p.g6 v.held,cZ (B .i64) .i64 p.jR v.busy,cZ v6 .i64 p.jC v.dS]
section
variable {A w:World} {m bL:List bu}
theorem pm{l:Nat}{v:c4}(H:E A (eQ l v::m) w):∃ p:A9,E A (aI l (hq.cells (pn v p)) 72::eU p.s v.W::cZ k8 .i64 p.g6 v.held::cZ (B .i64) .i64 p.jR v.busy::cZ v6 .i64 p.jC v.dS::m) w:=by
 obtain⟨p,H⟩:=H.ex;exact⟨p,H.open_⟩
theorem kc{l:Nat}{v:c4}{p:A9}(H:E A (aI l (hq.cells (pn v p)) 72::eU p.s v.W::cZ k8 .i64 p.g6 v.held::cZ (B .i64) .i64 p.jR v.busy::cZ v6 .i64 p.jC v.dS::m) w):E A (eQ l v::m) w:=
 E.mF p (E.shut (bL:=[aI l (hq.cells (pn v p)) 72,eU p.s v.W,cZ k8 .i64 p.g6 v.held,cZ (B .i64) .i64 p.jR v.busy,cZ v6 .i64 p.jC v.dS]) H)
theorem Ot:∀ (D:List bu) {aN:bu},E A (D++aN::m) w→E A (aN::m) w
 |[],_,H=>H
 |_::D,_,H=>Ot D H.drop
theorem aCy{r:Nat}{ep:Type}{T:bn ep}{es:List (Int×ep)}{aa:Nat→Prop}{y:Option Nat}{g:Bool}(i:Nat)(H:E A m w)(aw:front i m=cZ T .i64 r es::bL)(hm:y=some r)(aq:aa es.length):ex (fun x=>g=true→(rH y w) x) aa:=by
 obtain⟨x,F,aq⟩:=abH (aa:=aa) i H aw hm aq;exact⟨x,fun _=>F,aq⟩
theorem R9{r it:Nat}{ep:Type}{T:bn ep}{k:IntKind}{es left:List (Int×ep)}{jM:Option (Int×ep)}(H:E A (rv T k r it es left jM::m) w):(es.map (·.1)).Nodup:=Hw (HZ H)
theorem Q3{f:Nat}(am:f<18446744073709551616)(H:E A m w):M Pg 140 [.float .f64 f] (bo aE (B .i64)) w fun r J=>(jo f→r.2=0∧∃ l,r.1=some ⟨l,0,none⟩∧E A (eQ l ⟨f,⟨[],0,0⟩,0,[],[],[]⟩::m) J)∧(¬ jo f→r=(none,150)∧E A m J):=by
 refine agD ?_;unfold T9;refine ap (Lo am H) ?_;rintro r w ⟨I,O,H⟩;by_cases c:r=0
 ·rw[if_neg (by simp[c])];refine ap (aHg H) ?_;rintro oD w ⟨s,rfl,H⟩;refine wU H fun g6 w H=>?_;have H:=wQ k8 .i64 H;refine wU H fun jR w H=>?_;have H:=wQ (B .i64) .i64 H;refine wU H fun jC w H=>?_;have H:=wQ v6 .i64 H;refine bH H fun l w H=>?_;refine⟨fun _=>⟨rfl,l,rfl,?_⟩,fun h=>absurd (I.1 c) h⟩;exact kc (v:=⟨f,⟨[],0,0⟩,0,[],[],[]⟩) (p:=⟨s,g6,jR,jC⟩) (H.ord [0,4,3,2,1])
 ·rw[if_pos (by simpa using c)];exact⟨fun h=>absurd (I.2 h) c,fun _=>⟨rfl,H⟩⟩
theorem afv{a:Int}(H:E A m w):M Pg 212 [.int .i64 a] bf w fun r J=>r=decide (rj a)∧E A m J:=by
 refine ahx ?_;unfold U1;refine⟨?_,H⟩;rw[Bool.eq_iff_iff,decide_eq_true_eq];unfold rj;simp
theorem aIr{t:Int}(H:E A m w):M Pg 250 [.int .i64 t] bf w fun r J=>r=(decide (t≥0)&&decide (t≤1125899906842624))∧E A m J:=by
 refine ah2 ?_;unfold Vw;exact⟨rfl,H⟩
theorem afx{l:Nat}{v:c4}{t:Int}(H:E A (eQ l v::m) w):M Pg 210 [.pointer (some ⟨l,0,none⟩),.int .i64 t] (B .i64) w fun r J=>r=tZ v t∧E A (eQ l v::m) J:=by
 refine ahv ?_;unfold UZ tZ;by_cases c:t<1∨t>1125899906842624
 ·rw[if_pos (by simpa using c),if_pos c];exact⟨rfl,H⟩
 ·rw[if_neg (by simpa using c),if_neg c];obtain⟨p,H⟩:=pm H;refine b3 rfl ?_;refine aj (x:=v.fA) 0 H rfl rfl rfl ?_;by_cases d:t≤v.fA
  ·rw[if_pos (by simpa using d),if_pos d];exact⟨rfl,kc H⟩
  ·rw[if_neg (by simpa using d),if_neg d];exact⟨rfl,kc H⟩
theorem B4{l:Nat}{v:c4}{t:Int}(H:E A (eQ l v::m) w):M Pg 215 [.pointer (some ⟨l,0,none⟩),.int .i64 t] dU w fun _ J=>E A (eQ l { v with fA:=max v.fA t }::m) J:=by
 refine ahA ?_;unfold U4;obtain⟨p,H⟩:=pm H;refine b3 rfl ?_;refine aj (x:=v.fA) 0 H rfl rfl rfl ?_;refine dx (x:=max v.fA t) 0 H rfl rfl (Nat.le_of_ble_eq_true rfl) fun w H=>?_;exact kc (v:={ v with fA:=max v.fA t }) H
theorem Ij{e:Int}(H:E A m w):M Pg 118 [.int .i64 e] (B .i64) w fun r J=>r=w9 e∧E A m J:=by
 refine agf ?_;unfold TM w9;by_cases bm:e=120
 ·rw[if_pos (by simpa using bm),if_pos bm]; exact⟨rfl,H⟩
 ·rw[if_neg (by simpa using bm),if_neg bm];by_cases bB:e=128
  ·rw[if_pos (by simpa using bB),if_pos bB]; exact⟨rfl,H⟩
  ·rw[if_neg (by simpa using bB),if_neg bB];by_cases b4:e=126
   ·rw[if_pos (by simpa using b4),if_pos b4]; exact⟨rfl,H⟩
   ·rw[if_neg (by simpa using b4),if_neg b4];by_cases fa:e=127
    ·rw[if_pos (by simpa using fa),if_pos fa]; exact⟨rfl,H⟩
    ·rw[if_neg (by simpa using fa),if_neg fa]; exact⟨rfl,H⟩
theorem aIs{l:Nat}{v:c4}{t a n:Int}(aT:Fit v)(H:E A (eQ l v::m) w):M Pg 169 [.pointer (some ⟨l,0,none⟩),.int .i64 t,.int .i64 a,.int .i64 n] (B .i64) w fun r J=>r=(yP v t a n).2∧E A (eQ l (yP v t a n).1::m) J:=by
 refine ag0 ?_;unfold Ux;refine ap (afx (t:=t) H) ?_;rintro r w ⟨rfl,H⟩;unfold yP;by_cases bY:tZ v t=0
 ·rw[if_neg (by simp[bY]),if_neg (by simp[bY])];obtain⟨p,H⟩:=pm H;refine b3 rfl ?_;refine aj (x:=some (⟨p.s,0,none⟩:Addr)) 0 H rfl rfl rfl ?_;refine ap (ER (k:=a) aT.eU (H.front 1)) ?_;rintro r w ⟨rfl,H⟩;refine bH H fun e5 w H=>?_;show ba dD _ (pa (aW v.W.rows a)).1 _ _
  generalize a5:pa (aW v.W.rows a)=q;have rY:fZ v a=q:=a5;rw[rY];refine cV (x:=kj) (S:=q.1) qf 0 H rfl fun w H=>?_;refine ap (afv H) ?_;rintro r w ⟨rfl,H⟩;have fin:∀ w,E A (aI e5 (dD.cells q.1) 292::eU p.s v.W::aI l (hq.cells (pn v p)) 72::cZ k8 .i64 p.g6 v.held::cZ (B .i64) .i64 p.jR v.busy::cZ v6 .i64 p.jC v.dS::m) w→E A (eQ l v::m) w:=fun w H=>kc ((H.drop).front 1);by_cases bm:rj a
  ·rw[decide_eq_true bm,if_neg (by simp:¬ (!true)=true),if_neg (show ¬ ¬ rj a by simp[bm])];by_cases bB:q.2=true
   ·rw[if_pos bB,if_pos bB];exact⟨rfl,fin _ H⟩
   ·rw[if_neg bB,if_neg bB];refine ap (uQ (n:=n) H) ?_;rintro r w ⟨rfl,H⟩;by_cases b4:ig n
    ·have e:(if 0≤n∧n≤1000000000000000 then (0:Int) else 40)=0:=if_pos b4;rw[e,if_neg (by simp),if_neg (by simp[b4])];refine aj (x:=some (⟨p.s,0,none⟩:Addr)) 2 H rfl rfl rfl ?_;refine vm H fun dX w H=>?_;have H:=um (ar:=2) (y:=1) rfl H;refine ap (Ch (t:=t) (xs:=[⟨a,n⟩]) aT.eU (by simp) (dc.row (fun _=>rfl) 0 rfl) (H.front 2)) ?_;rintro r w ⟨_,H⟩;have H:=kc (v:={ v with W:=nB v.W t [⟨a,n⟩] }) (p:=p) ((H.ord [3,0,4,5,6]));refine ap (B4 (t:=t) H) ?_;intro r w H;exact⟨rfl,(((H.front 1).drop).front 1).drop⟩
    ·have e:(if 0≤n∧n≤1000000000000000 then (0:Int) else 40)=40:=if_neg b4;rw[e,if_pos (by simp),if_pos b4];exact⟨rfl,fin _ H⟩
  ·rw[decide_eq_false bm,if_pos (by simp:(!false)=true),if_pos bm];exact⟨rfl,fin _ H⟩
 ·rw[if_pos (by simpa using bY),if_pos bY];exact⟨rfl,H⟩
theorem aIB{l:Nat}{v:c4}{p:Part}(aT:Fit v)(H:E A (eQ l v::m) w):M Pg 216 [.pointer (some ⟨l,0,none⟩),gX.enc p] (bo (B .i64) (B .i64)) w fun r J=>r=p0 v p∧E A (eQ l v::m) J:=by
 refine ahB ?_;unfold U5;refine bH H fun e5 w H=>?_;refine dg H fun w H=>?_;refine b3 rfl ?_;obtain⟨q,H⟩:=pm (H.front 1);refine aj (x:=some q.jC) 0 H rfl rfl rfl ?_;refine aj (x:=p.aD) 5 H rfl rfl rfl ?_;refine l_ 4 H rfl rfl ?_;refine bH H fun dX w H=>?_;refine cV (x:=nP) (S:=(v.dS.lookup p.aD).getD nP) Ht 0 H rfl fun w H=>?_;refine dg H fun w H=>?_;refine aj (x:=some (⟨q.s,0,none⟩:Addr)) 1 H rfl rfl rfl ?_;refine aj (x:=p.b5) 6 H rfl rfl rfl ?_;have H:=H.drop;have g2:∀ (iy:Nat) (w:World),E A (aI iy (dD.cells (fZ v p.b5).1) 292::eU q.s v.W::aI l (hq.cells (pn v q)) 72::cZ k8 .i64 q.g6 v.held::cZ (B .i64) .i64 q.jR v.busy::cZ v6 .i64 q.jC v.dS::aI e5 (gX.cells p) 60::m) w →
   Fo ⟨e5,0,none⟩ ⟨l,0,none⟩ (v.dS.lookup p.aD) ⟨iy,0,none⟩ (fZ v p.b5).2 w fun r J=>r=p0 v p∧E A (eQ l v::m) J:=by
  intro iy w H;have fin:∀ w,E A (aI iy (dD.cells (fZ v p.b5).1) 292::eU q.s v.W::aI l (hq.cells (pn v q)) 72::cZ k8 .i64 q.g6 v.held::cZ (B .i64) .i64 q.jR v.busy::cZ v6 .i64 q.jC v.dS::aI e5 (gX.cells p) 60::m) w→E A (eQ l v::m) w:=
   fun w H=>(kc (p:=q) ((H.drop).front 1) |>.front 1).drop
  unfold Fo p0;refine dg H fun w H=>?_;refine aj (x:=some q.jR) 2 H rfl rfl rfl ?_;refine aj (x:=p.b5) 6 H rfl rfl rfl ?_;refine l_ 4 H rfl rfl ?_;refine aj (x:=p.aD) 6 H rfl rfl rfl ?_;by_cases bm:p.aD<1
  ·rw[if_pos (by simpa using bm),if_pos bm]; exact⟨rfl,fin _ H⟩
  ·rw[if_neg (by simpa using bm),if_neg bm];by_cases bB:(v.dS.lookup p.aD).isSome=true
   ·rw[if_pos bB,if_pos bB]; exact⟨rfl,fin _ H⟩
   ·rw[if_neg bB,if_neg bB];refine aj (x:=some q.jC) 2 H rfl rfl rfl ?_;refine abH 5 H rfl rfl ?_;by_cases b4:5000≤v.dS.length
    ·rw[if_pos (by simp; omega),if_pos b4]; exact⟨rfl,fin _ H⟩
    ·rw[if_neg (by simp; omega),if_neg b4];refine aj (x:=p.b5) 6 H rfl rfl rfl ?_;refine ap (afv H) ?_;rintro r w ⟨rfl,H⟩;by_cases fa:rj p.b5
     ·rw[decide_eq_true fa,if_neg (by simp),if_neg (show ¬ ¬ rj p.b5 by simp[fa])];refine aj (x:=p.b) 6 H rfl rfl rfl ?_;have vf:∀ (t:Bool) (w:World),(t=true↔p.b<1∨¬ ig p.b)→E A (aI iy (dD.cells (fZ v p.b5).1) 292::eU q.s v.W::aI l (hq.cells (pn v q)) 72::cZ k8 .i64 q.g6 v.held::cZ (B .i64) .i64 q.jR v.busy::cZ v6 .i64 q.jC v.dS::aI e5 (gX.cells p) 60::m) w →
        Fp ⟨e5,0,none⟩ ⟨l,0,none⟩ ⟨iy,0,none⟩ (fZ v p.b5).2 (v.busy.lookup p.b5) t w fun r J=>r=(if p.b<1∨¬ ig p.b then (0,155) else if (fZ v p.b5).2=false then (0,159) else if (v.busy.lookup p.b5).isSome=true then (0,160)
         else if p.h8=false then (if ig (fZ v p.b5).1.V∧(fZ v p.b5).1.V+p.b≤1000000000000000 then (0,0) else (0,162))
         else if (fZ v p.b5).1.V<p.b+j5 p.b v.ey then (0,161) else (j5 p.b v.ey,0))∧E A (eQ l v::m) J:=by
       intro t w aR H;unfold Fp;by_cases jf:p.b<1∨¬ ig p.b
       ·rw[if_pos (aR.2 jf),if_pos jf]; exact⟨rfl,fin _ H⟩
       ·rw[if_neg (fun h=>jf (aR.1 h)),if_neg jf];have q6:ig p.b:=Classical.byContradiction fun U=>jf (.inr U);by_cases qZ:(fZ v p.b5).2=false
        ·rw[if_pos (by simp[qZ]),if_pos qZ]; exact⟨rfl,fin _ H⟩
        ·rw[if_neg (by simpa using qZ),if_neg qZ];by_cases c7:(v.busy.lookup p.b5).isSome=true
         ·rw[if_pos c7,if_pos c7]; exact⟨rfl,fin _ H⟩
         ·rw[if_neg c7,if_neg c7];refine aj (x:=p.h8) 6 H rfl rfl rfl ?_;by_cases c8:p.h8=false
          ·rw[if_pos (by simp[c8]),if_pos c8];refine aj (x:=(fZ v p.b5).1.V) 0 H rfl rfl rfl ?_;refine aj (x:=p.b) 6 H rfl rfl rfl ?_;refine ap (aj4 H) ?_;rintro r w ⟨I,O,H⟩;by_cases c9:ig (fZ v p.b5).1.V∧(fZ v p.b5).1.V+p.b≤1000000000000000
           ·rw[if_neg (by simp[I.2 ⟨c9.1,q6,c9.2⟩]),if_pos c9]; exact⟨rfl,fin _ H⟩
           ·rw[if_pos (by simp; exact fun h=>c9 ⟨(I.1 h).1,(I.1 h).2.2⟩),if_neg c9]; exact⟨rfl,fin _ H⟩
          ·rw[if_neg (by simpa using c8),if_neg c8];refine dg H fun w H=>?_;refine aj (x:=p.b) 6 H rfl rfl rfl ?_;refine aj (x:=v.ey) 2 H rfl rfl rfl ?_;refine ap (anU q6.1 q6.2 aT.ey H) ?_;rintro r w ⟨rfl,H⟩;refine aj (x:=(fZ v p.b5).1.V) 0 H rfl rfl rfl ?_;refine aj (x:=p.b) 6 H rfl rfl rfl ?_;have am:=GB q6.1 q6.2 aT.ey;have aK:=q6.2;have aKa:=q6.1;have e:IntKind.i64.wrap (p.b+(j5 p.b v.ey,(0:Int)).1)=p.b+j5 p.b v.ey:=wrap_i64 (by simp only; omega) (by simp only; omega);rw[e];by_cases c9:(fZ v p.b5).1.V<p.b+j5 p.b v.ey
           ·rw[if_pos (by simpa using c9),if_pos c9]; exact⟨rfl,fin _ H⟩
           ·rw[if_neg (by simpa using c9),if_neg c9]; exact⟨rfl,fin _ H⟩
      by_cases jf:p.b<1
      ·rw[if_pos (by simpa using jf)];exact vf true w ⟨fun _=>.inl jf,fun _=>rfl⟩ H
      ·rw[if_neg (by simpa using jf)];refine aj (x:=p.b) 6 H rfl rfl rfl ?_;refine ap (uQ H) ?_;rintro r w ⟨rfl,H⟩;refine vf _ w ?_ H;by_cases qZ:ig p.b
       ·have e:(if 0≤p.b∧p.b≤1000000000000000 then (0:Int) else 40)=0:=if_pos qZ;rw[e];simp[jf,qZ]
       ·have e:(if 0≤p.b∧p.b≤1000000000000000 then (0:Int) else 40)=40:=if_neg qZ;rw[e];simp[qZ]
     ·rw[decide_eq_false fa,if_pos (by simp),if_pos fa]; exact⟨rfl,fin _ H⟩
 refine⟨?_,?_⟩
 ·refine ap (ER (k:=p.b5) aT.eU (H.front 1)) ?_;rintro r w ⟨rfl,H⟩;refine bH H fun iy w H=>?_;show ba dD _ (fZ v p.b5).1 _ _
  refine cV (x:=kj) (S:=(fZ v p.b5).1) qf 0 H rfl fun w H=>?_;exact g2 iy w H
 ·refine bH H fun iy w H=>?_;refine ap (ER (k:=p.b5) aT.eU (H.front 2)) ?_;rintro r w ⟨rfl,H⟩;show ba dD _ (fZ v p.b5).1 _ _
  refine cV (x:=kj) (S:=(fZ v p.b5).1) qf 1 H rfl fun w H=>?_;exact g2 iy w H
theorem aIq{l:Nat}{v:c4}{t:Int}{p:Part}(aT:Fit v)(H:E A (eQ l v::m) w):M Pg 170 [.pointer (some ⟨l,0,none⟩),.int .i64 t,gX.enc p] (B .i64) w fun r J=>r=(zV v t p).2∧E A (eQ l (zV v t p).1::m) J:=by
 refine ag2 ?_;unfold Uz zV;refine bH H fun e5 w H=>?_;refine ap (afx (t:=t) (H.front 1)) ?_;rintro r w ⟨rfl,H⟩;by_cases bY:tZ v t=0
 ·rw[if_neg (by simp[bY]),if_neg (by simp[bY])];refine ec (x:=p) 1 H rfl ?_;refine ap (aIB (p:=p) aT H) ?_;rintro r w ⟨rfl,H⟩;by_cases bm:(p0 v p).2=0
  ·rw[if_neg (by simp[bm]),if_neg (by simp[bm])];refine dg H fun w H=>?_;refine b3 rfl ?_;obtain⟨q,H⟩:=pm H;refine aj (x:=some q.g6) 0 H rfl rfl rfl ?_;refine aj (x:=p.aD) 5 H rfl rfl rfl ?_;refine ec (x:=p) 5 H rfl ?_;refine r4 2 H rfl rfl fun w H=>?_;refine dg H fun w H=>?_;refine aj (x:=some q.jR) 1 H rfl rfl rfl ?_;refine aj (x:=p.b5) 5 H rfl rfl rfl ?_;refine aj (x:=p.aD) 5 H rfl rfl rfl ?_;refine r4 3 H rfl rfl fun w H=>?_;refine dg H fun w H=>?_;refine aj (x:=some q.jC) 2 H rfl rfl rfl ?_;refine aj (x:=p.aD) 5 H rfl rfl rfl ?_;refine r4 4 H rfl rfl fun w H=>?_;have H:=kc (v:={ v with held:=eH p.aD ⟨p,t,(p0 v p).1⟩ v.held,busy:=eH p.b5 p.aD v.busy,dS:=eH p.aD ⟨1,t⟩ v.dS }) (p:=q) (H.ord [3,4,2,1,0]);refine ap (B4 (t:=t) H) ?_;intro r w H;exact⟨rfl,(H.front 1).drop⟩
  ·rw[if_pos (by simpa using bm),if_pos bm];exact⟨rfl,(H.front 1).drop⟩
 ·rw[if_pos (by simpa using bY),if_pos bY];exact⟨rfl,(H.front 1).drop⟩
theorem free_spec{l:Nat}{v:c4}{h:mr}(H:E A (eQ l v::m) w):M Pg 249 [.pointer (some ⟨l,0,none⟩),k8.enc h] dU w fun _ J=>E A (eQ l (Bq v h)::m) J:=by
 refine ah0 ?_;unfold Vu;refine bH H fun e5 w H=>?_;refine dg H fun w H=>?_;refine b3 rfl ?_;obtain⟨q,H⟩:=pm (H.front 1);refine aj (x:=some q.g6) 0 H rfl rfl rfl ?_;refine aj (x:=h.Part.aD) 5 H rfl rfl rfl ?_;refine QW 2 H rfl rfl fun w H=>?_;refine dg H fun w H=>?_;refine aj (x:=some q.jR) 1 H rfl rfl rfl ?_;refine aj (x:=h.Part.b5) 5 H rfl rfl rfl ?_;refine QW 3 H rfl rfl fun w H=>?_;exact (kc (v:=Bq v h) (p:=q) (H.ord [2,3,1,0,4]) |>.front 1).drop
theorem ak7{l:Nat}{v:c4}{h:mr}{q:A9}(aT:Fit v)(H:E A (aI l (hq.cells (pn v q)) 72::eU q.s v.W::m) w):M Pg 253 [.pointer (some ⟨l,0,none⟩),k8.enc h] X w fun r J=>E A (row hL 87 2 r (uP v h)::aI l (hq.cells (pn v q)) 72::eU q.s v.W::m) J:=by
 refine ah5 ?_;unfold Vz uP;refine bH H fun e5 w H=>?_;refine aj (x:=h.Part.b5) 0 H rfl rfl rfl ?_;refine b3 rfl ?_;refine aj (x:=some (⟨q.s,0,none⟩:Addr)) 1 H rfl rfl rfl ?_;refine ap (ER (k:=h.Part.b5) aT.eU (H.front 2)) ?_;rintro r w ⟨rfl,H⟩;refine bH H fun dX w H=>?_;show ba dD _ (fZ v h.Part.b5).1 _ _
 refine cV (x:=kj) (S:=(fZ v h.Part.b5).1) qf 0 H rfl fun w H=>?_;refine aj (x:=h.Part.h8) 2 H rfl rfl rfl ?_;by_cases c:h.Part.h8=false
 ·rw[if_pos (by simp[c]),if_pos c];refine aj (x:=(fZ v h.Part.b5).1.V) 0 H rfl rfl rfl ?_;refine aj (x:=h.Part.b) 2 H rfl rfl rfl ?_;refine vm H fun iy w H=>?_;have H:=um (ar:=2) (y:=1) rfl H;exact ((((H.front 1).drop.front 2).drop).ord [0,2,1])
 ·rw[if_neg (by simpa using c),if_neg c];refine aj (x:=(fZ v h.Part.b5).1.V) 0 H rfl rfl rfl ?_;refine aj (x:=h.Part.b) 2 H rfl rfl rfl ?_;refine aj (x:=h.uz) 2 H rfl rfl rfl ?_;refine vm H fun iy w H=>?_;have H:=um (ar:=2) (y:=1) rfl H;refine aj (x:=h.uz) 3 H rfl rfl rfl ?_;unfold IK;by_cases d:h.uz>0
  ·rw[if_pos (by simpa using d),if_pos d];refine aj (x:=some (⟨q.s,0,none⟩:Addr)) 4 H rfl rfl rfl ?_;generalize PM:IntKind.i64.wrap (4096+h.Part.b5)=nA;refine ap (ER (k:=nA) aT.eU (H.front 2)) ?_;rintro r w ⟨rfl,H⟩;refine bH H fun iz w H=>?_;show ba dD _ (fZ v nA).1 _ _
   refine cV (x:=kj) (S:=(fZ v nA).1) qf 0 H rfl fun w H=>?_;refine aj (x:=(fZ v nA).1.V) 0 H rfl rfl rfl ?_;refine aj (x:=h.uz) 4 H rfl rfl rfl ?_;refine nq (fun _=>rfl) 2 H rfl (by simp) fun r w H=>?_;have H:=((((H.front 1).drop).front 2).drop.front 2).drop;exact H.ord [0,2,1]
  ·rw[if_neg (by simpa using d),if_neg d];have H:=(H.front 1).drop;have H:=(H.front 2).drop;exact H.ord [0,2,1]
theorem ak6(v:c4)(h:mr):(uP v h).length≤2:=by
 unfold uP;split
 ·simp
 ·split<;>simp
theorem alV{l:Nat}{v:c4}{t id:Int}(aT:Fit v)(H:E A (eQ l v::m) w):M Pg 220 [.pointer (some ⟨l,0,none⟩),.int .i64 t,.int .i64 id] (B .i64) w fun r J=>r=(xH v t id).2∧E A (eQ l (xH v t id).1::m) J:=by
 refine ahF ?_;unfold Va xH;by_cases bY:t<1∨t>1125899906842624
 ·rw[if_pos (by simpa using bY),if_pos bY]; exact⟨rfl,H⟩
 ·rw[if_neg (by simpa using bY),if_neg bY];refine b3 rfl ?_;obtain⟨q,H⟩:=pm H;refine aj (x:=some q.jC) 0 H rfl rfl rfl ?_;refine l_ 4 H rfl rfl ?_;refine bH H fun e5 w H=>?_;show ba lA _ (fb v id) _ _
  refine cV (x:=nP) (S:=fb v id) Ht 0 H rfl fun w H=>?_;refine aj (x:=(fb v id).h5) 0 H rfl rfl rfl ?_;by_cases bm:(fb v id).h5=2
  ·rw[if_pos (by simpa using bm),if_pos bm];refine aj (x:=(fb v id).gL) 0 H rfl rfl rfl ?_;by_cases bB:(fb v id).gL=t
   ·rw[if_neg (by simp[bB]),if_neg (by simp[bB])];exact⟨rfl,kc (p:=q) H.drop⟩
   ·rw[if_pos (by simpa using bB),if_pos bB];exact⟨rfl,kc (p:=q) H.drop⟩
  ·rw[if_neg (by simpa using bm),if_neg bm];by_cases bB:(fb v id).h5=1
   ·rw[if_pos (by simpa using bB),if_pos bB];refine aj (x:=some q.g6) 1 H rfl rfl rfl ?_;refine l_ 3 H rfl rfl ?_;refine bH H fun dX w H=>?_;show ba k8 _ (o6 v id) _ _
    refine cV (x:=qS) (S:=o6 v id) Ee 0 H rfl fun w H=>?_;refine aj (x:=(o6 v id).bW) 0 H rfl rfl rfl ?_;by_cases b4:t<(o6 v id).bW
    ·rw[if_pos (by simpa using b4),if_pos b4];exact⟨rfl,kc (p:=q) H.drop.drop⟩
    ·rw[if_neg (by simpa using b4),if_neg b4];generalize o6 v id=h at *;refine dg H fun w H=>?_;refine aj (x:=some (⟨q.s,0,none⟩:Addr)) 2 H rfl rfl rfl ?_;refine ec (x:=h) 0 H rfl ?_;refine ap (ak7 (h:=h) (q:=q) aT (H.ord [2,3])) ?_;intro r w H;have yb:=ak6 v h;refine⟨bE aE (H.front 1) rfl rfl,?_⟩;refine ap (Ch (t:=t) (xs:=uP v h) aT.eU (by omega) (dc.row (fun _=>rfl) 0 rfl) (H.front 2)) ?_;rintro r w ⟨_,H⟩;have H:=(H.front 1).drop;refine⟨bE k8 (H.front 2) rfl (tA _),?_⟩;refine ec (x:=h) 2 H rfl ?_;have H:=kc (v:={ v with W:=nB v.W t (uP v h) }) (p:=q) (H.ord [1,0,4,5,6]);refine ap (free_spec (h:=h) H) ?_;intro r w H;obtain⟨gu,H⟩:=pm H;refine aj (x:=some gu.jC) 0 H rfl rfl rfl ?_;refine r4 4 H rfl rfl fun w H=>?_;have H:=kc (v:={ Bq v h with W:=nB v.W t (uP v h),dS:=eH id ⟨2,t⟩ v.dS }) (p:=gu) (H.ord [1,2,3,4,0]);refine ap (B4 (t:=t) H) ?_;intro r w H
     exact⟨rfl,(((H.front 1).drop).front 1).drop⟩
   ·rw[if_neg (by simpa using bB),if_neg bB];exact⟨rfl,kc (p:=q) H.drop⟩
theorem amm{l:Nat}{v:c4}{id:Int}(H:E A (eQ l v::m) w):M Pg 217 [.pointer (some ⟨l,0,none⟩),.int .i64 id] (B .i64) w fun r J=>r=(xK v id).2∧E A (eQ l (xK v id).1::m) J:=by
 refine ahC ?_;unfold U6 xK;refine b3 rfl ?_;obtain⟨q,H⟩:=pm H;refine aj (x:=some q.jC) 0 H rfl rfl rfl ?_;refine l_ 4 H rfl rfl ?_;refine bH H fun e5 w H=>?_;show ba lA _ (fb v id) _ _
 refine cV (x:=nP) (S:=fb v id) Ht 0 H rfl fun w H=>?_;by_cases bY:id<1
 ·rw[if_pos (by simpa using bY),if_pos bY];exact⟨rfl,kc (p:=q) H.drop⟩
 ·rw[if_neg (by simpa using bY),if_neg bY];refine aj (x:=(fb v id).h5) 0 H rfl rfl rfl ?_;by_cases bm:(fb v id).h5=2
  ·rw[if_pos (by simpa using bm),if_pos bm];exact⟨rfl,kc (p:=q) H.drop⟩
  ·rw[if_neg (by simpa using bm),if_neg bm];refine aO ⟨l,0,none⟩ (fun _=>rfl) ?_;refine aO (some q.jC) (fun _=>bE ef (H.front 1) rfl rfl) ?_;refine aCy (g:=!((v.dS.lookup id).isSome)) 5 H rfl rfl ?_;have g2:∀ (w:World),E A (eQ l (rT v id)::m) w→Fq id ⟨l,0,none⟩ w fun r J=>r=0∧E A (eQ l { rT v id with dS:=eH id ⟨3,0⟩ v.dS }::m) J:=by
    intro w H;have am:(rT v id).dS=v.dS:=by unfold rT; split<;>rfl
    unfold Fq;obtain⟨gu,H⟩:=pm H;refine aj (x:=some gu.jC) 0 H rfl rfl rfl ?_;refine r4 4 H rfl rfl fun w H=>?_;rw[am] at H;exact⟨rfl,kc (v:={ rT v id with dS:=eH id ⟨3,0⟩ v.dS }) (p:=gu) (H.ord [1,2,3,4,0])⟩
   by_cases bB:(v.dS.lookup id).isSome=false∧5000≤v.dS.length
   ·rw[if_pos (by simp only[bB.1]; simp; omega),if_pos bB];exact⟨rfl,kc (p:=q) H.drop⟩
   ·rw[if_neg (by
     intro U;rw[Bool.and_eq_true] at U;refine bB ⟨by simpa using U.1,?_⟩;have:=U.2;simp at this
     omega),if_neg bB]
    refine aj (x:=some q.g6) 1 H rfl rfl rfl ?_;refine l_ 3 H rfl rfl ?_;refine bH H fun dX w H=>?_;show ba k8 _ (o6 v id) _ _
    refine cV (x:=qS) (S:=o6 v id) Ee 0 H rfl fun w H=>?_;cases cn:v.held.lookup id with
    |some h=>
     rw[if_pos (by simp)];rw[DZ cn] at H;refine ec (x:=h) 0 H rfl ?_;have H:=kc (p:=q) (H.ord [2,3,4,5,6]);refine ap (free_spec (h:=h) H) ?_;intro r w H;have R:rT v id=Bq v h:=by unfold rT; rw[cn]
     exact g2 w (by rw[R]; exact (((H.front 1).drop).front 1).drop)
    |none=>
     rw[if_neg (by simp)];have R:rT v id=v:=by unfold rT; rw[cn]
     have H:=kc (p:=q) (H.ord [2,3,4,5,6]);exact g2 w (by rw[R]; exact (((H.front 1).drop).front 1).drop)
theorem aIp{l:Nat}{v:c4}{t:Int}(H:E A (eQ l v::m) w):M Pg 218 [.pointer (some ⟨l,0,none⟩),.int .i64 t] (B .i64) w fun r J=>r=(q2 v t).2∧E A (eQ l (q2 v t).1::m) J:=by
 refine ahD ?_;unfold U7;refine ap (aIr (t:=t) H) ?_;rintro r w ⟨rfl,H⟩;by_cases bY:t<0∨t>1125899906842624
 ·have e:q2 v t=(v,151):=by unfold q2; rw[if_pos bY]
  rw[e,if_pos (by simp; omega)];exact⟨rfl,H⟩
 ·rw[if_neg (by simp; omega)];refine b3 rfl ?_;obtain⟨q,H⟩:=pm H;refine aj (x:=some q.g6) 0 H rfl rfl rfl ?_;refine Sj 2 H rfl rfl fun it w H=>?_;refine Ek (fun n _ w=>∃ left jM,n=left.length∧(∀ x∈left,x∈v.held)∧(v.held.any (fun e=>decide (e.2.bW≤t))=left.any (fun e=>decide (e.2.bW≤t)))∧(left.map (·.1)).Nodup∧∃ yp,E A (rv k8 .i64 q.g6 it v.held left jM::aI l (hq.cells (pn v q)) 72::eU q.s v.W::cZ (B .i64) .i64 q.jR v.busy::cZ v6 .i64 q.jC v.dS::(yp++m)) w) _ ⟨v.held,none,rfl,fun _ h=>h,rfl,?_,[],H⟩ ?_
  ·exact R9 H
  clear H;rintro c _ w ⟨left,jM,rfl,I,O,aK,yp,H⟩ aa b2;unfold MR;refine Rc 0 H rfl rfl (fun he H=>?_) fun x F w H=>?_
  ·subst he;rw[if_neg (by simp)];have e:q2 v t=({ v with W:=sD v.W t,fA:=max v.fA t },0):=by
    unfold q2; rw[if_neg bY,if_neg (by rw[O]; simp)]
   rw[e];have H:=HZ H;refine aj (x:=some (⟨q.s,0,none⟩:Addr)) 1 H rfl rfl rfl ?_;refine ap (alE (t:=t) (H.front 2)) ?_;rintro r w ⟨_,H⟩;have H:=kc (v:={ v with W:=sD v.W t }) (p:=q) (H.ord [2,0,1,3,4]);refine ap (B4 (t:=t) H) ?_;intro r w H;have H:=H.perm (List.perm_middle.symm:(_::(yp++m)).Perm (yp++_::m));exact⟨rfl,Ot yp H⟩
  ·rw[if_pos (by simp)];refine OJ 0 H rfl rfl ?_;refine bH H fun e5 w H=>?_;refine cV (x:=qS) (S:=x.2) Ee 0 H rfl fun w H=>?_;refine aj (x:=x.2.bW) 0 H rfl rfl rfl ?_;by_cases bm:x.2.bW≤t
   ·rw[if_pos (by simpa using bm)];have e:q2 v t=(v,160):=by
     unfold q2; rw[if_neg bY,if_pos (List.any_eq_true.2 ⟨x,I x F,by simpa using bm⟩)]
    rw[e];have H:=HZ H.drop;have H:=kc (v:=v) (p:=q) (H.ord [1,2,0,3,4]);have H:=H.perm (List.perm_middle.symm:(_::(yp++m)).Perm (yp++_::m));exact⟨rfl,Ot yp H⟩
   ·rw[if_neg (by simpa using bm)];refine b2 _ _ _ (Za F) ⟨_,_,rfl,fun S aB=>I S (List.mem_filter.1 aB).1,?_,(aK.sublist (List.filter_sublist.map _)),yp,H.drop⟩;rw[O,List.any_filter,Bool.eq_iff_iff,List.any_eq_true,List.any_eq_true];constructor
    ·rintro⟨S,aB,ag⟩;refine⟨S,aB,?_⟩;rw[Bool.and_eq_true];refine⟨?_,ag⟩;rw[bne_iff_ne];intro U;have:S=x:=KO aK S aB x F U;subst this;exact bm (by simpa using ag)
    ·rintro⟨S,aB,ag⟩;rw[Bool.and_eq_true] at ag;exact⟨S,aB,ag.2⟩
theorem aIw{l:Nat}{v:c4}{t:Int}(aT:Fit v)(H:E A (eQ l v::m) w):M Pg 219 [.pointer (some ⟨l,0,none⟩),.int .i64 t] (B .i64) w fun r J=>r=(EI v t).2∧E A (eQ l (EI v t).1::m) J:=by
 refine ahE ?_;unfold U8;refine b3 rfl ?_;obtain⟨q,H⟩:=pm H;refine aj (x:=some (⟨q.s,0,none⟩:Addr)) 0 H rfl rfl rfl ?_;refine ap (aES (t:=t) aT.eU (H.front 1)) ?_;rintro r w ⟨rfl,H⟩;refine ap (Ij H) ?_;rintro r w ⟨rfl,H⟩;exact⟨rfl,kc (v:={ v with W:=sc v.W t }) (p:=q) (H.front 1)⟩
theorem aIA{l:Nat}{v:c4}{t:Int}(aT:Fit v)(H:E A (eQ l v::m) w):M Pg 64 [.pointer (some ⟨l,0,none⟩),.int .i64 t] (bo X (B .i64)) w fun r J=>r.2=w9 (rB v.W t)∧E A (row hL 87 2 r.1 (nb v.W t)::eQ l v::m) J:=by
 refine aiS ?_;unfold Wj;refine b3 rfl ?_;obtain⟨q,H⟩:=pm H;refine aj (x:=some (⟨q.s,0,none⟩:Addr)) 0 H rfl rfl rfl ?_;refine ap (aHe (t:=t) aT.eU (H.front 1)) ?_;rintro⟨gJ,bs⟩ w ⟨ab,H⟩;simp only at ab H;subst ab;refine ap (Ij H) ?_;rintro r w ⟨rfl,H⟩;exact⟨rfl,(kc (p:=q) (H.ord [2,1,3,4,5])).front 1⟩
theorem uV{l:Nat}{v:c4}{id:Int}(H:E A (eQ l v::m) w):M Pg 10 [.pointer (some ⟨l,0,none⟩),.int .i64 id] (bo (B .i64) (B .i64)) w fun r J=>r=((fb v id).h5,(fb v id).gL)∧E A (eQ l v::m) J:=by
 refine af7 ?_;unfold Tv;refine b3 rfl ?_;obtain⟨q,H⟩:=pm H;refine aj (x:=some q.jC) 0 H rfl rfl rfl ?_;refine l_ 4 H rfl rfl ?_;refine bH H fun e5 w H=>?_;show ba lA _ (fb v id) _ _
 refine cV (x:=nP) (S:=fb v id) Ht 0 H rfl fun w H=>?_;refine dg H fun w H=>?_;refine aj (x:=(fb v id).h5) 0 H rfl rfl rfl ?_;refine aj (x:=(fb v id).gL) 0 H rfl rfl rfl ?_;exact⟨rfl,kc (p:=q) H.drop⟩
theorem aIa{l:Nat}{v:c4}(H:E A (eQ l v::m) w):M Pg 21 [.pointer (some ⟨l,0,none⟩)] (B .i64) w fun r J=>r=v.fA∧E A (eQ l v::m) J:=by
 refine U9 ?_;unfold MP;refine b3 rfl ?_;obtain⟨q,H⟩:=pm H;refine aj (x:=v.fA) 0 H rfl rfl rfl ?_;exact⟨rfl,kc (p:=q) H⟩
theorem afu{s:Nat}{o:hp}(H:E A (eU s o::m) w):M Pg 20 [ds.enc (⟨some ⟨s,0,none⟩⟩:mQ)] (B .i64) w fun r J=>r=o.closed∧E A (eU s o::m) J:=by
 refine ahu ?_;unfold UY;refine bH H fun e5 w H=>?_;refine aj (x:=some (⟨s,0,none⟩:Addr)) 0 H rfl rfl rfl ?_;refine ap (alF (H.front 1)) ?_;rintro r w ⟨rfl,H⟩;exact⟨rfl,(H.front 1).drop⟩
theorem afw{s:Nat}{o:hp}(H:E A (eU s o::m) w):M Pg 22 [ds.enc (⟨some ⟨s,0,none⟩⟩:mQ)] (B .i64) w fun r J=>r=o.mark∧E A (eU s o::m) J:=by
 refine ahN ?_;unfold U_;refine bH H fun e5 w H=>?_;refine aj (x:=some (⟨s,0,none⟩:Addr)) 0 H rfl rfl rfl ?_;refine ap (aCt (H.front 1)) ?_;rintro r w ⟨rfl,H⟩;exact⟨rfl,(H.front 1).drop⟩
theorem Pt{l:Nat}{v:c4}{p:A9}(aT:Fit v)(H:E A (aI l (hq.cells (pn v p)) 72::cZ k8 .i64 p.g6 v.held::m) w):M Pg 23 [.pointer (some ⟨l,0,none⟩)] X w fun r J=>E A (row k8 135 6 r (gl v)::aI l (hq.cells (pn v p)) 72::cZ k8 .i64 p.g6 v.held::m) J:=by
 refine ahT ?_;unfold Vi;refine b3 rfl ?_;refine aj (x:=some p.g6) 0 H rfl rfl rfl ?_;refine aiO ?_;unfold Wg;refine bH H fun eM w H=>?_;have G5:∀ e∈v.held,-9223372036854775808≤e.1∧e.1≤9223372036854775807:=fun e he=>by have:=apf aT e he; omega
 have g1:=ZS aT;refine ap (aHm G5 (by omega) (H.ord [0,2])) ?_;rintro s w ⟨fw,aF,H⟩;have a5:(fw.mergeSort fun x S=>decide (x≤S))=oG (v.held.map (·.1)):=St aF;rw[a5] at H;have aG:=gn H;have apr:gl v=(oG (v.held.map (·.1))).map (o6 v):=rfl;rw[apr];have wz:(oG (v.held.map (·.1))).length≤5000:=by rw[(n_ _).length_eq,List.length_map]; omega
 generalize oG (v.held.map (·.1))=q at *;have H:=kJ k8 135 6 H;refine vk (fun x w=>0≤x.2∧x.2≤q.length∧E A (row k8 135 6 x.1 ((q.take x.2.toNat).map (o6 v))::row (B .i64) 3 1 s q::aI eM [.map (some p.g6)] 68::cZ k8 .i64 p.g6 v.held::aI l (hq.cells (pn v p)) 72::m) w) (fun x=>(q.length-x.2).toNat)
  ⟨Int.le_refl 0,by simp only; omega,H⟩ ?_
 rintro⟨out,i⟩ w ⟨ah,I,H⟩;simp only at ah I;simp only;unfold MV;rw[aG];split
 ·rename_i hr;have hr:i<q.length:=by simpa using hr
  have aQ:IntKind.i64.wrap (i+1)=i+1:=wrap_i64 (by omega) (by omega);have F:q[i.toNat]?=some q[i.toNat]:=List.getElem?_eq_getElem (by omega);have iC:(q.take (i+1).toNat).map (o6 v)=(q.take i.toNat).map (o6 v)++[o6 v q[i.toNat]]:=by
   rw[show (i+1).toNat=i.toNat+1 from by omega,List.take_succ_eq_append_getElem (by omega),List.map_append]; rfl
  obtain⟨a,Y⟩:=kI (ar:=1) (i:=i) (H.front 1) ah hr;refine aO a Y ?_;refine aO q[i.toNat] (mh (fun _=>rfl) Y F (H.front 1)) ?_;generalize q[i.toNat]=k at *;refine aj (x:=some p.g6) 4 H rfl rfl rfl ?_;refine l_ 3 H rfl rfl ?_;show l3 _ k8 6 48 _ [o6 v k] _ _
  refine nq (fun _=>rfl) 0 H rfl (by simp only[List.length_map,List.length_take,List.length_singleton]; omega) fun s2 bN H=>?_;rw[aQ];refine⟨⟨by simp only; omega,by simp only; omega,?_⟩,by simp only; omega⟩;simp only;rw[iC];exact H
 ·rename_i hr;have hr:i=q.length:=by simp at hr; omega
  subst hr;have e:q.take ((q.length:Int)).toNat=q:=by simp
  rw[e] at H;have H:=((H.front 1).drop.front 1).drop;exact H.ord [0,2,1]
theorem ZT{l:Nat}{v:c4}(aT:Fit v)(H:E A (eQ l v::m) w):M Pg 23 [.pointer (some ⟨l,0,none⟩)] X w fun r J=>E A (row k8 135 6 r (gl v)::eQ l v::m) J:=by
 obtain⟨p,H⟩:=pm H;refine ap (Pt (p:=p) aT (H.ord [0,2])) ?_;intro r w H;exact (kc (p:=p) (H.ord [1,3,2,4,5])).front 1
theorem afc{l:Nat}{v:c4}{q:A9}(H:E A (aI l (hq.cells (pn v q)) 72::m) w):M Pg 21 [.pointer (some ⟨l,0,none⟩)] (B .i64) w fun r J=>r=v.fA∧E A (aI l (hq.cells (pn v q)) 72::m) J:=by
 refine U9 ?_;unfold MP;refine b3 rfl ?_;refine aj (x:=v.fA) 0 H rfl rfl rfl ?_;exact⟨rfl,H⟩
end
end Vault
namespace Shard
open bb Wire
abbrev dI:=jI
abbrev sz:=fL
structure nN(x:dI):Prop where
 k:-9223372036854775808≤x.Kind∧x.Kind≤9223372036854775807
 t:-9223372036854775808≤x.bW∧x.bW≤9223372036854775807
 i:-9223372036854775808≤x.aD∧x.aD≤9223372036854775807
 a:-9223372036854775808≤x.b5∧x.b5≤9223372036854775807
 n:-9223372036854775808≤x.b∧x.b≤9223372036854775807
def flag(l:Bool):Int:=if l=true then 1 else 0
def mH(x:dI):List e_:=[⟨1,IntKind.u64.wrap x.Kind,0,0,[]⟩,⟨2,0,x.bW,0,[]⟩,⟨2,0,x.aD,0,[]⟩,⟨2,0,x.b5,0,[]⟩,⟨2,0,x.b,0,[]⟩,⟨1,flag x.h8,0,0,[]⟩]
def iY(x:dI):List UInt8:=hS (mH x)
theorem Y6{u:Int}(ah:0≤u)(I:u<18446744073709551616):In ⟨1,u,0,0,[]⟩∧jS ⟨1,u,0,0,[]⟩=0:=⟨⟨by simp,by simp,ah,I,by simp,by simp,by simp⟩,by simp[jS,sb]⟩
theorem wo{u:Int}(ah:-9223372036854775808≤u)(I:u≤9223372036854775807):In ⟨2,0,u,0,[]⟩∧jS ⟨2,0,u,0,[]⟩=0:=⟨⟨by simp,by simp,by simp,by simp,ah,I,by simp⟩,by simp[jS,sb]⟩
theorem JF{x:dI}(h:nN x):nj (mH x):=by
 have ah:=Y6 (u:=IntKind.u64.wrap x.Kind) (by rw[ls]; omega) (by rw[ls]; omega);have I:=wo h.t.1 h.t.2;have O:=wo h.i.1 h.i.2;have aH:=wo h.a.1 h.a.2;have bg:=wo h.n.1 h.n.2;have dh:=Y6 (u:=flag x.h8) (by unfold flag; split<;>omega) (by unfold flag; split<;>omega);have all:∀ v∈mH x,In v∧jS v=0:=by
  intro v aJ;unfold mH at aJ;simp only[List.mem_cons,List.mem_nil_iff,or_false] at aJ;rcases aJ with rfl | rfl | rfl | rfl | rfl | rfl
  ·exact ah
  ·exact I
  ·exact O
  ·exact aH
  ·exact bg
  ·exact dh
 exact⟨fun v aJ=>(all v aJ).1,fun v aJ=>(all v aJ).2⟩
theorem ak1(x:dI):(mH x).map nQ=mH x:=by simp[mH,nQ,zH]
theorem aIh{x:dI}(h:nN x):jG (iY x)=(mH x,0,0):=by
 unfold iY;rw[afh (JF h) (by simp[mH]),ak1]
theorem amv{x:dI}(h:nN x):(iY x).length≤6066:=by
 have:=OB (JF h).p9 (JF h).ok;simpa[iY,mH] using this
def qe(k:Int):Prop:=1≤k∧k≤6
instance (k:Int):Decidable (qe k):=by unfold qe; infer_instance
def As(a l c d e f:e_):Option dI:=
 if a.Kind=1∧f.Kind=1∧a.cX≤6∧f.cX≤1∧l.Kind=2∧c.Kind=2∧d.Kind=2∧e.Kind=2∧1≤a.cX then some ⟨a.cX,l.aV,c.aV,d.aV,e.aV,f.cX==1⟩ else none
def HF:List e_→Option dI
 |[a,l,c,d,e,f]=>As a l c d e f
 |_=>none
def uT(av:List UInt8):Option dI:=if (jG av).2.2=0 then HF (jG av).1 else none
theorem ama{x:dI}(h:nN x)(aq:qe x.Kind):uT (iY x)=some x:=by
 unfold uT;rw[aIh h];have e:IntKind.u64.wrap x.Kind=x.Kind:=by have:=aq.1; have:=aq.2; rw[ls]; omega
 have l8:=aq.1;have jj:=aq.2;have am:(flag x.h8==1)=x.h8:=by unfold flag; cases x.h8<;>rfl
 have yc:flag x.h8≤1:=by unfold flag; split<;>omega
 simp only[mH,HF,As,e,if_true];rw[if_pos ⟨trivial,trivial,jj,yc,trivial,trivial,trivial,trivial,l8⟩,am]
theorem afr{v:e_}(h:jS v=0)(aq:v.Kind=1):v=⟨1,v.cX,0,0,[]⟩:=by
 rcases HK h with ⟨_,I,O,aH⟩ | ⟨I,_⟩ | ⟨I,_⟩ | ⟨I,_⟩
 ·cases v; simp_all
 ·omega
 ·omega
 ·omega
theorem LU{v:e_}(h:jS v=0)(aq:v.Kind=2):v=⟨2,0,v.aV,0,[]⟩:=by
 rcases HK h with ⟨I,_⟩ | ⟨_,I,O,aH⟩ | ⟨I,_⟩ | ⟨I,_⟩
 ·omega
 ·cases v; simp_all
 ·omega
 ·omega
theorem Yc{av:List UInt8}{x:dI}(h:uT av=some x):nN x∧qe x.Kind∧av=iY x:=by
 unfold uT at h;split at h
 ·rename_i he;obtain⟨aT,U,ao,_⟩:=afi he rfl;generalize (jG av).1=y at *
  match y,h with
  |[a,l,c,d,e,f],h=>
   simp only[HF,As] at h;split at h
   ·rename_i aq;obtain⟨df,dT,gI,jB,nY,jP,sX,yt,rl⟩:=aq;cases h;have Oy:=afr (aT.ok a (by simp)) df;have Gr:=LU (aT.ok l (by simp)) nY;have Gs:=LU (aT.ok c (by simp)) jP;have Bn:=LU (aT.ok d (by simp)) sX;have DF:=LU (aT.ok e (by simp)) yt;have Ju:=afr (aT.ok f (by simp)) dT;have Hi:=aT.p9 l (by simp);have aaw:=aT.p9 c (by simp);have aax:=aT.p9 d (by simp);have aay:=aT.p9 e (by simp);have aBi:=aT.p9 f (by simp);have am:flag (f.cX==1)=f.cX:=by
     unfold flag;have:=aBi.Ik;by_cases bm:f.cX=1
     ·rw[if_pos (by simp[bm]),bm]
     ·rw[if_neg (by simpa using bm)]; omega
    have hw:IntKind.u64.wrap a.cX=a.cX:=by rw[ls]; omega
    refine⟨⟨by simp only; omega,⟨Hi.i0,Hi.i1⟩,⟨aaw.i0,aaw.i1⟩,⟨aax.i0,aax.i1⟩,⟨aay.i0,aay.i1⟩⟩,⟨rl,gI⟩,?_⟩;rw[ao];unfold iY mH;simp only[hw,am];rw[← Oy,← Gr,← Gs,← Bn,← DF,← Ju]
   ·cases h
 ·cases h
section
variable {A w:World} {m bL:List bu}
theorem pP:∀ x,(gg.cells x).length=5:=fun _=>rfl
theorem aCf{x:dI}(F:nN x)(H:E A m w):M Pg 114 [sz.enc x] X w fun r J=>E A (row (B .u8) 5 1 r (aS (iY x))::m) J:=by
 refine agb ?_;unfold TI;refine bH H fun dX w H=>?_;refine aj (x:=x.h8) 0 H rfl rfl rfl ?_;have g2:∀ (p:Int) (w:World),p=flag x.h8→E A (aI dX (sz.cells x) 142::m) w→Fa ⟨dX,0,none⟩ p w fun r J=>E A (row (B .u8) 5 1 r (aS (iY x))::m) J:=by
  intro p w aF H;subst aF;unfold Fa;refine aj (x:=x.Kind) 0 H rfl rfl rfl ?_;refine vm H fun Gd w H=>?_;have H:=um (ar:=5) (y:=1) rfl H;refine aj (x:=x.bW) 1 H rfl rfl rfl ?_;refine aj (x:=x.aD) 1 H rfl rfl rfl ?_;refine aj (x:=x.b5) 1 H rfl rfl rfl ?_;refine aj (x:=x.b) 1 H rfl rfl rfl ?_;refine vm H fun Jc w H=>?_;have H:=um (ar:=1) (y:=4) rfl H;refine hU (fun s w=>∃ k:Nat,s.2=(k:Int)∧k≤4∧E A (row gg 197 5 s.1 ((mH x).take (k+1))::row (B .i64) 2 1 ⟨some ⟨Jc,0,none⟩,4,4⟩ [x.bW,x.aD,x.b5,x.b]::m) w) (fun s=>(4-s.2).toNat) ⟨0,rfl,by omega,((H.front 2).drop).front 1⟩ ?_;clear H;rintro⟨s,t⟩ w ⟨k,aq,BI,H⟩ aa b2;simp only at aq H;subst aq;unfold Mi;simp only;split
  ·rename_i U;have U:k<4:=by
    have:(k:Int)<4:=by simpa using U
    omega
   have aQ:IntKind.i64.wrap ((k:Int)+1)=((k+1:Nat):Int):=by rw[wrap_i64 (by omega) (by omega)]; omega
   obtain⟨iV,Y⟩:=kI (i:=(k:Int)) (H.front 1) (by omega) (by simp; omega);refine aO iV Y ?_;have step:∀ (n:Int),[x.bW,x.aD,x.b5,x.b][k]?=some n→(mH x).take (k+1+1)=(mH x).take (k+1)++[⟨2,0,n,0,[]⟩]:=by
    intro n aK;have dh:k+1<(mH x).length:=by simp[mH]; omega
    rw[List.take_succ_eq_append_getElem dh];congr 2
    match k,U with
    |0,_=>simp at aK; subst aK; rfl
    |1,_=>simp at aK; subst aK; rfl
    |2,_=>simp at aK; subst aK; rfl
    |3,_=>simp at aK; subst aK; rfl
   have F:[x.bW,x.aD,x.b5,x.b][((k:Int)).toNat]?=some ([x.bW,x.aD,x.b5,x.b][k]'(by simp; omega)):=List.getElem?_eq_getElem (by simp; omega);have aG:=step _ F;generalize [x.bW,x.aD,x.b5,x.b][k]'(by simp; omega)=n at F aG;refine aO n (mh (fun _=>rfl) Y F (H.front 1)) ?_;refine nq pP 0 H rfl (by simp; omega) fun r w H=>?_;rw[aQ];refine b2 _ _ ⟨k+1,rfl,by omega,?_⟩ (by simp only; omega);simp only;rw[aG];exact H
  ·rename_i U;have U:k=4:=by simp at U; omega
   subst U;refine nq pP 0 H rfl (by simp; omega) fun r w H=>?_;have e:(mH x).take (4+1)++[⟨1,flag x.h8,0,0,[]⟩]=mH x:=rfl;rw[e] at H;have aT:=JF F;refine ap (K9 aT.p9 (by simp[mH]) (dc.row (fun _=>rfl) 0 rfl) H) ?_;rintro r w ⟨_,O,_,_⟩;have aF:yS (mH x)=0:=by
    unfold yS;rw[if_neg (by simp[mH])];exact Oc aT.ok
   have H:=O aF;exact ((H.front 2).drop.front 1).drop
 cases aF:x.h8 with
 |true=>rw[if_pos rfl]; exact g2 1 w (by rw[aF]; rfl) H
 |false=>rw[if_neg (by simp)]; exact g2 0 w (by rw[aF]; rfl) H
def xx:dI:=⟨0,0,0,0,0,false⟩
def Yd(G:Option dI):dI×Bool:=match G with
 |some x=>(x,true)
 |none=>(xx,false)
theorem abg{k:Int}(H:E A m w):M Pg 113 [.int .i64 k] bf w fun r J=>r=decide (qe k)∧E A m J:=by
 refine aga ?_;unfold TH;refine⟨?_,H⟩;rw[Bool.eq_iff_iff,decide_eq_true_eq];unfold qe;simp
theorem amb{s:af}{av:List UInt8}(l7:s.len≤s.cap)(aK:av.length≤9223372036854775806)(k:dc 1 m (B .u8) s (aS av))(H:E A m w) :
  M Pg 141 [X.enc s] (bo sz bf) w fun r J=>r=Yd (uT av)∧E A m J:=by
 refine agE ?_;unfold Mt;refine bH H fun dX w H=>?_;refine ap (afj l7 aK k.tail H) ?_;rintro⟨q,p,e⟩ w ⟨_,he,H⟩;simp only at he H;subst he;have al:=gn H;have aJY:=EN H;have H:=vz H;have aq3:(jG av).2.2=0→nj (jG av).1:=fun h=>(afi h rfl).1;have rc:uT av=if (jG av).2.2=0 then HF (jG av).1 else none:=rfl
 generalize (jG av).2.2=e at *;generalize (jG av).1=y at *;have no:∀ (G:Option dI) (w:World),G=none→E A (ro gg q y::aI dX (sz.cells xx) 142::m) w→ba sz ⟨dX,0,none⟩ xx w fun c1=>ex (L sz ⟨dX,0,none⟩ c1) fun fs=>(fs,false)=Yd G∧E A m c1:=by
  intro G w ai H;subst ai;refine cV (x:=xx) (S:=xx) Ef 1 H rfl fun w H=>?_;refine ec (x:=xx) 0 H rfl ?_;exact⟨rfl,H.drop.drop⟩
 simp only;by_cases c:e=0∧y.length=6
 ·obtain⟨bm,bB⟩:=c;have aT:=aq3 bm;rw[if_pos bm] at rc
  match y,bB with
  |[a,l,c,d,f,g],_=>
   simp only[List.length_cons,List.length_nil] at al;have o_:bX (ro gg q [a,l,c,d,f,g]::aI dX (sz.cells xx) 142::m) (cT gg q [a,l,c,d,f,g]):=bX.here (y:=cT.mono);obtain⟨np,ah⟩:=o_.iq (ar:=5) (i:=0) H (by omega) (by simp);obtain⟨bS,dh⟩:=o_.iq (ar:=5) (i:=5) H (by omega) (by simp);refine aO np (fun _=>ah) ?_;refine aO a.Kind (fun _=>o_.mY (cX:=B .i64) pP ah rfl rfl H) ?_;refine aO bS (fun _=>dh) ?_;refine aO g.Kind (fun _=>o_.mY (cX:=B .i64) pP dh rfl rfl H) ?_;refine aO np (fun _=>ah) ?_;refine aO a.cX (fun _=>o_.mY (cX:=B .u64) pP ah rfl rfl H) ?_;refine aO bS (fun _=>dh) ?_;refine aO g.cX (fun _=>o_.mY (cX:=B .u64) pP dh rfl rfl H) ?_;have rc:uT av=As a l c d f g:=rc;by_cases b4:a.Kind=1∧g.Kind=1∧a.cX≤6∧g.cX≤1
   ·rw[if_neg (by simp[bm,al,b4])];refine oa (by omega) (by omega) (by omega) (by omega) fun uo Zr=>?_;have fw:=o_.sub pP Zr (by simp);have es:(([a,l,c,d,f,g]:List e_).take (5:Int).toNat).drop (1:Int).toNat=[l,c,d,f]:=rfl;rw[es] at fw;have PS:uo.len=4:=(Ic Zr).1;have ao0:∀ (k:Nat) (v:e_),[l,c,d,f][k]?=some v→v.Kind≠2→uT av=none:=by
     intro k v aJ dO;rw[rc];unfold As;rw[if_neg];rintro⟨_,_,_,_,gC,f_,Aj,RB,_⟩
     match k,aJ with
     |0,aJ=>simp at aJ; subst aJ; exact dO gC
     |1,aJ=>simp at aJ; subst aJ; exact dO f_
     |2,aJ=>simp at aJ; subst aJ; exact dO Aj
     |3,aJ=>simp at aJ; subst aJ; exact dO RB
     |k+4,aJ=>simp at aJ
    refine hU (fun t w=>∃ k:Nat,t=(k:Int)∧k≤4∧(∀ (D:Nat) (v:e_),D<k→[l,c,d,f][D]?=some v→v.Kind=2)∧E A (ro gg q [a,l,c,d,f,g]::aI dX (sz.cells xx) 142::m) w) (fun t=>(4-t).toNat) ⟨0,rfl,by omega,fun D v bI=>by omega,H⟩ ?_;clear H;rintro t w ⟨k,rfl,BI,tN,H⟩ aa b2;unfold Mu;rw[PS];split
    ·rename_i U;have U:k<4:=by
      have:(k:Int)<4:=by simpa using U
      omega
     have aQ:IntKind.i64.wrap ((k:Int)+1)=((k+1:Nat):Int):=by rw[wrap_i64 (by omega) (by omega)]; omega
     obtain⟨pw,Zs⟩:=fw.iq (ar:=5) (i:=(k:Int)) H (by omega) (by simp; omega);have F:[l,c,d,f][((k:Int)).toNat]?=some ([l,c,d,f][k]'(by simp; omega)):=List.getElem?_eq_getElem (by simp; omega);generalize [l,c,d,f][k]'(by simp; omega)=v at F;refine aO pw Zs ?_;refine aO v (fw.rd pP Zs F H) ?_;refine bH H fun aJC w H=>?_;refine cV (x:=ty) (S:=v) abx 0 H rfl fun w H=>?_;refine aj (x:=v.Kind) 0 H rfl rfl rfl ?_;by_cases fa:v.Kind=2
     ·rw[if_neg (by simp[fa]),aQ];refine b2 _ _ ⟨k+1,rfl,by omega,fun D u bI hu=>?_,H.drop⟩ (by omega);by_cases jf:D=k
      ·subst jf;rw[Int.toNat_natCast] at F;rw[F] at hu;cases hu;exact fa
      ·exact tN D u (by omega) hu
     ·rw[if_pos (by simpa using fa)];rw[Int.toNat_natCast] at F;rw[ao0 k v F fa];exact no none w rfl H.drop
    ·rename_i U;have U:k=4:=by simp at U; omega
     subst U;refine aO np ah ?_;refine aO a.cX (o_.mY (cX:=B .u64) pP ah rfl rfl H) ?_;have aAE:=aT.p9 a (by simp);have aan:=aAE.Ik;have wk:IntKind.i64.wrap a.cX=a.cX:=wrap_i64 (by omega) (by omega);rw[wk];refine ap (abg H) ?_;rintro r w ⟨rfl,H⟩;by_cases fa:qe a.cX
     ·rw[decide_eq_true fa,if_neg (by simp:¬ (!true)=true)];refine dg H fun w H=>?_;obtain⟨lD,I⟩:=o_.iq (ar:=5) (i:=1) H (by omega) (by simp);obtain⟨aX,O⟩:=o_.iq (ar:=5) (i:=2) H (by omega) (by simp);obtain⟨aA,aH⟩:=o_.iq (ar:=5) (i:=3) H (by omega) (by simp);obtain⟨a3,bg⟩:=o_.iq (ar:=5) (i:=4) H (by omega) (by simp);refine aO np ah ?_;refine aO lD I ?_;refine aO aX O ?_;refine aO aA aH ?_;refine aO a3 bg ?_;refine aO bS dh ?_;refine aO a.cX (o_.mY (cX:=B .u64) pP ah rfl rfl H) ?_;refine aO l.aV (o_.mY (cX:=B .i64) pP I rfl rfl H) ?_;refine aO c.aV (o_.mY (cX:=B .i64) pP O rfl rfl H) ?_;refine aO d.aV (o_.mY (cX:=B .i64) pP aH rfl rfl H) ?_;refine aO f.aV (o_.mY (cX:=B .i64) pP bg rfl rfl H) ?_;refine aO g.cX (o_.mY (cX:=B .u64) pP dh rfl rfl H) ?_;rw[wk];refine cV (x:=xx) (S:=(⟨a.cX,l.aV,c.aV,d.aV,f.aV,g.cX==1⟩:dI)) Ef 1 H rfl fun w H=>?_
      refine ec (x:=(⟨a.cX,l.aV,c.aV,d.aV,f.aV,g.cX==1⟩:dI)) 0 H rfl ?_;refine⟨?_,H.drop.drop⟩;rw[rc];unfold As;rw[if_pos ⟨b4.1,b4.2.1,b4.2.2.1,b4.2.2.2,tN 0 l (by omega) rfl,tN 1 c (by omega) rfl,tN 2 d (by omega) rfl,tN 3 f (by omega) rfl,fa.1⟩];rfl
     ·rw[decide_eq_false fa,if_pos (by simp:(!false)=true)];refine no _ w ?_ H;rw[rc];unfold As;rw[if_neg];rintro⟨_,_,_,_,_,_,_,_,q⟩;exact fa ⟨q,b4.2.2.1⟩
   ·rw[if_pos (by
     simp only[Bool.or_eq_true,bne_iff_ne,decide_eq_true_eq];apply Classical.byContradiction;intro cn;refine b4 ⟨?_,?_,?_,?_⟩
     ·exact Classical.byContradiction fun h=>cn (by simp[h])
     ·exact Classical.byContradiction fun h=>cn (by simp[h])
     ·exact Classical.byContradiction fun h=>cn (.inl (.inr (by omega)))
     ·exact Classical.byContradiction fun h=>cn (.inr (by omega)))]
    refine no _ w ?_ H;rw[rc];unfold As;rw[if_neg];rintro⟨gC,f_,Aj,RB,_⟩;exact b4 ⟨gC,f_,Aj,RB⟩
 ·have R:((e != (0:Int))||((q.len:Int)!=(6:Int)))=true:=by
   rw[Bool.or_eq_true,bne_iff_ne,bne_iff_ne];by_cases h:e=0
   ·right;intro O;exact c ⟨h,by omega⟩
   ·exact .inl h
  have z:(⟨0,0,none⟩:Addr)=⟨0,0,none⟩:=rfl;refine aO ⟨0,0,none⟩ (fun h=>absurd h (by simp[R])) ?_;refine aO 0 (fun h=>absurd h (by simp[R])) ?_;refine aO ⟨0,0,none⟩ (fun h=>absurd h (by simp[R])) ?_;refine aO 0 (fun h=>absurd h (by simp[R])) ?_;refine aO ⟨0,0,none⟩ (fun h=>absurd h (by simp[R])) ?_;refine aO 0 (fun h=>absurd h (by simp[R])) ?_;refine aO ⟨0,0,none⟩ (fun h=>absurd h (by simp[R])) ?_;refine aO 0 (fun h=>absurd h (by simp[R])) ?_;rw[if_pos (by simp[R])];refine no _ w ?_ H;rw[rc];by_cases h:e=0
  ·rw[if_pos h];unfold HF;split
   ·exact absurd ⟨h,rfl⟩ c
   ·rfl
  ·rw[if_neg h]
end
end Shard
namespace Shard
open bb Wire Disk Store Vault Num
def oo(v:c4)(k t id:Int):c4×Int:=if k=3 then xH v t id else if k=4 then xK v id else if k=5 then q2 v t else EI v t
def mS(v:c4)(x:dI):c4×Int:=
 if x.Kind=1 then yP v x.bW x.b5 x.b else if x.Kind=2 then zV v x.bW ⟨x.aD,x.b5,x.b,x.h8⟩ else oo v x.Kind x.bW x.aD
theorem anW{v:c4}(aT:Fit v)(k t id:Int):Fit (oo v k t id).1:=by
 unfold oo;split
 ·exact aT.alT ..
 ·split
  ·exact aT.drop ..
  ·split
   ·exact aT.close ..
   ·exact aT.Rz ..
theorem Y8{v:c4}(aT:Fit v){x:dI}(h:x.aD≤9223372036854775807):Fit (mS v x).1:=by
 unfold mS;split
 ·exact aT.open ..
 ·split
  ·exact aT.hold h
  ·exact anW aT ..
structure qR where
 V:nm
 v:c4
abbrev ajG:=A2
def kt(s e6 dn:Nat):bu:=aI s (ajG.cells ⟨some ⟨e6,0,none⟩,some ⟨dn,0,none⟩⟩) 150
def Ia(s d:Nat)(W:qR):bu:=hT fun p:Nat×Nat=>dt [kt s p.1 p.2,h4 p.1 d W.V,eQ p.2 W.v]
section
variable {A w:World} {m bL:List bu}
theorem aeE{s d:Nat}{W:qR}(H:E A (Ia s d W::m) w):∃ e6 dn:Nat,E A (kt s e6 dn::h4 e6 d W.V::eQ dn W.v::m) w:=by
 obtain⟨p,H⟩:=H.ex;exact⟨p.1,p.2,H.open_⟩
theorem aeF{s d e6 dn:Nat}{W:qR}(H:E A (kt s e6 dn::h4 e6 d W.V::eQ dn W.v::m) w):E A (Ia s d W::m) w:=
 E.mF (e6,dn) (E.shut (bL:=[kt s e6 dn,h4 e6 d W.V,eQ dn W.v]) H)
theorem Bh{s e6 dn:Nat}{v:c4}{k:Int}(aT:Fit v)(H:E A (kt s e6 dn::eQ dn v::m) w):M Pg 171 [.pointer (some ⟨s,0,none⟩),.int .i64 k] gb w fun r J=>
  ∃ aN aS C:bu,E A (aN::aS::C::kt s e6 dn::eQ dn v::m) J∧∀ (cm:World) (t id:Int),E A (aN::aS::C::kt s e6 dn::eQ dn v::m) cm →
   sE Pg r [.int .i64 t,.int .i64 id] (B .i64) cm fun e bh=>e=(oo v k t id).2∧E A (kt s e6 dn::eQ dn (oo v k t id).1::m) bh:=by
 refine ag3 ?_;unfold UA;refine dg H fun w H=>?_;refine b3 rfl ?_;refine aj (x:=some ⟨dn,0,none⟩) 0 H rfl rfl rfl ?_;refine aj (x:=some ⟨dn,0,none⟩) 0 H rfl rfl rfl ?_;refine aj (x:=some ⟨dn,0,none⟩) 0 H rfl rfl rfl ?_;generalize aok:cc.mk (.func 217) (List.toArray [.pointer (some (⟨dn,0,none⟩:Addr))]) (List.toArray [])=zm;generalize aom:cc.mk (.func 218) (List.toArray [.pointer (some (⟨dn,0,none⟩:Addr))]) (List.toArray [])=FS;generalize aol:cc.mk (.func 219) (List.toArray [.pointer (some (⟨dn,0,none⟩:Addr))]) (List.toArray [])=zn;have fin:∀ (qX av qY:Nat) (w:World),E A (aI qX (gb.cells zm) 107::aI av (gb.cells FS) 143::aI qY (gb.cells zn) 143::kt s e6 dn::eQ dn v::m) w →
   xj (some ⟨s,0,none⟩) k ⟨qX,0,none⟩ ⟨av,0,none⟩ ⟨qY,0,none⟩ w fun r J=>∃ aN aS C:bu,E A (aN::aS::C::kt s e6 dn::eQ dn v::m) J∧∀ (cm:World) (t id:Int),E A (aN::aS::C::kt s e6 dn::eQ dn v::m) cm →
   sE Pg r [.int .i64 t,.int .i64 id] (B .i64) cm fun e bh=>e=(oo v k t id).2∧E A (kt s e6 dn::eQ dn (oo v k t id).1::m) bh:=by
  intro qX av qY w H;unfold xj;by_cases b4:k=3
  ·rw[if_pos (by simpa using b4)];refine b3 rfl ?_;refine aj (x:=some ⟨dn,0,none⟩) 3 H rfl rfl rfl ?_;refine⟨_,_,_,H,fun cm t id H=>?_⟩;refine⟨220,[.pointer (some ⟨dn,0,none⟩)],[],rfl,amY,?_⟩;have e:oo v k t id=xH v t id:=by unfold oo; rw[if_pos b4]
   rw[e];refine ap (alV aT (H.front 4)) ?_;rintro r w ⟨rfl,H⟩;exact⟨rfl,(H.ord [1,2,3]).drop.drop.drop.front 1⟩
  ·rw[if_neg (by simpa using b4)];by_cases fa:k=4
   ·rw[if_pos (by simpa using fa)];refine⟨_,_,_,H,fun cm t id H=>?_⟩;refine⟨221,[],[.pointer (some ⟨qX,0,none⟩)],rfl,amZ,?_⟩;have e:oo v k t id=xK v id:=by unfold oo; rw[if_neg b4,if_pos fa]
    rw[e];refine ahG ?_;unfold Vb;refine ec (x:=zm) 0 H rfl ?_;refine⟨217,[.pointer (some ⟨dn,0,none⟩)],[],aok.symm,amV,?_⟩;refine ap (amm (H.front 4)) ?_;rintro r w ⟨rfl,H⟩;exact⟨rfl,(H.ord [1,2,3]).drop.drop.drop.front 1⟩
   ·rw[if_neg (by simpa using fa)];by_cases jf:k=5
    ·rw[if_pos (by simpa using jf)];refine⟨_,_,_,H,fun cm t id H=>?_⟩;refine⟨222,[],[.pointer (some ⟨av,0,none⟩)],rfl,am0,?_⟩;have e:oo v k t id=q2 v t:=by unfold oo; rw[if_neg b4,if_neg fa,if_pos jf]
     rw[e];refine ahH ?_;unfold Vc;refine ec (x:=FS) 1 H rfl ?_;refine⟨218,[.pointer (some ⟨dn,0,none⟩)],[],aom.symm,amW,?_⟩;refine ap (aIp (H.front 4)) ?_;rintro r w ⟨rfl,H⟩;exact⟨rfl,(H.ord [1,2,3]).drop.drop.drop.front 1⟩
    ·rw[if_neg (by simpa using jf)];refine⟨_,_,_,H,fun cm t id H=>?_⟩;refine⟨223,[],[.pointer (some ⟨qY,0,none⟩)],rfl,am1,?_⟩;have e:oo v k t id=EI v t:=by unfold oo; rw[if_neg b4,if_neg fa,if_neg jf]
     rw[e];refine ahI ?_;unfold Vd;refine ec (x:=zn) 2 H rfl ?_;refine⟨219,[.pointer (some ⟨dn,0,none⟩)],[],aol.symm,amX,?_⟩;refine ap (aIw aT (H.front 4)) ?_;rintro r w ⟨rfl,H⟩;exact⟨rfl,(H.ord [1,2,3]).drop.drop.drop.front 1⟩
 have pc:∀ x,(gb.cells x).length=1:=fun _=>rfl;refine⟨?_,?_,?_⟩
 ·refine bH H fun qX w H=>?_;refine⟨?_,?_⟩
  ·refine bH H fun av w H=>?_;refine bH H fun qY w H=>?_;have H:=H.ord [2,1,0];refine cV (x:=cc.nil) (S:=zm) pc 0 H rfl fun w H=>?_;refine⟨bE aE (H.front 3) rfl rfl,bE aE (H.front 3) rfl rfl,?_⟩;refine cV (x:=cc.nil) (S:=FS) pc 1 H rfl fun w H=>?_;refine⟨bE aE (H.front 3) rfl rfl,?_⟩;refine cV (x:=cc.nil) (S:=zn) pc 2 H rfl fun w H=>?_;exact fin qX av qY w (H.ord [2,1,0])
  ·refine bH H fun qY w H=>?_;refine bH H fun av w H=>?_;have H:=H.ord [2,0,1];refine cV (x:=cc.nil) (S:=zm) pc 0 H rfl fun w H=>?_;refine⟨bE aE (H.front 3) rfl rfl,bE aE (H.front 3) rfl rfl,?_⟩;refine cV (x:=cc.nil) (S:=FS) pc 1 H rfl fun w H=>?_;refine⟨bE aE (H.front 3) rfl rfl,?_⟩;refine cV (x:=cc.nil) (S:=zn) pc 2 H rfl fun w H=>?_;exact fin qX av qY w (H.ord [2,1,0])
 ·refine bH H fun av w H=>?_;refine⟨?_,?_⟩
  ·refine bH H fun qX w H=>?_;refine bH H fun qY w H=>?_;have H:=H.ord [1,2,0];refine cV (x:=cc.nil) (S:=zm) pc 0 H rfl fun w H=>?_;refine⟨bE aE (H.front 3) rfl rfl,bE aE (H.front 3) rfl rfl,?_⟩;refine cV (x:=cc.nil) (S:=FS) pc 1 H rfl fun w H=>?_;refine⟨bE aE (H.front 3) rfl rfl,?_⟩;refine cV (x:=cc.nil) (S:=zn) pc 2 H rfl fun w H=>?_;exact fin qX av qY w (H.ord [2,1,0])
  ·refine bH H fun qY w H=>?_;refine bH H fun qX w H=>?_;have H:=H.ord [0,2,1];refine cV (x:=cc.nil) (S:=zm) pc 0 H rfl fun w H=>?_;refine⟨bE aE (H.front 3) rfl rfl,bE aE (H.front 3) rfl rfl,?_⟩;refine cV (x:=cc.nil) (S:=FS) pc 1 H rfl fun w H=>?_;refine⟨bE aE (H.front 3) rfl rfl,?_⟩;refine cV (x:=cc.nil) (S:=zn) pc 2 H rfl fun w H=>?_;exact fin qX av qY w (H.ord [2,1,0])
 ·refine bH H fun qY w H=>?_;refine⟨?_,?_⟩
  ·refine bH H fun qX w H=>?_;refine bH H fun av w H=>?_;have H:=H.ord [1,0,2];refine cV (x:=cc.nil) (S:=zm) pc 0 H rfl fun w H=>?_;refine⟨bE aE (H.front 3) rfl rfl,bE aE (H.front 3) rfl rfl,?_⟩;refine cV (x:=cc.nil) (S:=FS) pc 1 H rfl fun w H=>?_;refine⟨bE aE (H.front 3) rfl rfl,?_⟩;refine cV (x:=cc.nil) (S:=zn) pc 2 H rfl fun w H=>?_;exact fin qX av qY w (H.ord [2,1,0])
  ·refine bH H fun av w H=>?_;refine bH H fun qX w H=>?_;have H:=H.ord [0,1,2];refine cV (x:=cc.nil) (S:=zm) pc 0 H rfl fun w H=>?_;refine⟨bE aE (H.front 3) rfl rfl,bE aE (H.front 3) rfl rfl,?_⟩;refine cV (x:=cc.nil) (S:=FS) pc 1 H rfl fun w H=>?_;refine⟨bE aE (H.front 3) rfl rfl,?_⟩;refine cV (x:=cc.nil) (S:=zn) pc 2 H rfl fun w H=>?_;exact fin qX av qY w (H.ord [2,1,0])
theorem Yp{s e6 dn:Nat}{v:c4}{x:dI}(aT:Fit v)(H:E A (kt s e6 dn::eQ dn v::m) w):M Pg 115 [.pointer (some ⟨s,0,none⟩),sz.enc x] (B .i64) w fun r J=>r=(mS v x).2∧E A (kt s e6 dn::eQ dn (mS v x).1::m) J:=by
 refine agc ?_;unfold TJ mS;refine bH H fun iy w H=>?_;refine aj (x:=x.Kind) 0 H rfl rfl rfl ?_;by_cases bm:x.Kind=1
 ·rw[if_pos (by simpa using bm),if_pos bm];refine dg H fun w H=>?_;refine b3 rfl ?_;refine aj (x:=some ⟨dn,0,none⟩) 1 H rfl rfl rfl ?_;refine aj (x:=x.bW) 0 H rfl rfl rfl ?_;refine aj (x:=x.b5) 0 H rfl rfl rfl ?_;refine aj (x:=x.b) 0 H rfl rfl rfl ?_;refine ap (aIs aT (H.front 2)) ?_;rintro r w ⟨rfl,H⟩;exact⟨rfl,(H.front 1).drop.front 1⟩
 ·rw[if_neg (by simpa using bm),if_neg bm];by_cases bB:x.Kind=2
  ·rw[if_pos (by simpa using bB),if_pos bB];refine dg H fun w H=>?_;refine b3 rfl ?_;refine aj (x:=some ⟨dn,0,none⟩) 1 H rfl rfl rfl ?_;refine aj (x:=x.bW) 0 H rfl rfl rfl ?_;refine aj (x:=x.aD) 0 H rfl rfl rfl ?_;refine aj (x:=x.b5) 0 H rfl rfl rfl ?_;refine aj (x:=x.b) 0 H rfl rfl rfl ?_;refine aj (x:=x.h8) 0 H rfl rfl rfl ?_;refine ap (aIq (p:=⟨x.aD,x.b5,x.b,x.h8⟩) aT (H.front 2)) ?_;rintro r w ⟨rfl,H⟩;have H:=H.front 1;refine⟨bE (B .i64) H rfl rfl,bE (B .i64) H rfl rfl,bE (B .i64) H rfl rfl,bE bf H rfl rfl,?_⟩;exact⟨rfl,H.drop.front 1⟩
  ·rw[if_neg (by simpa using bB),if_neg bB];refine dg H fun w H=>?_;refine aj (x:=x.Kind) 0 H rfl rfl rfl ?_;refine aj (x:=x.bW) 0 H rfl rfl rfl ?_;refine aj (x:=x.aD) 0 H rfl rfl rfl ?_;refine ap (Bh (k:=x.Kind) aT (H.ord [1,2])) ?_;rintro r w ⟨aN,aS,C,H,U⟩;refine⟨bE (B .i64) (H.front 5) rfl rfl,bE (B .i64) (H.front 5) rfl rfl,?_⟩;refine Oi (U w x.bW x.aD H) ?_;rintro e w ⟨rfl,H⟩;have H:=H.front 2;refine⟨bE (B .i64) H rfl rfl,?_⟩;exact⟨rfl,H.drop⟩
def fN(K:cJ)(W:qR)(x:dI):cJ×qR×Int:=
 if qe x.Kind then
  if (gj K W.V (iY x)).2.2=0 then ((gj K W.V (iY x)).1,⟨(gj K W.V (iY x)).2.1,(mS W.v x).1⟩,(mS W.v x).2)
  else ((gj K W.V (iY x)).1,⟨(gj K W.V (iY x)).2.1,W.v⟩,(gj K W.V (iY x)).2.2)
 else (K,W,192)
theorem DB{s d e6 dn:Nat}{K:cJ}{W:qR}{x:dI}(di:K.hz)(aT:Fit W.v)(F:nN x)(H:E A (kt s e6 dn::h4 e6 d W.V::eQ dn W.v::er d K::m) w) :
  M Pg 62 [.pointer (some ⟨s,0,none⟩),sz.enc x] (B .i64) w fun r J=>r=(fN K W x).2.2∧E A (kt s e6 dn::h4 e6 d (fN K W x).2.1.V::eQ dn (fN K W x).2.1.v::er d (fN K W x).1::m) J:=by
 refine aiQ ?_;unfold Wh fN;refine bH H fun iy w H=>?_;refine aj (x:=x.Kind) 0 H rfl rfl rfl ?_;refine ap (abg H) ?_;rintro r w ⟨rfl,H⟩;by_cases c:qe x.Kind
 ·rw[decide_eq_true c,if_neg (by simp:¬ (!true)=true),if_pos c];refine dg H fun w H=>?_;refine b3 rfl ?_;have H:=H.ord [1,2,3];refine aj (x:=some ⟨e6,0,none⟩) 0 H rfl rfl rfl ?_;refine ec (x:=x) 3 H rfl ?_;refine ap (aCf F H) ?_;intro r w H;refine⟨bE aE (H.front 1) rfl rfl,?_⟩;refine ap (N3 (x:=iY x) di (by have:=amv F; omega) (dc.row (fun _=>rfl) 0 rfl) (H.ord [2,5])) ?_;rintro e w ⟨rfl,H⟩;have H:=(H.front 2).drop;generalize gj K W.V (iY x)=q at *;refine⟨bE sz (H.front 4) rfl (tA _),?_⟩;by_cases bB:q.2.2=0
  ·rw[if_neg (by simp[bB]),if_pos bB];refine ec (x:=x) 4 H rfl ?_;refine ap (Yp aT (H.ord [2,3])) ?_;rintro e w ⟨rfl,H⟩;exact⟨rfl,((H.ord [4,0,2,1]).drop)⟩
  ·rw[if_pos (by simpa using bB),if_neg bB];exact⟨rfl,((H.ord [4,2,0,3]).drop)⟩
 ·rw[decide_eq_false c,if_pos (by simp:(!false)=true),if_neg c];exact⟨rfl,H.drop⟩
theorem Js{s d:Nat}{K:cJ}{W:qR}{x:dI}(di:K.hz)(aT:Fit W.v)(F:nN x)(H:E A (Ia s d W::er d K::m) w) :
  M Pg 62 [.pointer (some ⟨s,0,none⟩),sz.enc x] (B .i64) w fun r J=>r=(fN K W x).2.2∧E A (Ia s d (fN K W x).2.1::er d (fN K W x).1::m) J:=by
 obtain⟨e6,dn,H⟩:=aeE H;refine ap (DB di aT F H) ?_;rintro r w ⟨h,H⟩;exact⟨h,aeF (W:=(fN K W x).2.1) H⟩
theorem y7{s e6 dn:Nat}(H:E A (kt s e6 dn::m) w):M Pg 30 [.pointer (some ⟨s,0,none⟩)] aE w fun r J=>r=some ⟨dn,0,none⟩∧E A (kt s e6 dn::m) J:=by
 refine aii ?_;unfold VN;refine b3 rfl ?_;refine aj (x:=some ⟨dn,0,none⟩) 0 H rfl rfl rfl ?_;exact⟨rfl,H⟩
def qk(v:c4)(xs:List dI):c4:=xs.foldl (fun v x=>(mS v x).1) v
theorem acH(v:c4)(xs:List dI)(x:dI):qk v (xs++[x])=(mS (qk v xs) x).1:=by unfold qk; rw[List.foldl_append]; rfl
def us(f:Nat):c4:=⟨f,⟨[],0,0⟩,0,[],[],[]⟩
theorem Y9{xs:List dI}:∀ {v:c4},Fit v→(∀ x∈xs,x.aD≤9223372036854775807)→Fit (qk v xs):=by
 induction xs with
 |nil=>exact fun aT _=>aT
 |cons x xs b_=>exact fun aT h=>b_ (Y8 aT (h x (List.mem_cons_self ..))) fun S aB=>h S (List.mem_cons_of_mem _ aB)
def sG:List (List UInt8)→Option (List dI)
 |[]=>some []
 |l::av=>match uT l with
  |none=>none
  |some x=>(sG av).map (x::·)
theorem Yf:∀ {xs:List dI},(∀ x∈xs,nN x∧qe x.Kind)→sG (xs.map iY)=some xs
 |[],_=>rfl
 |x::xs,h=>by
  have I:=h x (List.mem_cons_self ..);simp only[List.map_cons,sG,ama I.1 I.2,Yf fun S aB=>h S (List.mem_cons_of_mem _ aB),Option.map_some]
theorem Om:∀ {N:List (List UInt8)} {xs:List dI},sG N=some xs→xs.length=N.length
 |[],xs,h=>by simp[sG] at h; subst h; rfl
 |l::N,xs,h=>by
  simp only[sG] at h;split at h
  ·cases h
  ·obtain⟨gF,aB,rfl⟩:=Option.map_eq_some_iff.1 h;have:=Om aB;simp[this]
theorem Ye:∀ {N:List (List UInt8)} {xs:List dI} {k:Nat} {l:List UInt8} {x:dI},sG N=some xs→N[k]?=some l→xs[k]?=some x→uT l=some x
 |[],_,_,_,_,_,ao,_=>by simp at ao
 |Xy::N,xs,k,l,x,h,ao,F=>by
  simp only[sG] at h;split at h
  ·cases h
  ·rename_i bx ah;obtain⟨gF,aB,rfl⟩:=Option.map_eq_some_iff.1 h;cases k with
   |zero=>simp at ao F; subst ao; subst F; exact ah
   |succ k=>exact Ye aB (by simpa using ao) (by simpa using F)
theorem aey(av:List UInt8):Small (scan av).1:=by
 have key:∀ (f:Nat) (av:List UInt8) (m:List (List UInt8)) (a:Nat),Small m→Small (qv f av m a).1:=by
  intro f;induction f with
  |zero=>intro av m a h; simpa[qv] using h
  |succ f b_=>
   intro av m a h;simp only[qv];cases ai:nz av with
   |error e=>simpa using h
   |ok p=>
    obtain⟨x,n⟩:=p;refine b_ _ _ _ fun S aB=>?_;rcases List.mem_append.1 aB with aB | aB
    ·exact h S aB
    ·rw[List.mem_singleton.1 aB]; exact (K5 ai).2.2.2
 exact key _ _ _ _ fun S aB=>by cases aB
theorem Rp{d f:Nat}{K:cJ}{n:Int}{g:dR}{xs:List dI}(di:K.hz)(ab:jo f)(ah:0≤n)(DY:K.down=false)(R:K.cK[n.toNat]?=some g)(F:sG (scan g.l).1=some xs)(H:E A (er d K::m) w) :
  M Pg 90 [.pointer (some ⟨d,0,none⟩),.int .i64 n,.float .f64 f] (bo aE (B .i64)) w fun r J=>((db K n g).2=0→r.2=0∧∃ s:Nat,r.1=some ⟨s,0,none⟩∧E A (Ia s d ⟨⟨(scan g.l).1.length,(scan g.l).1.length,n,false⟩,qk (us f) xs⟩::er d (db K n g).1::m) J) ∧
   ((db K n g).2≠0→r=(none,(db K n g).2)∧E A (er d (db K n g).1::m) J):=by
 have wv:f<18446744073709551616:=by rcases ab with h | h<;>omega
 refine ajk ?_;unfold WK;refine ap (Lo wv H) ?_;rintro r w ⟨I,_,H⟩;have:=I.2 ab;subst this;rw[if_neg (by simp)];refine ap (ack di ah DY R H) ?_;rintro⟨p,q,e⟩ w ⟨he,aH,bg⟩;simp only at he aH bg;subst he;by_cases c:(db K n g).2=0
 ·obtain⟨e6,ee,aF,H⟩:=aH c;subst aF;rw[if_neg (by simp[c])];refine ap (Vault.Q3 wv H) ?_;rintro⟨Af,a6⟩ w ⟨dh,_⟩;obtain⟨_,dn,aF,H⟩:=dh ab;simp only at aF;subst aF;refine bH H fun s w H=>?_;have Po:=aew g.l;have J9:=aey g.l;have D2:=di.log g (List.mem_of_getElem? R);generalize (scan g.l).1=N at *;have PP:ee.length=N.length:=by
   obtain⟨aV,_,a4⟩:=(bX.pD (bX.tail (bX.tail (bX.tail (bX.tail (bX.tail (bX.here (y:=mu.mono)))))))) H;exact a4.1
  have wz:=gn (H.front 4);have ri:=Om F;have kC:∀ (k:Nat) (l:List UInt8) (x:dI),N[k]?=some l→xs[k]?=some x→uT l=some x:=fun k l x=>Ye F;have afY:Fit (us f):=Fit.new ab;refine hU (fun t w=>∃ k:Nat,t=(k:Int)∧k≤N.length∧E A (kt s e6 dn::eQ dn (qk (us f) (xs.take k))::h4 e6 d ⟨N.length,N.length,n,false⟩::er d (db K n g).1::row X 189 1 q ee::tW ee N::m) w) (fun t=>(N.length-t).toNat) ⟨0,rfl,by omega,H⟩ ?_;clear H;rintro t w ⟨k,rfl,aq,H⟩ aa b2;unfold Nw;simp only;rw[wz,PP];split
  ·rename_i U;have U:k<N.length:=by
    have:(k:Int)<N.length:=by simpa using U
    omega
   have aQ:IntKind.i64.wrap ((k:Int)+1)=((k+1:Nat):Int):=by rw[wrap_i64 (by omega) (by omega)]; omega
   obtain⟨gr,Zq⟩:=kI (i:=(k:Int)) (H.front 4) (by omega) (by omega);have ao:N[k]?=some N[k]:=List.getElem?_eq_getElem U;have z0:xs[k]?=some (xs[k]'(by omega)):=List.getElem?_eq_getElem (by omega);have wy:ee[((k:Int)).toNat]?=some (ee[k]'(by omega)):=List.getElem?_eq_getElem (by omega);have iC:xs.take (k+1)=xs.take k++[xs[k]'(by omega)]:=List.take_succ_eq_append_getElem (by omega);have rc:=kC k _ _ ao z0;have G8:(N[k]).length≤65536:=J9 _ (List.getElem_mem _);have jj:∀ aV,mu ee N aV→(ee[k]'(by omega)).len≤(ee[k]'(by omega)).cap∧cT (B .u8) (ee[k]'(by omega)) (aS N[k]) aV:=fun aV a4=>a4.2 k _ _ (List.getElem?_eq_getElem (by omega)) ao;generalize N[k]=l at ao rc G8 jj;generalize xs[k]'(by omega)=x at z0 rc iC;generalize ee[k]'(by omega)=gC at wy jj;refine aO gr Zq ?_;refine aO gC (mh (fun _=>rfl) Zq wy (H.front 4)) ?_
   have tU:bX (kt s e6 dn::eQ dn (qk (us f) (xs.take k))::h4 e6 d ⟨N.length,N.length,n,false⟩::er d (db K n g).1::row X 189 1 q ee::tW ee N::m) (mu ee N):=bX.tail (bX.tail (bX.tail (bX.tail (bX.tail (bX.here (y:=mu.mono))))));have l7:gC.len≤gC.cap:=by
    obtain⟨aV,_,a4⟩:=tU.pD H;exact (jj aV a4).1
   refine ap (amb l7 (by omega) (dc.ro (fun _=>rfl) (tU.imp fun aV a4=>(jj aV a4).2)) H) ?_;rintro r w ⟨rfl,H⟩;rw[rc];have hF:=(Yc rc).1.i.2;refine bH H fun N_ w H=>?_;refine cV (x:=Di) (S:=x) Ef 0 H rfl fun w H=>?_;show if (!true)=true then _ else _
   rw[if_neg (by simp)];refine ec (x:=x) 0 H rfl ?_;have ajt:Fit (qk (us f) (xs.take k)):=Y9 afY fun S aB=>by
    have aB:=List.mem_of_mem_take aB;obtain⟨D,bI,rfl⟩:=List.getElem_of_mem aB;exact (Yc (kC D _ _ (List.getElem?_eq_getElem (by omega)) (List.getElem?_eq_getElem bI))).1.i.2
   refine ap (Yp ajt (H.ord [1,2])) ?_;rintro e w ⟨_,H⟩;rw[aQ];rw[← acH,← iC] at H;exact b2 _ _ ⟨k+1,rfl,by omega,(H.front 2).drop⟩ (by omega)
  ·rename_i U;have U:k=N.length:=by
    have:¬ (k:Int)<N.length:=by simpa using U
    omega
   subst U;rw[← ri,List.take_length] at H;refine⟨fun _=>⟨by trivial,s,rfl,?_⟩,fun h=>absurd c h⟩;rw[ri] at H;have H:=aeF (W:=⟨⟨N.length,N.length,n,false⟩,qk (us f) xs⟩) (H.ord [0,2,1]);exact ((H.front 2).drop.front 2).drop
 ·obtain⟨aF,H⟩:=bg c;subst aF;rw[if_pos (by simpa using c)];exact⟨fun h=>absurd h c,fun _=>⟨rfl,H⟩⟩
end
def QP(xs:List dI):List UInt8:=ck (xs.map iY)
def xh(xs:List dI):Prop:=∀ x∈xs,nN x∧qe x.Kind
theorem xh.snoc{xs:List dI}{x:dI}(h:xh xs)(F:nN x)(aq:qe x.Kind):xh (xs++[x]):=by
 intro S aB;rcases List.mem_append.1 aB with aB | aB
 ·exact h S aB
 ·rw[List.mem_singleton.1 aB]; exact⟨F,aq⟩
theorem xh.take{xs:List dI}(h:xh xs)(k:Nat):xh (xs.take k):=fun S aB=>h S (List.mem_of_mem_take aB)
theorem xh.id{xs:List dI}(h:xh xs):∀ x∈xs,x.aD≤9223372036854775807:=fun x F=>(h x F).1.i.2
structure IX(K:cJ)(n:Nat)(xs:List dI)(k:Nat):Prop where
 ok:K.hz
 up:K.down=false
 log:K.cK[n]?=some ⟨QP xs,(QP (xs.take k)).length⟩
 all:xh xs
 le:k≤xs.length
 lG:xs.length≤600
def kF(K:cJ)(n:Nat)(f:dR→dR):cJ:={ K with ea:=if 1<K.ea then IntKind.i64.wrap (K.ea-1) else K.ea,lE:=IntKind.i64.wrap (K.lE+1),cK:=K.cK.modify n f }
theorem aC5{K:cJ}{n y:Nat}{f:dR→dR}(h:y≠n):(kF K n f).cK[y]?=K.cK[y]?:=by
 show (K.cK.modify n f)[y]?=_
 rw[List.getElem?_modify];cases K.cK[y]? with
 |none=>rfl
 |some g=>
  have:¬ n=y:=fun e=>h e.symm;simp[this]
theorem aj2{K:cJ}{n:Nat}{size:Int}{f:dR→dR}(aK:n<K.cK.length)(ag:K.down=false)(aG:size≤4194304)(Y:K.ea≠1):j3 K n size f=(kF K n f,0):=by
 unfold j3;rw[if_neg (by omega),if_neg (by simp[ag]),if_neg (by omega),if_neg Y];rfl
theorem aj1{K:cJ}{n:Nat}{size:Int}{f:dR→dR}(aK:n<K.cK.length)(ag:K.down=false)(aG:size≤4194304)(Y:K.ea=1):j3 K n size f=(hC K.bz K,71):=by
 unfold j3;rw[if_neg (by omega),if_neg (by simp[ag]),if_neg (by omega),if_pos Y]
theorem IX.lt{K:cJ}{n k:Nat}{xs:List dI}(N:IX K n xs k):n<K.cK.length:=(List.getElem?_eq_some_iff.1 N.log).1
theorem IX.size{K:cJ}{n k:Nat}{xs:List dI}(N:IX K n xs k):Disk.sizeOf K n=(QP xs).length:=by
 unfold Disk.sizeOf;rw[if_pos (by omega),Int.toNat_natCast,N.log]
end Shard
namespace Cluster
open bb Wire Clock Shard
structure cN where
 k:Int
 x:om
 t:Int
structure oR(r:cN):Prop where
 k:1≤r.k∧r.k≤3
 i:-9223372036854775808≤r.x.aD∧r.x.aD≤9223372036854775807
 f:-9223372036854775808≤r.x.fC∧r.x.fC≤9223372036854775807
 G:-9223372036854775808≤r.x.fv∧r.x.fv≤9223372036854775807
 n:-9223372036854775808≤r.x.b∧r.x.b≤9223372036854775807
 t:-9223372036854775808≤r.t∧r.t≤9223372036854775807
def sW(n:Int):e_:=⟨2,0,n,0,[]⟩
def mI(r:cN):List e_:=[sW r.k,sW r.x.aD,sW r.x.fC,sW r.x.fv,sW r.x.b,sW r.t]
def fF(r:cN):List UInt8:=hS (mI r)
theorem Y7{r:cN}(h:oR r):nj (mI r):=by
 have ah:=wo (u:=r.k) (by have:=h.k; omega) (by have:=h.k; omega);have I:=wo h.i.1 h.i.2;have O:=wo h.f.1 h.f.2;have aH:=wo h.G.1 h.G.2;have bg:=wo h.n.1 h.n.2;have dh:=wo h.t.1 h.t.2;have all:∀ v∈mI r,In v∧jS v=0:=by
  intro v aJ;unfold mI sW at aJ;simp only[List.mem_cons,List.mem_nil_iff,or_false] at aJ;rcases aJ with rfl | rfl | rfl | rfl | rfl | rfl
  ·exact ah
  ·exact I
  ·exact O
  ·exact aH
  ·exact bg
  ·exact dh
 exact⟨fun v aJ=>(all v aJ).1,fun v aJ=>(all v aJ).2⟩
theorem afg{r:cN}(h:oR r):jG (fF r)=(mI r,0,0):=by
 unfold fF;rw[afh (Y7 h) (by simp[mI])];have:(mI r).map nQ=mI r:=by simp[mI,sW,nQ,zH]
 rw[this]
theorem wj{n:Int}(ah:-9223372036854775808≤n)(I:n≤9223372036854775807):(iO (sW n)).length≤11:=by
 have:=B9 (Md ah I);simp[iO,sW];omega
theorem Yv{n:Int}(ah:0≤n)(I:n<18446744073709551616):(iO (⟨1,n,0,0,[]⟩:e_)).length≤11:=by
 have:=B9 (n:=n.toNat) (by omega);simp[iO];omega
theorem DG{r:cN}(h:oR r):(fF r).length≤66:=by
 have ah:=wj (n:=r.k) (by have:=h.k; omega) (by have:=h.k; omega);have I:=wj h.i.1 h.i.2;have O:=wj h.f.1 h.f.2;have aH:=wj h.G.1 h.G.2;have bg:=wj h.n.1 h.n.2;have dh:=wj h.t.1 h.t.2;unfold fF hS mI;simp only[List.flatMap_cons,List.flatMap_nil,List.length_append,List.length_nil];omega
theorem Yw{x:dI}(h:nN x):(iY x).length≤66:=by
 have ah:=Yv (n:=IntKind.u64.wrap x.Kind) (by rw[ls]; omega) (by rw[ls]; omega);have I:=wj h.t.1 h.t.2;have O:=wj h.i.1 h.i.2;have aH:=wj h.a.1 h.a.2;have bg:=wj h.n.1 h.n.2;have dh:=Yv (n:=flag x.h8) (by unfold flag; split<;>omega) (by unfold flag; split<;>omega);unfold sW at I O aH bg;unfold iY hS mH;simp only[List.flatMap_cons,List.flatMap_nil,List.length_append,List.length_nil];omega
section
variable {A w:World} {m bL:List bu}
theorem aee{k:Int}{x:om}{t:Int}(h:oR ⟨k,x,t⟩)(H:E A m w):M Pg 99 [.int .i64 k,gh.enc x,.int .i64 t] X w fun r J=>E A (row (B .u8) 5 1 r (aS (fF ⟨k,x,t⟩))::m) J:=by
 refine ajs ?_;unfold WR;refine bH H fun iz w H=>?_;refine aj (x:=x.aD) 0 H rfl rfl rfl ?_;refine aj (x:=x.fC) 0 H rfl rfl rfl ?_;refine aj (x:=x.fv) 0 H rfl rfl rfl ?_;refine aj (x:=x.b) 0 H rfl rfl rfl ?_;refine vm H fun Xz w H=>?_;have H:=um (ar:=1) (y:=6) rfl H;have H:=kJ gg 197 5 H;refine hU (fun s w=>∃ i:Nat,s.2=(i:Int)∧i≤6∧E A (row gg 197 5 s.1 ((mI ⟨k,x,t⟩).take i)::row (B .i64) 2 1 ⟨some ⟨Xz,0,none⟩,6,6⟩ [k,x.aD,x.fC,x.fv,x.b,t]::m) w) (fun s=>(6-s.2).toNat) ⟨0,rfl,by omega,((H.front 2).drop)⟩ ?_;clear H;rintro⟨s,q⟩ w ⟨i,aw,aJ2,H⟩ aa b2;simp only at aw H;subst aw;unfold NC;simp only;split
 ·rename_i U;have U:i<6:=by
   have:(i:Int)<6:=by simpa using U
   omega
  have aQ:IntKind.i64.wrap ((i:Int)+1)=((i+1:Nat):Int):=by rw[wrap_i64 (by omega) (by omega)]; omega
  obtain⟨jw,Y⟩:=kI (i:=(i:Int)) (H.front 1) (by omega) (by simp; omega);refine aO jw Y ?_;have step:∀ (n:Int),[k,x.aD,x.fC,x.fv,x.b,t][i]?=some n→(mI ⟨k,x,t⟩).take (i+1)=(mI ⟨k,x,t⟩).take i++[sW n]:=by
   intro n aK;have dh:i<(mI ⟨k,x,t⟩).length:=by simp[mI]; omega
   rw[List.take_succ_eq_append_getElem dh];congr 2
   match i,U with
   |0,_=>simp at aK; subst aK; rfl
   |1,_=>simp at aK; subst aK; rfl
   |2,_=>simp at aK; subst aK; rfl
   |3,_=>simp at aK; subst aK; rfl
   |4,_=>simp at aK; subst aK; rfl
   |5,_=>simp at aK; subst aK; rfl
  have F:[k,x.aD,x.fC,x.fv,x.b,t][((i:Int)).toNat]?=some ([k,x.aD,x.fC,x.fv,x.b,t][i]'(by simp; omega)):=List.getElem?_eq_getElem (by simp; omega);have aG:=step _ F;generalize [k,x.aD,x.fC,x.fv,x.b,t][i]'(by simp; omega)=n at F aG;refine aO n (mh (fun _=>rfl) Y F (H.front 1)) ?_;refine nq pP 0 H rfl (by simp; omega) fun r w H=>?_;rw[aQ];refine b2 _ _ ⟨i+1,rfl,by omega,?_⟩ (by simp only; omega);simp only;rw[aG];exact H
 ·rename_i U;have U:i=6:=by
   have:¬ (i:Int)<6:=by simpa using U
   omega
  subst U;have e:(mI ⟨k,x,t⟩).take 6=mI ⟨k,x,t⟩:=rfl;rw[e] at H;have aT:=Y7 h;refine ap (K9 aT.p9 (by simp[mI]) (dc.row (fun _=>rfl) 0 rfl) H) ?_;rintro r w ⟨_,O,_,_⟩;have aF:yS (mI ⟨k,x,t⟩)=0:=by
   unfold yS;rw[if_neg (by simp[mI])];exact Oc aT.ok
  have H:=O aF;exact ((H.front 2).drop.front 1).drop
end
end Cluster
namespace Cluster
open bb Wire Disk Vault Clock Shard
abbrev hI:=ij
abbrev p5:=ts
abbrev mz:=v4
abbrev j1:=A0
abbrev Da:=uD
abbrev Dh:=oU
structure bi where
 ax:hh
 cv:Int
 K:cJ
 src:Int
 W:qR
 A:nm
 P:List (Int×bF)
 sure:Int→Bool
 out:List p5
structure ky where
 ax:Nat
 d:Nat
 src:Nat
 iJ:Nat
 e6:Nat
 dn:Nat
 cs:Nat
 jE:Nat
 pi:Nat
 out:af
 Q:List (Int×Nat×bF)
 qx:List (Int×Dh)
def n1(b:bi)(q:ky):Da:=⟨some ⟨q.ax,0,none⟩,b.cv,some ⟨q.d,0,none⟩,some ⟨q.src,0,none⟩,some ⟨q.iJ,0,none⟩,some ⟨q.cs,0,none⟩,some q.jE,some q.pi,q.out⟩
def iR(t:Int×Nat×bF):Int×Option Addr:=(t.1,some ⟨t.2.1,0,none⟩)
def qm(t:Int×Nat×bF):Int×bF:=(t.1,t.2.2)
def lR(t:Int×Nat×bF):bu:=gB t.2.1 t.2.2
def Fits(b:bi)(q:ky):Prop:=q.Q.map qm=b.P∧∀ x,(q.qx.lookup x).isSome=b.sure x
def j8(aZ:Nat)(b:bi):bu:=hT fun q:ky=>dt [ll (Fits b q),aI aZ (j1.cells (n1 b q)) 101,j4 q.ax b.ax,er q.d b.K,oH q.src b.src,kt q.iJ q.e6 q.dn,h4 q.e6 q.d b.W.V,eQ q.dn b.W.v,h4 q.cs q.d b.A,cZ aE .i64 q.jE (q.Q.map iR),dt (q.Q.map lR),cZ fm .i64 q.pi q.qx,row mz 161 8 q.out b.out]
section
variable {A w:World} {m bL:List bu}
theorem lP{aZ:Nat}{b:bi}(H:E A (j8 aZ b::m) w):∃ q:ky,Fits b q∧E A (aI aZ (j1.cells (n1 b q)) 101::j4 q.ax b.ax::er q.d b.K::oH q.src b.src::kt q.iJ q.e6 q.dn::h4 q.e6 q.d b.W.V::eQ q.dn b.W.v::h4 q.cs q.d b.A::cZ aE .i64 q.jE (q.Q.map iR)::dt (q.Q.map lR)::cZ fm .i64 q.pi q.qx::row mz 161 8 q.out b.out::m) w:=by
 obtain⟨q,H⟩:=H.ex;obtain⟨h,H⟩:=E.vu H.open_;exact⟨q,h,H⟩
theorem g7{aZ:Nat}{b:bi}{q:ky}(h:Fits b q)(H:E A (aI aZ (j1.cells (n1 b q)) 101::j4 q.ax b.ax::er q.d b.K::oH q.src b.src::kt q.iJ q.e6 q.dn::h4 q.e6 q.d b.W.V::eQ q.dn b.W.v::h4 q.cs q.d b.A::cZ aE .i64 q.jE (q.Q.map iR)::dt (q.Q.map lR)::cZ fm .i64 q.pi q.qx::row mz 161 8 q.out b.out::m) w):E A (j8 aZ b::m) w:=
 E.mF q (E.shut (bL:=[ll _,_,_,_,_,_,_,_,_,_,_,_,_]) (E.vK h H))
end
structure bv where
 ek:kV
 now:Int
 N:List bi
 aY:Post.dB
 known:Int→Bool
 told:List eW
structure kf where
 nodes:af
 aY:Nat
 kD:Nat
 told:af
 Q:List (Nat×bi)
 rn:List (Int×Dh)
abbrev gG:=A1
def iA(o:bv)(p:kf):rI:=⟨o.ek,o.now,p.nodes,some ⟨p.aY,0,none⟩,some p.kD,p.told⟩
def hj(t:Nat×bi):bu:=j8 t.1 t.2
def kE(t:Nat×bi):Option Addr:=some ⟨t.1,0,none⟩
def oQ(o:bv)(p:kf):Prop:=p.Q.map Prod.snd=o.N∧∀ x,(p.rn.lookup x).isSome=o.known x
def b8(au:Nat)(o:bv):bu:=hT fun p:kf=>dt [ll (oQ o p),aI au (gG.cells (iA o p)) 114,row aE 89 1 p.nodes (p.Q.map kE),dt (p.Q.map hj),Post.hJ p.aY o.aY,cZ fm .i64 p.kD p.rn,row kh 53 3 p.told o.told]
section
variable {A w:World} {m bL:List bu}
theorem alI{au:Nat}{o:bv}(H:E A (b8 au o::m) w):∃ p:kf,oQ o p∧E A (aI au (gG.cells (iA o p)) 114::row aE 89 1 p.nodes (p.Q.map kE)::dt (p.Q.map hj)::Post.hJ p.aY o.aY::cZ fm .i64 p.kD p.rn::row kh 53 3 p.told o.told::m) w:=by
 obtain⟨p,H⟩:=H.ex;obtain⟨h,H⟩:=E.vu H.open_;exact⟨p,h,H⟩
theorem fE{au:Nat}{o:bv}{p:kf}(h:oQ o p)(H:E A (aI au (gG.cells (iA o p)) 114::row aE 89 1 p.nodes (p.Q.map kE)::dt (p.Q.map hj)::Post.hJ p.aY o.aY::cZ fm .i64 p.kD p.rn::row kh 53 3 p.told o.told::m) w):E A (b8 au o::m) w:=
 E.mF p (E.shut (bL:=[ll _,_,_,_,_,_,_]) (E.vK h H))
theorem SM{id:Int}(h:-4000000000000000000≤id∧id≤4000000000000000000)(H:E A m w):M Pg 78 [.int .i64 id] (B .i64) w fun r J=>r=Int.tdiv (id+1) 2∧E A m J:=by
 refine ai7 ?_;unfold Wy;rw[wrap_i64 (x:=id+1) (by omega) (by omega)];refine⟨wrap_i64 ?_ ?_,H⟩
 ·rcases Int.le_total 0 (id+1) with c | c
  ·rw[Int.tdiv_eq_ediv_of_nonneg c]; omega
  ·have:Int.tdiv (id+1) 2=-(Int.tdiv (-(id+1)) 2):=by rw[Int.neg_tdiv]; omega
   rw[this,Int.tdiv_eq_ediv_of_nonneg (by omega)]; omega
 ·rcases Int.le_total 0 (id+1) with c | c
  ·rw[Int.tdiv_eq_ediv_of_nonneg c]; omega
  ·have:Int.tdiv (id+1) 2=-(Int.tdiv (-(id+1)) 2):=by rw[Int.neg_tdiv]; omega
   rw[this,Int.tdiv_eq_ediv_of_nonneg (by omega)]; omega
def rC(id:Int)(eI:Bool)(t:Int):hI:=⟨2,⟨id,0,0,false⟩,eI,t⟩
theorem afz{id t:Int}{eI:Bool}(H:E A m w):M Pg 79 [.int .i64 id,.bool eI,.int .i64 t] eE w fun r J=>r=rC id eI t∧E A m J:=by
 refine ai8 ?_;unfold Wz;refine bH H fun iz w H=>?_;refine cV (x:=uG) (S:=rC id eI t) Kw 0 H rfl fun w H=>?_;refine ec (x:=rC id eI t) 0 H rfl ?_;exact⟨rfl,H.drop⟩
theorem aeu{aZ:Nat}{x:Da}{out:List p5}{h1:Int}{y:hI}(ai:out.length≤1000000000000)(H:E A (aI aZ (j1.cells x) 101::row mz 161 8 x.out out::m) w) :
  M Pg 77 [.pointer (some ⟨aZ,0,none⟩),.int .i64 h1,eE.enc y] dU w fun _ J=>∃ q:af,E A (aI aZ (j1.cells { x with out:=q }) 101::row mz 161 8 q (out++[⟨h1,y⟩])::m) J:=by
 refine ai6 ?_;unfold Wx;refine bH H fun iz w H=>?_;refine dg H fun w H=>?_;refine b3 rfl ?_;refine aj (x:=x.out) 1 H rfl rfl rfl ?_;refine ec (x:=y) 0 H rfl ?_;refine nq (fun _=>rfl) 2 H rfl (by simp; omega) fun r w H=>?_;refine⟨bE eE (H.front 1) rfl (tA _),?_⟩;refine dx (x:=r) 2 H rfl rfl (Nat.le_of_ble_eq_true rfl) fun w H=>?_;exact⟨r,(H.front 2).drop⟩
end
def gw(ax:hh)(rd src:Int)(h_:List Int):hh×Int×Int×Int:=
 if (e3 ax rd).2.2≠0 then ((e3 ax rd).1,src,0,(e3 ax rd).2.2) else ((e3 ax rd).1,Ab src (e3 ax rd).2.1 h_)
section
variable {A w:World} {m bL:List bu}
theorem Sy{aZ c s:Nat}{x:Da}{ax:hh}{src:Int}{q:af}{h_:List Int}(k:iT ax)(F:x.clock=some ⟨c,0,none⟩)(aG:x.source=some ⟨s,0,none⟩)(ab:-9000000000000000000≤x.cv∧x.cv≤9000000000000000000)
  (hm:h_.length≤9000000000000000000) (tS:dc 1 m (B .i64) q h_) (H:E A (aI aZ (j1.cells x) 101::j4 c ax::oH s src::m) w) :
  M Pg 96 [.pointer (some ⟨aZ,0,none⟩),X.enc q] (bo (B .i64) (B .i64)) w fun r J=>r=(gw ax x.cv src h_).2.2 ∧
   E A (aI aZ (j1.cells x) 101::j4 c (gw ax x.cv src h_).1::oH s (gw ax x.cv src h_).2.1::m) J:=by
 refine ajp ?_;unfold WO;refine dg H fun w H=>?_;refine b3 rfl ?_;refine aj (x:=x.clock) 0 H rfl rfl rfl ?_;refine aj (x:=x.cv) 0 H rfl rfl rfl ?_;rw[F];have fin:∀ (l:Nat) (w:World),E A (aI l (pu.cells (e3 ax x.cv).2.1) 137::j4 c (e3 ax x.cv).1::aI aZ (j1.cells x) 101::oH s src::m) w →
   FU (some ⟨aZ,0,none⟩) q ⟨l,0,none⟩ (e3 ax x.cv).2.2 w fun r J=>r=(gw ax x.cv src h_).2.2∧E A (aI aZ (j1.cells x) 101::j4 c (gw ax x.cv src h_).1::oH s (gw ax x.cv src h_).2.1::m) J:=by
  intro l w H;unfold FU gw;by_cases e:(e3 ax x.cv).2.2=0
  ·rw[if_neg (by simp[e]),if_neg (fun h=>h e)];refine dg H fun w H=>?_;refine b3 rfl ?_;refine aj (x:=x.source) 2 H rfl rfl rfl ?_;refine ec (x:=(e3 ax x.cv).2.1) 0 H rfl ?_;rw[aG];refine ap (HB hm (tS.l4 [_,_,_]) (H.front 3)) ?_;rintro r w ⟨rfl,H⟩;exact⟨rfl,((H.front 1).drop.ord [2,1,0])⟩
  ·rw[if_pos (by simpa using e),if_pos e];exact⟨rfl,H.drop.ord [1,0,2]⟩
 refine⟨?_,?_⟩
 ·refine ap (HD k ab (H.front 1)) ?_;rintro r w ⟨rfl,H⟩;refine bH H fun l w H=>?_;refine cV (x:=jv) (S:=(e3 ax x.cv).2.1) pb 0 H rfl fun w H=>?_;exact fin l w H
 ·refine bH H fun l w H=>?_;refine ap (HD k ab (H.front 2)) ?_;rintro r w ⟨rfl,H⟩;refine cV (x:=jv) (S:=(e3 ax x.cv).2.1) pb 1 H rfl fun w H=>?_;exact fin l w (H.ord [0,1])
theorem DC{d:Nat}{K:cJ}(H:E A (er d K::m) w):M Pg 66 [.pointer (some ⟨d,0,none⟩)] bf w fun r J=>r=K.down∧E A (er d K::m) J:=by
 refine aiU ?_;unfold Wl;refine b3 rfl ?_;obtain⟨q,P,bw,fg,H⟩:=xL H;refine aj (x:=K.down) 0 H rfl rfl rfl ?_;exact⟨rfl,q5 fg H⟩
theorem Bh{au:Nat}{o:bv}{p:kf}{i:Int}(aF:p.Q.length≤1000)(H:E A (aI au (gG.cells (iA o p)) 114::row aE 89 1 p.nodes (p.Q.map kE)::dt (p.Q.map hj)::m) w) :
  M Pg 29 [.pointer (some ⟨au,0,none⟩),.int .i64 i] (bo aE (B .i64)) w fun r J=>
   (match (if i < 0 then none else p.Q[i.toNat]?) with
    |none=>r=(none,202)
    |some t=>if t.2.K.down then r=(none,203) else r=(some ⟨t.1,0,none⟩,0)) ∧
   E A (aI au (gG.cells (iA o p)) 114::row aE 89 1 p.nodes (p.Q.map kE)::dt (p.Q.map hj)::m) J:=by
 refine VL ?_;unfold M5;have aK:=gn (H.front 1);rw[List.length_map] at aK;refine aO ⟨au,0,none⟩ (fun _=>rfl) ?_;refine aO p.nodes (fun _=>bE X H rfl rfl) ?_;by_cases c:i<0∨(p.Q.length:Int)≤i
 ·rw[if_pos (by simp only[Bool.or_eq_true,decide_eq_true_eq]; omega)];have e:(if i<0 then none else p.Q[i.toNat]?)=none:=by
   by_cases ah:i<0
   ·rw[if_pos ah]
   ·rw[if_neg ah,List.getElem?_eq_none (by omega)]
  rw[e];exact⟨rfl,H⟩
 ·rw[if_neg (by simp only[Bool.or_eq_true,decide_eq_true_eq]; omega)];have F:p.Q[i.toNat]?=some (p.Q[i.toNat]'(by omega)):=List.getElem?_eq_getElem (by omega);generalize p.Q[i.toNat]'(by omega)=t at F;have e:(if i<0 then none else p.Q[i.toNat]?)=some t:=by rw[if_neg (by omega),F]
  rw[e];have Hg:(p.Q.map kE)[i.toNat]?=some (kE t):=by rw[List.getElem?_map,F]; rfl
  refine b3 rfl ?_;refine aj (x:=p.nodes) 0 H rfl rfl rfl ?_;obtain⟨a,Y⟩:=kI (i:=i) (H.front 1) (by omega) (by rw[List.length_map]; omega);refine aO a Y ?_;refine aO (kE t) (mh (fun _=>rfl) Y Hg (H.front 1)) ?_;refine b3 rfl ?_;obtain⟨e4,fe,dZ,aJ4⟩:=CB F;have g4:E A (hj t::dt ((e4++fe).map hj)::aI au (gG.cells (iA o p)) 114::row aE 89 1 p.nodes (p.Q.map kE)::m) w:=by
   have H:=H.front 2;rw[show dt (p.Q.map hj)=dt ((e4++t::fe).map hj) from by rw[← dZ]] at H;exact Bi H
  obtain⟨q,am,g4⟩:=lP g4;refine aj (x:=some ⟨q.d,0,none⟩) 0 g4 rfl rfl rfl ?_;refine ap (DC (g4.front 2)) ?_;rintro r w ⟨rfl,g4⟩;have g4:=g7 am (g4.ord [1,2,0]);have g4:E A (hj t::dt ((e4++fe).map hj)::aI au (gG.cells (iA o p)) 114::row aE 89 1 p.nodes (p.Q.map kE)::m) w:=g4;have H:=we (f:=hj) g4;rw[← dZ] at H;have H:=H.ord [1,2,0];by_cases q1:t.2.K.down=true
  ·rw[if_pos q1];simp only[q1,if_true];exact⟨by trivial,H⟩
  ·rw[if_neg q1];simp only[q1];refine aj (x:=p.nodes) 0 H rfl rfl rfl ?_;refine aO a Y ?_;refine aO (kE t) (mh (fun _=>rfl) Y Hg (H.front 1)) ?_;exact⟨rfl,H⟩
end
end Cluster
namespace Shard
open bb Wire Disk Store Vault Num
theorem LC{Z:Type}{T:bn Z}{ar:Nat}{m:List bu}:dc ar m T fx []:=fun A bL w H=>⟨rfl,⟨rfl,rfl⟩,fun i ah I=>absurd I (by simp only[List.length_nil]; omega)⟩
theorem Oq{A w:World}:∀ (n:Nat) {m:List bu},E A m w→E A (m.drop n) w
 |0,_,H=>H
 |_+1,[],H=>H
 |n+1,_::_,H=>Oq n H.drop
theorem Ps{v:c4}(aT:Fit v):(gl v).length≤5000:=by
 unfold gl;rw[List.length_map,(show (oG (v.held.map (·.1))).Perm (v.held.map (·.1)) from List.mergeSort_perm _ _).length_eq,List.length_map];exact ZS aT
end Shard
namespace Cluster
open bb Wire Disk Vault Clock Shard
@[reducible] def eT(aZ:Nat)(b:bi)(q:ky)(m:List bu):List bu:=aI aZ (j1.cells (n1 b q)) 101::j4 q.ax b.ax::er q.d b.K::oH q.src b.src::kt q.iJ q.e6 q.dn::h4 q.e6 q.d b.W.V::eQ q.dn b.W.v::h4 q.cs q.d b.A::cZ aE .i64 q.jE (q.Q.map iR)::dt (q.Q.map lR)::cZ fm .i64 q.pi q.qx::row mz 161 8 q.out b.out::m
def nG(b:bi)(h1:Int)(y:hI):bi:={ b with out:=b.out++[⟨h1,y⟩] }
structure IY(b:bi):Prop where
 ax:iT b.ax
 rd:-9000000000000000000≤b.cv∧b.cv≤9000000000000000000
 K:b.K.hz
 v:Fit b.W.v
 src:-9223372036854775808≤b.src∧b.src≤1125899906842624
theorem At{ax:hh}{rd src:Int}{N:List Int}(h:src≤1125899906842624):(gw ax rd src N).2.1≤1125899906842624∧((gw ax rd src N).2.2.2=0→1≤(gw ax rd src N).2.2.1∧(gw ax rd src N).2.2.1≤1125899906842624):=by
 unfold gw;by_cases c:(e3 ax rd).2.2≠0
 ·rw[if_pos c];exact⟨h,fun e=>absurd e c⟩
 ·rw[if_neg c];unfold Ab;by_cases bm:¬ nr (e3 ax rd).2.1
  ·rw[if_pos bm];exact⟨h,fun e=>by cases e⟩
  ·rw[if_neg bm];have bm:=Classical.not_not.1 bm;have I:=bm.2.1.1;have O:=foldl_max N (max src (e3 ax rd).2.1.jr);split
   ·exact⟨h,fun e=>by cases e⟩
   ·refine⟨?_,fun _=>⟨?_,?_⟩⟩<;>simp only<;>omega
def u9(b:bi)(from_:Int)(p:Part)(t:Int)(z:cJ×qR×Int):bi:=
 if z.2.2=0 then nG { b with K:=z.1,W:=z.2.1 } from_ (rC p.aD true t)
 else if 150≤z.2.2∧z.2.2≤165 then nG { b with K:=z.1,W:=z.2.1 } from_ (rC p.aD false 0)
 else { b with K:=z.1,W:=z.2.1 }
def yi(b:bi)(from_:Int)(p:Part)(s:hh×Int×Int×Int):bi:=
 if s.2.2.2≠0 then { b with ax:=s.1,src:=s.2.1 } else u9 { b with ax:=s.1,src:=s.2.1 } from_ p s.2.2.1 (fN b.K b.W ⟨2,s.2.2.1,p.aD,p.b5,p.b,p.h8⟩)
def rh(b:bi)(from_:Int)(p:Part):bi:=
 if (fb b.W.v p.aD).h5=1 then nG b from_ (rC p.aD true (fb b.W.v p.aD).gL)
 else if (fb b.W.v p.aD).h5=3 then nG b from_ (rC p.aD false 0)
 else if (fb b.W.v p.aD).h5=0 then yi b from_ p (gw b.ax b.cv b.src []) else b
section
variable {A w:World} {m bL:List bu}
theorem KQ{aZ:Nat}{b:bi}{q:ky}{h1:Int}{y:hI}(am:Fits b q)(ai:b.out.length≤1000000000000)(H:E A (eT aZ b q m) w):M Pg 77 [.pointer (some ⟨aZ,0,none⟩),.int .i64 h1,eE.enc y] dU w fun _ J=>E A (j8 aZ (nG b h1 y)::m) J:=by
 refine ap (aeu (x:=n1 b q) ai (H.ord [0,11])) ?_;rintro r w ⟨G,H⟩;exact g7 (b:=nG b h1 y) (q:={ q with out:=G }) am (H.ord [0,2,3,4,5,6,7,8,9,10,11,1])
theorem aqz{aZ:Nat}{b:bi}{from_:Int}{p:Part}(a0:IY b)(ai:b.out.length≤1000000000000)(aw:nN ⟨2,0,p.aD,p.b5,p.b,p.h8⟩)(H:E A (j8 aZ b::m) w) :
  M Pg 83 [.pointer (some ⟨aZ,0,none⟩),.int .i64 from_,gX.enc p] dU w fun _ J=>E A (j8 aZ (rh b from_ p)::m) J:=by
 refine ajd ?_;unfold WD;refine bH H fun iz w H=>?_;refine dg H fun w H=>?_;obtain⟨q,am,H⟩:=lP (H.front 1);refine b3 rfl ?_;refine aj (x:=some ⟨q.iJ,0,none⟩) 0 H rfl rfl rfl ?_;refine aj (x:=p.aD) 12 H rfl rfl rfl ?_;refine ap (y7 (H.front 4)) ?_;rintro r w ⟨rfl,H⟩;refine⟨bE (B .i64) (H.front 12) rfl rfl,?_⟩;refine ap (uV (H.front 6)) ?_;rintro r w ⟨rfl,H⟩;refine⟨bE aE (H.front 2) rfl rfl,?_⟩;have H:E A (aI iz (gX.cells p) 60::eT aZ b q m) w:=H.ord [12,2,3,4,5,1,6,0];have bV:∀ (eI:Bool) (t:Int) (cC:bi) (gu:ky) (w:World),Fits cC gu→cC.out.length≤1000000000000→E A (aI iz (gX.cells p) 60::eT aZ cC gu m) w →
   ex (L (B .i64) (Addr.add ⟨iz,0,none⟩ 0) w) fun dm=>M Pg 79 [.int .i64 dm,.bool eI,.int .i64 t] eE w fun gv cS=>
    M Pg 77 [.pointer (some ⟨aZ,0,none⟩),.int .i64 from_,eE.enc gv] dU cS fun mE ed=>E A (j8 aZ (nG cC from_ (rC p.aD eI t))::m) ed:=by
  intro eI t cC gu w am ai H;refine aj (x:=p.aD) 0 H rfl rfl rfl ?_;refine ap (afz H) ?_;rintro r w ⟨rfl,H⟩;exact KQ am ai H.drop
 simp only;by_cases bm:(fb b.W.v p.aD).h5=1
 ·have uU:rh b from_ p=nG b from_ (rC p.aD true (fb b.W.v p.aD).gL):=by unfold rh; rw[if_pos bm]
  rw[if_pos (by simpa using bm),uU];exact bV true _ b q w am ai H
 ·rw[if_neg (by simpa using bm)];by_cases b4:(fb b.W.v p.aD).h5=3
  ·have uU:rh b from_ p=nG b from_ (rC p.aD false 0):=by unfold rh; rw[if_neg bm,if_pos b4]
   rw[if_pos (by simpa using b4),uU];exact bV false 0 b q w am ai H
  ·rw[if_neg (by simpa using b4)];by_cases bY:(fb b.W.v p.aD).h5=0
   ·rw[if_pos (by simpa using bY)];have uU:rh b from_ p=yi b from_ p (gw b.ax b.cv b.src []):=by unfold rh; rw[if_neg bm,if_neg b4,if_pos bY]
    rw[uU];have li:=Sy (aZ:=aZ) (c:=q.ax) (s:=q.src) (x:=n1 b q) (ax:=b.ax) (src:=b.src) (q:=fx) (h_:=[]) a0.ax rfl rfl a0.rd (by simp) LC (H.ord [1,2,4]);refine ap li ?_;clear li;rintro r w ⟨rfl,H⟩;have lK:=At (ax:=b.ax) (rd:=b.cv) (N:=[]) a0.src.2;show if _ then _ else _
    have es:(gw b.ax (n1 b q).cv b.src [])=gw b.ax b.cv b.src []:=rfl;rw[es] at H ⊢;generalize gw b.ax b.cv b.src []=ba at *;obtain⟨ha,jF,t,e⟩:=ba;simp only at H lK ⊢;by_cases ce:e=0
    ·subst ce;rw[if_neg (by simp)];have aR:=lK.2 rfl;refine dg H fun w H=>?_;refine aj (x:=some ⟨q.iJ,0,none⟩) 0 H rfl rfl rfl ?_;refine aj (x:=p.aD) 3 H rfl rfl rfl ?_;refine aj (x:=p.b5) 3 H rfl rfl rfl ?_;refine aj (x:=p.b) 3 H rfl rfl rfl ?_;refine aj (x:=p.h8) 3 H rfl rfl rfl ?_;have F:nN ⟨2,t,p.aD,p.b5,p.b,p.h8⟩:=⟨aw.k,by simp only; omega,aw.i,aw.a,aw.n⟩
     refine ap (DB (W:=b.W) a0.K a0.v F (H.ord [5,6,7,4])) ?_;rintro r w ⟨rfl,H⟩;refine⟨bE (B .i64) (H.front 7) rfl rfl,bE (B .i64) (H.front 7) rfl rfl,bE (B .i64) (H.front 7) rfl rfl,bE bf (H.front 7) rfl rfl,?_⟩;have Ys:yi b from_ p (ha,jF,t,0)=u9 { b with ax:=ha,src:=jF } from_ p t (fN b.K b.W ⟨2,t,p.aD,p.b5,p.b,p.h8⟩):=by unfold yi; rw[if_neg (by simp)]
     rw[Ys];clear Ys;generalize fN b.K b.W ⟨2,t,p.aD,p.b5,p.b,p.h8⟩=z at *;obtain⟨d_,iU,e⟩:=z;simp only at H ⊢;have H:=H.ord [7,4,5,3,6,0,1,2];by_cases cz:e=0
     ·have c_:u9 { b with ax:=ha,src:=jF } from_ p t (d_,iU,e)=nG { b with ax:=ha,src:=jF,K:=d_,W:=iU } from_ (rC p.aD true t):=by unfold u9; rw[if_pos cz]
      rw[if_pos (by simpa using cz),c_];exact bV true t { b with ax:=ha,src:=jF,K:=d_,W:=iU } q w am ai H
     ·rw[if_neg (by simpa using cz)];by_cases cr:150≤e∧e≤165
      ·have c_:u9 { b with ax:=ha,src:=jF } from_ p t (d_,iU,e)=nG { b with ax:=ha,src:=jF,K:=d_,W:=iU } from_ (rC p.aD false 0):=by unfold u9; rw[if_neg cz,if_pos cr]
       rw[if_pos (by simpa using cr),c_];exact bV false 0 { b with ax:=ha,src:=jF,K:=d_,W:=iU } q w am ai H
      ·have c_:u9 { b with ax:=ha,src:=jF } from_ p t (d_,iU,e)={ b with ax:=ha,src:=jF,K:=d_,W:=iU }:=by unfold u9; rw[if_neg cz,if_neg cr]
       rw[if_neg (by simpa using cr),c_];exact g7 (b:={ b with ax:=ha,src:=jF,K:=d_,W:=iU }) (q:=q) am H.drop
    ·have c_:yi b from_ p (ha,jF,t,e)={ b with ax:=ha,src:=jF }:=by unfold yi; rw[if_pos ce]
     rw[if_pos (by simpa using ce),c_];exact g7 (b:={ b with ax:=ha,src:=jF }) (q:=q) am (H.ord [3,0,1,4,2]).drop
   ·have uU:rh b from_ p=b:=by unfold rh; rw[if_neg bm,if_neg b4,if_neg bY]
    rw[if_neg (by simpa using bY),uU];exact g7 (q:=q) am H.drop
end
def Bf(id:Int):hI:=⟨4,⟨id,0,0,false⟩,false,0⟩
def q3(y:hI):dI:=if y.jK then ⟨3,y.bW,y.Part.aD,0,0,false⟩ else ⟨4,0,y.Part.aD,0,0,false⟩
def Bm(b:bi)(y:hI):Bool:=if y.jK then ((fb b.W.v y.Part.aD).h5==2)&&((fb b.W.v y.Part.aD).gL==y.bW) else (fb b.W.v y.Part.aD).h5==3
def ib(b:bi)(from_:Int)(y:hI)(z:cJ×qR×Int):bi:=
 if z.2.2≠0 then { b with K:=z.1,W:=z.2.1 } else nG { b with K:=z.1,W:=z.2.1,src:=if y.jK then (oy b.src y.bW).1 else b.src } from_ (Bf y.Part.aD)
def tH(b:bi)(from_:Int)(y:hI):bi:=if Bm b y then nG b from_ (Bf y.Part.aD) else ib b from_ y (fN b.K b.W (q3 y))
section
variable {A w:World} {m bL:List bu}
theorem al8{aZ:Nat}{b:bi}{from_:Int}{y:hI}(a0:IY b)(ai:b.out.length≤1000000000000)(aw:nN (q3 y))(H:E A (j8 aZ b::m) w) :
  M Pg 85 [.pointer (some ⟨aZ,0,none⟩),.int .i64 from_,eE.enc y] dU w fun _ J=>E A (j8 aZ (tH b from_ y)::m) J:=by
 refine ajf ?_;unfold Nt;refine bH H fun iz w H=>?_;obtain⟨q,am,H⟩:=lP (H.front 1);refine aj (x:=y.Part.aD) 12 H rfl rfl rfl ?_;refine b3 rfl ?_;refine aj (x:=some ⟨q.iJ,0,none⟩) 0 H rfl rfl rfl ?_;refine ap (y7 (H.front 4)) ?_;rintro r w ⟨rfl,H⟩;refine ap (uV (H.front 6)) ?_;rintro r w ⟨rfl,H⟩;have H:E A (aI iz (eE.cells y) 62::eT aZ b q m) w:=H.ord [12,2,3,4,5,1,6,0];refine bH H fun Jc w H=>?_;refine cV (x:=Di) (S:=(⟨4,0,y.Part.aD,0,0,false⟩:dI)) Ef 0 H rfl fun w H=>?_;refine aj (x:=y.jK) 1 H rfl rfl rfl ?_;have z3:∀ (cC:bi) (gu:ky) (w:World),Fits cC gu→cC.out.length≤1000000000000→E A (eT aZ cC gu m) w →
   CZ (some ⟨aZ,0,none⟩) from_ y.Part.aD w fun _ J=>E A (j8 aZ (nG cC from_ (Bf y.Part.aD))::m) J:=by
  intro cC gu w am ai H;unfold CZ;exact KQ am ai H
 have g2:∀ (w:World),E A (aI Jc (sz.cells (q3 y)) 142::aI iz (eE.cells y) 62::eT aZ b q m) w →
   CX (some ⟨aZ,0,none⟩) from_ ⟨iz,0,none⟩ y.Part.aD ⟨aZ,0,none⟩ ⟨Jc,0,none⟩ (Bm b y) w fun _ J=>E A (j8 aZ (tH b from_ y)::m) J:=by
  intro w H;unfold CX;refine dg H fun w H=>?_;cases ag:Bm b y with
  |true=>
   rw[if_neg (by simp)];have uU:tH b from_ y=nG b from_ (Bf y.Part.aD):=by unfold tH; rw[if_pos ag]
   unfold CY;rw[if_neg (by simp),uU];refine aO y.jK (fun _=>bE bf (H.front 1) rfl rfl) ?_;rw[if_neg (by simp)];exact z3 b q w am ai H.drop.drop
  |false=>
   rw[if_pos (by simp)];have uU:tH b from_ y=ib b from_ y (fN b.K b.W (q3 y)):=by unfold tH; rw[if_neg (by simp[ag])]
   rw[uU];refine aj (x:=some ⟨q.iJ,0,none⟩) 2 H rfl rfl rfl ?_;refine ec (x:=q3 y) 0 H rfl ?_;refine ap (DB (W:=b.W) a0.K a0.v aw (H.ord [6,7,8,4])) ?_;rintro r w ⟨rfl,H⟩;generalize fN b.K b.W (q3 y)=z at *;obtain⟨d_,iU,e⟩:=z;simp only at H ⊢;have H:E A (aI iz (eE.cells y) 62::eT aZ { b with K:=d_,W:=iU } q m) w:=(H.ord [4,5,6,7,3,8,0,1,2]).drop;unfold CY;by_cases ce:e=0
   ·rw[if_neg (by simp[ce])];refine aO y.jK (fun _=>bE bf H rfl rfl) ?_;have c_:ib b from_ y (d_,iU,e)=nG { b with K:=d_,W:=iU,src:=if y.jK then (oy b.src y.bW).1 else b.src } from_ (Bf y.Part.aD):=by unfold ib; rw[if_neg (by simp[ce])]
    rw[c_];cases aB:y.jK with
    |true=>
     rw[if_pos (by simp)];refine dg H fun w H=>?_;refine aj (x:=some ⟨q.src,0,none⟩) 1 H rfl rfl rfl ?_;refine aj (x:=y.bW) 0 H rfl rfl rfl ?_;refine ap (Ko (H.front 4)) ?_;rintro r w ⟨_,H⟩;exact z3 { b with K:=d_,W:=iU,src:=(oy b.src y.bW).1 } q w am ai (H.ord [1,2,3,4,0]).drop
    |false=>
     rw[if_neg (by simp)];exact z3 { b with K:=d_,W:=iU } q w am ai H.drop
   ·rw[if_pos (by simpa using ce)];have c_:ib b from_ y (d_,iU,e)={ b with K:=d_,W:=iU }:=by unfold ib; rw[if_pos ce]
    rw[c_];exact g7 (b:={ b with K:=d_,W:=iU }) (q:=q) am H.drop
 cases aB:y.jK with
 |true=>
  rw[if_pos rfl];refine aj (x:=y.bW) 1 H rfl rfl rfl ?_;refine cV (x:=(⟨4,0,y.Part.aD,0,0,false⟩:dI)) (S:=(⟨3,y.bW,y.Part.aD,0,0,false⟩:dI)) Ef 0 H rfl fun w H=>?_;refine aO y.bW (fun _=>bE (B .i64) (H.front 1) rfl rfl) ?_;have aQ:q3 y=⟨3,y.bW,y.Part.aD,0,0,false⟩:=by unfold q3; rw[if_pos aB]
  have a6:Bm b y=(((fb b.W.v y.Part.aD).h5==2)&&((fb b.W.v y.Part.aD).gL==y.bW)):=by unfold Bm; rw[if_pos aB]
  rw[← aQ] at H;have:=g2 w H;rw[a6] at this;exact this
 |false=>
  rw[if_neg (by simp)];have aQ:q3 y=⟨4,0,y.Part.aD,0,0,false⟩:=by unfold q3; rw[if_neg (by simp[aB])]
  have a6:Bm b y=((fb b.W.v y.Part.aD).h5==3):=by unfold Bm; rw[if_neg (by simp[aB])]
  rw[← aQ] at H;have:=g2 w H;rw[a6] at this;exact this
end
abbrev C_:=rI
def Dr(n:Nat)(p:bF)(dE:Bool):p5:=
 ⟨Int.tmod (k1 p dE).b5 n,if p.bV≠0 then ⟨3,⟨(k1 p dE).aD,0,0,false⟩,p.bV==2,p.at_⟩ else ⟨1,k1 p dE,false,0⟩⟩
def jL(n:Nat)(p:bF):List p5:=(nw p).map (Dr n p)
theorem Gb(n:Nat)(p:bF):(jL n p).length≤2:=by
 unfold jL nw;rw[List.length_map,List.length_append];split<;>split<;>simp
section
variable {A w:World} {m bL:List bu}
theorem Eu{au:Nat}{c:C_}{k:Int}(aK:0<c.nodes.len)(H:E A (aI au (gG.cells c) 114::m) w) :
  M Pg 54 [.pointer (some ⟨au,0,none⟩),.int .i64 k] (B .i64) w fun r J=>r=Int.tmod k c.nodes.len∧E A (aI au (gG.cells c) 114::m) J:=by
 refine aiI ?_;unfold Wb;refine b3 rfl ?_;refine aj (x:=c.nodes) 0 H rfl rfl rfl ?_;refine aO _ ⟨by omega,rfl⟩ ?_;exact⟨rfl,H⟩
theorem N7{au aZ dF:Nat}{c:C_}{x:Da}{p:bF}{out:List p5}(aK:0<c.nodes.len)(hF:0≤p.x.aD∧p.x.aD≤1000000000000)(ai:out.length≤900000000000)
  (H:E A (aI au (gG.cells c) 114::gB dF p::aI aZ (j1.cells x) 101::row mz 161 8 x.out out::m) w) :
  M Pg 76 [.pointer (some ⟨au,0,none⟩),.pointer (some ⟨aZ,0,none⟩),.pointer (some ⟨dF,0,none⟩)] dU w fun _ J=>∃ q:af,
   E A (aI au (gG.cells c) 114::gB dF p::aI aZ (j1.cells { x with out:=q }) 101::row mz 161 8 q (out++jL c.nodes.len p)::m) J:=by
 refine ai5 ?_;unfold Ww;refine ap (Ce (H.front 1)) ?_;rintro r w ⟨rfl,H⟩;refine ap (aEJ H) ?_;intro b0 w H;have al:=gn H;have sQ:(nw p).length≤2:=by
  have:=Gb 1 p;unfold jL at this;rwa [List.length_map] at this
 refine hU (fun t w=>∃ (i:Nat) (q:af),t=(i:Int)∧i≤(nw p).length∧E A (row bf 4 1 b0 (nw p)::gB dF p::aI au (gG.cells c) 114::aI aZ (j1.cells { x with out:=q }) 101::row mz 161 8 q (out++(jL c.nodes.len p).take i)::m) w) (fun t=>(3-t).toNat) ⟨0,x.out,rfl,by omega,by rw[List.take_zero,List.append_nil]; exact H⟩ ?_;clear H;rintro t w ⟨i,q,rfl,aw,H⟩ aa b2;unfold Nq;rw[al];split
 ·rename_i U;have U:i<(nw p).length:=by
   have:(i:Int)<(nw p).length:=by simpa using U
   omega
  have aQ:IntKind.i64.wrap ((i:Int)+1)=((i+1:Nat):Int):=by rw[wrap_i64 (by omega) (by omega)]; omega
  obtain⟨a,Y⟩:=kI (i:=(i:Int)) H (by omega) (by omega);have F:(nw p)[((i:Int)).toNat]?=some ((nw p)[i]'U):=by rw[Int.toNat_natCast]; exact List.getElem?_eq_getElem U
  have iC:(jL c.nodes.len p).take (i+1)=(jL c.nodes.len p).take i++[Dr c.nodes.len p ((nw p)[i]'U)]:=by
   rw[List.take_succ_eq_append_getElem (by unfold jL; rw[List.length_map]; exact U)];congr 2;unfold jL;rw[List.getElem_map]
  generalize (nw p)[i]'U=dE at F iC;refine aO a Y ?_;refine aO dE (mh (fun _=>rfl) Y F H) ?_;refine ap (aEN hF (H.front 1)) ?_;rintro r w ⟨rfl,H⟩;refine bH H fun XA w H=>?_;refine cV (x:=zx) (S:=k1 p dE) Kv 0 H rfl fun w H=>?_;refine ec (x:=k1 p dE) 0 H rfl ?_;refine bH H fun N_ w H=>?_;refine cV (x:=uG) (S:=(⟨1,k1 p dE,false,0⟩:hI)) Kw 0 H rfl fun w H=>?_;have vf:∀ (y:hI) (w:World),Dr c.nodes.len p dE=⟨Int.tmod (k1 p dE).b5 c.nodes.len,y⟩→E A (aI N_ (eE.cells y) 62::aI XA (gX.cells (k1 p dE)) 60::gB dF p::row bf 4 1 b0 (nw p)::aI au (gG.cells c) 114::aI aZ (j1.cells { x with out:=q }) 101::row mz 161 8 q (out++(jL c.nodes.len p).take i)::m) w →
    FK (some ⟨au,0,none⟩) (some ⟨aZ,0,none⟩) (i:Int) ⟨XA,0,none⟩ ⟨N_,0,none⟩ w aa fun _ J=>∃ q:af,
     E A (aI au (gG.cells c) 114::gB dF p::aI aZ (j1.cells { x with out:=q }) 101::row mz 161 8 q (out++jL c.nodes.len p)::m) J:=by
   intro y w hm H;unfold FK;refine dg H fun w H=>?_;refine aj (x:=(k1 p dE).b5) 1 H rfl rfl rfl ?_;refine ec (x:=y) 0 H rfl ?_;refine ap (Eu aK (H.front 4)) ?_;rintro r w ⟨rfl,H⟩;refine⟨bE eE (H.front 1) rfl (tA _),?_⟩;have BM:(out++(jL c.nodes.len p).take i).length≤1000000000000:=by
    have:=Gb c.nodes.len p;rw[List.length_append,List.length_take]; omega
   refine ap (aeu (x:={ x with out:=q }) BM (H.ord [5,6])) ?_;rintro r w ⟨f_,H⟩;refine⟨bE (B .i64) (H.front 4) rfl rfl,?_⟩;rw[aQ];refine b2 _ _ ⟨i+1,f_,rfl,by omega,?_⟩ (by first | omega | (simp only; omega));rw[iC,← List.append_assoc,hm];exact (H.ord [3,4,6,5,2,0,1]).drop.drop
  by_cases bm:p.bV=0
  ·rw[if_neg (by simp[bm])];exact vf _ w (by unfold Dr; rw[if_neg (fun h=>h bm)]) H
  ·rw[if_pos (by simpa using bm)];refine aj (x:=(k1 p dE).aD) 1 H rfl rfl rfl ?_;refine cV (x:=(⟨1,k1 p dE,false,0⟩:hI)) (S:=(⟨3,⟨(k1 p dE).aD,0,0,false⟩,p.bV==2,p.at_⟩:hI)) Kw 0 H rfl fun w H=>?_;exact vf _ w (by unfold Dr; rw[if_pos bm]) H
 ·rename_i U;have U:i=(nw p).length:=by
   have:¬ (i:Int)<(nw p).length:=by simpa using U
   omega
  subst U;have e:(jL c.nodes.len p).take (nw p).length=jL c.nodes.len p:=List.take_of_length_le (by unfold jL; rw[List.length_map]; omega);rw[e] at H;exact⟨q,(H.drop).front 1⟩
end
def km(p:bF)(k t:Int):bF:=if k=2 then (oY p t).1 else (py p).1
theorem Ya(p:bF)(k t:Int):(km p k t).x=p.x:=by
 unfold km oY py
 repeat' split
 all_goals rfl
section
variable {A w:World} {m bL:List bu}
theorem al6{au aZ dF cs d:Nat}{c:C_}{x:Da}{p:bF}{out:List p5}{K:cJ}{V:nm}{k t:Int}(aK:0<c.nodes.len)(hF:0≤p.x.aD∧p.x.aD≤1000000000000)(ai:out.length≤900000000000)(F:x.log=some ⟨cs,0,none⟩)(di:K.hz)(jh:oR ⟨k,p.x,t⟩)
  (H:E A (aI au (gG.cells c) 114::gB dF p::aI aZ (j1.cells x) 101::row mz 161 8 x.out out::h4 cs d V::er d K::m) w) :
  M Pg 106 [.pointer (some ⟨au,0,none⟩),.pointer (some ⟨aZ,0,none⟩),.pointer (some ⟨dF,0,none⟩),.int .i64 k,.int .i64 t] (B .i64) w fun r J=>r=(gj K V (fF ⟨k,p.x,t⟩)).2.2∧∃ q:af,
   E A (aI au (gG.cells c) 114::gB dF (if (gj K V (fF ⟨k,p.x,t⟩)).2.2=0 then km p k t else p)::aI aZ (j1.cells { x with out:=q }) 101::row mz 161 8 q (if (gj K V (fF ⟨k,p.x,t⟩)).2.2=0 then out++jL c.nodes.len (km p k t) else out)::h4 cs d (gj K V (fF ⟨k,p.x,t⟩)).2.1::er d (gj K V (fF ⟨k,p.x,t⟩)).1::m) J:=by
 refine af5 ?_;unfold TC;refine dg H fun w H=>?_;refine b3 rfl ?_;refine aO (some ⟨cs,0,none⟩) (by rw[← F]; exact bE aE (H.front 2) rfl rfl) ?_;refine ap (aET (H.front 1)) ?_;rintro r w ⟨rfl,H⟩;refine⟨by rw[← F]; exact bE aE (H.front 2) rfl rfl,?_⟩;refine ap (aee jh H) ?_;intro r w H;refine⟨by rw[← F]; exact bE aE (H.front 3) rfl rfl,?_⟩;have g1:=DG jh;refine ap (N3 (x:=fF ⟨k,p.x,t⟩) di (by omega) (dc.row (fun _=>rfl) 0 rfl) (H.ord [5,6])) ?_;rintro e w ⟨rfl,H⟩;generalize gj K V (fF ⟨k,p.x,t⟩)=z at *;have H:E A (aI au (gG.cells c) 114::gB dF p::aI aZ (j1.cells x) 101::row mz 161 8 x.out out::h4 cs d z.2.1::er d z.1::m) w:=(H.ord [2,4,3,5,6,0,1]).drop;by_cases cz:z.2.2=0
 ·rw[if_neg (by simp[cz])];simp only[cz,if_true];have g2:∀ (w:World),E A (gB dF (km p k t)::aI au (gG.cells c) 114::aI aZ (j1.cells x) 101::row mz 161 8 x.out out::h4 cs d z.2.1::er d z.1::m) w →
    E_ (some ⟨au,0,none⟩) (some ⟨aZ,0,none⟩) (some ⟨dF,0,none⟩) w fun r J=>r=0∧∃ q:af,E A (aI au (gG.cells c) 114::gB dF (km p k t)::aI aZ (j1.cells { x with out:=q }) 101::row mz 161 8 q (out++jL c.nodes.len (km p k t))::h4 cs d z.2.1::er d z.1::m) J:=by
   intro w H;unfold E_;refine ap (N7 aK (by rw[Ya]; exact hF) ai (H.front 1)) ?_;rintro r w ⟨q,H⟩;exact⟨rfl,q,H⟩
  by_cases ax:k=2
  ·rw[if_pos (by simpa using ax)];refine ap (acy (H.front 1)) ?_;rintro r w ⟨_,H⟩;refine g2 w ?_;have e:km p k t=(oY p t).1:=by unfold km; rw[if_pos ax]
   rw[e];exact H
  ·rw[if_neg (by simpa using ax)];refine ap (acu (H.front 1)) ?_;rintro r w ⟨_,H⟩;refine g2 w ?_;have e:km p k t=(py p).1:=by unfold km; rw[if_neg ax]
   rw[e];exact H
 ·rw[if_pos (by simpa using cz)];simp only[cz,if_false];exact⟨by trivial,x.out,H⟩
end
def iK(P:List (Int×bF))(id:Int)(p:bF):List (Int×bF):=P.map fun t=>if t.1=id then (t.1,p) else t
theorem vj:∀ {Q:List (Int×Nat×bF)} {id:Int} {p:bF},(Q.map qm).lookup id=some p→∃ e4 fe dF,Q=e4++(id,dF,p)::fe∧(Q.map iR).lookup id=some (some (⟨dF,0,none⟩:Addr))
 |[],_,_,h=>by cases h
 |t::Q,id,p,h=>by
  obtain⟨k,l,v⟩:=t;simp only[List.map_cons,qm,iR,List.lookup] at h ⊢;by_cases c:(id==k)=true
  ·rw[c] at h ⊢;simp only[Option.some.injEq] at h;have c:=eq_of_beq c;subst c; subst h;exact⟨[],Q,l,rfl,rfl⟩
  ·have c:(id==k)=false:=by simpa using c
   rw[c] at h ⊢;obtain⟨e4,fe,dF,I,O⟩:=vj h;exact⟨(k,l,v)::e4,fe,dF,by rw[I]; rfl,O⟩
theorem BZ:∀ {Q:List (Int×Nat×bF)} {id:Int},(Q.map qm).lookup id=none→(Q.map iR).lookup id=none
 |[],_,_=>rfl
 |t::Q,id,h=>by
  obtain⟨k,l,v⟩:=t;simp only[List.map_cons,qm,iR,List.lookup] at h ⊢;by_cases c:(id==k)=true
  ·rw[c] at h;cases h
  ·have c:(id==k)=false:=by simpa using c
   rw[c] at h ⊢;exact BZ h
theorem SN:∀ {Q:List (Int×Nat×bF)} {id:Int} {p:bF},(∀ t∈Q,t.1≠id)→iK (Q.map qm) id p=Q.map qm
 |[],_,_,_=>rfl
 |t::Q,id,p,h=>by
  have I:=h t (List.mem_cons_self ..);have O:=SN (p:=p) fun x F=>h x (List.mem_cons_of_mem t F);unfold iK at O ⊢;rw[List.map_cons,List.map_cons,O,if_neg (by exact I)]
theorem aIk{e4 fe:List (Int×Nat×bF)}{id:Int}{dF:Nat}{p hW:bF}(h:(((e4++(id,dF,p)::fe).map iR).map (·.1)).Nodup) :
  iK ((e4++(id,dF,p)::fe).map qm) id hW=(e4++(id,dF,hW)::fe).map qm∧(e4++(id,dF,p)::fe).map iR=(e4++(id,dF,hW)::fe).map iR:=by
 have aq:(((e4++(id,dF,p)::fe).map iR).map (·.1))=e4.map (·.1)++id::fe.map (·.1):=by
  simp[List.map_map,Function.comp_def,iR]
 rw[aq,List.nodup_append] at h;obtain⟨_,O,aH⟩:=h;have O:=(List.nodup_cons.1 O).1;have br:∀ t∈e4,t.1≠id:=fun t aR e=>aH t.1 (List.mem_map.2 ⟨t,aR,rfl⟩) id (List.mem_cons_self ..) e;have eN:∀ t∈fe,t.1≠id:=fun t aR e=>O (List.mem_map.2 ⟨t,aR,e⟩);refine⟨?_,by simp[iR]⟩;have vL:=SN (p:=hW) br;have tf:=SN (p:=hW) eN;unfold iK at vL tf ⊢;rw[List.map_append,List.map_cons,List.map_append,List.map_cons,vL,tf,List.map_append,List.map_cons];rw[if_pos (by rfl)];rfl
@[reducible] def Au(aZ:Nat)(b:bi)(q:ky)(dF:Nat)(p:bF)(e4 fe:List (Int×Nat×bF))(m:List bu):List bu:=gB dF p::aI aZ (j1.cells (n1 b q)) 101::j4 q.ax b.ax::er q.d b.K::oH q.src b.src::kt q.iJ q.e6 q.dn::h4 q.e6 q.d b.W.V::eQ q.dn b.W.v::h4 q.cs q.d b.A::cZ aE .i64 q.jE (q.Q.map iR)::dt ((e4++fe).map lR)::cZ fm .i64 q.pi q.qx::row mz 161 8 q.out b.out::m
def sv(P:List (Int×bF)):Prop:=∀ id p,P.lookup id=some p→p.x.aD=id∧jq p.x=0
def gE(id:Int):Int:=Int.tdiv (id+1) 2
def nT(n:Nat)(b:bi)(id:Int)(p:bF)(k t:Int):bi×Int:=
 let z:=gj b.K b.A (fF ⟨k,p.x,t⟩)
 if z.2.2=0 then ({ b with K:=z.1,A:=z.2.1,P:=iK b.P id (km p k t),out:=b.out++jL n (km p k t) },0) else ({ b with K:=z.1,A:=z.2.1,P:=iK b.P id p },z.2.2)
def y9(n:Nat)(b:bi)(id:Int)(p:bF)(s:hh×Int×Int×Int):bi:=
 if s.2.2.2=0 then (nT n { b with ax:=s.1,src:=s.2.1 } id p 2 s.2.2.1).1 else { b with ax:=s.1,src:=s.2.1,P:=iK b.P id p }
def vN(n:Nat)(b:bi)(id:Int)(p:bF):bi:=
 if p.bV=3 then (nT n b id p 3 0).1
 else if (n3 p).2=true then y9 n b id p (gw b.ax b.cv b.src [(n3 p).1]) else { b with P:=iK b.P id p }
def y8(n:Nat)(b:bi)(from_:Int)(y:hI)(id:Int)(p:bF):bi:=
 if p.bV≠0 then nG b from_ ⟨3,⟨y.Part.aD,0,0,false⟩,p.bV==2,p.at_⟩
 else if (g3 p (Int.tmod y.Part.aD 2==1) y.jK y.bW).2≠0 then { b with P:=iK b.P id (g3 p (Int.tmod y.Part.aD 2==1) y.jK y.bW).1 }
 else vN n b id (g3 p (Int.tmod y.Part.aD 2==1) y.jK y.bW).1
def vO(n:Nat)(b:bi)(from_:Int)(y:hI):bi:=match b.P.lookup (gE y.Part.aD) with
 |none=>b
 |some p=>y8 n b from_ y (gE y.Part.aD) p
theorem LW(p:bF)(a l:Bool)(t:Int):(g3 p a l t).1.x=p.x:=by
 unfold g3 bF.hx
 repeat' split
 all_goals rfl
theorem Ay{x:om}(h:jq x=0):(1≤x.aD∧x.aD≤1000000)∧(0≤x.fC∧x.fC<4096)∧(0≤x.fv∧x.fv<4096)∧x.fC≠x.fv∧1≤x.b∧x.b≤1000000000000000:=by
 unfold jq ve at h;split at h
 ·cases h
 ·split at h
  ·cases h
  ·split at h
   ·cases h
   ·split at h
    ·cases h
    ·rename_i I O aH bg;have O:=Classical.not_not.1 O;refine⟨⟨by omega,by omega⟩,O.1,O.2,aH,by omega,by omega⟩
theorem Eb{k t:Int}{x:om}(aq:1≤k∧k≤3)(F:jq x=0)(aR:0≤t∧t≤1125899906842624):oR ⟨k,x,t⟩:=by
 obtain⟨I,O,aH,_,bg,dh⟩:=Ay F;refine⟨aq,?_,?_,?_,?_,?_⟩<;>constructor<;>simp only<;>omega
section
variable {A w:World} {m bL:List bu}
theorem Ag{aZ:Nat}{b:bi}{q:ky}{id:Int}{p:bF}(am:Fits b q)(h:b.P.lookup id=some p)(H:E A (eT aZ b q m) w) :
  ∃ dF e4 fe,(q.Q.map iR).lookup id=some (some (⟨dF,0,none⟩:Addr))∧q.Q=e4++(id,dF,p)::fe∧E A (Au aZ b q dF p e4 fe m) w:=by
 rw[← am.1] at h;obtain⟨e4,fe,dF,dZ,al⟩:=vj h;refine⟨dF,e4,fe,al,dZ,?_⟩;have H:E A (dt (q.Q.map lR)::_) w:=H.front 9;rw[show dt (q.Q.map lR)=dt ((e4++(id,dF,p)::fe).map lR) from by rw[← dZ]] at H;exact (Bi H).ord [0,2,3,4,5,6,7,8,9,10,1]
theorem Cf{aZ:Nat}{b:bi}{q:ky}{id:Int}{dF:Nat}{p hW:bF}{e4 fe:List (Int×Nat×bF)}(am:Fits b q)(dZ:q.Q=e4++(id,dF,p)::fe)(H:E A (Au aZ b q dF hW e4 fe m) w) :
  Fits { b with P:=iK b.P id hW } { q with Q:=e4++(id,dF,hW)::fe }∧E A (eT aZ { b with P:=iK b.P id hW } { q with Q:=e4++(id,dF,hW)::fe } m) w:=by
 have ag:=Hw (H.front 9);rw[dZ] at ag;obtain⟨I,O⟩:=aIk (hW:=hW) ag;refine⟨⟨?_,am.2⟩,?_⟩
 ·show (e4++(id,dF,hW)::fe).map qm=iK b.P id hW
  rw[← am.1,dZ,I]
 ·have H:E A (lR (id,dF,hW)::dt ((e4++fe).map lR)::_) w:=H.ord [0,10];have H:=we (f:=lR) H;have H:=H.ord [1,2,3,4,5,6,7,8,9,0];rw[dZ,O] at H;exact H
theorem EF{aZ:Nat}{b:bi}{q:ky}{id:Int}{dF:Nat}{p:bF}{e4 fe:List (Int×Nat×bF)}(dZ:q.Q=e4++(id,dF,p)::fe)(H:E A (Au aZ b q dF p e4 fe m) w):E A (eT aZ b q m) w:=by
 have H:E A (lR (id,dF,p)::dt ((e4++fe).map lR)::_) w:=H.ord [0,10];have H:=(we (f:=lR) H).ord [1,2,3,4,5,6,7,8,9,0];rw[← dZ] at H;exact H
theorem Oj{au aZ dF:Nat}{c:C_}{b:bi}{q:ky}{id:Int}{p uc:bF}{k t:Int}{e4 fe:List (Int×Nat×bF)}(am:Fits b q)(dZ:q.Q=e4++(id,dF,uc)::fe)(aK:0<c.nodes.len)(F:jq p.x=0)(aq:k=2∨k=3)(aR:0≤t∧t≤1125899906842624)(ai:b.out.length≤900000000000)(ak:b.K.hz)
  (H:E A (aI au (gG.cells c) 114::Au aZ b q dF p e4 fe m) w) :
  M Pg 106 [.pointer (some ⟨au,0,none⟩),.pointer (some ⟨aZ,0,none⟩),.pointer (some ⟨dF,0,none⟩),.int .i64 k,.int .i64 t] (B .i64) w fun r J=>r=(nT c.nodes.len b id p k t).2∧E A (aI au (gG.cells c) 114::j8 aZ (nT c.nodes.len b id p k t).1::m) J:=by
 have I:=Ay F;refine ap (al6 (x:=n1 b q) (p:=p) (V:=b.A) aK (by omega) ai rfl ak (Eb (by omega) F aR) (H.ord [0,1,2,13,9,4])) ?_;rintro r w ⟨rfl,G,H⟩;unfold nT;generalize gj b.K b.A (fF ⟨k,p.x,t⟩)=z at *;obtain⟨d_,lB,e⟩:=z;simp only at H ⊢;have H:=H.ord [0,1,2,6,5,7,8,9,10,4,11,12,13,3];by_cases ce:e=0
 ·simp only[ce,if_true] at H ⊢;refine⟨by trivial,?_⟩;obtain⟨br,H⟩:=Cf (b:={ b with K:=d_,A:=lB,out:=b.out++jL c.nodes.len (km p k t) }) (q:={ q with out:=G }) am dZ (H.ord [1,2,3,4,5,6,7,8,9,10,11,12,13]);exact (g7 br H).front 1
 ·simp only[ce,if_false] at H ⊢;refine⟨by trivial,?_⟩;obtain⟨br,H⟩:=Cf (b:={ b with K:=d_,A:=lB }) (q:={ q with out:=G }) am dZ (H.ord [1,2,3,4,5,6,7,8,9,10,11,12,13]);exact (g7 br H).front 1
theorem aIv{au aZ:Nat}{c:C_}{b:bi}{from_:Int}{y:hI}(aK:0<c.nodes.len)(a0:IY b)(fg:sv b.P)(ai:b.out.length≤800000000000)(hm:-4000000000000000000≤y.Part.aD∧y.Part.aD≤4000000000000000000)(H:E A (aI au (gG.cells c) 114::j8 aZ b::m) w) :
  M Pg 84 [.pointer (some ⟨au,0,none⟩),.pointer (some ⟨aZ,0,none⟩),.int .i64 from_,eE.enc y] dU w fun _ J=>E A (aI au (gG.cells c) 114::j8 aZ (vO c.nodes.len b from_ y)::m) J:=by
 refine aje ?_;unfold WE;refine bH H fun l5 w H=>?_;refine dg H fun w H=>?_;obtain⟨q,am,H⟩:=lP (H.front 2);refine b3 rfl ?_;refine aj (x:=some q.jE) 0 H rfl rfl rfl ?_;refine aj (x:=y.Part.aD) 12 H rfl rfl rfl ?_;refine ap (SM hm H) ?_;rintro r w ⟨rfl,H⟩;refine⟨bE ef H rfl rfl,?_⟩;refine l_ 8 H rfl rfl ?_;rw[show Int.tdiv (y.Part.aD+1) 2=gE y.Part.aD from rfl];rcases al:b.P.lookup (gE y.Part.aD) with _ | p
 ·rw[BZ (by rw[am.1]; exact al)];rw[if_pos (by simp)];have xN:vO c.nodes.len b from_ y=b:=by unfold vO; rw[al]
  rw[xN];exact ((g7 am H).ord [1]).drop.front 1
 ·have xN:vO c.nodes.len b from_ y=y8 c.nodes.len b from_ y (gE y.Part.aD) p:=by unfold vO; rw[al]
  rw[xN];have F:=(fg _ _ al).2;obtain⟨dF,e4,fe,e,dZ,H⟩:=Ag am al H;rw[e,if_neg (by simp)];refine ap (Ce H) ?_;rintro r w ⟨rfl,H⟩;simp only;by_cases bY:p.bV=0
  ·rw[if_neg (by simp[bY])];refine aj (x:=y.Part.aD) 13 H rfl rfl rfl ?_;refine aj (x:=y.jK) 13 H rfl rfl rfl ?_;refine aj (x:=y.bW) 13 H rfl rfl rfl ?_;refine ap (RA H) ?_;rintro r w ⟨rfl,H⟩;have aQ:y8 c.nodes.len b from_ y (gE y.Part.aD) p=if (g3 p (Int.tmod y.Part.aD 2==1) y.jK y.bW).2≠0 then { b with P:=iK b.P (gE y.Part.aD) (g3 p (Int.tmod y.Part.aD 2==1) y.jK y.bW).1 } else vN c.nodes.len b (gE y.Part.aD) (g3 p (Int.tmod y.Part.aD 2==1) y.jK y.bW).1:=by unfold y8; rw[if_neg (fun h=>h bY)]
   rw[aQ];clear aQ;have z0:jq (g3 p (Int.tmod y.Part.aD 2==1) y.jK y.bW).1.x=0:=by rw[LW]; exact F
   generalize g3 p (Int.tmod y.Part.aD 2==1) y.jK y.bW=z at *;obtain⟨cP,aQ⟩:=z;simp only at H z0 ⊢;have fin:∀ w,E A (Au aZ b q dF cP e4 fe (aI l5 (eE.cells y) 62::aI au (gG.cells c) 114::m)) w→E A (aI au (gG.cells c) 114::j8 aZ { b with P:=iK b.P (gE y.Part.aD) cP }::m) w:=by
    intro w H;obtain⟨br,H⟩:=Cf am dZ H;exact ((g7 br H).ord [1]).drop.front 1
   by_cases ce:aQ=0
   ·rw[if_neg (by simp[ce]),if_neg (fun h=>h ce)];refine ap (Ce H) ?_;rintro r w ⟨rfl,H⟩;simp only;by_cases b4:cP.bV=3
    ·rw[if_pos (by simpa using b4)];have a6:vN c.nodes.len b (gE y.Part.aD) cP=(nT c.nodes.len b (gE y.Part.aD) cP 3 0).1:=by unfold vN; rw[if_pos b4]
     rw[a6];refine ap (Oj (k:=3) (t:=0) am dZ aK z0 (.inr rfl) (by omega) (by omega) a0.K (H.front 14)) ?_;rintro r w ⟨_,H⟩;exact (H.ord [2]).drop
    ·rw[if_neg (by simpa using b4)];refine ap (aEO H) ?_;rintro r w ⟨rfl,H⟩;by_cases cr:(n3 cP).2=true
     ·rw[if_pos cr];have a6:vN c.nodes.len b (gE y.Part.aD) cP=y9 c.nodes.len b (gE y.Part.aD) cP (gw b.ax b.cv b.src [(n3 cP).1]):=by unfold vN; rw[if_neg b4,if_pos cr]
      rw[a6];refine vm H fun aJE w H=>?_;have H:=um (ar:=1) (y:=1) rfl H;have li:=Sy (aZ:=aZ) (c:=q.ax) (s:=q.src) (x:=n1 b q) (ax:=b.ax) (src:=b.src) (h_:=[(n3 cP).1]) a0.ax rfl rfl a0.rd (by simp) (dc.row (fun _=>rfl) 0 rfl) (H.ord [2,3,5]);refine ap li ?_;clear li;rintro r w ⟨rfl,H⟩;have lK:=At (ax:=b.ax) (rd:=b.cv) (N:=[(n3 cP).1]) a0.src.2;have es:gw b.ax (n1 b q).cv b.src [(n3 cP).1]=gw b.ax b.cv b.src [(n3 cP).1]:=rfl;rw[es] at H ⊢;generalize gw b.ax b.cv b.src [(n3 cP).1]=ba at *;obtain⟨ha,jF,t,e⟩:=ba;simp only at H lK ⊢;have H:E A (Au aZ { b with ax:=ha,src:=jF } q dF cP e4 fe (aI l5 (eE.cells y) 62::aI au (gG.cells c) 114::m)) w:=(H.ord [3,4,0,1,5,2]).drop;by_cases cz:e=0
      ·rw[if_pos (by simpa using cz)];have c_:y9 c.nodes.len b (gE y.Part.aD) cP (ha,jF,t,e)=(nT c.nodes.len { b with ax:=ha,src:=jF } (gE y.Part.aD) cP 2 t).1:=by unfold y9; rw[if_pos cz]
       rw[c_];have aR:=lK.2 cz;refine ap (Oj (b:={ b with ax:=ha,src:=jF }) (k:=2) (t:=t) am dZ aK z0 (.inl rfl) (by omega) (by simp only; omega) a0.K (H.front 14)) ?_;rintro r w ⟨_,H⟩;exact (H.ord [2]).drop
      ·rw[if_neg (by simpa using cz)];have c_:y9 c.nodes.len b (gE y.Part.aD) cP (ha,jF,t,e)={ b with ax:=ha,src:=jF,P:=iK b.P (gE y.Part.aD) cP }:=by unfold y9; rw[if_neg cz]
       rw[c_];obtain⟨br,H⟩:=Cf (b:={ b with ax:=ha,src:=jF }) am dZ H;exact ((g7 br H).ord [1]).drop.front 1
     ·rw[if_neg cr];have a6:vN c.nodes.len b (gE y.Part.aD) cP={ b with P:=iK b.P (gE y.Part.aD) cP }:=by unfold vN; rw[if_neg b4,if_neg cr]
      rw[a6];exact fin w H
   ·rw[if_pos (by simpa using ce),if_pos ce];exact fin w H
  ·rw[if_pos (by simpa using bY)];have aQ:y8 c.nodes.len b from_ y (gE y.Part.aD) p=nG b from_ ⟨3,⟨y.Part.aD,0,0,false⟩,p.bV==2,p.at_⟩:=by unfold y8; rw[if_pos bY]
   rw[aQ];refine aj (x:=y.Part.aD) 13 H rfl rfl rfl ?_;refine ap (KQ am (by omega) (EF dZ H)) ?_;rintro r w H;exact (H.ord [1]).drop.front 1
end
def kb(p:bF)(r:cN):bF:=if r.k=3 then (py p).1 else (oY (g3 (g3 p true true r.t).1 false true r.t).1 r.t).1
def m_(P:List (Int×bF))(r:cN):List (Int×bF):=if r.k=1 then P++[(r.x.aD,jD r.x)] else match P.lookup r.x.aD with
 |none=>P
 |some p=>iK P r.x.aD (kb p r)
def w1(s:Int→Bool)(r:cN):Int→Bool:=if r.k=1 then s else fun x=>x==r.x.aD||s x
def uj(src:Int)(r:cN):Int:=if r.k=2 then (oy src r.t).1 else src
def vx(b:bi)(r:cN):bi:={ b with P:=m_ b.P r,sure:=w1 b.sure r,src:=uj b.src r }
def v0(P:List (Int×bF))(r:cN):Prop:=(r.k=1∧jq r.x=0∧P.lookup r.x.aD=none)∨((r.k=2∨r.k=3)∧(P.lookup r.x.aD).isSome=true)
section
variable {A w:World} {m bL:List bu}
theorem acF{aZ l:Nat}{b:bi}{q:ky}{id:Int}{p:bF}(am:Fits b q)(aK:b.P.lookup id=none)(H:E A (gB l p::aI aZ (j1.cells (n1 b q)) 101::j4 q.ax b.ax::er q.d b.K::oH q.src b.src::kt q.iJ q.e6 q.dn::h4 q.e6 q.d b.W.V::eQ q.dn b.W.v::h4 q.cs q.d b.A::cZ aE .i64 q.jE (eH id (some ⟨l,0,none⟩) (q.Q.map iR))::dt (q.Q.map lR)::cZ fm .i64 q.pi q.qx::row mz 161 8 q.out b.out::m) w) :
  Fits { b with P:=b.P++[(id,p)] } { q with Q:=q.Q++[(id,l,p)] }∧E A (eT aZ { b with P:=b.P++[(id,p)] } { q with Q:=q.Q++[(id,l,p)] } m) w:=by
 refine⟨⟨?_,am.2⟩,?_⟩
 ·show (q.Q++[(id,l,p)]).map qm=b.P++[(id,p)]
  rw[List.map_append,am.1]; rfl
 ·rw[SP _ _ _ (BZ (by rw[am.1]; exact aK))] at H;have H:E A (lR (id,l,p)::dt (q.Q.map lR)::_) w:=H.ord [0,10];rw[show q.Q.map lR=(q.Q++[]).map lR from by rw[List.append_nil]] at H;have H:=(we (f:=lR) H).ord [1,2,3,4,5,6,7,8,9,0];have e:(q.Q++[(id,l,p)]).map iR=q.Q.map iR++[(id,some ⟨l,0,none⟩)]:=by rw[List.map_append]; rfl
  unfold eT;rw[e];exact H
theorem aHH{aZ:Nat}{b:bi}{q:ky}{id:Int}(am:Fits b q):Fits { b with sure:=fun x=>x==id||b.sure x } { q with qx:=eH id ⟨⟩ q.qx }:=by
 refine⟨am.1,fun x=>?_⟩;show ((eH id ⟨⟩ q.qx).lookup x).isSome=(x==id||b.sure x)
 rw[sZ];cases h:x==id
 ·simp[am.2 x]
 ·simp
theorem aGj{aZ:Nat}{b:bi}{r:cN}(ab:v0 b.P r)(H:E A (j8 aZ b::m) w) :
  M Pg 94 [.pointer (some ⟨aZ,0,none⟩),.int .i64 r.k,gh.enc r.x,.int .i64 r.t] dU w fun _ J=>E A (j8 aZ (vx b r)::m) J:=by
 refine ajo ?_;unfold WM;refine bH H fun l5 w H=>?_;obtain⟨q,am,H⟩:=lP (H.front 1);rcases ab with ⟨aq,F,al⟩ | ⟨aq,al⟩
 ·rw[if_pos (by simpa using aq)];refine dg H fun w H=>?_;refine b3 rfl ?_;refine aj (x:=some q.jE) 0 H rfl rfl rfl ?_;refine aj (x:=r.x.aD) 12 H rfl rfl rfl ?_;refine aj (x:=r.x) 12 H rfl rfl (tA _) ?_;refine ap (acJ H) ?_;rintro⟨gJ,bs⟩ w ⟨I,_⟩;obtain⟨_,l,ao,H⟩:=I F;simp only at ao;subst ao;refine⟨bE ef (H.front 1) rfl rfl,bE (B .i64) (H.front 13) rfl rfl,?_⟩;refine r4 9 H rfl rfl fun w H=>?_;obtain⟨br,H⟩:=acF am al (H.ord [1,2,3,4,5,6,7,8,9,0]);have e:vx b r={ b with P:=b.P++[(r.x.aD,jD r.x)] }:=by unfold vx m_ w1 uj; rw[if_pos aq,if_pos aq,if_neg (by omega)]
  rw[e];exact ((g7 br H).front 1).drop
 ·rw[if_neg (by simp; omega)];refine dg H fun w H=>?_;refine b3 rfl ?_;refine aj (x:=some q.jE) 0 H rfl rfl rfl ?_;refine aj (x:=r.x.aD) 12 H rfl rfl rfl ?_;obtain⟨p,aF⟩:=Option.isSome_iff_exists.1 al;obtain⟨dF,e4,fe,e,dZ,H⟩:=Ag am aF H;refine l_ 9 H rfl rfl ?_;rw[e];refine dg H fun w H=>?_;refine aj (x:=some q.pi) 1 H rfl rfl rfl ?_;refine aj (x:=r.x.aD) 13 H rfl rfl rfl ?_;refine r4 11 H rfl rfl fun w H=>?_;have am:=aHH (aZ:=aZ) (id:=r.x.aD) am;have H:E A (Au aZ { b with sure:=fun x=>x==r.x.aD||b.sure x } { q with qx:=eH r.x.aD ⟨⟩ q.qx } dF p e4 fe (aI l5 (gh.cells r.x) 31::m)) w:=H.ord [1,2,3,4,5,6,7,8,9,10,11,0];have Gy:vx b r={ b with P:=iK b.P r.x.aD (kb p r),sure:=fun x=>x==r.x.aD||b.sure x,src:=uj b.src r }:=by unfold vx m_ w1; rw[if_neg (by omega),if_neg (by omega),aF]
  rw[Gy];by_cases b4:r.k=3
  ·rw[if_pos (by simpa using b4)];refine ap (acu H) ?_;rintro _ w ⟨_,H⟩;obtain⟨br,H⟩:=Cf am dZ H;have a6:kb p r=(py p).1:=by unfold kb; rw[if_pos b4]
   have c_:uj b.src r=b.src:=by unfold uj; rw[if_neg (by omega)]
   rw[a6,c_];exact ((g7 br H).front 1).drop
  ·rw[if_neg (by simpa using b4)];have a6:kb p r=(oY (g3 (g3 p true true r.t).1 false true r.t).1 r.t).1:=by unfold kb; rw[if_neg b4]
   have c_:uj b.src r=(oy b.src r.t).1:=by unfold uj; rw[if_pos (by omega)]
   rw[a6,c_];refine ap (RA H) ?_;rintro _ w ⟨_,H⟩;refine ap (RA H) ?_;rintro _ w ⟨_,H⟩;refine ap (acy H) ?_;rintro _ w ⟨_,H⟩;refine aj (x:=some ⟨q.src,0,none⟩) 1 H rfl rfl rfl ?_;refine ap (Ko (H.front 4)) ?_;rintro _ w ⟨_,H⟩;obtain⟨br,H⟩:=Cf (b:={ b with sure:=fun x=>x==r.x.aD||b.sure x,src:=(oy b.src r.t).1 }) am dZ (H.ord [1,2,3,4,0]);exact ((g7 br H).front 1).drop
end
end Cluster
namespace Cluster
open bb Wire Disk Vault Clock Shard Num
def E2(ax:hh)(rd:Int)(K:cJ)(f:Nat)(xs:List dI)(n:Nat):bi:=⟨ax,rd,K,(oy 0 (qk (us f) xs).fA).1,⟨⟨xs.length,xs.length,0,false⟩,qk (us f) xs⟩,⟨n,n,1,false⟩,[],fun _=>false,[]⟩
def za(ax:hh)(rd:Int)(K:cJ)(f:Nat)(xs:List dI)(an:List cN):bi:=an.foldl vx (E2 ax rd K f xs an.length)
def qP(an:List cN):Prop:=∀ i r,an[i]?=some r→oR r∧v0 ((an.take i).foldl m_ []) r
theorem an1(an:List cN):∀ b:bi,(an.foldl vx b).P=an.foldl m_ b.P:=by
 induction an with
 |nil=>intro b; rfl
 |cons r an b_=>intro b; exact b_ _
theorem abG{K:cJ}{n:Nat}{g:dR}(di:K.hz)(ag:K.down=false)(R:K.cK[n]?=some g):(db K (n:Int) g).1.hz∧((db K (n:Int) g).2=0→(db K (n:Int) g).1.down=false∧∀ y,y≠n→(db K (n:Int) g).1.cK[y]?=K.cK[y]?):=by
 have dv:=(List.getElem?_eq_some_iff.1 R).1;have D2:=di.log g (List.mem_of_getElem? R);have key:∀ (size:Int) (f:dR→dR),size≤4194304→(j3 K (n:Int) size f).2=0→(j3 K (n:Int) size f).1.down=false∧∀ y,y≠n→(j3 K (n:Int) size f).1.cK[y]?=K.cK[y]?:=by
  intro size f aG ah;by_cases Y:K.ea=1
  ·rw[aj1 dv ag aG Y] at ah;cases ah
  ·rw[aj2 dv ag aG Y];exact⟨ag,fun y hm=>aC5 hm⟩
 unfold db;have J8:=aex g.l;split
 ·refine⟨I6 di fun aG cy ye=>?_,key _ _ (by rw[List.length_take]; omega)⟩;simp only[List.length_take]; omega
 ·split
  ·refine⟨I6 di fun aG cy ye=>?_,key _ _ (by omega)⟩;have:=di.log cy (List.mem_of_getElem? ye);simp only; omega
  ·exact⟨di,fun _=>⟨ag,fun _ _=>rfl⟩⟩
section
variable {A w:World} {m bL:List bu}
theorem afI{au aZ d uR:Nat}{c:C_}{x:Da}{ax:hh}{K:cJ}{cO br:dR}{xs:List dI}{an:List cN}(F:x.clock=some ⟨uR,0,none⟩)(Qj:x.Gm=some ⟨d,0,none⟩)(ab:jo c.ek.gA)(di:K.hz)(ag:K.down=false)
  (yf:K.cK[0]?=some cO) (ri:sG (scan cO.l).1=some xs) (re:K.cK[1]?=some br) (J7:(scan br.l).1=an.map fF) (o5:qP an)
  (H:E A (aI au (gG.cells c) 114::aI aZ (j1.cells x) 101::j4 uR ax::er d K::m) w) :
  M Pg 42 [.pointer (some ⟨au,0,none⟩),.pointer (some ⟨aZ,0,none⟩)] (B .i64) w fun r J=>
   ((db K 0 cO).2≠0→r=(db K 0 cO).2∧E A (aI au (gG.cells c) 114::aI aZ (j1.cells x) 101::j4 uR ax::er d (db K 0 cO).1::m) J) ∧
   ((db K 0 cO).2=0→(db (db K 0 cO).1 1 br).2≠0→r=(db (db K 0 cO).1 1 br).2∧E A (aI au (gG.cells c) 114::aI aZ (j1.cells x) 101::j4 uR ax::er d (db (db K 0 cO).1 1 br).1::m) J) ∧
   ((db K 0 cO).2=0→(db (db K 0 cO).1 1 br).2=0→r=0∧E A (aI au (gG.cells c) 114::j8 aZ (za ax x.cv (db (db K 0 cO).1 1 br).1 c.ek.gA xs an)::m) J):=by
 refine aiv ?_;unfold V0;refine dg H fun w H=>?_;refine b3 rfl ?_;refine b3 rfl ?_;refine aj (x:=x.Gm) 1 H rfl rfl rfl ?_;refine aj (x:=c.ek.gA) 0 H rfl rfl rfl ?_;rw[Qj];have zT:=abG (n:=0) di ag yf;refine ap (Shard.Rp (n:=0) (g:=cO) di ab (by omega) ag yf ri (H.front 3)) ?_;rintro⟨gJ,bs⟩ w ⟨I,O⟩;by_cases bY:(db K 0 cO).2=0
 ·obtain⟨aH,s,bg,H⟩:=I bY;simp only at aH bg;subst aH; subst bg;rw[if_neg (by simp)];obtain⟨zP,aqn⟩:=zT.2 bY;have app:(db K 0 cO).1.cK[1]?=some br:=by rw[← re]; exact aqn 1 (by omega)
  have aqy:=zT.1;have aq1:(scan cO.l).1.length=xs.length:=(Om ri).symm;rw[aq1] at H;have aJF:(db K 0 cO).2=0:=bY;generalize db K 0 cO=jY at *;refine aj (x:=x.Gm) 3 H rfl rfl rfl ?_;rw[Qj];refine ap (ack (n:=1) (g:=br) aqy (by omega) zP app (H.front 1)) ?_;rintro⟨p,q,e⟩ w ⟨he,aH,bg⟩;simp only at he aH bg;subst he;by_cases bm:(db jY.1 1 br).2=0
  ·obtain⟨cs,ee,aF,H⟩:=aH bm;subst aF;rw[if_neg (by simp[bm])];obtain⟨e6,dn,H⟩:=aeE (H.front 4);refine ap (aCK H) ?_;rintro r w ⟨lm,rfl,H⟩;refine dx (x:=(some ⟨s,0,none⟩:Option Addr)) 9 H rfl rfl (Nat.le_of_ble_eq_true rfl) fun w H=>?_;refine dx (x:=(some ⟨cs,0,none⟩:Option Addr)) 0 H rfl rfl (Nat.le_of_ble_eq_true rfl) fun w H=>?_;refine dx (x:=fx) 0 H rfl rfl (Nat.le_of_ble_eq_true rfl) fun w H=>?_;refine dx (x:=(some ⟨lm,0,none⟩:Option Addr)) 0 H rfl rfl (Nat.le_of_ble_eq_true rfl) fun w H=>?_;refine wU H fun jE w H=>?_;have H:=wQ aE .i64 H;refine wU H fun pi w H=>?_;have H:=wQ fm .i64 H;refine dx (x:=some jE) 2 H rfl rfl (Nat.le_of_ble_eq_true rfl) fun w H=>?_;refine dx (x:=some pi) 0 H rfl rfl (Nat.le_of_ble_eq_true rfl) fun w H=>?_
   let nC:ky:=⟨uR,d,lm,s,e6,dn,cs,jE,pi,fx,[],[]⟩
   let tr:bi:=⟨ax,x.cv,(db jY.1 1 br).1,0,⟨⟨xs.length,xs.length,0,false⟩,qk (us c.ek.gA) xs⟩,⟨(scan br.l).1.length,(scan br.l).1.length,1,false⟩,[],fun _=>false,[]⟩
   have xN:n1 tr nC=⟨some ⟨uR,0,none⟩,x.cv,some ⟨d,0,none⟩,some ⟨lm,0,none⟩,some ⟨s,0,none⟩,some ⟨cs,0,none⟩,some jE,some pi,fx⟩:=rfl;have H:E A (aI aZ (j1.cells ⟨x.clock,x.cv,x.Gm,some ⟨lm,0,none⟩,some ⟨s,0,none⟩,some ⟨cs,0,none⟩,some jE,some pi,fx⟩) 101::_) w:=H;rw[F,Qj,← xN] at H;refine dg H fun w H=>?_;refine aj (x:=(some ⟨lm,0,none⟩:Option Addr)) 0 H rfl rfl rfl ?_;refine ap (y7 (H.front 4)) ?_;rintro r w ⟨rfl,H⟩;refine⟨bE aE (H.front 1) rfl rfl,?_⟩;refine ap (aIa (H.front 6)) ?_;rintro r w ⟨rfl,H⟩;refine⟨bE aE (H.front 2) rfl rfl,?_⟩;refine ap (Ko (H.front 5)) ?_;rintro r w ⟨_,H⟩;have Po:=aew br.l;have J9:=aey br.l;have D2:=di.log br (List.mem_of_getElem? re);rw[J7] at H Po J9;simp only[List.length_map] at H Po;have H:=(kJ mz 161 8 (E.shut (bL:=([]:List bu)) H)).ord [5,14,10,2,4,8,3,9,7,1,6,0]
   have H:=g7 (aZ:=aZ) (b:=E2 ax x.cv (db jY.1 1 br).1 c.ek.gA xs an.length) (q:=nC) ⟨rfl,fun _=>rfl⟩ H;have wz:=gn (H.front 1);have PP:ee.length=an.length:=by
    obtain⟨aV,_,a4⟩:=(bX.pD (bX.tail (bX.tail (bX.here (y:=mu.mono))))) H;rw[a4.1,List.length_map]
   refine hU (fun t w=>∃ k:Nat,t=(k:Int)∧k≤an.length∧E A (j8 aZ ((an.take k).foldl vx (E2 ax x.cv (db jY.1 1 br).1 c.ek.gA xs an.length))::row X 189 1 q ee::tW ee (an.map fF)::aI au (gG.cells c) 114::m) w) (fun t=>(an.length-t).toNat) ⟨0,rfl,by omega,H⟩ ?_;clear H;rintro t w ⟨k,rfl,aq,H⟩ aa b2;unfold Na;simp only;rw[wz,PP];split
   ·rename_i U;have U:k<an.length:=by
     have:(k:Int)<an.length:=by simpa using U
     omega
    have aQ:IntKind.i64.wrap ((k:Int)+1)=((k+1:Nat):Int):=by rw[wrap_i64 (by omega) (by omega)]; omega
    obtain⟨oX,Zt⟩:=kI (i:=(k:Int)) (H.front 1) (by omega) (by omega);have ao:an[k]?=some an[k]:=List.getElem?_eq_getElem U;have wy:ee[((k:Int)).toNat]?=some (ee[k]'(by omega)):=List.getElem?_eq_getElem (by omega);have iC:an.take (k+1)=an.take k++[an[k]]:=List.take_succ_eq_append_getElem U;have G8:(fF an[k]).length≤65536:=J9 _ (List.mem_map.2 ⟨_,List.getElem_mem _,rfl⟩);have jj:∀ aV,mu ee (an.map fF) aV→(ee[k]'(by omega)).len≤(ee[k]'(by omega)).cap∧cT (B .u8) (ee[k]'(by omega)) (aS (fF an[k])) aV:=fun aV a4=>a4.2 k _ _ (List.getElem?_eq_getElem (by omega)) (by rw[List.getElem?_map,ao]; rfl);obtain⟨kq,kC⟩:=o5 k _ ao;generalize an[k]=r at ao G8 jj kq kC iC;generalize ee[k]'(by omega)=gC at wy jj;refine aO oX Zt ?_;refine aO gC (mh (fun _=>rfl) Zt wy (H.front 1)) ?_
    have tU:bX (j8 aZ ((an.take k).foldl vx (E2 ax x.cv (db jY.1 1 br).1 c.ek.gA xs an.length))::row X 189 1 q ee::tW ee (an.map fF)::aI au (gG.cells c) 114::m) (mu ee (an.map fF)):=bX.tail (bX.tail (bX.here (y:=mu.mono)));have l7:gC.len≤gC.cap:=by
     obtain⟨aV,_,a4⟩:=tU.pD H;exact (jj aV a4).1
    refine ap (afj l7 (by omega) (dc.ro (fun _=>rfl) (tU.imp fun aV a4=>(jj aV a4).2)) H) ?_;rintro⟨v,p,e⟩ w ⟨_,O,H⟩;rw[afg kq] at O H;simp only at O H;subst O;have arb:=gn H;have aaq:(mI r).length=6:=rfl;simp only;rw[arb,aaq,if_neg (by simp)];refine dg H fun w H=>?_;have iq:∀ (D:Nat),D<6→∃ a,cD v 5 (D:Int) a:=fun D bI=>kI H (by omega) (by rw[aaq]; omega);obtain⟨Xy,i0⟩:=iq 0 (by omega);obtain⟨e5,i1⟩:=iq 1 (by omega);obtain⟨dX,i2⟩:=iq 2 (by omega);obtain⟨iy,i3⟩:=iq 3 (by omega);obtain⟨iz,i4⟩:=iq 4 (by omega);obtain⟨l5,i5⟩:=iq 5 (by omega);refine aO Xy i0 (aO e5 i1 (aO dX i2 (aO iy i3 (aO iz i4 (aO l5 i5 ?_)))));have rS:∀ {D:Nat} {a:Addr} {n:Int} {w:World} {N:List bu},cD v 5 (D:Int) a→(mI r)[D]?=some (sW n)→E A (row Wire.hq 197 5 v (mI r)::N) w→L (B .i64) (a.add 2) w n:=fun Y F H=>qa pP Y (by rw[Int.toNat_natCast]; exact F) rfl H
    refine aO r.k (rS i0 rfl H) (aO r.x.aD (rS i1 rfl H) (aO r.x.fC (rS i2 rfl H) (aO r.x.fv (rS i3 rfl H) (aO r.x.b (rS i4 rfl H) (aO r.t (rS i5 rfl H) ?_)))));have fg:((an.take k).foldl vx (E2 ax x.cv (db jY.1 1 br).1 c.ek.gA xs an.length)).P=(an.take k).foldl m_ []:=an1 _ _;refine ap (aGj (r:=r) (by rw[fg]; exact kC) (H.front 1)) ?_;rintro _ w H;have H:=H.front 1;refine⟨rS i1 rfl H,rS i2 rfl H,rS i3 rfl H,rS i4 rfl H,?_⟩;rw[aQ];refine b2 _ _ ⟨k+1,rfl,by omega,?_⟩ (by omega);rw[iC,List.foldl_append];exact H.drop
   ·rename_i U;have U:k=an.length:=by
     have:¬ (k:Int)<an.length:=by simpa using U
     omega
    subst U;rw[List.take_length] at H;unfold IN;exact⟨fun h=>absurd bY h,fun _ h=>absurd bm h,fun _ _=>⟨by trivial,((H.ord [1,2]).drop.drop).front 1⟩⟩
  ·obtain⟨aF,H⟩:=bg bm;subst aF;rw[if_pos (by simpa using bm)];refine⟨fun h=>absurd bY h,fun _ _=>⟨by trivial,?_⟩,fun _ h=>absurd h bm⟩;exact (H.ord [1]).drop.ord [1,2,3,0]
 ·obtain⟨aH,H⟩:=O bY;cases aH;rw[if_pos (by simpa using bY)];exact⟨fun _=>⟨by trivial,H.ord [1,2,3,0]⟩,fun h=>absurd h bY,fun h=>absurd h bY⟩
end
theorem YP{Z:Type}(a:List Z)(e:Z)(l:List Z):(a++e::l).eraseIdx a.length=a++l:=by
 rw[List.eraseIdx_append_of_length_le (Nat.le_refl _)]; simp
theorem LD{Z:Type}(a:List Z)(e hQ:Z)(l:List Z):(a++e::l).set a.length hQ=a++hQ::l:=by
 rw[List.set_append_right _ _ (Nat.le_refl _)]; simp
theorem aG0{Z ep:Type}{f:Z→ep}{Q:List Z}{i:Nat}{e hQ:Z}(h:Q[i]?=some e)(he:f hQ=f e):(Q.set i hQ).map f=Q.map f:=by
 obtain⟨e4,fe,rfl,rfl⟩:=CB h;rw[LD]; simp[he]
@[reducible] def hB(au:Nat)(o:bv)(p:kf)(m:List bu):List bu:=aI au (gG.cells (iA o p)) 114::row aE 89 1 p.nodes (p.Q.map kE)::dt (p.Q.map hj)::Post.hJ p.aY o.aY::cZ fm .i64 p.kD p.rn::row kh 53 3 p.told o.told::m
@[reducible] def hP(au:Nat)(o:bv)(p:kf)(i:Nat)(m:List bu):List bu:=aI au (gG.cells (iA o p)) 114::row aE 89 1 p.nodes (p.Q.map kE)::dt ((p.Q.eraseIdx i).map hj)::Post.hJ p.aY o.aY::cZ fm .i64 p.kD p.rn::row kh 53 3 p.told o.told::m
def kK(o:bv)(i:Nat)(b:bi):bv:={ o with N:=o.N.set i b }
def fP(o:bv)(i:Int):Int:=match (if i<0 then none else o.N[i.toNat]?) with
 |none=>202
 |some b=>if b.K.down=true then 203 else 0
def m2(o:bv)(i:Int)(f:bi→bi×Int):bv×Int:=match (if i<0 then none else o.N[i.toNat]?) with
 |none=>(o,202)
 |some b=>if b.K.down=true then (o,203) else (kK o i.toNat (f b).1,(f b).2)
def qG(o:bv)(i:Int)(f:bi→bi×Int):bv×Int:=match (if i<0 then none else o.N[i.toNat]?) with
 |none=>(o,202)
 |some b=>(kK o i.toNat (f b).1,(f b).2)
theorem vp{o:bv}{i:Int}{f:bi→bi×Int}(h:fP o i≠0):m2 o i f=(o,fP o i):=by
 unfold m2 fP at *;split
 ·rfl
 ·rename_i b a0;rw[a0] at h;simp only at h ⊢;split
  ·rfl
  ·rename_i ag;rw[if_neg ag] at h;exact absurd rfl h
theorem pS{o:bv}{i:Int}{f:bi→bi×Int}{b:bi}(ah:0≤i)(h:o.N[i.toNat]?=some b)(ag:b.K.down=false):m2 o i f=(kK o i.toNat (f b).1,(f b).2):=by
 unfold m2;rw[if_neg (by omega),h];simp only;rw[if_neg (by simp[ag])]
section
variable {A w:World} {m bL:List bu}
theorem YY{ep:Type}{f:ep→bu}{Q:List ep}{i:Nat}{e:ep}(h:Q[i]?=some e)(H:E A (dt (Q.map f)::m) w):E A (f e::dt ((Q.eraseIdx i).map f)::m) w:=by
 obtain⟨e4,fe,rfl,rfl⟩:=CB h;rw[YP];exact Bi H
theorem ON{ep:Type}{f:ep→bu}{Q:List ep}{i:Nat}{e hQ:ep}(h:Q[i]?=some e)(H:E A (f hQ::dt ((Q.eraseIdx i).map f)::m) w):E A (dt ((Q.set i hQ).map f)::m) w:=by
 obtain⟨e4,fe,rfl,rfl⟩:=CB h;rw[YP] at H;rw[LD];exact we H
theorem Ep{au i aZ:Nat}{b:bi}{o:bv}{p:kf}(h:p.Q[i]?=some (aZ,b))(H:E A (hB au o p m) w):E A (j8 aZ b::hP au o p i m) w:=(YY (f:=hj) h (H.front 2)).ord [0,2,3,1]
theorem rs{au i aZ:Nat}{b cC:bi}{o:bv}{p:kf}(am:oQ o p)(h:p.Q[i]?=some (aZ,b))(H:E A (j8 aZ cC::hP au o p i m) w) :
  oQ (kK o i cC) { p with Q:=p.Q.set i (aZ,cC) }∧E A (hB au (kK o i cC) { p with Q:=p.Q.set i (aZ,cC) } m) w:=by
 refine⟨⟨?_,am.2⟩,?_⟩
 ·show (p.Q.set i (aZ,cC)).map Prod.snd=o.N.set i cC
  rw[List.map_set,am.1]
 ·have H:E A (hj (aZ,cC)::dt ((p.Q.eraseIdx i).map hj)::_) w:=H.ord [0,3];have H:=(ON (f:=hj) (i:=i) h H).ord [1,2,0];have e:(p.Q.set i (aZ,cC)).map kE=p.Q.map kE:=aG0 h rfl;unfold hB;rw[e];exact H
theorem wT{au i aZ:Nat}{b:bi}{o:bv}{p:kf}(h:p.Q[i]?=some (aZ,b))(H:E A (j8 aZ b::hP au o p i m) w):E A (hB au o p m) w:=by
 obtain⟨e4,fe,dZ,rfl⟩:=CB h;have H:E A (hj (aZ,b)::dt ((p.Q.eraseIdx e4.length).map hj)::_) w:=H.ord [0,3];have e:p.Q.set e4.length (aZ,b)=p.Q:=by rw[dZ,LD]
 have H:=ON (f:=hj) h H;rw[e] at H;exact H.ord [1,2,0]
theorem sB{au:Nat}{o:bv}{p:kf}{i:Int}(am:oQ o p)(kB:o.N.length≤8)(H:E A (hB au o p m) w) :
  M Pg 29 [.pointer (some ⟨au,0,none⟩),.int .i64 i] (bo aE (B .i64)) w fun r J=>
   (fP o i≠0∧r=(none,fP o i)∧E A (hB au o p m) J) ∨
   (fP o i=0∧∃ aZ b,0≤i∧p.Q[i.toNat]?=some (aZ,b)∧o.N[i.toNat]?=some b∧b.K.down=false∧r=(some ⟨aZ,0,none⟩,0)∧E A (j8 aZ b::hP au o p i.toNat m) J):=by
 have al:p.Q.length=o.N.length:=by rw[← am.1,List.length_map]
 refine ap (Bh (by omega) H) ?_;rintro r w ⟨h,H⟩;unfold fP;rw[← am.1];simp only[List.getElem?_map];by_cases ah:i<0
 ·rw[if_pos ah] at h ⊢;exact .inl ⟨by simp,h,H⟩
 ·rw[if_neg ah] at h ⊢;rcases a5:p.Q[i.toNat]? with _ | t
  ·rw[a5] at h;exact .inl ⟨by simp,h,H⟩
  ·rw[a5] at h;obtain⟨aZ,b⟩:=t;simp only[Option.map_some] at h ⊢;by_cases ag:b.K.down=true
   ·rw[if_pos ag] at h ⊢;exact .inl ⟨by simp,h,H⟩
   ·rw[if_neg ag] at h ⊢;exact .inr ⟨rfl,aZ,b,by omega,rfl,rfl,by simpa using ag,h,Ep a5 H⟩
theorem Q9{au:Nat}{o:bv}{p:kf}(H:E A (hB au o p m) w):M Pg 19 [.pointer (some ⟨au,0,none⟩)] (B .i64) w fun r J=>r=o.now∧E A (hB au o p m) J:=by
 refine ahs ?_;unfold UP;refine b3 rfl ?_;refine aj (x:=o.now) 0 H rfl rfl rfl ?_;exact⟨rfl,H⟩
theorem acK{au:Nat}{o:bv}{p:kf}{i:Int}(am:oQ o p)(kB:o.N.length≤8)(H:E A (hB au o p m) w):M Pg 28 [.pointer (some ⟨au,0,none⟩),.int .i64 i] bf w fun r J=>r=(fP o i==0)∧E A (hB au o p m) J:=by
 refine aih ?_;unfold VK;refine ap (sB am kB H) ?_;rintro r w (⟨_,rfl,H⟩ | ⟨h,aZ,b,_,a5,_,_,rfl,H⟩)
 ·exact⟨rfl,H⟩
 ·exact⟨by rw[h],wT a5 H⟩
theorem YZ{au:Nat}{o:bv}{p:kf}{id:Int}(am:oQ o p)(kB:o.N.length≤8)(ah:0<o.N.length)(H:E A (hB au o p m) w):M Pg 16 [.pointer (some ⟨au,0,none⟩),.int .i64 id] (bo (B .i64) (B .i64)) w fun r J=>
  r=(if id<1 then (0,0) else if fP o (Int.tmod id o.N.length)≠0 then (0,0) else match (o.N[(Int.tmod id o.N.length).toNat]?).bind fun b=>b.P.lookup id with
   |none=>(0,0)
   |some p=>(p.bV,p.at_))∧E A (hB au o p m) J:=by
 refine ag1 ?_;unfold Uq;by_cases c:id<1
 ·rw[if_pos (by simpa using c),if_pos c];exact⟨rfl,H⟩
 ·rw[if_neg (by simpa using c),if_neg c];have aK:=gn (H.front 1);rw[List.length_map] at aK;have al:p.Q.length=o.N.length:=by rw[← am.1,List.length_map]
  refine ap (Eu (c:=iA o p) (show 0<p.nodes.len by omega) H) ?_;rintro r w ⟨rfl,H⟩;rw[show ((iA o p).nodes.len:Int)=(o.N.length:Int) from by rw[show (iA o p).nodes.len=p.nodes.len from rfl,aK,al]];refine ap (sB am kB H) ?_;rintro r w (⟨I,rfl,H⟩ | ⟨I,aZ,b,O,a5,a0,_,rfl,H⟩)
  ·rw[if_pos I,if_pos (by simpa using I)];exact⟨rfl,H⟩
  ·rw[if_neg (by simp),if_neg (fun h=>h I),a0];simp only[Option.bind_some];obtain⟨q,R,H⟩:=lP H;refine b3 rfl ?_;refine aj (x:=some q.jE) 0 H rfl rfl rfl ?_;refine l_ 8 H rfl rfl ?_;rcases l9:b.P.lookup id with _ | pl
   ·rw[BZ (by rw[R.1]; exact l9),if_pos (by simp)];exact⟨by trivial,wT a5 (g7 R H)⟩
   ·obtain⟨dF,e4,fe,e,dZ,H⟩:=Ag R l9 H;rw[e,if_neg (by simp)];refine ap (Ce H) ?_;rintro r w ⟨rfl,H⟩;exact⟨by trivial,wT a5 (g7 R (EF dZ H))⟩
end
abbrev W3:=gW
abbrev uE:=ew
structure NM(y:hI):Prop where
 id:1≤y.Part.aD∧y.Part.aD≤2000000
 ac:0≤y.Part.b5∧y.Part.b5<4096
 n:0≤y.Part.b∧y.Part.b≤1000000000000000
 t:0≤y.bW∧y.bW≤1125899906842624
structure NN(b:bi):Prop where
 ht:IY b
 lS:sv b.P
 out:b.out.length≤800000000000
 lG:b.P.length≤1000000
 ids:∀ e∈b.W.v.held,e.1≤4000000
structure kR(o:bv):Prop where
 len:0<o.N.length∧o.N.length≤8
 aY:o.aY.m.length≤1000
 lets:∀ x∈o.aY.m,NM x.o
 nodes:∀ b∈o.N,NN b
 told:o.told.length≤100000000000
 now:0≤o.now∧o.now≤1099511627776
 width:0≤o.ek.ju∧o.ek.ju≤1000
 ey:jo o.ek.gA
 kz:iX o.ek.kT
theorem kR.at{o:bv}(k:kR o){i:Nat}{b:bi}(h:o.N[i]?=some b):NN b:=k.nodes b (List.mem_of_getElem? h)
def xC(b:bi)(y:hI):bi:=match b.P.lookup (gE y.Part.aD) with
 |none=>b
 |some p=>{ b with P:=iK b.P (gE y.Part.aD) (F7 p (Int.tmod y.Part.aD 2==1)).1 }
def mU(n:Nat)(b:bi)(from_:Int)(y:hI):bi:=
 if y.Kind=1 then rh b from_ y.Part else if y.Kind=2 then vO n b from_ y else if y.Kind=3 then tH b from_ y else if y.Kind=4 then xC b y else b
def pB(o:bv)(i:Int):bv×Int:=
 if (Post.dB.take o.aY i).2.2≠0 then (o,(Post.dB.take o.aY i).2.2)
 else m2 { o with aY:=(Post.dB.take o.aY i).1 } (Post.dB.take o.aY i).2.1.fv fun b=>(mU o.N.length b (Post.dB.take o.aY i).2.1.fC (Post.dB.take o.aY i).2.1.o,0)
def xI(o:bv)(i:Int):bv×Int:=if (o.aY.at_ i).2≠0 then (o,(o.aY.at_ i).2) else ({ o with aY:=(o.aY.put (o.aY.at_ i).1).1 },(o.aY.put (o.aY.at_ i).1).2)
def B0(o:bv)(i:Int):bv×Int:=({ o with aY:=if (o.aY.at_ i).2=0 then { o.aY with m:=o.aY.m.eraseIdx i.toNat } else o.aY },(o.aY.at_ i).2)
theorem aHW{b:Post.dB}{i:Int}(h:(b.take i).2.2≠0):(b.take i).1=b:=by
 unfold Post.dB.take at h ⊢;split
 ·rfl
 ·rename_i I;rw[if_neg I] at h;split
  ·rfl
  ·rename_i O;rw[if_neg O] at h;exact absurd rfl h
theorem SG{b:Post.dB}{i:Int}(h:(b.take i).2.2=0):(b.take i).2.1∈b.m∧(b.take i).1={ b with m:=b.m.eraseIdx i.toNat }:=by
 unfold Post.dB.take at h ⊢;split
 ·rename_i I; rw[if_pos I] at h; exact absurd h I
 ·rename_i I;rw[if_neg I] at h;split
  ·rename_i O; rw[if_pos O] at h; cases h
  ·have I:=Classical.not_not.1 I;have aH:=b.Jb I;have F:b.m[i.toNat]?=some (b.m[i.toNat]'(by omega)):=List.getElem?_eq_getElem (by omega);rw[b.Ja aH.1 F];exact⟨List.getElem_mem _,rfl⟩
section
variable {A w:World} {m bL:List bu}
theorem kY{au:Nat}{o:bv}(H:E A (b8 au o::m) w):∃ p:kf,oQ o p∧E A (hB au o p m) w:=alI H
theorem alW{au:Nat}{o:bv}{i:Int}(k:kR o)(H:E A (b8 au o::m) w):M Pg 46 [.pointer (some ⟨au,0,none⟩),.int .i64 i] (B .i64) w fun r J=>r=(xI o i).2∧E A (b8 au (xI o i).1::m) J:=by
 obtain⟨p,am,H⟩:=kY H;refine aiz ?_;unfold V4;refine b3 rfl ?_;refine aj (x:=some ⟨p.aY,0,none⟩) 0 H rfl rfl rfl ?_;refine ap (Post.alX (H.front 3) k.aY i) ?_;rintro r w ⟨rfl,H⟩;unfold xI;by_cases c:(o.aY.at_ i).2≠0
 ·simp only[if_pos c] at H ⊢;exact⟨by trivial,fE am (H.ord [1,2,3])⟩
 ·simp only[if_neg c] at H ⊢;exact⟨by trivial,fE (o:={ o with aY:=(o.aY.put (o.aY.at_ i).1).1 }) am (H.ord [1,2,3])⟩
theorem aCh{au:Nat}{o:bv}{i:Int}(k:kR o)(H:E A (b8 au o::m) w):M Pg 47 [.pointer (some ⟨au,0,none⟩),.int .i64 i] (B .i64) w fun r J=>r=(B0 o i).2∧E A (b8 au (B0 o i).1::m) J:=by
 obtain⟨p,am,H⟩:=kY H;refine aiA ?_;unfold V5;refine b3 rfl ?_;refine aj (x:=some ⟨p.aY,0,none⟩) 0 H rfl rfl rfl ?_;refine ap (Post.aCi (H.front 3) k.aY i) ?_;rintro r w ⟨rfl,H⟩;exact⟨rfl,fE (o:=(B0 o i).1) am (H.ord [1,2,3])⟩
theorem Ky{au:Nat}{o:bv}(k:kR o)(H:E A (b8 au o::m) w):M Pg 18 [.pointer (some ⟨au,0,none⟩)] X w fun r J=>E A (row uE 64 10 r o.aY.m::b8 au o::m) J:=by
 obtain⟨p,am,H⟩:=kY H;refine ahl ?_;unfold UI;refine b3 rfl ?_;refine aj (x:=some ⟨p.aY,0,none⟩) 0 H rfl rfl rfl ?_;refine ap (Post.aB9 (H.front 3) k.aY) ?_;intro r w H;exact (fE am (H.ord [2,3,4,1,5,6,0])).front 1
theorem alD{v:af}{xs:List eW}(H:E A (row kh 53 3 v xs::m) w)(al:xs.length≤100000000000):M Pg 53 [X.enc v] X w fun r J=>E A (row kh 53 3 r xs::row kh 53 3 v xs::m) J:=by
 refine aiH ?_;unfold Wa;split
 ·rename_i U;rcases oF H with ⟨rfl,rfl,_⟩ | ⟨e5,rest,I,_⟩
  ·exact kJ _ _ _ H
  ·simp[I] at U
 ·refine vm H fun l w H=>?_;have H:=um (ar:=3) (y:=0) (xs:=[]) rfl H;refine Dq (xs:=[]) (new:=xs) (fun _=>rfl) 0 H rfl (C8 (H.front 1)) (by simp; omega) fun r w H=>?_;exact H
theorem CC{au:Nat}{o:bv}(k:kR o)(H:E A (b8 au o::m) w):M Pg 15 [.pointer (some ⟨au,0,none⟩)] X w fun r J=>E A (row kh 53 3 r o.told::b8 au o::m) J:=by
 obtain⟨p,am,H⟩:=kY H;refine agT ?_;unfold Ug;refine b3 rfl ?_;refine aj (x:=p.told) 0 H rfl rfl rfl ?_;refine ap (alD (H.front 5) k.told) ?_;intro r w H;exact (fE am (H.ord [2,3,4,5,6,1,0])).front 1
theorem alQ{n:Nat}{b:bi}{f:Int}{y:hI}(h:y.Kind=1):mU n b f y=rh b f y.Part:=by unfold mU; rw[if_pos h]
theorem alS{n:Nat}{b:bi}{f:Int}{y:hI}(h:y.Kind=2):mU n b f y=vO n b f y:=by unfold mU; rw[if_neg (by omega),if_pos h]
theorem alP{n:Nat}{b:bi}{f:Int}{y:hI}(h:y.Kind=3):mU n b f y=tH b f y:=by unfold mU; rw[if_neg (by omega),if_neg (by omega),if_pos h]
theorem alO{n:Nat}{b:bi}{f:Int}{y:hI}(h:y.Kind=4):mU n b f y=xC b y:=by unfold mU; rw[if_neg (by omega),if_neg (by omega),if_neg (by omega),if_pos h]
theorem alR{n:Nat}{b:bi}{f:Int}{y:hI}(I:y.Kind≠1)(O:y.Kind≠2)(aH:y.Kind≠3)(bg:y.Kind≠4):mU n b f y=b:=by unfold mU; rw[if_neg I,if_neg O,if_neg aH,if_neg bg]
theorem On{au:Nat}{o:bv}{i:Int}(k:kR o)(H:E A (b8 au o::m) w):M Pg 36 [.pointer (some ⟨au,0,none⟩),.int .i64 i] (B .i64) w fun r J=>r=(pB o i).2∧E A (b8 au (pB o i).1::m) J:=by
 obtain⟨p,am,H⟩:=kY H;refine aio ?_;unfold VT;refine b3 rfl ?_;refine aj (x:=some ⟨p.aY,0,none⟩) 0 H rfl rfl rfl ?_;refine ap (Post.SH (H.front 3) k.aY i) ?_;rintro r w ⟨rfl,H⟩;refine bH H fun Gd w H=>?_;refine cV (x:=k9) (S:=(o.aY.take i).2.1) wM 0 H rfl fun w H=>?_;by_cases bY:(o.aY.take i).2.2=0
 ·rw[if_neg (by simp[bY])];have xN:pB o i=m2 { o with aY:=(o.aY.take i).1 } (o.aY.take i).2.1.fv fun b=>(mU o.N.length b (o.aY.take i).2.1.fC (o.aY.take i).2.1.o,0):=by unfold pB; rw[if_neg (fun h=>h bY)]
  rw[xN];have BK:=k.lets _ (SG bY).1;generalize (o.aY.take i).2.1=x at *;generalize (o.aY.take i).1=En at *;refine aj (x:=x.fv) 0 H rfl rfl rfl ?_;have u1:oQ { o with aY:=En } p:=am;have H:E A (hB au { o with aY:=En } p (aI Gd (uE.cells x) 64::m)) w:=H.ord [2,3,4,1,5,6,0];refine ap (sB u1 k.len.2 H) ?_;rintro r w (⟨I,rfl,H⟩ | ⟨I,aZ,b,O,a5,a0,ag,rfl,H⟩)
  ·rw[if_pos (by simpa using I),vp I];exact⟨rfl,fE u1 (H.front 6).drop⟩
  ·rw[if_neg (by simp),pS O a0 ag];simp only at a0;have ok:=k.at a0;have g2:∀ (cC:bi) (w:World),cC=mU o.N.length b x.fC x.o→E A (j8 aZ cC::hP au { o with aY:=En } p x.fv.toNat (aI Gd (uE.cells x) 64::m)) w→xk w fun r J=>r=(0:Int)∧E A (b8 au (kK { o with aY:=En } x.fv.toNat (mU o.N.length b x.fC x.o))::m) J:=by
    intro cC w e H;subst e;unfold xk;obtain⟨br,H⟩:=rs u1 a5 H;exact⟨rfl,fE br (H.front 6).drop⟩
   refine aj (x:=x.o.Kind) 7 H rfl rfl rfl ?_;by_cases df:x.o.Kind=1
   ·rw[if_pos (by simpa using df)];refine aj (x:=x.fC) 7 H rfl rfl rfl ?_;refine aj (x:=x.o.Part) 7 H rfl rfl rfl ?_;refine ap (aqz (p:=x.o.Part) ok.ht (by have:=ok.out; omega) ⟨by simp,by simp,by have:=BK.id; simp only; omega,by have:=BK.ac; simp only; omega,by have:=BK.n; simp only; omega⟩ H) ?_;intro _ w H;exact g2 _ w (alQ df).symm H
   ·rw[if_neg (by simpa using df)];by_cases dT:x.o.Kind=2
    ·rw[if_pos (by simpa using dT)];refine aj (x:=x.fC) 7 H rfl rfl rfl ?_;refine aj (x:=x.o) 7 H rfl rfl rfl ?_;have aK:=gn (H.front 2);rw[List.length_map] at aK;have PN:p.Q.length=o.N.length:=by rw[← am.1,List.length_map]
     have yb:(iA { o with aY:=En } p).nodes.len=o.N.length:=by rw[← PN]; exact aK
     refine ap (aIv (c:=iA { o with aY:=En } p) (by have:=k.len.1; omega) ok.ht ok.lS ok.out (by have:=BK.id; omega) (H.ord [1,0])) ?_;intro _ w H;rw[yb] at H;exact g2 _ w (alS dT).symm (H.front 1)
    ·rw[if_neg (by simpa using dT)];by_cases gI:x.o.Kind=3
     ·rw[if_pos (by simpa using gI)];refine aj (x:=x.fC) 7 H rfl rfl rfl ?_;refine aj (x:=x.o) 7 H rfl rfl rfl ?_;refine ap (al8 ok.ht (by have:=ok.out; omega) (by have dh:=BK.id; have il:=BK.t; unfold q3; split<;>(constructor<;>(constructor<;>(simp only; omega)))) H) ?_;intro _ w H;exact g2 _ w (alP gI).symm H
     ·rw[if_neg (by simpa using gI)];by_cases jB:x.o.Kind=4
      ·rw[if_pos (by simpa using jB)];refine dg H fun w H=>?_;refine b3 rfl ?_;obtain⟨q,R,H⟩:=lP H;refine aj (x:=some q.jE) 0 H rfl rfl rfl ?_;refine aj (x:=x.o.Part.aD) 18 H rfl rfl rfl ?_;refine ap (SM (by have:=BK.id; omega) H) ?_;rintro r w ⟨rfl,H⟩;refine⟨bE ef H rfl rfl,?_⟩;refine l_ 8 H rfl rfl ?_;rw[show Int.tdiv (x.o.Part.aD+1) 2=gE x.o.Part.aD from rfl];have mW:mU o.N.length b x.fC x.o=xC b x.o:=alO jB;rcases al:b.P.lookup (gE x.o.Part.aD) with _ | pl
       ·rw[BZ (by rw[R.1]; exact al)];rw[if_neg (by simp)];exact g2 b w (by rw[mW]; unfold xC; rw[al]) (g7 R H)
       ·obtain⟨dF,e4,fe,e,dZ,H⟩:=Ag R al H;rw[e,if_pos (by simp)];refine aj (x:=x.o.Part.aD) 19 H rfl rfl rfl ?_;refine ap (K9 H) ?_;rintro r w ⟨_,H⟩;obtain⟨br,H⟩:=Cf R dZ H;exact g2 _ w (by rw[mW]; unfold xC; rw[al]) (g7 br H)
      ·rw[if_neg (by simpa using jB)];exact g2 b w (alR df dT gI jB).symm H
 ·rw[if_pos (by simpa using bY)];have xN:pB o i=(o,(o.aY.take i).2.2):=by unfold pB; rw[if_pos bY]
  rw[xN];have aQ:=aHW bY;have H:=H.drop;rw[aQ] at H;exact⟨rfl,fE am (H.ord [1,2,3])⟩
end
theorem akg{K:cJ}{n:Int}{av:List UInt8}(h:K.hz):(oq K n av).1.hz:=by
 unfold oq;by_cases c:0≤n
 ·refine I6 h fun aG g R=>?_;have I:=h.log g (List.mem_of_getElem? R);have e:Disk.sizeOf K n=g.l.length:=by unfold Disk.sizeOf; rw[if_pos c,R]
  rw[e] at aG;simp only[List.length_append];omega
 ·unfold j3;rw[if_pos (by omega)];exact h
theorem aHM{K:cJ}{n:Int}(h:K.hz):(oI K n).1.hz:=by
 unfold oI;refine I6 h fun aG g R=>?_;have I:=h.log g (List.mem_of_getElem? R);simp only;omega
theorem I_{K:cJ}{V:nm}{x:List UInt8}(h:K.hz):(gj K V x).1.hz:=by
 unfold gj;split
 ·exact h
 ·split
  ·exact h
  ·exact akg h
theorem LK{K:cJ}{V:nm}(h:K.hz):(gp K V).1.hz:=by
 unfold gp;split
 ·exact h
 ·exact aHM h
theorem Yk{K:cJ}{W:qR}{x:dI}(h:K.hz):(fN K W x).1.hz:=by
 unfold fN;split
 ·split
  ·exact I_ h
  ·exact I_ h
 ·exact h
theorem amd{K:cJ}{W:qR}{x:dI}(h:Fit W.v)(F:x.aD≤9223372036854775807):Fit (fN K W x).2.1.v:=by
 unfold fN;split
 ·split
  ·exact Y8 h F
  ·exact h
 ·exact h
def EC(b:bi)(z:cJ×qR×Int):bi×Int:=
 if z.2.2≠0 then ({ b with K:=z.1,W:=z.2.1 },z.2.2) else ({ b with K:=(gp z.1 z.2.1.V).1,W:=⟨(gp z.1 z.2.1.V).2.1,z.2.1.v⟩ },(gp z.1 z.2.1.V).2.2)
def yN(b:bi)(a n:Int)(s:hh×Int×Int×Int):bi×Int:=
 if s.2.2.2≠0 then ({ b with ax:=s.1,src:=s.2.1 },s.2.2.2) else EC { b with ax:=s.1,src:=s.2.1 } (fN b.K b.W ⟨1,s.2.2.1,0,a,n,false⟩)
def yO(b:bi)(a n:Int):bi×Int:=yN b a n (gw b.ax b.cv b.src [])
def vr(o:bv)(a n:Int):bv×Int:=if a<0∨4096≤a then (o,153) else m2 o (Int.tmod a o.N.length) fun b=>yO b a n
def B5(n:Nat)(b:bi)(x:om)(z:cJ×nm×Int):bi×Int:=
 if z.2.2≠0 then ({ b with K:=z.1,A:=z.2.1 },z.2.2) else ({ b with K:=z.1,A:=z.2.1,P:=b.P++[(x.aD,jD x)],out:=b.out++jL n (jD x) },0)
def s4(n:Nat)(b:bi)(x:om):bi×Int:=if (b.P.lookup x.aD).isSome=true then (b,204) else B5 n b x (gj b.K b.A (fF ⟨1,x,0⟩))
def pQ(o:bv)(x:om):bv×Int:=if jq x≠0 then (o,jq x) else m2 o (Int.tmod x.aD o.N.length) fun b=>s4 o.N.length b x
def rN(n:Nat)(b:bi)(id:Int):bi×Int:=match b.P.lookup id with
 |none=>(b,205)
 |some p=>if p.bV≠0 then (b,176) else nT n b id p 3 0
def xA(o:bv)(id:Int):bv×Int:=if id<1 then (o,205) else m2 o (Int.tmod id o.N.length) fun b=>rN o.N.length b id
section
variable {A w:World} {m bL:List bu}
theorem zD{au:Nat}{o:bv}{p:kf}(am:oQ o p)(H:E A (hB au o p m) w):(iA o p).nodes.len=o.N.length:=by
 have aK:=gn (H.front 1);rw[List.length_map] at aK;rw[← am.1,List.length_map];exact aK
theorem Ro{au:Nat}{o:bv}{a n:Int}(k:kR o)(aw:-9223372036854775808≤n∧n≤9223372036854775807)(H:E A (b8 au o::m) w):M Pg 44 [.pointer (some ⟨au,0,none⟩),.int .i64 a,.int .i64 n] (B .i64) w fun r J=>r=(vr o a n).2∧E A (b8 au (vr o a n).1::m) J:=by
 obtain⟨p,am,H⟩:=kY H;refine aix ?_;unfold V2 vr;by_cases c:a<0∨4096≤a
 ·rw[if_pos (by simp; omega),if_pos c];exact⟨rfl,fE am H⟩
 ·rw[if_neg (by simp; omega),if_neg c];have aK:=zD am H;refine ap (Eu (c:=iA o p) (by have:=k.len.1; omega) H) ?_;rintro r w ⟨rfl,H⟩;rw[aK];refine ap (sB am k.len.2 H) ?_;rintro r w (⟨I,rfl,H⟩ | ⟨I,aZ,b,O,a5,a0,ag,rfl,H⟩)
  ·rw[if_pos (by simpa using I),vp I];exact⟨rfl,fE am H⟩
  ·rw[if_neg (by simp),pS O a0 ag];have ok:=k.at a0;obtain⟨q,R,H⟩:=lP H;have fin:∀ (cC:bi) (gu:ky) (w:World),Fits cC gu→E A (eT aZ cC gu (hP au o p (Int.tmod a o.N.length).toNat m)) w→E A (b8 au (kK o (Int.tmod a o.N.length).toNat cC)::m) w:=by
    intro cC gu w R H;obtain⟨br,H⟩:=rs am a5 (g7 R H);exact fE br H
   have li:=Sy (aZ:=aZ) (c:=q.ax) (s:=q.src) (x:=n1 b q) (ax:=b.ax) (src:=b.src) (q:=fx) (h_:=[]) ok.ht.ax rfl rfl ok.ht.rd (by simp) LC (H.ord [0,1,3]);refine ap li ?_;clear li;rintro r w ⟨rfl,H⟩;have lK:=At (ax:=b.ax) (rd:=b.cv) (N:=[]) ok.ht.src.2;have es:gw b.ax (n1 b q).cv b.src []=gw b.ax b.cv b.src []:=rfl;rw[es] at H ⊢;have YM:yO b a n=yN b a n (gw b.ax b.cv b.src []):=rfl;rw[YM];clear YM es;generalize gw b.ax b.cv b.src []=ba at *;obtain⟨ha,jF,t,e⟩:=ba;simp only at H lK ⊢;have H:E A (eT aZ { b with ax:=ha,src:=jF } q (hP au o p (Int.tmod a o.N.length).toNat m)) w:=H.ord [0,1,3,2];by_cases ce:e=0
   ·subst ce;rw[if_neg (by simp)];have aR:=lK.2 rfl;refine b3 rfl ?_;refine aj (x:=some ⟨q.iJ,0,none⟩) 0 H rfl rfl rfl ?_;refine ap (DB (W:=b.W) ok.ht.K ok.ht.v (x:=⟨1,t,0,a,n,false⟩) ⟨by simp,by simp only; omega,by simp,by simp only; omega,aw⟩ (H.ord [4,5,6,2])) ?_;rintro r w ⟨rfl,H⟩;have aQ:yN b a n (ha,jF,t,0)=EC { b with ax:=ha,src:=jF } (fN b.K b.W ⟨1,t,0,a,n,false⟩):=by unfold yN; rw[if_neg (by simp)]
    rw[aQ];clear aQ;have ak:=Yk (x:=⟨1,t,0,a,n,false⟩) (W:=b.W) ok.ht.K;generalize fN b.K b.W ⟨1,t,0,a,n,false⟩=z at *;obtain⟨d_,iU,e⟩:=z;simp only at H ak ⊢;have H:E A (eT aZ { b with ax:=ha,src:=jF,K:=d_,W:=iU } q (hP au o p (Int.tmod a o.N.length).toNat m)) w:=H.ord [4,5,3,6,0,1,2];unfold EC;by_cases ce:e=0
    ·subst ce;rw[if_neg (by simp)];simp only[ne_eq,not_true_eq_false,if_false];refine aj (x:=some ⟨q.iJ,0,none⟩) 0 H rfl rfl rfl ?_;refine b3 rfl ?_;refine aj (x:=some ⟨q.e6,0,none⟩) 4 H rfl rfl rfl ?_;refine ap (SC ak (H.ord [5,2])) ?_;rintro r w ⟨rfl,H⟩;exact⟨rfl,fin { b with ax:=ha,src:=jF,K:=(gp d_ iU.V).1,W:=⟨(gp d_ iU.V).2.1,iU.v⟩ } q w R (H.ord [2,3,1,4,5,0])⟩
    ·rw[if_pos (by simpa using ce)];simp only[if_pos ce];exact⟨by trivial,fin { b with ax:=ha,src:=jF,K:=d_,W:=iU } q w R H⟩
   ·rw[if_pos (by simpa using ce)];have aQ:yN b a n (ha,jF,t,e)=({ b with ax:=ha,src:=jF },e):=by unfold yN; rw[if_pos ce]
    rw[aQ];exact⟨rfl,fin { b with ax:=ha,src:=jF } q w R H⟩
theorem abI{au:Nat}{o:bv}{x:om}(k:kR o)(H:E A (b8 au o::m) w):M Pg 45 [.pointer (some ⟨au,0,none⟩),gh.enc x] (B .i64) w fun r J=>r=(pQ o x).2∧E A (b8 au (pQ o x).1::m) J:=by
 obtain⟨p,am,H⟩:=kY H;refine aiy ?_;unfold V3 pQ;refine bH H fun iy w H=>?_;refine ec (x:=x) 0 H rfl ?_;refine ap (acJ H) ?_;rintro⟨gJ,bs⟩ w ⟨I,O⟩;by_cases cx:jq x=0
 ·obtain⟨aH,dF,bg,H⟩:=I cx;simp only at aH bg;subst aH; subst bg;rw[if_neg (by simp),if_neg (by simp[cx])];have F:=Ay cx;refine aj (x:=x.aD) 1 H rfl rfl rfl ?_;have H:E A (hB au o p (gB dF (jD x)::aI iy (gh.cells x) 31::m)) w:=H.ord [2,3,4,5,6,7,0,1];have aK:=zD am H;refine ap (Eu (c:=iA o p) (by have:=k.len.1; omega) H) ?_;rintro r w ⟨rfl,H⟩;rw[aK];refine ap (sB am k.len.2 H) ?_;rintro r w (⟨I,rfl,H⟩ | ⟨I,aZ,b,O,a5,a0,ag,rfl,H⟩)
  ·rw[if_pos (by simpa using I),vp I];exact⟨rfl,fE am ((H.ord [6,7]).drop.drop)⟩
  ·rw[if_neg (by simp),pS O a0 ag];have ok:=k.at a0;obtain⟨q,R,H⟩:=lP H;have fin:∀ (cC:bi) (gu:ky) (w:World),Fits cC gu→E A (eT aZ cC gu (hP au o p (Int.tmod x.aD o.N.length).toNat m)) w→E A (b8 au (kK o (Int.tmod x.aD o.N.length).toNat cC)::m) w:=by
    intro cC gu w R H;obtain⟨br,H⟩:=rs am a5 (g7 R H);exact fE br H
   refine dg H fun w H=>?_;refine b3 rfl ?_;refine aj (x:=some q.jE) 0 H rfl rfl rfl ?_;refine aj (x:=x.aD) 19 H rfl rfl rfl ?_;refine l_ 8 H rfl rfl ?_;rcases al:b.P.lookup x.aD with _ | pl
   ·rw[BZ (by rw[R.1]; exact al),if_neg (by simp)];refine dg H fun w H=>?_;refine aj (x:=some ⟨q.cs,0,none⟩) 0 H rfl rfl rfl ?_;refine aj (x:=x) 19 H rfl rfl (tA _) ?_;have jh:oR ⟨1,x,0⟩:=Eb (by omega) cx (by omega);refine ap (aee jh H) ?_;intro r w H;refine⟨bE aE (H.front 1) rfl rfl,?_⟩;have g1:=DG jh;refine ap (N3 (x:=fF ⟨1,x,0⟩) ok.ht.K (by omega) (dc.row (fun _=>rfl) 0 rfl) (H.ord [8,3])) ?_;rintro e w ⟨rfl,H⟩;refine⟨bE gh (H.front 20) rfl (tA _),?_⟩;have em:s4 o.N.length b x=B5 o.N.length b x (gj b.K b.A (fF ⟨1,x,0⟩)):=by unfold s4; rw[al,if_neg (by simp)]
    rw[em];clear em;generalize gj b.K b.A (fF ⟨1,x,0⟩)=z at *;obtain⟨d_,lB,e⟩:=z;simp only at H ⊢;unfold B5;by_cases ce:e=0
    ·subst ce;rw[if_neg (by simp)];simp only[ne_eq,not_true_eq_false,if_false];refine dg H fun w H=>?_;refine aj (x:=some q.jE) 3 H rfl rfl rfl ?_;refine aj (x:=x.aD) 20 H rfl rfl rfl ?_;refine r4 9 H rfl rfl fun w H=>?_;refine ap (N7 (c:=iA o p) (x:=n1 b q) (p:=jD x) (by have:=k.len.1; omega) (by show 0≤x.aD∧x.aD≤1000000000000; omega) (by have:=ok.out; omega) (H.ord [13,19,4,12])) ?_;rintro r w ⟨G,H⟩;rw[aK] at H;obtain⟨br,H⟩:=acF (b:={ b with K:=d_,A:=lB,out:=b.out++jL o.N.length (jD x) }) (q:={ q with out:=G }) R al (H.ord [1,2,8,6,9,10,11,12,5,4,13,14,3]);exact⟨by trivial,fin _ _ w br ((H.ord [13,19]).drop.drop)⟩
    ·rw[if_pos (by simpa using ce)];simp only[if_pos ce];exact⟨by trivial,fin { b with K:=d_,A:=lB } q w R (((H.ord [19,20,2]).drop.drop.drop).ord [2,3,1,4,5,6,7,0,8])⟩
   ·obtain⟨HO,e4,fe,e,dZ,H⟩:=Ag R al H;rw[e,if_pos (by simp)];have H:=EF dZ H;have em:s4 o.N.length b x=(b,204):=by unfold s4; rw[al,if_pos (by simp)]
    rw[em];exact⟨rfl,fin b q w R ((H.ord [18,19]).drop.drop)⟩
 ·obtain⟨aH,H⟩:=O cx;cases aH;rw[if_pos (by simpa using cx),if_pos cx];exact⟨rfl,fE am H.drop⟩
theorem ajX{au:Nat}{o:bv}{id:Int}(k:kR o)(H:E A (b8 au o::m) w):M Pg 52 [.pointer (some ⟨au,0,none⟩),.int .i64 id] (B .i64) w fun r J=>r=(xA o id).2∧E A (b8 au (xA o id).1::m) J:=by
 obtain⟨p,am,H⟩:=kY H;refine aiG ?_;unfold V_ xA;by_cases c:id<1
 ·rw[if_pos (by simpa using c),if_pos c];exact⟨rfl,fE am H⟩
 ·rw[if_neg (by simpa using c),if_neg c];have aK:=zD am H;refine ap (Eu (c:=iA o p) (by have:=k.len.1; omega) H) ?_;rintro r w ⟨rfl,H⟩;rw[aK];refine ap (sB am k.len.2 H) ?_;rintro r w (⟨I,rfl,H⟩ | ⟨I,aZ,b,O,a5,a0,ag,rfl,H⟩)
  ·rw[if_pos (by simpa using I),vp I];exact⟨rfl,fE am H⟩
  ·rw[if_neg (by simp),pS O a0 ag];have ok:=k.at a0;obtain⟨q,R,H⟩:=lP H;have fin:∀ (cC:bi) (w:World),E A (j8 aZ cC::hP au o p (Int.tmod id o.N.length).toNat m) w→E A (b8 au (kK o (Int.tmod id o.N.length).toNat cC)::m) w:=by
    intro cC w H;obtain⟨br,H⟩:=rs am a5 H;exact fE br H
   refine b3 rfl ?_;refine aj (x:=some q.jE) 0 H rfl rfl rfl ?_;refine l_ 8 H rfl rfl ?_;rcases al:b.P.lookup id with _ | pl
   ·rw[BZ (by rw[R.1]; exact al),if_pos (by simp)];have em:rN o.N.length b id=(b,205):=by unfold rN; rw[al]
    rw[em];exact⟨rfl,fin b w (g7 R H)⟩
   ·obtain⟨HO,e4,fe,e,dZ,H⟩:=Ag R al H;rw[e,if_neg (by simp)];refine ap (Ce H) ?_;rintro r w ⟨rfl,H⟩;simp only;by_cases bY:pl.bV=0
    ·rw[if_neg (by simp[bY])];have em:rN o.N.length b id=nT o.N.length b id pl 3 0:=by unfold rN; rw[al]; simp only; rw[if_neg (fun h=>h bY)]
     rw[em];refine ap (Oj (c:=iA o p) (k:=3) (t:=0) R dZ (by have:=k.len.1; omega) (ok.lS _ _ al).2 (.inr rfl) (by omega) (by have:=ok.out; omega) ok.ht.K (H.front 13)) ?_;rintro r w ⟨rfl,H⟩;rw[aK] at H ⊢;exact⟨rfl,fin _ w (H.front 1)⟩
    ·rw[if_pos (by simpa using bY)];have em:rN o.N.length b id=(b,176):=by unfold rN; rw[al]; simp only; rw[if_pos bY]
     rw[em];exact⟨rfl,fin b w (g7 R (EF dZ H))⟩
end
def sF(P:List (Int×bF))(x:Int):Bool:=match P.lookup x with
 |some p=>p.bV != 0
 |none=>false
def sj(aY:Post.dB)(i:Int)(out:List p5):Post.dB:=out.foldl (fun t s=>(t.send i s.h1 s.y).1) aY
def y2(b:bi)(l:cJ×nm×Int):bi×Int:=
 if l.2.2≠0 then ({ b with K:=l.1,A:=l.2.1 },l.2.2) else ({ b with K:=l.1,A:=l.2.1,out:=[],sure:=fun x=>b.sure x||sF b.P x },0)
def vD(b:bi)(a:cJ×nm×Int):bi×Int:=
 if a.2.2≠0 then ({ b with K:=a.1,W:=⟨a.2.1,b.W.v⟩ },a.2.2) else y2 { b with K:=a.1,W:=⟨a.2.1,b.W.v⟩ } (gp a.1 b.A)
def nd(b:bi):bi×Int:=vD b (gp b.K b.W.V)
def qz(o:bv)(i:Int):bv×Int:=
 if fP o i≠0 then (o,fP o i) else
  (if (m2 o i nd).2=0 then { (m2 o i nd).1 with aY:=sj o.aY i (((o.N[i.toNat]?).map bi.out).getD []) } else (m2 o i nd).1,(m2 o i nd).2)
theorem acN{b:Post.dB}{x:W3}(h:b.m.length≤1000):(b.put x).1.m.length≤1000:=by
 unfold Post.dB.put;split
 ·exact h
 ·simp; omega
theorem aGU{b:Post.dB}{f t:Int}{y:hI}(h:b.m.length≤1000):(b.send f t y).1.m.length≤1000:=by
 unfold Post.dB.send;split
 ·exact h
 ·split
  ·exact h
  ·exact acN h
theorem Sq{i:Int}:∀ {out:List p5} {b:Post.dB},b.m.length≤1000→(sj b i out).m.length≤1000
 |[],_,h=>h
 |s::out,b,h=>Sq (out:=out) (aGU h)
theorem z8{ep:Type}:∀ {N:List (Int×ep)} {k:Int} {v:ep},(N.map (·.1)).Nodup→(k,v)∈N→N.lookup k=some v
 |[],_,_,_,h=>by cases h
 |(a,l)::N,k,v,aK,h=>by
  simp only[List.map_cons,List.nodup_cons] at aK;simp only[List.lookup];rcases List.mem_cons.1 h with h | h
  ·cases h; simp
  ·have:k≠a:=fun e=>aK.1 (List.mem_map.2 ⟨(k,v),h,e⟩);have e:(k==a)=false:=by simpa using this
   rw[e];exact z8 aK.2 h
theorem abf(Q:List (Int×Nat×bF)):(Q.map iR).map (·.1)=(Q.map qm).map (·.1):=by simp[List.map_map,Function.comp_def,iR,qm]
theorem al7{Q:List (Int×Nat×bF)}{x:Int}(h:sF (Q.map qm) x=true):((Q.map iR).any fun t=>t.1==x)=true:=by
 unfold sF at h;rcases al:(Q.map qm).lookup x with _ | p
 ·rw[al] at h; cases h
 ·obtain⟨e4,fe,dF,rfl,_⟩:=vj al;rw[List.any_eq_true];exact⟨iR (x,dF,p),List.mem_map.2 ⟨_,by simp,rfl⟩,by simp[iR]⟩
section
variable {A w:World} {m bL:List bu}
theorem SB{au:Nat}{o:bv}{i:Int}(k:kR o)(H:E A (b8 au o::m) w):M Pg 35 [.pointer (some ⟨au,0,none⟩),.int .i64 i] (B .i64) w fun r J=>r=(qz o i).2∧E A (b8 au (qz o i).1::m) J:=by
 obtain⟨p,am,H⟩:=kY H;refine ain ?_;unfold VS;refine ap (sB am k.len.2 H) ?_;rintro r w (⟨I,rfl,H⟩ | ⟨I,aZ,b,O,a5,a0,ag,rfl,H⟩)
 ·rw[if_pos (by simpa using I)];have e:qz o i=(o,fP o i):=by unfold qz; rw[if_pos I]
  rw[e];exact⟨rfl,fE am H⟩
 ·rw[if_neg (by simp)];have ok:=k.at a0;have es:qz o i=(if (nd b).2=0 then { kK o i.toNat (nd b).1 with aY:=sj o.aY i b.out } else kK o i.toNat (nd b).1,(nd b).2):=by
   unfold qz;rw[if_neg (fun h=>h I),pS O a0 ag,a0];rfl
  rw[es];clear es;obtain⟨q,R,H⟩:=lP H;have fin:∀ (cC:bi) (gu:ky) (w:World),Fits cC gu→E A (eT aZ cC gu (hP au o p i.toNat m)) w→E A (b8 au (kK o i.toNat cC)::m) w:=by
   intro cC gu w R H;obtain⟨br,H⟩:=rs am a5 (g7 R H);exact fE br H
  refine b3 rfl ?_;refine aj (x:=some ⟨q.iJ,0,none⟩) 0 H rfl rfl rfl ?_;refine b3 rfl ?_;refine aj (x:=some ⟨q.e6,0,none⟩) 4 H rfl rfl rfl ?_;refine ap (SC ok.ht.K (H.ord [5,2])) ?_;rintro r w ⟨rfl,H⟩;have ak:=LK (V:=b.W.V) ok.ht.K;have aQ:nd b=vD b (gp b.K b.W.V):=rfl;rw[aQ];clear aQ;generalize gp b.K b.W.V=a at *;obtain⟨vT,pv,e⟩:=a;simp only at H ak ⊢;have H:E A (eT aZ { b with K:=vT,W:=⟨pv,b.W.v⟩ } q (hP au o p i.toNat m)) w:=H.ord [2,3,1,4,5,0];by_cases ce:e=0
  ·subst ce;rw[if_neg (by simp)];have aQ:vD b (vT,pv,0)=y2 { b with K:=vT,W:=⟨pv,b.W.v⟩ } (gp vT b.A):=by unfold vD; rw[if_neg (by simp)]
   rw[aQ];clear aQ;refine aj (x:=some ⟨q.cs,0,none⟩) 0 H rfl rfl rfl ?_;refine ap (SC ak (H.ord [7,2])) ?_;rintro r w ⟨rfl,H⟩;generalize gp vT b.A=l at *;obtain⟨kS,uF,e⟩:=l;simp only at H ⊢;have H:E A (eT aZ { b with K:=kS,W:=⟨pv,b.W.v⟩,A:=uF } q (hP au o p i.toNat m)) w:=H.ord [2,3,1,4,5,6,7,0];by_cases ce:e=0
   ·subst ce;rw[if_neg (by simp)];have aQ:y2 { b with K:=vT,W:=⟨pv,b.W.v⟩ } (kS,uF,0)=({ b with K:=kS,W:=⟨pv,b.W.v⟩,A:=uF,out:=[],sure:=fun x=>b.sure x||sF b.P x },0):=by unfold y2; rw[if_neg (by simp)]
    rw[aQ];clear aQ;simp only[if_true];refine aj (x:=q.out) 0 H rfl rfl rfl ?_;have BM:=ok.out;have g1:=gn (H.front 11);refine hU (fun t w=>∃ n:Nat,t=(n:Int)∧n≤b.out.length∧E A (eT aZ { b with K:=kS,W:=⟨pv,b.W.v⟩,A:=uF } q (hP au { o with aY:=sj o.aY i (b.out.take n) } p i.toNat m)) w) (fun t=>(b.out.length-t).toNat) ⟨0,rfl,by omega,H⟩ ?_;clear H;rintro t w ⟨n,rfl,aK,H⟩ aa b2;unfold M7;rw[g1];split
    ·rename_i U;have U:n<b.out.length:=by
      have:(n:Int)<b.out.length:=by simpa using U
      omega
     have aQ:IntKind.i64.wrap ((n:Int)+1)=((n+1:Nat):Int):=by rw[wrap_i64 (by omega) (by omega)]; omega
     obtain⟨a,Y⟩:=kI (i:=(n:Int)) (H.front 11) (by omega) (by simp only; omega);have F:b.out[((n:Int)).toNat]?=some (b.out[n]'U):=by rw[Int.toNat_natCast]; exact List.getElem?_eq_getElem U
     have iC:b.out.take (n+1)=b.out.take n++[b.out[n]'U]:=List.take_succ_eq_append_getElem U;generalize b.out[n]'U=s at F iC;refine aO a Y ?_;refine aO s (mh (fun _=>rfl) Y F (H.front 11)) ?_;refine bH H fun aJA w H=>?_;refine cV (x:=NU) (S:=s) abw 0 H rfl fun w H=>?_;refine dg H fun w H=>?_;refine b3 rfl ?_;refine aj (x:=some ⟨p.aY,0,none⟩) 13 H rfl rfl rfl ?_;refine aj (x:=s.h1) 0 H rfl rfl rfl ?_;refine aj (x:=s.y) 0 H rfl rfl rfl ?_;refine ap (Post.aGW (H.front 16) (Sq k.aY) i s.h1 s.y) ?_;rintro r w ⟨_,H⟩;rw[aQ];refine b2 _ _ ⟨n+1,rfl,by omega,?_⟩ (by omega);have a6:sj o.aY i (b.out.take (n+1))=((sj o.aY i (b.out.take n)).send i s.h1 s.y).1:=by rw[iC]; unfold sj; rw[List.foldl_append]; rfl
     rw[a6];exact (H.front 1).drop.ord [1,2,3,4,5,6,7,8,9,10,11,12,13,14,15,0]
    ·rename_i U;have U:n=b.out.length:=by
      have:¬ (n:Int)<b.out.length:=by simpa using U
      omega
     subst U;rw[List.take_length] at H;refine dx (x:=fx) 0 H rfl rfl (Nat.le_of_ble_eq_true rfl) fun w H=>?_;have H:=kJ mz 161 8 H;have H:E A (eT aZ { b with K:=kS,W:=⟨pv,b.W.v⟩,A:=uF,out:=[] } { q with out:=fx } (hP au { o with aY:=sj o.aY i b.out } p i.toNat m)) w:=(H.ord [1,2,3,4,5,6,7,8,9,10,11,0,12]).ord [0,1,2,3,4,5,6,7,8,9,10,11] |> fun H=>((H.front 12).drop)
     refine aj (x:=some q.jE) 0 H rfl rfl rfl ?_;refine Sj 8 H rfl rfl fun it w H=>?_
     refine Ek (fun n _ w=>∃ left jM Cy,n=left.length∧(∀ x∈left,x∈q.Q.map iR)∧(left.map (·.1)).Nodup∧(∀ x,(List.lookup x Cy).isSome=(b.sure x||(sF b.P x&&!(left.any fun t=>t.1==x)))) ∧
      E A (rv aE .i64 q.jE it (q.Q.map iR) left jM::aI aZ (j1.cells (n1 { b with K:=kS,W:=⟨pv,b.W.v⟩,A:=uF,out:=[] } { q with out:=fx })) 101::j4 q.ax b.ax::er q.d kS::oH q.src b.src::kt q.iJ q.e6 q.dn::h4 q.e6 q.d pv::eQ q.dn b.W.v::h4 q.cs q.d uF::dt (q.Q.map lR)::cZ fm .i64 q.pi Cy::row mz 161 8 fx []::hP au { o with aY:=sj o.aY i b.out } p i.toNat m) w) (q.Q.map iR).length ⟨q.Q.map iR,none,q.qx,rfl,fun x h=>h,R9 H,fun x=>?_,H⟩ ?_
     ·rw[R.2 x];cases BE:sF b.P x with
      |false=>simp
      |true=>
       rw[← R.1] at BE;rw[al7 BE];simp
     clear H;rintro n _ w ⟨left,jM,Cy,rfl,BN,lh,aG,H⟩ aa b2;have ra:=R9 H;unfold M8;refine Rc 0 H rfl rfl (fun he H=>?_) fun x F w H=>?_
     ·subst he;rw[if_neg (by simp)];have H:=HZ H;have iZ:Fits { b with K:=kS,W:=⟨pv,b.W.v⟩,A:=uF,out:=[],sure:=fun x=>b.sure x||sF b.P x } { q with out:=fx,qx:=Cy }:=⟨R.1,fun x=>by show (List.lookup x Cy).isSome=_; rw[aG x]; simp⟩
      obtain⟨br,H⟩:=rs (o:={ o with aY:=sj o.aY i b.out }) am a5 (g7 iZ (H.ord [1,2,3,4,5,6,7,8,0,9,10,11]));exact⟨by trivial,fE br H⟩
     ·rw[if_pos (by simp)];refine OJ 0 H rfl rfl ?_;obtain⟨t,aR,aq9⟩:=List.mem_map.1 (BN x F);obtain⟨id,dF,pl⟩:=t;subst aq9;obtain⟨D,bI,apv⟩:=List.getElem_of_mem aR;have Pz:q.Q[D]?=some (id,dF,pl):=by rw[← apv]; exact List.getElem?_eq_getElem bI
      have l9:b.P.lookup id=some pl:=by
       rw[← R.1];exact z8 (by rw[← abf]; exact ra) (List.mem_map.2 ⟨_,aR,rfl⟩)
      have H:=YY (f:=lR) Pz (H.front 9);refine ap (Ce H) ?_;rintro r w ⟨rfl,H⟩;have aq2:q.Q.set D (id,dF,pl)=q.Q:=by
       obtain⟨aN,aS,xV,rfl⟩:=CB Pz;rw[xV,LD]
      have H:=ON (f:=lR) Pz (hQ:=(id,dF,pl)) H;rw[aq2] at H;have ZW:((left.filter fun t=>t.1 != id).map (·.1)).Nodup:=lh.sublist (List.filter_sublist.map _);have dv:(left.filter fun t=>t.1 != id).length<left.length:=by
       refine List.length_filter_lt_length_iff_exists.2 ⟨_,F,?_⟩;simp[iR]
      have ZF:∀ S,S≠id→((left.filter fun t=>t.1 != id).any fun t=>t.1==S)=left.any fun t=>t.1==S:=by
       intro S aB;rw[List.any_filter];congr 1;funext t;by_cases e:t.1=S
       ·subst e; simp[aB]
       ·have:(t.1==S)=false:=by simpa using e
        rw[this]; simp
      have u7:((left.filter fun t=>t.1 != id).any fun t=>t.1==id)=false:=by
       rw[List.any_filter,List.any_eq_false];intro t _;simp
      by_cases bY:pl.bV=0
      ·rw[if_neg (by simp[bY])];refine b2 _ () w dv ⟨left.filter fun t=>t.1 != id,some (id,some ⟨dF,0,none⟩),Cy,rfl,fun S aB=>BN S (List.mem_filter.1 aB).1,ZW,fun S=>?_,H.ord [1,2,3,4,5,6,7,8,9,0]⟩;rw[aG S];by_cases e:S=id
       ·subst e;have:sF b.P S=false:=by unfold sF; rw[l9]; simp[bY]
        rw[this]; simp
       ·rw[ZF S e]
      ·rw[if_pos (by simpa using bY)];refine aj (x:=some q.pi) 2 H rfl rfl rfl ?_;refine r4 10 H rfl rfl fun w H=>?_;refine b2 _ () w dv ⟨left.filter fun t=>t.1 != id,some (id,some ⟨dF,0,none⟩),eH id ⟨⟩ Cy,rfl,fun S aB=>BN S (List.mem_filter.1 aB).1,ZW,fun S=>?_,H.ord [2,3,4,5,6,7,8,9,10,1,0]⟩;rw[sZ];by_cases e:S=id
       ·subst e;have:sF b.P S=true:=by unfold sF; rw[l9]; simpa using bY
        rw[this,u7]; simp
       ·have a6:(S==id)=false:=by simpa using e
        rw[a6,ZF S e];simp only[Bool.false_eq_true,if_false];exact aG S
   ·rw[if_pos (by simpa using ce)];have aQ:y2 { b with K:=vT,W:=⟨pv,b.W.v⟩ } (kS,uF,e)=({ b with K:=kS,W:=⟨pv,b.W.v⟩,A:=uF },e):=by unfold y2; rw[if_pos ce]
    rw[aQ];simp only[if_neg ce];exact⟨by trivial,fin { b with K:=kS,W:=⟨pv,b.W.v⟩,A:=uF } q w R H⟩
  ·rw[if_pos (by simpa using ce)];have aQ:vD b (vT,pv,e)=({ b with K:=vT,W:=⟨pv,b.W.v⟩ },e):=by unfold vD; rw[if_pos ce]
   rw[aQ];simp only[if_neg ce];exact⟨by trivial,fin { b with K:=vT,W:=⟨pv,b.W.v⟩ } q w R H⟩
end
end Cluster
namespace bb
open Go.RowKit Go.Maps Go.Sort Go.Shelf Go.WideElems
section
variable {A w:World} {m:List bu} {Z:Type} {T:bn Z}
theorem aHn{r eM:Nat}{es:List (Int×Z)}(ab:∀ p∈es,-9223372036854775808≤p.1∧p.1≤9223372036854775807)(hm:es.length≤1000000)(H:E A (aI eM [.map (some r)] 97::cZ T .i64 r es::m) w) :
  M Pg 59 [.func (.func 176) #[] #[.pointer (some ⟨eM,0,none⟩)]] X w fun s J=>∃ fw:List Int,fw.Perm (es.map (·.1)) ∧
   E A (row (B .i64) 3 1 s (fw.mergeSort fun x S=>decide (x≤S))::aI eM [.map (some r)] 97::cZ T .i64 r es::m) J:=by
 obtain⟨arr,c,I,ao,O,g4⟩:=yF (H.front 1);have cn:=g4.get;obtain⟨ni,G2,G3,zY⟩:=Ru (k:=3) Tryz.underlying3 ab (by omega) I ao O cn;have zN:=H.get;have dv:eM<w.heap.size:=(Array.getElem?_eq_some_iff.1 zN).1;have G7:=AnyZI.keys_gives (ρ:=Tryz.abe) { Tryz.aBz with } Fence.wide (5-1-1-1) trivial rfl (by omega) eM r arr.size ni w dv (by rw[uO zN]; rfl) G2;have wg:=AnyZI.sorted_in Tryz.Sv Fence.wide 5 trivial trivial trivial trivial rfl (by omega) (Sw _) (enters_of Tryz.func109 (by kernel_rfl) rfl) 176 #[.pointer (some ⟨eM,0,none⟩)] trivial (enters_of Tryz.func176 (by kernel_rfl) rfl) _ (Maps.size ni) (by rw[zY]; exact Nat.le_trans hm (Nat.le_of_ble_eq_true rfl)) (by rw[zY]; omega) w G7;change CallsIn _ _ Pg 59 _ _ _ at wg;refine (callsIn_wide (n:=5)).1 (wg.mono ?_);rintro e J ⟨v,nc,rfl,eX,u_,aaa,GJ⟩
 have u_:J.ownsRow w.heap.size 3 1 v nc.length ((nc.mergeSort fun x S=>decide (x≤S)).flatMap (B .i64).cells):=by
  have e:(nc.mergeSort fun x S=>decide (x≤S)).flatMap (B .i64).cells=(nc.mergeSort fun x S=>decide (x≤S)).map encZ:=by
   generalize nc.mergeSort (fun x S=>decide (x≤S))=q;induction q with
   |nil=>rfl
   |cons x q b_=>rw[List.flatMap_cons,b_]; rfl
  rw[e]; exact u_
 obtain⟨s,aG,AW⟩:=H.ownsRow (T:=B .i64) (fun _=>rfl) (by rw[List.length_mergeSort]) GJ u_;exact⟨s,aG,nc,eX.trans G3,AW⟩
end
end bb
namespace Cluster
open bb Wire Disk Vault Clock Shard Num Store
def eS(P:List (Int×bF)):List Int:=oG (P.map (·.1))
def qi(n:Nat)(P:List (Int×bF))(ids:List Int):List p5:=ids.flatMap fun id=>match P.lookup id with
 |some p=>jL n p
 |none=>[]
def rW(n:Nat)(v:c4):List p5:=(gl v).map fun h=>⟨Int.tmod (gE h.Part.aD) n,rC h.Part.aD true h.bW⟩
def HE(n:Nat)(b:bi):bi:={ b with out:=b.out++qi n b.P (eS b.P)++rW n b.W.v }
def t_(o:bv)(i:Int):bv×Int:=m2 o i fun b=>(HE o.N.length b,0)
theorem N6(n:Nat)(P:List (Int×bF))(ids:List Int):(qi n P ids).length≤2*ids.length:=by
 unfold qi;induction ids with
 |nil=>simp
 |cons id ids b_=>
  rw[List.flatMap_cons,List.length_append,List.length_cons]
  have:(match P.lookup id with
   |some p=>jL n p
   |none=>[]).length≤2:=by
   split
   ·exact Gb n _
   ·simp
  omega
theorem aEL{b:bi}(h:sv b.P)(aK:(b.P.map (·.1)).Nodup):∀ e∈b.P,1≤e.1∧e.1≤1000000:=by
 intro e he;obtain⟨I,O⟩:=h e.1 e.2 (z8 aK he);have:=Ay O;omega
section
variable {A w:World} {m bL:List bu}
theorem aHx{aZ:Nat}{b:bi}{q:ky}{aN:bu}{N:List bu}(H:E A (eT aZ b q (aN::(N++m))) w):E A (eT aZ b q (N++aN::m)) w:=H.perm (List.Perm.append_left (eT aZ b q []) List.perm_middle.symm)
theorem aeQ{aZ:Nat}{b:bi}{q:ky}{aN:bu}{N:List bu}(H:E A (eT aZ b q (N++aN::m)) w):E A (aN::eT aZ b q (N++m)) w:=
 (H.perm (List.Perm.append_left (eT aZ b q []) List.perm_middle)).ord [12]
theorem Yr{aZ:Nat}{hE:cc}(su:Nat→bi)(C5:Nat→List bu){P:List (Int×bF)}{q:ky}(fg:∀ k,(su k).P=P)(di:sv P)(sQ:P.length≤1000000)
  (step : ∀ (k : Nat) (id : Int) (p : bF) (m : List bu) (q : ky) (w : World) (dF : Nat), (eS P)[k]? = some id → P.lookup id = some p → (q.Q.map iR).lookup id = some (some (⟨dF, 0, none⟩ : Addr)) → Fits (su k) q → E A (eT aZ (su k) q (C5 k ++ m)) w →
   sE Pg hE [.int .i64 id,.pointer (some ⟨dF,0,none⟩)] dU w fun _ J=>∃ gu,Fits (su (k+1)) gu∧E A (eT aZ (su (k+1)) gu (C5 (k+1)++m)) J)
  (am:Fits (su 0) q) (H:E A (eT aZ (su 0) q (C5 0++m)) w) :
  M Pg 74 [.pointer (some ⟨aZ,0,none⟩),hE.enc] dU w fun _ J=>∃ gu,Fits (su (eS P).length) gu∧E A (eT aZ (su (eS P).length) gu (C5 (eS P).length++m)) J:=by
 refine ai3 ?_;unfold Wu;refine b3 rfl ?_;refine aj (x:=some q.jE) 0 H rfl rfl rfl ?_;refine ago ?_;unfold TT;refine bH H fun eM w H=>?_;have lh:=Hw (H.front 9);have ZU:q.Q.map qm=P:=by rw[am.1,fg]
 have rX:(q.Q.map iR).map (·.1)=P.map (·.1):=by rw[abf,ZU]
 have Z_:(P.map (·.1)).Nodup:=by rw[← rX]; exact lh
 have aJ5:(q.Q.map iR).length=P.length:=by rw[← ZU]; simp
 have G5:∀ e∈q.Q.map iR,-9223372036854775808≤e.1∧e.1≤9223372036854775807:=by
  intro e he;have:e.1∈P.map (·.1):=by rw[← rX]; exact List.mem_map.2 ⟨e,he,rfl⟩
  obtain⟨hQ,ox,I⟩:=List.mem_map.1 this;have:=aEL (b:=su 0) (by rw[fg]; exact di) (by rw[fg]; exact Z_) hQ (by rw[fg]; exact ox);omega
 refine ap (aHn G5 (by omega) (H.ord [0,9])) ?_;rintro s w ⟨fw,aF,H⟩;have a5:(fw.mergeSort fun x S=>decide (x≤S))=eS P:=by unfold eS; rw[← rX]; exact St aF
 rw[a5] at H;have aG:=gn H;have wz:(eS P).length≤1000000:=by unfold eS; rw[(n_ _).length_eq,List.length_map]; omega
 have sU:∀ id∈eS P,∃ p,P.lookup id=some p:=by
  intro id hF;have:=(n_ (P.map (·.1))).mem_iff.1 hF;obtain⟨e,he,rfl⟩:=List.mem_map.1 this;exact⟨e.2,z8 Z_ he⟩
 have H:E A (eT aZ (su 0) q (row (B .i64) 3 1 s (eS P)::(C5 0++m))) w:=(H.ord [1]).drop.ord [2,3,4,5,6,7,8,9,1,10,11,12,0];have H:=aHx H;refine hU (fun t w=>∃ k:Nat,t=(k:Int)∧k≤(eS P).length∧∃ q,Fits (su k) q∧E A (eT aZ (su k) q (C5 k++row (B .i64) 3 1 s (eS P)::m)) w) (fun t=>((eS P).length-t).toNat) ⟨0,rfl,by omega,q,am,H⟩ ?_;clear H;rintro t w ⟨k,rfl,aq,q,am,H⟩ aa b2;unfold Np;rw[aG];split
 ·rename_i U;have U:k<(eS P).length:=by
   have:(k:Int)<(eS P).length:=by simpa using U
   omega
  have aQ:IntKind.i64.wrap ((k:Int)+1)=((k+1:Nat):Int):=by rw[wrap_i64 (by omega) (by omega)]; omega
  have gV:=aeQ H;obtain⟨a,Y⟩:=kI (i:=(k:Int)) gV (by omega) (by omega);have F:(eS P)[((k:Int)).toNat]?=some ((eS P)[k]'U):=by rw[Int.toNat_natCast]; exact List.getElem?_eq_getElem U
  obtain⟨p,aF⟩:=sU _ (List.getElem_mem U);have wA:(eS P)[k]?=some ((eS P)[k]'U):=List.getElem?_eq_getElem U;generalize (eS P)[k]'U=id at F aF wA;refine aO a Y ?_;refine aO id (mh (fun _=>rfl) Y F gV) ?_;refine aj (x:=some q.jE) 0 H rfl rfl rfl ?_;refine l_ 8 H rfl rfl ?_;obtain⟨e4,fe,dF,dZ,al⟩:=vj (Q:=q.Q) (id:=id) (p:=p) (by rw[am.1,fg]; exact aF);rw[al];refine Oi (step k id p _ q w dF wA aF al am H) ?_;rintro _ w ⟨f_,yc,H⟩;rw[aQ];exact b2 _ _ ⟨k+1,rfl,by omega,f_,yc,H⟩ (by omega)
 ·rename_i U;have U:k=(eS P).length:=by
   have:¬ (k:Int)<(eS P).length:=by simpa using U
   omega
  subst U;exact⟨q,am,(aeQ H).drop⟩
theorem aC3{n:Nat}{P:List (Int×bF)}{ids:List Int}{k:Nat}{id:Int}{p:bF}(h:ids[k]?=some id)(aF:P.lookup id=some p):qi n P (ids.take (k+1))=qi n P (ids.take k)++jL n p:=by
 have aq:=(List.getElem?_eq_some_iff.1 h).1;rw[List.take_succ_eq_append_getElem aq,(List.getElem?_eq_some_iff.1 h).2];unfold qi;rw[List.flatMap_append,List.flatMap_cons,List.flatMap_nil,List.append_nil,aF]
theorem abR{au:Nat}{o:bv}{i:Int}(k:kR o)(H:E A (b8 au o::m) w):M Pg 34 [.pointer (some ⟨au,0,none⟩),.int .i64 i] (B .i64) w fun r J=>r=(t_ o i).2∧E A (b8 au (t_ o i).1::m) J:=by
 obtain⟨p,am,H⟩:=kY H;refine aim ?_;unfold VR t_;refine bH H fun aA w H=>?_;refine aj (x:=(some ⟨au,0,none⟩:Option Addr)) 0 H rfl rfl rfl ?_;have H:E A (hB au o p (aI aA (aE.cells (some ⟨au,0,none⟩)) 26::m)) w:=H.ord [1,2,3,4,5,6,0];have ZM:=zD am H;refine ap (sB am k.len.2 H) ?_;rintro r w (⟨I,rfl,H⟩ | ⟨I,aZ,b,O,a5,a0,ag,rfl,H⟩)
 ·refine bH H fun cH w H=>?_;refine dx (x:=(none:Option Addr)) 0 H rfl rfl (Nat.le_of_ble_eq_true rfl) fun w H=>?_;rw[if_pos (by simpa using I),vp I];exact⟨rfl,fE am ((H.front 7).drop.drop)⟩
 ·refine bH H fun cH w H=>?_;refine dx (x:=(some ⟨aZ,0,none⟩:Option Addr)) 0 H rfl rfl (Nat.le_of_ble_eq_true rfl) fun w H=>?_;rw[if_neg (by simp),pS O a0 ag];have ok:=k.at a0;refine aj (x:=(some ⟨aZ,0,none⟩:Option Addr)) 0 H rfl rfl rfl ?_;obtain⟨q,R,H⟩:=lP (H.front 1);have H:E A (eT aZ { b with out:=b.out++qi o.N.length b.P ((eS b.P).take 0) } q ([aI cH (aE.cells (some ⟨aZ,0,none⟩)) 89,aI aA (aE.cells (some ⟨au,0,none⟩)) 26,aI au (gG.cells (iA o p)) 114]++(row aE 89 1 p.nodes (p.Q.map kE)::dt ((p.Q.eraseIdx i.toNat).map hj)::Post.hJ p.aY o.aY::cZ fm .i64 p.kD p.rn::row kh 53 3 p.told o.told::m))) w:=by
   have e:b.out++qi o.N.length b.P ((eS b.P).take 0)=b.out:=by rw[List.take_zero]; exact List.append_nil _
   rw[e];exact H.ord [0,1,2,3,4,5,6,7,8,9,10,11,12,19]
  refine ap (Yr (hE:=cc.mk (.func 75) (List.toArray []) (List.toArray [.pointer (some ⟨aA,0,none⟩),.pointer (some ⟨cH,0,none⟩)])) (P:=b.P) (fun D=>{ b with out:=b.out++qi o.N.length b.P ((eS b.P).take D) }) (fun _=>[aI cH (aE.cells (some ⟨aZ,0,none⟩)) 89,aI aA (aE.cells (some ⟨au,0,none⟩)) 26,aI au (gG.cells (iA o p)) 114]) (fun _=>rfl) ok.lS ok.lG ?_ R H) ?_
  ·intro D id pl m q w dF bI al l9 R H;refine⟨75,[],[.pointer (some ⟨aA,0,none⟩),.pointer (some ⟨cH,0,none⟩)],rfl,anl,?_⟩;refine ai4 ?_;unfold Wv;refine aj (x:=(some ⟨au,0,none⟩:Option Addr)) 13 H rfl rfl rfl ?_;refine aj (x:=(some ⟨aZ,0,none⟩:Option Addr)) 12 H rfl rfl rfl ?_;obtain⟨HO,e4,fe,e,dZ,H⟩:=Ag R (id:=id) (p:=pl) al H;have:HO=dF:=by rw[e] at l9; cases l9; rfl
   subst this;have F:=Ay (ok.lS _ _ al).2;have aJ3:=(List.getElem?_eq_some_iff.1 bI).1;have sQ:=ok.lG;have sV:(eS b.P).length≤1000000:=by unfold eS; rw[(n_ _).length_eq,List.length_map]; exact sQ
   have aqB:=ok.out;have BM:(b.out++qi o.N.length b.P ((eS b.P).take D)).length≤900000000000:=by
    have:=N6 o.N.length b.P ((eS b.P).take D);rw[List.length_take] at this;rw[List.length_append]; omega
   refine ap (N7 (c:=iA o p) (by have:=k.len.1; omega) (by omega) BM (H.ord [15,0,1,12])) ?_;rintro _ w ⟨G,H⟩;rw[ZM] at H;refine⟨{ q with out:=G },R,?_⟩;have a6:b.out++qi o.N.length b.P ((eS b.P).take (D+1))=b.out++qi o.N.length b.P ((eS b.P).take D)++jL o.N.length pl:=by rw[aC3 bI al,List.append_assoc]
   rw[a6];exact EF (q:={ q with out:=G }) dZ (H.ord [1,2,4,5,6,7,8,9,10,11,12,13,3,14,15,0])
  ·rintro _ w ⟨f_,kp,H⟩;simp only[List.take_length] at kp H;have sQ:=ok.lG;have sV:(eS b.P).length≤1000000:=by unfold eS; rw[(n_ _).length_eq,List.length_map]; exact sQ
   have aqB:=ok.out;have mB:=N6 o.N.length b.P (eS b.P);have Z9:HE o.N.length b={ b with out:=b.out++qi o.N.length b.P (eS b.P)++rW o.N.length b.W.v }:=rfl;rw[Z9];clear Z9;generalize tM:b.out++qi o.N.length b.P (eS b.P)=NO at *;have aJX:NO.length≤800002000000:=by rw[← tM,List.length_append]; omega
   refine aj (x:=(some ⟨aZ,0,none⟩:Option Addr)) 12 H rfl rfl rfl ?_;refine b3 rfl ?_;refine aj (x:=some ⟨f_.iJ,0,none⟩) 0 H rfl rfl rfl ?_;refine ap (y7 (H.front 4)) ?_;rintro r w ⟨rfl,H⟩;refine ap (ZT ok.ht.v (H.front 6)) ?_;intro r w H;have ab:=gn H;have apq:=Ps ok.ht.v;have H:=(H.ord [3,4,5,6,2,7,1,8,9,10,11,12])
   have H:=(g7 (b:={ b with out:=NO }) kp H)
   have aJ7:(rW o.N.length b.W.v).length=(gl b.W.v).length:=by unfold rW; rw[List.length_map]
   refine hU (fun t w=>∃ D:Nat,t=(D:Int)∧D≤(gl b.W.v).length∧E A (j8 aZ { b with out:=NO++(rW o.N.length b.W.v).take D }::row k8 135 6 r (gl b.W.v)::aI cH (aE.cells (some ⟨aZ,0,none⟩)) 89::aI aA (aE.cells (some ⟨au,0,none⟩)) 26::hP au o p i.toNat m) w) (fun t=>((gl b.W.v).length-t).toNat) ⟨0,rfl,by omega,by rw[List.take_zero,List.append_nil]; exact H⟩ ?_;clear H;rintro t w ⟨D,rfl,bI,H⟩ aa b2;unfold M6;rw[ab];split
   ·rename_i U;have U:D<(gl b.W.v).length:=by
     have:(D:Int)<(gl b.W.v).length:=by simpa using U
     omega
    have aQ:IntKind.i64.wrap ((D:Int)+1)=((D+1:Nat):Int):=by rw[wrap_i64 (by omega) (by omega)]; omega
    obtain⟨a,Y⟩:=kI (i:=(D:Int)) (H.front 1) (by omega) (by omega);have F:(gl b.W.v)[((D:Int)).toNat]?=some ((gl b.W.v)[D]'U):=by rw[Int.toNat_natCast]; exact List.getElem?_eq_getElem U
    have iC:(rW o.N.length b.W.v).take (D+1)=(rW o.N.length b.W.v).take D++[⟨Int.tmod (gE ((gl b.W.v)[D]'U).Part.aD) o.N.length,rC ((gl b.W.v)[D]'U).Part.aD true ((gl b.W.v)[D]'U).bW⟩]:=by
     rw[List.take_succ_eq_append_getElem (by omega)];congr 2;unfold rW;rw[List.getElem_map]
    have hF:1≤((gl b.W.v)[D]'U).Part.aD∧((gl b.W.v)[D]'U).Part.aD≤4000000:=by
     have hm:=List.getElem_mem U;unfold gl at hm;obtain⟨id,hF,e⟩:=List.mem_map.1 hm;have hF:=(n_ _).mem_iff.1 hF;obtain⟨hQ,ox,rfl⟩:=List.mem_map.1 hF;have al:=z8 ok.ht.v.rr ox;have aH:=ok.ht.v.ids _ _ al;have bg:=ok.ids _ ox;have dh:(gl b.W.v)[D]'U=hQ.2:=by rw[← DZ al]; exact e.symm
     rw[dh,aH.1];omega
    generalize (gl b.W.v)[D]'U=h at F iC hF;refine aO a Y ?_;refine aO h (mh (fun _=>rfl) Y F (H.front 1)) ?_;refine bH H fun aJD w H=>?_;refine cV (x:=qS) (S:=h) Ee 0 H rfl fun w H=>?_;refine dg H fun w H=>?_;refine aj (x:=(some ⟨aZ,0,none⟩:Option Addr)) 3 H rfl rfl rfl ?_;refine aj (x:=(some ⟨au,0,none⟩:Option Addr)) 4 H rfl rfl rfl ?_;refine aj (x:=h.Part.aD) 0 H rfl rfl rfl ?_;refine aj (x:=h.Part.aD) 0 H rfl rfl rfl ?_;refine aj (x:=h.bW) 0 H rfl rfl rfl ?_;refine ap (SM (by omega) H) ?_;rintro r w ⟨rfl,H⟩;rw[show Int.tdiv (h.Part.aD+1) 2=gE h.Part.aD from rfl];refine⟨bE aE (H.front 3) rfl rfl,bE aE (H.front 4) rfl rfl,bE (B .i64) H rfl rfl,bE (B .i64) H rfl rfl,?_⟩;refine ap (Eu (c:=iA o p) (by have:=k.len.1; omega) (H.front 5)) ?_;rintro r w ⟨rfl,H⟩;rw[ZM];have H:=H.ord [1,2,3,4,5,0]
    refine⟨bE aE (H.front 3) rfl rfl,bE (B .i64) H rfl rfl,bE (B .i64) H rfl rfl,bE (B .i64) H rfl rfl,?_⟩;refine ap (afz H) ?_;rintro r w ⟨rfl,H⟩;refine⟨bE aE (H.front 3) rfl rfl,bE aE (H.front 4) rfl rfl,bE (B .i64) H rfl rfl,?_⟩;obtain⟨Aj,sS,H⟩:=lP (H.front 1);refine ap (KQ sS (by simp only[List.length_append,List.length_take]; omega) H) ?_;intro _ w H;refine⟨bE aE (H.front 4) rfl rfl,bE (B .i64) (H.front 1) rfl rfl,bE (B .i64) (H.front 1) rfl rfl,bE (B .i64) (H.front 1) rfl rfl,?_⟩;rw[aQ];refine b2 _ _ ⟨D+1,rfl,by omega,?_⟩ (by omega);rw[iC,← List.append_assoc];exact (H.front 1).drop
   ·rename_i U;have U:D=(gl b.W.v).length:=by
     have:¬ (D:Int)<(gl b.W.v).length:=by simpa using U
     omega
    subst U;have e:(rW o.N.length b.W.v).take (gl b.W.v).length=rW o.N.length b.W.v:=List.take_of_length_le (by omega);rw[e] at H;obtain⟨br,H⟩:=rs am a5 ((H.ord [1,2,3]).drop.drop.drop);exact⟨rfl,fE br H⟩
end
abbrev Told:=eW
abbrev h9:=kh
structure ki where
 ax:hh
 known:Int→Bool
 told:List Told
def ki.hx(s:ki)(id:Int)(p:bF):ki:={ s with known:=fun x=>x==id||s.known x,told:=s.told++[⟨id,p.bV,p.at_⟩] }
def oK(b:bi)(s:ki)(id:Int)(p:bF):ki:=
 if (s.known id||!(b.sure id))=true then s
 else if p.bV=2 then
  if (!((e3 s.ax b.cv).2.2==0&&decide (p.at_<(e3 s.ax b.cv).2.1.gO)))=true then { s with ax:=(e3 s.ax b.cv).1 } else ki.hx { s with ax:=(e3 s.ax b.cv).1 } id p
 else s.hx id p
def rA(b:bi)(s:ki)(id:Int):ki:=match b.P.lookup id with
 |some p=>oK b s id p
 |none=>s
def lo(b:bi)(s:ki)(ids:List Int):ki:=ids.foldl (rA b) s
def SI(o:bv)(i:Nat)(b:bi)(s:ki):bv:={ kK o i { b with ax:=s.ax } with known:=s.known,told:=s.told }
def te(o:bv)(i:Int):bv×Int:=
 if fP o i≠0 then (o,fP o i) else match o.N[i.toNat]? with
  |some b=>(SI o i.toNat b (lo b ⟨b.ax,o.known,o.told⟩ (eS b.P)),0)
  |none=>(o,202)
theorem aHZ{b:bi}{s:ki}{id:Int}{p:bF}(h:iT s.ax):iT (oK b s id p).ax:=by
 unfold oK ki.hx;split
 ·exact h
 ·split
  ·split
   ·exact (h.now _).1
   ·exact (h.now _).1
  ·exact h
theorem aH0{b:bi}{s:ki}{id:Int}{p:bF}:(oK b s id p).told.length≤s.told.length+1:=by
 unfold oK ki.hx;split
 ·omega
 ·split
  ·split
   ·simp
   ·simp
  ·simp
theorem SJ{b:bi}:∀ (ids:List Int) (s:ki),iT s.ax→iT (lo b s ids).ax∧(lo b s ids).told.length≤s.told.length+ids.length
 |[],s,h=>⟨h,by simp[lo]⟩
 |id::ids,s,h=>by
  have I:iT (rA b s id).ax∧(rA b s id).told.length≤s.told.length+1:=by
   unfold rA;split
   ·exact⟨aHZ h,aH0⟩
   ·exact⟨h,by omega⟩
  have O:=SJ (b:=b) ids (rA b s id) I.1;refine⟨O.1,?_⟩;have aH:=O.2;rw[List.length_cons];show (lo b (rA b s id) ids).told.length≤_
  omega
theorem aH1{b:bi}{s:ki}{ids:List Int}{k:Nat}{id:Int}{p:bF}(h:ids[k]?=some id)(aF:b.P.lookup id=some p):lo b s (ids.take (k+1))=oK b (lo b s (ids.take k)) id p:=by
 have aq:=(List.getElem?_eq_some_iff.1 h).1;rw[List.take_succ_eq_append_getElem aq,(List.getElem?_eq_some_iff.1 h).2];unfold lo;rw[List.foldl_append,List.foldl_cons,List.foldl_nil];unfold rA;rw[aF]
def y4(au:Nat)(o:bv)(p:kf)(s:ki):bu:=hT fun z:af×List (Int×Dh)=>dt [ll (∀ x,(List.lookup x z.2).isSome=s.known x),aI au (gG.cells (iA o { p with told:=z.1 })) 114,cZ fm .i64 p.kD z.2,row h9 53 3 z.1 s.told]
section
variable {A w:World} {m bL:List bu}
theorem ae8{au:Nat}{o:bv}{p:kf}{s:ki}(H:E A (y4 au o p s::m) w):∃ z:af×List (Int×Dh),(∀ x,(List.lookup x z.2).isSome=s.known x)∧E A (aI au (gG.cells (iA o { p with told:=z.1 })) 114::cZ fm .i64 p.kD z.2::row h9 53 3 z.1 s.told::m) w:=by
 obtain⟨z,H⟩:=H.ex;obtain⟨h,H⟩:=E.vu H.open_;exact⟨z,h,H⟩
theorem ae9{au:Nat}{o:bv}{p:kf}{s:ki}{z:af×List (Int×Dh)}(h:∀ x,(List.lookup x z.2).isSome=s.known x)(H:E A (aI au (gG.cells (iA o { p with told:=z.1 })) 114::cZ fm .i64 p.kD z.2::row h9 53 3 z.1 s.told::m) w):E A (y4 au o p s::m) w:=
 E.mF z (E.shut (bL:=[ll _,_,_,_]) (E.vK h H))
theorem aH2{au aZ aA cH dF:Nat}{o:bv}{p:kf}{b:bi}{s:ki}{q:ky}{id:Int}{pl:bF}{e4 fe:List (Int×Nat×bF)}(R:Fits b q)(dZ:q.Q=e4++(id,dF,pl)::fe)(ao8:iT s.ax)(a0:b.ax=s.ax)(qc:-9000000000000000000≤b.cv∧b.cv≤9000000000000000000)(aR:s.told.length≤200000000000)
  (H:E A (Au aZ b q dF pl e4 fe (aI cH (aE.cells (some ⟨aZ,0,none⟩)) 89::aI aA (aE.cells (some ⟨au,0,none⟩)) 26::y4 au o p s::m)) w) :
  M Pg 104 [.int .i64 id,.pointer (some ⟨dF,0,none⟩),.pointer (some ⟨cH,0,none⟩),.pointer (some ⟨aA,0,none⟩)] dU w fun _ J=>
   Fits { b with ax:=(oK b s id pl).ax } q∧E A (eT aZ { b with ax:=(oK b s id pl).ax } q (aI cH (aE.cells (some ⟨aZ,0,none⟩)) 89::aI aA (aE.cells (some ⟨au,0,none⟩)) 26::y4 au o p (oK b s id pl)::m)) J:=by
 refine af3 ?_;unfold TA;refine ap (Ce H) ?_;rintro r w ⟨rfl,H⟩;have H:=EF dZ H;refine aj (x:=(some ⟨aZ,0,none⟩:Option Addr)) 12 H rfl rfl rfl ?_;refine b3 rfl ?_;refine aj (x:=some q.pi) 0 H rfl rfl rfl ?_;refine l_ 10 H rfl rfl ?_;refine bH H fun fD w H=>?_;refine cV (x:=qT) (S:=_) (n:=0) (fun _=>rfl) 0 H rfl fun w H=>?_;have H:=H.drop;refine aj (x:=(some ⟨au,0,none⟩:Option Addr)) 13 H rfl rfl rfl ?_;refine b3 rfl ?_;obtain⟨z,bD,H⟩:=ae8 (H.front 14);refine aj (x:=some p.kD) 0 H rfl rfl rfl ?_;refine l_ 1 H rfl rfl ?_;refine bH H fun rL w H=>?_;refine cV (x:=qT) (S:=_) (n:=0) (fun _=>rfl) 0 H rfl fun w H=>?_;have H:=H.drop
 have fin:∀ (fy:ki) (z:af×List (Int×Dh)) (w:World),(∀ x,(List.lookup x z.2).isSome=fy.known x)→E A (aI au (gG.cells (iA o { p with told:=z.1 })) 114::cZ fm .i64 p.kD z.2::row h9 53 3 z.1 fy.told::eT aZ { b with ax:=fy.ax } q (aI cH (aE.cells (some ⟨aZ,0,none⟩)) 89::aI aA (aE.cells (some ⟨au,0,none⟩)) 26::m)) w →
   Fits { b with ax:=fy.ax } q∧E A (eT aZ { b with ax:=fy.ax } q (aI cH (aE.cells (some ⟨aZ,0,none⟩)) 89::aI aA (aE.cells (some ⟨au,0,none⟩)) 26::y4 au o p fy::m)) w:=by
  intro fy z w bD H;exact⟨R,(ae9 bD H).ord [1,2,3,4,5,6,7,8,9,10,11,12,13,14]⟩
 have g2:∀ (fy:ki) (w:World),fy.known=s.known→fy.told=s.told→E A (aI au (gG.cells (iA o { p with told:=z.1 })) 114::cZ fm .i64 p.kD z.2::row h9 53 3 z.1 s.told::eT aZ { b with ax:=fy.ax } q (aI cH (aE.cells (some ⟨aZ,0,none⟩)) 89::aI aA (aE.cells (some ⟨au,0,none⟩)) 26::m)) w →
   E9 id ⟨aA,0,none⟩ (pl.bV,pl.at_) w fun _ J=>Fits { b with ax:=(fy.hx id pl).ax } q∧E A (eT aZ { b with ax:=(fy.hx id pl).ax } q (aI cH (aE.cells (some ⟨aZ,0,none⟩)) 89::aI aA (aE.cells (some ⟨au,0,none⟩)) 26::y4 au o p (fy.hx id pl)::m)) J:=by
  intro fy w l8 jj H;unfold E9;refine aj (x:=(some ⟨au,0,none⟩:Option Addr)) 16 H rfl rfl rfl ?_;refine b3 rfl ?_;refine aj (x:=some p.kD) 0 H rfl rfl rfl ?_;refine r4 1 H rfl rfl fun w H=>?_;refine dg H fun w H=>?_;refine aj (x:=(some ⟨au,0,none⟩:Option Addr)) 16 H rfl rfl rfl ?_;refine aj (x:=(some ⟨au,0,none⟩:Option Addr)) 16 H rfl rfl rfl ?_;refine b3 rfl ?_;refine aj (x:=z.1) 1 H rfl rfl rfl ?_;refine nq (fun _=>rfl) 2 H rfl (by simp; omega) fun r w H=>?_;refine⟨bE aE (H.front 16) rfl rfl,bE aE (H.front 16) rfl rfl,?_⟩;refine b3 rfl ?_;refine dx (x:=r) 2 H rfl rfl (Nat.le_of_ble_eq_true rfl) fun w H=>?_;refine fin (fy.hx id pl) (r,eH id ⟨⟩ z.2) w (fun x=>?_) ?_
  ·show (List.lookup x (eH id ⟨⟩ z.2)).isSome=(x==id||fy.known x)
   rw[sZ,l8];cases x==id
   ·simp[bD x]
   ·simp
  ·have e:(fy.hx id pl).told=s.told++[⟨id,pl.bV,pl.at_⟩]:=by rw[← jj]; rfl
   rw[e];exact H.ord [0,2,1]
 simp only;rw[bD id,R.2 id];by_cases bm:(s.known id||!(b.sure id))=true
 ·rw[if_pos bm];have e:oK b s id pl=s:=by unfold oK; rw[if_pos bm]
  rw[e];refine fin s z w bD ?_;rw[← a0];exact H
 ·rw[if_neg bm];by_cases bB:pl.bV=2
  ·rw[if_pos (by simpa using bB)];refine dg H fun w H=>?_;refine aj (x:=(some ⟨aZ,0,none⟩:Option Addr)) 15 H rfl rfl rfl ?_;refine b3 rfl ?_;refine aj (x:=(some ⟨q.ax,0,none⟩:Option Addr)) 3 H rfl rfl rfl ?_;refine aj (x:=(some ⟨aZ,0,none⟩:Option Addr)) 15 H rfl rfl rfl ?_;refine b3 rfl ?_;refine aj (x:=b.cv) 3 H rfl rfl rfl ?_;refine ap (aEf (t:=pl.at_) (by rw[a0]; exact ao8) qc (H.front 4)) ?_;rintro r w ⟨rfl,H⟩;rw[a0] at H ⊢;refine⟨bE aE (H.front 15) rfl rfl,bE aE (H.front 15) rfl rfl,?_⟩;have H:E A (aI au (gG.cells (iA o { p with told:=z.1 })) 114::cZ fm .i64 p.kD z.2::row h9 53 3 z.1 s.told::eT aZ { b with ax:=(e3 s.ax b.cv).1 } q (aI cH (aE.cells (some ⟨aZ,0,none⟩)) 89::aI aA (aE.cells (some ⟨au,0,none⟩)) 26::m)) w:=H.ord [1,2,3,4,0];simp only;by_cases b4:(!((e3 s.ax b.cv).2.2==0&&decide (pl.at_<(e3 s.ax b.cv).2.1.gO)))=true
   ·rw[if_pos b4];have e:oK b s id pl={ s with ax:=(e3 s.ax b.cv).1 }:=by unfold oK; rw[if_neg bm,if_pos bB,if_pos b4]
    rw[e];exact fin { s with ax:=(e3 s.ax b.cv).1 } z w bD H
   ·rw[if_neg b4];have e:oK b s id pl=ki.hx { s with ax:=(e3 s.ax b.cv).1 } id pl:=by unfold oK; rw[if_neg bm,if_pos bB,if_neg b4]
    rw[e];exact g2 { s with ax:=(e3 s.ax b.cv).1 } w rfl rfl H
  ·rw[if_neg (by simpa using bB)];have e:oK b s id pl=s.hx id pl:=by unfold oK; rw[if_neg bm,if_neg bB]
   rw[e];refine g2 s w rfl rfl ?_;rw[← a0];exact H
theorem ae4{au:Nat}{o:bv}{i:Int}(k:kR o)(H:E A (b8 au o::m) w):M Pg 49 [.pointer (some ⟨au,0,none⟩),.int .i64 i] (B .i64) w fun r J=>r=(te o i).2∧E A (b8 au (te o i).1::m) J:=by
 obtain⟨p,am,H⟩:=kY H;refine aiC ?_;unfold V7;refine bH H fun aA w H=>?_;refine aj (x:=(some ⟨au,0,none⟩:Option Addr)) 0 H rfl rfl rfl ?_;have H:E A (hB au o p (aI aA (aE.cells (some ⟨au,0,none⟩)) 26::m)) w:=H.ord [1,2,3,4,5,6,0];refine ap (sB am k.len.2 H) ?_;rintro r w (⟨I,rfl,H⟩ | ⟨I,aZ,b,O,a5,a0,ag,rfl,H⟩)
 ·refine bH H fun cH w H=>?_;refine dx (x:=(none:Option Addr)) 0 H rfl rfl (Nat.le_of_ble_eq_true rfl) fun w H=>?_;have e:te o i=(o,fP o i):=by unfold te; rw[if_pos I]
  rw[if_pos (by simpa using I),e];exact⟨rfl,fE am ((H.front 7).drop.drop)⟩
 ·refine bH H fun cH w H=>?_;refine dx (x:=(some ⟨aZ,0,none⟩:Option Addr)) 0 H rfl rfl (Nat.le_of_ble_eq_true rfl) fun w H=>?_;have e:te o i=(SI o i.toNat b (lo b ⟨b.ax,o.known,o.told⟩ (eS b.P)),0):=by unfold te; rw[if_neg (fun h=>h I),a0]
  rw[if_neg (by simp),e];clear e;have ok:=k.at a0;refine aj (x:=(some ⟨aZ,0,none⟩:Option Addr)) 0 H rfl rfl rfl ?_;obtain⟨q,R,H⟩:=lP (H.front 1);have H:=ae9 (o:=o) (p:=p) (s:=⟨b.ax,o.known,o.told⟩) (z:=(p.told,p.rn)) am.2 (H.ord [13,17,18]);have H:E A (eT aZ { b with ax:=(lo b ⟨b.ax,o.known,o.told⟩ ((eS b.P).take 0)).ax } q ([aI cH (aE.cells (some ⟨aZ,0,none⟩)) 89,aI aA (aE.cells (some ⟨au,0,none⟩)) 26,y4 au o p (lo b ⟨b.ax,o.known,o.told⟩ ((eS b.P).take 0))]++(row aE 89 1 p.nodes (p.Q.map kE)::dt ((p.Q.eraseIdx i.toNat).map hj)::Post.hJ p.aY o.aY::m))) w:=by
   rw[List.take_zero];exact H.ord [1,2,3,4,5,6,7,8,9,10,11,12,13,17,0]
  have sQ:=ok.lG;have ym:=k.told;have sV:(eS b.P).length≤1000000:=by unfold eS; rw[(n_ _).length_eq,List.length_map]; exact sQ
  refine ap (Yr (hE:=cc.mk (.func 104) (List.toArray []) (List.toArray [.pointer (some ⟨cH,0,none⟩),.pointer (some ⟨aA,0,none⟩)])) (P:=b.P) (fun D=>{ b with ax:=(lo b ⟨b.ax,o.known,o.told⟩ ((eS b.P).take D)).ax }) (fun D=>[aI cH (aE.cells (some ⟨aZ,0,none⟩)) 89,aI aA (aE.cells (some ⟨au,0,none⟩)) 26,y4 au o p (lo b ⟨b.ax,o.known,o.told⟩ ((eS b.P).take D))]) (fun _=>rfl) ok.lS ok.lG ?_ R H) ?_
  ·intro D id pl m q w dF bI al l9 R H;refine⟨104,[],[.pointer (some ⟨cH,0,none⟩),.pointer (some ⟨aA,0,none⟩)],rfl,amC,?_⟩;obtain⟨HO,e4,fe,e,dZ,H⟩:=Ag R (id:=id) (p:=pl) al H;have:HO=dF:=by rw[e] at l9; cases l9; rfl
   subst this;have aG:=SJ (b:=b) ((eS b.P).take D) ⟨b.ax,o.known,o.told⟩ ok.ht.ax;have J8:=aG.2;rw[List.length_take] at J8;simp only at J8;have zZ:=aH1 (s:=⟨b.ax,o.known,o.told⟩) bI al;have aaj:=aH2 (au:=au) (aA:=aA) (cH:=cH) (o:=o) (p:=p) (s:=lo b ⟨b.ax,o.known,o.told⟩ ((eS b.P).take D)) R dZ aG.1 rfl ok.ht.rd (by omega) H;refine ap aaj ?_;rintro _ w ⟨sS,H⟩;refine⟨q,sS,?_⟩;show E A (eT aZ { b with ax:=(lo b ⟨b.ax,o.known,o.told⟩ ((eS b.P).take (D+1))).ax } q ([_,_,y4 au o p (lo b ⟨b.ax,o.known,o.told⟩ ((eS b.P).take (D+1)))]++m)) w
   rw[zZ];exact H
  ·rintro _ w ⟨f_,kp,H⟩;simp only[List.take_length] at kp H;obtain⟨z,bD,H⟩:=ae8 (H.front 14);have H:=g7 kp ((H.ord [3,4,5,6,7,8,9,10,11,12,13,14]));have H:E A (j8 aZ _::hP au { o with known:=(lo b ⟨b.ax,o.known,o.told⟩ (eS b.P)).known,told:=(lo b ⟨b.ax,o.known,o.told⟩ (eS b.P)).told } { p with told:=z.1,rn:=z.2 } i.toNat m) w:=((H.ord [4,5]).drop.drop).ord [0,1,4,5,6,2,3];obtain⟨br,H⟩:=rs (o:={ o with known:=(lo b ⟨b.ax,o.known,o.told⟩ (eS b.P)).known,told:=(lo b ⟨b.ax,o.known,o.told⟩ (eS b.P)).told }) (p:={ p with told:=z.1,rn:=z.2 }) ⟨am.1,bD⟩ a5 H;exact⟨rfl,fE br H⟩
end
end Cluster
end Go.Proofs.YthaobmpdjcoheaaGreat
