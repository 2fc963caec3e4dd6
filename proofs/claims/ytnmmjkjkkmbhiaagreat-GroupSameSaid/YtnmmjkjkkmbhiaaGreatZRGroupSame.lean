/- The row of GroupSame: whatever the arguments, the law answers true and leaves them as they were. -/
import Derived.Test.YtnmmjkjkkmbhiaaGreatZ13
namespace Go.Proofs.YtnmmjkjkkmbhiaaGreat
open Go Go.ChangeShapes Go.WideShapes Go.ChangeAt Go.RowKit Go.Proofs.YtnmmjkjkkmbhiaaGreat.ba
open Go.ChangeMaps (open_string shut_string)
set_option linter.unusedVariables false
set_option linter.unusedSimpArgs false
set_option maxRecDepth 100000 in
theorem aua(os:Os)(started:os.Started)(H:Type)(enc:TypeId×Value→H) :
    ReturnsInHanded {} Tryz.checked os 4 .any (Rows.groupSameSpec.pre6 enc Pg Tryz.f4 Rows.groupSameRow.domain false) (Rows.groupSameSpec.post enc Pg Tryz.f4 false true false false):=by
  refine returnsInHanded_of_change (C:=Tryz.checked) Wz started (by kernel_rfl) Tryz.func4
    (ChangeSpec.witness6 (enc:=enc) (C:=Tryz.checked) false ⟨#[],#[.int .i64 0,.slice none 0 0],[]⟩ 8 (by kernel_rfl) (by kernel_rfl) (by kernel_rfl) (by kernel_rfl)) ?_
  intro y base args ay gs before CH Ck aib _
  have yb:∀ (l:Nat) t v,Tryz.f4.params[l]?=some t→args[l]?=some v→Value.okWide Pg y .any base t v:=CH
  have JX:=Ck
  obtain⟨p,q,Ch,lT,rfl,aiu,lV⟩:=Ck
  have dx:DataW.TrodAll enc Pg y 0 (fun _=>true) true Tryz.f4.params.toList args.toList ay p:=Ch
  rw[Tryz.params4] at dx yb
  obtain⟨a9,azC,d0,afB,sJ,awI,ahZ,rfl,rfl,am,my⟩:=trodAll_cons dx
  obtain⟨ct,azD,d1,afC,kx,qG,rfl,rfl,rfl,B,k8⟩:=trodAll_cons my
  obtain⟨rfl,rfl,rfl⟩:=trodAll_nil k8
  obtain rfl:args=#[a9,ct]:=by cases args; simp_all
  obtain⟨rfl,rfl⟩:=trodVars_none lT
  have LY:∀ x∈sJ,x.block<y.heap.size:=by obtain⟨m,hm⟩:=am; exact DataW.trod_lt m _ _ _ hm
  obtain⟨hM,gf,gr⟩:=EU (vp (enc:=enc) (y:=y)) am
  obtain⟨p3,rfl,_⟩:=open_int Tryz.underlying3 (yb 0 3 a9 rfl rfl) am
  have yn:Value.int .i64 p3=.int .i64 hM:=Gm gf rfl rfl
  cases yn
  have LZ:∀ x∈kx,x.block<y.heap.size:=by obtain⟨m,hm⟩:=B; exact DataW.trod_lt m _ _ _ hm
  obtain⟨eP,aT,cD⟩:=EU (Wu (enc:=enc) (y:=y)) B
  obtain⟨OI,OK,OJ,rfl⟩:=okWide_slice Tryz.underlying22 (yb 1 22 ct rfl rfl)
  obtain⟨OE,OH,OF⟩:=eP
  have fj:Value.slice OI OK OJ=.slice OE OH OF:=Gm aT rfl rfl
  cases fj
  clear Ch CH
  refine (So (azN y _ _ gr cD)).mono fun e uh ⟨r,he,Z,bel⟩=>?_
  subst he; subst Z
  exact⟨_,rfl,_,_,_,[],_,[],JX,trodAll_mk1 (shut_bool Tryz.underlying4 _),(trodAll_cons_mk (Below.trod FU (by kernel_rfl) (of_decide_eq_true (by kernel_rfl)) am bel LY) (trodAll_cons_mk (Below.trod FU (by kernel_rfl) (of_decide_eq_true (by kernel_rfl)) B bel LZ) trodAll_mk0)),rfl,bel.frame _,fun h=>by cases h⟩
theorem holdsGroupSame:Rows.GroupSameSaid:=
  OpenClaim.holds_of_wide 4 Tryz.f4 rfl rfl rfl rfl rfl rfl rfl ⟨rfl,rfl,rfl,rfl,rfl⟩ rfl rfl rfl rfl rfl (by kernel_rfl) Tryz.func4 (by kernel_rfl)
    (of_decide_eq_true (by kernel_rfl)) (by unfold Func.isWrapper; first | (rw[if_pos (by decide +kernel)]; kernel_rfl) | (rw[if_neg (by decide +kernel)]; exact⟨rfl,rfl⟩))
    (fun os started H enc _=>aua os started H enc)
end Go.Proofs.YtnmmjkjkkmbhiaaGreat
