/- The row of ClusterBoth: whatever the arguments, the law answers true and leaves them as they were. -/
import Derived.Test.YthaobmpdjcoheaaGreatZ13
namespace Go.Proofs.YthaobmpdjcoheaaGreat
open Go Go.ChangeShapes Go.WideShapes Go.ChangeAt Go.RowKit Go.Proofs.YthaobmpdjcoheaaGreat.bf
open Go.ChangeMaps (open_string shut_string)
set_option linter.unusedVariables false
set_option linter.unusedSimpArgs false
set_option maxRecDepth 100000 in
theorem aB7(os:Os)(started:os.Started)(H:Type)(enc:TypeId×Value→H) :
    ReturnsInHanded {} Tryz.checked os 3 .any (Rows.clusterBothSpec.pre6 enc Pg Tryz.f3 Rows.clusterBothRow.domain false) (Rows.clusterBothSpec.post enc Pg Tryz.f3 false true false false):=by
  refine returnsInHanded_of_change (C:=Tryz.checked) K4 started (by kernel_rfl) Tryz.func3
    (ChangeSpec.witness6 (enc:=enc) (C:=Tryz.checked) false ⟨#[],#[.agg #[.int .i64 0,.float .f64 0,.float .f64 0,.int .i64 0],.slice none 0 0],[]⟩ 8 (by kernel_rfl) (by kernel_rfl) (by kernel_rfl) (by kernel_rfl)) ?_
  intro A base args aF gs before vh o6 Pk _
  have pM:∀ (D:Nat) t v,Tryz.f3.params[D]?=some t→args[D]?=some v→Value.okWide Pg A .any base t v:=vh
  have Bw:=o6
  obtain⟨p,q,u2,Bv,rfl,Pt,lk⟩:=o6
  have o5:DataW.TrodAll enc Pg A 0 (fun _=>true) true Tryz.f3.params.toList args.toList aF p:=u2
  rw[Tryz.params3] at o5 pM
  obtain⟨bc,SV,d0,Oo,uh,nG,Ph,rfl,rfl,ah,qq⟩:=trodAll_cons o5
  obtain⟨bU,SW,d1,Oq,cY,gF,rfl,rfl,rfl,I,gN⟩:=trodAll_cons qq
  obtain⟨rfl,rfl,rfl⟩:=trodAll_nil gN
  obtain rfl:args=#[bc,bU]:=by cases args; simp_all
  obtain⟨rfl,rfl⟩:=trodVars_none Bv
  have B2:∀ x∈uh,x.block<A.heap.size:=by obtain⟨y,hm⟩:=ah; exact DataW.trod_lt y _ _ _ hm
  obtain⟨hC,hH,cX⟩:=wi (K1 (enc:=enc) (A:=A)) ah
  obtain⟨j1,rfl,_⟩:=okWide_struct Tryz.underlying24 (pM 0 24 bc rfl rfl)
  have z5:Value.agg j1=.agg (ha.cells hC).toArray:=F7 hH
  cases z5
  have B3:∀ x∈cY,x.block<A.heap.size:=by obtain⟨y,hm⟩:=I; exact DataW.trod_lt y _ _ _ hm
  obtain⟨gV,aR,bA⟩:=wi (HL (enc:=enc) (A:=A)) I
  obtain⟨uA,CO,CN,rfl⟩:=okWide_slice Tryz.underlying25 (pM 1 25 bU rfl rfl)
  obtain⟨CJ,CM,CK⟩:=gV
  have dn:Value.slice uA CO CN=.slice CJ CM CK:=HK aR rfl rfl
  cases dn
  clear u2 vh
  refine (Jd (aIE A _ _ cX bA)).mono fun j lE ⟨r,he,ab,bel⟩=>?_
  subst he; subst ab
  exact⟨_,rfl,_,_,_,[],_,[],Bw,trodAll_mk1 (shut_bool Tryz.underlying4 _),(trodAll_cons_mk (Below.trod wP (by kernel_rfl) (of_decide_eq_true (by kernel_rfl)) ah bel B2) (trodAll_cons_mk (Below.trod wP (by kernel_rfl) (of_decide_eq_true (by kernel_rfl)) I bel B3) trodAll_mk0)),rfl,bel.frame _,fun h=>by cases h⟩
theorem holdsClusterBoth:Rows.ClusterBothSaid:=
  OpenClaim.holds_of_wide 3 Tryz.f3 rfl rfl rfl rfl rfl rfl rfl ⟨rfl,rfl,rfl,rfl,rfl⟩ rfl rfl rfl rfl rfl (by kernel_rfl) Tryz.func3 (by kernel_rfl)
    (of_decide_eq_true (by kernel_rfl)) (by unfold Func.isWrapper; first | (rw[if_pos (by decide +kernel)]; kernel_rfl) | (rw[if_neg (by decide +kernel)]; exact⟨rfl,rfl⟩))
    (fun os started H enc _=>aB7 os started H enc)
end Go.Proofs.YthaobmpdjcoheaaGreat
