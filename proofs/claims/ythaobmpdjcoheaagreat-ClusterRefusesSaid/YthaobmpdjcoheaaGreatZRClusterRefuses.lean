/- The row of ClusterRefuses: whatever the arguments, the law answers true and leaves them as they were. -/
import Derived.Test.YthaobmpdjcoheaaGreatZ13
namespace Go.Proofs.YthaobmpdjcoheaaGreat
open Go Go.ChangeShapes Go.WideShapes Go.ChangeAt Go.RowKit Go.Proofs.YthaobmpdjcoheaaGreat.bb
open Go.ChangeMaps (open_string shut_string)
set_option linter.unusedVariables false
set_option linter.unusedSimpArgs false
set_option maxRecDepth 100000 in
theorem aCd(os:Os)(started:os.Started)(H:Type)(enc:TypeId×Value→H) :
    ReturnsInHanded {} Tryz.checked os 6 .any (Rows.clusterRefusesSpec.pre6 enc Pg Tryz.f6 Rows.clusterRefusesRow.domain false) (Rows.clusterRefusesSpec.post enc Pg Tryz.f6 false true false false):=by
  refine returnsInHanded_of_change (C:=Tryz.checked) K7 started (by kernel_rfl) Tryz.func6
    (ChangeSpec.witness6 (enc:=enc) (C:=Tryz.checked) false ⟨#[],#[.agg #[.int .i64 0,.float .f64 0,.float .f64 0,.int .i64 0],.slice none 0 0,.agg #[.int .i64 0,.int .i64 0,.int .i64 0,.int .i64 0,.int .i64 0,.int .i64 0,.int .i64 0,.int .i64 0,.slice none 0 0,.slice none 0 0]],[]⟩ 8 (by kernel_rfl) (by kernel_rfl) (by kernel_rfl) (by kernel_rfl)) ?_
  intro A base args aC gs before vc o5 Pn _
  have pK:∀ (D:Nat) t v,Tryz.f6.params[D]?=some t→args[D]?=some v→Value.okWide Pg A .any base t v:=vc
  have Bw:=o5
  obtain⟨p,q,uX,Bv,rfl,Pw,lh⟩:=o5
  have o4:DataW.TrodAll enc Pg A 0 (fun _=>true) true Tryz.f6.params.toList args.toList aC p:=uX
  rw[Tryz.params6] at o4 pK
  obtain⟨a_,SY,d0,Ou,uc,nC,Pl,rfl,rfl,ah,qn⟩:=trodAll_cons o4
  obtain⟨bM,SZ,d1,Ov,cP,gC,rfl,rfl,rfl,I,gJ⟩:=trodAll_cons qn
  obtain⟨dV,aIx,d2,amn,Af,f_,rfl,rfl,rfl,O,bs⟩:=trodAll_cons gJ
  obtain⟨rfl,rfl,rfl⟩:=trodAll_nil bs
  obtain rfl:args=#[a_,bM,dV]:=by cases args; simp_all
  obtain⟨rfl,rfl⟩:=trodVars_none Bv
  have B2:∀ x∈uc,x.block<A.heap.size:=by obtain⟨y,hm⟩:=ah; exact DataW.trod_lt y _ _ _ hm
  obtain⟨hy,hD,cO⟩:=wc (K4 (enc:=enc) (A:=A)) ah
  obtain⟨jY,rfl,_⟩:=okWide_struct Tryz.underlying24 (pK 0 24 a_ rfl rfl)
  have z4:Value.agg jY=.agg (g8.cells hy).toArray:=F9 hD
  cases z4
  have B3:∀ x∈cP,x.block<A.heap.size:=by obtain⟨y,hm⟩:=I; exact DataW.trod_lt y _ _ _ hm
  obtain⟨gS,aQ,br⟩:=wc (HN (enc:=enc) (A:=A)) I
  obtain⟨uv,CP,CO,rfl⟩:=okWide_slice Tryz.underlying25 (pK 1 25 bM rfl rfl)
  obtain⟨CK,CN,CL⟩:=gS
  have df:Value.slice uv CP CO=.slice CK CN CL:=HM aQ rfl rfl
  cases df
  have QR:∀ x∈Af,x.block<A.heap.size:=by obtain⟨y,hm⟩:=O; exact DataW.trod_lt y _ _ _ hm
  obtain⟨mo,a6,eN⟩:=wc (acm (enc:=enc) (A:=A)) O
  obtain⟨Tp,rfl,_⟩:=okWide_struct Tryz.underlying35 (pK 2 35 dV rfl rfl)
  have dT:Value.agg Tp=.agg (hK.cells mo).toArray:=F9 a6
  cases dT
  clear uX vc
  refine (Jg (aIK A _ _ _ cO br eN)).mono fun e lB ⟨r,he,ab,bel⟩=>?_
  subst he; subst ab
  exact⟨_,rfl,_,_,_,[],_,[],Bw,trodAll_mk1 (shut_bool Tryz.underlying4 _),(trodAll_cons_mk (Below.trod wL (by kernel_rfl) (of_decide_eq_true (by kernel_rfl)) ah bel B2) (trodAll_cons_mk (Below.trod wL (by kernel_rfl) (of_decide_eq_true (by kernel_rfl)) I bel B3) (trodAll_cons_mk (Below.trod wL (by kernel_rfl) (of_decide_eq_true (by kernel_rfl)) O bel QR) trodAll_mk0))),rfl,bel.frame _,fun h=>by cases h⟩
theorem holdsClusterRefuses:Rows.ClusterRefusesSaid:=
  OpenClaim.holds_of_wide 6 Tryz.f6 rfl rfl rfl rfl rfl rfl rfl ⟨rfl,rfl,rfl,rfl,rfl⟩ rfl rfl rfl rfl rfl (by kernel_rfl) Tryz.func6 (by kernel_rfl)
    (of_decide_eq_true (by kernel_rfl)) (by unfold Func.isWrapper; first | (rw[if_pos (by decide +kernel)]; kernel_rfl) | (rw[if_neg (by decide +kernel)]; exact⟨rfl,rfl⟩))
    (fun os started H enc _=>aCd os started H enc)
end Go.Proofs.YthaobmpdjcoheaaGreat
