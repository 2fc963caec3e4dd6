/- The row of ClusterOutside: whatever the arguments, the law answers true and leaves them as they were. -/
import Derived.Test.YthaobmpdjcoheaaGreatZ13
namespace Go.Proofs.YthaobmpdjcoheaaGreat
open Go Go.ChangeShapes Go.WideShapes Go.ChangeAt Go.RowKit Go.Proofs.YthaobmpdjcoheaaGreat.bj
open Go.ChangeMaps (open_string shut_string)
set_option linter.unusedVariables false
set_option linter.unusedSimpArgs false
set_option maxRecDepth 100000 in
theorem aCI(os:Os)(started:os.Started)(H:Type)(enc:TypeId×Value→H) :
    ReturnsInHanded {} Tryz.checked os 4 .any (Rows.clusterOutsideSpec.pre6 enc Pg Tryz.f4 Rows.clusterOutsideRow.domain false) (Rows.clusterOutsideSpec.post enc Pg Tryz.f4 false true false false):=by
  refine returnsInHanded_of_change (C:=Tryz.checked) Ls started (by kernel_rfl) Tryz.func4
    (ChangeSpec.witness6 (enc:=enc) (C:=Tryz.checked) false ⟨#[],#[.agg #[.int .i64 0,.float .f64 0,.float .f64 0,.int .i64 0],.slice none 0 0],[]⟩ 8 (by kernel_rfl) (by kernel_rfl) (by kernel_rfl) (by kernel_rfl)) ?_
  intro A base args aG gs before vr ph PN _
  have pV:∀ (D:Nat) t v,Tryz.f4.params[D]?=some t→args[D]?=some v→Value.okWide Pg A .any base t v:=vr
  have BP:=ph
  obtain⟨p,q,vb,BO,rfl,PW,lC⟩:=ph
  have pg:DataW.TrodAll enc Pg A 0 (fun _=>true) true Tryz.f4.params.toList args.toList aG p:=vb
  rw[Tryz.params4] at pg pV
  obtain⟨bh,Tj,d0,OT,ut,nR,PL,rfl,rfl,ah,qz⟩:=trodAll_cons pg
  obtain⟨bY,Tk,d1,OU,c6,gS,rfl,rfl,rfl,I,g2⟩:=trodAll_cons qz
  obtain⟨rfl,rfl,rfl⟩:=trodAll_nil g2
  obtain rfl:args=#[bh,bY]:=by cases args; simp_all
  obtain⟨rfl,rfl⟩:=trodVars_none BO
  have Cl:∀ x∈ut,x.block<A.heap.size:=by obtain⟨o,hm⟩:=ah; exact DataW.trod_lt o _ _ _ hm
  obtain⟨hO,hU,cX⟩:=wD (Lp (enc:=enc) (A:=A)) ah
  obtain⟨kh,rfl,_⟩:=okWide_struct Tryz.underlying24 (pV 0 24 bh rfl rfl)
  have Am:Value.agg kh=.agg (hr.cells hO).toArray:=Gj hU
  cases Am
  have Cm:∀ x∈c6,x.block<A.heap.size:=by obtain⟨o,hm⟩:=I; exact DataW.trod_lt o _ _ _ hm
  obtain⟨g9,aS,bD⟩:=wD (H3 (enc:=enc) (A:=A)) I
  obtain⟨uJ,C7,C6,rfl⟩:=okWide_slice Tryz.underlying25 (pV 1 25 bY rfl rfl)
  obtain⟨C2,C5,C3⟩:=g9
  have dx:Value.slice uJ C7 C6=.slice C2 C5 C3:=H2 aS rfl rfl
  cases dx
  clear vb vr
  refine (Jz (aI9 A _ _ cX bD)).mono fun l lW ⟨r,he,aa,bel⟩=>?_
  subst he; subst aa
  exact⟨_,rfl,_,_,_,[],_,[],BP,trodAll_mk1 (shut_bool Tryz.underlying4 _),(trodAll_cons_mk (Below.trod w4 (by kernel_rfl) (of_decide_eq_true (by kernel_rfl)) ah bel Cl) (trodAll_cons_mk (Below.trod w4 (by kernel_rfl) (of_decide_eq_true (by kernel_rfl)) I bel Cm) trodAll_mk0)),rfl,bel.frame _,fun h=>by cases h⟩
theorem holdsClusterOutside:Rows.ClusterOutsideSaid:=
  OpenClaim.holds_of_wide 4 Tryz.f4 rfl rfl rfl rfl rfl rfl rfl ⟨rfl,rfl,rfl,rfl,rfl⟩ rfl rfl rfl rfl rfl (by kernel_rfl) Tryz.func4 (by kernel_rfl)
    (of_decide_eq_true (by kernel_rfl)) (by unfold Func.isWrapper; first | (rw[if_pos (by decide +kernel)]; kernel_rfl) | (rw[if_neg (by decide +kernel)]; exact⟨rfl,rfl⟩))
    (fun os started H enc _=>aCI os started H enc)
end Go.Proofs.YthaobmpdjcoheaaGreat
