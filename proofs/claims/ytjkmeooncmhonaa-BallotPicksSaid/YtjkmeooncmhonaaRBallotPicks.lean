/- The row of BallotPicks: whatever the arguments, the law answers true and leaves them as they were. -/
import Derived.Test.YtjkmeooncmhonaaBT
import Derived.Test.YtjkmeooncmhonaaSlM
namespace Go.Proofs.Ytjkmeooncmhonaa
open Go Go.ChangeShapes Go.WideShapes Go.ChangeAt Go.RowKit Go.Proofs.Ytjkmeooncmhonaa.Cf
open Go.ChangeMaps (open_string shut_string)
set_option linter.unusedVariables false
set_option linter.unusedSimpArgs false
set_option maxRecDepth 100000 in
theorem liftedBallotPicks (os : Os) (started : os.Started) (H : Type) (enc : TypeId × Value → H) :
    ReturnsInHanded {} Try.checked os 3 .any (Rows.ballotPicksSpec.pre6 enc Try.prog Try.f3 Rows.ballotPicksRow.domain false) (Rows.ballotPicksSpec.post enc Try.prog Try.f3 false true false false) := by
  refine returnsInHanded_of_change_sized (C := Try.checked) ownNone started (by kernel_rfl) Try.func3
    (ChangeSpec.witness6 (enc := enc) (C := Try.checked) false ⟨#[], #[.slice none 0 0], []⟩ 8 (by kernel_rfl) (by kernel_rfl) (by kernel_rfl) (by kernel_rfl)) ?_
  intro W base args ds gs before hval0 hW hcnd hsz _
  have hval : ∀ (j : Nat) t v, Try.f3.params[j]? = some t → args[j]? = some v → Value.okWide Try.prog W .any base t v := hval0
  have hW' := hW
  obtain ⟨p, q, hA0, hV, rfl, hfz, hnd⟩ := hW
  have hA : DataW.TrodAll enc Try.prog W 0 (fun _ => true) true Try.f3.params.toList args.toList ds p := hA0
  rw [Try.params3] at hA hval
  obtain ⟨v0, vs0, d0, ds0, p0, q0, hargs, rfl, rfl, h0, r0⟩ := trodAll_cons hA
  obtain ⟨rfl, rfl, rfl⟩ := trodAll_nil r0
  obtain rfl : args = #[v0] := by cases args; simp_all
  obtain ⟨rfl, rfl⟩ := trodVars_none hV
  have lt0 : ∀ x ∈ p0, x.block < W.heap.size := by obtain ⟨m, hm⟩ := h0; exact DataW.trod_lt m _ _ _ hm
  obtain ⟨y0, e0, g0⟩ := arg_one (opn22 (enc := enc) (W := W)) h0
  obtain ⟨z0, zl0, zc0, rfl⟩ := okWide_slice Try.underlying22 (hval 0 22 v0 rfl rfl)
  obtain ⟨ya0, yl0, yc0⟩ := y0
  have k0 : Value.slice z0 zl0 zc0 = .slice ya0 yl0 yc0 := one_of e0 rfl rfl
  cases k0
  clear hA0 hval0
  have hsized : ∀ qs, RoP tSlc ⟨z0, zl0, zc0⟩ qs (fun b => W.heap[b]?) → ∀ q ∈ qs, q.len ≤ 140737488355328 := by
    intro qs hro
    obtain ⟨m, hm⟩ := h0
    have hw : ∀ n ∈ d0.weights Try.prog 22, n ≤ reachBytes := fun n hn => by
      have := List.all_eq_true.1 hsz n (DataW.weights_mem_each (j := 0) (by rw [Try.params3]; rfl) rfl n hn)
      simpa using this
    exact nested_sized Try.underlying22 Try.underlying23 (of_decide_eq_true (by kernel_rfl)) (by kernel_rfl) hm hw hro
  refine (calls_of_cl (Ballot.picks_walk W _ g0 hsized)).mono fun e W' ⟨r, he, hr, bel⟩ => ?_
  subst he; subst hr
  exact ⟨_, rfl, _, _, _, [], _, [], hW', trodAll_mk1 (shut_bool Try.underlying4 _), (trodAll_cons_mk (Below.trod laidOutYes (by kernel_rfl) (of_decide_eq_true (by kernel_rfl)) h0 bel lt0) trodAll_mk0), rfl, bel.frame _, fun h => by cases h⟩
theorem holdsBallotPicks : Rows.BallotPicksSaid :=
  OpenClaim.holds_of_wide 3 Try.f3 rfl rfl rfl rfl rfl rfl rfl ⟨rfl, rfl, rfl, rfl, rfl⟩ rfl rfl rfl rfl rfl (by kernel_rfl) Try.func3 (by kernel_rfl)
    (of_decide_eq_true (by kernel_rfl)) (by unfold Func.isWrapper; first | (rw [if_pos (by decide +kernel)]; kernel_rfl) | (rw [if_neg (by decide +kernel)]; exact ⟨rfl, rfl⟩))
    (fun os started H enc _ => liftedBallotPicks os started H enc)
end Go.Proofs.Ytjkmeooncmhonaa
