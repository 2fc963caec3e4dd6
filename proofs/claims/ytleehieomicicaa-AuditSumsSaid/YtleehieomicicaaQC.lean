/- Contracts of package audit: whether entries may be. -/
import Derived.Test.YtleehieomicicaaQB
namespace Go.Proofs.Ytleehieomicicaa.Audit
open Go Go.Proofs.Ytleehieomicicaa.Cf
set_option linter.unusedVariables false
set_option linter.unusedSimpArgs false
set_option maxRecDepth 100000
section
variable {W w : World} {l : List Assn}
def wrong (x : S36) : Bool := decide (x.V < 0) || decide (x.V > 4611686018427387904)
theorem wrong_spec (H : St W l w) (x : S36) : clv Try.prog (Fv.mk (.func 37) #[] #[]) [T36.enc x] tBool w fun r w' => r = wrong x ∧ St W l w' := by
  refine ⟨37, [], rfl, ent37, ?_⟩
  show cl Try.prog 37 [T36.enc x] tBool w _
  refine F37_ok ?_
  unfold F37
  refine nw_st H fun b w1 H => ?_
  refine ld_st (x := x.V) 0 H rfl rfl rfl ?_
  refine ex_i x.V (fun _ => rdat_cel (tInt .i64) H rfl rfl) ?_
  exact ⟨rfl, H.drop⟩
theorem may_spec {s : Slc} {L : List S36} (hm : L.length ≤ 100000) (H : St W (ro T36 s L :: l) w) : cl Try.prog 25 [tSlc.enc s] tBool w fun r w' => r = L.all (fun x => !wrong x) ∧ St W (ro T36 s L :: l) w' := by
  have hs := ro_len H
  refine F25_ok ?_
  unfold F25
  refine F36_ok ?_
  unfold F36
  refine F42_ok ?_
  unfold F42
  refine lp_i (fun i w => 0 ≤ i ∧ i ≤ L.length ∧ (∀ x ∈ L.take i.toNat, wrong x = false) ∧ St W (ro T36 s L :: l) w) (fun i => (L.length - i).toNat) ⟨Int.le_refl 0, by omega, by simp, H⟩ ?_
  rintro i w ⟨h0, h1, h2, H⟩
  unfold F42_l1
  split
  · rename_i hc
    have hc : i < L.length := by simp at hc; omega
    have e1 : IntKind.i64.wrap (i + 1) = i + 1 := wrap_i64 (by omega) (by omega)
    have hx : L[i.toNat]? = some L[i.toNat] := List.getElem?_eq_getElem (by omega)
    obtain ⟨a, ha⟩ := ro_ix (sz := 2) (i := i) H h0 hc
    refine ex_i a ha ?_
    refine ex_i L[i.toNat] (rd_ro (fun _ => rfl) ha hx H) ?_
    obtain ⟨g, c, hfv, hen, h⟩ := wrong_spec H L[i.toNat]
    refine ⟨g, c, hfv, hen, cl_mono h ?_⟩
    rintro r w1 ⟨rfl, H⟩
    split
    · rename_i hw
      refine ⟨?_, H⟩
      have : L.all (fun x => !wrong x) = false := by
        rw [List.all_eq_false]
        exact ⟨_, List.mem_of_getElem? hx, by simp [hw]⟩
      rw [this]; simp [h0]
    · rename_i hw
      rw [e1]
      refine ⟨⟨by omega, by omega, ?_, H⟩, by omega⟩
      intro x hxm
      rw [show (i + 1).toNat = i.toNat + 1 from by omega, List.take_succ_eq_append_getElem (by omega), List.mem_append] at hxm
      rcases hxm with hxm | hxm
      · exact h2 x hxm
      · rw [List.mem_singleton.1 hxm]; simpa using hw
  · rename_i hc
    have hc : i = L.length := by simp at hc; omega
    subst hc
    refine ⟨?_, H⟩
    have : L.all (fun x => !wrong x) = true := by
      rw [List.all_eq_true]
      intro x hx
      simp [h2 x (by simpa using hx)]
    rw [this]; rfl
end
end Go.Proofs.Ytleehieomicicaa.Audit
