/- Contracts of package audit: whether entries rise, and may be. -/
import Derived.Test.YtleehieomicicaaQA
namespace Go.Proofs.Ytleehieomicicaa.Audit
open Go Go.Proofs.Ytleehieomicicaa.Cf
set_option linter.unusedVariables false
set_option linter.unusedSimpArgs false
set_option maxRecDepth 100000
section
variable {W w : World} {l : List Assn}
/-- Do keys rise? -/
def rises : List S36 → Bool
  | a :: b :: r => decide (a.Key < b.Key) && rises (b :: r)
  | _ => true
theorem rises_iff (L : List S36) : rises L = true ↔ ∀ i, i + 1 < L.length → ∀ a b, L[i]? = some a → L[i + 1]? = some b → a.Key < b.Key := by
  induction L with
  | nil => simp [rises]
  | cons x L ih =>
    cases L with
    | nil => simp [rises]
    | cons y L =>
      simp only [rises, Bool.and_eq_true, decide_eq_true_eq, ih]
      constructor
      · rintro ⟨h1, h2⟩ i hi a b ha hb
        cases i with
        | zero => simp at ha hb; subst ha; subst hb; exact h1
        | succ i => exact h2 i (by simp at hi ⊢; omega) a b (by simpa using ha) (by simpa using hb)
      · intro h
        refine ⟨h 0 (by simp) x y rfl rfl, fun i hi a b ha hb => h (i + 1) (by simp at hi ⊢; omega) a b (by simpa using ha) (by simpa using hb)⟩
theorem rising_spec {s : Slc} {L : List S36} (hm : L.length ≤ 100000) (H : St W (ro T36 s L :: l) w) : cl Try.prog 24 [tSlc.enc s] tBool w fun r w' => r = rises L ∧ St W (ro T36 s L :: l) w' := by
  have hs := ro_len H
  refine F24_ok ?_
  unfold F24
  refine lp_i (fun i w => 1 ≤ i ∧ (∀ j : Nat, (j : Int) + 1 < i → j + 1 < L.length → ∀ a b, L[j]? = some a → L[j + 1]? = some b → a.Key < b.Key) ∧ (i ≤ L.length ∨ i = 1) ∧ St W (ro T36 s L :: l) w) (fun i => (L.length - i).toNat) ⟨Int.le_refl 1, fun j h => by omega, .inr rfl, H⟩ ?_
  rintro i w ⟨h1, h2, h3, H⟩
  unfold F24_l1
  split
  · rename_i hc
    have hc : i < L.length := by simp at hc; omega
    have e1 : IntKind.i64.wrap (i + 1) = i + 1 := wrap_i64 (by omega) (by omega)
    have e2 : IntKind.i64.wrap (i - 1) = i - 1 := wrap_i64 (by omega) (by omega)
    rw [e1, e2]
    have hx : L[(i - 1).toNat]? = some L[(i - 1).toNat] := List.getElem?_eq_getElem (by omega)
    have hy : L[i.toNat]? = some L[i.toNat] := List.getElem?_eq_getElem (by omega)
    obtain ⟨a, ha⟩ := ro_ix (sz := 2) (i := i - 1) H (by omega) (by omega)
    obtain ⟨a', ha'⟩ := ro_ix (sz := 2) (i := i) H (by omega) hc
    refine dr_st H fun w1 H => ?_
    refine ex_i a ha ?_
    refine ex_i a' ha' ?_
    refine ex_i L[(i - 1).toNat].Key (fld_ro (fun _ => rfl) ha hx rfl H) ?_
    refine ex_i L[i.toNat].Key (fld_ro (fun _ => rfl) ha' hy rfl H) ?_
    split
    · rename_i hk
      have hk : L[(i - 1).toNat].Key ≥ L[i.toNat].Key := by simpa using hk
      refine ⟨?_, H⟩
      cases hr : rises L with
      | false => rfl
      | true =>
        have := (rises_iff L).1 hr (i - 1).toNat (by omega) _ _ hx (by rw [show (i - 1).toNat + 1 = i.toNat from by omega]; exact hy)
        omega
    · rename_i hk
      have hk : L[(i - 1).toNat].Key < L[i.toNat].Key := by simpa using hk
      refine ⟨⟨by omega, fun j hj hj2 a b ha hb => ?_, .inl (by omega), H⟩, by omega⟩
      by_cases e : (j : Int) + 1 < i
      · exact h2 j e hj2 a b ha hb
      · have e : j = (i - 1).toNat := by omega
        subst e
        rw [hx] at ha
        rw [show (i - 1).toNat + 1 = i.toNat from by omega, hy] at hb
        cases ha; cases hb; exact hk
  · rename_i hc
    refine ⟨((rises_iff L).2 fun j hj a b ha hb => h2 j ?_ hj a b ha hb).symm, H⟩
    simp at hc; omega
end
end Go.Proofs.Ytleehieomicicaa.Audit
