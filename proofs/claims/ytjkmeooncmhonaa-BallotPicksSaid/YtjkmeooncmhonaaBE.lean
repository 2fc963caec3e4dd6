/- The laws' own question whether anything is awake. -/
import Derived.Test.YtjkmeooncmhonaaBD
namespace Go.Proofs.Ytjkmeooncmhonaa.Ballot
open Go Go.Proofs.Ytjkmeooncmhonaa.Cf Go.Proofs.Ytjkmeooncmhonaa.Wire Go.Proofs.Ytjkmeooncmhonaa.Disk
set_option linter.unusedVariables false
set_option linter.unusedSimpArgs false
set_option maxRecDepth 100000
def aw1 : List Rec := [.prom 5]
def aw2 : List Rec := [.prom 5, .acc 5 1 [97]]
def aw3 : List Rec := [.prom 5, .acc 5 1 [97], .acc 7 2 [99]]
theorem aw_a : prepR [] 5 = (aw1, 0) := by simp [prepR, whyR, numB, fold, aw1]
theorem aw_f2 : fold aw2 = (5, [(1, ⟨1, 5, [97]⟩)]) := by simp [fold, aw2, stepR, ups]; omega
theorem aw_f3 : fold aw3 = (7, [(1, ⟨1, 5, [97]⟩), (2, ⟨2, 7, [99]⟩)]) := by simp [fold, aw3, stepR, ups]; omega
theorem aw_f1 : fold aw1 = (5, []) := by simp [fold, aw1, stepR]; omega
theorem aw_b : accR aw1 5 1 [97] = (aw2, 0) := by simp [accR, whyR, numB, slotB, aw_f1]; rfl
theorem aw_c : accR aw2 4 1 [98] = (aw2, 234) := by simp [accR, whyR, numB, slotB, aw_f2]
theorem aw_d : accR aw2 5 1 [98] = (aw2, 235) := by simp [accR, whyR, numB, slotB, aw_f2]
theorem aw_e : accR aw2 7 2 [99] = (aw3, 0) := by simp [accR, whyR, numB, slotB, aw_f2, List.lookup]; rfl
theorem aw_g : prepR aw3 6 = (aw3, 234) := by simp [prepR, whyR, numB, aw_f3]
theorem aw_h : prepR aw3 7 = (aw3, 0) := by simp [prepR, whyR, numB, aw_f3]
theorem aw_l : listV (fold aw3).2 = [⟨1, 5, [97]⟩, ⟨2, 7, [99]⟩] := by
  rw [aw_f3]
  unfold listV
  rw [sortI_sorted (by simp)]
  simp [List.lookup]
theorem aw_n : listV (fold ([] : List Rec)).2 = [] := by
  unfold listV fold
  rw [sortI_sorted (by simp)]
  rfl
theorem aw_p : listV (pickE [⟨1, 5, [97]⟩, ⟨2, 7, [99]⟩, ⟨1, 6, [98]⟩, ⟨3, 1, [99]⟩]) = [⟨1, 6, [98]⟩, ⟨2, 7, [99]⟩, ⟨3, 1, [99]⟩] := by
  have : pickE [⟨1, 5, [97]⟩, ⟨2, 7, [99]⟩, ⟨1, 6, [98]⟩, ⟨3, 1, [99]⟩] = [(1, ⟨1, 6, [98]⟩), (2, ⟨2, 7, [99]⟩), (3, ⟨3, 1, [99]⟩)] := by
    simp [pickE, pick1, ups, List.lookup]
  rw [this]
  unfold listV
  rw [sortI_sorted (by simp)]
  simp [List.lookup]
section
variable {W w : World} {l l' : List Assn}
theorem awake_spec (H : St W l w) : cl Try.prog 7 [] tBool w fun r w' => r = true ∧ St W l w' := by
  refine F7_ok ?_
  unfold F7
  refine cl_mono (new_spec (by omega) (by omega) H) ?_
  rintro ⟨p1, e1⟩ w ⟨he, d, hp, H⟩
  simp only at he hp
  subst he; subst hp
  refine cl_mono (hopen_spec H) ?_
  rintro ⟨p2, e2⟩ w ⟨he, a, hp, H⟩
  simp only at he hp
  subst he; subst hp
  rw [if_neg (by simp)]
  refine cl_mono (hprep_spec (b := 5) (by simp) H) ?_
  rintro ⟨q6, e6⟩ w ⟨he, h2, _⟩
  rw [aw_a] at he h2
  have H := h2 rfl
  clear h2
  simp only at he H
  subst he
  rw [aw_n] at H
  have n6 := row_len H
  simp only [List.length_nil] at n6
  refine cl_mono (hacc_spec (b := 5) (n := 1) (v := [97]) (by simp [aw1]) H.drop) ?_
  rintro e w ⟨he, H⟩
  rw [aw_b] at he H
  simp only at he H
  subst he
  refine cl_mono (hacc_spec (b := 4) (n := 1) (v := [98]) (by simp [aw2]) H) ?_
  rintro e w ⟨he, H⟩
  rw [aw_c] at he H
  simp only at he H
  subst he
  refine cl_mono (hacc_spec (b := 5) (n := 1) (v := [98]) (by simp [aw2]) H) ?_
  rintro e w ⟨he, H⟩
  rw [aw_d] at he H
  simp only at he H
  subst he
  refine cl_mono (hacc_spec (b := 7) (n := 2) (v := [99]) (by simp [aw2]) H) ?_
  rintro e w ⟨he, H⟩
  rw [aw_e] at he H
  simp only at he H
  subst he
  refine cl_mono (hprep_spec (b := 6) (by simp [aw3]) H) ?_
  rintro ⟨q16, e16⟩ w ⟨he, _, h3⟩
  rw [aw_g] at he h3
  have H := (h3 (by simp)).2
  clear h3
  simp only at he H
  subst he
  refine cl_mono (hprep_spec (b := 7) (by simp [aw3]) H) ?_
  rintro ⟨q18, e18⟩ w ⟨he, h2, _⟩
  rw [aw_h] at he h2
  have H := h2 rfl
  clear h2
  simp only at he H
  subst he
  rw [aw_l] at H
  have n18 := row_len H
  simp only [List.length_cons, List.length_nil] at n18
  refine nwS_st H fun b19 w H => ?_
  have H := row_new (sz := 3) (m := 2) rfl H
  refine nwS_st H fun b21 w H => ?_
  have H := row_new (sz := 1) (m := 2) rfl H
  refine cl_mono (pick_spec (qs := [q18, ⟨some ⟨b19, 0, none⟩, 2, 2⟩]) (xss := [[⟨1, 5, [97]⟩, ⟨2, 7, [99]⟩], [⟨1, 6, [98]⟩, ⟨3, 1, [99]⟩]]) rfl (See.row (fun _ => rfl) 0 rfl) ?_ ?_ (by simp) (by simp) H) ?_
  · intro i s xs h1 h2
    match i with
    | 0 =>
      simp at h1 h2
      subst h1; subst h2
      exact See.row (fun _ => rfl) 2 rfl
    | 1 =>
      simp at h1 h2
      subst h1; subst h2
      exact See.row (fun _ => rfl) 1 rfl
    | i + 2 => simp at h1
  · intro x hx
    simp at hx
    rcases hx with rfl | rfl | rfl | rfl <;> simp [InI]
  intro r24 w H
  have e : ([[⟨1, 5, [97]⟩, ⟨2, 7, [99]⟩], [⟨1, 6, [98]⟩, ⟨3, 1, [99]⟩]] : List (List Vote)).flatten = [⟨1, 5, [97]⟩, ⟨2, 7, [99]⟩, ⟨1, 6, [98]⟩, ⟨3, 1, [99]⟩] := rfl
  rw [e, aw_p] at H
  have n24 := row_len H
  simp only [List.length_cons, List.length_nil] at n24
  obtain ⟨a25, ha25⟩ := row_ix (i := 1) (H.front 3) (by omega) (by simp)
  refine ex_i a25 (fun _ => ha25) ?_
  refine ex_i [99] (fun _ => fld_row (x := (⟨2, 7, [99]⟩ : Vote)) (U := tStr) (fun _ => rfl) ha25 rfl rfl (H.front 3)) ?_
  rw [if_pos (by simp [n6, n18])]
  have H := (H.ord [1, 2, 3]).drop.drop.drop
  refine cl_mono (hprom_spec (H.front 1)) ?_
  rintro r42 w ⟨rfl, H⟩
  rw [aw_f3]
  unfold F7_j1
  rw [if_pos (by simp)]
  refine nc_st rfl ?_
  refine hsync_spec (by simp [aw3]) H fun w H => ?_
  unfold F7_j2
  have H := H.front 1
  obtain ⟨a31, ha31⟩ := row_ix (i := 0) H (by omega) (by simp)
  refine ex_i a31 (fun _ => ha31) ?_
  refine ex_i [98] (fun _ => fld_row (x := (⟨1, 6, [98]⟩ : Vote)) (U := tStr) (fun _ => rfl) ha31 rfl rfl H) ?_
  obtain ⟨a33, ha33⟩ := row_ix (i := 1) H (by omega) (by simp)
  refine ex_i a33 (fun _ => ha33) ?_
  refine ex_i 7 (fun _ => fld_row (x := (⟨2, 7, [99]⟩ : Vote)) (U := tInt .i64) (fun _ => rfl) ha33 rfl rfl H) ?_
  exact ⟨by simp [n24], H.drop.drop⟩
end
end Go.Proofs.Ytjkmeooncmhonaa.Ballot
