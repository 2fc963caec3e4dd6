/- What the laws of package post share: a call whose text is cut, and the chapter's example. -/
import Derived.Test.YtpflfnaflacfgaaPC
namespace Go.Proofs.Ytpflfnaflacfgaa.PostS
open Go Go.Proofs.Ytpflfnaflacfgaa.Cf
set_option linter.unusedVariables false
set_option linter.unusedSimpArgs false
set_option maxRecDepth 100000
section
variable {W w : World} {l : List Assn} {b : Nat} {N : Net}
def few (o : S28) : S28 := if 200 < o.M.length then { o with M := o.M.take 200 } else o
theorem few_spec (H : St W l w) (o : S28) : cl Try.prog 15 [T28.enc o] T28 w fun r w' => r = few o ∧ St W l w' := by
  refine F15_ok ?_
  unfold F15
  refine nw_st H fun b1 w1 H => ?_
  refine nw_st H fun b2 w2 H => ?_
  refine ld_st (x := o.M) 1 H rfl rfl rfl ?_
  split
  · rename_i hc
    have hc : 200 < o.M.length := by simp at hc; omega
    refine ld_st (x := o.M) 1 H rfl rfl rfl ?_
    refine ex_i (o.M.take 200) ⟨by omega, by omega, by omega, by simp⟩ ?_
    refine st_st 1 H rfl rfl (Nat.le_of_ble_eq_true rfl) fun w3 H => ?_
    unfold F15_j1
    refine ld_st (x := { o with M := o.M.take 200 }) 0 H rfl rfl rfl ?_
    refine st_st 1 H rfl rfl (Nat.le_of_ble_eq_true rfl) fun w4 H => ?_
    refine ld_st (x := { o with M := o.M.take 200 }) 0 H rfl rfl rfl ?_
    exact ⟨by unfold few; rw [if_pos hc], H.drop.drop⟩
  · rename_i hc
    have hc : ¬ 200 < o.M.length := by simp at hc; omega
    unfold F15_j1
    refine ld_st (x := o) 1 H rfl rfl rfl ?_
    refine st_st 0 H rfl rfl (Nat.le_of_ble_eq_true rfl) fun w4 H => ?_
    refine ld_st (x := o) 0 H rfl rfl rfl ?_
    exact ⟨by unfold few; rw [if_neg hc], H.drop.drop⟩
def N1 : Net := ⟨2, 1, [⟨1, 0, 1, [97]⟩], fun _ => false⟩
def N2 : Net := ⟨2, 2, [⟨1, 0, 1, [97]⟩, ⟨2, 1, 0, [98]⟩], fun _ => false⟩
def N3 : Net := ⟨2, 2, [⟨1, 0, 1, [97]⟩, ⟨2, 1, 0, [98]⟩, ⟨1, 0, 1, [97]⟩], fun _ => false⟩
def N4 : Net := ⟨2, 2, [⟨1, 0, 1, [97]⟩, ⟨1, 0, 1, [97]⟩], fun _ => false⟩
theorem e1 : (Net.new 2).send 0 1 [97] = (N1, 1, 0) := rfl
theorem e2 : N1.send 1 0 [98] = (N2, 2, 0) := rfl
theorem e3 : N2.at_ 0 = (⟨1, 0, 1, [97]⟩, 0) := rfl
theorem e3' : N2.put ⟨1, 0, 1, [97]⟩ = (N3, 0) := rfl
theorem e4 : N3.take 1 = (N4, ⟨2, 1, 0, [98]⟩, 0) := rfl
theorem e5 : N4.has 1 = true := rfl
def N5 : Net := { N4 with off := fun y => if y == 1 then true else N4.off y }
theorem e6 : N5.take 0 = (N5, Z35, 93) := rfl
theorem awake_spec (H : St W l w) : cl Try.prog 10 [] tBool w fun r w' => r = true ∧ St W l w' := by
  refine F10_ok ?_
  unfold F10
  refine cl_mono (New_spec H 2) ?_
  rintro r w1 (⟨h, _⟩ | ⟨_, b, rfl, H⟩)
  · omega
  rw [if_neg (by simp)]
  refine cl_mono (send_spec H (by simp [Net.new]) 0 1 [97]) ?_
  rintro r w2 ⟨rfl, H⟩
  rw [e1] at H ⊢
  refine cl_mono (send_spec H (by simp [N1]) 1 0 [98]) ?_
  rintro r w3 ⟨rfl, H⟩
  rw [e2] at H ⊢
  refine cl_mono (copy_spec H (by simp [N2]) 0) ?_
  rintro r w4 ⟨rfl, H⟩
  simp only [e3, e3', ne_eq, not_true_eq_false, if_false] at H ⊢
  refine cl_mono (take_spec H (by simp [N3]) 1) ?_
  rintro r w5 ⟨rfl, H⟩
  rw [e4] at H ⊢
  refine nw_st H fun b1 w6 H => ?_
  refine st_st (x := (⟨2, 1, 0, [98]⟩ : S35)) 0 H rfl rfl (Nat.le_of_ble_eq_true rfl) fun w7 H => ?_
  refine cl_mono (letters_spec (H.front 1) (by simp [N4])) ?_
  intro ls w8 H
  have hl : ls.len = 2 := row_len H
  refine cl_mono (cutN_spec (H.front 1) 1 true) ?_
  rintro r w9 ⟨rfl, H⟩
  simp only [e5, if_true] at H ⊢
  refine cl_mono (take_spec (N := N5) H (by simp [N5, N4]) 0) ?_
  rintro r w10 ⟨rfl, H⟩
  rw [e6] at H ⊢
  refine nw_st H fun b2 w11 H => ?_
  refine st_st (x := Z35) 0 H rfl rfl (Nat.le_of_ble_eq_true rfl) fun w12 H => ?_
  refine ex_i 2 (fun _ => rdat_cel (tInt .i64) (H.front 3) rfl rfl) ?_
  refine ex_i 1 (fun _ => rdat_cel (tInt .i64) (H.front 3) rfl rfl) ?_
  refine ex_i [98] (fun _ => rdat_cel tStr (H.front 3) rfl rfl) ?_
  have hr : N4.l[(1 : Int).toNat]? = some ⟨1, 0, 1, [97]⟩ := rfl
  obtain ⟨a, ha⟩ := row_ix (i := 1) (H.front 2) (by omega) (by simp [N4])
  refine ex_i a (fun _ => ha) ?_
  refine ex_i 1 (fun _ => fld_row (fun _ => rfl) ha hr rfl (H.front 2)) ?_
  exact ⟨by simp [hl], (((H.drop).drop).drop).drop⟩
end
end Go.Proofs.Ytpflfnaflacfgaa.PostS
