/- Contracts of the document's answer for post: copies, purges, and what is told. -/
import Derived.Test.YtpflfnaflacfgaaPN
namespace Go.Proofs.Ytpflfnaflacfgaa.PostS
open Go Go.Proofs.Ytpflfnaflacfgaa.Cf
set_option linter.unusedVariables false
set_option linter.unusedSimpArgs false
set_option maxRecDepth 100000
section
variable {W w : World} {l l' : List Assn} {b : Nat} {N : Net} {m : S48} {t : TypeId}
theorem copy_j1 {b3 b5 : Nat} {m z : S48} {R : (S48 × Int) → World → Prop} (H : St W (cel b3 (T48.cells m) 49 :: cel b5 (T48.cells z) 49 :: l) w) (h : ∀ w', St W l w' → R (m, 0) w') : F38_j1 ⟨b3, 0, none⟩ ⟨b5, 0, none⟩ w R := by
  unfold F38_j1
  refine vld_st 0 H rfl ?_
  refine vst_st (y := m) len48 1 H rfl fun w2 H => ?_
  refine vld_st 0 H rfl ?_
  exact h _ H.drop.drop
theorem copy_ref (hR : Rel N m) (hl : N.l.length < 1000) (H : St W (ro T35 m.L N.l :: l) w) (i : Int) :
    cl Try.prog 38 [T48.enc m, .int .i64 i] (tTup2 T48 (tInt .i64)) w fun r w' => r.2 = (if (N.at_ i).2 ≠ 0 then (N.at_ i).2 else (N.put (N.at_ i).1).2) ∧ Rel (if (N.at_ i).2 ≠ 0 then N else (N.put (N.at_ i).1).1) r.1 ∧
      St W (ro T35 r.1.L (if (N.at_ i).2 ≠ 0 then N else (N.put (N.at_ i).1).1).l :: l) w' := by
  have hs := ro_len H
  refine F38_ok ?_
  unfold F38
  refine nw_st H fun b3 w1 H => ?_
  refine nw_st H fun b5 w2 H => ?_
  refine ex_i m.L (fun _ => rdat_cel tSlc (H.front 1) (by rw [add_at]) (L48 m)) ?_
  by_cases hc : i < 0 ∨ (N.l.length : Int) ≤ i
  · rw [if_pos ((out_iff hs i).2 hc)]
    refine vld_st 1 H rfl ?_
    refine vst_st (y := m) len48 0 H rfl fun w4 H => ?_
    refine vld_st (x := m) 0 H rfl ?_
    rw [N.at_out hc]
    simp only [ne_eq, show ¬ (92 : Int) = 0 by decide, not_false_eq_true, if_true]
    exact ⟨by trivial, hR, H.drop.drop⟩
  · rw [if_neg (fun h => hc ((out_iff hs i).1 h))]
    obtain ⟨x, hx⟩ : ∃ x, N.l[i.toNat]? = some x := ⟨_, List.getElem?_eq_getElem (by omega)⟩
    rw [N.at_in (by omega) hx]
    simp only [ne_eq, not_true_eq_false, if_false, N.put_yes x hl]
    refine ld_st (x := m.L) 1 H rfl (by rw [add_at]) (L48 m) ?_
    rw [if_neg (by simp [hs]; omega)]
    refine dr_st H fun w4 H => ?_
    refine ld_st (x := m.L) 1 H rfl (by rw [add_at]) (L48 _) ?_
    refine ld_st (x := m.L) 1 H rfl (by rw [add_at]) (L48 _) ?_
    obtain ⟨a, hia⟩ := ro_ix (sz := 4) (i := i) (H.front 2) (by omega) (by omega)
    refine ex_i a hia ?_
    refine ex_i x (rd_ro (fun _ => rfl) hia hx (H.front 2)) ?_
    have H : St W (ro T35 m.L N.l :: cel b3 (T48.cells m) 49 :: cel b5 (T48.cells Z48) 49 :: l) w4 := (H.ord [2, 1, 0])
    have H : St W (ro T35 m.L N.l :: ro T35 m.L N.l :: cel b3 (T48.cells m) 49 :: cel b5 (T48.cells Z48) 49 :: l) w4 := H.dup
    have fin : ∀ (r : Slc) (w5 : World), St W (row T35 75 4 r (N.l ++ [x]) :: ro T35 m.L N.l :: cel b3 (T48.cells m) 49 :: cel b5 (T48.cells Z48) 49 :: l) w5 →
        kp (RdAt tSlc ((⟨b3, 0, none⟩ : Addr).add 66) w5 m.L) (kp (RdAt tSlc ((⟨b3, 0, none⟩ : Addr).add 66) w5 m.L) (kp (RdAt T35 a w5 x) (st tSlc ((⟨b3, 0, none⟩ : Addr).add 66) r w5 fun w41 => F38_j1 ⟨b3, 0, none⟩ ⟨b5, 0, none⟩ w41 fun r w' =>
          r.2 = (0 : Int) ∧ Rel { N with l := N.l ++ [x] } r.1 ∧ St W (ro T35 r.1.L (N.l ++ [x]) :: l) w'))) := by
      intro r w5 H
      refine ⟨rdat_cel tSlc (H.front 2) (by rw [add_at]) (L48 _), ?_⟩
      refine ⟨rdat_cel tSlc (H.front 2) (by rw [add_at]) (L48 _), ?_⟩
      refine ⟨rd_ro (fun _ => rfl) hia hx (H.front 1), ?_⟩
      refine st_st (x := r) 2 H rfl (by rw [add_at]) (fit48 _ (Nat.le_of_ble_eq_true rfl)) fun w6 H => ?_
      rw [setL48] at H
      refine copy_j1 (H.ord [0, 3]) fun w7 H => ?_
      exact ⟨rfl, ⟨hR.nodes, hR.sent, hR.off⟩, row_stay ((H.front 1).drop)⟩
    have H := H.drop
    refine ⟨?_, ?_⟩
    · refine nwS_st H fun b30 w5 H => ?_
      have H : St W (row T35 75 4 ⟨some ⟨b30, 0, none⟩, 0, 0⟩ [] :: ro T35 m.L N.l :: cel b3 (T48.cells m) 49 :: cel b5 (T48.cells Z48) 49 :: l) w5 := row_new (T := T35) (t := 75) (sz := 4) (xs := []) (m := 0) rfl H
      refine ⟨?_, ?_⟩
      · refine apd_row (xs := []) (new := N.l) (fun _ => rfl) 0 H rfl (RdO_ro (H.front 1)) (by simp; omega) fun r w6 H => ?_
        refine ⟨rdat_cel tSlc (H.front 2) (by rw [add_at]) (L48 _), ?_⟩
        refine ⟨rd_ro (fun _ => rfl) hia hx (H.front 1), ?_⟩
        refine apl_row (xs := N.l) (fun _ => rfl) 0 H rfl (by simp; omega) fun r2 w7 H => ?_
        exact fin r2 w7 H
      · refine nwS_st H fun b42 w6 H => ?_
        have H : St W (row T35 75 4 ⟨some ⟨b42, 0, none⟩, 1, 1⟩ [x] :: row T35 75 4 ⟨some ⟨b30, 0, none⟩, 0, 0⟩ [] :: ro T35 m.L N.l :: cel b3 (T48.cells m) 49 :: cel b5 (T48.cells Z48) 49 :: l) w6 := row_new (T := T35) (t := 75) (sz := 4) (xs := [_]) (m := 1) rfl H
        refine apd_row (xs := []) (new := N.l) (fun _ => rfl) 1 H rfl (RdO_ro (H.front 2)) (by simp; omega) fun r w7 H => ?_
        refine ⟨rdat_cel tSlc (H.front 3) (by rw [add_at]) (L48 _), ?_⟩
        refine ⟨rd_ro (fun _ => rfl) hia hx (H.front 2), ?_⟩
        refine apd_row (xs := N.l) (new := [_]) (fun _ => rfl) 0 H rfl (RdO_row (H.front 1)) (by simp; omega) fun r2 w8 H => ?_
        exact fin r2 w8 ((H.front 1).drop)
    · refine nwS_st H fun b42 w5 H => ?_
      have H : St W (row T35 75 4 ⟨some ⟨b42, 0, none⟩, 1, 1⟩ [x] :: ro T35 m.L N.l :: cel b3 (T48.cells m) 49 :: cel b5 (T48.cells Z48) 49 :: l) w5 := row_new (T := T35) (t := 75) (sz := 4) (xs := [_]) (m := 1) rfl H
      refine nwS_st H fun b30 w6 H => ?_
      have H : St W (row T35 75 4 ⟨some ⟨b30, 0, none⟩, 0, 0⟩ [] :: row T35 75 4 ⟨some ⟨b42, 0, none⟩, 1, 1⟩ [x] :: ro T35 m.L N.l :: cel b3 (T48.cells m) 49 :: cel b5 (T48.cells Z48) 49 :: l) w6 := row_new (T := T35) (t := 75) (sz := 4) (xs := []) (m := 0) rfl H
      refine apd_row (xs := []) (new := N.l) (fun _ => rfl) 0 H rfl (RdO_ro (H.front 2)) (by simp; omega) fun r w7 H => ?_
      refine ⟨rdat_cel tSlc (H.front 3) (by rw [add_at]) (L48 _), ?_⟩
      refine ⟨rd_ro (fun _ => rfl) hia hx (H.front 2), ?_⟩
      refine apd_row (xs := N.l) (new := [_]) (fun _ => rfl) 0 H rfl (RdO_row (H.front 1)) (by simp; omega) fun r2 w8 H => ?_
      exact fin r2 w8 ((H.front 1).drop)
theorem purge_ref (hR : Rel N m) (hl : N.l.length < 1000) (H : St W (ro T35 m.L N.l :: l) w) (x : Int) :
    cl Try.prog 41 [T48.enc m, .int .i64 x] (tTup2 T48 (tInt .i64)) w fun r w' => r.2 = (if N.has x then 0 else 90) ∧ Rel (if N.has x then { N with l := N.l.filter fun y => !(y.To == x) } else N) r.1 ∧
      St W (ro T35 r.1.L (if N.has x then { N with l := N.l.filter fun y => !(y.To == x) } else N).l :: l) w' := by
  have hs := ro_len H
  refine F41_ok ?_
  unfold F41
  refine nw_st H fun b3 w1 H => ?_
  refine nw_st H fun b5 w2 H => ?_
  refine ex_i m.Nodes (fun _ => rdat_cel (tInt .i64) (H.front 1) rfl rfl) ?_
  rw [hR.nodes]
  by_cases hc : 0 ≤ x ∧ x < N.nodes
  · have hh : N.has x = true := by simp [Net.has, hc]
    rw [if_neg (by simp; omega), hh]
    refine nwS_st H fun b30 w5 H => ?_
    have H : St W (row T35 75 4 ⟨some ⟨b30, 0, none⟩, 0, 0⟩ [] :: cel b5 (T48.cells Z48) 49 :: cel b3 (T48.cells m) 49 :: ro T35 m.L N.l :: l) w5 := row_new (T := T35) (t := 75) (sz := 4) (xs := []) (m := 0) rfl H
    have hfl : ∀ i : Nat, ((N.l.take i).filter fun y => !(y.To == x)).length ≤ N.l.length := fun i => Nat.le_trans (List.length_filter_le _ _) (by rw [List.length_take]; omega)
    refine lp_i (fun q w => 0 ≤ q.2 ∧ q.2 ≤ N.l.length ∧ St W (row T35 75 4 q.1 ((N.l.take q.2.toNat).filter fun y => !(y.To == x)) :: cel b5 (T48.cells Z48) 49 :: cel b3 (T48.cells m) 49 :: ro T35 m.L N.l :: l) w) (fun q => (N.l.length - q.2).toNat)
      ⟨Int.le_refl 0, by simp only; omega, by simpa using H⟩ ?_
    rintro ⟨out, j⟩ w ⟨hj0, hj1, H⟩
    simp only at hj0 hj1 H
    simp only
    unfold F41_l1
    refine ld_st (x := m.L) 2 H rfl (by rw [add_at]) (L48 m) ?_
    split
    · rename_i hc
      have hc : j < N.l.length := by simp at hc; omega
      have e1 : IntKind.i64.wrap (j + 1) = j + 1 := wrap_i64 (by omega) (by omega)
      have hx : N.l[j.toNat]? = some N.l[j.toNat] := List.getElem?_eq_getElem (by omega)
      have ht : N.l.take (j + 1).toNat = N.l.take j.toNat ++ [N.l[j.toNat]] := by
        rw [show (j + 1).toNat = j.toNat + 1 from by omega, List.take_succ_eq_append_getElem (by omega)]
      obtain ⟨a, ha⟩ := ro_ix (sz := 4) (i := j) (H.front 3) hj0 hc
      refine ld_st (x := m.L) 2 H rfl (by rw [add_at]) (L48 m) ?_
      refine ex_i a ha ?_
      refine ex_i N.l[j.toNat].To (fld_ro (fun _ => rfl) ha hx rfl (H.front 3)) ?_
      unfold F41_j2
      rw [e1]
      have hf := hfl j.toNat
      split
      · rename_i hne
        refine ld_st (x := m.L) 2 H rfl (by rw [add_at]) (L48 m) ?_
        refine ex_i a ha ?_
        refine ex_i N.l[j.toNat] (rd_ro (fun _ => rfl) ha hx (H.front 3)) ?_
        refine apl_row (fun _ => rfl) 0 H rfl (by simp only [List.length_singleton]; omega) fun r w2 H => ?_
        refine ⟨⟨by simp only; omega, by simp only; omega, ?_⟩, by simp only; omega⟩
        simp only
        rw [ht, List.filter_append, List.filter_cons_of_pos (by simpa using hne), List.filter_nil]
        exact H
      · rename_i hne
        refine ⟨⟨by simp only; omega, by simp only; omega, ?_⟩, by simp only; omega⟩
        simp only
        rw [ht, List.filter_append, List.filter_cons_of_neg (by simpa using hne), List.filter_nil, List.append_nil]
        exact H
    · rename_i hc
      have hc : j = N.l.length := by simp at hc; omega
      subst hc
      have e : N.l.take ((N.l.length : Int)).toNat = N.l := by simp
      rw [e] at H
      refine st_st (x := out) 2 H rfl (by rw [add_at]) (fit48 _ (Nat.le_of_ble_eq_true rfl)) fun w6 H => ?_
      rw [setL48] at H
      refine vld_st 0 H rfl ?_
      refine vst_st (y := { m with L := out }) len48 2 H rfl fun w7 H => ?_
      refine vld_st (x := { m with L := out }) 0 H rfl ?_
      simp only [if_true]
      exact ⟨by trivial, ⟨hR.nodes, hR.sent, hR.off⟩, row_stay ((H.drop.drop.front 1).drop)⟩
  · have hh : N.has x = false := by simp [Net.has]; omega
    rw [if_pos (by simp; omega), hh]
    refine vld_st 1 H rfl ?_
    refine vst_st (y := m) len48 0 H rfl fun w4 H => ?_
    refine vld_st (x := m) 0 H rfl ?_
    simp only [Bool.false_eq_true, if_false]
    exact ⟨by trivial, hR, H.drop.drop⟩
/-- Like letters are told so. -/
theorem told_spec {r q : Slc} {L : List S35} (hL : L.length ≤ 1000) (H : St W (ro T35 r L :: ro T35 q L :: l) w) : cl Try.prog 21 [tSlc.enc r, tSlc.enc q] tBool w fun r w' => r = true ∧ St W l w' := by
  have h1 := ro_len H
  have h2 := ro_len (H.front 1)
  refine F21_ok ?_
  unfold F21
  rw [if_neg (by simp; omega)]
  refine lp_i (fun i w => 0 ≤ i ∧ i ≤ L.length ∧ St W (ro T35 r L :: ro T35 q L :: l) w) (fun i => (L.length - i).toNat) ⟨Int.le_refl 0, by omega, H⟩ ?_
  rintro i w ⟨h0, h1, H⟩
  unfold F21_l1
  split
  · rename_i hc
    have hc : i < L.length := by simp at hc; omega
    have e1 : IntKind.i64.wrap (i + 1) = i + 1 := wrap_i64 (by omega) (by omega)
    have hx : L[i.toNat]? = some L[i.toNat] := List.getElem?_eq_getElem (by omega)
    obtain ⟨a, ha⟩ := ro_ix (sz := 4) (i := i) H h0 hc
    obtain ⟨a', ha'⟩ := ro_ix (sz := 4) (i := i) (H.front 1) h0 hc
    generalize L[i.toNat] = x at hx
    refine dr_st H fun w1 H => ?_
    refine ex_i a ha ?_
    refine ex_i a' ha' ?_
    refine ex_i x.ID (fld_ro (fun _ => rfl) ha hx rfl H) ?_
    refine ex_i x.ID (fld_ro (fun _ => rfl) ha' hx rfl (H.front 1)) ?_
    refine ex_i a (fun _ => ha) ?_
    refine ex_i a' (fun _ => ha') ?_
    refine ex_i x.From (fun _ => fld_ro (fun _ => rfl) ha hx rfl H) ?_
    refine ex_i x.From (fun _ => fld_ro (fun _ => rfl) ha' hx rfl (H.front 1)) ?_
    refine ex_i a (fun _ => ha) ?_
    refine ex_i a' (fun _ => ha') ?_
    refine ex_i x.To (fun _ => fld_ro (fun _ => rfl) ha hx rfl H) ?_
    refine ex_i x.To (fun _ => fld_ro (fun _ => rfl) ha' hx rfl (H.front 1)) ?_
    refine ex_i a (fun _ => ha) ?_
    refine ex_i a' (fun _ => ha') ?_
    refine ex_i x.M (fun _ => fld_ro (fun _ => rfl) ha hx rfl H) ?_
    refine ex_i x.M (fun _ => fld_ro (fun _ => rfl) ha' hx rfl (H.front 1)) ?_
    rw [if_neg (by simp), e1]
    exact ⟨⟨by omega, by omega, H⟩, by omega⟩
  · exact ⟨rfl, H.drop.drop⟩
end
end Go.Proofs.Ytpflfnaflacfgaa.PostS
