/- Contracts of the document's answer for post: its calls. -/
import Derived.Test.YtpflfnaflacfgaaPL
namespace Go.Proofs.Ytpflfnaflacfgaa.PostS
open Go Go.Proofs.Ytpflfnaflacfgaa.Cf
set_option linter.unusedVariables false
set_option linter.unusedSimpArgs false
set_option maxRecDepth 100000
section
variable {W w : World} {l l' : List Assn} {b : Nat} {N : Net} {m : S48} {t : TypeId}
theorem setSent48 (m : S48) (s : Int) : splice (T48.cells m) 1 ((tInt .i64).cells s) = T48.cells { m with Sent := s } := rfl
theorem fit48 (m : S48) {o n : Nat} (h : o + n ≤ 67) : o + n ≤ (T48.cells m).length := by rw [len48]; exact h
theorem Net.send_no (N : Net) {f t : Int} {M : List UInt8} (h : (!N.has f || !N.has t) = true) : N.send f t M = (N, 0, 90) := by unfold Net.send; rw [if_pos h]
theorem Net.put_yes (N : Net) (x : S35) (hl : N.l.length < 1000) : N.put x = ({ N with l := N.l ++ [x] }, 0) := by unfold Net.put; rw [if_neg (by omega)]
theorem Net.send_yes (N : Net) {f t : Int} {M : List UInt8} (h : (!N.has f || !N.has t) = false) (hl : N.l.length < 1000) :
    N.send f t M = ({ N with l := N.l ++ [⟨IntKind.i64.wrap (N.sent + 1), f, t, M⟩], sent := IntKind.i64.wrap (N.sent + 1) }, IntKind.i64.wrap (N.sent + 1), 0) := by
  unfold Net.send; rw [if_neg (by simp [h]), N.put_yes _ hl, if_neg (by simp)]
theorem new_ref (H : St W l w) (n : Int) : cl Try.prog 19 [.int .i64 n] (tTup2 T48 tBool) w fun r w' => r.1 = ⟨n, 0, Vector.replicate 64 false, nilS⟩ ∧ r.2 = (decide (n ≥ 1) && decide (n ≤ 64)) ∧ St W l w' := by
  refine F19_ok ?_
  unfold F19
  refine nw_st H fun b1 w1 H => ?_
  refine vst_st len48 0 H rfl fun w2 H => ?_
  refine vld_st 0 H rfl ?_
  exact ⟨rfl, rfl, H.drop⟩
theorem rel_new (n : Int) : Rel (Net.new n) ⟨n, 0, Vector.replicate 64 false, nilS⟩ := ⟨rfl, rfl, fun i hi => by
  show (Vector.replicate 64 false).toList[i]? = some false
  rw [Vector.toList_replicate, List.getElem?_replicate, if_pos hi]⟩
theorem send_j1 {b5 b7 : Nat} {m z : S48} {R : (S48 × Int × Int) → World → Prop} (H : St W (cel b5 (T48.cells m) 49 :: cel b7 (T48.cells z) 49 :: l) w) (h : ∀ w', St W l w' → R (m, m.Sent, 0) w') : F36_j1 ⟨b5, 0, none⟩ ⟨b7, 0, none⟩ w R := by
  unfold F36_j1
  refine dr_st H fun w1 H => ?_
  refine vld_st 0 H rfl ?_
  refine ld_st (x := m.Sent) 0 H rfl rfl rfl ?_
  refine vst_st (y := m) len48 1 H rfl fun w2 H => ?_
  refine ⟨rdat_cel (tInt .i64) (H.front 1) rfl rfl, ?_⟩
  refine vld_st 0 H rfl ?_
  exact h _ H.drop.drop
theorem send_ref (hR : Rel N m) (hl : N.l.length < 1000) (H : St W (ro T35 m.L N.l :: l) w) (f t : Int) (M : List UInt8) :
    cl Try.prog 36 [T48.enc m, .int .i64 f, .int .i64 t, .string ⟨M.toArray⟩] (tTup3 T48 (tInt .i64) (tInt .i64)) w fun r w' => r.2 = (N.send f t M).2 ∧ Rel (N.send f t M).1 r.1 ∧ St W (ro T35 r.1.L (N.send f t M).1.l :: l) w' := by
  have hs := ro_len H
  refine F36_ok ?_
  unfold F36
  refine nw_st H fun b5 w1 H => ?_
  refine nw_st H fun b7 w2 H => ?_
  refine ex_i m.Nodes (fun _ => rdat_cel (tInt .i64) (H.front 1) rfl rfl) ?_
  refine ex_i m.Nodes (fun _ => rdat_cel (tInt .i64) (H.front 1) rfl rfl) ?_
  rw [hR.nodes]
  have hc : ((((decide (f < 0)) || (decide (t < 0))) || (decide (f ≥ N.nodes))) || (decide (t ≥ N.nodes))) = (!N.has f || !N.has t) := by
    unfold Net.has
    have a1 : ∀ x n : Int, decide (x < n) = !decide (x ≥ n) := fun x n => by
      by_cases h : x ≥ n
      · rw [decide_eq_true h, decide_eq_false (by omega)]; rfl
      · rw [decide_eq_false h, decide_eq_true (by omega)]; rfl
    rw [a1 f 0, a1 t 0, a1 f, a1 t]
    generalize decide (f ≥ 0) = c1; generalize decide (t ≥ 0) = c2; generalize decide (f ≥ N.nodes) = c3; generalize decide (t ≥ N.nodes) = c4
    cases c1 <;> cases c2 <;> cases c3 <;> cases c4 <;> rfl
  rw [hc]
  cases hh : (!N.has f || !N.has t) with
  | true =>
    rw [if_pos rfl, N.send_no hh]
    refine vld_st 1 H rfl ?_
    refine vst_st (y := m) len48 0 H rfl fun w3 H => ?_
    refine vld_st 0 H rfl ?_
    exact ⟨rfl, hR, H.drop.drop⟩
  | false =>
    rw [if_neg (by decide), N.send_yes hh hl]
    refine ld_st (x := m.L) 1 H rfl (by rw [add_at]) (L48 m) ?_
    rw [if_neg (by simp [hs]; omega)]
    refine ld_st (x := m.Sent) 1 H rfl rfl rfl ?_
    refine st_st 1 H rfl rfl (fit48 _ (Nat.le_of_ble_eq_true rfl)) fun w3 H => ?_
    rw [setSent48] at H
    generalize hsn : IntKind.i64.wrap (m.Sent + 1) = sn at *
    have hsn' : IntKind.i64.wrap (N.sent + 1) = sn := by rw [← hR.sent]; exact hsn
    rw [hsn']
    refine dr_st H fun w4 H => ?_
    refine ld_st (x := m.L) 0 H rfl (by rw [add_at]) (L48 _) ?_
    refine ld_st (x := sn) 0 H rfl rfl rfl ?_
    have fin : ∀ (r : Slc) (w5 : World), St W (row T35 75 4 r (N.l ++ [⟨sn, f, t, M⟩]) :: cel b5 (T48.cells { m with Sent := sn }) 49 :: cel b7 (T48.cells Z48) 49 :: l) w5 →
        kp (RdAt tSlc ((⟨b5, 0, none⟩ : Addr).add 66) w5 m.L) (kp (RdAt (tInt .i64) ((⟨b5, 0, none⟩ : Addr).add 1) w5 sn) (st tSlc ((⟨b5, 0, none⟩ : Addr).add 66) r w5 fun w41 => F36_j1 ⟨b5, 0, none⟩ ⟨b7, 0, none⟩ w41 fun r w' =>
          r.2 = (sn, (0 : Int)) ∧ Rel { N with l := N.l ++ [⟨sn, f, t, M⟩], sent := sn } r.1 ∧ St W (ro T35 r.1.L (N.l ++ [⟨sn, f, t, M⟩]) :: l) w')) := by
      intro r w5 H
      refine ⟨rdat_cel tSlc (H.front 1) (by rw [add_at]) (L48 _), ?_⟩
      refine ⟨rdat_cel (tInt .i64) (H.front 1) rfl rfl, ?_⟩
      refine st_st (x := r) 1 H rfl (by rw [add_at]) (fit48 _ (Nat.le_of_ble_eq_true rfl)) fun w6 H => ?_
      rw [setL48] at H
      refine send_j1 (H.ord [0, 2]) fun w7 H => ?_
      exact ⟨rfl, ⟨hR.nodes, rfl, hR.off⟩, row_stay H⟩
    refine ⟨?_, ?_⟩
    · refine nwS_st H fun b30 w5 H => ?_
      have H : St W (row T35 75 4 ⟨some ⟨b30, 0, none⟩, 0, 0⟩ [] :: cel b5 (T48.cells { m with Sent := sn }) 49 :: cel b7 (T48.cells Z48) 49 :: ro T35 m.L N.l :: l) w5 := row_new (T := T35) (t := 75) (sz := 4) (xs := []) (m := 0) rfl H
      refine ⟨?_, ?_⟩
      · refine apd_row (xs := []) (new := N.l) (fun _ => rfl) 0 H rfl (RdO_ro (H.front 3)) (by simp; omega) fun r w6 H => ?_
        refine ⟨rdat_cel (tInt .i64) (H.front 1) rfl rfl, ?_⟩
        refine apl_row (xs := N.l) (fun _ => rfl) 0 H rfl (by simp; omega) fun r2 w7 H => ?_
        exact fin r2 w7 ((H.front 3).drop)
      · refine nwS_st H fun b42 w6 H => ?_
        have H : St W (row T35 75 4 ⟨some ⟨b42, 0, none⟩, 1, 1⟩ [⟨sn, f, t, M⟩] :: row T35 75 4 ⟨some ⟨b30, 0, none⟩, 0, 0⟩ [] :: cel b5 (T48.cells { m with Sent := sn }) 49 :: cel b7 (T48.cells Z48) 49 :: ro T35 m.L N.l :: l) w6 := row_new (T := T35) (t := 75) (sz := 4) (xs := [_]) (m := 1) rfl H
        refine apd_row (xs := []) (new := N.l) (fun _ => rfl) 1 H rfl (RdO_ro (H.front 4)) (by simp; omega) fun r w7 H => ?_
        refine ⟨rdat_cel (tInt .i64) (H.front 2) rfl rfl, ?_⟩
        refine apd_row (xs := N.l) (new := [_]) (fun _ => rfl) 0 H rfl (RdO_row (H.front 1)) (by simp; omega) fun r2 w8 H => ?_
        exact fin r2 w8 (((H.front 1).drop.front 3).drop)
    · refine nwS_st H fun b42 w5 H => ?_
      have H : St W (row T35 75 4 ⟨some ⟨b42, 0, none⟩, 1, 1⟩ [⟨sn, f, t, M⟩] :: cel b5 (T48.cells { m with Sent := sn }) 49 :: cel b7 (T48.cells Z48) 49 :: ro T35 m.L N.l :: l) w5 := row_new (T := T35) (t := 75) (sz := 4) (xs := [_]) (m := 1) rfl H
      refine nwS_st H fun b30 w6 H => ?_
      have H : St W (row T35 75 4 ⟨some ⟨b30, 0, none⟩, 0, 0⟩ [] :: row T35 75 4 ⟨some ⟨b42, 0, none⟩, 1, 1⟩ [⟨sn, f, t, M⟩] :: cel b5 (T48.cells { m with Sent := sn }) 49 :: cel b7 (T48.cells Z48) 49 :: ro T35 m.L N.l :: l) w6 := row_new (T := T35) (t := 75) (sz := 4) (xs := []) (m := 0) rfl H
      refine apd_row (xs := []) (new := N.l) (fun _ => rfl) 0 H rfl (RdO_ro (H.front 4)) (by simp; omega) fun r w7 H => ?_
      refine ⟨rdat_cel (tInt .i64) (H.front 2) rfl rfl, ?_⟩
      refine apd_row (xs := N.l) (new := [_]) (fun _ => rfl) 0 H rfl (RdO_row (H.front 1)) (by simp; omega) fun r2 w8 H => ?_
      exact fin r2 w8 (((H.front 1).drop.front 3).drop)
end
end Go.Proofs.Ytpflfnaflacfgaa.PostS
