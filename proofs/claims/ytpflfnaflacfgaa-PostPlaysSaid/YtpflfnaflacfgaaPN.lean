/- Contracts of the document's answer for post: the other calls. -/
import Derived.Test.YtpflfnaflacfgaaPM
namespace Go.Proofs.Ytpflfnaflacfgaa.PostS
open Go Go.Proofs.Ytpflfnaflacfgaa.Cf
set_option linter.unusedVariables false
set_option linter.unusedSimpArgs false
set_option maxRecDepth 100000
section
variable {W w : World} {l l' : List Assn} {b : Nat} {N : Net} {m : S48} {t : TypeId}
theorem addr48 (b o n : Nat) : ((⟨b, o, none⟩ : Addr).add 2).add (n * 1) = ⟨b, o + 2 + n, none⟩ := by rw [add_at, add_at, Nat.mul_one]
theorem out_iff {s : Slc} {xs : List S35} (hs : s.len = xs.length) (i : Int) : ((decide (i < 0)) || (decide (i ≥ (s.len : Int)))) = true ↔ (i < 0 ∨ (xs.length : Int) ≤ i) := by
  simp [hs]
theorem take_ref (hR : Rel N m) (hN : Sound N) (hl : N.l.length < 1000) (H : St W (ro T35 m.L N.l :: l) w) (i : Int) :
    cl Try.prog 37 [T48.enc m, .int .i64 i] (tTup3 T48 T35 (tInt .i64)) w fun r w' => r.2 = (N.take i).2 ∧ Rel (N.take i).1 r.1 ∧ St W (ro T35 r.1.L (N.take i).1.l :: l) w' := by
  have hs := ro_len H
  refine F37_ok ?_
  unfold F37
  refine nw_st H fun b3 w1 H => ?_
  refine nw_st H fun b5 w2 H => ?_
  refine nw_st H fun b7 w3 H => ?_
  refine ex_i m.L (fun _ => rdat_cel tSlc (H.front 2) (by rw [add_at]) (L48 m)) ?_
  by_cases hc : i < 0 ∨ (N.l.length : Int) ≤ i
  · rw [if_pos ((out_iff hs i).2 hc)]
    refine vld_st 2 H rfl ?_
    refine vst_st (y := m) len48 1 H rfl fun w4 H => ?_
    refine st_st 1 H rfl rfl (Nat.le_of_ble_eq_true rfl) fun w5 H => ?_
    refine vld_st (x := m) 1 H rfl ?_
    refine ld_st (x := Z35) 0 H rfl rfl rfl ?_
    have ha := N.at_out hc
    rw [N.take_at (by rw [ha]; decide), ha]
    exact ⟨rfl, hR, H.drop.drop.drop⟩
  · rw [if_neg (fun h => hc ((out_iff hs i).1 h))]
    obtain ⟨x, hx⟩ : ∃ x, N.l[i.toNat]? = some x := ⟨_, List.getElem?_eq_getElem (by omega)⟩
    have ha := N.at_in (by omega) hx
    have hmem := List.mem_of_getElem? hx
    obtain ⟨g1, g2⟩ := hN.all x hmem
    have g3 := hN.n64
    have g1 : 0 ≤ x.From ∧ x.From < N.nodes := by simpa [Net.has] using g1
    have g2 : 0 ≤ x.To ∧ x.To < N.nodes := by simpa [Net.has] using g2
    refine ld_st (x := m.L) 2 H rfl (by rw [add_at]) (L48 m) ?_
    obtain ⟨a, hia⟩ := ro_ix (sz := 4) (i := i) (H.front 3) (by omega) (by omega)
    refine ex_i a hia ?_
    refine ex_i x (rd_ro (fun _ => rfl) hia hx (H.front 3)) ?_
    refine nw_st H fun b18 w4 H => ?_
    refine st_st (x := x) 0 H rfl rfl (Nat.le_of_ble_eq_true rfl) fun w5 H => ?_
    have H : St W (cel b18 (T35.cells x) 75 :: cel b7 (T35.cells Z35) 75 :: cel b5 (T48.cells Z48) 49 :: cel b3 (T48.cells m) 49 :: ro T35 m.L N.l :: l) w5 := H
    refine ld_st (x := x.From) 0 H rfl rfl rfl ?_
    refine ixr_i g1.1 (by omega) ?_
    have o1 := hR.off x.From.toNat (by omega)
    have o2 := hR.off x.To.toNat (by omega)
    rw [show ((x.From.toNat : Nat) : Int) = x.From from by omega] at o1
    rw [show ((x.To.toNat : Nat) : Int) = x.To from by omega] at o2
    refine ex_i (N.off x.From) (rdat_cel tBool (H.front 3) (by rw [addr48, Nat.zero_add]) (off48 m o1)) ?_
    refine ex_i x.To (fun _ => rdat_cel (tInt .i64) H rfl rfl) ?_
    refine ex_i _ (fun _ => ⟨g2.1, by omega, rfl⟩) ?_
    refine ex_i (N.off x.To) (fun _ => rdat_cel tBool (H.front 3) (by rw [addr48, Nat.zero_add]) (off48 m o2)) ?_
    cases ho : (N.off x.From || N.off x.To) with
    | true =>
      rw [if_pos rfl, N.take_off (by rw [ha]) (by rw [ha]; exact ho)]
      refine vld_st 3 H rfl ?_
      refine vst_st (y := m) len48 2 H rfl fun w6 H => ?_
      refine st_st (x := Z35) 2 H rfl rfl (Nat.le_of_ble_eq_true rfl) fun w7 H => ?_
      refine vld_st (x := m) 1 H rfl ?_
      refine ld_st (x := Z35) 0 H rfl rfl rfl ?_
      exact ⟨rfl, hR, H.drop.drop.drop.drop⟩
    | false =>
      rw [if_neg (by decide), N.take_ok (by rw [ha]) (by rw [ha]; exact ho)]
      refine ld_st (x := m.L) 3 H rfl (by rw [add_at]) (L48 m) ?_
      refine cl_mono (without_spec (i := i) (by omega) (by omega) (H.front 4)) ?_
      intro r w6 H
      refine st_st (x := r) 5 H rfl (by rw [add_at]) (fit48 _ (Nat.le_of_ble_eq_true rfl)) fun w7 H => ?_
      rw [setL48] at H
      refine dr_st H fun w8 H => ?_
      have H : St W (cel b3 (T48.cells { m with L := r }) 49 :: ro T35 r (N.l.eraseIdx i.toNat) :: ro T35 m.L N.l :: cel b18 (T35.cells x) 75 :: cel b7 (T35.cells Z35) 75 :: cel b5 (T48.cells Z48) 49 :: l) w8 := H
      refine vld_st 0 H rfl ?_
      refine ld_st (x := x) 3 H rfl rfl rfl ?_
      refine vst_st (y := { m with L := r }) len48 5 H rfl fun w9 H => ?_
      refine ⟨rdat_cel T35 (H.front 4) rfl rfl, ?_⟩
      refine st_st (x := x) 5 H rfl rfl (Nat.le_of_ble_eq_true rfl) fun w10 H => ?_
      refine vld_st (x := { m with L := r }) 1 H rfl ?_
      refine ld_st (x := x) 0 H rfl rfl rfl ?_
      refine ⟨by rw [ha], ⟨hR.nodes, hR.sent, hR.off⟩, ?_⟩
      exact ((H.ord [3, 0, 1, 2, 4, 5]).front 0 |> fun H => ((((H.ord [1, 2, 3, 4, 5]).drop).drop).drop).drop.drop)
theorem lose_ref (hR : Rel N m) (hl : N.l.length < 1000) (H : St W (ro T35 m.L N.l :: l) w) (i : Int) :
    cl Try.prog 39 [T48.enc m, .int .i64 i] (tTup2 T48 (tInt .i64)) w fun r w' => r.2 = (N.at_ i).2 ∧ Rel (if (N.at_ i).2 = 0 then { N with l := N.l.eraseIdx i.toNat } else N) r.1 ∧
      St W (ro T35 r.1.L (if (N.at_ i).2 = 0 then { N with l := N.l.eraseIdx i.toNat } else N).l :: l) w' := by
  have hs := ro_len H
  refine F39_ok ?_
  unfold F39
  refine nw_st H fun b3 w1 H => ?_
  refine nw_st H fun b5 w2 H => ?_
  refine ex_i m.L (fun _ => rdat_cel tSlc (H.front 1) (by rw [add_at]) (L48 m)) ?_
  by_cases hc : i < 0 ∨ (N.l.length : Int) ≤ i
  · rw [if_pos ((out_iff hs i).2 hc)]
    refine vld_st 1 H rfl ?_
    refine vst_st (y := m) len48 0 H rfl fun w4 H => ?_
    refine vld_st (x := m) 0 H rfl ?_
    rw [N.at_out hc]
    simp only [show ¬ (92 : Int) = 0 by decide, if_false]
    exact ⟨by trivial, hR, H.drop.drop⟩
  · rw [if_neg (fun h => hc ((out_iff hs i).1 h))]
    obtain ⟨x, hx⟩ : ∃ x, N.l[i.toNat]? = some x := ⟨_, List.getElem?_eq_getElem (by omega)⟩
    rw [N.at_in (by omega) hx]
    simp only [if_true]
    refine ld_st (x := m.L) 1 H rfl (by rw [add_at]) (L48 m) ?_
    refine cl_mono (without_spec (i := i) (by omega) (by omega) (H.front 2)) ?_
    intro r w6 H
    refine st_st (x := r) 3 H rfl (by rw [add_at]) (fit48 _ (Nat.le_of_ble_eq_true rfl)) fun w7 H => ?_
    rw [setL48] at H
    refine vld_st 0 H rfl ?_
    refine vst_st (y := { m with L := r }) len48 3 H rfl fun w9 H => ?_
    refine vld_st (x := { m with L := r }) 0 H rfl ?_
    exact ⟨by trivial, ⟨hR.nodes, hR.sent, hR.off⟩, (H.drop.drop.front 1).drop⟩
theorem cut_ref (hR : Rel N m) (hN : Sound N) (H : St W l w) (x : Int) (q : Bool) :
    cl Try.prog 40 [T48.enc m, .int .i64 x, .bool q] (tTup2 T48 (tInt .i64)) w fun r w' => r.2 = (if N.has x then 0 else 90) ∧ Rel (if N.has x then { N with off := fun y => if y == x then q else N.off y } else N) r.1 ∧ r.1.L = m.L ∧ St W l w' := by
  refine F40_ok ?_
  unfold F40
  refine nw_st H fun b3 w1 H => ?_
  refine nw_st H fun b5 w2 H => ?_
  refine ex_i m.Nodes (fun _ => rdat_cel (tInt .i64) (H.front 1) rfl rfl) ?_
  rw [hR.nodes]
  have g3 := hN.n64
  by_cases hc : 0 ≤ x ∧ x < N.nodes
  · have hh : N.has x = true := by simp [Net.has, hc]
    rw [if_neg (by simp; omega), hh]
    refine ixr_i hc.1 (by omega) ?_
    refine st_st (x := q) 1 H rfl (by rw [addr48, Nat.zero_add]) (fit48 _ (by show 2 + x.toNat + 1 ≤ 67; omega)) fun w3 H => ?_
    rw [setOff48 m (by omega)] at H
    refine vld_st 0 H rfl ?_
    refine vst_st (y := { m with Off := m.Off.set x.toNat q (by omega) }) len48 1 H rfl fun w9 H => ?_
    refine vld_st 0 H rfl ?_
    simp only [if_true]
    refine ⟨by trivial, ⟨hR.nodes, hR.sent, fun i hi => ?_⟩, by trivial, H.drop.drop⟩
    simp only [Vector.toList_set]
    by_cases e : i = x.toNat
    · subst e
      rw [List.getElem?_set_self (by simpa using hi)]
      simp only [show ((x.toNat : Nat) : Int) = x from by omega, beq_self_eq_true, if_true]
    · rw [List.getElem?_set_ne (by omega), hR.off i hi]
      have : (((i : Nat) : Int) == x) = false := beq_eq_false_iff_ne.2 (by omega)
      simp only [this, Bool.false_eq_true, if_false]
  · have hh : N.has x = false := by simp [Net.has]; omega
    rw [if_pos (by simp; omega), hh]
    refine vld_st 1 H rfl ?_
    refine vst_st (y := m) len48 0 H rfl fun w4 H => ?_
    refine vld_st (x := m) 0 H rfl ?_
    simp only [Bool.false_eq_true, if_false]
    exact ⟨by trivial, hR, by trivial, H.drop.drop⟩
end
end Go.Proofs.Ytpflfnaflacfgaa.PostS
