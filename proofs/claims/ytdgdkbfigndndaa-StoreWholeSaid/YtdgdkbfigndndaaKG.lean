/- Contracts of the reference: Last, versions, Time, counts, Get, Close, Put. -/
import Derived.Test.YtdgdkbfigndndaaKF
namespace Go.Proofs.Ytdgdkbfigndndaa.Store
open Go Go.Proofs.Ytdgdkbfigndndaa.Cf
set_option linter.unusedVariables false
set_option linter.unusedSimpArgs false
set_option maxRecDepth 100000
theorem vs_take {L : List S75} {k : Int} {i : Nat} {r : S75} (hr : L[i]? = some r) : vs (L.take (i + 1)) k = vs (L.take i) k ++ if r.X.Key = k then [⟨r.T_, r.X.V⟩] else [] := by
  obtain ⟨hi, rfl⟩ := List.getElem?_eq_some_iff.1 hr
  rw [List.take_succ_eq_append_getElem hi, vs_app, vs_cons, vs_nil]
theorem lastV_app (L : List S35) (v : S35) : lastV (L ++ [v]) = (v, true) := by unfold lastV; simp
theorem upto_app (L M : List S35) (t : Int) : upto (L ++ M) t = upto L t ++ upto M t := List.filter_append ..
/-- A store of the reference and what it has. -/
structure Ref (m : S26) (M : Md) : Prop where
  closed : m.Closed = M.closed
  mark : m.Mark = M.mark
section
variable {W w : World} {l l' : List Assn}
theorem rlast_spec {m : S26} {L : List S75} {key : Int} (hm : L.length ≤ 100000) (k : Know l (RoP T75 m.L L)) (H : St W l w) : cl Try.prog 14 [T26.enc m, .int .i64 key] (tTup2 T35 tBool) w fun r w' => r = lastV (vs L key) ∧ St W l w' := by
  have hs := k.len H
  refine F14_ok ?_
  unfold F14
  refine nw_st H fun b3 w1 H => ?_
  refine nw_st H fun b5 w2 H => ?_
  refine nw_st H fun b7 w3 H => ?_
  refine vst_st (x := Z35) (y := (⟨0, 0⟩ : S35)) len36 0 H rfl fun w4 H => ?_
  refine lp_i (fun p w => 0 ≤ p.2 ∧ p.2 ≤ L.length ∧ p.1 = (lastV (vs (L.take p.2.toNat) key)).2 ∧ St W (cel b7 (T35.cells (lastV (vs (L.take p.2.toNat) key)).1) 36 :: cel b5 (T35.cells Z35) 36 :: cel b3 (T26.cells m) 27 :: l) w) (fun p => (L.length - p.2).toNat)
    ⟨Int.le_refl 0, by simp only; omega, rfl, H⟩ ?_
  rintro ⟨ok, i⟩ w ⟨h0, h1, h2, H⟩
  simp only at h0 h1 h2 H ⊢
  unfold F14_l1
  refine ld_st (x := m.L) 2 H rfl rfl rfl ?_
  rw [hs]
  split
  · rename_i hc
    have hc : i < L.length := by simpa using hc
    have e1 : IntKind.i64.wrap (i + 1) = i + 1 := wrap_i64 (by omega) (by omega)
    have hx : L[i.toNat]? = some L[i.toNat] := List.getElem?_eq_getElem (by omega)
    have hvt := vs_take (k := key) hx
    rw [← show (i + 1).toNat = i.toNat + 1 from by omega] at hvt
    generalize L[i.toNat] = r at hx hvt
    refine ld_st (x := m.L) 2 H rfl rfl rfl ?_
    obtain ⟨a, ha⟩ := k.ix (sz := 3) (i := i) (((H.drop).drop).drop) h0 hc
    have k3 := k.tail (A := cel b3 (T26.cells m) 27) |>.tail (A := cel b5 (T35.cells Z35) 36) |>.tail (A := cel b7 (T35.cells (lastV (vs (L.take i.toNat) key)).1) 36)
    refine ex_i a ha ?_
    refine ex_i r.X.Key (k3.fld2 (fun _ => rfl) ha hx rfl H) ?_
    split
    · rename_i hk
      have hk : r.X.Key = key := by simpa using hk
      rw [if_pos hk] at hvt
      refine dr_st H fun w5 H => ?_
      refine ld_st (x := m.L) 2 H rfl rfl rfl ?_
      refine ex_i a ha ?_
      refine ex_i r.T_ (k3.fld (fun _ => rfl) ha hx rfl H) ?_
      refine ld_st (x := m.L) 2 H rfl rfl rfl ?_
      refine ex_i a ha ?_
      refine ex_i r.X.V (k3.fld2 (fun _ => rfl) ha hx rfl H) ?_
      generalize hgo : (lastV (vs (L.take i.toNat) key)).1 = old at H
      refine vst_st (x := old) (y := (⟨r.T_, r.X.V⟩ : S35)) len36 0 H rfl fun w6 H => ?_
      unfold F14_j2
      rw [e1]
      refine ⟨⟨by simp only; omega, by simp only; omega, ?_, ?_⟩, by simp only; omega⟩
      · simp only; rw [hvt, lastV_app]
      · simp only; rw [hvt, lastV_app]; exact H
    · rename_i hk
      have hk : ¬ r.X.Key = key := by simpa using hk
      rw [if_neg hk, List.append_nil] at hvt
      unfold F14_j2
      rw [e1]
      refine ⟨⟨by simp only; omega, by simp only; omega, ?_, ?_⟩, by simp only; omega⟩
      · simp only; rw [hvt]; exact h2
      · simp only; rw [hvt]; exact H
  · rename_i hc
    have hc : i = L.length := by simp at hc; omega
    subst hc
    have e : L.take ((L.length : Int)).toNat = L := by simp
    rw [e] at h2 H
    generalize lastV (vs L key) = q at *
    refine vld_st (x := q.1) 0 H rfl ?_
    refine vst_st (x := Z35) (y := q.1) len36 1 H rfl fun w5 H => ?_
    refine vld_st (x := q.1) 0 H rfl ?_
    exact ⟨by rw [h2], H.drop.drop.drop⟩
theorem versions_spec {m : S26} {L : List S75} {key : Int} (hm : L.length ≤ 100000) (k : Know l (RoP T75 m.L L)) (H : St W l w) : cl Try.prog 46 [T26.enc m, .int .i64 key] (tInt .i64) w fun r w' => r = (vs L key).length ∧ St W l w' := by
  have hs := k.len H
  refine F46_ok ?_
  unfold F46
  refine nw_st H fun b3 w1 H => ?_
  refine lp_i (fun p w => 0 ≤ p.2 ∧ p.2 ≤ L.length ∧ p.1 = (vs (L.take p.2.toNat) key).length ∧ St W (cel b3 (T26.cells m) 27 :: l) w) (fun p => (L.length - p.2).toNat)
    ⟨Int.le_refl 0, by simp only; omega, rfl, H⟩ ?_
  rintro ⟨c, i⟩ w ⟨h0, h1, h2, H⟩
  simp only at h0 h1 h2 H ⊢
  have hcl := Nat.le_trans (vs_len (L.take i.toNat) key) (List.length_take_le' _ _)
  unfold F46_l1
  refine ld_st (x := m.L) 0 H rfl rfl rfl ?_
  rw [hs]
  split
  · rename_i hc
    have hc : i < L.length := by simpa using hc
    have e1 : IntKind.i64.wrap (i + 1) = i + 1 := wrap_i64 (by omega) (by omega)
    have e2 : IntKind.i64.wrap (c + 1) = c + 1 := wrap_i64 (by omega) (by omega)
    have hx : L[i.toNat]? = some L[i.toNat] := List.getElem?_eq_getElem (by omega)
    have hvt := vs_take (k := key) hx
    rw [← show (i + 1).toNat = i.toNat + 1 from by omega] at hvt
    generalize L[i.toNat] = r at hx hvt
    refine ld_st (x := m.L) 0 H rfl rfl rfl ?_
    obtain ⟨a, ha⟩ := k.ix (sz := 3) (i := i) H.drop h0 hc
    refine ex_i a ha ?_
    refine ex_i r.X.Key (k.tail.fld2 (fun _ => rfl) ha hx rfl H) ?_
    split
    · rename_i hk
      have hk : r.X.Key = key := by simpa using hk
      rw [if_pos hk] at hvt
      unfold F46_j2
      rw [e1, e2]
      refine ⟨⟨by simp only; omega, by simp only; omega, ?_, H⟩, by simp only; omega⟩
      simp only; rw [hvt, h2]; simp
    · rename_i hk
      have hk : ¬ r.X.Key = key := by simpa using hk
      rw [if_neg hk, List.append_nil] at hvt
      unfold F46_j2
      rw [e1]
      refine ⟨⟨by simp only; omega, by simp only; omega, ?_, H⟩, by simp only; omega⟩
      simp only; rw [hvt]; exact h2
  · rename_i hc
    have hc : i = L.length := by simp at hc; omega
    subst hc
    have e : L.take ((L.length : Int)).toNat = L := by simp
    rw [e] at h2
    exact ⟨h2, H.drop⟩
theorem rcount_spec {m : S26} {L : List S75} {key t : Int} (hm : L.length ≤ 100000) (k : Know l (RoP T75 m.L L)) (H : St W l w) : cl Try.prog 39 [T26.enc m, .int .i64 key, .int .i64 t] (tTup2 T35 tBool) w fun r w' => r = lastV (upto (vs L key) t) ∧ St W l w' := by
  have hs := k.len H
  refine F39_ok ?_
  unfold F39
  refine nw_st H fun b3 w1 H => ?_
  refine nw_st H fun b5 w2 H => ?_
  refine nw_st H fun b7 w3 H => ?_
  refine vst_st (x := Z35) (y := (⟨0, 0⟩ : S35)) len36 0 H rfl fun w4 H => ?_
  refine lp_i (fun p w => 0 ≤ p.2 ∧ p.2 ≤ L.length ∧ p.1 = (lastV (upto (vs (L.take p.2.toNat) key) t)).2 ∧ St W (cel b7 (T35.cells (lastV (upto (vs (L.take p.2.toNat) key) t)).1) 36 :: cel b5 (T35.cells Z35) 36 :: cel b3 (T26.cells m) 27 :: l) w) (fun p => (L.length - p.2).toNat)
    ⟨Int.le_refl 0, by simp only; omega, rfl, H⟩ ?_
  rintro ⟨ok, i⟩ w ⟨h0, h1, h2, H⟩
  simp only at h0 h1 h2 H ⊢
  unfold F39_l1
  refine ld_st (x := m.L) 2 H rfl rfl rfl ?_
  rw [hs]
  split
  · rename_i hc
    have hc : i < L.length := by simpa using hc
    have e1 : IntKind.i64.wrap (i + 1) = i + 1 := wrap_i64 (by omega) (by omega)
    have hx : L[i.toNat]? = some L[i.toNat] := List.getElem?_eq_getElem (by omega)
    have hvt := vs_take (k := key) hx
    rw [← show (i + 1).toNat = i.toNat + 1 from by omega] at hvt
    generalize L[i.toNat] = r at hx hvt
    refine ld_st (x := m.L) 2 H rfl rfl rfl ?_
    obtain ⟨a, ha⟩ := k.ix (sz := 3) (i := i) (((H.drop).drop).drop) h0 hc
    have k3 := k.tail (A := cel b3 (T26.cells m) 27) |>.tail (A := cel b5 (T35.cells Z35) 36) |>.tail (A := cel b7 (T35.cells (lastV (upto (vs (L.take i.toNat) key) t)).1) 36)
    refine ex_i a ha ?_
    refine ex_i r.X.Key (k3.fld2 (fun _ => rfl) ha hx rfl H) ?_
    refine ex_i m.L (fun _ => rdat_cel tSlc (H.front 2) rfl rfl) ?_
    refine ex_i a (fun _ => ha) ?_
    refine ex_i r.T_ (fun _ => k3.fld (fun _ => rfl) ha hx rfl H) ?_
    split
    · rename_i hk
      have hk : r.X.Key = key ∧ r.T_ ≤ t := by simpa using hk
      rw [if_pos hk.1] at hvt
      have hut : upto (vs (L.take (i + 1).toNat) key) t = upto (vs (L.take i.toNat) key) t ++ [⟨r.T_, r.X.V⟩] := by
        rw [hvt, upto_app]; congr 1; unfold upto; rw [List.filter_cons_of_pos (by simpa using hk.2)]; rfl
      refine dr_st H fun w5 H => ?_
      refine ld_st (x := m.L) 2 H rfl rfl rfl ?_
      refine ex_i a ha ?_
      refine ex_i r.T_ (k3.fld (fun _ => rfl) ha hx rfl H) ?_
      refine ld_st (x := m.L) 2 H rfl rfl rfl ?_
      refine ex_i a ha ?_
      refine ex_i r.X.V (k3.fld2 (fun _ => rfl) ha hx rfl H) ?_
      generalize hgo : (lastV (upto (vs (L.take i.toNat) key) t)).1 = old at H
      refine vst_st (x := old) (y := (⟨r.T_, r.X.V⟩ : S35)) len36 0 H rfl fun w6 H => ?_
      unfold F39_j2
      rw [e1]
      refine ⟨⟨by simp only; omega, by simp only; omega, ?_, ?_⟩, by simp only; omega⟩
      · simp only; rw [hut, lastV_app]
      · simp only; rw [hut, lastV_app]; exact H
    · rename_i hk
      have hk : ¬ (r.X.Key = key ∧ r.T_ ≤ t) := by simpa using hk
      have hut : upto (vs (L.take (i + 1).toNat) key) t = upto (vs (L.take i.toNat) key) t := by
        rw [hvt]
        split
        · rename_i h
          rw [upto_app]
          have : upto [(⟨r.T_, r.X.V⟩ : S35)] t = [] := by
            unfold upto; rw [List.filter_cons_of_neg (by simp; exact Int.not_le.1 fun h2 => hk ⟨h, h2⟩)]; rfl
          rw [this, List.append_nil]
        · rw [List.append_nil]
      unfold F39_j2
      rw [e1]
      refine ⟨⟨by simp only; omega, by simp only; omega, ?_, ?_⟩, by simp only; omega⟩
      · simp only; rw [hut]; exact h2
      · simp only; rw [hut]; exact H
  · rename_i hc
    have hc : i = L.length := by simp at hc; omega
    subst hc
    have e : L.take ((L.length : Int)).toNat = L := by simp
    rw [e] at h2 H
    generalize lastV (upto (vs L key) t) = q at *
    refine vld_st (x := q.1) 0 H rfl ?_
    refine vst_st (x := Z35) (y := q.1) len36 1 H rfl fun w5 H => ?_
    refine vld_st (x := q.1) 0 H rfl ?_
    exact ⟨by rw [h2], H.drop.drop.drop⟩
theorem rtime_spec {m : S26} {M : Md} {t : Int} (hR : Ref m M) (H : St W l w) : cl Try.prog 37 [T26.enc m, .int .i64 t] (tInt .i64) w fun r w' => r = timeM M t ∧ St W l w' := by
  refine F37_ok ?_
  unfold F37
  refine nw_st H fun b3 w1 H => ?_
  unfold timeM
  rw [← hR.closed, ← hR.mark]
  split
  · rename_i hc
    rw [if_pos (by simpa using hc)]
    exact ⟨rfl, H.drop⟩
  · rename_i hc
    rw [if_neg (by simpa using hc)]
    refine ld_st (x := m.Closed) 0 H rfl rfl rfl ?_
    split
    · rename_i hc
      rw [if_pos (by simpa using hc)]
      exact ⟨rfl, H.drop⟩
    · rename_i hc
      rw [if_neg (by simpa using hc)]
      refine ld_st (x := m.Mark) 0 H rfl rfl rfl ?_
      split
      · rename_i hc
        rw [if_pos (by simpa using hc)]
        exact ⟨rfl, H.drop⟩
      · rename_i hc
        rw [if_neg (by simpa using hc)]
        exact ⟨rfl, H.drop⟩
theorem rget_spec {m : S26} {M : Md} {key t : Int} (hm : M.rows.length ≤ 100000) (hR : Ref m M) (k : Know l (RoP T75 m.L M.rows)) (H : St W l w) : cl Try.prog 28 [T26.enc m, .int .i64 key, .int .i64 t] (tTup2 T35 (tInt .i64)) w fun r w' => r = getM M key t ∧ St W l w' := by
  refine F28_ok ?_
  unfold F28
  refine nw_st H fun b4 w1 H => ?_
  refine nw_st H fun b6 w2 H => ?_
  unfold getM
  split
  · rename_i hc
    rw [if_pos (by simpa using hc)]
    refine vst_st (x := Z35) (y := (⟨0, 0⟩ : S35)) len36 0 H rfl fun w3 H => ?_
    refine vld_st (x := (⟨0, 0⟩ : S35)) 0 H rfl ?_
    exact ⟨rfl, H.drop.drop⟩
  · rename_i hc
    rw [if_neg (by simpa using hc)]
    refine vld_st (x := m) 1 H rfl ?_
    refine cl_mono (rtime_spec (t := t) hR H) ?_
    rintro r w3 ⟨rfl, H⟩
    split
    · rename_i hc
      have hc : timeM M t ≠ 0 := by simpa using hc
      rw [if_pos hc]
      refine vst_st (x := Z35) (y := (⟨0, 0⟩ : S35)) len36 0 H rfl fun w3 H => ?_
      refine vld_st (x := (⟨0, 0⟩ : S35)) 0 H rfl ?_
      exact ⟨rfl, H.drop.drop⟩
    · rename_i hc
      have hc : timeM M t = 0 := by simpa using hc
      rw [if_neg (by omega)]
      refine vld_st (x := m) 1 H rfl ?_
      refine cl_mono (rcount_spec (key := key) (t := t) hm k.tail.tail H) ?_
      rintro r w4 ⟨rfl, H⟩
      refine nw_st H fun b8 w5 H => ?_
      unfold cnt lastV
      cases hg : (upto (vs M.rows key) t).getLast? with
      | none =>
        refine vst_st (x := Z35) (y := (⟨0, 0⟩ : S35)) len36 0 H rfl fun w6 H => ?_
        rw [if_pos (by simp)]
        refine vst_st (x := Z35) (y := (⟨0, 0⟩ : S35)) len36 1 H rfl fun w7 H => ?_
        refine vld_st (x := (⟨0, 0⟩ : S35)) 0 H rfl ?_
        exact ⟨rfl, H.drop.drop.drop⟩
      | some v =>
        refine vst_st (x := Z35) (y := v) len36 0 H rfl fun w6 H => ?_
        rw [if_neg (by simp)]
        refine vld_st (x := v) 0 H rfl ?_
        refine vst_st (x := Z35) (y := v) len36 1 H rfl fun w7 H => ?_
        refine vld_st (x := v) 0 H rfl ?_
        exact ⟨rfl, H.drop.drop.drop⟩
theorem rclose_spec {m : S26} {M : Md} {t : Int} (hR : Ref m M) (k : Know l (RoP T75 m.L M.rows)) (H : St W l w) : cl Try.prog 30 [T26.enc m, .int .i64 t] (tTup2 T26 (tInt .i64)) w fun r w' => r.2 = closeE t ∧ Ref r.1 (closeM M t) ∧ St W (ro T75 r.1.L (closeM M t).rows :: l) w' := by
  refine F30_ok ?_
  unfold F30
  refine nw_st H fun b3 w1 H => ?_
  refine nw_st H fun b5 w2 H => ?_
  have hj : ∀ (c : Int) (w : World), c = (closeM M t).closed → (closeM M t).rows = M.rows → (closeM M t).mark = M.mark → closeE t = 0 → St W (cel b3 (T26.cells ⟨m.L, c, m.Mark⟩) 27 :: cel b5 (T26.cells Z26) 27 :: l) w →
      F30_j1 ⟨b3, 0, none⟩ ⟨b5, 0, none⟩ w fun r w' => r.2 = closeE t ∧ Ref r.1 (closeM M t) ∧ St W (ro T75 r.1.L (closeM M t).rows :: l) w' := by
    intro c w hc hr hmk he H
    unfold F30_j1
    refine vld_st (x := (⟨m.L, c, m.Mark⟩ : S26)) 0 H rfl ?_
    refine vst_st (x := Z26) (y := (⟨m.L, c, m.Mark⟩ : S26)) len27 1 H rfl fun w3 H => ?_
    refine vld_st (x := (⟨m.L, c, m.Mark⟩ : S26)) 0 H rfl ?_
    exact ⟨he.symm, ⟨hc, by rw [hmk]; exact hR.mark⟩, by rw [hr]; exact St.ro k H.drop.drop⟩
  split
  · rename_i hc
    have e : closeE t = 120 := by unfold closeE; rw [if_pos (by simpa using hc)]
    refine vld_st (x := m) 1 H rfl ?_
    refine vst_st (x := Z26) (y := m) len27 0 H rfl fun w3 H => ?_
    refine vld_st (x := m) 0 H rfl ?_
    unfold closeM
    rw [e, if_neg (by omega)]
    exact ⟨rfl, hR, St.ro k H.drop.drop⟩
  · rename_i hc
    have e : closeE t = 0 := by unfold closeE; rw [if_neg (by simpa using hc)]
    have hM : closeM M t = { M with closed := max M.closed t } := by unfold closeM; rw [if_pos e]
    refine ld_st (x := m.Closed) 1 H rfl rfl rfl ?_
    have hcl := hR.closed
    split
    · rename_i hc2
      refine st_st (x := t) 1 H rfl rfl (Nat.le_of_ble_eq_true rfl) fun w3 H => ?_
      exact hj t _ (by rw [hM]; simp at hc2 ⊢; omega) (by rw [hM]) (by rw [hM]) e H
    · rename_i hc2
      exact hj m.Closed _ (by rw [hM]; simp at hc2 ⊢; omega) (by rw [hM]) (by rw [hM]) e (H.front 1)
end
end Go.Proofs.Ytdgdkbfigndndaa.Store
