/- Contracts of the reference: Put, Prune. -/
import Derived.Test.YtdgdkbfigndndaaKG
namespace Go.Proofs.Ytdgdkbfigndndaa.Store
open Go Go.Proofs.Ytdgdkbfigndndaa.Cf
set_option linter.unusedVariables false
set_option linter.unusedSimpArgs false
set_option maxRecDepth 100000
section
variable {W w : World} {l l' : List Assn}
theorem rput_spec {m : S26} {M : Md} {t : Int} {s : Slc} {xs : List S57} (hm : M.rows.length ≤ 9000) (hx : xs.length ≤ 1000) (hR : Ref m M) (k : Know l (RoP T75 m.L M.rows)) (kx : See 2 l T57 s xs) (H : St W l w) :
    cl Try.prog 27 [T26.enc m, .int .i64 t, tSlc.enc s] (tTup2 T26 (tInt .i64)) w fun r w' => r.2 = putE M t xs ∧ Ref r.1 (putM M t xs) ∧ St W (ro T75 r.1.L (putM M t xs).rows :: l) w' := by
  have hs := kx.len H
  have hsm := k.len H
  refine F27_ok ?_
  unfold F27
  refine nw_st H fun b4 w1 H => ?_
  refine nw_st H fun b6 w2 H => ?_
  -- refused
  have hno : ∀ (e : Int) (w : World) (z : List Assn), putE M t xs = e → e ≠ 0 → St W (cel b6 (T26.cells Z26) 27 :: cel b4 (T26.cells m) 27 :: z ++ l) w →
      ex (RdAt T26 ⟨b4, 0, none⟩ w) fun x => st T26 ⟨b6, 0, none⟩ x w fun w => ex (RdAt T26 ⟨b6, 0, none⟩ w) fun x => (x, e).2 = putE M t xs ∧ Ref (x, e).1 (putM M t xs) ∧ St W (ro T75 (x, e).1.L (putM M t xs).rows :: l) w := by
    intro e w z he hne H
    refine vld_st (x := m) 1 H rfl ?_
    refine vst_st (x := Z26) (y := m) len27 0 H rfl fun w3 H => ?_
    refine vld_st (x := m) 0 H rfl ?_
    unfold putM
    rw [he, if_neg hne]
    refine ⟨rfl, hR, ?_⟩
    have H2 : St W ((cel b6 (T26.cells m) 27 :: cel b4 (T26.cells m) 27 :: z) ++ l) w3 := H
    have H3 := H2.shut.drop
    exact St.ro k H3
  split
  · rename_i hc
    exact hno 120 _ [] (by unfold putE; rw [if_pos (by simpa using hc)]) (by omega) H
  · rename_i hc
    have hc : ¬ (t < 1 ∨ t > 1125899906842624) := by simpa using hc
    refine ld_st (x := m.Closed) 1 H rfl rfl rfl ?_
    rw [hR.closed]
    split
    · rename_i hc2
      exact hno 121 _ [] (by unfold putE; rw [if_neg hc, if_pos (by simpa using hc2)]) (by omega) H
    · rename_i hc2
      have hc2 : ¬ t ≤ M.closed := by simpa using hc2
      rw [hs]
      split
      · rename_i hc3
        exact hno 122 _ [] (by unfold putE; rw [if_neg hc, if_neg hc2, if_pos (by simp at hc3; omega)]) (by omega) H
      · rename_i hc3
        have hc3 : ¬ xs.length > 100 := by simp at hc3; omega
        have hE : putE M t xs = whyL M.rows t [] xs := by unfold putE; rw [if_neg hc, if_neg hc2, if_neg hc3]
        refine nwS_st H fun b18 w3 H => ?_
        have H := row_new (sz := 3) (m := 0) rfl H
        refine ld_st (x := m.L) 2 H rfl rfl rfl ?_
        refine apd_row (fun _ => rfl) 0 H rfl (k.tail.tail.tail.rdS H) (by simp; omega) fun r w4 H => ?_
        rw [List.nil_append] at H
        refine lp_i (fun p w => 0 ≤ p.2 ∧ p.2 ≤ xs.length ∧ whyL M.rows t [] xs = whyL M.rows t ((xs.take p.2.toNat).map (·.Key)) (xs.drop p.2.toNat) ∧ St W (row T75 76 3 p.1 (M.rows ++ news t (xs.take p.2.toNat)) :: cel b6 (T26.cells Z26) 27 :: cel b4 (T26.cells m) 27 :: l) w) (fun p => (xs.length - p.2).toNat)
          ⟨Int.le_refl 0, by simp only; omega, by simp, by simpa [news] using H⟩ ?_
        rintro ⟨out, i⟩ w ⟨h0, h1, h2, H⟩
        simp only at h0 h1 h2 H ⊢
        have hno2 : ∀ (e : Int) (w : World) (A : Assn), whyL M.rows t [] xs = e → e ≠ 0 → St W (A :: cel b6 (T26.cells Z26) 27 :: cel b4 (T26.cells m) 27 :: l) w →
            ex (RdAt T26 ⟨b4, 0, none⟩ w) fun x => st T26 ⟨b6, 0, none⟩ x w fun w => ex (RdAt T26 ⟨b6, 0, none⟩ w) fun x => (x, e).2 = putE M t xs ∧ Ref (x, e).1 (putM M t xs) ∧ St W (ro T75 (x, e).1.L (putM M t xs).rows :: l) w :=
          fun e w A he hne H => hno e w [] (hE.trans he) hne H.drop
        have kx3 : See 2 (row T75 76 3 out (M.rows ++ news t (xs.take i.toNat)) :: cel b6 (T26.cells Z26) 27 :: cel b4 (T26.cells m) 27 :: l) T57 s xs := kx.tail.tail.tail
        have k3 : Know (row T75 76 3 out (M.rows ++ news t (xs.take i.toNat)) :: cel b6 (T26.cells Z26) 27 :: cel b4 (T26.cells m) 27 :: l) (RoP T75 m.L M.rows) := k.tail.tail.tail
        unfold F27_l1
        rw [hs]
        split
        · rename_i hc4
          have hc4 : i < xs.length := by simpa using hc4
          have e1 : IntKind.i64.wrap (i + 1) = i + 1 := wrap_i64 (by omega) (by omega)
          have hxi : xs[i.toNat]? = some xs[i.toNat] := List.getElem?_eq_getElem (by omega)
          have hd : xs.drop i.toNat = xs[i.toNat] :: xs.drop (i.toNat + 1) := List.drop_eq_getElem_cons (by omega)
          have htk : xs.take (i.toNat + 1) = xs.take i.toNat ++ [xs[i.toNat]] := List.take_succ_eq_append_getElem (by omega)
          have hnt := news_take (t := t) (xs := xs) (i := i.toNat) (by omega)
          have hnl : (news t (xs.take i.toNat)).length ≤ 1000 := by rw [news_len, List.length_take]; omega
          obtain ⟨a, ha⟩ := kx3.ix (i := i) H h0 hc4
          generalize xs[i.toNat] = x at hd htk hxi hnt
          rw [hd, whyL_cons] at h2
          refine ex_i a ha ?_
          refine ex_i x.Key (kx3.fld ha hxi rfl H) ?_
          split
          · rename_i hc5
            rw [if_pos (by simpa using hc5)] at h2
            exact hno2 123 _ _ h2 (by omega) H
          · rename_i hc5
            rw [if_neg (by simpa using hc5)] at h2
            refine lp_i (fun j w => 0 ≤ j ∧ j ≤ i ∧ (∀ y ∈ xs.take j.toNat, y.Key ≠ x.Key) ∧ St W (row T75 76 3 out (M.rows ++ news t (xs.take i.toNat)) :: cel b6 (T26.cells Z26) 27 :: cel b4 (T26.cells m) 27 :: l) w) (fun j => (i - j).toNat) ⟨Int.le_refl 0, h0, by simp, H⟩ ?_
            rintro j w ⟨j0, j1, j2, H⟩
            unfold F27_l2
            split
            · rename_i hc6
              have hc6 : j < i := by simpa using hc6
              have e2 : IntKind.i64.wrap (j + 1) = j + 1 := wrap_i64 (by omega) (by omega)
              have hy : xs[j.toNat]? = some xs[j.toNat] := List.getElem?_eq_getElem (by omega)
              have htj : xs.take (j.toNat + 1) = xs.take j.toNat ++ [xs[j.toNat]] := List.take_succ_eq_append_getElem (by omega)
              have hmem : xs[j.toNat] ∈ xs.take i.toNat := List.mem_take_iff_getElem.2 ⟨j.toNat, by omega, rfl⟩
              obtain ⟨c, hcx⟩ := kx3.ix (i := j) H j0 (by omega)
              generalize xs[j.toNat] = y at hy htj hmem
              refine ex_i c hcx ?_
              refine ex_i y.Key (kx3.fld hcx hy rfl H) ?_
              split
              · rename_i hc7
                have hc7 : y.Key = x.Key := by simpa using hc7
                rw [if_pos (List.mem_map.2 ⟨y, hmem, hc7⟩)] at h2
                exact hno2 124 _ _ h2 (by omega) H
              · rename_i hc7
                have hc7 : ¬ y.Key = x.Key := by simpa using hc7
                rw [e2]
                refine ⟨⟨by omega, by omega, fun z hz => ?_, H⟩, by omega⟩
                rw [show (j + 1).toNat = j.toNat + 1 from by omega, htj] at hz
                rcases List.mem_append.1 hz with hz | hz
                · exact j2 z hz
                · rw [List.mem_singleton.1 hz]; exact hc7
            · rename_i hc6
              have hc6 : j = i := by simp at hc6; omega
              subst hc6
              rw [if_neg (fun hmm => by obtain ⟨y, hy, e⟩ := List.mem_map.1 hmm; exact j2 y hy e)] at h2
              refine vld_st (x := m) 2 H rfl ?_
              refine cl_mono (rlast_spec (key := x.Key) (by omega) k3 H) ?_
              rintro q w5 ⟨hq, H⟩
              have hlv : q.1 = (lastV (vs M.rows x.Key)).1 ∧ (q.2 = false → q.1 = ⟨0, 0⟩) := by
                subst hq
                refine ⟨rfl, fun h => ?_⟩
                unfold lastV at h ⊢
                cases hg : (vs M.rows x.Key).getLast? with
                | none => rfl
                | some v => rw [hg] at h; cases h
              clear hq
              refine nw_st H fun b44 w6 H => ?_
              refine vst_st (x := Z35) (y := q.1) len36 0 H rfl fun w7 H => ?_
              refine ex_i q.1.T_ (fun _ => rdat_cel (tInt .i64) H rfl rfl) ?_
              split
              · rename_i hc7
                have hc7 : q.1.T_ ≥ t := by simp at hc7; exact hc7.2
                rw [if_pos (by rw [← hlv.1]; exact hc7)] at h2
                exact hno 121 _ [] (hE.trans h2) (by omega) ((H.drop).drop)
              · rename_i hc7
                have hlt : ¬ (lastV (vs M.rows x.Key)).1.T_ ≥ t := by
                  rw [← hlv.1]
                  cases hq2 : q.2 with
                  | false => rw [hlv.2 hq2]; simp only; omega
                  | true => rw [hq2] at hc7; simpa using hc7
                rw [if_neg hlt] at h2
                refine vld_st (x := m) 3 H rfl ?_
                refine cl_mono (versions_spec (key := x.Key) (by omega) k3.tail H) ?_
                rintro c w8 ⟨rfl, H⟩
                have hvl := vs_len M.rows x.Key
                rw [if_neg (by simp; omega)]
                refine ex_i a ha ?_
                refine ex_i x (kx3.tail.rd ha hxi H) ?_
                refine apl_row (fun _ => rfl) 1 H rfl (by simp only [List.length_append, List.length_singleton]; omega) fun r w9 H => ?_
                rw [e1]
                refine ⟨⟨by simp only; omega, by simp only; omega, ?_, ?_⟩, by simp only; omega⟩
                · simp only
                  rw [show (j + 1).toNat = j.toNat + 1 from by omega, htk, List.map_append]; exact h2
                · simp only
                  rw [show (j + 1).toNat = j.toNat + 1 from by omega, hnt, ← List.append_assoc]
                  exact (H.front 1).drop
        · rename_i hc4
          have hc4 : i = xs.length := by simp at hc4; omega
          subst hc4
          have e2 : xs.take ((xs.length : Int)).toNat = xs := by simp
          have e3 : xs.drop ((xs.length : Int)).toNat = [] := by simp
          rw [e2] at H
          rw [e3] at h2
          have hE0 : putE M t xs = 0 := hE.trans h2
          refine st_st (x := out) 2 H rfl rfl (Nat.le_of_ble_eq_true rfl) fun w5 H => ?_
          have H : St W (cel b4 (T26.cells ⟨out, m.Closed, m.Mark⟩) 27 :: row T75 76 3 out (M.rows ++ news t xs) :: cel b6 (T26.cells Z26) 27 :: l) w5 := H
          refine vld_st (x := (⟨out, m.Closed, m.Mark⟩ : S26)) 0 H rfl ?_
          refine vst_st (x := Z26) (y := (⟨out, m.Closed, m.Mark⟩ : S26)) len27 2 H rfl fun w6 H => ?_
          refine vld_st (x := (⟨out, m.Closed, m.Mark⟩ : S26)) 0 H rfl ?_
          unfold putM
          rw [hE0, if_pos rfl]
          exact ⟨rfl, ⟨hR.closed, hR.mark⟩, row_stay ((H.drop).drop)⟩
theorem keep_step {mark : Int} {r : S75} {L : List S75} : keep mark (r :: L) = if gone mark r L = true then keep mark L else r :: keep mark L := rfl
theorem rprune_spec {m : S26} {M : Md} {t : Int} (hm : M.rows.length ≤ 9000) (hR : Ref m M) (k : Know l (RoP T75 m.L M.rows)) (H : St W l w) :
    cl Try.prog 29 [T26.enc m, .int .i64 t] (tTup2 T26 (tInt .i64)) w fun r w' => r.2 = pruneE M t ∧ Ref r.1 (pruneM M t) ∧ St W (ro T75 r.1.L (pruneM M t).rows :: l) w' := by
  have hs := k.len H
  refine F29_ok ?_
  unfold F29
  refine nw_st H fun b3 w1 H => ?_
  refine nw_st H fun b5 w2 H => ?_
  have hj : ∀ (w : World), pruneE M t = 0 → St W (cel b3 (T26.cells ⟨m.L, m.Closed, max M.mark t⟩) 27 :: cel b5 (T26.cells Z26) 27 :: l) w →
      F29_j1 ⟨b3, 0, none⟩ ⟨b5, 0, none⟩ w fun r w' => r.2 = pruneE M t ∧ Ref r.1 (pruneM M t) ∧ St W (ro T75 r.1.L (pruneM M t).rows :: l) w' := by
    intro w he H
    unfold F29_j1
    unfold pruneM
    rw [he, if_pos rfl]
    have hmk := hR.mark
    generalize max M.mark t = mk at *
    refine nwS_st H fun b15 w3 H => ?_
    have H := row_new (sz := 3) (m := 0) rfl H
    refine lp_i (fun p w => 0 ≤ p.2 ∧ p.2 ≤ M.rows.length ∧ ∃ xs, xs.length ≤ p.2 ∧ xs ++ keep mk (M.rows.drop p.2.toNat) = keep mk M.rows ∧ St W (row T75 76 3 p.1 xs :: cel b3 (T26.cells ⟨m.L, m.Closed, mk⟩) 27 :: cel b5 (T26.cells Z26) 27 :: l) w) (fun p => (M.rows.length - p.2).toNat)
      ⟨Int.le_refl 0, by simp only; omega, [], by simp, by simp, H⟩ ?_
    rintro ⟨out, i⟩ w ⟨h0, h1, xs, hxl, h2, H⟩
    simp only at h0 h1 h2 hxl H ⊢
    unfold F29_l2
    refine ld_st (x := m.L) 1 H rfl rfl rfl ?_
    rw [hs]
    split
    · rename_i hc
      have hc : i < M.rows.length := by simpa using hc
      have e1 : IntKind.i64.wrap (i + 1) = i + 1 := wrap_i64 (by omega) (by omega)
      have hxi : M.rows[i.toNat]? = some M.rows[i.toNat] := List.getElem?_eq_getElem (by omega)
      have hd : M.rows.drop i.toNat = M.rows[i.toNat] :: M.rows.drop (i.toNat + 1) := List.drop_eq_getElem_cons (by omega)
      have k3 : Know (row T75 76 3 out xs :: cel b3 (T26.cells ⟨m.L, m.Closed, mk⟩) 27 :: cel b5 (T26.cells Z26) 27 :: l) (RoP T75 m.L M.rows) := k.tail.tail.tail
      obtain ⟨a, ha⟩ := k3.ix (sz := 3) (i := i) H h0 hc
      generalize M.rows[i.toNat] = r at hxi hd
      rw [hd, keep_step, ← show (i + 1).toNat = i.toNat + 1 from by omega] at h2
      rw [e1]
      refine lp_i (fun p w => i + 1 ≤ p.2 ∧ p.2 ≤ M.rows.length ∧ (p.1 || gone mk r (M.rows.drop p.2.toNat)) = gone mk r (M.rows.drop (i + 1).toNat) ∧ St W (row T75 76 3 out xs :: cel b3 (T26.cells ⟨m.L, m.Closed, mk⟩) 27 :: cel b5 (T26.cells Z26) 27 :: l) w) (fun p => (M.rows.length - p.2).toNat)
        ⟨Int.le_refl _, by simp only; omega, by simp, H⟩ ?_
      rintro ⟨g, j⟩ w ⟨j0, j1, j2, H⟩
      simp only at j0 j1 j2 H ⊢
      unfold F29_l4
      refine ld_st (x := m.L) 1 H rfl rfl rfl ?_
      rw [hs]
      split
      · rename_i hc2
        have hc2 : j < M.rows.length := by simpa using hc2
        have e2 : IntKind.i64.wrap (j + 1) = j + 1 := wrap_i64 (by omega) (by omega)
        have hxj : M.rows[j.toNat]? = some M.rows[j.toNat] := List.getElem?_eq_getElem (by omega)
        have hdj : M.rows.drop j.toNat = M.rows[j.toNat] :: M.rows.drop (j.toNat + 1) := List.drop_eq_getElem_cons (by omega)
        obtain ⟨c, hcx⟩ := k3.ix (sz := 3) (i := j) H (by omega) hc2
        generalize M.rows[j.toNat] = q at hxj hdj
        refine dr_st H fun w4 H => ?_
        refine ex_i m.L (fun _ => rdat_cel tSlc (H.front 1) rfl rfl) ?_
        refine ex_i c (fun _ => hcx) ?_
        refine ex_i q.X.Key (fun _ => k3.fld2 (fun _ => rfl) hcx hxj rfl H) ?_
        refine ex_i m.L (fun _ => rdat_cel tSlc (H.front 1) rfl rfl) ?_
        refine ex_i a (fun _ => ha) ?_
        refine ex_i r.X.Key (fun _ => k3.fld2 (fun _ => rfl) ha hxi rfl H) ?_
        refine ex_i m.L (fun _ => rdat_cel tSlc (H.front 1) rfl rfl) ?_
        refine ex_i c (fun _ => hcx) ?_
        refine ex_i q.T_ (fun _ => k3.fld (fun _ => rfl) hcx hxj rfl H) ?_
        refine ex_i mk (fun _ => rdat_cel (tInt .i64) (H.front 1) rfl rfl) ?_
        rw [e2]
        refine ⟨⟨by simp only; omega, by simp only; omega, ?_, H⟩, by simp only; omega⟩
        simp only
        rw [← j2, hdj, show (j + 1).toNat = j.toNat + 1 from by omega]
        unfold gone
        rw [List.any_cons, Bool.or_assoc]
      · rename_i hc2
        have hc2 : j = M.rows.length := by simp at hc2; omega
        subst hc2
        have e3 : M.rows.drop ((M.rows.length : Int)).toNat = [] := by simp
        rw [e3] at j2
        have j2 : g = gone mk r (M.rows.drop (i + 1).toNat) := by rw [← j2]; simp [gone]
        rw [← j2] at h2
        split
        · rename_i hg
          have hg : g = false := by simpa using hg
          rw [if_neg (by rw [hg]; simp)] at h2
          refine ld_st (x := m.L) 1 H rfl rfl rfl ?_
          refine ex_i a ha ?_
          refine ex_i r (k3.rd (fun _ => rfl) ha hxi H) ?_
          refine apl_row (fun _ => rfl) 0 H rfl (by simp only [List.length_singleton]; omega) fun s2 w5 H => ?_
          unfold F29_j3
          rw [e1]
          refine ⟨⟨by simp only; omega, by simp only; omega, xs ++ [r], by simp only [List.length_append, List.length_singleton]; omega, ?_, H⟩, by simp only; omega⟩
          simp only
          rw [List.append_assoc]; exact h2
        · rename_i hg
          have hg : g = true := by simpa using hg
          rw [if_pos hg] at h2
          unfold F29_j3
          rw [e1]
          exact ⟨⟨by simp only; omega, by simp only; omega, xs, by simp only; omega, h2, H⟩, by simp only; omega⟩
    · rename_i hc
      have hc : i = M.rows.length := by simp at hc; omega
      subst hc
      have e3 : M.rows.drop ((M.rows.length : Int)).toNat = [] := by simp
      rw [e3] at h2
      have h2 : xs = keep mk M.rows := by rw [← h2]; simp [keep]
      subst h2
      refine st_st (x := out) 1 H rfl rfl (Nat.le_of_ble_eq_true rfl) fun w5 H => ?_
      have H : St W (cel b3 (T26.cells ⟨out, m.Closed, mk⟩) 27 :: row T75 76 3 out (keep mk M.rows) :: cel b5 (T26.cells Z26) 27 :: l) w5 := H
      refine vld_st (x := (⟨out, m.Closed, mk⟩ : S26)) 0 H rfl ?_
      refine vst_st (x := Z26) (y := (⟨out, m.Closed, mk⟩ : S26)) len27 2 H rfl fun w6 H => ?_
      refine vld_st (x := (⟨out, m.Closed, mk⟩ : S26)) 0 H rfl ?_
      exact ⟨rfl, ⟨hR.closed, rfl⟩, row_stay ((H.drop).drop)⟩
  have hno : ∀ (e : Int) (w : World), pruneE M t = e → e ≠ 0 → St W (cel b5 (T26.cells Z26) 27 :: cel b3 (T26.cells m) 27 :: l) w →
      ex (RdAt T26 ⟨b3, 0, none⟩ w) fun x => st T26 ⟨b5, 0, none⟩ x w fun w => ex (RdAt T26 ⟨b5, 0, none⟩ w) fun x => (x, e).2 = pruneE M t ∧ Ref (x, e).1 (pruneM M t) ∧ St W (ro T75 (x, e).1.L (pruneM M t).rows :: l) w := by
    intro e w he hne H
    refine vld_st (x := m) 1 H rfl ?_
    refine vst_st (x := Z26) (y := m) len27 0 H rfl fun w3 H => ?_
    refine vld_st (x := m) 0 H rfl ?_
    unfold pruneM
    rw [he, if_neg hne]
    exact ⟨rfl, hR, St.ro k H.drop.drop⟩
  split
  · rename_i hc
    exact hno 120 _ (by unfold pruneE; rw [if_pos (by simpa using hc)]) (by omega) H
  · rename_i hc
    refine ld_st (x := m.Closed) 1 H rfl rfl rfl ?_
    rw [hR.closed]
    split
    · rename_i hc2
      exact hno 128 _ (by unfold pruneE; rw [if_neg (by simpa using hc), if_pos (by simpa using hc2)]) (by omega) H
    · rename_i hc2
      have e : pruneE M t = 0 := by unfold pruneE; rw [if_neg (by simpa using hc), if_neg (by simpa using hc2)]
      have hmk := hR.mark
      refine ld_st (x := m.Mark) 1 H rfl rfl rfl ?_
      split
      · rename_i hc3
        refine st_st (x := t) 1 H rfl rfl (Nat.le_of_ble_eq_true rfl) fun w3 H => ?_
        refine hj _ e ?_
        rw [show max M.mark t = t from by simp at hc3; omega]; exact H
      · rename_i hc3
        refine hj _ e ?_
        rw [show max M.mark t = m.Mark from by simp at hc3; omega]; exact H.front 1
end
end Go.Proofs.Ytdgdkbfigndndaa.Store
