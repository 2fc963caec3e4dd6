/- Contracts of the reference: Keys, Snap, Same. -/
import Derived.Test.YtdgdkbfigndndaaKH
namespace Go.Proofs.Ytdgdkbfigndndaa.Store
open Go Go.Proofs.Ytdgdkbfigndndaa.Cf
set_option linter.unusedVariables false
set_option linter.unusedSimpArgs false
set_option maxRecDepth 100000
theorem s57_eq {x y : S57} (h1 : x.Key = y.Key) (h2 : x.V = y.V) : x = y := by cases x; cases y; simp only at h1 h2; subst h1; subst h2; rfl
theorem Keys.len {L : List S75} {ks : List Int} (h : Keys L ks) : ks.length ≤ L.length := by
  have : ∀ ks : List Int, (∀ k ∈ ks, vs L k ≠ []) → ks.length ≤ (ks.map fun k => (vs L k).length).sum := by
    intro ks
    induction ks with
    | nil => intro _; exact Nat.le_refl _
    | cons k ks ih =>
      intro h
      have := ih fun q hq => h q (List.mem_cons_of_mem _ hq)
      have h1 := List.length_pos_iff.2 (h k (List.mem_cons_self ..))
      simp only [List.length_cons, List.map_cons, List.sum_cons]; omega
  have h1 := this ks fun k hk => (h.all k).1 hk
  rw [sum_vs (h.rise.imp fun h => Int.ne_of_lt h) fun r hr => (h.all _).2 (vs_ne.2 ⟨r, hr, rfl⟩)] at h1
  exact h1
theorem Keys.old {L : List S75} {ks : List Int} {r : S75} (h : Keys L ks) (hr : r.X.Key ∈ ks) : Keys (L ++ [r]) ks :=
  ⟨h.rise, fun k => by
    rw [vs_app, vs_cons, vs_nil, h.all]
    split
    · rename_i e; subst e; simp [(h.all _).1 hr]
    · simp⟩
theorem Keys.new {L : List S75} {ks : List Int} {r : S75} {at_ : Nat} (h : Keys L ks) (h1 : ∀ y ∈ ks.take at_, y < r.X.Key) (h2 : ∀ y ∈ ks.drop at_, r.X.Key < y) : Keys (L ++ [r]) (ks.take at_ ++ [r.X.Key] ++ ks.drop at_) := by
  refine ⟨?_, fun k => ?_⟩
  · have hb : (ks.take at_ ++ ks.drop at_).Pairwise fun x y => x < y := by rw [List.take_append_drop]; exact h.rise
    obtain ⟨b1, b2, b3⟩ := List.pairwise_append.1 hb
    refine List.pairwise_append.2 ⟨List.pairwise_append.2 ⟨b1, by simp, fun y hy z hz => by rw [List.mem_singleton.1 hz]; exact h1 y hy⟩, b2, fun y hy z hz => ?_⟩
    rcases List.mem_append.1 hy with hy | hy
    · exact b3 y hy z hz
    · rw [List.mem_singleton.1 hy]; exact h2 z hz
  · have hp : (ks.take at_ ++ [r.X.Key] ++ ks.drop at_).Perm (ks ++ [r.X.Key]) := by
      have h1 : (ks.take at_ ++ [r.X.Key] ++ ks.drop at_).Perm (ks.take at_ ++ (ks.drop at_ ++ [r.X.Key])) := by
        rw [List.append_assoc]; exact List.perm_append_comm.append_left _
      rw [← List.append_assoc, List.take_append_drop] at h1; exact h1
    rw [hp.mem_iff, List.mem_append, h.all, List.mem_singleton, vs_app, vs_cons, vs_nil]
    split
    · rename_i e; subst e; simp
    · rename_i e
      constructor
      · rintro (h | rfl)
        · simp [h]
        · exact absurd rfl e
      · intro h; exact .inl (by simpa using h)
section
variable {W w : World} {l l' : List Assn}
theorem same_spec {sa sb : Slc} {a b : List S57} (hm : a.length ≤ 1000000) (ka : Know l (RoP T57 sa a)) (kb : Know l (RoP T57 sb b)) (H : St W l w) :
    cl Try.prog 20 [tSlc.enc sa, tSlc.enc sb] tBool w fun r w' => (r = true ↔ a = b) ∧ St W l w' := by
  have la := ka.len H
  have lb := kb.len H
  refine F20_ok ?_
  unfold F20
  split
  · rename_i hne
    have hne : a.length ≠ b.length := by simp at hne; omega
    exact ⟨by constructor
              · intro h; cases h
              · intro h; subst h; exact absurd rfl hne, H⟩
  · rename_i hne
    have hne : a.length = b.length := by simp at hne; omega
    refine lp_i (fun i w => 0 ≤ i ∧ i ≤ a.length ∧ a.take i.toNat = b.take i.toNat ∧ St W l w) (fun i => (a.length - i).toNat) ⟨Int.le_refl 0, by omega, by simp, H⟩ ?_
    rintro i w ⟨h0, h1, h2, H⟩
    unfold F20_l1
    split
    · rename_i hc
      have hc : i < a.length := by simp at hc; omega
      have e1 : IntKind.i64.wrap (i + 1) = i + 1 := wrap_i64 (by omega) (by omega)
      have hx : a[i.toNat]? = some a[i.toNat] := List.getElem?_eq_getElem (by omega)
      have hy : b[i.toNat]? = some b[i.toNat] := List.getElem?_eq_getElem (by omega)
      obtain ⟨p, hp⟩ := ka.ix (sz := 2) (i := i) H h0 hc
      obtain ⟨q, hq⟩ := kb.ix (sz := 2) (i := i) H h0 (by omega)
      have ht : a.take (i.toNat + 1) = a.take i.toNat ++ [a[i.toNat]] := List.take_succ_eq_append_getElem (by omega)
      have ht2 : b.take (i.toNat + 1) = b.take i.toNat ++ [b[i.toNat]] := List.take_succ_eq_append_getElem (by omega)
      generalize a[i.toNat] = x at hx ht
      generalize b[i.toNat] = y at hy ht2
      refine dr_st H fun w1 H => ?_
      refine ex_i p hp ?_
      refine ex_i q hq ?_
      refine ex_i x.Key (ka.fld (fun _ => rfl) hp hx rfl H) ?_
      refine ex_i y.Key (kb.fld (fun _ => rfl) hq hy rfl H) ?_
      refine ex_i p (fun _ => hp) ?_
      refine ex_i q (fun _ => hq) ?_
      refine ex_i x.V (fun _ => ka.fld (fun _ => rfl) hp hx rfl H) ?_
      refine ex_i y.V (fun _ => kb.fld (fun _ => rfl) hq hy rfl H) ?_
      split
      · rename_i hd
        refine ⟨⟨fun h => (by cases h), fun h => ?_⟩, H⟩
        subst h
        rw [hx] at hy; cases hy
        simp at hd
      · rename_i hd
        rw [e1]
        have hxy : x = y := s57_eq (by simp at hd; exact hd.1) (by simp at hd; exact hd.2)
        refine ⟨⟨by omega, by omega, ?_, H⟩, by omega⟩
        rw [show (i + 1).toNat = i.toNat + 1 from by omega, ht, ht2, h2, hxy]
    · rename_i hc
      have hc : i = a.length := by simp at hc; omega
      subst hc
      refine ⟨⟨fun _ => ?_, fun _ => rfl⟩, H⟩
      have e1 : a.take ((a.length : Int)).toNat = a := by simp
      have e2 : b.take ((a.length : Int)).toNat = b := by rw [hne]; simp
      rw [e1, e2] at h2; exact h2
theorem rkeys_spec {m : S26} {L : List S75} (hm : L.length ≤ 9000) (k : Know l (RoP T75 m.L L)) (H : St W l w) : cl Try.prog 38 [T26.enc m] tSlc w fun s w' => ∃ ks, Keys L ks ∧ St W (ro (tInt .i64) s ks :: l) w' := by
  have hs := k.len H
  refine F38_ok ?_
  unfold F38
  refine nw_st H fun b2 w1 H => ?_
  refine nwS_st H fun b4 w2 H => ?_
  have H := row_stay (row_new (sz := 1) (m := 0) rfl H)
  refine lp_i (fun p w => 0 ≤ p.2 ∧ p.2 ≤ L.length ∧ p.1.len ≤ p.1.cap ∧ ∃ ks, Keys (L.take p.2.toNat) ks ∧ St W (ro (tInt .i64) p.1 ks :: cel b2 (T26.cells m) 27 :: l) w) (fun p => (L.length - p.2).toNat)
    ⟨Int.le_refl 0, by simp only; omega, Nat.le_refl _, [], ⟨List.Pairwise.nil, fun k => by simp [vs_nil]⟩, H⟩ ?_
  rintro ⟨out, i⟩ w ⟨h0, h1, hcap, ks, hk, H⟩
  simp only at h0 h1 hk H hcap ⊢
  unfold F38_l1
  refine ld_st (x := m.L) 1 H rfl rfl rfl ?_
  rw [hs]
  split
  · rename_i hc
    have hc : i < L.length := by simpa using hc
    have e1 : IntKind.i64.wrap (i + 1) = i + 1 := wrap_i64 (by omega) (by omega)
    have hxi : L[i.toNat]? = some L[i.toNat] := List.getElem?_eq_getElem (by omega)
    have ht : L.take (i.toNat + 1) = L.take i.toNat ++ [L[i.toNat]] := List.take_succ_eq_append_getElem (by omega)
    have kl : Know (ro (tInt .i64) out ks :: cel b2 (T26.cells m) 27 :: l) (RoP T75 m.L L) := k.tail.tail
    have km : Know (ro (tInt .i64) out ks :: cel b2 (T26.cells m) 27 :: l) (RoP (tInt .i64) out ks) := Know.here (m := RoP.mono)
    have hkl := hk.len
    rw [List.length_take] at hkl
    have hol := km.len H
    obtain ⟨a, ha⟩ := kl.ix (sz := 3) (i := i) H h0 hc
    generalize L[i.toNat] = r at hxi ht
    rw [← show (i + 1).toNat = i.toNat + 1 from by omega] at ht
    refine ld_st (x := m.L) 1 H rfl rfl rfl ?_
    refine ex_i a ha ?_
    refine ex_i r.X.Key (kl.fld2 (fun _ => rfl) ha hxi rfl H) ?_
    refine lp_i (fun p w => 0 ≤ p.2.2 ∧ p.2.2 ≤ ks.length ∧ 0 ≤ p.1 ∧ p.1 ≤ p.2.2 ∧ p.2.1 = decide (r.X.Key ∈ ks.take p.2.2.toNat) ∧ (∀ y ∈ ks.take p.1.toNat, y < r.X.Key) ∧ (∀ y ∈ (ks.take p.2.2.toNat).drop p.1.toNat, ¬ y < r.X.Key) ∧ St W (ro (tInt .i64) out ks :: cel b2 (T26.cells m) 27 :: l) w) (fun p => (ks.length - p.2.2).toNat)
      ⟨Int.le_refl 0, by simp only; omega, Int.le_refl 0, Int.le_refl 0, by simp, by simp, by simp, H⟩ ?_
    rintro ⟨at_, there, j⟩ w ⟨j0, j1, a0, a1, j2, j3, j4, H⟩
    simp only at j0 j1 a0 a1 j2 j3 j4 H ⊢
    unfold F38_l3
    rw [hol]
    split
    · rename_i hc2
      have hc2 : j < ks.length := by simpa using hc2
      have e2 : IntKind.i64.wrap (j + 1) = j + 1 := wrap_i64 (by omega) (by omega)
      have hy : ks[j.toNat]? = some ks[j.toNat] := List.getElem?_eq_getElem (by omega)
      have htj : ks.take (j.toNat + 1) = ks.take j.toNat ++ [ks[j.toNat]] := List.take_succ_eq_append_getElem (by omega)
      have hlow : ∀ z ∈ ks.take j.toNat, z < ks[j.toNat] := by
        intro z hz
        obtain ⟨c, hcc, rfl⟩ := List.mem_take_iff_getElem.1 hz
        exact List.pairwise_iff_getElem.1 hk.rise c j.toNat (by omega) (by omega) (by omega)
      obtain ⟨c, hcx⟩ := km.ix (sz := 1) (i := j) H j0 hc2
      generalize ks[j.toNat] = y at hy htj hlow
      rw [← show (j + 1).toNat = j.toNat + 1 from by omega] at htj
      have hj5 : (there || (y == r.X.Key)) = decide (r.X.Key ∈ ks.take (j + 1).toNat) := by
        rw [htj, j2]
        by_cases h1 : r.X.Key ∈ ks.take j.toNat
        · simp [h1]
        · by_cases h2 : y = r.X.Key
          · simp [h2]
          · simp [h1, h2, Ne.symm h2]
      refine ex_i c (fun _ => hcx) ?_
      refine ex_i y (fun _ => km.rd (fun _ => rfl) hcx hy H) ?_
      refine ex_i c hcx ?_
      refine ex_i y (km.rd (fun _ => rfl) hcx hy H) ?_
      split
      · rename_i hc3
        have hc3 : y < r.X.Key := by simpa using hc3
        unfold F38_j4
        rw [e2]
        refine ⟨⟨by simp only; omega, by simp only; omega, by simp only; omega, by simp only; omega, hj5, ?_, ?_, H⟩, by simp only; omega⟩
        · simp only
          intro z hz
          rw [htj] at hz
          rcases List.mem_append.1 hz with hz | hz
          · have := hlow z hz; omega
          · rw [List.mem_singleton.1 hz]; exact hc3
        · simp only
          intro z hz
          rw [List.drop_eq_nil_of_le (by rw [List.length_take]; omega)] at hz; cases hz
      · rename_i hc3
        have hc3 : ¬ y < r.X.Key := by simpa using hc3
        unfold F38_j4
        rw [e2]
        refine ⟨⟨by simp only; omega, by simp only; omega, by simp only; omega, by simp only; omega, hj5, j3, ?_, H⟩, by simp only; omega⟩
        simp only
        intro z hz
        rw [htj, List.drop_append_of_le_length (by rw [List.length_take]; omega)] at hz
        rcases List.mem_append.1 hz with hz | hz
        · exact j4 z hz
        · rw [List.mem_singleton.1 hz]; exact hc3
    · rename_i hc2
      have hc2 : j = ks.length := by simp at hc2; omega
      subst hc2
      have e3 : ks.take ((ks.length : Int)).toNat = ks := by simp
      rw [e3] at j2 j4
      split
      · rename_i hc3
        have hc3 : r.X.Key ∉ ks := by
          intro h
          rw [j2] at hc3; simp [h] at hc3
        have hdr : ∀ z ∈ ks.drop at_.toNat, r.X.Key < z := by
          intro z hz
          have h1 := j4 z hz
          have h2 : z ≠ r.X.Key := fun h => hc3 (h ▸ List.mem_of_mem_drop hz)
          omega
        refine dr_st H fun w3 H => ?_
        have hkl2 : ks.length ≤ 9000 := by omega
        obtain ⟨s1, hs1⟩ : ∃ s1, Sub out 1 0 at_ ((out).cap : Int) s1 := ⟨_, Int.le_refl 0, a0, by omega, Int.le_refl _, rfl⟩
        obtain ⟨s2, hs2⟩ : ∃ s2, Sub out 1 at_ ((ks.length : Nat) : Int) ((out).cap : Int) s2 := ⟨_, a0, by omega, by omega, Int.le_refl _, rfl⟩
        refine ex_i s1 hs1 ?_
        refine ex_i s2 hs2 ?_
        have k1 := km.sub (fun _ => rfl) hs1 a1
        have k2 := km.sub (fun _ => rfl) hs2 (Int.le_refl _)
        rw [e3] at k2
        simp only [show ((0 : Int)).toNat = 0 from rfl, List.drop_zero] at k1
        refine ins0_st (xs := ks.take at_.toNat) (zs := ks.drop at_.toNat) (fun _ => rfl) k1 k2 H (by simp only [List.length_take, List.length_drop]; omega) fun s3 w4 H => ?_
        have hcap3 := row_cap H
        unfold F38_j2
        rw [e1]
        refine ⟨⟨by simp only; omega, by simp only; omega, hcap3, _, ?_, (((row_stay H).front 1).drop)⟩, by simp only; omega⟩
        simp only
        rw [ht]
        exact hk.new j3 hdr
      · rename_i hc3
        have hc3 : r.X.Key ∈ ks := by
          rw [j2] at hc3; simpa using hc3
        unfold F38_j2
        rw [e1]
        refine ⟨⟨by simp only; omega, by simp only; omega, hcap, ks, ?_, H⟩, by simp only; omega⟩
        simp only
        rw [ht]
        exact hk.old hc3
  · rename_i hc
    have hc : i = L.length := by simp at hc; omega
    subst hc
    have e : L.take ((L.length : Int)).toNat = L := by simp
    rw [e] at hk
    exact ⟨ks, hk, (H.front 1).drop⟩
theorem rsnap_spec {m : S26} {M : Md} {t : Int} (hm : M.rows.length ≤ 9000) (hR : Ref m M) (k : Know l (RoP T75 m.L M.rows)) (H : St W l w) : cl Try.prog 19 [T26.enc m, .int .i64 t] (tTup2 tSlc (tInt .i64)) w fun r w' => r.2 = timeM M t ∧ St W (row T57 58 2 r.1 (snapL M t) :: l) w' := by
  refine F19_ok ?_
  unfold F19
  refine nw_st H fun b3 w1 H => ?_
  refine vld_st (x := m) 0 H rfl ?_
  refine cl_mono (rtime_spec (t := t) hR H) ?_
  rintro r w2 ⟨rfl, H⟩
  unfold snapL
  split
  · rename_i hc
    have hc : timeM M t ≠ 0 := by simpa using hc
    rw [if_neg hc]
    exact ⟨rfl, row_nil T57 58 2 H.drop⟩
  · rename_i hc
    have hc : timeM M t = 0 := by simpa using hc
    rw [if_pos hc]
    refine nwS_st H fun b8 w3 H => ?_
    have H := row_new (sz := 2) (m := 0) rfl H
    refine vld_st (x := m) 1 H rfl ?_
    refine cl_mono (rkeys_spec hm k.tail.tail H) ?_
    rintro s w4 ⟨ks, hks, H⟩
    rw [keysOf_eq hks]
    have hkl := hks.len
    have hsl := ro_len H
    have H := H.front 1
    refine lp_i (fun p w => 0 ≤ p.2 ∧ p.2 ≤ ks.length ∧ St W (row T57 58 2 p.1 (snapK M.rows t (ks.take p.2.toNat)) :: ro (tInt .i64) s ks :: cel b3 (T26.cells m) 27 :: l) w) (fun p => (ks.length - p.2).toNat) ⟨Int.le_refl 0, by simp only; omega, H⟩ ?_
    rintro ⟨out, i⟩ w ⟨h0, h1, H⟩
    simp only at h0 h1 H ⊢
    unfold F19_l1
    rw [hsl]
    split
    · rename_i hc2
      have hc2 : i < ks.length := by simpa using hc2
      have e1 : IntKind.i64.wrap (i + 1) = i + 1 := wrap_i64 (by omega) (by omega)
      have hx : ks[i.toNat]? = some ks[i.toNat] := List.getElem?_eq_getElem (by omega)
      have hst := snap_take (L := M.rows) (t := t) (q := ks) (i := i.toNat) (by omega)
      have hol : (snapK M.rows t (ks.take i.toNat)).length ≤ 9000 := by
        unfold snapK
        refine Nat.le_trans (List.length_filterMap_le _ _) ?_
        rw [List.length_take]; omega
      rw [← show (i + 1).toNat = i.toNat + 1 from by omega] at hst
      generalize ks[i.toNat] = y at hx hst
      refine dr_st H fun w5 H => ?_
      have kk : Know (ro (tInt .i64) s ks :: cel b3 (T26.cells m) 27 :: l) (RoP (tInt .i64) s ks) := Know.here (m := RoP.mono)
      obtain ⟨a, ha⟩ := kk.tail.ix (sz := 1) (i := i) H h0 hc2
      refine ex_i a ha ?_
      refine vld_st (x := m) 2 H rfl ?_
      refine ex_i y (kk.tail.rd (fun _ => rfl) ha hx H) ?_
      have hj : ∀ (b : Nat) (w : World), St W (cel b (T35.cells (lastV (upto (vs M.rows y) t)).1) 36 :: row T57 58 2 out (snapK M.rows t (ks.take i.toNat)) :: ro (tInt .i64) s ks :: cel b3 (T26.cells m) 27 :: l) w →
          F19_j3 s out i ⟨b, 0, none⟩ (lastV (upto (vs M.rows y) t)).2 w (fun p w' => (0 ≤ p.2 ∧ p.2 ≤ ks.length ∧ St W (row T57 58 2 p.1 (snapK M.rows t (ks.take p.2.toNat)) :: ro (tInt .i64) s ks :: cel b3 (T26.cells m) 27 :: l) w') ∧ (ks.length - p.2).toNat < (ks.length - i).toNat)
            fun r w' => r.2 = timeM M t ∧ St W (row T57 58 2 r.1 (snapK M.rows t ks) :: l) w' := by
        intro b w H
        unfold F19_j3
        cases hct : cnt (vs M.rows y) t with
        | none =>
          have hl : lastV (upto (vs M.rows y) t) = (⟨0, 0⟩, false) := by unfold lastV; unfold cnt at hct; rw [hct]; rfl
          rw [hl] at H ⊢
          rw [hct] at hst
          rw [if_neg (by simp)]
          unfold F19_j2
          rw [e1]
          refine ⟨⟨by simp only; omega, by simp only; omega, ?_⟩, by simp only; omega⟩
          simp only
          rw [hst, List.append_nil]
          exact H.drop
        | some v =>
          have hl : lastV (upto (vs M.rows y) t) = (v, true) := by unfold lastV; unfold cnt at hct; rw [hct]; rfl
          rw [hl] at H ⊢
          rw [hct] at hst
          rw [if_pos (by simp)]
          refine dr_st H fun w6 H => ?_
          refine ex_i a ha ?_
          refine ex_i y (kk.tail.tail.rd (fun _ => rfl) ha hx H) ?_
          refine ld_st (x := v.V) 0 H rfl rfl rfl ?_
          refine apl_row (fun _ => rfl) 1 H rfl (by simp only [List.length_singleton]; omega) fun s2 w7 H => ?_
          refine ⟨kk.tail.tail.rd (fun _ => rfl) ha hx H, ?_⟩
          refine ⟨rdat_cel (tInt .i64) (H.front 1) rfl rfl, ?_⟩
          unfold F19_j2
          rw [e1]
          refine ⟨⟨by simp only; omega, by simp only; omega, ?_⟩, by simp only; omega⟩
          simp only
          rw [hst]
          exact (H.front 1).drop
      refine ⟨?_, ?_⟩
      · refine cl_mono (rcount_spec (key := y) (t := t) (by omega) k.tail.tail.tail H) ?_
        rintro q w6 ⟨rfl, H⟩
        refine nw_st H fun b9 w7 H => ?_
        refine vst_st (x := Z35) (y := (lastV (upto (vs M.rows y) t)).1) len36 0 H rfl fun w8 H => ?_
        exact hj _ _ H
      · refine nw_st H fun b9 w6 H => ?_
        refine cl_mono (rcount_spec (key := y) (t := t) (by omega) k.tail.tail.tail.tail H) ?_
        rintro q w7 ⟨rfl, H⟩
        refine vst_st (x := Z35) (y := (lastV (upto (vs M.rows y) t)).1) len36 0 H rfl fun w8 H => ?_
        exact hj _ _ H
    · rename_i hc2
      have hc2 : i = ks.length := by simp at hc2; omega
      subst hc2
      have e : ks.take ((ks.length : Int)).toNat = ks := by simp
      rw [e] at H
      exact ⟨hc.symm, (((H.front 1).drop).front 1).drop⟩
end
end Go.Proofs.Ytdgdkbfigndndaa.Store
