/- The laws of the bytes: walks (cuts, apart, own). -/
import Derived.Test.YtjhenlajkhckfaaWH
namespace Go.Proofs.Ytjhenlajkhckfaa.Wire
open Go Go.Proofs.Ytjhenlajkhckfaa.Cf
set_option linter.unusedVariables false
set_option linter.unusedSimpArgs false
set_option maxRecDepth 100000
theorem cut_at : ∀ (vs : List Val) (n : Nat), n < (encs vs).length → ∃ i v q q', i < vs.length ∧ vs[i]? = some v ∧ (encs vs).take n = encs (vs.take i) ++ q ∧ enc1 v = q ++ q' ∧ q' ≠ []
  | [], n, h => by simp [encs] at h
  | v :: vs, n, h => by
    have e : encs (v :: vs) = enc1 v ++ encs vs := by simp [encs]
    rw [e] at h ⊢
    by_cases c : n < (enc1 v).length
    · refine ⟨0, v, (enc1 v).take n, (enc1 v).drop n, by simp, rfl, ?_, (List.take_append_drop _ _).symm, ?_⟩
      · rw [List.take_append_of_le_length (by omega)]; simp [encs]
      · intro h0
        have := congrArg List.length h0
        rw [List.length_drop] at this
        simp at this; omega
    · rw [List.length_append] at h
      obtain ⟨i, u, q, q', h1, h2, h3, h4, h5⟩ := cut_at vs (n - (enc1 v).length) (by omega)
      refine ⟨i + 1, u, q, q', by simp; omega, by simpa using h2, ?_, h4, h5⟩
      rw [List.take_append, List.take_of_length_le (by omega), h3]
      simp [encs]
theorem unp_cut {vs : List Val} {n : Nat} (hf : Fine vs) (hl : vs.length ≤ 1000) (hn : n < (encs vs).length) :
    ∃ i, i < vs.length ∧ unp (encs (vs.take i)) = ((vs.take i).map canon, 0, 0) ∧ (unp ((encs vs).take n) = ((vs.take i).map canon, 0, 0) ∨ unp ((encs vs).take n) = ([], (encs (vs.take i)).length, 22) ∧ (encs (vs.take i)).length < n ∧ (encs vs).take (encs (vs.take i)).length = encs (vs.take i)) := by
  obtain ⟨i, v, q, q', h1, h2, h3, h4, h5⟩ := cut_at vs n hn
  have hft : Fine (vs.take i) := (show Fine (vs.take i ++ vs.drop i) from by rw [List.take_append_drop]; exact hf).left
  have hlt : (vs.take i).length ≤ 1000 := by rw [List.length_take]; omega
  have hm : v ∈ vs := List.mem_of_getElem? h2
  refine ⟨i, h1, unp_encs hft hlt, ?_⟩
  rw [h3]
  cases hq : q with
  | nil =>
    left
    rw [List.append_nil]; exact unp_encs hft hlt
  | cons c r =>
    right
    have hd := dec1_cut (hf.dom v hm) (hf.ok v hm) h4 h5
    obtain ⟨f, hlf, he⟩ := unp_encs_rest (rest := c :: r) hft hlt
    have hlen : n = (encs (vs.take i)).length + (c :: r).length := by
      have := congrArg List.length h3
      rw [List.length_take, List.length_append, hq] at this
      omega
    refine ⟨?_, by simp at hlen; omega, ?_⟩
    · rw [he]
      obtain ⟨g, rfl⟩ : ∃ g, f = g + 1 := ⟨f - 1, by omega⟩
      rw [hq] at hd
      simp only [unpF, hd]
      rw [if_neg (by rw [List.length_map, List.length_take]; omega)]
    · have := congrArg (List.take (encs (vs.take i)).length) h3
      rw [List.take_left, List.take_take, Nat.min_eq_left (by omega)] at this
      exact this
section
variable {W w : World} {l l' : List Assn}
theorem cuts_walk (W : World) (s : Slc) (cut : Int) (g0 : G22 W s) (g1 : G42 W cut) : cl Try.prog 7 [tSlc.enc s, .int .u16 cut] tBool W fun r w' => r = true ∧ RowKit.Below W.heap.size W w' := by
  obtain ⟨vs, hI, hcap, hlen, hsl, hro⟩ := given g0
  have H := ro_old hro (St.start W)
  have kn : Know [ro TV s vs, old W] (RoP TV s vs) := Know.here (m := RoP.mono)
  have k : See 5 [ro TV s vs, old W] TV s vs := See.ro (fun _ => rfl) kn
  have hc0 : 0 ≤ cut ∧ cut ≤ 65535 := by
    have m1 : IntKind.u16.min = 0 := rfl
    have m2 : IntKind.u16.max = 65535 := rfl
    unfold G42 at g1
    omega
  refine F7_ok ?_
  unfold F7 F7_j1 F7_j2
  refine cl_mono (few_spec hlen k H) ?_
  rintro r w ⟨hf, H⟩
  split
  · refine cl_mono (awake_spec H) ?_
    rintro r w ⟨hr, H⟩
    exact ⟨hr, H.drop.below⟩
  · rename_i hr
    have hn : vs.length ≤ 2000 := hf (by simpa using hr)
    refine cl_mono (pack_spec hI (by omega) k H) ?_
    rintro ⟨b1, e1⟩ w ⟨he, h1, h2, H⟩
    simp only at he h1
    subst he
    refine cl_mono (awake_spec (l := row (tInt .u8) 5 1 b1 (B (if packE vs = 0 then encs vs else [])) :: [ro TV s vs, old W]) (row_packed (s := s) h1 h2 H)) ?_
    clear h1 h2 H
    rintro r w ⟨rfl, H⟩
    have hbl : b1.len = (if packE vs = 0 then encs vs else []).length := by
      have := row_len H
      rw [this, B_len]
    by_cases hp : packE vs = 0 ∧ (encs vs).length ≠ 0
    · obtain ⟨hp, hne⟩ := hp
      rw [if_pos hp] at H hbl
      rw [if_neg (by simp [hp]; omega)]
      obtain ⟨hfine, hl⟩ := packE_fine hI hp
      have hel := encs_len hfine.dom hfine.ok
      have hbc := row_cap H
      have H := row_stay H
      have kb : Know [ro (tInt .u8) b1 (B (encs vs)), ro TV s vs, old W] (RoP (tInt .u8) b1 (B (encs vs))) := Know.here (m := RoP.mono)
      dsimp only
      rw [hbl]
      have ew : IntKind.i64.wrap cut = cut := wrap_i64 (by omega) (by omega)
      rw [ew]
      have ed : Int.tmod cut ((encs vs).length : Int) = ((cut.toNat % (encs vs).length : Nat) : Int) := by
        rw [Int.tmod_eq_emod_of_nonneg hc0.1]
        have : cut = ((cut.toNat : Nat) : Int) := by omega
        conv => lhs; rw [this]
        exact (Int.natCast_emod _ _).symm
      refine ⟨_, ⟨by omega, rfl⟩, ?_⟩
      rw [ed]
      have hlt : cut.toNat % (encs vs).length < (encs vs).length := Nat.mod_lt _ (by omega)
      generalize cut.toNat % (encs vs).length = n at hlt
      refine sub_st (by omega) (by omega) (by omega) (by omega) fun r1 hr1 => ?_
      have hr1c : r1.len ≤ r1.cap := by
        obtain ⟨x1, x2, _⟩ := sub_at hr1
        rw [x1, x2]; omega
      have k1 := kb.sub (fun _ => rfl) hr1 (by rw [B_len]; omega)
      have eb : ((B (encs vs)).take ((n : Int)).toNat).drop ((0 : Int)).toNat = B ((encs vs).take n) := by
        unfold B; rw [← List.map_take]; simp
      rw [eb] at k1
      refine cl_mono (unpack_spec hr1c (by rw [List.length_take]; omega) (See.ro (fun _ => rfl) k1) H) ?_
      rintro ⟨q1, q2, q3⟩ w ⟨h1, h2, H⟩
      simp only at h1 h2 H
      obtain ⟨i, hi, hu, hcase⟩ := unp_cut hfine hl hlt
      have hq1 := row_len H
      have keep : ∀ {m : Nat} {j : Int}, j = ((vs.take i).length : Nat) → ∀ {K : Slc → Prop}, (∀ r2, RoP TV r2 (vs.take i) = RoP TV r2 (vs.take i) → Know [ro TV s vs, old W] (RoP TV r2 (vs.take i)) → K r2) → ex (Sub s 5 0 j (s.cap : Int)) K := by
        intro m j hj K hK
        subst hj
        have hli : (vs.take i).length = i := by rw [List.length_take]; omega
        refine sub_st (by omega) (by omega) (by rw [hli]; omega) (by omega) fun r2 hr2 => ?_
        have k2 := kn.sub (fun _ => rfl) hr2 (by rw [hli]; omega)
        have e2 : (vs.take (((vs.take i).length : Nat) : Int).toNat).drop ((0 : Int)).toNat = vs.take i := by rw [hli]; simp
        rw [e2] at k2
        exact hK r2 rfl k2
      rcases hcase with hc | ⟨hc, hcl, hce⟩
      · rw [hc] at h1 h2 H hq1
        subst h1; subst h2
        simp only [List.length_map] at hq1
        rw [if_pos (by simp)]
        rw [if_pos (by simp; rw [hq1, List.length_take]; omega)]
        refine keep (m := 0) (by rw [hq1]) fun r2 _ k2 => ?_
        refine cl_mono (all_spec (by simp; omega) (See.row (fun _ => rfl) 0 rfl) (See.ro (fun _ => rfl) k2.tail.tail) H) ?_
        rintro r w ⟨rfl, H⟩
        exact ⟨all_canon _, H.drop.drop.drop.below⟩
      · rw [hc] at h1 h2 H hq1
        simp only at h1 h2 H hq1
        subst h1; subst h2
        rw [if_neg (by simp)]
        dsimp only
        refine sub_st (by omega) (by omega) (by omega) (by omega) fun r3 hr3 => ?_
        have hr3c : r3.len ≤ r3.cap := by
          obtain ⟨x1, x2, _⟩ := sub_at hr3
          rw [x1, x2]; omega
        have k3 := kb.sub (fun _ => rfl) hr3 (by rw [B_len]; omega)
        have eb3 : ((B (encs vs)).take (((encs (vs.take i)).length : Nat) : Int).toNat).drop ((0 : Int)).toNat = B (encs (vs.take i)) := by
          have : ((B (encs vs)).take (((encs (vs.take i)).length : Nat) : Int).toNat).drop ((0 : Int)).toNat = B ((encs vs).take (encs (vs.take i)).length) := by
            unfold B; rw [← List.map_take]; simp
          rw [this, hce]
        rw [eb3] at k3
        refine cl_mono (unpack_spec hr3c (by omega) (See.ro (fun _ => rfl) k3.tail) H) ?_
        rintro ⟨p1, p2, p3⟩ w ⟨h1, h2, H⟩
        rw [hu] at h1 h2 H
        simp only at h1 h2 H
        subst h1; subst h2
        have hp1 := row_len H
        simp only [List.length_map] at hp1
        rw [if_pos (by
          simp only [Bool.and_eq_true, beq_iff_eq, decide_eq_true_eq]
          refine ⟨⟨⟨⟨trivial, ?_⟩, ?_⟩, trivial⟩, ?_⟩
          · rw [hq1]; rfl
          · omega
          · rw [hp1, List.length_take]; omega)]
        refine keep (m := 0) (by rw [hp1]) fun r2 _ k2 => ?_
        refine cl_mono (all_spec (by simp; omega) (See.row (fun _ => rfl) 0 rfl) (See.ro (fun _ => rfl) k2.tail.tail.tail) H) ?_
        rintro r w ⟨rfl, H⟩
        exact ⟨all_canon _, H.drop.drop.drop.drop.below⟩
    · rw [if_pos (by
        simp only [Bool.not_true, Bool.false_or, Bool.or_eq_true, bne_iff_ne, ne_eq, beq_iff_eq]
        by_cases c : packE vs = 0
        · right
          rw [if_pos c] at hbl
          have : ¬ (encs vs).length ≠ 0 := fun h => hp ⟨c, h⟩
          omega
        · exact .inl c)]
      refine cl_mono (awake_spec H) ?_
      rintro r w ⟨hr, H⟩
      exact ⟨hr, H.drop.drop.below⟩
theorem apart_walk (W : World) (u v : Val) (g0 : G36 W u) (g1 : G36 W v) : cl Try.prog 9 [TV.enc u, TV.enc v] tBool W fun r w' => r = true ∧ RowKit.Below W.heap.size W w' := by
  have hu := in_of g0
  have hv := in_of g1
  refine F9_ok ?_
  unfold F9
  refine nw_st (St.start W) fun b3 w H => ?_
  refine nw_st H fun b5 w H => ?_
  refine ld_st (x := u.S) 1 H rfl rfl rfl ?_
  refine ex_i v.S (fun _ => rdat_cel tStr H rfl rfl) ?_
  split
  · refine cl_mono (awake_spec H) ?_
    rintro r w ⟨hr, H⟩
    exact ⟨hr, H.drop.drop.below⟩
  · refine vld_st (x := u) 1 H rfl ?_
    refine nwS_st H fun b w H => ?_
    have H := row_new (sz := 5) (m := 1) rfl H
    refine cl_mono (pack_spec (vs := [u]) (by simpa using hu) (by simp) (See.row (fun _ => rfl) 0 rfl) H) ?_
    rintro ⟨a1, e1⟩ w ⟨he, h1, h2, H⟩
    simp only at he h1
    subst he
    have H := row_packed (s := a1) h1 h2 H
    clear h1 h2
    refine vld_st (x := v) 2 H rfl ?_
    refine nwS_st H fun b w H => ?_
    have H := row_new (sz := 5) (m := 1) rfl H
    refine cl_mono (pack_spec (vs := [v]) (by simpa using hv) (by simp) (See.row (fun _ => rfl) 0 rfl) H) ?_
    rintro ⟨a2, e2⟩ w ⟨he, h1, h2, H⟩
    simp only at he h1
    subst he
    have H := row_packed (s := a2) h1 h2 H
    clear h1 h2
    refine cl_mono (awake_spec H) ?_
    rintro r w ⟨rfl, H⟩
    by_cases hp : packE [u] = 0 ∧ packE [v] = 0
    · obtain ⟨hp1, hp2⟩ := hp
      rw [if_neg (by simp [hp1, hp2])]
      rw [if_pos hp1, if_pos hp2] at H
      have ou : okV u = 0 := (pack_ok hp1).2 u (by simp)
      have ov : okV v = 0 := (pack_ok hp2).2 v (by simp)
      have eu : encs [u] = enc1 u := by simp [encs]
      have ev : encs [v] = enc1 v := by simp [encs]
      rw [eu, ev] at H
      have H : St W (row (tInt .u8) 5 1 a2 (B (enc1 v)) :: row (tInt .u8) 5 1 a1 (B (enc1 u)) :: cel b5 (TV.cells v) 36 :: cel b3 (TV.cells u) 36 :: [old W]) w := (H.ord [1, 3]).drop.drop
      refine vld_st (x := u) 3 H rfl ?_
      refine vld_st (x := v) 2 H rfl ?_
      refine cl_mono (same_spec H) ?_
      rintro r w ⟨rfl, H⟩
      refine dr_st H fun w H => ?_
      have l1 : a1.len = (enc1 u).length := by have := row_len (H.front 1); rw [this, B_len]
      have l2 : a2.len = (enc1 v).length := by have := row_len H; rw [this, B_len]
      refine b2s_st (r := enc1 u) (RdO_row (H.front 1)) ?_
      refine b2s_st (r := enc1 v) (RdO_row H) ?_
      have hcap := row_cap H
      rw [l1, l2]
      have hpre : ∀ rest, enc1 v = enc1 u ++ rest → same u v = true := by
        intro rest he
        have d1 := dec1_enc1 hu ou rest
        have d2 := dec1_enc1 hv ov []
        rw [List.append_nil] at d2
        rw [← he, d2] at d1
        simp only [Except.ok.injEq, Prod.mk.injEq] at d1
        exact same_iff.2 d1.1.symm
      have hsame : same u v = true → enc1 u = enc1 v := by
        intro h
        have hc := same_iff.1 h
        have e1 : enc1 u = enc1 (canon u) := by simp [enc1, canon, fb_fb]
        have e2 : enc1 v = enc1 (canon v) := by simp [enc1, canon, fb_fb]
        rw [e1, e2, hc]
      have heq : (enc1 u == enc1 v) = same u v := by
        rw [Bool.eq_iff_iff, beq_iff_eq]
        exact ⟨fun h => hpre [] (by rw [List.append_nil, h]), hsame⟩
      rw [heq]
      obtain ⟨s32, h32⟩ : ∃ x, ((same u v == same u v) && !(same u v || decide (((enc1 u).length : Int) > ((enc1 v).length : Int)))) = true → Sub a2 1 0 ((enc1 u).length : Int) (a2.cap : Int) x := by
        by_cases c : ((same u v == same u v) && !(same u v || decide (((enc1 u).length : Int) > ((enc1 v).length : Int)))) = true
        · simp only [beq_self_eq_true, Bool.true_and, Bool.not_or, Bool.and_eq_true, Bool.not_eq_true', decide_eq_false_iff_not] at c
          exact ⟨_, fun _ => ⟨by omega, by omega, by omega, by omega, rfl⟩⟩
        · exact ⟨nilS, fun h => absurd h c⟩
      refine ex_i s32 h32 ?_
      have hs33 : ((same u v == same u v) && !(same u v || decide (((enc1 u).length : Int) > ((enc1 v).length : Int)))) = true → B2S s32 w ((enc1 v).take (enc1 u).length) := by
        intro c
        have hs := h32 c
        simp only [beq_self_eq_true, Bool.true_and, Bool.not_or, Bool.and_eq_true, Bool.not_eq_true', decide_eq_false_iff_not] at c
        have := (See.row (l := row (tInt .u8) 5 1 a2 (B (enc1 v)) :: row (tInt .u8) 5 1 a1 (B (enc1 u)) :: cel b5 (TV.cells v) 36 :: cel b3 (TV.cells u) 36 :: [old W]) (fun _ => rfl) 0 rfl).sub (fun _ => rfl) hs (by rw [B_len]; omega) H
        have eb : ((B (enc1 v)).take (((enc1 u).length : Nat) : Int).toNat).drop ((0 : Int)).toNat = B ((enc1 v).take (enc1 u).length) := by
          unfold B; rw [← List.map_take]; simp
        rw [eb] at this
        exact this
      refine ex_i ((enc1 v).take (enc1 u).length) hs33 ?_
      refine ex_i (enc1 u) (fun _ => RdO_row (H.front 1)) ?_
      refine ⟨?_, H.drop.drop.drop.drop.below⟩
      simp only [beq_self_eq_true, Bool.true_and]
      cases hs : same u v with
      | true => rfl
      | false =>
        simp only [Bool.false_or]
        by_cases hgt : (((enc1 u).length : Int) > ((enc1 v).length : Int))
        · rw [decide_eq_true hgt]; rfl
        · rw [decide_eq_false hgt, Bool.false_or, Bool.not_eq_true', beq_eq_false_iff_ne]
          intro e
          have := hpre ((enc1 v).drop (enc1 u).length) (by rw [← e, List.length_take, Nat.min_eq_left (by omega)]; exact (List.take_append_drop _ _).symm)
          rw [hs] at this; cases this
    · rw [if_pos (by
        simp only [Bool.not_true, Bool.false_or, Bool.or_eq_true, bne_iff_ne, ne_eq]
        omega)]
      refine cl_mono (awake_spec H) ?_
      rintro r w ⟨hr, H⟩
      exact ⟨hr, H.drop.drop.drop.drop.drop.drop.below⟩
theorem own_walk (W : World) (s : Slc) (g0 : G22 W s) : cl Try.prog 10 [tSlc.enc s] tBool W fun r w' => r = true ∧ RowKit.Below W.heap.size W w' := by
  obtain ⟨vs, hI, hcap, hlen, hsl, hro⟩ := given g0
  have H := ro_old hro (St.start W)
  have k : See 5 [ro TV s vs, old W] TV s vs := See.ro (fun _ => rfl) (Know.here (m := RoP.mono))
  refine F10_ok ?_
  unfold F10
  refine cl_mono (few_spec hlen k H) ?_
  rintro r w ⟨hf, H⟩
  split
  · refine cl_mono (awake_spec H) ?_
    rintro r w ⟨hr, H⟩
    exact ⟨hr, H.drop.below⟩
  · rename_i hr
    have hn : vs.length ≤ 2000 := hf (by simpa using hr)
    refine cl_mono (pack_spec hI (by omega) k H) ?_
    rintro ⟨b1, e1⟩ w ⟨he, h1, h2, H⟩
    simp only at he h1
    subst he
    have H := row_packed (s := s) h1 h2 H
    clear h1 h2
    refine cl_mono (pack_spec hI (by omega) k.tail H) ?_
    rintro ⟨b2, e2⟩ w ⟨he, h1, h2, H⟩
    simp only at he h1
    subst he
    have H := row_packed (s := s) h1 h2 H
    clear h1 h2
    refine cl_mono (awake_spec H) ?_
    rintro r w ⟨rfl, H⟩
    by_cases hp : packE vs = 0
    · rw [if_neg (by simp [hp])]
      rw [if_pos hp] at H
      obtain ⟨hfine, hl⟩ := packE_fine hI hp
      have hel := encs_len hfine.dom hfine.ok
      have hul := unp_encs hfine hl
      have l1 := row_len (H.front 1)
      rw [B_len] at l1
      refine cl_mono (unpack_spec (row_cap (H.front 1)) (by omega) (See.row (fun _ => rfl) 1 rfl) H) ?_
      rintro ⟨m1, m2, m3⟩ w ⟨h1, h2, H⟩
      rw [hul] at h1 h2 H
      simp only at h1 h2 H
      clear h1 h2
      refine cl_mono (unpack_spec (row_cap (H.front 2)) (by omega) (See.row (fun _ => rfl) 2 rfl) H) ?_
      rintro ⟨n1, n2, n3⟩ w ⟨h1, h2, H⟩
      rw [hul] at h1 h2 H
      simp only at h1 h2 H
      clear h1 h2
      have lm := row_len (H.front 1)
      rw [List.length_map] at lm
      refine lp_p (fun i w => 0 ≤ i ∧ i ≤ b1.len ∧ ∃ xs : List Int, xs.length = b1.len ∧ St W (row (tInt .u8) 5 1 b1 xs :: row TV 36 5 n1 (vs.map canon) :: row TV 36 5 m1 (vs.map canon) :: row (tInt .u8) 5 1 b2 (B (encs vs)) :: [ro TV s vs, old W]) w) (fun i => (b1.len - i).toNat)
        ⟨Int.le_refl 0, by omega, B (encs vs), by rw [B_len]; omega, H.ord [3, 0, 1, 2]⟩ ?_
      clear H
      rintro i w ⟨i0, i1, xs, hx, H⟩ K hK
      unfold F10_l1
      split
      · rename_i hi
        have hi : i < b1.len := by simpa using hi
        obtain ⟨a, ha⟩ := row_ix (i := i) H i0 (by omega)
        refine ex_i a ha ?_
        refine st_row (fun _ => rfl) ha H fun w H => ?_
        have e1 : IntKind.i64.wrap (i + 1) = i + 1 := wrap_i64 (by omega) (by omega)
        rw [e1]
        exact hK _ _ ⟨by omega, by omega, _, by simpa using hx, H⟩ (by omega)
      · have H := H.drop
        clear hx K hK
        refine lp_p (fun i w => 0 ≤ i ∧ i ≤ vs.length ∧ ∃ ms : List Val, ms.length = vs.length ∧ St W (row TV 36 5 m1 ms :: row TV 36 5 n1 (vs.map canon) :: row (tInt .u8) 5 1 b2 (B (encs vs)) :: [ro TV s vs, old W]) w) (fun i => (vs.length - i).toNat)
          ⟨Int.le_refl 0, by omega, vs.map canon, by simp, H.front 1⟩ ?_
        clear H
        rintro i w ⟨i0, i1, ms, hm, H⟩ K hK
        unfold F10_l2
        simp only
        rw [lm]
        split
        · rename_i hi
          have hi : i < vs.length := by simpa using hi
          obtain ⟨a, ha⟩ := row_ix (i := i) H i0 (by omega)
          refine ex_i a ha ?_
          refine st_row (y := (⟨0, 0, 0, 0, []⟩ : Val)) (fun _ => rfl) ha H fun w H => ?_
          have e1 : IntKind.i64.wrap (i + 1) = i + 1 := wrap_i64 (by omega) (by omega)
          rw [e1]
          exact hK _ _ ⟨by omega, by omega, _, by simpa using hm, H⟩ (by omega)
        · have H := H.drop
          refine cl_mono (unpack_spec (row_cap (H.front 1)) (by omega) (See.row (fun _ => rfl) 1 rfl) H) ?_
          rintro ⟨q1, q2, q3⟩ w ⟨h1, h2, H⟩
          rw [hul] at h1 h2 H
          simp only at h1 h2 H
          subst h1; subst h2
          rw [if_pos (by simp)]
          refine cl_mono (all_spec (by simp; omega) (See.row (fun _ => rfl) 0 rfl) (k.app [_, _, _]) H) ?_
          rintro r w ⟨rfl, H⟩
          unfold F10_j3 F10_j4
          rw [all_canon, if_pos rfl]
          refine cl_mono (all_spec (by simp; omega) (See.row (fun _ => rfl) 1 rfl) (k.app [_, _, _]) H) ?_
          rintro r w ⟨rfl, H⟩
          exact ⟨all_canon _, H.drop.drop.drop.drop.below⟩
    · rw [if_pos (by simp [hp])]
      refine cl_mono (awake_spec H) ?_
      rintro r w ⟨rfl, H⟩
      exact ⟨by simp, H.drop.drop.drop.below⟩
end
end Go.Proofs.Ytjhenlajkhckfaa.Wire
namespace Go.Proofs.Ytjhenlajkhckfaa
open Go Go.Proofs.Ytjhenlajkhckfaa.Cf
theorem walkWireCuts (W : World) (s : Slc) (cut : Int) (g0 : G22 W s) (g1 : G42 W cut) : cl Try.prog 7 [tSlc.enc s, .int .u16 cut] tBool W fun r w' => r = true ∧ RowKit.Below W.heap.size W w' := Wire.cuts_walk W s cut g0 g1
theorem walkWireApart (W : World) (u v : S35) (g0 : G36 W u) (g1 : G36 W v) : cl Try.prog 9 [T35.enc u, T35.enc v] tBool W fun r w' => r = true ∧ RowKit.Below W.heap.size W w' := Wire.apart_walk W u v g0 g1
theorem walkWireOwn (W : World) (s : Slc) (g0 : G22 W s) : cl Try.prog 10 [tSlc.enc s] tBool W fun r w' => r = true ∧ RowKit.Below W.heap.size W w' := Wire.own_walk W s g0
end Go.Proofs.Ytjhenlajkhckfaa
