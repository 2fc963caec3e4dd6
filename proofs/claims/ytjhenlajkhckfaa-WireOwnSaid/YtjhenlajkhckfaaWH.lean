/- The laws of the bytes: walks (packs, valid, back, once, joins, apart). -/
import Derived.Test.YtjhenlajkhckfaaWG
namespace Go.Proofs.Ytjhenlajkhckfaa.Wire
open Go Go.Proofs.Ytjhenlajkhckfaa.Cf
set_option linter.unusedVariables false
set_option linter.unusedSimpArgs false
set_option maxRecDepth 100000
theorem canon_canon (v : Val) : canon (canon v) = canon v := by simp [canon, fb_fb]
theorem all_canon (vs : List Val) : all (vs.map canon) vs = true := by
  unfold all
  rw [beq_iff_eq, List.map_map]
  congr 1
  funext v
  exact canon_canon v
theorem all_canon2 (vs : List Val) : all vs (vs.map canon) = true := by
  have := all_canon vs
  unfold all at *
  rw [beq_iff_eq] at *
  exact this.symm
theorem all_self (vs : List Val) : all vs vs = true := by simp [all]
theorem in_of {W : World} {v : Val} (g : G36 W v) : In v := by
  obtain ⟨g1, g2, g3, g4, g5⟩ := g
  have m1 : IntKind.i64.min = -9223372036854775808 := rfl
  have m2 : IntKind.i64.max = 9223372036854775807 := rfl
  have m3 : IntKind.u64.min = 0 := rfl
  have m4 : IntKind.u64.max = 18446744073709551615 := rfl
  unfold G32 at g1
  unfold G33 at g2
  unfold G2 at g3
  unfold G34 at g4
  refine ⟨by omega, by omega, by omega, by omega, by omega, by omega, g4⟩
theorem packE_fine {vs : List Val} (hd : ∀ v ∈ vs, In v) (h : packE vs = 0) : Fine vs ∧ vs.length ≤ 1000 := ⟨⟨hd, (pack_ok h).2⟩, (pack_ok h).1⟩
theorem packE_of {vs : List Val} (h : Fine vs) (hl : vs.length ≤ 1000) : packE vs = 0 := by
  unfold packE
  rw [if_neg (by omega), bad_of h.ok]
section
variable {W w : World} {l l' : List Assn}
/-- A slice of values that was handed in. -/
theorem given {s : Slc} (g : G22 W s) : ∃ vs : List Val, (∀ v ∈ vs, In v) ∧ s.len ≤ s.cap ∧ vs.length ≤ 9223372036854775807 ∧ vs.length = s.len ∧ RoP TV s vs fun b => W.heap[b]? := by
  obtain ⟨⟨h1, h2⟩, vs, h3, h4⟩ := g
  have h5 := h4.1
  exact ⟨vs, fun v hv => in_of (h3 v hv), h1, by omega, h5, h4⟩
theorem row_packed {s r : Slc} {vs : List Val} (h : packE vs = 0 → St W (row (tInt .u8) 5 1 r (B (encs vs)) :: l) w) (hn : packE vs ≠ 0 → r = nilS) (H : St W l w) : St W (row (tInt .u8) 5 1 r (B (if packE vs = 0 then encs vs else [])) :: l) w := by
  by_cases c : packE vs = 0
  · rw [if_pos c]; exact h c
  · rw [if_neg c, hn c]; exact row_nil _ _ _ H
theorem packs_walk (W : World) (s : Slc) (g0 : G22 W s) : cl Try.prog 3 [tSlc.enc s] tBool W fun r w' => r = true ∧ RowKit.Below W.heap.size W w' := by
  obtain ⟨vs, hI, hcap, hlen, hsl, hro⟩ := given g0
  have H := ro_old hro (St.start W)
  have k : See 5 [ro TV s vs, old W] TV s vs := See.ro (fun _ => rfl) (Know.here (m := RoP.mono))
  refine F3_ok ?_
  unfold F3 F3_j1
  refine cl_mono (few_spec hlen k H) ?_
  rintro r w ⟨hf, H⟩
  split
  · refine cl_mono (awake_spec H) ?_
    rintro r w ⟨hr, H⟩
    exact ⟨hr, H.drop.below⟩
  · rename_i hr
    have hn : vs.length ≤ 2000 := hf (by simpa using hr)
    refine nwS_st H fun b w H => ?_
    have H := row_new (sz := 5) (m := 0) rfl H
    refine apd_row (fun _ => rfl) 0 H rfl (k.tail.rdS H) (by simp; omega) fun r9 w H => ?_
    rw [List.nil_append] at H
    refine cl_mono (pack_spec hI (by omega) (See.row (fun _ => rfl) 0 rfl) H) ?_
    rintro ⟨b1, e1⟩ w ⟨he, h1, h2, H⟩
    have H := row_packed (s := s) h1 h2 H
    simp only at he H
    clear h1 h2
    subst he
    refine cl_mono (rpack_spec hI (by omega) (k.app [row (tInt .u8) 5 1 b1 (B (if packE vs = 0 then encs vs else [])), row TV 36 5 r9 vs]) H) ?_
    rintro ⟨b2, e2⟩ w ⟨he, hb, H⟩
    simp only at he hb
    subst he; subst hb
    refine cl_mono (awake_spec H) ?_
    rintro r w ⟨rfl, H⟩
    refine ex_i (if packE vs = 0 then encs vs else []) (fun _ => RdO_row H) ?_
    rw [if_pos (by simp)]
    refine cl_mono (all_spec (by omega) (See.row (fun _ => rfl) 1 rfl) (k.app [row (tInt .u8) 5 1 b1 (B (if packE vs = 0 then encs vs else [])), row TV 36 5 r9 vs]) H) ?_
    rintro r w ⟨rfl, H⟩
    exact ⟨all_self vs, H.drop.drop.drop.below⟩
theorem valid_walk (W : World) (v : Val) (g0 : G36 W v) : cl Try.prog 4 [TV.enc v] tBool W fun r w' => r = true ∧ RowKit.Below W.heap.size W w' := by
  refine F4_ok ?_
  unfold F4 F4_j1
  refine nw_st (St.start W) fun b w H => ?_
  refine dr_st H fun w H => ?_
  refine cl_mono (awake_spec H) ?_
  rintro r w ⟨rfl, H⟩
  rw [if_pos rfl]
  refine ld_st (x := v.S) 0 H rfl rfl rfl ?_
  split
  · exact ⟨rfl, H.drop.below⟩
  · refine vld_st (x := v) 0 H rfl ?_
    refine vld_st (x := v) 0 H rfl ?_
    refine cl_mono (valid_spec H) ?_
    rintro r w ⟨rfl, H⟩
    refine ⟨rdat_cel tStr H rfl rfl, rdat_cel TV H rfl (at_all _), ?_⟩
    refine cl_mono (rvalid_spec H) ?_
    rintro r w ⟨rfl, H⟩
    refine ⟨rdat_cel tStr H rfl rfl, rdat_cel TV H rfl (at_all _), ?_⟩
    exact ⟨by simp, H.drop.below⟩
theorem back_walk (W : World) (s : Slc) (g0 : G22 W s) : cl Try.prog 5 [tSlc.enc s] tBool W fun r w' => r = true ∧ RowKit.Below W.heap.size W w' := by
  obtain ⟨vs, hI, hcap, hlen, hsl, hro⟩ := given g0
  have H := ro_old hro (St.start W)
  have k : See 5 [ro TV s vs, old W] TV s vs := See.ro (fun _ => rfl) (Know.here (m := RoP.mono))
  refine F5_ok ?_
  unfold F5 F5_j1
  refine cl_mono (few_spec hlen k H) ?_
  rintro r w ⟨hf, H⟩
  split
  · refine cl_mono (awake_spec H) ?_
    rintro r w ⟨hr, H⟩
    exact ⟨hr, H.drop.below⟩
  · rename_i hr
    have hn : vs.length ≤ 2000 := hf (by simpa using hr)
    refine cl_mono (pack_spec hI (by omega) k H) ?_
    rintro ⟨b1, e1⟩ w ⟨he, h1, h2, H⟩
    simp only at he h1
    subst he
    refine cl_mono (awake_spec (l := row (tInt .u8) 5 1 b1 (B (if packE vs = 0 then encs vs else [])) :: [ro TV s vs, old W]) (row_packed (s := s) h1 h2 H)) ?_
    clear h1 h2 H
    rintro r w ⟨rfl, H⟩
    by_cases hp : packE vs = 0
    · rw [if_neg (by simp [hp])]
      rw [if_pos hp] at H
      obtain ⟨hfine, hl⟩ := packE_fine hI hp
      have hel := encs_len hfine.dom hfine.ok
      refine cl_mono (unpack_spec (row_cap H) (by omega) (See.row (fun _ => rfl) 0 rfl) H) ?_
      rintro ⟨q1, q2, q3⟩ w ⟨h1, h2, H⟩
      rw [unp_encs hfine hl] at h1 h2 H
      simp only at h1 h2 H
      subst h1; subst h2
      rw [if_pos (by simp)]
      refine cl_mono (all_spec (by omega) (k.app [row TV 36 5 q1 (vs.map canon), row (tInt .u8) 5 1 b1 (B (encs vs))]) (See.row (fun _ => rfl) 0 rfl) H) ?_
      rintro r w ⟨rfl, H⟩
      exact ⟨all_canon2 vs, H.drop.drop.drop.below⟩
    · rw [if_pos (by simp [hp])]
      refine cl_mono (awake_spec H) ?_
      rintro r w ⟨hr, H⟩
      exact ⟨hr, H.drop.drop.below⟩
theorem once_walk (W : World) (s : List UInt8) (g0 : G9 W s) : cl Try.prog 6 [.string ⟨s.toArray⟩] tBool W fun r w' => r = true ∧ RowKit.Below W.heap.size W w' := by
  refine F6_ok ?_
  unfold F6
  split
  · refine cl_mono (awake_spec (St.start W)) ?_
    rintro r w ⟨hr, H⟩
    exact ⟨hr, H.below⟩
  · rename_i hc
    have hc : s.length ≤ 20000 := by simp at hc; omega
    refine s2b_st (St.start W) fun r5 w hl hcap H => ?_
    refine cl_mono (unpack_spec hcap (by omega) (See.ro (fun _ => rfl) (Know.here (m := RoP.mono))) H) ?_
    rintro ⟨q1, q2, q3⟩ w ⟨h1, h2, H⟩
    simp only at h1 h2 H
    subst h1; subst h2
    refine cl_mono (awake_spec H) ?_
    rintro r w ⟨rfl, H⟩
    by_cases he : (unp s).2.2 = 0
    · rw [if_neg (by simp [he])]
      obtain ⟨hfine, hcan, hs, hml⟩ := unp_sound he rfl
      generalize (unp s).1 = m at hfine hcan hs hml H
      have hp := packE_of hfine hml
      refine cl_mono (pack_spec hfine.dom (by omega) (See.row (fun _ => rfl) 0 rfl) H) ?_
      rintro ⟨b1, e1⟩ w ⟨he1, h1, h2, H⟩
      have H := h1 hp
      rw [hp] at he1
      simp only at he1 H
      subst he1
      refine ex_i s (fun _ => hs ▸ RdO_row H) ?_
      exact ⟨by simp, H.drop.drop.drop.below⟩
    · rw [if_pos (by simp [he])]
      refine cl_mono (awake_spec H) ?_
      rintro r w ⟨rfl, H⟩
      have hz : q1.len = 0 := by
        have := row_len H
        rw [unp_fail he] at this
        exact this
      exact ⟨by simp [hz], H.drop.drop.below⟩
theorem joins_walk (W : World) (s t : Slc) (g0 : G22 W s) (g1 : G22 W t) : cl Try.prog 8 [tSlc.enc s, tSlc.enc t] tBool W fun r w' => r = true ∧ RowKit.Below W.heap.size W w' := by
  obtain ⟨us, hI, hcap, hlen, hsl, hro⟩ := given g0
  obtain ⟨vs, hI2, hcap2, hlen2, hsl2, hro2⟩ := given g1
  have H := ro_old hro2 (ro_old hro (St.start W) |> fun H => H.drop)
  have H : St W [ro TV s us, ro TV t vs, old W] W := St.ro (Know.tail (Know.old (Know.here (m := fun h k => PMap.le_trans k h)) hro)) H
  have k1 : See 5 [ro TV s us, ro TV t vs, old W] TV s us := See.ro (fun _ => rfl) (Know.here (m := RoP.mono))
  have k2 : See 5 [ro TV s us, ro TV t vs, old W] TV t vs := See.ro (fun _ => rfl) (Know.tail (Know.here (m := RoP.mono)))
  refine F8_ok ?_
  unfold F8
  have j1 : ∀ (b : Bool) (w : World), (b = false → us.length ≤ 2000 ∧ vs.length ≤ 2000) → St W [ro TV s us, ro TV t vs, old W] w → F8_j1 s t b w fun r w' => r = true ∧ RowKit.Below W.heap.size W w' := by
    intro b w hb H
    unfold F8_j1 F8_j2
    split
    · refine cl_mono (awake_spec H) ?_
      rintro r w ⟨hr, H⟩
      exact ⟨hr, H.drop.drop.below⟩
    · rename_i hbf
      obtain ⟨hn1, hn2⟩ := hb (by simpa using hbf)
      refine cl_mono (pack_spec hI (by omega) k1 H) ?_
      rintro ⟨a1, e1⟩ w ⟨he, h1, h2, H⟩
      simp only at he h1
      subst he
      have H := row_packed (s := s) h1 h2 H
      clear h1 h2
      refine cl_mono (pack_spec hI2 (by omega) k2.tail H) ?_
      rintro ⟨a2, e2⟩ w ⟨he, h1, h2, H⟩
      simp only at he h1
      subst he
      have H := row_packed (s := t) h1 h2 H
      clear h1 h2
      refine cl_mono (awake_spec H) ?_
      rintro r w ⟨rfl, H⟩
      by_cases hp : packE us = 0 ∧ packE vs = 0
      · obtain ⟨hp1, hp2⟩ := hp
        rw [if_neg (by simp [hp1, hp2])]
        rw [if_pos hp1, if_pos hp2] at H
        obtain ⟨f1, l1⟩ := packE_fine hI hp1
        obtain ⟨f2, l2⟩ := packE_fine hI2 hp2
        have x1 := encs_len f1.dom f1.ok
        have x2 := encs_len f2.dom f2.ok
        refine nwS_st H fun b w H => ?_
        have H := row_new (sz := 1) (m := 0) rfl H
        refine apd_row (fun _ => rfl) 0 H rfl (RdO_row (H.front 2)) (by simp [B_len]; omega) fun r w H => ?_
        rw [List.nil_append] at H
        refine apd_row (fun _ => rfl) 0 H rfl (RdO_row (H.front 1)) (by simp [B_len]; omega) fun r w H => ?_
        rw [← B_app, ← encs_app] at H
        have hsl3 : s.len + t.len = us.length + vs.length := by omega
        refine cl_mono (unpack_spec (bs := encs (us ++ vs)) (row_cap H) (by rw [encs_app, List.length_append]; omega) (See.row (fun _ => rfl) 0 rfl) H) ?_
        rintro ⟨q1, q2, q3⟩ w ⟨h1, h2, H⟩
        simp only at h1 h2 H
        subst h1; subst h2
        have ew : IntKind.i64.wrap ((s.len : Int) + (t.len : Int)) = ((us ++ vs).length : Nat) := by
          rw [wrap_i64 (by omega) (by omega), List.length_append]; omega
        rw [ew]
        by_cases hbig : (us ++ vs).length ≤ 1000
        · rw [if_neg (by simp; rw [List.length_append] at hbig; omega)]
          rw [unp_encs (f1.app f2) hbig] at H ⊢
          rw [if_pos (by simp)]
          refine nwS_st H fun b w H => ?_
          have H := row_new (sz := 5) (m := 0) rfl H
          refine apd_row (fun _ => rfl) 0 H rfl ((k1.app [_, _, _, _, _]).rdS H) (by simp; omega) fun r w H => ?_
          rw [List.nil_append] at H
          refine apd_row (fun _ => rfl) 0 H rfl ((k2.app [_, _, _, _, _]).rdS H) (by omega) fun r w H => ?_
          refine cl_mono (all_spec (by simp at hbig ⊢; omega) (See.row (fun _ => rfl) 1 rfl) (See.row (fun _ => rfl) 0 rfl) H) ?_
          rintro r w ⟨rfl, H⟩
          exact ⟨all_canon _, H.drop.drop.drop.drop.drop.drop.drop.below⟩
        · rw [if_pos (by simp; rw [List.length_append] at hbig; omega)]
          have hft := f1.app f2
          have hsp : us ++ vs = (us ++ vs).take 1000 ++ (us ++ vs).drop 1000 := (List.take_append_drop _ _).symm
          have hd : (us ++ vs).drop 1000 ≠ [] := by
            intro e
            have := congrArg List.length e
            rw [List.length_drop] at this
            simp at this hbig; omega
          have e20 : unp (encs (us ++ vs)) = ([], (encs ((us ++ vs).take 1000)).length, 20) := by
            have hfe : Fine ((us ++ vs).take 1000) := (hsp ▸ hft).left
            have hlt : ((us ++ vs).take 1000).length = 1000 := by rw [List.length_take]; omega
            conv => lhs; rw [hsp, encs_app]
            obtain ⟨f, hf, he⟩ := unp_encs_rest (rest := encs ((us ++ vs).drop 1000)) hfe (by omega)
            rw [he]
            obtain ⟨g, rfl⟩ : ∃ g, f = g + 1 := ⟨f - 1, by omega⟩
            obtain ⟨c, r, hcr⟩ : ∃ c r, encs ((us ++ vs).drop 1000) = c :: r := by
              have := encs_ge ((us ++ vs).drop 1000)
              cases hq : encs ((us ++ vs).drop 1000) with
              | nil =>
                rw [hq] at this
                exact absurd (List.length_eq_zero_iff.1 (by simpa using this)) hd
              | cons c r => exact ⟨c, r, rfl⟩
            rw [hcr]
            simp only [unpF]
            rw [if_pos (by rw [List.length_map, hlt])]
          have hz : q1.len = 0 := by
            have := row_len H
            rw [e20] at this
            exact this
          refine ⟨by rw [e20]; simp [hz], H.drop.drop.drop.drop.drop.drop.below⟩
      · rw [if_pos (by
          simp only [Bool.not_true, Bool.false_or, Bool.or_eq_true, bne_iff_ne, ne_eq]
          omega)]
        refine cl_mono (awake_spec H) ?_
        rintro r w ⟨hr, H⟩
        exact ⟨hr, H.drop.drop.drop.drop.below⟩
  refine cl_mono (few_spec hlen k1 H) ?_
  rintro r w ⟨hf, H⟩
  split
  · exact j1 true w (by simp) H
  · rename_i hr
    refine cl_mono (few_spec hlen2 k2 H) ?_
    rintro r2 w ⟨hf2, H⟩
    exact j1 _ w (fun h => ⟨hf (by simpa using hr), hf2 (by simpa using h)⟩) H
end
end Go.Proofs.Ytjhenlajkhckfaa.Wire
namespace Go.Proofs.Ytjhenlajkhckfaa
open Go Go.Proofs.Ytjhenlajkhckfaa.Cf
theorem walkWirePacks (W : World) (s : Slc) (g0 : G22 W s) : cl Try.prog 3 [tSlc.enc s] tBool W fun r w' => r = true ∧ RowKit.Below W.heap.size W w' := Wire.packs_walk W s g0
theorem walkWireValid (W : World) (v : S35) (g0 : G36 W v) : cl Try.prog 4 [T35.enc v] tBool W fun r w' => r = true ∧ RowKit.Below W.heap.size W w' := Wire.valid_walk W v g0
theorem walkWireBack (W : World) (s : Slc) (g0 : G22 W s) : cl Try.prog 5 [tSlc.enc s] tBool W fun r w' => r = true ∧ RowKit.Below W.heap.size W w' := Wire.back_walk W s g0
theorem walkWireOnce (W : World) (s : List UInt8) (g0 : G9 W s) : cl Try.prog 6 [.string ⟨s.toArray⟩] tBool W fun r w' => r = true ∧ RowKit.Below W.heap.size W w' := Wire.once_walk W s g0
theorem walkWireJoins (W : World) (s t : Slc) (g0 : G22 W s) (g1 : G22 W t) : cl Try.prog 8 [tSlc.enc s, tSlc.enc t] tBool W fun r w' => r = true ∧ RowKit.Below W.heap.size W w' := Wire.joins_walk W s t g0 g1
end Go.Proofs.Ytjhenlajkhckfaa
