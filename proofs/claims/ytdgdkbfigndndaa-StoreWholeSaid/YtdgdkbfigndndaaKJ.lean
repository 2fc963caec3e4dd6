/- few, one, made, awake. -/
import Derived.Test.YtdgdkbfigndndaaKI
namespace Go.Proofs.Ytdgdkbfigndndaa.Store
open Go Go.Proofs.Ytdgdkbfigndndaa.Cf
set_option linter.unusedVariables false
set_option linter.unusedSimpArgs false
set_option maxRecDepth 100000
/-- What a call changes. -/
def step (M : Md) (o : S32 × List S57) : Md :=
  if o.1.Kind = 0 then putM M o.1.T_ (o.2.take 120) else if o.1.Kind = 3 then pruneM M o.1.T_ else if o.1.Kind = 4 then closeM M o.1.T_ else M
def play (M : Md) (os : List (S32 × List S57)) : Md := os.foldl step M
def M0 : Md := ⟨[], 0, 0⟩
theorem Inv.zero : Inv M0 0 := ⟨Nat.le_refl _, by simp [M0], by simp [M0], List.Pairwise.nil, by simp [M0]⟩
theorem Inv.more {M : Md} {n n' : Nat} (h : Inv M n) (hn : n ≤ n') : Inv M n' := ⟨Nat.le_trans h.len hn, h.key, h.time, h.rise, h.mark⟩
theorem Inv.step {M : Md} {n : Nat} (h : Inv M n) (o : S32 × List S57) : Inv (step M o) (n + 100) := by
  unfold Store.step
  split
  · exact h.put _ _
  · split
    · exact (h.prune _).more (by omega)
    · split
      · exact (h.close _).more (by omega)
      · exact h.more (by omega)
theorem Inv.play {os : List (S32 × List S57)} : ∀ {M : Md} {n : Nat}, Inv M n → Inv (play M os) (n + 100 * os.length) := by
  induction os with
  | nil => intro M n h; exact h
  | cons o os ih =>
    intro M n h
    have := ih (h.step o)
    exact this.more (by simp only [List.length_cons]; omega)
theorem play_take {M : Md} {os : List (S32 × List S57)} {i : Nat} (h : i < os.length) : play M (os.take (i + 1)) = step (play M (os.take i)) os[i] := by
  unfold play; rw [List.take_succ_eq_append_getElem h, List.foldl_append]; rfl
/-- Calls in memory. -/
def OpsP (s : Slc) (os : List (S32 × List S57)) (I : PMap) : Prop := RoP T32 s (os.map (·.1)) I ∧ ∀ p ∈ os, p.1.L.len ≤ p.1.L.cap ∧ RoP T57 p.1.L p.2 I
section
variable {W w : World} {l l' : List Assn}
theorem few_spec {o : S32} {xs : List S57} (hcap : o.L.len ≤ o.L.cap) (k : Know l (RoP T57 o.L xs)) (H : St W l w) : cl Try.prog 12 [T32.enc o] T32 w fun r w' => ∃ s, r = ⟨o.Kind, o.Key, o.T_, s⟩ ∧ St W (ro T57 s (xs.take 120) :: l) w' := by
  have hs := k.len H
  refine F12_ok ?_
  unfold F12
  refine nw_st H fun b2 w1 H => ?_
  refine nw_st H fun b4 w2 H => ?_
  refine ld_st (x := o.L) 1 H rfl rfl rfl ?_
  have hj : ∀ (s : Slc) (w : World), St W (cel b2 (T32.cells ⟨o.Kind, o.Key, o.T_, s⟩) 33 :: cel b4 (T32.cells Z32) 33 :: ro T57 s (xs.take 120) :: l) w →
      F12_j1 ⟨b2, 0, none⟩ ⟨b4, 0, none⟩ w fun r w' => ∃ s, r = ⟨o.Kind, o.Key, o.T_, s⟩ ∧ St W (ro T57 s (xs.take 120) :: l) w' := by
    intro s w H
    unfold F12_j1
    refine vld_st (x := (⟨o.Kind, o.Key, o.T_, s⟩ : S32)) 0 H rfl ?_
    refine vst_st (x := Z32) (y := (⟨o.Kind, o.Key, o.T_, s⟩ : S32)) len33 1 H rfl fun w3 H => ?_
    refine vld_st (x := (⟨o.Kind, o.Key, o.T_, s⟩ : S32)) 0 H rfl ?_
    exact ⟨s, rfl, H.drop.drop⟩
  rw [hs]
  split
  · rename_i hc
    have hc : 120 < xs.length := by simp at hc; omega
    refine ld_st (x := o.L) 1 H rfl rfl rfl ?_
    refine sub_st (by omega) (by omega) (by omega) (by omega) fun s1 hs1 => ?_
    have k1 := k.sub (fun _ => rfl) hs1 (by omega)
    simp only [show ((120 : Int)).toNat = 120 from rfl, show ((0 : Int)).toNat = 0 from rfl, List.drop_zero] at k1
    refine st_st (x := s1) 1 H rfl rfl (Nat.le_of_ble_eq_true rfl) fun w3 H => ?_
    have H := St.ro k1.tail.tail H
    exact hj s1 _ (H.ord [1, 2, 0])
  · rename_i hc
    have hc : xs.length ≤ 120 := by simp at hc; omega
    have e : xs.take 120 = xs := List.take_of_length_le hc
    have H := St.ro k.tail.tail H
    rw [← e] at H
    exact hj o.L _ (H.ord [2, 1, 0])
theorem one_spec {b n : Nat} {M : Md} {o : S32} {xs : List S57} (hI : Inv M n) (hn : n ≤ 8000) (hcap : o.L.len ≤ o.L.cap) (k : Know l (RoP T57 o.L xs)) (H : St W (sto b M :: l) w) :
    cl Try.prog 22 [.pointer (some ⟨b, 0, none⟩), T32.enc o] tUnit w fun _ w' => St W (sto b (step M (o, xs)) :: l) w' := by
  refine F22_ok ?_
  unfold F22
  refine nw_st H fun b3 w1 H => ?_
  refine ld_st (x := o.Kind) 0 H rfl rfl rfl ?_
  unfold step
  split
  · rename_i hk
    have hk : o.Kind = 0 := by simpa using hk
    rw [if_pos hk]
    refine dr_st H fun w2 H => ?_
    refine ld_st (x := o.T_) 0 H rfl rfl rfl ?_
    refine vld_st (x := o) 0 H rfl ?_
    refine cl_mono (few_spec hcap k.tail.tail H) ?_
    rintro r w3 ⟨s, rfl, H⟩
    refine ⟨rdat_cel (tInt .i64) (H.front 1) rfl rfl, ?_⟩
    refine cl_mono (put_spec (t := o.T_) hI hn (by rw [List.length_take]; omega) (See.ro (fun _ => rfl) (Know.here (m := RoP.mono))) (H.ord [2, 0])) ?_
    rintro r w4 ⟨_, H⟩
    refine ⟨?_, (((H.front 1).drop).front 1).drop⟩
    have := vld_st (x := o) (k := fun x => RdAt T32 ⟨b3, 0, none⟩ w4 x) 2 H rfl
    exact rdat_cel T32 (H.front 2) rfl (at_all _)
  · rename_i hk
    have hk : ¬ o.Kind = 0 := by simpa using hk
    rw [if_neg hk]
    split
    · rename_i hk
      have hk : o.Kind = 3 := by simpa using hk
      rw [if_pos hk]
      refine ld_st (x := o.T_) 0 H rfl rfl rfl ?_
      refine cl_mono (prune_spec (t := o.T_) hI (by omega) (H.front 1)) ?_
      rintro r w2 ⟨_, H⟩
      exact (H.front 1).drop
    · rename_i hk
      have hk : ¬ o.Kind = 3 := by simpa using hk
      rw [if_neg hk]
      split
      · rename_i hk
        have hk : o.Kind = 4 := by simpa using hk
        rw [if_pos hk]
        refine ld_st (x := o.T_) 0 H rfl rfl rfl ?_
        refine cl_mono (close_spec (t := o.T_) (H.front 1)) ?_
        rintro r w2 ⟨_, H⟩
        exact (H.front 1).drop
      · rename_i hk
        have hk : ¬ o.Kind = 4 := by simpa using hk
        rw [if_neg hk]
        exact H.drop
theorem made_spec {s : Slc} {os : List (S32 × List S57)} (k : Know l (OpsP s os)) (H : St W l w) : cl Try.prog 21 [tSlc.enc s] tPtr w fun r w' => ∃ b, r = some ⟨b, 0, none⟩ ∧ St W (sto b (play M0 (os.take 30)) :: l) w' := by
  have k1 : Know l (RoP T32 s (os.map (·.1))) := k.imp fun _ h => h.1
  have hs := k1.len H
  rw [List.length_map] at hs
  refine F21_ok ?_
  unfold F21
  refine cl_mono (snew_spec H) ?_
  rintro r w1 ⟨b, rfl, H⟩
  refine lp_i (fun i w => 0 ≤ i ∧ i ≤ os.length ∧ i ≤ 30 ∧ St W (sto b (play M0 (os.take i.toNat)) :: l) w) (fun i => (30 - i).toNat) ⟨Int.le_refl 0, by omega, by omega, H⟩ ?_
  rintro i w ⟨h0, h1, h2, H⟩
  unfold F21_l1
  rw [hs]
  split
  · rename_i hc
    have hc : i < os.length ∧ i < 30 := by simpa using hc
    have e1 : IntKind.i64.wrap (i + 1) = i + 1 := wrap_i64 (by omega) (by omega)
    obtain ⟨a, ha⟩ := k1.tail.ix (sz := 4) (i := i) H h0 (by rw [List.length_map]; exact hc.1)
    have hx : (os.map (·.1))[i.toNat]? = some (os[i.toNat]).1 := by rw [List.getElem?_map, List.getElem?_eq_getElem (by omega)]; rfl
    have hp : Know l fun I => (os[i.toNat]).1.L.len ≤ (os[i.toNat]).1.L.cap ∧ RoP T57 (os[i.toNat]).1.L (os[i.toNat]).2 I := k.imp fun _ h => h.2 _ (List.getElem_mem _)
    have hpt := play_take (M := M0) (os := os) (i := i.toNat) (by omega)
    rw [← show (i + 1).toNat = i.toNat + 1 from by omega] at hpt
    generalize os[i.toNat] = o at hx hp hpt
    refine ex_i a ha ?_
    refine ex_i o.1 (k1.tail.rd (fun _ => rfl) ha hx H) ?_
    have hcap : o.1.L.len ≤ o.1.L.cap := by
      obtain ⟨I, _, h⟩ := Know.everI hp H.drop
      exact h.1
    have hI := (Inv.zero.play (os := os.take i.toNat)).more (n' := 3000) (by rw [List.length_take]; omega)
    refine cl_mono (one_spec (xs := o.2) hI (by omega) hcap (hp.imp fun _ h => h.2) H) ?_
    intro r w2 H
    rw [e1]
    refine ⟨⟨by omega, by omega, by omega, ?_⟩, by omega⟩
    rw [hpt]; exact H
  · rename_i hc
    refine ⟨b, rfl, ?_⟩
    have hc : ¬ (i < os.length ∧ i < 30) := by simpa using hc
    have e : os.take i.toNat = os.take 30 := by
      by_cases h : i = 30
      · subst h; rfl
      · rw [List.take_of_length_le (by omega), List.take_of_length_le (by omega)]
    rw [← e]; exact H
def A1 : Md := ⟨[⟨5, ⟨1, 100⟩⟩, ⟨5, ⟨2, 50⟩⟩], 0, 0⟩
def A2 : Md := ⟨[⟨5, ⟨1, 100⟩⟩, ⟨5, ⟨2, 50⟩⟩, ⟨9, ⟨2, 80⟩⟩], 0, 0⟩
def A3 : Md := ⟨[⟨5, ⟨1, 100⟩⟩, ⟨5, ⟨2, 50⟩⟩, ⟨9, ⟨2, 80⟩⟩, ⟨7, ⟨1, 70⟩⟩], 0, 0⟩
def A4 : Md := ⟨[⟨5, ⟨1, 100⟩⟩, ⟨5, ⟨2, 50⟩⟩, ⟨9, ⟨2, 80⟩⟩, ⟨7, ⟨1, 70⟩⟩], 9, 0⟩
def A5 : Md := ⟨[⟨9, ⟨2, 80⟩⟩, ⟨7, ⟨1, 70⟩⟩], 9, 9⟩
theorem a1 : putM M0 5 [⟨1, 100⟩, ⟨2, 50⟩] = A1 ∧ putE M0 5 [⟨1, 100⟩, ⟨2, 50⟩] = 0 := ⟨rfl, rfl⟩
theorem a2 : putM A1 9 [⟨2, 80⟩] = A2 ∧ putE A1 9 [⟨2, 80⟩] = 0 := ⟨rfl, rfl⟩
theorem a3 : putM A2 7 [⟨1, 70⟩] = A3 ∧ putE A2 7 [⟨1, 70⟩] = 0 := ⟨rfl, rfl⟩
theorem a4 : closeM A3 9 = A4 ∧ closeE 9 = 0 := ⟨rfl, rfl⟩
theorem a5 : pruneM A4 9 = A5 ∧ pruneE A4 9 = 0 := ⟨rfl, rfl⟩
theorem aKeys : Keys A4.rows [1, 2] := by
  refine ⟨by decide, fun k => ?_⟩
  simp only [A4, vs_cons, vs_nil, List.mem_cons, List.not_mem_nil, or_false]
  by_cases h1 : k = 1
  · subst h1; simp
  · by_cases h2 : k = 2
    · subst h2; simp
    · simp [h1, h2, Ne.symm h1, Ne.symm h2]
theorem aSnap : snapL A4 8 = [⟨1, 70⟩, ⟨2, 50⟩] := by
  unfold snapL
  rw [if_pos (by rfl), keysOf_eq aKeys]; rfl
theorem awake_spec (H : St W l w) : cl Try.prog 10 [] tBool w fun r w' => r = true ∧ St W l w' := by
  refine F10_ok ?_
  unfold F10
  refine cl_mono (snew_spec H) ?_
  rintro r w1 ⟨b, rfl, H⟩
  rw [if_neg (by simp)]
  have I0 := Inv.zero
  have I1 := I0.put 5 [⟨1, 100⟩, ⟨2, 50⟩]
  rw [a1.1] at I1
  have I2 := I1.put 9 [⟨2, 80⟩]
  rw [a2.1] at I2
  have I3 := I2.put 7 [⟨1, 70⟩]
  rw [a3.1] at I3
  have I4 := I3.close 9
  rw [a4.1] at I4
  have I5 := I4.prune 9
  rw [a5.1] at I5
  refine nwS_st H fun c1 w2 H => ?_
  have H := row_new (T := T57) (sz := 2) (m := 2) rfl H
  refine cl_mono (put_spec (M := M0) (t := 5) (xs := [⟨1, 100⟩, ⟨2, 50⟩]) I0 (by omega) (by simp) (See.row len58 0 rfl) (H.front 1)) ?_
  rintro r6 w3 ⟨h6, H⟩
  rw [a1.1] at H; rw [a1.2] at h6
  have H := (H.front 1).drop
  refine nwS_st H fun c2 w4 H => ?_
  have H := row_new (T := T57) (sz := 2) (m := 1) rfl H
  refine cl_mono (put_spec (t := 9) (xs := [⟨2, 80⟩]) I1 (by omega) (by simp) (See.row len58 0 rfl) (H.front 1)) ?_
  rintro r10 w5 ⟨h10, H⟩
  rw [a2.1] at H; rw [a2.2] at h10
  have H := (H.front 1).drop
  refine nwS_st H fun c3 w6 H => ?_
  have H := row_new (T := T57) (sz := 2) (m := 1) rfl H
  refine cl_mono (put_spec (t := 7) (xs := [⟨1, 70⟩]) I2 (by omega) (by simp) (See.row len58 0 rfl) (H.front 1)) ?_
  rintro r14 w7 ⟨h14, H⟩
  rw [a3.1] at H; rw [a3.2] at h14
  have H := (H.front 1).drop
  refine cl_mono (snap_spec (t := 8) I3 (by omega) H) ?_
  rintro r16 w8 ⟨h16, H⟩
  have h16 : r16.2 = 128 := h16
  have H := H.drop
  refine cl_mono (close_spec (t := 9) H) ?_
  rintro r18 w9 ⟨h18, H⟩
  rw [a4.1] at H; rw [a4.2] at h18
  refine cl_mono (snap_spec (t := 8) I4 (by omega) H) ?_
  rintro r20 w10 ⟨h20, H⟩
  have h20 : r20.2 = 0 := h20
  rw [aSnap] at H
  have hlen := row_len H
  obtain ⟨p0, hp0⟩ := row_ix (sz := 2) (i := 0) H (by omega) (by simp)
  obtain ⟨p1, hp1⟩ := row_ix (sz := 2) (i := 1) H (by omega) (by simp)
  have H := row_stay H
  refine cl_mono (get_spec (k := 2) (t := 9) I4 (by omega) (H.front 1)) ?_
  rintro r22 w11 ⟨h22, H⟩
  have h22 : r22 = (⟨9, 80⟩, 0) := h22
  subst h22
  refine nw_st H fun b23 w12 H => ?_
  refine vst_st (x := Z35) (y := (⟨9, 80⟩ : S35)) len36 0 H rfl fun w13 H => ?_
  refine cl_mono (slast_spec (k := 1) I4 (by omega) (H.front 1)) ?_
  rintro r27 w14 ⟨h27, H⟩
  have h27 : r27 = (⟨7, 70⟩, true) := h27
  subst h27
  refine nw_st H fun b28 w15 H => ?_
  refine vst_st (x := Z35) (y := (⟨7, 70⟩ : S35)) len36 0 H rfl fun w16 H => ?_
  refine cl_mono (prune_spec (t := 9) I4 (by omega) (H.front 1)) ?_
  rintro r32 w17 ⟨h32, H⟩
  rw [a5.1] at H; rw [a5.2] at h32
  refine cl_mono (snap_spec (t := 8) I5 (by omega) H) ?_
  rintro r34 w18 ⟨h34, H⟩
  have h34 : r34.2 = 126 := h34
  have H := H.drop
  -- sto, cel b28, cel b23, ro, l
  have kr : Know (sto b A5 :: cel b28 (T35.cells ⟨7, 70⟩) 36 :: cel b23 (T35.cells ⟨9, 80⟩) 36 :: ro T57 r20.1 [⟨1, 70⟩, ⟨2, 50⟩] :: l) (RoP T57 r20.1 [⟨1, 70⟩, ⟨2, 50⟩]) := (Know.here (m := RoP.mono)).tail.tail.tail
  refine ex_i p0 (fun _ => hp0) ?_
  refine ex_i 70 (fun _ => kr.fld (x := (⟨1, 70⟩ : S57)) (fun _ => rfl) hp0 rfl rfl H) ?_
  refine ex_i p1 (fun _ => hp1) ?_
  refine ex_i 50 (fun _ => kr.fld (x := (⟨2, 50⟩ : S57)) (fun _ => rfl) hp1 rfl rfl H) ?_
  refine ex_i 80 (fun _ => rdat_cel (tInt .i64) (H.front 2) rfl rfl) ?_
  refine ex_i 7 (fun _ => rdat_cel (tInt .i64) (H.front 1) rfl rfl) ?_
  rw [h6, h10, h14, h16, h18, h20, h32, h34, hlen]
  rw [if_pos (by decide)]
  refine cl_mono (size_spec I5 (by omega) H) ?_
  rintro r55 w19 ⟨h55, H⟩
  have h55 : r55 = 2 := h55
  subst h55
  unfold F10_j1
  rw [if_pos (by decide)]
  refine cl_mono (closed_spec H) ?_
  rintro r52 w20 ⟨h52, H⟩
  have h52 : r52 = 9 := h52
  subst h52
  unfold F10_j2
  rw [if_pos (by decide)]
  refine cl_mono (mark_spec H) ?_
  rintro r49 w21 ⟨h49, H⟩
  have h49 : r49 = 9 := h49
  subst h49
  unfold F10_j3
  exact ⟨rfl, H.drop.drop.drop.drop⟩
end
end Go.Proofs.Ytdgdkbfigndndaa.Store
