/- Calls of the laws: one, made, part; awake. -/
import Derived.Test.YtpdaapffkdejoaaGreatVB
namespace Go.Proofs.YtpdaapffkdejoaaGreat.Vault
open Go Go.Proofs.YtpdaapffkdejoaaGreat.Cf Go.Proofs.YtpdaapffkdejoaaGreat.Store Go.Proofs.YtpdaapffkdejoaaGreat.Num
set_option linter.unusedVariables false
set_option linter.unusedSimpArgs false
set_option maxRecDepth 100000
abbrev OpL := S41
abbrev TOp := T41
def partL (o : OpL) : Part := ⟨o.ID, o.Account, o.N, o.Pays⟩
def oneV (v : Va) (o : OpL) : Va × Int :=
  if o.Kind = 0 then openV v o.T_ o.Account o.N else if o.Kind = 1 then holdV v o.T_ (partL o) else if o.Kind = 2 then commitV v o.T_ o.ID else if o.Kind = 3 then dropV v o.ID
  else if o.Kind = 4 then closeV v o.T_ else if o.Kind = 5 then pruneV v o.T_ else (v, 0)
theorem Fit.one {v : Va} (F : Fit v) {o : OpL} (h : o.ID ≤ 9223372036854775807) : Fit (oneV v o).1 := by
  unfold oneV
  split
  · exact F.open ..
  · split
    · exact F.hold h
    · split
      · exact F.commit ..
      · split
        · exact F.drop ..
        · split
          · exact F.close ..
          · split
            · exact F.prune ..
            · exact F
def playV (v : Va) (os : List OpL) : Va := os.foldl (fun v o => (oneV v o).1) v
theorem playV_take {v : Va} {os : List OpL} {i : Nat} (h : i < os.length) : playV v (os.take (i + 1)) = (oneV (playV v (os.take i)) os[i]).1 := by
  unfold playV
  rw [List.take_succ_eq_append_getElem h, List.foldl_append]; rfl
theorem Fit.play {os : List OpL} : ∀ {v : Va}, Fit v → (∀ o ∈ os, o.ID ≤ 9223372036854775807) → Fit (playV v os) := by
  induction os with
  | nil => exact fun F _ => F
  | cons o os ih => exact fun F h => ih (F.one (h o (List.mem_cons_self ..))) fun x hx => h x (List.mem_cons_of_mem _ hx)
def v0 (r : Nat) : Va := ⟨r, ⟨[], 0, 0⟩, 0, [], [], []⟩
section
variable {W w : World} {l l' : List Assn}
theorem lenOp (y : OpL) : (TOp.cells y).length = 6 := rfl
theorem part_spec {o : OpL} (H : St W l w) : cl Tryz.prog 20 [TOp.enc o] T52 w fun r w' => r = partL o ∧ St W l w' := by
  refine F20_ok ?_
  unfold F20
  refine nw_st H fun b1 w H => ?_
  refine nw_st H fun b2 w H => ?_
  refine ld_st (x := o.ID) 1 H rfl rfl rfl ?_
  refine ld_st (x := o.Account) 1 H rfl rfl rfl ?_
  refine ld_st (x := o.N) 1 H rfl rfl rfl ?_
  refine ld_st (x := o.Pays) 1 H rfl rfl rfl ?_
  refine vst_st (x := Z52) (y := partL o) len53 0 H rfl fun w H => ?_
  refine vld_st (x := partL o) 0 H rfl ?_
  exact ⟨rfl, H.drop.drop⟩
theorem one_spec {b : Nat} {v : Va} {o : OpL} (F : Fit v) (H : St W (vaA b v :: l) w) : cl Tryz.prog 11 [.pointer (some ⟨b, 0, none⟩), TOp.enc o] (tInt .i64) w fun r w' => r = (oneV v o).2 ∧ St W (vaA b (oneV v o).1 :: l) w' := by
  refine F11_ok ?_
  unfold F11 oneV
  refine nw_st H fun b1 w H => ?_
  refine ld_st (x := o.Kind) 0 H rfl rfl rfl ?_
  by_cases c0 : o.Kind = 0
  · rw [if_pos (by simpa using c0), if_pos c0]
    refine ld_st (x := o.T_) 0 H rfl rfl rfl ?_
    refine ld_st (x := o.Account) 0 H rfl rfl rfl ?_
    refine ld_st (x := o.N) 0 H rfl rfl rfl ?_
    refine cl_mono (vopen_spec F (H.front 1)) ?_
    rintro r w ⟨rfl, H⟩
    exact ⟨rfl, (H.front 1).drop⟩
  · rw [if_neg (by simpa using c0), if_neg c0]
    by_cases c1 : o.Kind = 1
    · rw [if_pos (by simpa using c1), if_pos c1]
      refine dr_st H fun w H => ?_
      refine ld_st (x := o.T_) 0 H rfl rfl rfl ?_
      refine vld_st (x := o) 0 H rfl ?_
      refine cl_mono (part_spec H) ?_
      rintro r w ⟨rfl, H⟩
      refine ⟨rdat_cel (tInt .i64) H rfl rfl, ?_⟩
      refine cl_mono (vhold_spec F (H.front 1)) ?_
      rintro r w ⟨rfl, H⟩
      have H := H.front 1
      refine ⟨rdat_cel TOp H rfl (at_all _), ?_⟩
      exact ⟨rfl, H.drop⟩
    · rw [if_neg (by simpa using c1), if_neg c1]
      by_cases c2 : o.Kind = 2
      · rw [if_pos (by simpa using c2), if_pos c2]
        refine ld_st (x := o.T_) 0 H rfl rfl rfl ?_
        refine ld_st (x := o.ID) 0 H rfl rfl rfl ?_
        refine cl_mono (commit_spec F (H.front 1)) ?_
        rintro r w ⟨rfl, H⟩
        exact ⟨rfl, (H.front 1).drop⟩
      · rw [if_neg (by simpa using c2), if_neg c2]
        by_cases c3 : o.Kind = 3
        · rw [if_pos (by simpa using c3), if_pos c3]
          refine ld_st (x := o.ID) 0 H rfl rfl rfl ?_
          refine cl_mono (drop_spec (H.front 1)) ?_
          rintro r w ⟨rfl, H⟩
          exact ⟨rfl, (H.front 1).drop⟩
        · rw [if_neg (by simpa using c3), if_neg c3]
          by_cases c4 : o.Kind = 4
          · rw [if_pos (by simpa using c4), if_pos c4]
            refine ld_st (x := o.T_) 0 H rfl rfl rfl ?_
            refine cl_mono (vclose_spec (H.front 1)) ?_
            rintro r w ⟨rfl, H⟩
            exact ⟨rfl, (H.front 1).drop⟩
          · rw [if_neg (by simpa using c4), if_neg c4]
            by_cases c5 : o.Kind = 5
            · rw [if_pos (by simpa using c5), if_pos c5]
              refine ld_st (x := o.T_) 0 H rfl rfl rfl ?_
              refine cl_mono (vprune_spec F (H.front 1)) ?_
              rintro r w ⟨rfl, H⟩
              exact ⟨rfl, (H.front 1).drop⟩
            · rw [if_neg (by simpa using c5), if_neg c5]
              exact ⟨rfl, H.drop⟩
/-- made: nil behind a rate that is none. -/
theorem made_spec {f : Nat} {s : Slc} {os : List OpL} (hf : f < 18446744073709551616) (hi : ∀ o ∈ os, o.ID ≤ 9223372036854775807) (k : See 6 l TOp s os) (H : St W l w) : cl Tryz.prog 7 [.float .f64 f, tSlc.enc s] tPtr w fun r w' =>
    (rateOk f → ∃ b, r = some ⟨b, 0, none⟩ ∧ St W (vaA b (playV (v0 f) (os.take 40)) :: l) w') ∧ (¬ rateOk f → r = none ∧ St W l w') := by
  refine F7_ok ?_
  unfold F7
  have hs := k.len H
  refine cl_mono (new_spec hf H) ?_
  rintro ⟨p, e⟩ w ⟨h1, h2⟩
  by_cases c : rateOk f
  · obtain ⟨he, b, hp, H⟩ := h1 c
    simp only at he hp
    subst he; subst hp
    rw [if_neg (by simp)]
    refine lp_i (fun i w => 0 ≤ i ∧ i ≤ os.length ∧ i ≤ 40 ∧ St W (vaA b (playV (v0 f) (os.take i.toNat)) :: l) w) (fun i => (40 - i).toNat) ⟨Int.le_refl 0, by omega, by omega, H⟩ ?_
    clear H
    rintro i w ⟨h0, h1, h2, H⟩
    have hF : Fit (playV (v0 f) (os.take i.toNat)) := (Fit.new c).play fun o ho => hi o (List.mem_of_mem_take ho)
    unfold F7_l1
    rw [hs]
    split
    · rename_i hc
      have hc : i < os.length ∧ i < 40 := by simpa using hc
      have e1 : IntKind.i64.wrap (i + 1) = i + 1 := wrap_i64 (by omega) (by omega)
      obtain ⟨a, ha⟩ := k.tail.ix (i := i) H h0 hc.1
      have hx : os[i.toNat]? = some os[i.toNat] := List.getElem?_eq_getElem (by omega)
      have hpt := playV_take (v := v0 f) (os := os) (i := i.toNat) (by omega)
      rw [← show (i + 1).toNat = i.toNat + 1 from by omega] at hpt
      generalize os[i.toNat] = o at hx hpt
      refine ex_i a ha ?_
      refine ex_i o (k.tail.rd ha hx H) ?_
      refine cl_mono (one_spec hF H) ?_
      rintro r w ⟨_, H⟩
      rw [e1]
      refine ⟨⟨by omega, by omega, by omega, ?_⟩, by omega⟩
      rw [hpt]; exact H
    · rename_i hc
      have hc : ¬ (i < os.length ∧ i < 40) := by simpa using hc
      have e : os.take i.toNat = os.take 40 := by
        rcases Nat.lt_or_ge i.toNat os.length with h | h
        · have : i.toNat = 40 := by omega
          rw [this]
        · rw [List.take_of_length_le (by omega), List.take_of_length_le (by omega)]
      rw [e] at H
      exact ⟨fun _ => ⟨b, rfl, H⟩, fun h => absurd c h⟩
  · obtain ⟨he, H⟩ := h2 c
    cases he
    rw [if_pos (by simp)]
    exact ⟨fun h => absurd h c, fun _ => ⟨rfl, H⟩⟩
end
def R1 : Nat := 4576918229304087675
def pA : Part := ⟨1, 7, 200, true⟩
def w1 : Va := ⟨R1, ⟨[⟨1, ⟨7, 1000⟩⟩], 0, 0⟩, 1, [], [], []⟩
def w2 : Va := ⟨R1, ⟨[⟨1, ⟨7, 1000⟩⟩], 0, 0⟩, 5, [(1, ⟨pA, 5, 2⟩)], [(7, 1)], [(1, ⟨1, 5⟩)]⟩
def w3 : Va := ⟨R1, ⟨[⟨1, ⟨7, 1000⟩⟩], 4, 0⟩, 5, [(1, ⟨pA, 5, 2⟩)], [(7, 1)], [(1, ⟨1, 5⟩)]⟩
def w4 : Va := ⟨R1, ⟨[⟨1, ⟨7, 1000⟩⟩, ⟨9, ⟨7, 798⟩⟩, ⟨9, ⟨4103, 2⟩⟩], 4, 0⟩, 9, [], [], [(1, ⟨2, 9⟩)]⟩
def w5 : Va := ⟨R1, ⟨[⟨1, ⟨7, 1000⟩⟩, ⟨9, ⟨7, 798⟩⟩, ⟨9, ⟨4103, 2⟩⟩], 9, 0⟩, 9, [], [], [(1, ⟨2, 9⟩)]⟩
def w6 : Va := ⟨R1, ⟨[⟨1, ⟨7, 1000⟩⟩, ⟨9, ⟨7, 798⟩⟩, ⟨9, ⟨4103, 2⟩⟩], 9, 0⟩, 9, [], [], [(1, ⟨2, 9⟩), (3, ⟨3, 0⟩)]⟩
theorem aw1 : openV (v0 R1) 1 7 1000 = (w1, 0) := by kernel_rfl
theorem aw2 : holdV w1 5 pA = (w2, 0) := by kernel_rfl
theorem aw2b : holdV w2 6 ⟨2, 7, 1, false⟩ = (w2, 160) := by kernel_rfl
theorem aw3 : closeV w2 5 = (w2, 160) := by kernel_rfl
theorem aw3b : closeV w2 4 = (w3, 0) := by kernel_rfl
theorem aw4 : commitV w3 9 1 = (w4, 0) := by kernel_rfl
theorem aw5 : closeV w4 9 = (w5, 0) := by kernel_rfl
theorem aw5b : hasV w5 7 8 = (1000, 0) := by kernel_rfl
theorem aw5c : timeM w5.S 9 = 0 := by kernel_rfl
theorem aw5d : dropV w5 1 = (w5, 157) := by kernel_rfl
theorem aw6 : dropV w5 3 = (w6, 0) := by kernel_rfl
theorem aw6b : fateV w6 1 = ⟨2, 9⟩ := by kernel_rfl
theorem aw7 : (pruneV w6 9).2 = 0 := by kernel_rfl
theorem aw7b : (pruneV w6 9).1.top = 9 ∧ (pruneV w6 9).1.S.closed = 9 ∧ (pruneV w6 9).1.S.mark = 9 := by refine ⟨?_, ?_, ?_⟩ <;> kernel_rfl
theorem keysL {L : List Row} {ks : List Int} (h1 : ks.Pairwise fun x y => x < y) (h2 : ∀ r ∈ L, r.X.Key ∈ ks) (h3 : ∀ k ∈ ks, ∃ r ∈ L, r.X.Key = k) : keysOf L = ks :=
  keysOf_eq ⟨h1, fun k => ⟨fun h => vs_ne.2 (h3 k h), fun h => by obtain ⟨r, hr, e⟩ := vs_ne.1 h; rw [← e]; exact h2 r hr⟩⟩
theorem aw5e : snapL w5.S 9 = [⟨7, 798⟩, ⟨4103, 2⟩] := by
  unfold snapL
  rw [if_pos aw5c, keysL (ks := [7, 4103]) (by simp) (by simp [w5]) (by simp [w5])]
  kernel_rfl
theorem aw3c : heldL w3 = [⟨pA, 5, 2⟩] := by
  have : sortI (w3.held.map (·.1)) = [1] := by
    show sortI [1] = [1]
    unfold sortI
    simp
  unfold heldL
  rw [this]
  show [heldOf w3 1] = _
  rw [heldOf_of (h := ⟨pA, 5, 2⟩) (by kernel_rfl)]
theorem R1ok : rateOk R1 := .inr (by unfold R1; omega)
section
variable {W w : World} {l l' : List Assn}
theorem awake_spec (H : St W l w) : cl Tryz.prog 8 [] tBool w fun r w' => r = true ∧ St W l w' := by
  refine F8_ok ?_
  unfold F8
  refine cl_mono (new_spec (f := R1) (by unfold R1; omega) H) ?_
  rintro ⟨p, e⟩ w ⟨h1, _⟩
  obtain ⟨he, b, hp, H⟩ := h1 R1ok
  simp only at he hp
  subst he; subst hp
  rw [if_neg (by simp)]
  have F0 : Fit (v0 R1) := Fit.new R1ok
  have F1 := F0.open 1 7 1000
  refine cl_mono (vopen_spec (v := v0 R1) F0 H) ?_
  rintro r w ⟨hr, H⟩
  rw [aw1] at hr H F1
  simp only at hr H F1
  subst hr
  have F2 := F1.hold (t := 5) (p := pA) (by decide)
  refine cl_mono (vhold_spec (p := pA) F1 H) ?_
  rintro r w ⟨hr, H⟩
  rw [aw2] at hr H F2
  simp only at hr H F2
  subst hr
  refine cl_mono (vhold_spec (p := ⟨2, 7, 1, false⟩) F2 H) ?_
  rintro r w ⟨hr, H⟩
  rw [aw2b] at hr H
  simp only at hr H
  subst hr
  refine cl_mono (vclose_spec H) ?_
  rintro r w ⟨hr, H⟩
  rw [aw3] at hr H
  simp only at hr H
  subst hr
  have F3 := F2.close 4
  refine cl_mono (vclose_spec H) ?_
  rintro r w ⟨hr, H⟩
  rw [aw3b] at hr H F3
  simp only at hr H F3
  subst hr
  refine cl_mono (held_spec F3 H) ?_
  intro r14 w H
  rw [aw3c] at H
  have n14 := row_len H
  simp only [List.length_cons, List.length_nil] at n14
  have F4 := F3.commit 9 1
  refine cl_mono (commit_spec F3 (H.front 1)) ?_
  rintro r w ⟨hr, H⟩
  rw [aw4] at hr H F4
  simp only at hr H F4
  subst hr
  have F5 := F4.close 9
  refine cl_mono (vclose_spec H) ?_
  rintro r w ⟨hr, H⟩
  rw [aw5] at hr H F5
  simp only at hr H F5
  subst hr
  refine cl_mono (has_spec F5 H) ?_
  rintro r w ⟨hr, H⟩
  rw [aw5b] at hr
  subst hr
  refine cl_mono (vsnap_spec (t := 9) F5 H) ?_
  rintro ⟨r22, e22⟩ w ⟨hr, H⟩
  rw [aw5c] at hr
  rw [aw5e] at H
  simp only at hr H
  subst hr
  have n22 := row_len H
  simp only [List.length_cons, List.length_nil] at n22
  refine cl_mono (drop_spec (H.front 1)) ?_
  rintro r w ⟨hr, H⟩
  rw [aw5d] at hr H
  simp only at hr H
  subst hr
  have F6 := F5.drop 3
  refine cl_mono (drop_spec H) ?_
  rintro r w ⟨hr, H⟩
  rw [aw6] at hr H F6
  simp only at hr H F6
  subst hr
  refine cl_mono (fate_spec H) ?_
  rintro r w ⟨hr, H⟩
  rw [aw6b] at hr
  subst hr
  refine cl_mono (vprune_spec F6 H) ?_
  rintro r w ⟨hr, H⟩
  rw [aw7] at hr
  subst hr
  obtain ⟨e1, e2, e3⟩ := aw7b
  generalize (pruneV w6 9).1 = v7 at *
  obtain ⟨a31, ha31⟩ := row_ix (i := 0) (H.front 2) (by omega) (by simp)
  refine ex_i a31 (fun _ => ha31) ?_
  refine ex_i 2 (fun _ => fld_row (x := (⟨pA, 5, 2⟩ : Held)) (U := tInt .i64) (fun _ => rfl) ha31 rfl rfl (H.front 2)) ?_
  obtain ⟨a33, ha33⟩ := row_ix (i := 0) (H.front 1) (by omega) (by simp)
  refine ex_i a33 (fun _ => ha33) ?_
  refine ex_i 798 (fun _ => fld_row (x := (⟨7, 798⟩ : Ent)) (U := tInt .i64) (fun _ => rfl) ha33 rfl rfl (H.front 1)) ?_
  obtain ⟨a35, ha35⟩ := row_ix (i := 1) (H.front 1) (by omega) (by simp)
  refine ex_i a35 (fun _ => ha35) ?_
  refine ex_i 4103 (fun _ => fld_row (x := (⟨4103, 2⟩ : Ent)) (U := tInt .i64) (fun _ => rfl) ha35 rfl rfl (H.front 1)) ?_
  rw [if_pos (by simp [n14, n22, toldE])]
  have H := ((H.front 1).drop.front 1).drop
  refine cl_mono (top_spec H) ?_
  rintro r w ⟨hr, H⟩
  rw [e1] at hr
  subst hr
  unfold F8_j1
  rw [if_pos (by simp)]
  obtain ⟨q, H⟩ := va_open H
  refine nc_st rfl ?_
  refine ex_i (⟨some ⟨q.s, 0, none⟩⟩ : S29) (rdat_cel T29 H rfl rfl) ?_
  refine cl_mono (vclosed_spec (H.front 1)) ?_
  rintro r w ⟨hr, H⟩
  rw [e2] at hr
  subst hr
  unfold F8_j2
  rw [if_pos (by simp)]
  refine nc_st rfl ?_
  refine ex_i (⟨some ⟨q.s, 0, none⟩⟩ : S29) (rdat_cel T29 (H.front 1) rfl rfl) ?_
  refine cl_mono (vmark_spec H) ?_
  rintro r w ⟨hr, H⟩
  rw [e3] at hr
  subst hr
  unfold F8_j3
  exact ⟨rfl, H.drop.drop.drop.drop.drop⟩
end
end Go.Proofs.YtpdaapffkdejoaaGreat.Vault
