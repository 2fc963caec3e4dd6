/- Contracts of the functions of package post, at letters that say a text: the rest. -/
import Derived.Test.YtpflfnaflacfgaaPA
namespace Go.Proofs.Ytpflfnaflacfgaa.PostS
open Go Go.Proofs.Ytpflfnaflacfgaa.Cf
set_option linter.unusedVariables false
set_option linter.unusedSimpArgs false
set_option maxRecDepth 100000
section
variable {W w : World} {l : List Assn} {b : Nat} {N : Net}
def Net.at_ (N : Net) (i : Int) : S35 × Int := match (if i < 0 then none else N.l[i.toNat]?) with
  | some x => (x, 0)
  | none => (Z35, 92)
theorem Net.at_out (N : Net) {i : Int} (h : i < 0 ∨ (N.l.length : Int) ≤ i) : N.at_ i = (Z35, 92) := by
  unfold Net.at_
  by_cases h0 : i < 0
  · simp [h0]
  · rw [if_neg h0, List.getElem?_eq_none (by omega)]
theorem Net.at_in (N : Net) {i : Int} {x : S35} (h0 : 0 ≤ i) (h : N.l[i.toNat]? = some x) : N.at_ i = (x, 0) := by
  unfold Net.at_
  rw [if_neg (by omega), h]
theorem at_spec (H : St W (NetA b N :: l) w) (i : Int) : cl Try.prog 31 [.pointer (some ⟨b, 0, none⟩), .int .i64 i] (tTup2 T35 (tInt .i64)) w fun r w' => r = N.at_ i ∧ St W (NetA b N :: l) w' := by
  refine F31_ok ?_
  unfold F31
  refine nw_st H fun b1 w1 H => ?_
  obtain ⟨v, mb, es, h, H⟩ := NetA_open (H.front 1)
  have hn := row_len (H.front 1)
  refine ex_i ⟨b, 0, none⟩ (fun _ => rfl) ?_
  refine ex_i v (fun _ => rdat_cel tSlc H rfl rfl) ?_
  by_cases hc : i < 0 ∨ (N.l.length : Int) ≤ i
  · rw [if_pos (by simp; omega)]
    refine st_st 3 H rfl rfl (Nat.le_of_ble_eq_true rfl) fun w2 H => ?_
    refine ld_st (x := Z35) 0 H rfl rfl rfl ?_
    rw [N.at_out hc]
    exact ⟨rfl, NetA_shut h H.drop⟩
  · rw [if_neg (by simp; omega)]
    obtain ⟨x, hx⟩ : ∃ x, N.l[i.toNat]? = some x := ⟨_, List.getElem?_eq_getElem (by omega)⟩
    refine nc_st rfl ?_
    refine ld_st (x := v) 0 H rfl rfl rfl ?_
    refine ixa_row (H.front 1) (by omega) (by omega) fun a ha => ?_
    refine ex_i x (rd_row (fun _ => rfl) ha hx (H.front 1)) ?_
    refine st_st 3 H rfl rfl (Nat.le_of_ble_eq_true rfl) fun w2 H => ?_
    refine ld_st (x := x) 0 H rfl rfl rfl ?_
    rw [N.at_in (by omega) hx]
    exact ⟨rfl, NetA_shut h H.drop⟩
/-- A letter under way. -/
def Net.send (N : Net) (from_ to : Int) (m : (List UInt8)) : Net × Int × Int :=
  if (!N.has from_ || !N.has to) = true then (N, 0, 90)
  else if (N.put ⟨IntKind.i64.wrap (N.sent + 1), from_, to, m⟩).2 ≠ 0 then (N, 0, 91)
  else ({ (N.put ⟨IntKind.i64.wrap (N.sent + 1), from_, to, m⟩).1 with sent := IntKind.i64.wrap (N.sent + 1) }, IntKind.i64.wrap (N.sent + 1), 0)
theorem Net.put_full (N : Net) (x : S35) (h : (N.put x).2 ≠ 0) : N.put x = (N, 91) := by
  unfold Net.put at h ⊢
  split <;> simp_all
theorem send_spec (H : St W (NetA b N :: l) w) (hN : N.l.length ≤ 1000) (f t : Int) (m : (List UInt8)) :
    cl Try.prog 11 [.pointer (some ⟨b, 0, none⟩), .int .i64 f, .int .i64 t, tStr.enc m] (tTup2 (tInt .i64) (tInt .i64)) w fun r w' => r = (N.send f t m).2 ∧ St W (NetA b (N.send f t m).1 :: l) w' := by
  refine F11_ok ?_
  unfold F11
  refine cl_mono (is_spec H f) ?_
  rintro r w1 ⟨rfl, H⟩
  have tail : ∀ (q : Bool) (w1 : World), St W (NetA b N :: l) w1 → q = (!N.has f || !N.has t) → F11_j1 (some ⟨b, 0, none⟩) f t m q w1 (fun r w' => r = (N.send f t m).2 ∧ St W (NetA b (N.send f t m).1 :: l) w') := by
    intro q w1 H hq
    unfold F11_j1
    subst hq
    split
    · rename_i hc
      have e : N.send f t m = (N, 0, 90) := by unfold Net.send; rw [if_pos hc]
      rw [e]; exact ⟨rfl, H⟩
    · rename_i hc
      obtain ⟨v, mb, es, h, H1⟩ := NetA_open H
      refine nc_st rfl ?_
      refine ld_st (x := N.sent) 0 H1 rfl rfl rfl ?_
      refine cl_mono (put_spec (NetA_shut h H1) hN _) ?_
      rintro r w2 ⟨rfl, H⟩
      by_cases hp : (N.put ⟨IntKind.i64.wrap (N.sent + 1), f, t, m⟩).2 = 0
      · rw [if_neg (by simp [hp])]
        have e : N.send f t m = ({ (N.put ⟨IntKind.i64.wrap (N.sent + 1), f, t, m⟩).1 with sent := IntKind.i64.wrap (N.sent + 1) }, IntKind.i64.wrap (N.sent + 1), 0) := by
          unfold Net.send; rw [if_neg hc, if_neg (by simp [hp])]
        rw [e]
        obtain ⟨v, mb, es, h, H⟩ := NetA_open H
        refine st_st 0 H rfl rfl (Nat.le_of_ble_eq_true rfl) fun w3 H => ?_
        exact ⟨rfl, NetA_shut (v := v) h H⟩
      · rw [if_pos (by simp [hp])]
        have e : N.send f t m = (N, 0, 91) := by
          unfold Net.send; rw [if_neg hc, if_pos hp]
        have e1 := N.put_full _ hp
        rw [e1] at H ⊢
        rw [e]; exact ⟨rfl, H⟩
  split
  · rename_i hc
    exact tail _ _ H (by simp at hc; simp [hc])
  · rename_i hc
    refine cl_mono (is_spec H t) ?_
    rintro r w2 ⟨rfl, H⟩
    exact tail _ _ H (by simp at hc; simp [hc])
theorem clone_spec {v : Slc} {xs : List S35} (H : St W (row T35 36 4 v xs :: l) w) (hl : xs.length * 40 ≤ 140737488355328) :
    cl Try.prog 30 [tSlc.enc v] tSlc w fun r w' => St W (row T35 36 4 r xs :: row T35 36 4 v xs :: l) w' := by
  refine F30_ok ?_
  unfold F30
  split
  · rename_i hc
    rcases row_open H with ⟨rfl, rfl, _⟩ | ⟨b1, rest, h1, _⟩
    · exact row_nil T35 36 4 H
    · simp [h1] at hc
  · refine nwS_st H fun b1 w1 H => ?_
    have H1 := row_new (T := T35) (t := 36) (sz := 4) (xs := []) (m := 0) rfl H
    refine apd_row (xs := []) (new := xs) (fun _ => rfl) 0 H1 rfl (RdO_row (H1.front 1)) (by simpa using hl) fun r w2 H => ?_
    exact H
theorem letters_spec (H : St W (NetA b N :: l) w) (hN : N.l.length ≤ 1000) : cl Try.prog 13 [.pointer (some ⟨b, 0, none⟩)] tSlc w fun r w' => St W (row T35 36 4 r N.l :: NetA b N :: l) w' := by
  refine F13_ok ?_
  unfold F13
  obtain ⟨v, mb, es, h, H⟩ := NetA_open H
  refine nc_st rfl ?_
  refine ld_st (x := v) 0 H rfl rfl rfl ?_
  refine cl_mono (clone_spec (H.front 1) (by omega)) ?_
  intro r w1 H
  exact (NetA_shut h (H.ord [2, 1, 3, 0])).front 1
/-- A part of a row struck out. -/
theorem delete_spec {v : Slc} {xs : List S35} (H : St W (row T35 36 4 v xs :: l) w) (i : Int) (h0 : 0 ≤ i) (h1 : i < xs.length) (hm : xs.length ≤ 1000) :
    cl Try.prog 33 [tSlc.enc v, .int .i64 i, .int .i64 (i + 1)] tSlc w fun r w' => St W (row T35 36 4 r (xs.eraseIdx i.toNat) :: l) w' := by
  refine F33_ok ?_
  unfold F33
  have hn := row_len H
  have hcap : v.len ≤ v.cap := by
    rcases row_open H with ⟨rfl, rfl, _⟩ | ⟨_, _, _, _, h, _⟩
    · exact Nat.le_refl _
    · exact h
  refine sub_st h0 (by omega) (by omega) (by omega) fun s4 _ => ?_
  rw [if_neg (by simp; omega)]
  refine dr_st H fun w2 H => ?_
  refine sub_st (by omega) (by omega) (by omega) (by omega) fun s6 h6 => ?_
  refine sub_st (by omega) (by omega) (by omega) (by omega) fun s7 h7 => ?_
  have hd := rdS_sub (fun _ => rfl) h7 H
  obtain ⟨e6, H⟩ := row_cut (fun _ => rfl) h6 (by omega) H
  subst e6
  have hdl : (xs.drop (i + 1).toNat).length = xs.length - (i + 1).toNat := List.length_drop
  refine apd_in (fun _ => rfl) H hd (by simp only [hdl]; omega) fun w3 H => ?_
  have e : xs.take i.toNat ++ xs.drop (i + 1).toNat = xs.eraseIdx i.toNat := by
    rw [List.eraseIdx_eq_take_drop_succ]; congr 2; omega
  rw [e] at H
  refine sub_st (by omega) (by simp only [hdl]; omega) (by simp only; omega) (Int.le_refl _) fun s10 h10 => ?_
  exact clr_spare (fun _ => rfl) h10 H fun w4 H => H
/-- The letter at a place taken. -/
def Net.take (N : Net) (i : Int) : Net × S35 × Int :=
  if (N.at_ i).2 ≠ 0 then (N, (N.at_ i).1, (N.at_ i).2)
  else if (N.off (N.at_ i).1.From || N.off (N.at_ i).1.To) = true then (N, Z35, 93)
  else ({ N with l := N.l.eraseIdx i.toNat }, (N.at_ i).1, 0)
theorem Net.at_zero (N : Net) {i : Int} (h : (N.at_ i).2 = 0) : 0 ≤ i ∧ i < N.l.length := by
  by_cases hc : i < 0 ∨ (N.l.length : Int) ≤ i
  · rw [N.at_out hc] at h; cases h
  · omega
theorem wrap_idx {i : Int} {n : Nat} (h0 : 0 ≤ i) (h1 : i < n) (hn : n ≤ 1000) : IntKind.i64.wrap (i + 1) = i + 1 := wrap_i64 (by omega) (by omega)
theorem lose_spec (H : St W (NetA b N :: l) w) (hN : N.l.length ≤ 1000) (i : Int) : cl Try.prog 17 [.pointer (some ⟨b, 0, none⟩), .int .i64 i] (tInt .i64) w fun r w' =>
    r = (N.at_ i).2 ∧ St W (NetA b (if (N.at_ i).2 = 0 then { N with l := N.l.eraseIdx i.toNat } else N) :: l) w' := by
  refine F17_ok ?_
  unfold F17
  refine cl_mono (at_spec H i) ?_
  rintro r w1 ⟨rfl, H⟩
  refine nw_st H fun b1 w2 H => ?_
  refine st_st 0 H rfl rfl (Nat.le_of_ble_eq_true rfl) fun w3 H => ?_
  have H := H.drop
  by_cases hz : (N.at_ i).2 = 0
  · obtain ⟨h0, h1⟩ := N.at_zero hz
    rw [if_pos (by simp [hz])]
    simp only [hz, if_true]
    obtain ⟨v, mb, es, h, H⟩ := NetA_open H
    refine nc_st rfl ?_
    refine ld_st (x := v) 0 H rfl rfl rfl ?_
    rw [wrap_idx h0 h1 hN]
    refine cl_mono (delete_spec (H.front 1) i h0 h1 hN) ?_
    intro r w4 H
    refine st_st (x := r) 1 H rfl rfl (Nat.le_of_ble_eq_true rfl) fun w5 H => ?_
    unfold F17_j1
    exact ⟨hz, NetA_shut (v := r) h H⟩
  · rw [if_neg (by simp [hz])]
    simp only [hz, if_false]
    unfold F17_j1
    exact ⟨by trivial, H⟩
theorem copy_spec (H : St W (NetA b N :: l) w) (hN : N.l.length ≤ 1000) (i : Int) : cl Try.prog 16 [.pointer (some ⟨b, 0, none⟩), .int .i64 i] (tInt .i64) w fun r w' =>
    r = (if (N.at_ i).2 ≠ 0 then (N.at_ i).2 else (N.put (N.at_ i).1).2) ∧ St W (NetA b (if (N.at_ i).2 ≠ 0 then N else (N.put (N.at_ i).1).1) :: l) w' := by
  refine F16_ok ?_
  unfold F16
  refine cl_mono (at_spec H i) ?_
  rintro r w1 ⟨rfl, H⟩
  refine nw_st H fun b1 w2 H => ?_
  refine st_st 0 H rfl rfl (Nat.le_of_ble_eq_true rfl) fun w3 H => ?_
  by_cases hz : (N.at_ i).2 = 0
  · rw [if_neg (by simp [hz])]
    simp only [hz, ne_eq, not_true_eq_false, if_false]
    refine ld_st (x := (N.at_ i).1) 0 H rfl rfl rfl ?_
    exact put_spec H.drop hN _
  · rw [if_pos (by simp [hz])]
    simp only [hz, ne_eq, not_false_eq_true, if_true]
    exact ⟨by trivial, H.drop⟩
theorem cutN_spec (H : St W (NetA b N :: l) w) (x : Int) (q : Bool) : cl Try.prog 12 [.pointer (some ⟨b, 0, none⟩), .int .i64 x, .bool q] (tInt .i64) w fun r w' =>
    r = (if N.has x then 0 else 90) ∧ St W (NetA b (if N.has x then { N with off := fun y => if y == x then q else N.off y } else N) :: l) w' := by
  refine F12_ok ?_
  unfold F12
  refine cl_mono (is_spec H x) ?_
  rintro r w1 ⟨rfl, H⟩
  by_cases hh : N.has x = true
  · rw [if_neg (by simp [hh])]
    simp only [hh, if_true]
    obtain ⟨v, mb, es, h, H⟩ := NetA_open H
    have hnd := mapE_nodup (H.front 2)
    cases q with
    | true =>
      rw [if_pos rfl]
      refine nc_st rfl ?_
      refine ld_st (x := some mb) 0 H rfl rfl rfl ?_
      refine mput_st 2 H rfl rfl fun w2 H => ?_
      unfold F12_j1
      refine ⟨rfl, NetA_shut (v := v) ?_ (H.ord [1, 2, 0])⟩
      intro y
      rw [lookup_ups]
      by_cases e : (y == x) = true
      · simp [e]
      · simp [e, h y]
    | false =>
      rw [if_neg (by simp)]
      refine nc_st rfl ?_
      refine ld_st (x := some mb) 0 H rfl rfl rfl ?_
      refine mdel_st 2 H rfl rfl fun w2 H => ?_
      unfold F12_j1
      refine ⟨rfl, NetA_shut (v := v) ?_ (H.ord [1, 2, 0])⟩
      intro y
      rw [lookup_del _ _ _ hnd]
      by_cases e : (y == x) = true
      · simp [e]
      · simp [e, h y]
  · rw [if_pos (by simp [hh])]
    simp only [hh, Bool.false_eq_true, if_false]
    exact ⟨by trivial, H⟩

theorem Net.take_at (N : Net) {i : Int} (h : (N.at_ i).2 ≠ 0) : N.take i = (N, (N.at_ i).1, (N.at_ i).2) := by unfold Net.take; rw [if_pos h]
theorem Net.take_off (N : Net) {i : Int} (h : (N.at_ i).2 = 0) (ho : (N.off (N.at_ i).1.From || N.off (N.at_ i).1.To) = true) : N.take i = (N, Z35, 93) := by
  unfold Net.take; rw [if_neg (by simp [h]), if_pos ho]
theorem Net.take_ok (N : Net) {i : Int} (h : (N.at_ i).2 = 0) (ho : (N.off (N.at_ i).1.From || N.off (N.at_ i).1.To) = false) : N.take i = ({ N with l := N.l.eraseIdx i.toNat }, (N.at_ i).1, 0) := by
  unfold Net.take; rw [if_neg (by simp [h]), if_neg (by simp [ho])]
theorem take_spec (H : St W (NetA b N :: l) w) (hN : N.l.length ≤ 1000) (i : Int) : cl Try.prog 14 [.pointer (some ⟨b, 0, none⟩), .int .i64 i] (tTup2 T35 (tInt .i64)) w fun r w' =>
    r = (N.take i).2 ∧ St W (NetA b (N.take i).1 :: l) w' := by
  refine F14_ok ?_
  unfold F14
  refine nw_st H fun b1 w1 H => ?_
  refine cl_mono (at_spec (H.front 1) i) ?_
  rintro r w2 ⟨rfl, H⟩
  refine nw_st H fun b2 w3 H => ?_
  refine st_st 0 H rfl rfl (Nat.le_of_ble_eq_true rfl) fun w4 H => ?_
  by_cases hz : (N.at_ i).2 = 0
  · rw [if_neg (by simp [hz])]
    refine ld_st (x := (N.at_ i).1.From) 0 H rfl rfl rfl ?_
    refine cl_mono (cut_spec (H.front 1) _) ?_
    rintro r w5 ⟨rfl, H⟩
    have tail : ∀ (q : Bool) (w : World), St W (NetA b N :: cel b2 (splice (T35.cells Z35) 0 (T35.cells (N.at_ i).1)) 36 :: cel b1 (T35.cells Z35) 36 :: l) w → q = (N.off (N.at_ i).1.From || N.off (N.at_ i).1.To) →
        F14_j1 (some ⟨b, 0, none⟩) i ⟨b1, 0, none⟩ ⟨b2, 0, none⟩ q w (fun r w' => r = (N.take i).2 ∧ St W (NetA b (N.take i).1 :: l) w') := by
      intro q w H hq
      unfold F14_j1
      subst hq
      split
      · rename_i hc
        rw [N.take_off hz hc]
        refine st_st 2 H rfl rfl (Nat.le_of_ble_eq_true rfl) fun w6 H => ?_
        refine ld_st (x := Z35) 0 H rfl rfl rfl ?_
        exact ⟨rfl, ((H.ord [0, 2]).drop).drop⟩
      · rename_i hc
        rw [N.take_ok hz (by simpa using hc)]
        obtain ⟨h0, h1⟩ := N.at_zero hz
        obtain ⟨v, mb, es, h, H⟩ := NetA_open H
        refine nc_st rfl ?_
        refine ld_st (x := v) 0 H rfl rfl rfl ?_
        rw [wrap_idx h0 h1 hN]
        refine cl_mono (delete_spec (H.front 1) i h0 h1 hN) ?_
        intro r w6 H
        refine st_st (x := r) 1 H rfl rfl (Nat.le_of_ble_eq_true rfl) fun w7 H => ?_
        refine ld_st (x := (N.at_ i).1) 3 H rfl rfl rfl ?_
        refine st_st (x := (N.at_ i).1) 4 H rfl rfl (Nat.le_of_ble_eq_true rfl) fun w8 H => ?_
        refine ld_st (x := (N.at_ i).1) 0 H rfl rfl rfl ?_
        exact ⟨rfl, NetA_shut (v := r) h ((H.ord [0, 4]).drop).drop⟩
    split
    · rename_i hc
      exact tail _ _ H (by simp [hc])
    · rename_i hc
      refine ld_st (x := (N.at_ i).1.To) 1 H rfl rfl rfl ?_
      refine cl_mono (cut_spec H _) ?_
      rintro r w6 ⟨rfl, H⟩
      exact tail _ _ H (by simp at hc; simp [hc])
  · rw [if_pos (by simp [hz])]
    rw [N.take_at hz]
    refine ld_st (x := (N.at_ i).1) 0 H rfl rfl rfl ?_
    refine st_st (x := (N.at_ i).1) 2 H rfl rfl (Nat.le_of_ble_eq_true rfl) fun w5 H => ?_
    refine ld_st (x := (N.at_ i).1) 0 H rfl rfl rfl ?_
    exact ⟨rfl, H.drop.drop⟩
end
end Go.Proofs.Ytpflfnaflacfgaa.PostS
