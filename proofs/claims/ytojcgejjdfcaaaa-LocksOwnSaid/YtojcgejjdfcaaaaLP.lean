/- LocksPlays and LocksOwn: the walks. -/
import Derived.Test.YtojcgejjdfcaaaaLO
namespace Go.Proofs.Ytojcgejjdfcaaaa.Locks
open Go Go.Proofs.Ytojcgejjdfcaaaa.Cf
set_option linter.unusedVariables false
set_option linter.unusedSimpArgs false
set_option maxRecDepth 100000
set_option maxHeartbeats 2000000
section
/-- Is a key told as in the document's table? -/
theorem told_B {W w : World} {l : List Assn} {b n : Nat} {m : Md} {t : S27} {key : Int} (hn : n ≤ 1000) (h1 : m.H.length ≤ 1000) (h2 : m.W.length ≤ 1000) (k : Know l (TbR t m)) (H : St W (tbl b m n :: l) w) :
    cl Try.prog 17 [.pointer (some ⟨b, 0, none⟩), T27.enc t, .int .i64 key] tBool w fun r w' => r = true ∧ St W (tbl b m n :: l) w' := by
  refine F17_ok ?_
  unfold F17
  refine nw_st H fun b4 w1 H => ?_
  refine dr_st H fun w2 H => ?_
  refine ld_st (x := t.Holds) 0 H rfl rfl rfl ?_
  refine cl_mono (holds_B (k := key) hn (H.front 1)) ?_
  intro s1 w3 H
  have H := row_stay H
  refine ⟨rdat_cel tSlc (H.front 2) rfl rfl, ?_⟩
  refine cl_mono (of_spec (key := key) (by omega) (Know.tH k).tail.tail.tail H) ?_
  intro s2 w4 H
  have H := row_stay H
  have hl1 : (of m.H key).length ≤ 1000000 := Nat.le_trans (of_len _ _) (by omega)
  have hl2 : (of m.W key).length ≤ 1000000 := Nat.le_trans (of_len _ _) (by omega)
  refine cl_mono (holds_spec hl1 (Know.here (m := RoP.mono)).tail (Know.here (m := RoP.mono)) H) ?_
  rintro r w5 ⟨hr, H⟩
  have hr := hr.2 rfl
  subst hr
  have H := ((H.drop).drop)
  refine ⟨rdat_cel tSlc (H.front 1) rfl rfl, ?_⟩
  rw [if_pos rfl]
  refine ld_st (x := t.Waits) 1 H rfl rfl rfl ?_
  refine cl_mono (waits_B (k := key) hn H) ?_
  intro s3 w6 H
  have H := row_stay H
  refine ⟨rdat_cel tSlc (H.front 2) rfl rfl, ?_⟩
  refine ⟨rdat_cel tSlc (H.front 2) rfl rfl, ?_⟩
  refine cl_mono (of_spec (key := key) (by omega) (Know.tW k).tail.tail.tail H) ?_
  intro s4 w7 H
  have H := row_stay H
  refine ⟨rdat_cel tSlc (H.front 3) rfl rfl, ?_⟩
  refine cl_mono (holds_spec hl2 (Know.here (m := RoP.mono)).tail (Know.here (m := RoP.mono)) H) ?_
  rintro r w8 ⟨hr, H⟩
  have hr := hr.2 rfl
  subst hr
  have H := ((H.drop).drop)
  refine ⟨rdat_cel tSlc (H.front 1) rfl rfl, ?_⟩
  refine ⟨rdat_cel tSlc (H.front 1) rfl rfl, ?_⟩
  unfold F17_j1
  exact ⟨rfl, (H.front 1).drop⟩
theorem ask_wo_len {m : Md} {x : S79} : (ask m x).2.1.wo.length ≤ m.H.length := by
  unfold ask
  by_cases h1 : askE m x ≠ 0
  · rw [if_pos h1]; exact Nat.zero_le _
  · rw [if_neg h1]
    by_cases h2 : has m x = true
    · rw [if_pos h2]; exact Nat.zero_le _
    · rw [if_neg h2]; exact wounded_len m _
theorem ask_wk_len {m : Md} {x : S79} : (ask m x).2.1.wk.length ≤ m.W.length + 1 := by
  unfold ask
  by_cases h1 : askE m x ≠ 0
  · rw [if_pos h1]; exact Nat.zero_le _
  · rw [if_neg h1]
    by_cases h2 : has m x = true
    · rw [if_pos h2]; exact Nat.zero_le _
    · rw [if_neg h2]
      show ((give (asked m x).W (asked m x)).2.filter _).length ≤ _
      have h3 := (give_lens (asked m x).W (asked m x)).2.2
      have h4 := List.length_filter_le (fun g : S55 => g.Tx != x.Tx) (give (asked m x).W (asked m x)).2
      have h5 : (asked m x).W.length ≤ m.W.length + 1 := by
        show (put _ _).length ≤ _
        rw [put_len]
        have := (wound_lens (wounded m x) m).2.1
        omega
      omega
theorem end_wk_len {m : Md} {tx : Int} : (end_ m tx).2.1.length ≤ m.W.length := by
  unfold end_
  by_cases h1 : tx < 1
  · rw [if_pos h1]; exact Nat.zero_le _
  · rw [if_neg h1]
    have h3 := (give_lens (ended m tx).W (ended m tx)).2.2
    have h4 : (ended m tx).W.length ≤ m.W.length := wo_len _ _
    show (give (ended m tx).W (ended m tx)).2.length ≤ _
    omega
theorem act_wk_len {m : Md} {o : S30} : (act m o).2.1.wk.length ≤ m.W.length + 1 := by
  unfold act
  by_cases c : o.Kind = 0
  · rw [if_pos c]; exact ask_wk_len
  · rw [if_neg c]; exact Nat.le_trans end_wk_len (Nat.le_succ _)
theorem plays_walk (W : World) (s : Slc) (g0 : G22 W s) : cl Try.prog 3 [tSlc.enc s] tBool W fun r w' => r = true ∧ RowKit.Below W.heap.size W w' := by
  obtain ⟨L, hR, hro⟩ := ops_of g0
  have k : Know [old W] (RoP T30 s L) := (oldK W).old hro
  have H := St.start W
  have lL := k.len H
  refine F3_ok ?_
  unfold F3
  refine cl_mono (new_B H) ?_
  rintro r w1 ⟨b, rfl, H⟩
  refine nw_st H fun b4 w2 H => ?_
  refine st_st (x := (⟨nilS, nilS, nilS⟩ : S27)) 0 H rfl rfl (Nat.le_of_ble_eq_true rfl) fun w3 H => ?_
  refine cl_mono (awake_B H) ?_
  rintro a w4 ⟨rfl, H⟩
  rw [if_neg (by simp)]
  have H : St W (cel b4 (T27.cells ⟨nilS, nilS, nilS⟩) 28 :: tbl b ⟨[], [], []⟩ 0 :: [old W]) w4 := H
  have H := H.know (φ := TbR ⟨nilS, nilS, nilS⟩ ⟨[], [], []⟩) (m := TbR.mono) fun I h hl => ⟨⟨Know.nil I h hl, Know.nil I h hl, Know.nil I h hl⟩, Nat.le_refl _⟩
  refine lp_i (fun (i : Int) w => 0 ≤ i ∧ i ≤ 30 ∧ ∃ m t, Inv (fun _ => True) i.toNat m ∧ St W (tbo t m :: cel b4 (T27.cells t) 28 :: tbl b m (2 * i.toNat) :: [old W]) w) (fun i => (30 - i).toNat) ⟨Int.le_refl 0, by omega, ⟨[], [], []⟩, ⟨nilS, nilS, nilS⟩, Inv.start, H⟩ ?_
  clear H
  rintro i w ⟨i0, i1, m, t, I, H⟩
  unfold F3_l1
  split
  · rename_i hc
    have hc : i < L.length ∧ i < 30 := by simp at hc; omega
    have e1 : IntKind.i64.wrap (i + 1) = i + 1 := wrap_i64 (by omega) (by omega)
    have hx : L[i.toNat]? = some L[i.toNat] := List.getElem?_eq_getElem (by omega)
    generalize L[i.toNat] = o at hx
    have hRo := hR o (List.mem_of_getElem? hx)
    obtain ⟨p, hp⟩ := k.tail.tail.tail.ix (sz := 4) (i := i) H i0 hc.1
    have hHl := I.hw
    have hDl := I.d
    -- what follows a call
    have after : ∀ (m2 : Md) (t2 : S27) (A : List Assn) (w : World), Inv (fun _ => True) (i.toNat + 1) m2 → St W (A ++ (tbo t2 m2 :: cel b4 (T27.cells t2) 28 :: tbl b m2 (2 * i.toNat + 2) :: [old W])) w →
        F3_j2 s (some ⟨b, 0, none⟩) ⟨b4, 0, none⟩ i w (fun s' w' => (0 ≤ s' ∧ s' ≤ 30 ∧ ∃ m t, Inv (fun _ => True) s'.toNat m ∧ St W (tbo t m :: cel b4 (T27.cells t) 28 :: tbl b m (2 * s'.toNat) :: [old W]) w') ∧ (30 - s').toNat < (30 - i).toNat) (fun r w' => r = true ∧ RowKit.Below W.heap.size W w') := by
      intro m2 t2 A w I2 H
      have H := St.pre A H
      have hHl2 := I2.hw
      have hDl2 := I2.d
      unfold F3_j2
      refine lp_i (fun (j : Int) w => 0 ≤ j ∧ j ≤ i + 1 ∧ St W (tbo t2 m2 :: cel b4 (T27.cells t2) 28 :: tbl b m2 (2 * i.toNat + 2) :: [old W]) w) (fun j => (i + 1 - j).toNat) ⟨Int.le_refl 0, by omega, H⟩ ?_
      clear H
      rintro j w ⟨j0, j1, H⟩
      unfold F3_l3
      split
      · rename_i hcj
        have hcj : j ≤ i := by simpa using hcj
        have e2 : IntKind.i64.wrap (j + 1) = j + 1 := wrap_i64 (by omega) (by omega)
        have hy : L[j.toNat]? = some (L[j.toNat]'(by omega)) := List.getElem?_eq_getElem (by omega)
        generalize L[j.toNat]'(by omega) = o2 at hy
        refine dr_st H fun w5 H => ?_
        have kL : ∀ A B C : Assn, Know (A :: B :: C :: [old W]) (RoP T30 s L) := fun _ _ _ => k.tail.tail.tail
        obtain ⟨p2, hp2⟩ := (kL _ _ _).ix (sz := 4) (i := j) H j0 (by omega)
        refine ex_i p2 hp2 ?_
        refine ld_st (x := t2) 1 H rfl rfl (at_all _) ?_
        refine ex_i o2.Key ((kL _ _ _).fld (fun _ => rfl) hp2 hy rfl H) ?_
        refine cl_mono (told_B (key := o2.Key) (by omega) (by omega) (by omega) (Know.here (m := TbR.mono)) (H.front 2)) ?_
        rintro r w6 ⟨rfl, H⟩
        rw [if_neg (by decide)]
        -- tbl, tbo, cel b4
        refine ex_i p2 hp2 ?_
        refine ex_i p2 hp2 ?_
        refine ex_i o2.Tx ((kL _ _ _).fld (fun _ => rfl) hp2 hy rfl H) ?_
        refine ld_st (x := t2.Dead) 2 H rfl rfl rfl ?_
        refine ex_i o2.Tx ((kL _ _ _).fld (fun _ => rfl) hp2 hy rfl H) ?_
        refine cl_mono (dead_B (tx := o2.Tx) H) ?_
        rintro d w7 ⟨hd, H⟩
        refine ⟨rdat_cel T27 (H.front 2) rfl (at_all _), ?_⟩
        refine ⟨(kL _ _ _).fld (fun _ => rfl) hp2 hy rfl H, ?_⟩
        refine ⟨rdat_cel tSlc (H.front 2) rfl rfl, ?_⟩
        refine ⟨(kL _ _ _).fld (fun _ => rfl) hp2 hy rfl H, ?_⟩
        have kt : ∀ A : Assn, Know (A :: tbo t2 m2 :: cel b4 (T27.cells t2) 28 :: [old W]) (TbR t2 m2) := fun _ => (Know.here (m := TbR.mono)).tail
        refine cl_mono (in_spec (n := o2.Tx) (by omega) (Know.tD (kt _)) H) ?_
        rintro d2 w8 ⟨hd2, H⟩
        refine ⟨rdat_cel T27 (H.front 2) rfl (at_all _), ?_⟩
        refine ⟨(kL _ _ _).fld (fun _ => rfl) hp2 hy rfl H, ?_⟩
        refine ⟨(kL _ _ _).fld (fun _ => rfl) hp2 hy rfl H, ?_⟩
        unfold F3_j4
        rw [if_neg (by rw [hd, hd2]; simp), e2]
        exact ⟨⟨by omega, by omega, H.ord [1, 2]⟩, by omega⟩
      · rw [e1]
        refine ⟨⟨by omega, by omega, m2, t2, ?_, ?_⟩, by omega⟩
        · rw [show (i + 1).toNat = i.toNat + 1 from by omega]; exact I2
        · rw [show 2 * (i + 1).toNat = 2 * i.toNat + 2 from by omega]; exact H
    refine ex_i p hp ?_
    refine ex_i o (k.tail.tail.tail.rd (fun _ => rfl) hp hx H) ?_
    refine nw_st H fun b14 w5 H => ?_
    refine st_st (x := o) 0 H rfl rfl (Nat.le_of_ble_eq_true rfl) fun w6 H => ?_
    have H : St W (cel b14 (T30.cells o) 31 :: tbo t m :: cel b4 (T27.cells t) 28 :: tbl b m (2 * i.toNat) :: [old W]) w6 := H
    refine ld_st (x := o.Kind) 0 H rfl rfl rfl ?_
    have kt0 : ∀ A : Assn, Know (A :: tbo t m :: cel b4 (T27.cells t) 28 :: tbl b m (2 * i.toNat) :: [old W]) (TbR t m) := fun _ => (Know.here (m := TbR.mono)).tail
    by_cases ck : o.Kind = 0
    · rw [if_pos (by simpa using ck)]
      refine ld_st (x := o.Tx) 0 H rfl rfl rfl ?_
      refine ld_st (x := o.Key) 0 H rfl rfl rfl ?_
      refine ld_st (x := o.Write) 0 H rfl rfl rfl ?_
      refine cl_mono (ask_B (x := ⟨o.Tx, o.Key, o.Write⟩) (by omega) I.pre.N (by omega) hRo (H.front 3)) ?_
      rintro ⟨q, e⟩ w7 ⟨he, hg, H⟩
      simp only at he hg
      have H := row_stay H
      have H := (row_stay (H.front 1)).front 1
      refine nw_st H fun b54 w8 H => ?_
      refine st_st (x := q) 0 H rfl rfl (Nat.le_of_ble_eq_true rfl) fun w9 H => ?_
      have H : St W (cel b54 (T33.cells q) 34 :: ro (tInt .i64) q.Wounded (ask m ⟨o.Tx, o.Key, o.Write⟩).2.1.wo :: ro T55 q.Woken (ask m ⟨o.Tx, o.Key, o.Write⟩).2.1.wk :: tbl b (ask m ⟨o.Tx, o.Key, o.Write⟩).1 (2 * i.toNat + 2) :: cel b14 (T30.cells o) 31 :: tbo t m :: cel b4 (T27.cells t) 28 :: [old W]) w9 := H
      refine ld_st (x := t) 6 H rfl rfl (at_all _) ?_
      refine ld_st (x := o.Tx) 4 H rfl rfl rfl ?_
      refine ld_st (x := o.Key) 4 H rfl rfl rfl ?_
      refine ld_st (x := o.Write) 4 H rfl rfl rfl ?_
      refine cl_mono (ref_ask (m := m) (x := ⟨o.Tx, o.Key, o.Write⟩) (by omega) (by omega) (by omega) ((Know.here (m := TbR.mono) (φ := TbR t m)).tail.tail.tail.tail.tail) H) ?_
      rintro ⟨t2, q2, e2⟩ w10 ⟨he2, H⟩
      simp only at he2 H
      refine nw_st H fun b63 w11 H => ?_
      refine nw_st H fun b65 w12 H => ?_
      refine st_st (x := t2) 1 H rfl rfl (Nat.le_of_ble_eq_true rfl) fun w13 H => ?_
      refine st_st (x := q2) 1 H rfl rfl (Nat.le_of_ble_eq_true rfl) fun w14 H => ?_
      refine ld_st (x := t2) 1 H rfl rfl (at_all _) ?_
      refine st_st (x := t2) 10 H rfl rfl (Nat.le_of_ble_eq_true rfl) fun w15 H => ?_
      have hI2 := I.ask (x := ⟨o.Tx, o.Key, o.Write⟩) (fun _ => trivial) (by omega)
      have hwl : (ask m ⟨o.Tx, o.Key, o.Write⟩).2.1.wo.length ≤ 1000000 := Nat.le_trans ask_wo_len (by omega)
      have hkl : (ask m ⟨o.Tx, o.Key, o.Write⟩).2.1.wk.length ≤ 1000000 := Nat.le_trans ask_wk_len (by omega)
      generalize ask m ⟨o.Tx, o.Key, o.Write⟩ = G at he hg he2 hI2 H hwl hkl
      obtain ⟨m2, ans, er⟩ := G
      simp only at he hg he2 hI2 H hwl hkl
      have H : St W (cel b4 (T27.cells t2) 28 :: cel b65 (T33.cells q2) 34 :: cel b63 (T27.cells t2) 28 :: ansA q2 ans :: tbo t2 m2 :: cel b54 (T33.cells q) 34 :: ro (tInt .i64) q.Wounded ans.wo :: ro T55 q.Woken ans.wk :: tbl b m2 (2 * i.toNat + 2) :: cel b14 (T30.cells o) 31 :: tbo t m :: [old W]) w15 := H
      have kA : ∀ A B C : Assn, Know (A :: B :: C :: ansA q2 ans :: tbo t2 m2 :: cel b54 (T33.cells q) 34 :: ro (tInt .i64) q.Wounded ans.wo :: ro T55 q.Woken ans.wk :: tbl b m2 (2 * i.toNat + 2) :: cel b14 (T30.cells o) 31 :: tbo t m :: [old W]) (AnsR q2 ans) := fun _ _ _ => (Know.here (m := AnsR.mono)).tail.tail.tail
      have hg2 : q2.Granted = ans.ok := by
        obtain ⟨II, _, h⟩ := (kA _ _ _).everI H
        exact h.1
      refine ex_i q.Granted (fun _ => rdat_cel tBool (H.front 5) rfl rfl) ?_
      refine ex_i q2.Granted (fun _ => rdat_cel tBool (H.front 1) rfl rfl) ?_
      rw [if_neg (by rw [he, he2, hg, hg2]; simp)]
      refine ld_st (x := q.Wounded) 5 H rfl rfl rfl ?_
      refine ld_st (x := q2.Wounded) 1 H rfl rfl rfl ?_
      refine cl_mono (ints_spec (a := ans.wo) (b := ans.wo) hwl ((Know.here (m := RoP.mono)).tail.tail.tail.tail.tail.tail) ((kA _ _ _).imp fun _ h => h.2.1) H) ?_
      rintro r w16 ⟨hr, H⟩
      have hr := hr.2 rfl
      subst hr
      unfold F3_j5
      rw [if_neg (by decide)]
      refine ld_st (x := q.Woken) 5 H rfl rfl rfl ?_
      refine ld_st (x := q2.Woken) 1 H rfl rfl rfl ?_
      refine cl_mono (grants_spec (a := ans.wk) (b := ans.wk) hkl ((Know.here (m := RoP.mono)).tail.tail.tail.tail.tail.tail.tail) ((kA _ _ _).imp fun _ h => h.2.2) H) ?_
      rintro r w17 ⟨hr, H⟩
      have hr := hr.2 rfl
      subst hr
      unfold F3_j6
      rw [if_neg (by decide)]
      exact after m2 t2 [_, _, _, _, _, _, _, _] w17 hI2 (H.ord [1, 2, 3, 5, 6, 7, 9, 10, 4, 0, 8])
    · rw [if_neg (by simpa using ck)]
      refine ld_st (x := o.Tx) 0 H rfl rfl rfl ?_
      refine cl_mono (end_B (tx := o.Tx) (by omega) I.pre.N (by omega) (H.front 3)) ?_
      rintro ⟨q, e⟩ w7 ⟨he, H⟩
      simp only at he
      have H := row_stay H
      have H : St W (ro T55 q (end_ m o.Tx).2.1 :: tbl b (end_ m o.Tx).1 (2 * i.toNat) :: cel b14 (T30.cells o) 31 :: tbo t m :: cel b4 (T27.cells t) 28 :: [old W]) w7 := H
      refine ld_st (x := t) 4 H rfl rfl (at_all _) ?_
      refine ld_st (x := o.Tx) 2 H rfl rfl rfl ?_
      refine cl_mono (ref_end (m := m) (tx := o.Tx) (by omega) (by omega) (by omega) ((Know.here (m := TbR.mono) (φ := TbR t m)).tail.tail.tail) H) ?_
      rintro ⟨t2, gs, e2⟩ w8 ⟨he2, H⟩
      simp only at he2 H
      refine nw_st H fun b95 w9 H => ?_
      refine st_st (x := t2) 0 H rfl rfl (Nat.le_of_ble_eq_true rfl) fun w10 H => ?_
      refine ld_st (x := t2) 0 H rfl rfl (at_all _) ?_
      refine st_st (x := t2) 7 H rfl rfl (Nat.le_of_ble_eq_true rfl) fun w11 H => ?_
      have hI2 := (I.end_ o.Tx).mono (p' := fun _ => True) (j' := i.toNat + 1) (fun _ h => h) (by omega)
      have hkl : (end_ m o.Tx).2.1.length ≤ 1000000 := Nat.le_trans end_wk_len (by omega)
      rw [if_neg (by simp only; rw [he, he2]; simp)]
      generalize end_ m o.Tx = G at he he2 hI2 H hkl
      obtain ⟨m2, g2, er⟩ := G
      simp only at he he2 hI2 H hkl ⊢
      have H : St W (cel b4 (T27.cells t2) 28 :: cel b95 (T27.cells t2) 28 :: ro T55 gs g2 :: tbo t2 m2 :: ro T55 q g2 :: tbl b m2 (2 * i.toNat) :: cel b14 (T30.cells o) 31 :: tbo t m :: [old W]) w11 := H
      refine cl_mono (grants_spec (a := g2) (b := g2) hkl ((Know.here (m := RoP.mono)).tail.tail.tail.tail) ((Know.here (m := RoP.mono)).tail.tail) H) ?_
      rintro r w12 ⟨hr, H⟩
      have hr := hr.2 rfl
      subst hr
      unfold F3_j7
      rw [if_neg (by decide)]
      have H := tbl_mono (n' := 2 * i.toNat + 2) (by omega) (H.front 5)
      -- tbl, cel b4, cel b95, ro, tbo t2, ro, cel b14, tbo t
      exact after m2 t2 [_, _, _, _, _] w12 hI2 (H.ord [2, 3, 5, 6, 7, 4, 1, 0])
  · exact ⟨rfl, H.drop.drop.drop.below⟩
end
end Go.Proofs.Ytojcgejjdfcaaaa.Locks
namespace Go.Proofs.Ytojcgejjdfcaaaa
open Go Go.Proofs.Ytojcgejjdfcaaaa.Cf
theorem walkLocksPlays (W : World) (s : Slc) (g0 : G22 W s) : cl Try.prog 3 [tSlc.enc s] tBool W fun r w' => r = true ∧ RowKit.Below W.heap.size W w' := Locks.plays_walk W s g0
end Go.Proofs.Ytojcgejjdfcaaaa
