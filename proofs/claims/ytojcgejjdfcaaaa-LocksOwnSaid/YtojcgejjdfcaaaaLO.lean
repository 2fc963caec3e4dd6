/- LocksEldest and LocksEnds: the walks. -/
import Derived.Test.YtojcgejjdfcaaaaLM
namespace Go.Proofs.Ytojcgejjdfcaaaa.Locks
open Go Go.Proofs.Ytojcgejjdfcaaaa.Cf
set_option linter.unusedVariables false
set_option linter.unusedSimpArgs false
set_option maxRecDepth 100000
set_option maxHeartbeats 2000000
section
theorem act_wo {m : Md} {o : S30} : ∀ v ∈ (act m o).2.1.wo, v > o.Tx := by
  intro v hv
  unfold act at hv
  by_cases c : o.Kind = 0
  · rw [if_pos c] at hv
    unfold ask at hv
    by_cases h1 : askE m ⟨o.Tx, o.Key, o.Write⟩ ≠ 0
    · rw [if_pos h1] at hv; cases hv
    · rw [if_neg h1] at hv
      by_cases h2 : has m ⟨o.Tx, o.Key, o.Write⟩ = true
      · rw [if_pos h2] at hv; cases hv
      · rw [if_neg h2] at hv
        obtain ⟨y, _, e1, _, e2, _⟩ := mem_wounded.1 hv
        rw [← e1]; exact e2
  · rw [if_neg c] at hv; cases hv
theorem act_wo_len {m : Md} {o : S30} : (act m o).2.1.wo.length ≤ m.H.length := by
  unfold act
  by_cases c : o.Kind = 0
  · rw [if_pos c]
    unfold ask
    by_cases h1 : askE m ⟨o.Tx, o.Key, o.Write⟩ ≠ 0
    · rw [if_pos h1]; exact Nat.zero_le _
    · rw [if_neg h1]
      by_cases h2 : has m ⟨o.Tx, o.Key, o.Write⟩ = true
      · rw [if_pos h2]; exact Nat.zero_le _
      · rw [if_neg h2]; exact wounded_len m _
  · rw [if_neg c]; exact Nat.zero_le _
theorem ask_err {m : Md} {x : S79} : (ask m x).2.2 = askE m x := by
  unfold ask
  by_cases h1 : askE m x ≠ 0
  · rw [if_pos h1]
  · rw [if_neg h1]
    by_cases h2 : has m x = true
    · rw [if_pos h2]; simp only; omega
    · rw [if_neg h2]; simp only; omega
theorem ask_same {m : Md} {x : S79} (h : (ask m x).2.2 ≠ 0) : (ask m x).1 = m := by
  rw [ask_err] at h
  unfold ask; rw [if_pos h]
theorem act_eldest {m : Md} {o : S30} (h1 : o.Tx = 1) (hD : ∀ d ∈ m.D, 1 < d) (hW : ∀ x ∈ m.W, x.Tx ≠ 1) : (act m o).2.2 ≠ 132 ∧ (act m o).2.2 ≠ 133 := by
  unfold act
  by_cases c : o.Kind = 0
  · rw [if_pos c, ask_err]
    unfold askE
    have n1 : ¬ (m.D.any (· == o.Tx) = true) := by
      rw [List.any_eq_true]; rintro ⟨d, hd, e⟩
      have e : d = o.Tx := by simpa using e
      have := hD d hd; omega
    have n2 : ¬ (m.W.any (fun y => y.Tx == o.Tx) = true) := by
      rw [List.any_eq_true]; rintro ⟨d, hd, e⟩
      have e : d.Tx = o.Tx := by simpa using e
      exact hW d hd (e.trans h1)
    simp only
    rw [if_neg (by omega)]
    split
    · omega
    · first | omega | (rw [if_neg n1, if_neg n2]; omega)
  · rw [if_neg c]
    unfold end_
    split
    · simp only; omega
    · simp only; omega
theorem end_idle {m : Md} {tx : Int} (h1 : ∀ y ∈ m.H, y.Tx ≠ tx) (h2 : ∀ y ∈ m.W, y.Tx ≠ tx) (h3 : ∀ x ∈ m.W, may m x = false) (h : 1 ≤ tx) : (end_ m tx).2 = ([], 0) := by
  unfold end_
  rw [if_neg (by omega)]
  have eH : wo m.H tx = m.H := by unfold wo; exact List.filter_eq_self.2 fun y hy => by simpa using h1 y hy
  have eW : wo m.W tx = m.W := by unfold wo; exact List.filter_eq_self.2 fun y hy => by simpa using h2 y hy
  have e : give (ended m tx).W (ended m tx) = (ended m tx, []) := by
    refine give_none _ _ fun x hx => ?_
    have hx : x ∈ wo m.W tx := hx
    rw [eW] at hx
    have := h3 x hx
    unfold may at this ⊢
    show ((wo m.H tx).all _ && (wo m.W tx).all _) = false
    rw [eH, eW]; exact this
  rw [e]
theorem eldest_walk (W : World) (s : Slc) (g0 : G22 W s) : cl Try.prog 6 [tSlc.enc s] tBool W fun r w' => r = true ∧ RowKit.Below W.heap.size W w' := by
  obtain ⟨L, hR, hro⟩ := ops_of g0
  have k : Know [old W] (RoP T30 s L) := (oldK W).old hro
  have H := St.start W
  have lL := k.len H
  refine F6_ok ?_
  unfold F6
  refine cl_mono (new_B H) ?_
  rintro r w1 ⟨b, rfl, H⟩
  refine cl_mono (awake_B H) ?_
  rintro a w2 ⟨rfl, H⟩
  rw [if_neg (by simp)]
  refine lp_i (fun (s : Bool × Int) w => 0 ≤ s.2 ∧ s.2 ≤ 40 ∧ ∃ m, Inv (fun x => 1 ≤ x ∧ (s.1 = false → x ≠ 1)) s.2.toNat m ∧ (∀ d ∈ m.D, 1 < d) ∧ St W (tbl b m (2 * s.2.toNat) :: [old W]) w) (fun s => (40 - s.2).toNat) ⟨Int.le_refl 0, by simp only; omega, ⟨[], [], []⟩, Inv.start, by simp, H⟩ ?_
  clear H
  rintro ⟨alive, i⟩ w ⟨i0, i1, m, I, hD, H⟩
  simp only at i0 i1 I H ⊢
  unfold F6_l1
  split
  · rename_i hc
    have hc : i < L.length ∧ i < 40 := by simp at hc; omega
    have e1 : IntKind.i64.wrap (i + 1) = i + 1 := wrap_i64 (by omega) (by omega)
    have hx : L[i.toNat]? = some L[i.toNat] := List.getElem?_eq_getElem (by omega)
    generalize L[i.toNat] = o at hx
    obtain ⟨p, hp⟩ := k.tail.ix (sz := 4) (i := i) H i0 hc.1
    refine ex_i p hp ?_
    refine ex_i o (k.tail.rd (fun _ => rfl) hp hx H) ?_
    refine nw_st H fun b12 w3 H => ?_
    refine st_st (x := o) 0 H rfl rfl (Nat.le_of_ble_eq_true rfl) fun w4 H => ?_
    refine ld_st (x := o) 0 H rfl rfl (at_all _) ?_
    refine cl_mono (does_B (o := o) (by omega) I.pre.N (by have := I.hw; omega) (hR o (List.mem_of_getElem? hx)) (H.front 1)) ?_
    rintro ⟨q, e⟩ w5 ⟨he, hg, H⟩
    simp only at he hg
    have H := (H.front 1).drop
    refine nw_st H fun b18 w6 H => ?_
    refine st_st (x := q) 0 H rfl rfl (Nat.le_of_ble_eq_true rfl) fun w7 H => ?_
    have H : St W (cel b18 (T33.cells q) 34 :: row (tInt .i64) 3 1 q.Wounded (act m o).2.1.wo :: tbl b (act m o).1 (2 * i.toNat + 2) :: cel b12 (T30.cells o) 31 :: [old W]) w7 := H
    have hwo := act_wo (m := m) (o := o)
    have hwol : (act m o).2.1.wo.length ≤ 1000 := Nat.le_trans act_wo_len (by have := I.hw; omega)
    have hW1 : ∀ x ∈ m.W, x.Tx ≠ 1 := I.eldest (fun x h => h.1)
    have hno : o.Tx = 1 → e ≠ 132 ∧ e ≠ 133 := fun h => by rw [he]; exact act_eldest h hD hW1
    have hD2 := act_D (o := o) hD
    -- the rest of the round
    have fin : ∀ (al : Bool) (w : World), Inv (fun x => 1 ≤ x ∧ (al = false → x ≠ 1)) (i.toNat + 1) (act m o).1 → St W (cel b18 (T33.cells q) 34 :: row (tInt .i64) 3 1 q.Wounded (act m o).2.1.wo :: tbl b (act m o).1 (2 * i.toNat + 2) :: cel b12 (T30.cells o) 31 :: [old W]) w →
        F6_j2 (some ⟨b, 0, none⟩) i ⟨b12, 0, none⟩ (q, e) ⟨b18, 0, none⟩ al w (fun s' w' => (0 ≤ s'.2 ∧ s'.2 ≤ 40 ∧ ∃ m, Inv (fun x => 1 ≤ x ∧ (s'.1 = false → x ≠ 1)) s'.2.toNat m ∧ (∀ d ∈ m.D, 1 < d) ∧ St W (tbl b m (2 * s'.2.toNat) :: [old W]) w') ∧ (40 - s'.2).toNat < (40 - i).toNat) (fun r w' => r = true ∧ RowKit.Below W.heap.size W w') := by
      intro al w I2 H
      generalize (act m o).1 = m2 at H I2 hD2
      generalize (act m o).2.1.wo = wl at H hwo hwol
      have lw := row_len (H.front 1)
      unfold F6_j2
      refine lp_i (fun (j : Int) w => 0 ≤ j ∧ j ≤ wl.length ∧ St W (cel b18 (T33.cells q) 34 :: row (tInt .i64) 3 1 q.Wounded wl :: tbl b m2 (2 * i.toNat + 2) :: cel b12 (T30.cells o) 31 :: [old W]) w) (fun j => (wl.length - j).toNat) ⟨Int.le_refl 0, by omega, H⟩ ?_
      clear H
      rintro j w ⟨j0, j1, H⟩
      unfold F6_l3
      refine ld_st (x := q.Wounded) 0 H rfl rfl rfl ?_
      split
      · rename_i hcj
        have hcj : j < wl.length := by simp at hcj; omega
        have hz : wl[j.toNat]? = some wl[j.toNat] := List.getElem?_eq_getElem (by omega)
        generalize wl[j.toNat] = v at hz
        have hv := hwo v (List.mem_of_getElem? hz)
        refine dr_st H fun w8 H => ?_
        refine ld_st (x := q.Wounded) 0 H rfl rfl rfl ?_
        obtain ⟨c, hcx⟩ := row_ix (sz := 1) (i := j) (H.front 1) j0 hcj
        refine ex_i c hcx ?_
        refine ex_i v (rd_row (T := tInt .i64) (fun _ => rfl) hcx hz (H.front 1)) ?_
        refine ld_st (x := o.Tx) 3 H rfl rfl rfl ?_
        rw [if_neg (by simp; omega)]
        rw [show IntKind.i64.wrap (j + 1) = j + 1 from wrap_i64 (by omega) (by omega)]
        exact ⟨⟨by omega, by omega, H⟩, by omega⟩
      · refine cl_mono (dead_B (tx := 1) (H.front 2)) ?_
        rintro d w8 ⟨hd, H⟩
        have hd : d = false := by
          rw [hd, List.any_eq_false]
          intro x hx e
          have e : x = 1 := by simpa using e
          have := hD2 x hx; omega
        subst hd
        refine ex_i o.Tx (fun _ => rdat_cel (tInt .i64) (H.front 3) rfl rfl) ?_
        rw [if_neg (by
          intro h
          simp only [Bool.false_or, Bool.and_eq_true, Bool.or_eq_true, beq_iff_eq] at h
          have := hno h.1
          omega), e1]
        refine ⟨⟨by simp only; omega, by simp only; omega, m2, ?_, hD2, ?_⟩, by simp only; omega⟩
        · simp only; rw [show (i + 1).toNat = i.toNat + 1 from by omega]; exact I2
        · simp only; rw [show 2 * (i + 1).toNat = 2 * i.toNat + 2 from by omega]
          exact (((H.front 1).drop.front 1).drop.front 1).drop
    refine ld_st (x := o.Tx) 3 H rfl rfl rfl ?_
    refine ex_i o.Kind (fun _ => rdat_cel (tInt .i64) (H.front 3) rfl rfl) ?_
    split
    · rename_i hcc
      have hcc : o.Tx = 1 ∧ o.Kind ≠ 0 := by simpa using hcc
      refine fin false w7 ?_ H
      have ea : (act m o).1 = (end_ m 1).1 := by unfold act; rw [if_neg hcc.2, hcc.1]
      rw [ea]
      exact (I.end_gone (fun x h => h.1) 1).mono (fun x h => ⟨h.1.1, fun _ => h.2⟩) (Nat.le_succ _)
    · rename_i hcc
      refine ld_st (x := o.Tx) 3 H rfl rfl rfl ?_
      split
      · rename_i hcd
        have hcd : o.Tx = 1 ∧ e = 0 := by simpa using hcd
        have hk : o.Kind = 0 := by
          by_cases c : o.Kind = 0
          · exact c
          · exact absurd (by simp [hcd.1, c]) hcc
        have ea : act m o = ask m ⟨o.Tx, o.Key, o.Write⟩ := by unfold act; rw [if_pos hk]
        have I1 : Inv (fun x => 1 ≤ x ∧ (true = false → x ≠ 1)) i.toNat m := I.mono (fun x h => ⟨h.1, fun h => by cases h⟩) (Nat.le_refl _)
        refine ld_st (x := q.Granted) 0 H rfl rfl rfl ?_
        have hgr : q.Granted = true := by
          rw [hg, ea]
          exact I1.eldest_ok (fun x h => h.1) ⟨by omega, fun h => by cases h⟩ (by omega) hcd.1 (by rw [← ea, ← he]; exact hcd.2)
        rw [hgr, if_neg (by decide)]
        exact fin true w7 (I1.act (fun h => ⟨h, fun h => by cases h⟩) (by omega)) H
      · rename_i hcd
        refine fin alive w7 ?_ H
        by_cases c1 : o.Tx = 1
        · have hk : o.Kind = 0 := by
            by_cases c : o.Kind = 0
            · exact c
            · exact absurd (by simp [c1, c]) hcc
          have he0 : e ≠ 0 := fun h => hcd (by simp [c1, h])
          have ea : act m o = ask m ⟨o.Tx, o.Key, o.Write⟩ := by unfold act; rw [if_pos hk]
          rw [ea, ask_same (by rw [← ea, ← he]; exact he0)]
          exact I.mono (fun x h => h) (Nat.le_succ _)
        · exact I.act (fun h => ⟨h, fun _ => c1⟩) (by omega)
  · refine cl_mono (end_B (tx := 1) (by omega) I.pre.N (by have := I.hw; omega) H) ?_
    rintro ⟨gs, e⟩ w3 ⟨he, H⟩
    have lg := row_len H
    simp only at he lg ⊢
    have hb := H.drop.drop.below
    split
    · rename_i hcc
      exfalso
      simp only [Bool.and_eq_true, Bool.not_eq_true', Bool.or_eq_true, bne_iff_ne, decide_eq_true_eq] at hcc
      obtain ⟨hal, hcc⟩ := hcc
      have hid := end_idle (m := m) (tx := 1) (fun y hy => (I.pre.pH y hy).2 hal) (fun y hy => (I.pre.pW y hy).2 hal) I.blk (by omega)
      have h1 : (end_ m 1).2.1 = [] := by rw [hid]
      have h2 : (end_ m 1).2.2 = 0 := by rw [hid]
      rw [h1] at lg
      simp only [List.length_nil] at lg
      rcases hcc with hcc | hcc
      · exact hcc (he.trans h2)
      · omega
    · exact ⟨by trivial, hb⟩
/-- An end, and who is left. -/
theorem left_of {L : List S30} {i : Nat} {o : S30} (hx : L[i]? = some o) {x : Int} (h : ∀ y ∈ L.take i, y.Tx ≠ x) (h2 : x ≠ o.Tx) : ∀ y ∈ L.take (i + 1), y.Tx ≠ x := by
  intro y hy
  rw [List.take_add_one, hx] at hy
  rcases List.mem_append.1 hy with hy | hy
  · exact h y hy
  · have : y = o := by simpa using hy
    rw [this]; exact fun e => h2 e.symm
theorem ends_walk (W : World) (s : Slc) (g0 : G22 W s) : cl Try.prog 7 [tSlc.enc s] tBool W fun r w' => r = true ∧ RowKit.Below W.heap.size W w' := by
  obtain ⟨L, hR, hro⟩ := ops_of g0
  have k : Know [old W] (RoP T30 s L) := (oldK W).old hro
  have H := St.start W
  have lL := k.len H
  refine F7_ok ?_
  unfold F7
  refine cl_mono (new_B H) ?_
  rintro r w1 ⟨b, rfl, H⟩
  refine cl_mono (awake_B H) ?_
  rintro a w2 ⟨rfl, H⟩
  rw [if_neg (by simp)]
  refine lp_i (fun (i : Int) w => 0 ≤ i ∧ i ≤ 40 ∧ ∃ m, Inv (fun x => 1 ≤ x ∧ ∃ y ∈ L.take 40, y.Tx = x) i.toNat m ∧ St W (tbl b m (2 * i.toNat) :: [old W]) w) (fun i => (40 - i).toNat) ⟨Int.le_refl 0, by omega, ⟨[], [], []⟩, Inv.start, H⟩ ?_
  clear H
  rintro i w ⟨i0, i1, m, I, H⟩
  unfold F7_l1
  split
  · rename_i hc
    have hc : i < L.length ∧ i < 40 := by simp at hc; omega
    have e1 : IntKind.i64.wrap (i + 1) = i + 1 := wrap_i64 (by omega) (by omega)
    have hx : L[i.toNat]? = some L[i.toNat] := List.getElem?_eq_getElem (by omega)
    generalize L[i.toNat] = o at hx
    have hot : o ∈ L.take 40 := by
      have : (L.take 40)[i.toNat]? = some o := by rw [List.getElem?_take_of_lt (by omega)]; exact hx
      exact List.mem_of_getElem? this
    obtain ⟨p, hp⟩ := k.tail.ix (sz := 4) (i := i) H i0 hc.1
    refine ex_i p hp ?_
    refine ex_i o (k.tail.rd (fun _ => rfl) hp hx H) ?_
    refine cl_mono (does_B (o := o) (by omega) I.pre.N (by have := I.hw; omega) (hR o (List.mem_of_getElem? hx)) H) ?_
    rintro q w3 ⟨_, _, H⟩
    rw [e1]
    refine ⟨⟨by omega, by omega, (act m o).1, ?_, ?_⟩, by omega⟩
    · rw [show (i + 1).toNat = i.toNat + 1 from by omega]
      exact I.act (fun h => ⟨h, o, hot, rfl⟩) (by omega)
    · rw [show 2 * (i + 1).toNat = 2 * i.toNat + 2 from by omega]
      exact H.drop.drop
  · have I := I.mono (p' := fun x => (1 ≤ x ∧ ∃ y ∈ L.take 40, y.Tx = x) ∧ ∀ y ∈ L.take ((0 : Int)).toNat, y.Tx ≠ x) (j' := 40) (fun x h => ⟨h, by simp⟩) (by omega)
    have H := tbl_mono (n' := 80) (by omega) H
    clear i0 i1
    refine lp_i (fun (i : Int) w => 0 ≤ i ∧ i ≤ 40 ∧ ∃ m, Inv (fun x => (1 ≤ x ∧ ∃ y ∈ L.take 40, y.Tx = x) ∧ ∀ y ∈ L.take i.toNat, y.Tx ≠ x) 40 m ∧ St W (tbl b m 80 :: [old W]) w) (fun i => (40 - i).toNat) ⟨Int.le_refl 0, by omega, m, I, H⟩ ?_
    clear H I
    rintro i w ⟨i0, i1, m, I, H⟩
    unfold F7_l2
    split
    · rename_i hc
      have hc : i < L.length ∧ i < 40 := by simp at hc; omega
      have e1 : IntKind.i64.wrap (i + 1) = i + 1 := wrap_i64 (by omega) (by omega)
      have hx : L[i.toNat]? = some L[i.toNat] := List.getElem?_eq_getElem (by omega)
      generalize L[i.toNat] = o at hx
      obtain ⟨p, hp⟩ := k.tail.ix (sz := 4) (i := i) H i0 hc.1
      refine ex_i p hp ?_
      refine ex_i o.Tx (k.tail.fld (fun _ => rfl) hp hx rfl H) ?_
      refine cl_mono (end_B (tx := o.Tx) (by omega) I.pre.N (by have := I.hw; omega) H) ?_
      rintro q w3 ⟨_, H⟩
      have H := H.drop
      have I2 := (I.end_gone (fun x h => h.1.1) o.Tx).mono (p' := fun x => (1 ≤ x ∧ ∃ y ∈ L.take 40, y.Tx = x) ∧ ∀ y ∈ L.take (i.toNat + 1), y.Tx ≠ x) (j' := 40) (fun x h => ⟨h.1.1, left_of hx h.1.2 h.2⟩) (by omega)
      generalize (end_ m o.Tx).1 = m2 at H I2
      obtain ⟨oH, oW⟩ := tbl_ord H
      have hnot : ∀ x, (∀ y ∈ L.take (i.toNat + 1), y.Tx ≠ x) → x ≠ o.Tx := fun x h e => by
        have : o ∈ L.take (i.toNat + 1) := by rw [List.take_add_one, hx]; simp
        exact h o this e.symm
      refine lp_i (fun (j : Int) w => 0 ≤ j ∧ j ≤ 40 ∧ St W (tbl b m2 80 :: [old W]) w) (fun j => (40 - j).toNat) ⟨Int.le_refl 0, by omega, H⟩ ?_
      clear H
      rintro j w ⟨j0, j1, H⟩
      unfold F7_l3
      split
      · rename_i hcj
        have hcj : j < L.length ∧ j < 40 := by simp at hcj; omega
        have e2 : IntKind.i64.wrap (j + 1) = j + 1 := wrap_i64 (by omega) (by omega)
        have hy : L[j.toNat]? = some L[j.toNat] := List.getElem?_eq_getElem (by omega)
        generalize L[j.toNat] = o2 at hy
        refine dr_st H fun w4 H => ?_
        obtain ⟨p2, hp2⟩ := k.tail.ix (sz := 4) (i := j) H j0 hcj.1
        refine ex_i p2 hp2 ?_
        refine ex_i p2 hp2 ?_
        refine ex_i o2.Key (k.tail.fld (fun _ => rfl) hp2 hy rfl H) ?_
        refine ex_i o2.Key (k.tail.fld (fun _ => rfl) hp2 hy rfl H) ?_
        refine cl_mono (holds_B (k := o2.Key) (by omega) H) ?_
        intro r29 w5 H
        have H := row_stay H
        refine ⟨k.tail.tail.fld (fun _ => rfl) hp2 hy rfl H, ?_⟩
        refine cl_mono (waits_B (k := o2.Key) (by omega) (H.front 1)) ?_
        intro r32 w6 H
        have H := row_stay H
        refine ⟨k.tail.tail.tail.fld (fun _ => rfl) hp2 hy rfl H, ?_⟩
        have H : St W (tbl b m2 80 :: ro T53 r32 (of m2.W o2.Key) :: ro T53 r29 (of m2.H o2.Key) :: [old W]) w6 := H.front 1
        have lw := ro_len (H.front 1)
        have lh := ro_len (H.front 2)
        have hlw : (of m2.W o2.Key).length ≤ 1000 := Nat.le_trans of_len2 (by have := I2.hw; omega)
        have hlh : (of m2.H o2.Key).length ≤ 1000 := Nat.le_trans of_len2 (by have := I2.hw; omega)
        have hpw := of_lt (k := o2.Key) oW
        have idle : of m2.H o2.Key = [] → of m2.W o2.Key = [] := by
          intro hh
          cases hw : of m2.W o2.Key with
          | nil => rfl
          | cons x ws =>
            exfalso
            have hxm : x ∈ of m2.W o2.Key := by rw [hw]; exact List.mem_cons_self ..
            obtain ⟨x', a1, a2, a3, a4⟩ := of_mem hxm
            rcases may_no.1 (I2.blk x' a1) with ⟨y, b1, b2, b3⟩ | ⟨y, b1, b2, b3, b4⟩
            · have := of_has b1 (b2.trans a2)
              rw [hh] at this; cases this
            · have h5 := of_has b1 (b2.trans a2)
              rw [hw] at h5 hpw
              rcases List.mem_cons.1 h5 with h5 | h5
              · have : y.Tx = x.Tx := congrArg S53.Tx h5
                omega
              · have := (List.pairwise_cons.1 hpw).1 _ h5
                simp only at this; omega
        have nH : ∀ x ∈ of m2.H o2.Key, x.Tx ≠ o.Tx := by
          intro x hx
          obtain ⟨x', a1, a2, a3, a4⟩ := of_mem hx
          rw [← a3]; exact hnot _ (I2.pre.pH x' a1).2
        have nW : ∀ x ∈ of m2.W o2.Key, x.Tx ≠ o.Tx := by
          intro x hx
          obtain ⟨x', a1, a2, a3, a4⟩ := of_mem hx
          rw [← a3]; exact hnot _ (I2.pre.pW x' a1).2
        generalize of m2.W o2.Key = ww at H lw hlw idle nW hpw
        generalize of m2.H o2.Key = hh at H lh hlh idle nH
        rw [if_neg (by
          intro h
          simp only [Bool.and_eq_true, beq_iff_eq, decide_eq_true_eq] at h
          have h1 : hh = [] := List.eq_nil_of_length_eq_zero (by omega)
          have h2 := idle h1
          rw [h2] at lw
          simp only [List.length_nil] at lw
          omega)]
        have kw : ∀ A, Know (A :: ro T53 r32 ww :: ro T53 r29 hh :: [old W]) (RoP T53 r32 ww) := fun A => (Know.here (m := RoP.mono)).tail
        have kh : ∀ A, Know (A :: ro T53 r32 ww :: ro T53 r29 hh :: [old W]) (RoP T53 r29 hh) := fun A => (Know.here (m := RoP.mono)).tail.tail
        have kL : ∀ A, Know (A :: ro T53 r32 ww :: ro T53 r29 hh :: [old W]) (RoP T30 s L) := fun A => k.tail.tail.tail
        refine lp_i (fun (a : Int) w => 0 ≤ a ∧ a ≤ hh.length ∧ St W (tbl b m2 80 :: ro T53 r32 ww :: ro T53 r29 hh :: [old W]) w) (fun a => (hh.length - a).toNat) ⟨Int.le_refl 0, by omega, H⟩ ?_
        clear H
        rintro a w ⟨a0, a1, H⟩
        unfold F7_l4
        split
        · rename_i hca
          have hca : a < hh.length := by simp at hca; omega
          have e3 : IntKind.i64.wrap (a + 1) = a + 1 := wrap_i64 (by omega) (by omega)
          have hz : hh[a.toNat]? = some hh[a.toNat] := List.getElem?_eq_getElem (by omega)
          generalize hh[a.toNat] = x at hz
          have hne := nH x (List.mem_of_getElem? hz)
          refine dr_st H fun w7 H => ?_
          obtain ⟨c, hcx⟩ := (kh _).ix (sz := 2) (i := a) H a0 hca
          obtain ⟨p3, hp3⟩ := (kL _).ix (sz := 4) (i := i) H i0 hc.1
          refine ex_i c hcx ?_
          refine ex_i p3 hp3 ?_
          refine ex_i x.Tx ((kh _).fld (fun _ => rfl) hcx hz rfl H) ?_
          refine ex_i o.Tx ((kL _).fld (fun _ => rfl) hp3 hx rfl H) ?_
          rw [if_neg (by simpa using hne), e3]
          exact ⟨⟨by omega, by omega, H⟩, by omega⟩
        · refine lp_i (fun (a : Int) w => 0 ≤ a ∧ a ≤ ww.length ∧ St W (tbl b m2 80 :: ro T53 r32 ww :: ro T53 r29 hh :: [old W]) w) (fun a => (ww.length - a).toNat) ⟨Int.le_refl 0, by omega, H⟩ ?_
          clear H a0 a1
          rintro a w ⟨a0, a1, H⟩
          unfold F7_l5
          split
          · rename_i hca
            have hca : a < ww.length := by simp at hca; omega
            have e3 : IntKind.i64.wrap (a + 1) = a + 1 := wrap_i64 (by omega) (by omega)
            have hz : ww[a.toNat]? = some ww[a.toNat] := List.getElem?_eq_getElem (by omega)
            generalize ww[a.toNat] = x at hz
            have hne := nW x (List.mem_of_getElem? hz)
            refine dr_st H fun w7 H => ?_
            obtain ⟨c, hcx⟩ := (kw _).ix (sz := 2) (i := a) H a0 hca
            obtain ⟨p3, hp3⟩ := (kL _).ix (sz := 4) (i := i) H i0 hc.1
            refine ex_i c hcx ?_
            refine ex_i p3 hp3 ?_
            refine ex_i x.Tx ((kw _).fld (fun _ => rfl) hcx hz rfl H) ?_
            refine ex_i o.Tx ((kL _).fld (fun _ => rfl) hp3 hx rfl H) ?_
            rw [if_neg (by simpa using hne), e3]
            exact ⟨⟨by omega, by omega, H⟩, by omega⟩
          · rw [e2]
            exact ⟨⟨by omega, by omega, ((H.front 1).drop.front 1).drop⟩, by omega⟩
      · rw [e1]
        refine ⟨⟨by omega, by omega, m2, ?_, H⟩, by omega⟩
        rw [show (i + 1).toNat = i.toNat + 1 from by omega]; exact I2
    · rename_i hc
      have hall : L.take i.toNat = L.take 40 := by
        have hc : ¬ (i < L.length ∧ i < 40) := by simp at hc; omega
        by_cases h : i < 40
        · have hLi : L.length ≤ i.toNat := by omega
          rw [List.take_of_length_le hLi, List.take_of_length_le (by omega)]
        · rw [show i.toNat = 40 from by omega]
      have hno : ∀ x, ¬ ((1 ≤ x ∧ ∃ y ∈ L.take 40, y.Tx = x) ∧ ∀ y ∈ L.take i.toNat, y.Tx ≠ x) := by
        rintro x ⟨⟨_, y, h1, h2⟩, h3⟩
        exact h3 y (by rw [hall]; exact h1) h2
      have hH : m.H = [] := List.eq_nil_iff_forall_not_mem.2 fun y hy => hno _ (I.pre.pH y hy)
      have hW : m.W = [] := List.eq_nil_iff_forall_not_mem.2 fun y hy => hno _ (I.pre.pW y hy)
      have hD : m.D = [] := List.eq_nil_iff_forall_not_mem.2 fun y hy => hno _ (I.pD y hy)
      clear hall hno i0 i1 hc
      refine lp_i (fun (j : Int) w => 0 ≤ j ∧ j ≤ 40 ∧ St W (tbl b m 80 :: [old W]) w) (fun j => (40 - j).toNat) ⟨Int.le_refl 0, by omega, H⟩ ?_
      clear H
      rintro j w ⟨j0, j1, H⟩
      unfold F7_l6
      split
      · rename_i hcj
        have hcj : j < L.length ∧ j < 40 := by simp at hcj; omega
        have e2 : IntKind.i64.wrap (j + 1) = j + 1 := wrap_i64 (by omega) (by omega)
        have hy : L[j.toNat]? = some L[j.toNat] := List.getElem?_eq_getElem (by omega)
        generalize L[j.toNat] = o2 at hy
        refine dr_st H fun w4 H => ?_
        obtain ⟨p2, hp2⟩ := k.tail.ix (sz := 4) (i := j) H j0 hcj.1
        refine ex_i p2 hp2 ?_
        refine ex_i p2 hp2 ?_
        refine ex_i o2.Key (k.tail.fld (fun _ => rfl) hp2 hy rfl H) ?_
        refine ex_i o2.Key (k.tail.fld (fun _ => rfl) hp2 hy rfl H) ?_
        refine cl_mono (holds_B (k := o2.Key) (by omega) H) ?_
        intro r29 w5 H
        have lh : r29.len = 0 := by rw [row_len H, hH]; rfl
        have H := H.drop
        refine ⟨k.tail.fld (fun _ => rfl) hp2 hy rfl H, ?_⟩
        refine cl_mono (waits_B (k := o2.Key) (by omega) H) ?_
        intro r32 w6 H
        have lw : r32.len = 0 := by rw [row_len H, hW]; rfl
        have H := H.drop
        refine ⟨k.tail.fld (fun _ => rfl) hp2 hy rfl H, ?_⟩
        rw [lh, lw, if_neg (by decide)]
        refine ex_i p2 hp2 ?_
        refine ex_i o2.Tx (k.tail.fld (fun _ => rfl) hp2 hy rfl H) ?_
        refine cl_mono (dead_B (tx := o2.Tx) H) ?_
        rintro d w7 ⟨hd, H⟩
        rw [hD] at hd
        have hd : d = false := hd
        subst hd
        refine ⟨k.tail.fld (fun _ => rfl) hp2 hy rfl H, ?_⟩
        refine ⟨k.tail.fld (fun _ => rfl) hp2 hy rfl H, ?_⟩
        unfold F7_j7
        rw [if_neg (by decide), e2]
        exact ⟨⟨by omega, by omega, H⟩, by omega⟩
      · exact ⟨rfl, H.drop.below⟩
end
end Go.Proofs.Ytojcgejjdfcaaaa.Locks
namespace Go.Proofs.Ytojcgejjdfcaaaa
open Go Go.Proofs.Ytojcgejjdfcaaaa.Cf
theorem walkLocksEldest (W : World) (s : Slc) (g0 : G22 W s) : cl Try.prog 6 [tSlc.enc s] tBool W fun r w' => r = true ∧ RowKit.Below W.heap.size W w' := Locks.eldest_walk W s g0
theorem walkLocksEnds (W : World) (s : Slc) (g0 : G22 W s) : cl Try.prog 7 [tSlc.enc s] tBool W fun r w' => r = true ∧ RowKit.Below W.heap.size W w' := Locks.ends_walk W s g0
end Go.Proofs.Ytojcgejjdfcaaaa
