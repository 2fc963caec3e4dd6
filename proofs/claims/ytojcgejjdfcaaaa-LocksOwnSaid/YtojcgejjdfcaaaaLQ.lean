/- LocksOwn: the walk. -/
import Derived.Test.YtojcgejjdfcaaaaLP
namespace Go.Proofs.Ytojcgejjdfcaaaa.Locks
open Go Go.Proofs.Ytojcgejjdfcaaaa.Cf
set_option linter.unusedVariables false
set_option linter.unusedSimpArgs false
set_option maxRecDepth 100000
set_option maxHeartbeats 2000000
section
variable {W w : World} {l : List Assn}
theorem ints_row {sa sb : Slc} {a b : List Int} (hm : a.length ≤ 1000000) (kb : Know l (RoP (tInt .i64) sb b)) (H : St W (row (tInt .i64) 3 1 sa a :: l) w) :
    cl Try.prog 13 [tSlc.enc sa, tSlc.enc sb] tBool w fun r w' => (r = true ↔ a = b) ∧ St W (row (tInt .i64) 3 1 sa a :: l) w' := by
  have la := row_len H
  have lb := kb.tail.len H
  refine F13_ok ?_
  unfold F13
  split
  · rename_i hne
    have hne : a.length ≠ b.length := by simp at hne; omega
    exact ⟨⟨fun h => (by cases h), fun h => absurd (congrArg List.length h) hne⟩, H⟩
  · rename_i hne
    have hne : a.length = b.length := by simp at hne; omega
    refine lp_i (fun i w => 0 ≤ i ∧ i ≤ a.length ∧ a.take i.toNat = b.take i.toNat ∧ St W (row (tInt .i64) 3 1 sa a :: l) w) (fun i => (a.length - i).toNat) ⟨Int.le_refl 0, by omega, by simp, H⟩ ?_
    rintro i w ⟨h0, h1, h2, H⟩
    unfold F13_l1
    split
    · rename_i hc
      have hc : i < a.length := by simp at hc; omega
      have e1 : IntKind.i64.wrap (i + 1) = i + 1 := wrap_i64 (by omega) (by omega)
      have hx : a[i.toNat]? = some a[i.toNat] := List.getElem?_eq_getElem (by omega)
      have hy : b[i.toNat]? = some b[i.toNat] := List.getElem?_eq_getElem (by omega)
      obtain ⟨p, hp⟩ := row_ix (sz := 1) (i := i) H h0 hc
      obtain ⟨q, hq⟩ := kb.tail.ix (sz := 1) (i := i) H h0 (by omega)
      have ht : a.take (i.toNat + 1) = a.take i.toNat ++ [a[i.toNat]] := List.take_succ_eq_append_getElem (by omega)
      have ht2 : b.take (i.toNat + 1) = b.take i.toNat ++ [b[i.toNat]] := List.take_succ_eq_append_getElem (by omega)
      generalize a[i.toNat] = x at hx ht
      generalize b[i.toNat] = y at hy ht2
      refine dr_st H fun w1 H => ?_
      refine ex_i p hp ?_
      refine ex_i q hq ?_
      refine ex_i x (rd_row (T := (tInt .i64)) (fun _ => rfl) hp hx H) ?_
      refine ex_i y (kb.tail.rd (fun _ => rfl) hq hy H) ?_
      split
      · rename_i hd
        refine ⟨⟨fun h => (by cases h), fun h => ?_⟩, H⟩
        subst h
        rw [hx] at hy; cases hy
        simp at hd
      · rename_i hd
        rw [e1]
        have hxy : x = y := by simpa using hd
        refine ⟨⟨by omega, by omega, ?_, H⟩, by omega⟩
        rw [show (i + 1).toNat = i.toNat + 1 from by omega, ht, ht2, h2, hxy]
    · rename_i hc
      have hc : i = a.length := by simp at hc; omega
      subst hc
      refine ⟨⟨fun _ => ?_, fun _ => rfl⟩, H⟩
      have e1 : a.take ((a.length : Int)).toNat = a := by simp
      have e2 : b.take ((a.length : Int)).toNat = b := by rw [hne]; simp
      rw [e1, e2] at h2; exact h2
theorem grants_row {sa sb : Slc} {a b : List S55} (hm : a.length ≤ 1000000) (kb : Know l (RoP T55 sb b)) (H : St W (row T55 56 2 sa a :: l) w) :
    cl Try.prog 14 [tSlc.enc sa, tSlc.enc sb] tBool w fun r w' => (r = true ↔ a = b) ∧ St W (row T55 56 2 sa a :: l) w' := by
  have la := row_len H
  have lb := kb.tail.len H
  refine F14_ok ?_
  unfold F14
  split
  · rename_i hne
    have hne : a.length ≠ b.length := by simp at hne; omega
    exact ⟨⟨fun h => (by cases h), fun h => absurd (congrArg List.length h) hne⟩, H⟩
  · rename_i hne
    have hne : a.length = b.length := by simp at hne; omega
    refine lp_i (fun i w => 0 ≤ i ∧ i ≤ a.length ∧ a.take i.toNat = b.take i.toNat ∧ St W (row T55 56 2 sa a :: l) w) (fun i => (a.length - i).toNat) ⟨Int.le_refl 0, by omega, by simp, H⟩ ?_
    rintro i w ⟨h0, h1, h2, H⟩
    unfold F14_l1
    split
    · rename_i hc
      have hc : i < a.length := by simp at hc; omega
      have e1 : IntKind.i64.wrap (i + 1) = i + 1 := wrap_i64 (by omega) (by omega)
      have hx : a[i.toNat]? = some a[i.toNat] := List.getElem?_eq_getElem (by omega)
      have hy : b[i.toNat]? = some b[i.toNat] := List.getElem?_eq_getElem (by omega)
      obtain ⟨p, hp⟩ := row_ix (sz := 2) (i := i) H h0 hc
      obtain ⟨q, hq⟩ := kb.tail.ix (sz := 2) (i := i) H h0 (by omega)
      have ht : a.take (i.toNat + 1) = a.take i.toNat ++ [a[i.toNat]] := List.take_succ_eq_append_getElem (by omega)
      have ht2 : b.take (i.toNat + 1) = b.take i.toNat ++ [b[i.toNat]] := List.take_succ_eq_append_getElem (by omega)
      generalize a[i.toNat] = x at hx ht
      generalize b[i.toNat] = y at hy ht2
      refine dr_st H fun w1 H => ?_
      refine ex_i p hp ?_
      refine ex_i q hq ?_
      refine ex_i x.Tx (fld_row (fun _ => rfl) hp hx rfl H) ?_
      refine ex_i y.Tx (kb.tail.fld (fun _ => rfl) hq hy rfl H) ?_
      refine ex_i p (fun _ => hp) ?_
      refine ex_i q (fun _ => hq) ?_
      refine ex_i x.Key (fun _ => fld_row (fun _ => rfl) hp hx rfl H) ?_
      refine ex_i y.Key (fun _ => kb.tail.fld (fun _ => rfl) hq hy rfl H) ?_
      split
      · rename_i hd
        refine ⟨⟨fun h => (by cases h), fun h => ?_⟩, H⟩
        subst h
        rw [hx] at hy; cases hy
        simp at hd
      · rename_i hd
        rw [e1]
        have hxy : x = y := s55_eq (by simp at hd; exact hd.1) (by simp at hd; exact hd.2)
        refine ⟨⟨by omega, by omega, ?_, H⟩, by omega⟩
        rw [show (i + 1).toNat = i.toNat + 1 from by omega, ht, ht2, h2, hxy]
    · rename_i hc
      have hc : i = a.length := by simp at hc; omega
      subst hc
      refine ⟨⟨fun _ => ?_, fun _ => rfl⟩, H⟩
      have e1 : a.take ((a.length : Int)).toNat = a := by simp
      have e2 : b.take ((a.length : Int)).toNat = b := by rw [hne]; simp
      rw [e1, e2] at h2; exact h2
theorem own_walk (W : World) (s : Slc) (g0 : G22 W s) : cl Try.prog 8 [tSlc.enc s] tBool W fun r w' => r = true ∧ RowKit.Below W.heap.size W w' := by
  obtain ⟨L, hR, hro⟩ := ops_of g0
  have k : Know [old W] (RoP T30 s L) := (oldK W).old hro
  have H := St.start W
  have lL := k.len H
  refine F8_ok ?_
  unfold F8
  refine cl_mono (new_B H) ?_
  rintro r w1 ⟨b1, rfl, H⟩
  refine cl_mono (new_B H) ?_
  rintro r w2 ⟨b2, rfl, H⟩
  refine cl_mono (awake_B H) ?_
  rintro a w4 ⟨rfl, H⟩
  rw [if_neg (by simp)]
  refine lp_i (fun (i : Int) w => 0 ≤ i ∧ i ≤ 30 ∧ ∃ m, Inv (fun _ => True) i.toNat m ∧ St W (tbl b1 m (2 * i.toNat) :: tbl b2 m (2 * i.toNat) :: [old W]) w) (fun i => (30 - i).toNat) ⟨Int.le_refl 0, by omega, ⟨[], [], []⟩, Inv.start, H.front 1⟩ ?_
  clear H
  rintro i w ⟨i0, i1, m, I, H⟩
  unfold F8_l1
  split
  · rename_i hc
    have hc : i < L.length ∧ i < 30 := by simp at hc; omega
    have e1 : IntKind.i64.wrap (i + 1) = i + 1 := wrap_i64 (by omega) (by omega)
    have hx : L[i.toNat]? = some L[i.toNat] := List.getElem?_eq_getElem (by omega)
    generalize L[i.toNat] = o at hx
    have hRo := hR o (List.mem_of_getElem? hx)
    have hHl := I.hw
    obtain ⟨p, hp⟩ := k.tail.tail.ix (sz := 4) (i := i) H i0 hc.1
    refine ex_i p hp ?_
    refine ex_i o (k.tail.tail.rd (fun _ => rfl) hp hx H) ?_
    refine cl_mono (does_B (o := o) (by omega) I.pre.N (by omega) hRo H) ?_
    rintro ⟨q, e⟩ w5 ⟨he, hg, H⟩
    simp only at he hg H
    refine nw_st H fun b15 w6 H => ?_
    refine st_st (x := q) 0 H rfl rfl (Nat.le_of_ble_eq_true rfl) fun w7 H => ?_
    have H : St W (cel b15 (T33.cells q) 34 :: row (tInt .i64) 3 1 q.Wounded (act m o).2.1.wo :: row T55 56 2 q.Woken (act m o).2.1.wk :: tbl b1 (act m o).1 (2 * i.toNat + 2) :: tbl b2 m (2 * i.toNat) :: [old W]) w7 := H
    refine ex_i p hp ?_
    refine ex_i o (k.tail.tail.tail.tail.tail.rd (fun _ => rfl) hp hx H) ?_
    refine cl_mono (does_B (o := o) (by omega) I.pre.N (by omega) hRo (H.front 4)) ?_
    rintro ⟨q2, e2⟩ w8 ⟨he2, hg2, H⟩
    simp only at he2 hg2 H
    have H := row_stay H
    have H := (row_stay (H.front 1)).front 1
    refine nw_st H fun b22 w9 H => ?_
    refine st_st (x := q2) 0 H rfl rfl (Nat.le_of_ble_eq_true rfl) fun w10 H => ?_
    have I2 := I.act (o := o) (fun _ => trivial) (by omega)
    have hwl : (act m o).2.1.wo.length ≤ 1000000 := Nat.le_trans act_wo_len (by omega)
    have hkl : (act m o).2.1.wk.length ≤ 1000000 := Nat.le_trans act_wk_len (by omega)
    generalize act m o = G at he hg he2 hg2 H I2 hwl hkl
    obtain ⟨m2, ans, er⟩ := G
    simp only at he hg he2 hg2 H I2 hwl hkl
    have hHl2 := I2.hw
    have H : St W (cel b22 (T33.cells q2) 34 :: ro (tInt .i64) q2.Wounded ans.wo :: ro T55 q2.Woken ans.wk :: tbl b2 m2 (2 * i.toNat + 2) :: cel b15 (T33.cells q) 34 :: row (tInt .i64) 3 1 q.Wounded ans.wo :: row T55 56 2 q.Woken ans.wk :: tbl b1 m2 (2 * i.toNat + 2) :: [old W]) w10 := H
    refine ex_i q.Granted (fun _ => rdat_cel tBool (H.front 4) rfl rfl) ?_
    refine ex_i q2.Granted (fun _ => rdat_cel tBool H rfl rfl) ?_
    rw [if_neg (by rw [he, he2, hg, hg2]; simp)]
    refine ld_st (x := q.Wounded) 4 H rfl rfl rfl ?_
    refine ld_st (x := q2.Wounded) 0 H rfl rfl rfl ?_
    refine cl_mono (ints_row (a := ans.wo) (b := ans.wo) hwl ((Know.here (m := RoP.mono)).tail) (H.front 5)) ?_
    rintro r w11 ⟨hr, H⟩
    have hr := hr.2 rfl
    subst hr
    unfold F8_j2
    rw [if_neg (by decide)]
    -- row wo, cel b22, ro, ro, tbl b2, cel b15, row wk, tbl b1
    refine ld_st (x := q.Woken) 5 H rfl rfl rfl ?_
    refine ld_st (x := q2.Woken) 1 H rfl rfl rfl ?_
    refine cl_mono (grants_row (a := ans.wk) (b := ans.wk) hkl ((Know.here (m := RoP.mono)).tail.tail.tail) (H.front 6)) ?_
    rintro r w12 ⟨hr, H⟩
    have hr := hr.2 rfl
    subst hr
    unfold F8_j3
    rw [if_neg (by decide)]
    -- row wk, row wo, cel b22, ro, ro, tbl b2, cel b15, tbl b1
    have H := (((H.front 2).drop.front 2).drop.front 2).drop
    have H : St W (row T55 56 2 q.Woken ans.wk :: row (tInt .i64) 3 1 q.Wounded ans.wo :: tbl b2 m2 (2 * i.toNat + 2) :: cel b15 (T33.cells q) 34 :: tbl b1 m2 (2 * i.toNat + 2) :: [old W]) w12 := H
    have hwl : ans.wo.length ≤ 1000000 := hwl
    have lwo := row_len (H.front 1)
    have lwk := row_len H
    refine lp_i (fun (j : Int) w => 0 ≤ j ∧ j ≤ ans.wo.length ∧ ∃ xs, xs.length = ans.wo.length ∧ St W (row T55 56 2 q.Woken ans.wk :: row (tInt .i64) 3 1 q.Wounded xs :: tbl b2 m2 (2 * i.toNat + 2) :: cel b15 (T33.cells q) 34 :: tbl b1 m2 (2 * i.toNat + 2) :: [old W]) w) (fun j => (ans.wo.length - j).toNat) ⟨Int.le_refl 0, by omega, _, rfl, H⟩ ?_
    clear H
    rintro j w ⟨j0, j1, xs, hxs, H⟩
    unfold F8_l4
    refine ld_st (x := q.Wounded) 3 H rfl rfl rfl ?_
    split
    · rename_i hcj
      have hcj : j < ans.wo.length := by simp at hcj; omega
      have e3 : IntKind.i64.wrap (j + 1) = j + 1 := wrap_i64 (by omega) (by omega)
      refine ld_st (x := q.Wounded) 3 H rfl rfl rfl ?_
      obtain ⟨c, hcx⟩ := row_ix (sz := 1) (i := j) (H.front 1) j0 (by omega)
      refine ex_i c hcx ?_
      refine st_row (y := (-1 : Int)) (fun _ => rfl) hcx (H.front 1) fun w13 H => ?_
      rw [e3]
      exact ⟨⟨by omega, by omega, _, by rw [List.length_set]; exact hxs, H.front 1⟩, by omega⟩
    · clear j0 j1
      refine lp_i (fun (j : Int) w => 0 ≤ j ∧ j ≤ ans.wk.length ∧ ∃ ys, ys.length = ans.wk.length ∧ St W (row T55 56 2 q.Woken ys :: tbl b2 m2 (2 * i.toNat + 2) :: cel b15 (T33.cells q) 34 :: tbl b1 m2 (2 * i.toNat + 2) :: [old W]) w) (fun j => (ans.wk.length - j).toNat) ⟨Int.le_refl 0, by omega, _, rfl, (H.front 1).drop⟩ ?_
      clear H
      rintro j w ⟨j0, j1, ys, hys, H⟩
      unfold F8_l5
      refine ld_st (x := q.Woken) 2 H rfl rfl rfl ?_
      split
      · rename_i hcj
        have hcj : j < ans.wk.length := by simp at hcj; omega
        have e3 : IntKind.i64.wrap (j + 1) = j + 1 := wrap_i64 (by omega) (by omega)
        refine ld_st (x := q.Woken) 2 H rfl rfl rfl ?_
        obtain ⟨c, hcx⟩ := row_ix (sz := 2) (i := j) H j0 (by omega)
        refine ex_i c hcx ?_
        refine st_row (y := (⟨(0 : Int), (0 : Int)⟩ : S55)) (fun _ => rfl) hcx H fun w13 H => ?_
        rw [e3]
        exact ⟨⟨by omega, by omega, _, by rw [List.length_set]; exact hys, H⟩, by omega⟩
      · have H := H.drop
        have H : St W (tbl b1 m2 (2 * i.toNat + 2) :: tbl b2 m2 (2 * i.toNat + 2) :: [old W]) w := (H.ord [2, 0]).ord [0, 1] |> fun H => ((H.front 2).drop)
        clear j0 j1
        refine dr_st H fun w13 H => ?_
        refine ex_i p hp ?_
        refine ex_i p hp ?_
        refine ex_i o.Key (k.tail.tail.fld (fun _ => rfl) hp hx rfl H) ?_
        refine ex_i o.Key (k.tail.tail.fld (fun _ => rfl) hp hx rfl H) ?_
        refine cl_mono (holds_B (k := o.Key) (by omega) H) ?_
        intro r51 w14 H
        refine ⟨k.tail.tail.tail.fld (fun _ => rfl) hp hx rfl H, ?_⟩
        refine cl_mono (waits_B (k := o.Key) (by omega) (H.front 1)) ?_
        intro r54 w15 H
        refine ⟨k.tail.tail.tail.tail.fld (fun _ => rfl) hp hx rfl H, ?_⟩
        have H : St W (row T53 54 2 r54 (of m2.W o.Key) :: tbl b1 m2 (2 * i.toNat + 2) :: row T53 54 2 r51 (of m2.H o.Key) :: tbl b2 m2 (2 * i.toNat + 2) :: [old W]) w15 := H
        have l54 := row_len H
        have l51 := row_len (H.front 2)
        have hlw : (of m2.W o.Key).length ≤ 1000000 := Nat.le_trans (of_len _ _) (by omega)
        have hlh : (of m2.H o.Key).length ≤ 1000000 := Nat.le_trans (of_len _ _) (by omega)
        have fin : ∀ w, St W (tbl b1 m2 (2 * i.toNat + 2) :: tbl b2 m2 (2 * i.toNat + 2) :: [old W]) w → F8_j8 i false w (fun s' w' => (0 ≤ s' ∧ s' ≤ 30 ∧ ∃ m, Inv (fun _ => True) s'.toNat m ∧ St W (tbl b1 m (2 * s'.toNat) :: tbl b2 m (2 * s'.toNat) :: [old W]) w') ∧ (30 - s').toNat < (30 - i).toNat) (fun r w' => r = true ∧ RowKit.Below W.heap.size W w') := by
          intro w H
          unfold F8_j8
          rw [if_neg (by decide), e1]
          refine ⟨⟨by omega, by omega, m2, ?_, ?_⟩, by omega⟩
          · rw [show (i + 1).toNat = i.toNat + 1 from by omega]; exact I2
          · rw [show 2 * (i + 1).toNat = 2 * i.toNat + 2 from by omega]; exact H
        refine lp_i (fun (j : Int) w => 0 ≤ j ∧ j ≤ (of m2.H o.Key).length ∧ ∃ ys, ys.length = (of m2.H o.Key).length ∧ St W (row T53 54 2 r51 ys :: row T53 54 2 r54 (of m2.W o.Key) :: tbl b1 m2 (2 * i.toNat + 2) :: tbl b2 m2 (2 * i.toNat + 2) :: [old W]) w) (fun j => ((of m2.H o.Key).length - j).toNat) ⟨Int.le_refl 0, by omega, _, rfl, H.front 2⟩ ?_
        clear H
        rintro j w ⟨j0, j1, ys, hys, H⟩
        unfold F8_l6
        split
        · rename_i hcj
          have hcj : j < (of m2.H o.Key).length := by simp at hcj; omega
          have e3 : IntKind.i64.wrap (j + 1) = j + 1 := wrap_i64 (by omega) (by omega)
          obtain ⟨c, hcx⟩ := row_ix (sz := 2) (i := j) H j0 (by omega)
          refine ex_i c hcx ?_
          refine st_row (y := (⟨(0 : Int), false⟩ : S53)) (fun _ => rfl) hcx H fun w16 H => ?_
          rw [e3]
          exact ⟨⟨by omega, by omega, _, by rw [List.length_set]; exact hys, H⟩, by omega⟩
        · clear j0 j1
          refine lp_i (fun (j : Int) w => 0 ≤ j ∧ j ≤ (of m2.W o.Key).length ∧ ∃ ys, ys.length = (of m2.W o.Key).length ∧ St W (row T53 54 2 r54 ys :: tbl b1 m2 (2 * i.toNat + 2) :: tbl b2 m2 (2 * i.toNat + 2) :: [old W]) w) (fun j => ((of m2.W o.Key).length - j).toNat) ⟨Int.le_refl 0, by omega, _, rfl, H.drop⟩ ?_
          clear H
          rintro j w ⟨j0, j1, ys, hys, H⟩
          unfold F8_l7
          split
          · rename_i hcj
            have hcj : j < (of m2.W o.Key).length := by simp at hcj; omega
            have e3 : IntKind.i64.wrap (j + 1) = j + 1 := wrap_i64 (by omega) (by omega)
            obtain ⟨c, hcx⟩ := row_ix (sz := 2) (i := j) H j0 (by omega)
            refine ex_i c hcx ?_
            refine st_row (y := (⟨(0 : Int), false⟩ : S53)) (fun _ => rfl) hcx H fun w16 H => ?_
            rw [e3]
            exact ⟨⟨by omega, by omega, _, by rw [List.length_set]; exact hys, H⟩, by omega⟩
          · have H := H.drop
            refine dr_st H fun w16 H => ?_
            refine ex_i p hp ?_
            refine ex_i p hp ?_
            refine ex_i o.Key (k.tail.tail.fld (fun _ => rfl) hp hx rfl H) ?_
            refine ex_i o.Key (k.tail.tail.fld (fun _ => rfl) hp hx rfl H) ?_
            refine cl_mono (holds_B (k := o.Key) (by omega) H) ?_
            intro r75 w17 H
            have H := row_stay H
            refine ⟨k.tail.tail.tail.fld (fun _ => rfl) hp hx rfl H, ?_⟩
            refine cl_mono (holds_B (k := o.Key) (by omega) (H.front 2)) ?_
            intro r78 w18 H
            have H := row_stay H
            refine ⟨k.tail.tail.tail.tail.fld (fun _ => rfl) hp hx rfl H, ?_⟩
            have H : St W (ro T53 r78 (of m2.H o.Key) :: tbl b2 m2 (2 * i.toNat + 2) :: ro T53 r75 (of m2.H o.Key) :: tbl b1 m2 (2 * i.toNat + 2) :: [old W]) w18 := H
            refine cl_mono (holds_spec hlh ((Know.here (m := RoP.mono)).tail.tail) (Know.here (m := RoP.mono)) H) ?_
            rintro r w19 ⟨hr, H⟩
            have hr := hr.2 rfl
            subst hr
            have H : St W (tbl b1 m2 (2 * i.toNat + 2) :: tbl b2 m2 (2 * i.toNat + 2) :: [old W]) w19 := (((H.drop).front 1).drop).front 1
            refine ⟨k.tail.tail.fld (fun _ => rfl) hp hx rfl H, ?_⟩
            refine ⟨k.tail.tail.fld (fun _ => rfl) hp hx rfl H, ?_⟩
            rw [if_neg (by decide)]
            refine ex_i p hp ?_
            refine ex_i p hp ?_
            refine ex_i o.Key (k.tail.tail.fld (fun _ => rfl) hp hx rfl H) ?_
            refine ex_i o.Key (k.tail.tail.fld (fun _ => rfl) hp hx rfl H) ?_
            refine cl_mono (waits_B (k := o.Key) (by omega) H) ?_
            intro r90 w20 H
            have H := row_stay H
            refine ⟨k.tail.tail.tail.fld (fun _ => rfl) hp hx rfl H, ?_⟩
            refine ⟨k.tail.tail.tail.fld (fun _ => rfl) hp hx rfl H, ?_⟩
            refine ⟨k.tail.tail.tail.fld (fun _ => rfl) hp hx rfl H, ?_⟩
            refine cl_mono (waits_B (k := o.Key) (by omega) (H.front 2)) ?_
            intro r95 w21 H
            have H := row_stay H
            refine ⟨k.tail.tail.tail.tail.fld (fun _ => rfl) hp hx rfl H, ?_⟩
            refine ⟨k.tail.tail.tail.tail.fld (fun _ => rfl) hp hx rfl H, ?_⟩
            refine ⟨k.tail.tail.tail.tail.fld (fun _ => rfl) hp hx rfl H, ?_⟩
            have H : St W (ro T53 r95 (of m2.W o.Key) :: tbl b2 m2 (2 * i.toNat + 2) :: ro T53 r90 (of m2.W o.Key) :: tbl b1 m2 (2 * i.toNat + 2) :: [old W]) w21 := H
            refine cl_mono (holds_spec hlw ((Know.here (m := RoP.mono)).tail.tail) (Know.here (m := RoP.mono)) H) ?_
            rintro r w22 ⟨hr, H⟩
            have hr := hr.2 rfl
            subst hr
            have H : St W (tbl b1 m2 (2 * i.toNat + 2) :: tbl b2 m2 (2 * i.toNat + 2) :: [old W]) w22 := (((H.drop).front 1).drop).front 1
            refine ⟨k.tail.tail.fld (fun _ => rfl) hp hx rfl H, ?_⟩
            refine ⟨k.tail.tail.fld (fun _ => rfl) hp hx rfl H, ?_⟩
            refine ⟨k.tail.tail.fld (fun _ => rfl) hp hx rfl H, ?_⟩
            refine ⟨k.tail.tail.fld (fun _ => rfl) hp hx rfl H, ?_⟩
            exact fin w22 H
  · exact ⟨rfl, H.drop.drop.below⟩
end
end Go.Proofs.Ytojcgejjdfcaaaa.Locks
namespace Go.Proofs.Ytojcgejjdfcaaaa
open Go Go.Proofs.Ytojcgejjdfcaaaa.Cf
theorem walkLocksOwn (W : World) (s : Slc) (g0 : G22 W s) : cl Try.prog 8 [tSlc.enc s] tBool W fun r w' => r = true ∧ RowKit.Below W.heap.size W w' := Locks.own_walk W s g0
end Go.Proofs.Ytojcgejjdfcaaaa
