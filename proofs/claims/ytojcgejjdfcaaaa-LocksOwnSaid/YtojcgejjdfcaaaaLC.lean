/- Contracts of the reference for locks: may, Give. -/
import Derived.Test.YtojcgejjdfcaaaaLB
namespace Go.Proofs.Ytojcgejjdfcaaaa.Locks
open Go Go.Proofs.Ytojcgejjdfcaaaa.Cf
set_option linter.unusedVariables false
set_option linter.unusedSimpArgs false
set_option maxRecDepth 100000
section
variable {W w : World} {l : List Assn}
/-- The document's table as it lies. -/
def TbR (t : S27) (m : Md) (I : PMap) : Prop := (RoP T79 t.Holds m.H I ∧ RoP T79 t.Waits m.W I ∧ RoP (tInt .i64) t.Dead m.D I) ∧ t.Waits.len ≤ t.Waits.cap
theorem TbR.mono {t : S27} {m : Md} {I I' : PMap} (h : PMap.le I I') : TbR t m I → TbR t m I' := fun ⟨⟨h1, h2, h3⟩, h4⟩ => ⟨⟨RoP.mono h h1, RoP.mono h h2, RoP.mono h h3⟩, h4⟩
def tbo (t : S27) (m : Md) : Assn := ever (TbR t m) TbR.mono
theorem Know.tH {t : S27} {m : Md} (k : Know l (TbR t m)) : Know l (RoP T79 t.Holds m.H) := k.imp fun _ h => h.1.1
theorem Know.tW {t : S27} {m : Md} (k : Know l (TbR t m)) : Know l (RoP T79 t.Waits m.W) := k.imp fun _ h => h.1.2.1
theorem Know.tD {t : S27} {m : Md} (k : Know l (TbR t m)) : Know l (RoP (tInt .i64) t.Dead m.D) := k.imp fun _ h => h.1.2.2
theorem Know.tcap {t : S27} {m : Md} (k : Know l (TbR t m)) (H : St W l w) : t.Waits.len ≤ t.Waits.cap := by
  obtain ⟨I, _, h⟩ := k.everI H
  exact h.2
theorem all_take {p : S79 → Bool} {L : List S79} {i : Nat} {x : S79} (hx : L[i]? = some x) (h : ∀ y ∈ L.take i, p y = true) (hp : p x = true) : ∀ y ∈ L.take (i + 1), p y = true := by
  intro y hy
  rw [List.take_add_one, hx] at hy
  rcases List.mem_append.1 hy with hy | hy
  · exact h y hy
  · have : y = x := by simpa using hy
    rw [this]; exact hp
theorem may_spec {t : S27} {m : Md} {x : S79} (h1 : m.H.length ≤ 10000) (h2 : m.W.length ≤ 10000) (k : Know l (TbR t m)) (H : St W l w) : cl Try.prog 43 [T27.enc t, T79.enc x] tBool w fun r w' => r = may m x ∧ St W l w' := by
  have lH := (Know.tH k).len H
  have lW := (Know.tW k).len H
  refine F43_ok ?_
  unfold F43
  refine nw_st H fun bt w1 H => ?_
  refine nw_st H fun bx w2 H => ?_
  have H : St W (cel bx (T79.cells x) 80 :: cel bt (T27.cells t) 28 :: l) w2 := H
  have kH : Know (cel bx (T79.cells x) 80 :: cel bt (T27.cells t) 28 :: l) (RoP T79 t.Holds m.H) := (Know.tH k).tail.tail
  have kW : Know (cel bx (T79.cells x) 80 :: cel bt (T27.cells t) 28 :: l) (RoP T79 t.Waits m.W) := (Know.tW k).tail.tail
  refine lp_i (fun i w => 0 ≤ i ∧ i ≤ m.H.length ∧ (∀ y ∈ m.H.take i.toNat, (!(y.Key == x.Key) || tog y x) = true) ∧ St W (cel bx (T79.cells x) 80 :: cel bt (T27.cells t) 28 :: l) w) (fun i => (m.H.length - i).toNat) ⟨Int.le_refl 0, by omega, by simp, H⟩ ?_
  clear H
  rintro i w ⟨i0, i1, i2, H⟩
  unfold F43_l1
  refine ld_st (x := t.Holds) 1 H rfl rfl rfl ?_
  split
  · rename_i hc
    have hc : i < m.H.length := by simp at hc; omega
    have e1 : IntKind.i64.wrap (i + 1) = i + 1 := wrap_i64 (by omega) (by omega)
    have hy : m.H[i.toNat]? = some m.H[i.toNat] := List.getElem?_eq_getElem (by omega)
    generalize m.H[i.toNat] = y at hy
    obtain ⟨a, ha⟩ := kH.ix (sz := 3) (i := i) H i0 hc
    have no : (!(y.Key == x.Key) || tog y x) = false → may m x = false := by
      intro h
      unfold may
      rw [Bool.and_eq_false_iff]
      left
      rw [List.all_eq_false]
      exact ⟨y, List.mem_of_getElem? hy, by rw [h]; decide⟩
    refine dr_st H fun w1 H => ?_
    refine ld_st (x := t.Holds) 1 H rfl rfl rfl ?_
    refine ex_i a ha ?_
    refine ex_i y.Key (kH.fld (fun _ => rfl) ha hy rfl H) ?_
    refine ld_st (x := x.Key) 0 H rfl rfl rfl ?_
    split
    · rename_i hk
      refine ld_st (x := t.Holds) 1 H rfl rfl rfl ?_
      refine ex_i a ha ?_
      refine ex_i y (kH.rd (fun _ => rfl) ha hy H) ?_
      refine ld_st (x := x) 0 H rfl rfl (at_all _) ?_
      refine cl_mono (tog_spec H y x) ?_
      rintro q w3 ⟨rfl, H⟩
      refine ⟨rdat_cel tSlc (H.front 1) rfl rfl, ?_⟩
      refine ⟨kH.fld (fun _ => rfl) ha hy rfl H, ?_⟩
      refine ⟨rdat_cel (tInt .i64) H rfl rfl, ?_⟩
      refine ⟨rdat_cel tSlc (H.front 1) rfl rfl, ?_⟩
      unfold F43_j2
      split
      · rename_i hg
        exact ⟨(no (by simp [hk]; simpa using hg)).symm, H.drop.drop⟩
      · rename_i hg
        rw [e1]
        refine ⟨⟨by omega, by omega, ?_, H⟩, by omega⟩
        rw [show (i + 1).toNat = i.toNat + 1 from by omega]
        exact all_take hy i2 (by have : tog y x = true := by simpa using hg
                                 rw [this]; simp)
    · rename_i hk
      unfold F43_j2
      rw [if_neg (by decide), e1]
      refine ⟨⟨by omega, by omega, ?_, H⟩, by omega⟩
      rw [show (i + 1).toNat = i.toNat + 1 from by omega]
      exact all_take hy i2 (by simp at hk; simp [hk])
  · rename_i hc
    have hc : i = m.H.length := by simp at hc; omega
    subst hc
    have et : m.H.take ((m.H.length : Int)).toNat = m.H := by simp
    rw [et] at i2
    clear i0 i1 hc et
    refine lp_i (fun i w => 0 ≤ i ∧ i ≤ m.W.length ∧ (∀ y ∈ m.W.take i.toNat, (!((y.Key == x.Key) && decide (y.Tx < x.Tx)) || tog y x) = true) ∧ St W (cel bx (T79.cells x) 80 :: cel bt (T27.cells t) 28 :: l) w) (fun i => (m.W.length - i).toNat) ⟨Int.le_refl 0, by omega, by simp, H⟩ ?_
    clear H
    rintro i w ⟨i0, i1, i3, H⟩
    unfold F43_l3
    refine ld_st (x := t.Waits) 1 H rfl rfl rfl ?_
    split
    · rename_i hc
      have hc : i < m.W.length := by simp at hc; omega
      have e1 : IntKind.i64.wrap (i + 1) = i + 1 := wrap_i64 (by omega) (by omega)
      have hy : m.W[i.toNat]? = some m.W[i.toNat] := List.getElem?_eq_getElem (by omega)
      generalize m.W[i.toNat] = y at hy
      obtain ⟨a, ha⟩ := kW.ix (sz := 3) (i := i) H i0 hc
      have no : (!((y.Key == x.Key) && decide (y.Tx < x.Tx)) || tog y x) = false → may m x = false := by
        intro h
        unfold may
        rw [Bool.and_eq_false_iff]
        right
        rw [List.all_eq_false]
        exact ⟨y, List.mem_of_getElem? hy, by rw [h]; decide⟩
      refine dr_st H fun w1 H => ?_
      refine ld_st (x := t.Waits) 1 H rfl rfl rfl ?_
      refine ex_i a ha ?_
      refine ex_i y.Key (kW.fld (fun _ => rfl) ha hy rfl H) ?_
      refine ld_st (x := x.Key) 0 H rfl rfl rfl ?_
      refine ex_i t.Waits (fun _ => rdat_cel tSlc (H.front 1) rfl rfl) ?_
      refine ex_i a (fun _ => ha) ?_
      refine ex_i y.Tx (fun _ => kW.fld (fun _ => rfl) ha hy rfl H) ?_
      refine ex_i x.Tx (fun _ => rdat_cel (tInt .i64) H rfl rfl) ?_
      split
      · rename_i hk
        refine ld_st (x := t.Waits) 1 H rfl rfl rfl ?_
        refine ex_i a ha ?_
        refine ex_i y (kW.rd (fun _ => rfl) ha hy H) ?_
        refine ld_st (x := x) 0 H rfl rfl (at_all _) ?_
        refine cl_mono (tog_spec H y x) ?_
        rintro q w3 ⟨rfl, H⟩
        refine ⟨rdat_cel tSlc (H.front 1) rfl rfl, ?_⟩
        refine ⟨kW.fld (fun _ => rfl) ha hy rfl H, ?_⟩
        refine ⟨rdat_cel (tInt .i64) H rfl rfl, ?_⟩
        refine ⟨fun _ => rdat_cel tSlc (H.front 1) rfl rfl, ?_⟩
        refine ⟨fun _ => kW.fld (fun _ => rfl) ha hy rfl H, ?_⟩
        refine ⟨fun _ => rdat_cel (tInt .i64) H rfl rfl, ?_⟩
        refine ⟨rdat_cel tSlc (H.front 1) rfl rfl, ?_⟩
        unfold F43_j4
        split
        · rename_i hg
          refine ⟨(no ?_).symm, H.drop.drop⟩
          have hg : tog y x = false := by simpa using hg
          rw [hk, hg]; rfl
        · rename_i hg
          rw [e1]
          refine ⟨⟨by omega, by omega, ?_, H⟩, by omega⟩
          rw [show (i + 1).toNat = i.toNat + 1 from by omega]
          exact all_take hy i3 (by have : tog y x = true := by simpa using hg
                                   rw [this]; simp)
      · rename_i hk
        unfold F43_j4
        rw [if_neg (by decide), e1]
        refine ⟨⟨by omega, by omega, ?_, H⟩, by omega⟩
        rw [show (i + 1).toNat = i.toNat + 1 from by omega]
        refine all_take hy i3 ?_
        simp only [Bool.not_eq_true] at hk
        rw [hk]; rfl
    · rename_i hc
      have hc : i = m.W.length := by simp at hc; omega
      subst hc
      have et : m.W.take ((m.W.length : Int)).toNat = m.W := by simp
      rw [et] at i3
      refine ⟨?_, H.drop.drop⟩
      unfold may
      rw [List.all_eq_true.2 i2, List.all_eq_true.2 i3]; rfl
theorem give_append (p q : List S79) (m : Md) : give (p ++ q) m = ((give q (give p m).1).1, (give p m).2 ++ (give q (give p m).1).2) := by
  induction p generalizing m with
  | nil => simp [give]
  | cons x p ih =>
    simp only [List.cons_append, give]
    by_cases c : may m x = true
    · rw [if_pos c, if_pos c, ih]; rfl
    · rw [if_neg c, if_neg c, ih]
theorem give_take {L : List S79} {m : Md} {i : Nat} {x : S79} (hx : L[i]? = some x) : give (L.take (i + 1)) m = if may (give (L.take i) m).1 x = true then (grant (give (L.take i) m).1 x, (give (L.take i) m).2 ++ [⟨x.Tx, x.Key⟩]) else give (L.take i) m := by
  obtain ⟨hi, rfl⟩ := List.getElem?_eq_some_iff.1 hx
  rw [List.take_succ_eq_append_getElem hi, give_append]
  simp only [give]
  by_cases c : may (give (L.take i) m).1 L[i] = true
  · rw [if_pos c, if_pos c]
  · rw [if_neg c, if_neg c, List.append_nil]
theorem give_lens : ∀ (L : List S79) (m : Md), (give L m).1.H.length ≤ m.H.length + L.length ∧ (give L m).1.W.length ≤ m.W.length ∧ (give L m).2.length ≤ L.length
  | [], m => by simp [give]
  | x :: L, m => by
    simp only [give]
    split
    · obtain ⟨h1, h2, h3⟩ := give_lens L (grant m x)
      have g1 : (grant m x).H.length ≤ m.H.length + 1 := by
        show (put _ _).length ≤ _
        rw [put_len]
        have := List.length_filter_le (fun y => !same x y) m.H
        omega
      have g2 : (grant m x).W.length ≤ m.W.length := wo_len _ _
      simp only [List.length_cons]
      omega
    · obtain ⟨h1, h2, h3⟩ := give_lens L m
      simp only [List.length_cons]
      omega
theorem give_spec {t : S27} {m : Md} (h1 : m.H.length ≤ 1000) (h2 : m.W.length ≤ 1000) (k : Know l (TbR t m)) (H : St W l w) :
    cl Try.prog 33 [T27.enc t] (tTup2 T27 tSlc) w fun q w' => St W (row T55 56 2 q.2 (give m.W m).2 :: tbo q.1 (give m.W m).1 :: l) w' := by
  have lW := (Know.tW k).len H
  refine F33_ok ?_
  unfold F33
  refine nw_st H fun bt w1 H => ?_
  refine nw_st H fun br w2 H => ?_
  refine nwS_st H fun bo w3 H => ?_
  have H := row_new (sz := 2) (m := 0) rfl H
  refine ld_st (x := t.Waits) 2 H rfl rfl rfl ?_
  have H : St W (tbo t m :: row T55 56 2 ⟨some ⟨bo, 0, none⟩, 0, 0⟩ ([] : List S55) :: cel br (T27.cells Z27) 28 :: cel bt (T27.cells t) 28 :: l) w3 := H.know (m := TbR.mono) k.tail.tail.tail
  refine lp_i (fun p w => 0 ≤ p.2 ∧ p.2 ≤ m.W.length ∧ ∃ t', St W (tbo t' (give (m.W.take p.2.toNat) m).1 :: row T55 56 2 p.1 (give (m.W.take p.2.toNat) m).2 :: cel br (T27.cells Z27) 28 :: cel bt (T27.cells t') 28 :: l) w) (fun p => (m.W.length - p.2).toNat)
    ⟨Int.le_refl 0, by simp only; omega, t, by simpa [give] using H⟩ ?_
  clear H
  rintro ⟨out, i⟩ w ⟨i0, i1, t', H⟩
  simp only at i0 i1 H ⊢
  have hgl := give_lens (m.W.take i.toNat) m
  have htl : (m.W.take i.toNat).length ≤ m.W.length := List.length_take_le' _ _
  unfold F33_l1
  split
  · rename_i hc
    have hc : i < m.W.length := by simp at hc; omega
    have e1 : IntKind.i64.wrap (i + 1) = i + 1 := wrap_i64 (by omega) (by omega)
    have hx : m.W[i.toNat]? = some m.W[i.toNat] := List.getElem?_eq_getElem (by omega)
    have htk := give_take (m := m) hx
    generalize m.W[i.toNat] = x at hx htk
    generalize hG : give (m.W.take i.toNat) m = G at H htk hgl
    obtain ⟨M, outs⟩ := G
    simp only at H htk hgl
    have kt : Know (tbo t' M :: row T55 56 2 out outs :: cel br (T27.cells Z27) 28 :: cel bt (T27.cells t') 28 :: l) (TbR t' M) := Know.here (m := TbR.mono)
    have k0 : Know (tbo t' M :: row T55 56 2 out outs :: cel br (T27.cells Z27) 28 :: cel bt (T27.cells t') 28 :: l) (RoP T79 t.Waits m.W) := (Know.tW k).tail.tail.tail.tail
    obtain ⟨a, ha⟩ := k0.ix (sz := 3) (i := i) H i0 hc
    refine dr_st H fun w1 H => ?_
    refine ex_i a ha ?_
    refine ld_st (x := t') 3 H rfl rfl (at_all _) ?_
    refine ex_i x (k0.rd (fun _ => rfl) ha hx H) ?_
    refine cl_mono (may_spec (x := x) (by omega) (by omega) kt H) ?_
    rintro q w2 ⟨rfl, H⟩
    split
    · rename_i hm
      have hm : may M x = false := by simpa using hm
      rw [if_neg (by rw [hm]; decide)] at htk
      unfold F33_j2
      rw [e1]
      refine ⟨⟨by simp only; omega, by simp only; omega, t', ?_⟩, by simp only; omega⟩
      simp only
      rw [show (i + 1).toNat = i.toNat + 1 from by omega, htk]; exact H
    · rename_i hm
      have hm : may M x = true := by simpa using hm
      rw [if_pos hm] at htk
      refine nwS_st H fun bh w3 H => ?_
      have H := row_new (sz := 3) (m := 0) rfl H
      refine ex_i a ha ?_
      refine ex_i x (k0.tail.rd (fun _ => rfl) ha hx H) ?_
      refine nw_st H fun bx w4 H => ?_
      refine st_st (x := x) 0 H rfl rfl (Nat.le_of_ble_eq_true rfl) fun w5 H => ?_
      have H : St W (cel bx (T79.cells x) 80 :: row T79 80 3 ⟨some ⟨bh, 0, none⟩, 0, 0⟩ ([] : List S79) :: tbo t' M :: row T55 56 2 out outs :: cel br (T27.cells Z27) 28 :: cel bt (T27.cells t') 28 :: l) w5 := H
      refine lp_i (fun p w => 0 ≤ p.2 ∧ p.2 ≤ M.H.length ∧ St W (cel bx (T79.cells ⟨x.Tx, x.Key, x.Write || (M.H.take p.2.toNat).any fun y => same x y && y.Write⟩) 80 :: row T79 80 3 p.1 ((M.H.take p.2.toNat).filter fun y => !same x y) :: tbo t' M :: row T55 56 2 out outs :: cel br (T27.cells Z27) 28 :: cel bt (T27.cells t') 28 :: l) w) (fun p => (M.H.length - p.2).toNat)
        ⟨Int.le_refl 0, by simp only; omega, by simpa using H⟩ ?_
      clear H
      rintro ⟨hs, j⟩ w ⟨j0, j1, H⟩
      simp only at j0 j1 H ⊢
      have kh : ∀ (A B : Assn), Know (A :: B :: tbo t' M :: row T55 56 2 out outs :: cel br (T27.cells Z27) 28 :: cel bt (T27.cells t') 28 :: l) (TbR t' M) := fun A B => kt.tail.tail
      have lH := (Know.tH (kh _ _)).len H
      have hfl : ((M.H.take j.toNat).filter fun y => !same x y).length ≤ M.H.length := Nat.le_trans (List.length_filter_le _ _) (List.length_take_le' _ _)
      unfold F33_l3
      refine ld_st (x := t'.Holds) 5 H rfl rfl rfl ?_
      split
      · rename_i hcj
        have hcj : j < M.H.length := by simp at hcj; omega
        have e2 : IntKind.i64.wrap (j + 1) = j + 1 := wrap_i64 (by omega) (by omega)
        have hy : M.H[j.toNat]? = some M.H[j.toNat] := List.getElem?_eq_getElem (by omega)
        have hty : M.H.take (j.toNat + 1) = M.H.take j.toNat ++ [M.H[j.toNat]] := List.take_succ_eq_append_getElem (by omega)
        generalize M.H[j.toNat] = y at hy hty
        obtain ⟨p, hp⟩ := (Know.tH (kh _ _)).ix (sz := 3) (i := j) H j0 hcj
        refine dr_st H fun w6 H => ?_
        refine ld_st (x := t'.Holds) 5 H rfl rfl rfl ?_
        refine ex_i p hp ?_
        refine ex_i y.Tx ((Know.tH (kh _ _)).fld (fun _ => rfl) hp hy rfl H) ?_
        refine ld_st (x := x.Tx) 0 H rfl rfl rfl ?_
        refine ex_i t'.Holds (fun _ => rdat_cel tSlc (H.front 5) rfl rfl) ?_
        refine ex_i p (fun _ => hp) ?_
        refine ex_i y.Key (fun _ => (Know.tH (kh _ _)).fld (fun _ => rfl) hp hy rfl H) ?_
        refine ex_i x.Key (fun _ => rdat_cel (tInt .i64) H rfl rfl) ?_
        split
        · rename_i hsm
          have hsm : same x y = true := hsm
          refine ld_st (x := x.Write || (M.H.take j.toNat).any fun y => same x y && y.Write) 0 H rfl rfl rfl ?_
          refine ex_i t'.Holds (fun _ => rdat_cel tSlc (H.front 5) rfl rfl) ?_
          refine ex_i p (fun _ => hp) ?_
          refine ex_i y.Write (fun _ => (Know.tH (kh _ _)).fld (fun _ => rfl) hp hy rfl H) ?_
          refine st_st (x := ((x.Write || (M.H.take j.toNat).any fun y => same x y && y.Write) || y.Write)) 0 H rfl rfl (Nat.le_of_ble_eq_true rfl) fun w7 H => ?_
          unfold F33_j4
          rw [e2]
          refine ⟨⟨by simp only; omega, by simp only; omega, ?_⟩, by simp only; omega⟩
          simp only
          rw [show (j + 1).toNat = j.toNat + 1 from by omega, hty, List.any_append, List.filter_append]
          have ea : ([y].any fun y => same x y && y.Write) = y.Write := by simp [hsm]
          have ef : ([y].filter fun y => !same x y) = [] := by simp [hsm]
          rw [ea, ef, List.append_nil, ← Bool.or_assoc]
          exact H
        · rename_i hsm
          have hsm : same x y = false := by
            cases c : same x y with
            | false => rfl
            | true => exact absurd c hsm
          refine ld_st (x := t'.Holds) 5 H rfl rfl rfl ?_
          refine ex_i p hp ?_
          refine ex_i y ((Know.tH (kh _ _)).rd (fun _ => rfl) hp hy H) ?_
          refine apl_row (fun _ => rfl) 1 H rfl (by simp only [List.length_singleton]; omega) fun r w7 H => ?_
          unfold F33_j4
          rw [e2]
          refine ⟨⟨by simp only; omega, by simp only; omega, ?_⟩, by simp only; omega⟩
          simp only
          rw [show (j + 1).toNat = j.toNat + 1 from by omega, hty, List.any_append, List.filter_append]
          have ea : ([y].any fun y => same x y && y.Write) = false := by simp [hsm]
          have ef : ([y].filter fun y => !same x y) = [y] := by simp [hsm]
          rw [ea, ef, Bool.or_false]
          exact H.front 1
      · rename_i hcj
        have hcj : j = M.H.length := by simp at hcj; omega
        subst hcj
        have et : M.H.take ((M.H.length : Int)).toNat = M.H := by simp
        rw [et] at H hfl
        clear j0 j1 hcj et
        have H : St W (cel bx (T79.cells (mrg M.H x)) 80 :: row T79 80 3 hs (M.H.filter fun y => !same x y) :: tbo t' M :: row T55 56 2 out outs :: cel br (T27.cells Z27) 28 :: cel bt (T27.cells t') 28 :: l) w := H
        have hcap := row_cap (H.front 1)
        have H := (row_stay (H.front 1)).front 1
        refine dr_st H fun w6 H => ?_
        refine ld_st (x := mrg M.H x) 0 H rfl rfl (at_all _) ?_
        refine ld_st (x := t'.Waits) 5 H rfl rfl rfl ?_
        refine ld_st (x := x.Tx) 0 H rfl rfl rfl ?_
        refine cl_mono (put_spec (x := mrg M.H x) (by omega) hcap (Know.here (m := RoP.mono)).tail H) ?_
        intro r1 w7 H
        have H := row_stay H
        refine ⟨rdat_cel tSlc (H.front 6) rfl rfl, ?_⟩
        refine ⟨rdat_cel (tInt .i64) (H.front 1) rfl rfl, ?_⟩
        refine cl_mono (without_spec (tx := x.Tx) (by omega) (Know.tW ((kh _ _).tail)) H) ?_
        intro r2 w8 H
        have hcap2 := row_cap H
        have H := row_stay H
        refine ⟨rdat_cel T79 (H.front 2) rfl (at_all _), ?_⟩
        refine st_st (x := r1) 7 H rfl rfl (Nat.le_of_ble_eq_true rfl) fun w9 H => ?_
        refine ⟨rdat_cel (tInt .i64) (H.front 3) rfl rfl, ?_⟩
        refine st_st (x := r2) 0 H rfl rfl (Nat.le_of_ble_eq_true rfl) fun w10 H => ?_
        have H : St W (cel bt (T27.cells ⟨r1, r2, t'.Dead⟩) 28 :: ro T79 r2 (wo M.W x.Tx) :: ro T79 r1 (put (M.H.filter fun y => !same x y) (mrg M.H x)) :: cel bx (T79.cells (mrg M.H x)) 80 :: ro T79 hs (M.H.filter fun y => !same x y) :: tbo t' M :: row T55 56 2 out outs :: cel br (T27.cells Z27) 28 :: l) w10 := H
        refine ld_st (x := x.Tx) 3 H rfl rfl rfl ?_
        refine ld_st (x := x.Key) 3 H rfl rfl rfl ?_
        refine apl_row (fun _ => rfl) 6 H rfl (by simp only [List.length_singleton]; omega) fun r w11 H => ?_
        unfold F33_j2
        rw [e1]
        have H := H.know (φ := TbR ⟨r1, r2, t'.Dead⟩ (grant M x)) (m := TbR.mono) fun I h hl =>
          ⟨⟨(Know.here (m := RoP.mono)).tail.tail.tail I h hl, (Know.here (m := RoP.mono)).tail.tail I h hl, (Know.tD ((Know.here (m := TbR.mono) (φ := TbR t' M)).tail.tail.tail.tail.tail.tail) I h hl)⟩, hcap2⟩
        refine ⟨⟨by simp only; omega, by simp only; omega, ⟨r1, r2, t'.Dead⟩, ?_⟩, by simp only; omega⟩
        simp only
        rw [show (i + 1).toNat = i.toNat + 1 from by omega, htk]
        -- tbo', row, cel bt, ro, ro, cel bx, ro, tbo, cel br
        have H := (H.ord [0, 1, 8, 2])
        exact (((((H.front 4).drop.front 4).drop.front 4).drop.front 4).drop.front 4).drop
  · rename_i hc
    have hc : i = m.W.length := by simp at hc; omega
    subst hc
    have et : m.W.take ((m.W.length : Int)).toNat = m.W := by simp
    rw [et] at H
    refine ld_st (x := t') 3 H rfl rfl (at_all _) ?_
    refine st_st (x := t') 2 H rfl rfl (Nat.le_of_ble_eq_true rfl) fun w4 H => ?_
    have H : St W (cel br (T27.cells t') 28 :: tbo t' (give m.W m).1 :: row T55 56 2 out (give m.W m).2 :: cel bt (T27.cells t') 28 :: l) w4 := H
    refine ld_st (x := t') 0 H rfl rfl (at_all _) ?_
    exact ((((H.drop).ord [1, 0]).front 2).drop)
end
end Go.Proofs.Ytojcgejjdfcaaaa.Locks
