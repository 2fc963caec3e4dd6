/- Contracts of the reference for locks: End, Ask. -/
import Derived.Test.YtojcgejjdfcaaaaLC
namespace Go.Proofs.Ytojcgejjdfcaaaa.Locks
open Go Go.Proofs.Ytojcgejjdfcaaaa.Cf
set_option linter.unusedVariables false
set_option linter.unusedSimpArgs false
set_option maxRecDepth 100000
set_option maxHeartbeats 2000000
section
variable {W w : World} {l : List Assn}
theorem St.pre {w : World} : ∀ (pre : List Assn) {l : List Assn}, St W (pre ++ l) w → St W l w
  | [], _, H => H
  | _ :: pre, _, H => St.pre pre H.drop
theorem St.skip2 {A B : Assn} {w : World} (pre : List Assn) {l : List Assn} (H : St W (A :: B :: (pre ++ l)) w) : St W (A :: B :: l) w := by
  have hp : (A :: B :: (pre ++ l)).Perm (pre ++ (A :: B :: l)) := by
    have := (List.perm_append_comm (l₁ := [A, B]) (l₂ := pre)).append_right l
    rw [List.append_assoc pre] at this
    exact this
  exact St.pre pre (H.perm hp)
theorem ref_end {t : S27} {m : Md} {tx : Int} (h1 : m.H.length ≤ 900) (h2 : m.W.length ≤ 900) (h3 : m.D.length ≤ 100000) (k : Know l (TbR t m)) (H : St W l w) :
    cl Try.prog 16 [T27.enc t, .int .i64 tx] (tTup3 T27 tSlc (tInt .i64)) w fun q w' => q.2.2 = (end_ m tx).2.2 ∧ St W (ro T55 q.2.1 (end_ m tx).2.1 :: tbo q.1 (end_ m tx).1 :: l) w' := by
  have lD := (Know.tD k).len H
  refine F16_ok ?_
  unfold F16
  refine nw_st H fun bt w1 H => ?_
  refine nw_st H fun br w2 H => ?_
  by_cases c : tx < 1
  · rw [if_pos (by simpa using c)]
    refine ld_st (x := t) 1 H rfl rfl (at_all _) ?_
    refine st_st (x := t) 0 H rfl rfl (Nat.le_of_ble_eq_true rfl) fun w3 H => ?_
    have H : St W (cel br (T27.cells t) 28 :: cel bt (T27.cells t) 28 :: l) w3 := H
    refine ld_st (x := t) 0 H rfl rfl (at_all _) ?_
    have e : end_ m tx = (m, [], 130) := by unfold end_; rw [if_pos c]
    rw [e]
    exact ⟨rfl, (H.drop.drop.know (m := TbR.mono) k).ro Know.nil⟩
  · rw [if_neg (by simpa using c)]
    have e : end_ m tx = ((give (ended m tx).W (ended m tx)).1, (give (ended m tx).W (ended m tx)).2, 0) := by unfold end_; rw [if_neg c]
    rw [e]
    refine nwS_st H fun bd w3 H => ?_
    have H := row_new (sz := 1) (m := 0) rfl H
    refine lp_i (fun p w => 0 ≤ p.2 ∧ p.2 ≤ m.D.length ∧ St W (row (tInt .i64) 3 1 p.1 ((m.D.take p.2.toNat).filter (· != tx)) :: cel br (T27.cells Z27) 28 :: cel bt (T27.cells t) 28 :: l) w) (fun p => (m.D.length - p.2).toNat) ⟨Int.le_refl 0, by simp only; omega, H⟩ ?_
    clear H
    rintro ⟨out, i⟩ w ⟨i0, i1, H⟩
    simp only at i0 i1 H ⊢
    have hfl : ((m.D.take i.toNat).filter (· != tx)).length ≤ m.D.length := Nat.le_trans (List.length_filter_le _ _) (List.length_take_le' _ _)
    unfold F16_l1
    refine ld_st (x := t.Dead) 2 H rfl rfl rfl ?_
    split
    · rename_i hc
      have hc : i < m.D.length := by simp at hc; omega
      have e1 : IntKind.i64.wrap (i + 1) = i + 1 := wrap_i64 (by omega) (by omega)
      have hx : m.D[i.toNat]? = some m.D[i.toNat] := List.getElem?_eq_getElem (by omega)
      have htk : m.D.take (i.toNat + 1) = m.D.take i.toNat ++ [m.D[i.toNat]] := List.take_succ_eq_append_getElem (by omega)
      generalize m.D[i.toNat] = x at hx htk
      have kD2 : ∀ A B C : Assn, Know (A :: B :: C :: l) (RoP (tInt .i64) t.Dead m.D) := fun _ _ _ => (Know.tD k).tail.tail.tail
      obtain ⟨a, ha⟩ := (kD2 _ _ _).ix (sz := 1) (i := i) H i0 hc
      refine ld_st (x := t.Dead) 2 H rfl rfl rfl ?_
      refine ex_i a ha ?_
      refine ex_i x ((kD2 _ _ _).rd (fun _ => rfl) ha hx H) ?_
      split
      · rename_i hne
        refine ld_st (x := t.Dead) 2 H rfl rfl rfl ?_
        refine ex_i a ha ?_
        refine ex_i x ((kD2 _ _ _).rd (fun _ => rfl) ha hx H) ?_
        refine apl_row (fun _ => rfl) 0 H rfl (by simp only [List.length_singleton]; omega) fun r w4 H => ?_
        unfold F16_j2
        rw [e1]
        refine ⟨⟨by simp only; omega, by simp only; omega, ?_⟩, by simp only; omega⟩
        simp only
        rw [show (i + 1).toNat = i.toNat + 1 from by omega, htk, List.filter_append, List.filter_cons, if_pos hne]; exact H
      · rename_i hne
        unfold F16_j2
        rw [e1]
        refine ⟨⟨by simp only; omega, by simp only; omega, ?_⟩, by simp only; omega⟩
        simp only
        rw [show (i + 1).toNat = i.toNat + 1 from by omega, htk, List.filter_append, List.filter_cons, if_neg hne, List.filter_nil, List.append_nil]; exact H
    · rename_i hc
      have hc : i = m.D.length := by simp at hc; omega
      subst hc
      have et : m.D.take ((m.D.length : Int)).toNat = m.D := by simp
      rw [et] at H
      have H := row_stay H
      refine dr_st H fun w4 H => ?_
      refine ld_st (x := t.Holds) 2 H rfl rfl rfl ?_
      refine ld_st (x := t.Waits) 2 H rfl rfl rfl ?_
      refine cl_mono (without_spec (tx := tx) (by omega) (Know.tH k).tail.tail.tail H) ?_
      intro r1 w5 H
      have H := row_stay H
      refine ⟨rdat_cel tSlc (H.front 3) rfl rfl, ?_⟩
      refine cl_mono (without_spec (tx := tx) (by omega) (Know.tW k).tail.tail.tail.tail H) ?_
      intro r2 w6 H
      have hcap := row_cap H
      have H := row_stay H
      refine ⟨rdat_cel tSlc (H.front 4) rfl rfl, ?_⟩
      refine st_st (x := r1) 4 H rfl rfl (Nat.le_of_ble_eq_true rfl) fun w7 H => ?_
      refine st_st (x := r2) 0 H rfl rfl (Nat.le_of_ble_eq_true rfl) fun w8 H => ?_
      refine st_st (x := out) 0 H rfl rfl (Nat.le_of_ble_eq_true rfl) fun w9 H => ?_
      have H : St W (cel bt (T27.cells ⟨r1, r2, out⟩) 28 :: ro T79 r2 (wo m.W tx) :: ro T79 r1 (wo m.H tx) :: ro (tInt .i64) out (m.D.filter (· != tx)) :: cel br (T27.cells Z27) 28 :: l) w9 := H
      refine ld_st (x := (⟨r1, r2, out⟩ : S27)) 0 H rfl rfl (at_all _) ?_
      have kt : Know (cel bt (T27.cells ⟨r1, r2, out⟩) 28 :: ro T79 r2 (wo m.W tx) :: ro T79 r1 (wo m.H tx) :: ro (tInt .i64) out (m.D.filter (· != tx)) :: cel br (T27.cells Z27) 28 :: l) (TbR ⟨r1, r2, out⟩ (ended m tx)) := fun I h hl =>
        ⟨⟨(Know.here (m := RoP.mono)).tail.tail I h hl, (Know.here (m := RoP.mono)).tail I h hl, (Know.here (m := RoP.mono)).tail.tail.tail I h hl⟩, hcap⟩
      refine cl_mono (give_spec (m := ended m tx) (Nat.le_trans (wo_len _ _) (by omega)) (Nat.le_trans (wo_len _ _) (by omega)) kt H) ?_
      rintro ⟨t2, gs⟩ w10 H
      have H := row_stay H
      refine st_st (x := t2) 2 H rfl rfl (Nat.le_of_ble_eq_true rfl) fun w11 H => ?_
      have H : St W (cel bt (T27.cells t2) 28 :: ro T55 gs (give (ended m tx).W (ended m tx)).2 :: tbo t2 (give (ended m tx).W (ended m tx)).1 :: ro T79 r2 (wo m.W tx) :: ro T79 r1 (wo m.H tx) :: ro (tInt .i64) out (m.D.filter (· != tx)) :: cel br (T27.cells Z27) 28 :: l) w11 := H
      refine ld_st (x := t2) 0 H rfl rfl (at_all _) ?_
      refine st_st (x := t2) 6 H rfl rfl (Nat.le_of_ble_eq_true rfl) fun w12 H => ?_
      have H : St W (cel br (T27.cells t2) 28 :: cel bt (T27.cells t2) 28 :: ro T55 gs (give (ended m tx).W (ended m tx)).2 :: tbo t2 (give (ended m tx).W (ended m tx)).1 :: ro T79 r2 (wo m.W tx) :: ro T79 r1 (wo m.H tx) :: ro (tInt .i64) out (m.D.filter (· != tx)) :: l) w12 := H
      refine ld_st (x := t2) 0 H rfl rfl (at_all _) ?_
      refine ⟨rfl, ?_⟩
      have H := H.drop.drop
      exact (((((H.front 2).drop.front 2).drop.front 2).drop).ord [1, 0]).ord [1, 0]
/-- An answer as it lies. -/
def AnsR (a : S33) (b : Ans) (I : PMap) : Prop := a.Granted = b.ok ∧ RoP (tInt .i64) a.Wounded b.wo I ∧ RoP T55 a.Woken b.wk I
theorem AnsR.mono {a : S33} {b : Ans} {I I' : PMap} (h : PMap.le I I') : AnsR a b I → AnsR a b I' := fun ⟨h1, h2, h3⟩ => ⟨h1, RoP.mono h h2, RoP.mono h h3⟩
def ansA (a : S33) (b : Ans) : Assn := ever (AnsR a b) AnsR.mono
theorem wounded_len (m : Md) (x : S79) : (wounded m x).length ≤ m.H.length := by unfold wounded; rw [List.length_map]; exact List.length_filter_le _ _
theorem wound_lens : ∀ (L : List Int) (m : Md), (L.foldl wound m).H.length ≤ m.H.length ∧ (L.foldl wound m).W.length ≤ m.W.length ∧ (L.foldl wound m).D.length = m.D.length + L.length
  | [], m => by simp
  | o :: L, m => by
    obtain ⟨h1, h2, h3⟩ := wound_lens L (wound m o)
    have g1 : (wound m o).H.length ≤ m.H.length := wo_len _ _
    have g2 : (wound m o).W.length ≤ m.W.length := wo_len _ _
    have g3 : (wound m o).D.length = m.D.length + 1 := by simp [wound]
    simp only [List.foldl_cons, List.length_cons]
    omega
theorem any_take_false {p : S79 → Bool} {L : List S79} {i : Nat} {x : S79} (hx : L[i]? = some x) (h : ∀ y ∈ L.take i, p y = false) (hp : p x = false) : ∀ y ∈ L.take (i + 1), p y = false := by
  intro y hy
  rw [List.take_add_one, hx] at hy
  rcases List.mem_append.1 hy with hy | hy
  · exact h y hy
  · have : y = x := by simpa using hy
    rw [this]; exact hp
theorem ref_ask {t : S27} {m : Md} {x : S79} (h1 : m.H.length ≤ 800) (h2 : m.W.length ≤ 800) (h3 : m.D.length ≤ 10000) (k : Know l (TbR t m)) (H : St W l w) :
    cl Try.prog 12 [T27.enc t, .int .i64 x.Tx, .int .i64 x.Key, .bool x.Write] (tTup3 T27 T33 (tInt .i64)) w fun q w' => q.2.2 = (ask m x).2.2 ∧ St W (ansA q.2.1 (ask m x).2.1 :: tbo q.1 (ask m x).1 :: l) w' := by
  have lW := (Know.tW k).len H
  have lH := (Know.tH k).len H
  refine F12_ok ?_
  unfold F12
  refine nw_st H fun b5 w1 H => ?_
  refine nw_st H fun b7 w2 H => ?_
  refine nw_st H fun b9 w3 H => ?_
  have H : St W (cel b9 (T33.cells Z33) 34 :: cel b7 (T27.cells Z27) 28 :: cel b5 (T27.cells t) 28 :: l) w3 := H
  -- an answer that refuses, or grants at once
  have quit : ∀ (w : World) (e : Int) (g : Bool), ask m x = (m, ⟨g, [], []⟩, e) → ∀ (l' : List Assn), St W (l' ++ (cel b9 (T33.cells Z33) 34 :: cel b7 (T27.cells Z27) 28 :: cel b5 (T27.cells t) 28 :: l)) w →
      ex (RdAt T27 ⟨b5, 0, none⟩ w) fun x11 => st T27 ⟨b7, 0, none⟩ x11 w fun w12 => st T33 ⟨b9, 0, none⟩ (⟨g, (⟨none, 0, 0⟩ : Slc), (⟨none, 0, 0⟩ : Slc)⟩ : S33) w12 fun w13 =>
        ex (RdAt T27 ⟨b7, 0, none⟩ w13) fun x14 => ex (RdAt T33 ⟨b9, 0, none⟩ w13) fun x15 => (fun (q : S27 × S33 × Int) w' => q.2.2 = (ask m x).2.2 ∧ St W (ansA q.2.1 (ask m x).2.1 :: tbo q.1 (ask m x).1 :: l) w') (x14, x15, e) w13 := by
    intro w e g he l' H
    have H := St.pre l' H
    refine ld_st (x := t) 2 H rfl rfl (at_all _) ?_
    refine st_st (x := t) 1 H rfl rfl (Nat.le_of_ble_eq_true rfl) fun w3 H => ?_
    refine st_st (x := (⟨g, nilS, nilS⟩ : S33)) 1 H rfl rfl (Nat.le_of_ble_eq_true rfl) fun w4 H => ?_
    have H : St W (cel b9 (T33.cells ⟨g, nilS, nilS⟩) 34 :: cel b7 (T27.cells t) 28 :: cel b5 (T27.cells t) 28 :: l) w4 := H
    refine ld_st (x := t) 1 H rfl rfl (at_all _) ?_
    refine ld_st (x := (⟨g, nilS, nilS⟩ : S33)) 0 H rfl rfl (at_all _) ?_
    rw [he]
    refine ⟨rfl, ?_⟩
    have H := H.drop.drop.drop.know (m := TbR.mono) k
    exact H.know (m := AnsR.mono) fun I h hl => ⟨rfl, Know.nil I h hl, Know.nil I h hl⟩
  by_cases c1 : x.Tx < 1
  · rw [if_pos (by simpa using c1)]
    exact quit w3 130 false (by unfold ask askE; rw [if_pos c1, if_pos (by decide)]) [] H
  rw [if_neg (by simpa using c1)]
  by_cases c2 : x.Key < 0 ∨ x.Key > 8191
  · rw [if_pos (by simpa using c2)]
    exact quit w3 131 false (by unfold ask askE; rw [if_neg c1, if_pos c2, if_pos (by decide)]) [] H
  rw [if_neg (by simpa using c2)]
  refine ld_st (x := t.Dead) 2 H rfl rfl rfl ?_
  refine cl_mono (in_spec (n := x.Tx) (by omega) (Know.tD k).tail.tail.tail H) ?_
  rintro q w4 ⟨rfl, H⟩
  by_cases c3 : (m.D.any fun y => y == x.Tx) = true
  · rw [if_pos c3]
    exact quit w4 132 false (by unfold ask askE; rw [if_neg c1, if_neg c2, if_pos c3, if_pos (by decide)]) [] H
  rw [if_neg c3]
  refine lp_i (fun i w => 0 ≤ i ∧ i ≤ m.W.length ∧ (∀ y ∈ m.W.take i.toNat, (y.Tx == x.Tx) = false) ∧ St W (cel b9 (T33.cells Z33) 34 :: cel b7 (T27.cells Z27) 28 :: cel b5 (T27.cells t) 28 :: l) w) (fun i => (m.W.length - i).toNat) ⟨Int.le_refl 0, by omega, by simp, H⟩ ?_
  clear H
  rintro i w ⟨i0, i1, i2, H⟩
  have kW : ∀ A B C : Assn, Know (A :: B :: C :: l) (RoP T79 t.Waits m.W) := fun _ _ _ => (Know.tW k).tail.tail.tail
  unfold F12_l1
  refine ld_st (x := t.Waits) 2 H rfl rfl rfl ?_
  split
  · rename_i hc
    have hc : i < m.W.length := by simp at hc; omega
    have e1 : IntKind.i64.wrap (i + 1) = i + 1 := wrap_i64 (by omega) (by omega)
    have hy : m.W[i.toNat]? = some m.W[i.toNat] := List.getElem?_eq_getElem (by omega)
    generalize m.W[i.toNat] = y at hy
    obtain ⟨a, ha⟩ := (kW _ _ _).ix (sz := 3) (i := i) H i0 hc
    refine ld_st (x := t.Waits) 2 H rfl rfl rfl ?_
    refine ex_i a ha ?_
    refine ex_i y.Tx ((kW _ _ _).fld (fun _ => rfl) ha hy rfl H) ?_
    split
    · rename_i hk
      have c4 : (m.W.any fun y => y.Tx == x.Tx) = true := List.any_eq_true.2 ⟨y, List.mem_of_getElem? hy, hk⟩
      exact quit w 133 false (by unfold ask askE; rw [if_neg c1, if_neg c2, if_neg c3, if_pos c4, if_pos (by decide)]) [] H
    · rename_i hk
      rw [e1]
      refine ⟨⟨by omega, by omega, ?_, H⟩, by omega⟩
      rw [show (i + 1).toNat = i.toNat + 1 from by omega]
      exact any_take_false hy i2 (by simpa using hk)
  · rename_i hc
    have hc : i = m.W.length := by simp at hc; omega
    subst hc
    have et : m.W.take ((m.W.length : Int)).toNat = m.W := by simp
    rw [et] at i2
    have c4 : ¬ (m.W.any fun y => y.Tx == x.Tx) = true := by
      rw [List.any_eq_true]; rintro ⟨y, hy, h⟩; rw [i2 y hy] at h; cases h
    have hE : askE m x = 0 := by unfold askE; rw [if_neg c1, if_neg c2, if_neg c3, if_neg c4]
    clear i0 i1 hc et i2
    refine nw_st H fun b42 w5 H => ?_
    refine st_st (x := x) 0 H rfl rfl (Nat.le_of_ble_eq_true rfl) fun w6 H => ?_
    refine nw_st H fun b45 w7 H => ?_
    refine st_st (x := (⟨false, nilS, nilS⟩ : S33)) 0 H rfl rfl (Nat.le_of_ble_eq_true rfl) fun w8 H => ?_
    have H := row_nil (tInt .i64) 3 1 H
    have H : St W (row (tInt .i64) 3 1 nilS ([] : List Int) :: cel b45 (T33.cells ⟨false, nilS, nilS⟩) 34 :: cel b42 (T79.cells x) 80 :: cel b9 (T33.cells Z33) 34 :: cel b7 (T27.cells Z27) 28 :: cel b5 (T27.cells t) 28 :: l) w8 := H
    refine lp_i (fun i w => 0 ≤ i ∧ i ≤ m.H.length ∧ (∀ y ∈ m.H.take i.toNat, (((y.Key == x.Key) && (y.Tx == x.Tx)) && (y.Write || !x.Write)) = false) ∧ ∃ ws, St W (row (tInt .i64) 3 1 ws (wounded ⟨m.H.take i.toNat, m.W, m.D⟩ x) :: cel b45 (T33.cells ⟨false, ws, nilS⟩) 34 :: cel b42 (T79.cells x) 80 :: cel b9 (T33.cells Z33) 34 :: cel b7 (T27.cells Z27) 28 :: cel b5 (T27.cells t) 28 :: l) w) (fun i => (m.H.length - i).toNat)
      ⟨Int.le_refl 0, by omega, by simp, nilS, H⟩ ?_
    clear H
    rintro i w ⟨i0, i1, i2, ws, H⟩
    have kH : ∀ A B C D E F : Assn, Know (A :: B :: C :: D :: E :: F :: l) (RoP T79 t.Holds m.H) := fun _ _ _ _ _ _ => (Know.tH k).tail.tail.tail.tail.tail.tail
    have hwl : (wounded ⟨m.H.take i.toNat, m.W, m.D⟩ x).length ≤ m.H.length := Nat.le_trans (wounded_len _ _) (List.length_take_le' _ _)
    unfold F12_l2
    refine ld_st (x := t.Holds) 5 H rfl rfl rfl ?_
    split
    · rename_i hc
      have hc : i < m.H.length := by simp at hc; omega
      have e1 : IntKind.i64.wrap (i + 1) = i + 1 := wrap_i64 (by omega) (by omega)
      have hy : m.H[i.toNat]? = some m.H[i.toNat] := List.getElem?_eq_getElem (by omega)
      have hty : m.H.take (i.toNat + 1) = m.H.take i.toNat ++ [m.H[i.toNat]] := List.take_succ_eq_append_getElem (by omega)
      generalize m.H[i.toNat] = y at hy hty
      obtain ⟨a, ha⟩ := (kH _ _ _ _ _ _).ix (sz := 3) (i := i) H i0 hc
      refine ld_st (x := t.Holds) 5 H rfl rfl rfl ?_
      refine ex_i a ha ?_
      refine ex_i y ((kH _ _ _ _ _ _).rd (fun _ => rfl) ha hy H) ?_
      refine nw_st H fun b56 w9 H => ?_
      refine st_st (x := y) 0 H rfl rfl (Nat.le_of_ble_eq_true rfl) fun w10 H => ?_
      have H : St W (cel b56 (T79.cells y) 80 :: row (tInt .i64) 3 1 ws (wounded ⟨m.H.take i.toNat, m.W, m.D⟩ x) :: cel b45 (T33.cells ⟨false, ws, nilS⟩) 34 :: cel b42 (T79.cells x) 80 :: cel b9 (T33.cells Z33) 34 :: cel b7 (T27.cells Z27) 28 :: cel b5 (T27.cells t) 28 :: l) w10 := H
      refine ld_st (x := y.Key) 0 H rfl rfl rfl ?_
      refine ex_i y.Tx (fun _ => rdat_cel (tInt .i64) H rfl rfl) ?_
      refine ex_i y.Write (fun _ => rdat_cel tBool H rfl rfl) ?_
      split
      · rename_i hh
        have hhas : has m x = true := List.any_eq_true.2 ⟨y, List.mem_of_getElem? hy, hh⟩
        exact quit w10 0 true (by unfold ask; rw [hE, if_neg (by simp), if_pos hhas]) [_, _, _, _] H
      · rename_i hh
        have hh : (((y.Key == x.Key) && (y.Tx == x.Tx)) && (y.Write || !x.Write)) = false := by simpa only [Bool.not_eq_true] using hh
        refine ld_st (x := y.Key) 0 H rfl rfl rfl ?_
        refine ex_i y.Tx (fun _ => rdat_cel (tInt .i64) H rfl rfl) ?_
        have hwt : wounded ⟨m.H.take (i.toNat + 1), m.W, m.D⟩ x = wounded ⟨m.H.take i.toNat, m.W, m.D⟩ x ++ if (((y.Key == x.Key) && decide (y.Tx > x.Tx)) && !tog x y) = true then [y.Tx] else [] := by
          unfold wounded
          simp only
          rw [hty, List.filter_append, List.map_append, List.filter_cons, List.filter_nil]
          split <;> rfl
        have tail : ∀ (g : Bool) (w : World), g = (((y.Key == x.Key) && decide (y.Tx > x.Tx)) && !tog x y) → St W (cel b56 (T79.cells y) 80 :: row (tInt .i64) 3 1 ws (wounded ⟨m.H.take i.toNat, m.W, m.D⟩ x) :: cel b45 (T33.cells ⟨false, ws, nilS⟩) 34 :: cel b42 (T79.cells x) 80 :: cel b9 (T33.cells Z33) 34 :: cel b7 (T27.cells Z27) 28 :: cel b5 (T27.cells t) 28 :: l) w →
            F12_j4 ⟨b45, 0, none⟩ i ⟨b56, 0, none⟩ g w (fun s' w' => (0 ≤ s' ∧ s' ≤ m.H.length ∧ (∀ y ∈ m.H.take s'.toNat, (((y.Key == x.Key) && (y.Tx == x.Tx)) && (y.Write || !x.Write)) = false) ∧ ∃ ws, St W (row (tInt .i64) 3 1 ws (wounded ⟨m.H.take s'.toNat, m.W, m.D⟩ x) :: cel b45 (T33.cells ⟨false, ws, nilS⟩) 34 :: cel b42 (T79.cells x) 80 :: cel b9 (T33.cells Z33) 34 :: cel b7 (T27.cells Z27) 28 :: cel b5 (T27.cells t) 28 :: l) w') ∧ (m.H.length - s').toNat < (m.H.length - i).toNat) (fun q w' => q.2.2 = (ask m x).2.2 ∧ St W (ansA q.2.1 (ask m x).2.1 :: tbo q.1 (ask m x).1 :: l) w') := by
          intro g w hg H
          unfold F12_j4
          split
          · rename_i hgt
            rw [← hg, if_pos hgt] at hwt
            refine ld_st (x := ws) 2 H rfl rfl rfl ?_
            refine ld_st (x := y.Tx) 0 H rfl rfl rfl ?_
            refine apl_row (fun _ => rfl) 1 H rfl (by simp only [List.length_singleton]; omega) fun r w11 H => ?_
            refine st_st (x := r) 2 H rfl rfl (Nat.le_of_ble_eq_true rfl) fun w12 H => ?_
            unfold F12_j3
            rw [e1]
            refine ⟨⟨by omega, by omega, ?_, r, ?_⟩, by omega⟩
            · rw [show (i + 1).toNat = i.toNat + 1 from by omega]
              exact any_take_false hy i2 hh
            · rw [show (i + 1).toNat = i.toNat + 1 from by omega, hwt]
              exact ((H.front 2).drop).front 1
          · rename_i hgt
            rw [← hg, if_neg hgt, List.append_nil] at hwt
            unfold F12_j3
            rw [e1]
            refine ⟨⟨by omega, by omega, ?_, ws, ?_⟩, by omega⟩
            · rw [show (i + 1).toNat = i.toNat + 1 from by omega]
              exact any_take_false hy i2 hh
            · rw [show (i + 1).toNat = i.toNat + 1 from by omega, hwt]
              exact H.drop
        split
        · rename_i hk
          refine ld_st (x := x) 3 H rfl rfl (at_all _) ?_
          refine ld_st (x := y) 0 H rfl rfl (at_all _) ?_
          refine cl_mono (tog_spec H x y) ?_
          rintro g w11 ⟨rfl, H⟩
          exact tail _ _ (by rw [hk]; rfl) H
        · rename_i hk
          exact tail false _ (by simp only [Bool.not_eq_true] at hk; rw [hk]; rfl) H
    · rename_i hc
      have hc : i = m.H.length := by simp at hc; omega
      subst hc
      have et : m.H.take ((m.H.length : Int)).toNat = m.H := by simp
      rw [et] at H i2 hwl
      have hmm : (⟨m.H, m.W, m.D⟩ : Md) = m := rfl
      rw [hmm] at H hwl
      have hhas : ¬ has m x = true := by
        unfold has; rw [List.any_eq_true]; rintro ⟨y, hy, h⟩; rw [i2 y hy] at h; cases h
      have hask : ask m x = ((give (asked m x).W (asked m x)).1, ⟨(give (asked m x).W (asked m x)).2.any (fun g => g.Tx == x.Tx), wounded m x, (give (asked m x).W (asked m x)).2.filter fun g => g.Tx != x.Tx⟩, 0) := by
        unfold ask; rw [hE, if_neg (by simp), if_neg hhas]
      rw [hask]
      clear i0 i1 hc et i2 quit
      refine ld_st (x := ws) 1 H rfl rfl rfl ?_
      have H := row_stay H
      have H := (H.front 5).know (m := TbR.mono) k.tail.tail.tail.tail.tail.tail
      have H : St W (cel b5 (T27.cells t) 28 :: tbo t m :: ro (tInt .i64) ws (wounded m x) :: cel b45 (T33.cells ⟨false, ws, nilS⟩) 34 :: cel b42 (T79.cells x) 80 :: cel b9 (T33.cells Z33) 34 :: cel b7 (T27.cells Z27) 28 :: l) w := H.front 1
      refine lp_i (fun i w => 0 ≤ i ∧ i ≤ (wounded m x).length ∧ ∃ t', St W (cel b5 (T27.cells t') 28 :: tbo t' (((wounded m x).take i.toNat).foldl wound m) :: ro (tInt .i64) ws (wounded m x) :: cel b45 (T33.cells ⟨false, ws, nilS⟩) 34 :: cel b42 (T79.cells x) 80 :: cel b9 (T33.cells Z33) 34 :: cel b7 (T27.cells Z27) 28 :: l) w) (fun i => ((wounded m x).length - i).toNat)
        ⟨Int.le_refl 0, by omega, t, H⟩ ?_
      clear H
      rintro i w ⟨i0, i1, t', H⟩
      have hls := wound_lens ((wounded m x).take i.toNat) m
      have htl : ((wounded m x).take i.toNat).length ≤ (wounded m x).length := List.length_take_le' _ _
      have lws : ws.len = (wounded m x).length := ro_len (H.front 2)
      unfold F12_l5
      split
      · rename_i hc
        have hc : i < (wounded m x).length := by simp at hc; omega
        have e1 : IntKind.i64.wrap (i + 1) = i + 1 := wrap_i64 (by omega) (by omega)
        have hy : (wounded m x)[i.toNat]? = some (wounded m x)[i.toNat] := List.getElem?_eq_getElem (by omega)
        have hfo : ((wounded m x).take (i.toNat + 1)).foldl wound m = wound (((wounded m x).take i.toNat).foldl wound m) (wounded m x)[i.toNat] := by
          rw [List.take_succ_eq_append_getElem (by omega), List.foldl_append]; rfl
        generalize (wounded m x)[i.toNat] = o at hy hfo
        generalize hM : ((wounded m x).take i.toNat).foldl wound m = M at H hls hfo
        have kws : ∀ A B : Assn, Know (A :: B :: ro (tInt .i64) ws (wounded m x) :: cel b45 (T33.cells ⟨false, ws, nilS⟩) 34 :: cel b42 (T79.cells x) 80 :: cel b9 (T33.cells Z33) 34 :: cel b7 (T27.cells Z27) 28 :: l) (RoP (tInt .i64) ws (wounded m x)) := fun _ _ => (Know.here (m := RoP.mono)).tail.tail
        obtain ⟨a, ha⟩ := (kws _ _).ix (sz := 1) (i := i) H i0 hc
        refine ex_i a ha ?_
        refine ex_i o ((kws _ _).rd (fun _ => rfl) ha hy H) ?_
        refine dr_st H fun w9 H => ?_
        refine ld_st (x := t'.Holds) 0 H rfl rfl rfl ?_
        refine ld_st (x := t'.Waits) 0 H rfl rfl rfl ?_
        refine ld_st (x := t'.Dead) 0 H rfl rfl rfl ?_
        have hH : M.H.length ≤ 10000 := by omega
        have hW : M.W.length ≤ 10000 := by omega
        have hb1 : (([] : List Int).length + M.D.length) * 8 ≤ 140737488355328 := by simp only [List.length_nil]; omega
        have hb2 : (([] ++ M.D : List Int).length + [o].length) * 8 ≤ 140737488355328 := by simp only [List.nil_append, List.length_singleton]; omega
        have fin : ∀ (r1 r2 r3 : Slc) (pre : List Assn) (w : World), r2.len ≤ r2.cap →
            Know (cel b5 (T27.cells ⟨r1, r2, r3⟩) 28 :: (pre ++ (tbo t' M :: ro (tInt .i64) ws (wounded m x) :: cel b45 (T33.cells ⟨false, ws, nilS⟩) 34 :: cel b42 (T79.cells x) 80 :: cel b9 (T33.cells Z33) 34 :: cel b7 (T27.cells Z27) 28 :: l))) (RoP T79 r1 (wo M.H o)) →
            Know (cel b5 (T27.cells ⟨r1, r2, r3⟩) 28 :: (pre ++ (tbo t' M :: ro (tInt .i64) ws (wounded m x) :: cel b45 (T33.cells ⟨false, ws, nilS⟩) 34 :: cel b42 (T79.cells x) 80 :: cel b9 (T33.cells Z33) 34 :: cel b7 (T27.cells Z27) 28 :: l))) (RoP T79 r2 (wo M.W o)) →
            Know (cel b5 (T27.cells ⟨r1, r2, r3⟩) 28 :: (pre ++ (tbo t' M :: ro (tInt .i64) ws (wounded m x) :: cel b45 (T33.cells ⟨false, ws, nilS⟩) 34 :: cel b42 (T79.cells x) 80 :: cel b9 (T33.cells Z33) 34 :: cel b7 (T27.cells Z27) 28 :: l))) (RoP (tInt .i64) r3 ([] ++ M.D ++ [o])) →
            St W (cel b5 (T27.cells ⟨r1, r2, r3⟩) 28 :: (pre ++ (tbo t' M :: ro (tInt .i64) ws (wounded m x) :: cel b45 (T33.cells ⟨false, ws, nilS⟩) 34 :: cel b42 (T79.cells x) 80 :: cel b9 (T33.cells Z33) 34 :: cel b7 (T27.cells Z27) 28 :: l))) w →
            F12_j6 i w (fun s' w' => (0 ≤ s' ∧ s' ≤ (wounded m x).length ∧ ∃ t', St W (cel b5 (T27.cells t') 28 :: tbo t' (((wounded m x).take s'.toNat).foldl wound m) :: ro (tInt .i64) ws (wounded m x) :: cel b45 (T33.cells ⟨false, ws, nilS⟩) 34 :: cel b42 (T79.cells x) 80 :: cel b9 (T33.cells Z33) 34 :: cel b7 (T27.cells Z27) 28 :: l) w') ∧ ((wounded m x).length - s').toNat < ((wounded m x).length - i).toNat) (fun q w' => q.2.2 = (0 : Int) ∧ St W (ansA q.2.1 ⟨(give (asked m x).W (asked m x)).2.any (fun g => g.Tx == x.Tx), wounded m x, (give (asked m x).W (asked m x)).2.filter fun g => g.Tx != x.Tx⟩ :: tbo q.1 (give (asked m x).W (asked m x)).1 :: l) w') := by
          intro r1 r2 r3 pre w hcap k1 k2 k3 H
          unfold F12_j6
          rw [e1]
          refine ⟨⟨by omega, by omega, ⟨r1, r2, r3⟩, ?_⟩, by omega⟩
          rw [show (i + 1).toNat = i.toNat + 1 from by omega, hfo]
          have H := H.know (φ := TbR ⟨r1, r2, r3⟩ (wound M o)) (m := TbR.mono) fun I h hl => ⟨⟨k1 I h hl, k2 I h hl, k3 I h hl⟩, hcap⟩
          have H := St.skip2 pre H
          exact (((H.front 2).drop).front 1)
        have kC : Know (cel b5 (T27.cells t') 28 :: tbo t' M :: ro (tInt .i64) ws (wounded m x) :: cel b45 (T33.cells ⟨false, ws, nilS⟩) 34 :: cel b42 (T79.cells x) 80 :: cel b9 (T33.cells Z33) 34 :: cel b7 (T27.cells Z27) 28 :: l) (TbR t' M) := (Know.here (m := TbR.mono)).tail
        refine ⟨?_, ?_⟩
        · refine cl_mono (without_spec (tx := o) hH (Know.tH kC) H) ?_
          intro r97 w96 H
          have hr97 := row_cap H
          have H := row_stay H
          refine ⟨rdat_cel tSlc (H.front 1) rfl rfl, ?_⟩
          refine ⟨rdat_cel tSlc (H.front 1) rfl rfl, ?_⟩
          refine ⟨?_, ?_⟩
          · refine cl_mono (without_spec (tx := o) hW (Know.tW kC.tail) H) ?_
            intro r101 w100 H
            have hr101 := row_cap H
            have H := row_stay H
            refine ⟨rdat_cel tSlc (H.front 2) rfl rfl, ?_⟩
            refine ⟨rdat_cel tSlc (H.front 2) rfl rfl, ?_⟩
            refine ⟨?_, ?_⟩
            · refine nwS_st H fun a104 w105 H => ?_
              have H := row_new (sz := 1) (m := 0) rfl H
              refine ⟨?_, ?_⟩
              · refine apd_row (fun _ => rfl) 0 H rfl ((Know.tD kC.tail.tail.tail).rdS H) hb1 fun r107 w106 H => ?_
                refine ⟨rdat_cel tSlc (H.front 3) rfl rfl, ?_⟩
                refine ⟨rdat_cel tSlc (H.front 3) rfl rfl, ?_⟩
                refine apl_row (fun _ => rfl) 0 H rfl hb2 fun r113 w112 H => ?_
                refine ⟨rdat_cel tSlc (H.front 3) rfl rfl, ?_⟩
                refine ⟨rdat_cel tSlc (H.front 3) rfl rfl, ?_⟩
                refine ⟨rdat_cel tSlc (H.front 3) rfl rfl, ?_⟩
                have H := row_stay H
                refine st_st (x := r97) 3 H rfl rfl (Nat.le_of_ble_eq_true rfl) fun _ H => ?_
                refine st_st (x := r101) 0 H rfl rfl (Nat.le_of_ble_eq_true rfl) fun _ H => ?_
                refine st_st (x := r113) 0 H rfl rfl (Nat.le_of_ble_eq_true rfl) fun _ H => ?_
                exact fin r97 r101 r113 [_, _, _] _ hr101 (Know.here (m := RoP.mono)).tail.tail.tail (Know.here (m := RoP.mono)).tail.tail (Know.here (m := RoP.mono)).tail H
              · refine nwS_st H fun a120 w121 H => ?_
                have H := row_stay (row_new (sz := 1) (m := 1) rfl H)
                refine apd_row (fun _ => rfl) 1 H rfl ((Know.tD kC.tail.tail.tail.tail).rdS H) hb1 fun r123 w122 H => ?_
                refine ⟨rdat_cel tSlc (H.front 4) rfl rfl, ?_⟩
                refine ⟨rdat_cel tSlc (H.front 4) rfl rfl, ?_⟩
                refine apd_row (fun _ => rfl) 0 H rfl (Know.rdS ((Know.here (m := RoP.mono)).tail) H) hb2 fun r127 w126 H => ?_
                refine ⟨rdat_cel tSlc (H.front 4) rfl rfl, ?_⟩
                refine ⟨rdat_cel tSlc (H.front 4) rfl rfl, ?_⟩
                refine ⟨rdat_cel tSlc (H.front 4) rfl rfl, ?_⟩
                have H := row_stay H
                refine st_st (x := r97) 4 H rfl rfl (Nat.le_of_ble_eq_true rfl) fun _ H => ?_
                refine st_st (x := r101) 0 H rfl rfl (Nat.le_of_ble_eq_true rfl) fun _ H => ?_
                refine st_st (x := r127) 0 H rfl rfl (Nat.le_of_ble_eq_true rfl) fun _ H => ?_
                exact fin r97 r101 r127 [_, _, _, _] _ hr101 (Know.here (m := RoP.mono)).tail.tail.tail.tail (Know.here (m := RoP.mono)).tail.tail.tail (Know.here (m := RoP.mono)).tail H
            · refine nwS_st H fun a134 w135 H => ?_
              have H := row_stay (row_new (sz := 1) (m := 1) rfl H)
              refine nwS_st H fun a136 w137 H => ?_
              have H := row_new (sz := 1) (m := 0) rfl H
              refine apd_row (fun _ => rfl) 0 H rfl ((Know.tD kC.tail.tail.tail.tail).rdS H) hb1 fun r139 w138 H => ?_
              refine ⟨rdat_cel tSlc (H.front 4) rfl rfl, ?_⟩
              refine ⟨rdat_cel tSlc (H.front 4) rfl rfl, ?_⟩
              refine apd_row (fun _ => rfl) 0 H rfl (Know.rdS ((Know.here (m := RoP.mono)).tail) H) hb2 fun r143 w142 H => ?_
              refine ⟨rdat_cel tSlc (H.front 4) rfl rfl, ?_⟩
              refine ⟨rdat_cel tSlc (H.front 4) rfl rfl, ?_⟩
              refine ⟨rdat_cel tSlc (H.front 4) rfl rfl, ?_⟩
              have H := row_stay H
              refine st_st (x := r97) 4 H rfl rfl (Nat.le_of_ble_eq_true rfl) fun _ H => ?_
              refine st_st (x := r101) 0 H rfl rfl (Nat.le_of_ble_eq_true rfl) fun _ H => ?_
              refine st_st (x := r143) 0 H rfl rfl (Nat.le_of_ble_eq_true rfl) fun _ H => ?_
              exact fin r97 r101 r143 [_, _, _, _] _ hr101 (Know.here (m := RoP.mono)).tail.tail.tail.tail (Know.here (m := RoP.mono)).tail.tail.tail (Know.here (m := RoP.mono)).tail H
          · refine ⟨?_, ?_⟩
            · refine nwS_st H fun a150 w151 H => ?_
              have H := row_new (sz := 1) (m := 0) rfl H
              refine ⟨?_, ?_⟩
              · refine cl_mono (without_spec (tx := o) hW (Know.tW kC.tail.tail) H) ?_
                intro r153 w152 H
                have hr153 := row_cap H
                have H := row_stay H
                refine ⟨rdat_cel tSlc (H.front 3) rfl rfl, ?_⟩
                refine ⟨rdat_cel tSlc (H.front 3) rfl rfl, ?_⟩
                refine ⟨?_, ?_⟩
                · refine apd_row (fun _ => rfl) 1 H rfl ((Know.tD kC.tail.tail.tail).rdS H) hb1 fun r157 w156 H => ?_
                  refine ⟨rdat_cel tSlc (H.front 3) rfl rfl, ?_⟩
                  refine ⟨rdat_cel tSlc (H.front 3) rfl rfl, ?_⟩
                  refine apl_row (fun _ => rfl) 0 H rfl hb2 fun r163 w162 H => ?_
                  refine ⟨rdat_cel tSlc (H.front 3) rfl rfl, ?_⟩
                  refine ⟨rdat_cel tSlc (H.front 3) rfl rfl, ?_⟩
                  refine ⟨rdat_cel tSlc (H.front 3) rfl rfl, ?_⟩
                  have H := row_stay H
                  refine st_st (x := r97) 3 H rfl rfl (Nat.le_of_ble_eq_true rfl) fun _ H => ?_
                  refine st_st (x := r153) 0 H rfl rfl (Nat.le_of_ble_eq_true rfl) fun _ H => ?_
                  refine st_st (x := r163) 0 H rfl rfl (Nat.le_of_ble_eq_true rfl) fun _ H => ?_
                  exact fin r97 r153 r163 [_, _, _] _ hr153 (Know.here (m := RoP.mono)).tail.tail.tail (Know.here (m := RoP.mono)).tail.tail (Know.here (m := RoP.mono)).tail H
                · refine nwS_st H fun a170 w171 H => ?_
                  have H := row_stay (row_new (sz := 1) (m := 1) rfl H)
                  refine apd_row (fun _ => rfl) 2 H rfl ((Know.tD kC.tail.tail.tail.tail).rdS H) hb1 fun r173 w172 H => ?_
                  refine ⟨rdat_cel tSlc (H.front 4) rfl rfl, ?_⟩
                  refine ⟨rdat_cel tSlc (H.front 4) rfl rfl, ?_⟩
                  refine apd_row (fun _ => rfl) 0 H rfl (Know.rdS ((Know.here (m := RoP.mono)).tail) H) hb2 fun r177 w176 H => ?_
                  refine ⟨rdat_cel tSlc (H.front 4) rfl rfl, ?_⟩
                  refine ⟨rdat_cel tSlc (H.front 4) rfl rfl, ?_⟩
                  refine ⟨rdat_cel tSlc (H.front 4) rfl rfl, ?_⟩
                  have H := row_stay H
                  refine st_st (x := r97) 4 H rfl rfl (Nat.le_of_ble_eq_true rfl) fun _ H => ?_
                  refine st_st (x := r153) 0 H rfl rfl (Nat.le_of_ble_eq_true rfl) fun _ H => ?_
                  refine st_st (x := r177) 0 H rfl rfl (Nat.le_of_ble_eq_true rfl) fun _ H => ?_
                  exact fin r97 r153 r177 [_, _, _, _] _ hr153 (Know.here (m := RoP.mono)).tail.tail.tail.tail (Know.here (m := RoP.mono)).tail.tail.tail (Know.here (m := RoP.mono)).tail H
              · refine nwS_st H fun a184 w185 H => ?_
                have H := row_stay (row_new (sz := 1) (m := 1) rfl H)
                refine cl_mono (without_spec (tx := o) hW (Know.tW kC.tail.tail.tail) H) ?_
                intro r187 w186 H
                have hr187 := row_cap H
                have H := row_stay H
                refine ⟨rdat_cel tSlc (H.front 4) rfl rfl, ?_⟩
                refine ⟨rdat_cel tSlc (H.front 4) rfl rfl, ?_⟩
                refine apd_row (fun _ => rfl) 2 H rfl ((Know.tD kC.tail.tail.tail.tail).rdS H) hb1 fun r191 w190 H => ?_
                refine ⟨rdat_cel tSlc (H.front 4) rfl rfl, ?_⟩
                refine ⟨rdat_cel tSlc (H.front 4) rfl rfl, ?_⟩
                refine apd_row (fun _ => rfl) 0 H rfl (Know.rdS ((Know.here (m := RoP.mono)).tail.tail) H) hb2 fun r195 w194 H => ?_
                refine ⟨rdat_cel tSlc (H.front 4) rfl rfl, ?_⟩
                refine ⟨rdat_cel tSlc (H.front 4) rfl rfl, ?_⟩
                refine ⟨rdat_cel tSlc (H.front 4) rfl rfl, ?_⟩
                have H := row_stay H
                refine st_st (x := r97) 4 H rfl rfl (Nat.le_of_ble_eq_true rfl) fun _ H => ?_
                refine st_st (x := r187) 0 H rfl rfl (Nat.le_of_ble_eq_true rfl) fun _ H => ?_
                refine st_st (x := r195) 0 H rfl rfl (Nat.le_of_ble_eq_true rfl) fun _ H => ?_
                exact fin r97 r187 r195 [_, _, _, _] _ hr187 (Know.here (m := RoP.mono)).tail.tail.tail.tail (Know.here (m := RoP.mono)).tail.tail (Know.here (m := RoP.mono)).tail H
            · refine nwS_st H fun a202 w203 H => ?_
              have H := row_stay (row_new (sz := 1) (m := 1) rfl H)
              refine ⟨?_, ?_⟩
              · refine cl_mono (without_spec (tx := o) hW (Know.tW kC.tail.tail) H) ?_
                intro r205 w204 H
                have hr205 := row_cap H
                have H := row_stay H
                refine ⟨rdat_cel tSlc (H.front 3) rfl rfl, ?_⟩
                refine ⟨rdat_cel tSlc (H.front 3) rfl rfl, ?_⟩
                refine nwS_st H fun a208 w209 H => ?_
                have H := row_new (sz := 1) (m := 0) rfl H
                refine apd_row (fun _ => rfl) 0 H rfl ((Know.tD kC.tail.tail.tail.tail).rdS H) hb1 fun r211 w210 H => ?_
                refine ⟨rdat_cel tSlc (H.front 4) rfl rfl, ?_⟩
                refine ⟨rdat_cel tSlc (H.front 4) rfl rfl, ?_⟩
                refine apd_row (fun _ => rfl) 0 H rfl (Know.rdS ((Know.here (m := RoP.mono)).tail.tail) H) hb2 fun r215 w214 H => ?_
                refine ⟨rdat_cel tSlc (H.front 4) rfl rfl, ?_⟩
                refine ⟨rdat_cel tSlc (H.front 4) rfl rfl, ?_⟩
                refine ⟨rdat_cel tSlc (H.front 4) rfl rfl, ?_⟩
                have H := row_stay H
                refine st_st (x := r97) 4 H rfl rfl (Nat.le_of_ble_eq_true rfl) fun _ H => ?_
                refine st_st (x := r205) 0 H rfl rfl (Nat.le_of_ble_eq_true rfl) fun _ H => ?_
                refine st_st (x := r215) 0 H rfl rfl (Nat.le_of_ble_eq_true rfl) fun _ H => ?_
                exact fin r97 r205 r215 [_, _, _, _] _ hr205 (Know.here (m := RoP.mono)).tail.tail.tail.tail (Know.here (m := RoP.mono)).tail.tail (Know.here (m := RoP.mono)).tail H
              · refine nwS_st H fun a222 w223 H => ?_
                have H := row_new (sz := 1) (m := 0) rfl H
                refine cl_mono (without_spec (tx := o) hW (Know.tW kC.tail.tail.tail) H) ?_
                intro r225 w224 H
                have hr225 := row_cap H
                have H := row_stay H
                refine ⟨rdat_cel tSlc (H.front 4) rfl rfl, ?_⟩
                refine ⟨rdat_cel tSlc (H.front 4) rfl rfl, ?_⟩
                refine apd_row (fun _ => rfl) 1 H rfl ((Know.tD kC.tail.tail.tail.tail).rdS H) hb1 fun r229 w228 H => ?_
                refine ⟨rdat_cel tSlc (H.front 4) rfl rfl, ?_⟩
                refine ⟨rdat_cel tSlc (H.front 4) rfl rfl, ?_⟩
                refine apd_row (fun _ => rfl) 0 H rfl (Know.rdS ((Know.here (m := RoP.mono)).tail.tail) H) hb2 fun r233 w232 H => ?_
                refine ⟨rdat_cel tSlc (H.front 4) rfl rfl, ?_⟩
                refine ⟨rdat_cel tSlc (H.front 4) rfl rfl, ?_⟩
                refine ⟨rdat_cel tSlc (H.front 4) rfl rfl, ?_⟩
                have H := row_stay H
                refine st_st (x := r97) 4 H rfl rfl (Nat.le_of_ble_eq_true rfl) fun _ H => ?_
                refine st_st (x := r225) 0 H rfl rfl (Nat.le_of_ble_eq_true rfl) fun _ H => ?_
                refine st_st (x := r233) 0 H rfl rfl (Nat.le_of_ble_eq_true rfl) fun _ H => ?_
                exact fin r97 r225 r233 [_, _, _, _] _ hr225 (Know.here (m := RoP.mono)).tail.tail.tail.tail (Know.here (m := RoP.mono)).tail.tail (Know.here (m := RoP.mono)).tail H
        · refine ⟨?_, ?_⟩
          · refine nwS_st H fun a240 w241 H => ?_
            have H := row_new (sz := 1) (m := 0) rfl H
            refine ⟨?_, ?_⟩
            · refine cl_mono (without_spec (tx := o) hH (Know.tH kC.tail) H) ?_
              intro r243 w242 H
              have hr243 := row_cap H
              have H := row_stay H
              refine ⟨rdat_cel tSlc (H.front 2) rfl rfl, ?_⟩
              refine ⟨rdat_cel tSlc (H.front 2) rfl rfl, ?_⟩
              refine ⟨?_, ?_⟩
              · refine cl_mono (without_spec (tx := o) hW (Know.tW kC.tail.tail) H) ?_
                intro r247 w246 H
                have hr247 := row_cap H
                have H := row_stay H
                refine ⟨rdat_cel tSlc (H.front 3) rfl rfl, ?_⟩
                refine ⟨rdat_cel tSlc (H.front 3) rfl rfl, ?_⟩
                refine ⟨?_, ?_⟩
                · refine apd_row (fun _ => rfl) 2 H rfl ((Know.tD kC.tail.tail.tail).rdS H) hb1 fun r251 w250 H => ?_
                  refine ⟨rdat_cel tSlc (H.front 3) rfl rfl, ?_⟩
                  refine ⟨rdat_cel tSlc (H.front 3) rfl rfl, ?_⟩
                  refine apl_row (fun _ => rfl) 0 H rfl hb2 fun r257 w256 H => ?_
                  refine ⟨rdat_cel tSlc (H.front 3) rfl rfl, ?_⟩
                  refine ⟨rdat_cel tSlc (H.front 3) rfl rfl, ?_⟩
                  refine ⟨rdat_cel tSlc (H.front 3) rfl rfl, ?_⟩
                  have H := row_stay H
                  refine st_st (x := r243) 3 H rfl rfl (Nat.le_of_ble_eq_true rfl) fun _ H => ?_
                  refine st_st (x := r247) 0 H rfl rfl (Nat.le_of_ble_eq_true rfl) fun _ H => ?_
                  refine st_st (x := r257) 0 H rfl rfl (Nat.le_of_ble_eq_true rfl) fun _ H => ?_
                  exact fin r243 r247 r257 [_, _, _] _ hr247 (Know.here (m := RoP.mono)).tail.tail.tail (Know.here (m := RoP.mono)).tail.tail (Know.here (m := RoP.mono)).tail H
                · refine nwS_st H fun a264 w265 H => ?_
                  have H := row_stay (row_new (sz := 1) (m := 1) rfl H)
                  refine apd_row (fun _ => rfl) 3 H rfl ((Know.tD kC.tail.tail.tail.tail).rdS H) hb1 fun r267 w266 H => ?_
                  refine ⟨rdat_cel tSlc (H.front 4) rfl rfl, ?_⟩
                  refine ⟨rdat_cel tSlc (H.front 4) rfl rfl, ?_⟩
                  refine apd_row (fun _ => rfl) 0 H rfl (Know.rdS ((Know.here (m := RoP.mono)).tail) H) hb2 fun r271 w270 H => ?_
                  refine ⟨rdat_cel tSlc (H.front 4) rfl rfl, ?_⟩
                  refine ⟨rdat_cel tSlc (H.front 4) rfl rfl, ?_⟩
                  refine ⟨rdat_cel tSlc (H.front 4) rfl rfl, ?_⟩
                  have H := row_stay H
                  refine st_st (x := r243) 4 H rfl rfl (Nat.le_of_ble_eq_true rfl) fun _ H => ?_
                  refine st_st (x := r247) 0 H rfl rfl (Nat.le_of_ble_eq_true rfl) fun _ H => ?_
                  refine st_st (x := r271) 0 H rfl rfl (Nat.le_of_ble_eq_true rfl) fun _ H => ?_
                  exact fin r243 r247 r271 [_, _, _, _] _ hr247 (Know.here (m := RoP.mono)).tail.tail.tail.tail (Know.here (m := RoP.mono)).tail.tail.tail (Know.here (m := RoP.mono)).tail H
              · refine nwS_st H fun a278 w279 H => ?_
                have H := row_stay (row_new (sz := 1) (m := 1) rfl H)
                refine cl_mono (without_spec (tx := o) hW (Know.tW kC.tail.tail.tail) H) ?_
                intro r281 w280 H
                have hr281 := row_cap H
                have H := row_stay H
                refine ⟨rdat_cel tSlc (H.front 4) rfl rfl, ?_⟩
                refine ⟨rdat_cel tSlc (H.front 4) rfl rfl, ?_⟩
                refine apd_row (fun _ => rfl) 3 H rfl ((Know.tD kC.tail.tail.tail.tail).rdS H) hb1 fun r285 w284 H => ?_
                refine ⟨rdat_cel tSlc (H.front 4) rfl rfl, ?_⟩
                refine ⟨rdat_cel tSlc (H.front 4) rfl rfl, ?_⟩
                refine apd_row (fun _ => rfl) 0 H rfl (Know.rdS ((Know.here (m := RoP.mono)).tail.tail) H) hb2 fun r289 w288 H => ?_
                refine ⟨rdat_cel tSlc (H.front 4) rfl rfl, ?_⟩
                refine ⟨rdat_cel tSlc (H.front 4) rfl rfl, ?_⟩
                refine ⟨rdat_cel tSlc (H.front 4) rfl rfl, ?_⟩
                have H := row_stay H
                refine st_st (x := r243) 4 H rfl rfl (Nat.le_of_ble_eq_true rfl) fun _ H => ?_
                refine st_st (x := r281) 0 H rfl rfl (Nat.le_of_ble_eq_true rfl) fun _ H => ?_
                refine st_st (x := r289) 0 H rfl rfl (Nat.le_of_ble_eq_true rfl) fun _ H => ?_
                exact fin r243 r281 r289 [_, _, _, _] _ hr281 (Know.here (m := RoP.mono)).tail.tail.tail.tail (Know.here (m := RoP.mono)).tail.tail (Know.here (m := RoP.mono)).tail H
            · refine nwS_st H fun a296 w297 H => ?_
              have H := row_stay (row_new (sz := 1) (m := 1) rfl H)
              refine cl_mono (without_spec (tx := o) hH (Know.tH kC.tail.tail) H) ?_
              intro r299 w298 H
              have hr299 := row_cap H
              have H := row_stay H
              refine ⟨rdat_cel tSlc (H.front 3) rfl rfl, ?_⟩
              refine ⟨rdat_cel tSlc (H.front 3) rfl rfl, ?_⟩
              refine cl_mono (without_spec (tx := o) hW (Know.tW kC.tail.tail.tail) H) ?_
              intro r303 w302 H
              have hr303 := row_cap H
              have H := row_stay H
              refine ⟨rdat_cel tSlc (H.front 4) rfl rfl, ?_⟩
              refine ⟨rdat_cel tSlc (H.front 4) rfl rfl, ?_⟩
              refine apd_row (fun _ => rfl) 3 H rfl ((Know.tD kC.tail.tail.tail.tail).rdS H) hb1 fun r307 w306 H => ?_
              refine ⟨rdat_cel tSlc (H.front 4) rfl rfl, ?_⟩
              refine ⟨rdat_cel tSlc (H.front 4) rfl rfl, ?_⟩
              refine apd_row (fun _ => rfl) 0 H rfl (Know.rdS ((Know.here (m := RoP.mono)).tail.tail.tail) H) hb2 fun r311 w310 H => ?_
              refine ⟨rdat_cel tSlc (H.front 4) rfl rfl, ?_⟩
              refine ⟨rdat_cel tSlc (H.front 4) rfl rfl, ?_⟩
              refine ⟨rdat_cel tSlc (H.front 4) rfl rfl, ?_⟩
              have H := row_stay H
              refine st_st (x := r299) 4 H rfl rfl (Nat.le_of_ble_eq_true rfl) fun _ H => ?_
              refine st_st (x := r303) 0 H rfl rfl (Nat.le_of_ble_eq_true rfl) fun _ H => ?_
              refine st_st (x := r311) 0 H rfl rfl (Nat.le_of_ble_eq_true rfl) fun _ H => ?_
              exact fin r299 r303 r311 [_, _, _, _] _ hr303 (Know.here (m := RoP.mono)).tail.tail.tail (Know.here (m := RoP.mono)).tail.tail (Know.here (m := RoP.mono)).tail H
          · refine nwS_st H fun a318 w319 H => ?_
            have H := row_stay (row_new (sz := 1) (m := 1) rfl H)
            refine ⟨?_, ?_⟩
            · refine cl_mono (without_spec (tx := o) hH (Know.tH kC.tail) H) ?_
              intro r321 w320 H
              have hr321 := row_cap H
              have H := row_stay H
              refine ⟨rdat_cel tSlc (H.front 2) rfl rfl, ?_⟩
              refine ⟨rdat_cel tSlc (H.front 2) rfl rfl, ?_⟩
              refine ⟨?_, ?_⟩
              · refine cl_mono (without_spec (tx := o) hW (Know.tW kC.tail.tail) H) ?_
                intro r325 w324 H
                have hr325 := row_cap H
                have H := row_stay H
                refine ⟨rdat_cel tSlc (H.front 3) rfl rfl, ?_⟩
                refine ⟨rdat_cel tSlc (H.front 3) rfl rfl, ?_⟩
                refine nwS_st H fun a328 w329 H => ?_
                have H := row_new (sz := 1) (m := 0) rfl H
                refine apd_row (fun _ => rfl) 0 H rfl ((Know.tD kC.tail.tail.tail.tail).rdS H) hb1 fun r331 w330 H => ?_
                refine ⟨rdat_cel tSlc (H.front 4) rfl rfl, ?_⟩
                refine ⟨rdat_cel tSlc (H.front 4) rfl rfl, ?_⟩
                refine apd_row (fun _ => rfl) 0 H rfl (Know.rdS ((Know.here (m := RoP.mono)).tail.tail.tail) H) hb2 fun r335 w334 H => ?_
                refine ⟨rdat_cel tSlc (H.front 4) rfl rfl, ?_⟩
                refine ⟨rdat_cel tSlc (H.front 4) rfl rfl, ?_⟩
                refine ⟨rdat_cel tSlc (H.front 4) rfl rfl, ?_⟩
                have H := row_stay H
                refine st_st (x := r321) 4 H rfl rfl (Nat.le_of_ble_eq_true rfl) fun _ H => ?_
                refine st_st (x := r325) 0 H rfl rfl (Nat.le_of_ble_eq_true rfl) fun _ H => ?_
                refine st_st (x := r335) 0 H rfl rfl (Nat.le_of_ble_eq_true rfl) fun _ H => ?_
                exact fin r321 r325 r335 [_, _, _, _] _ hr325 (Know.here (m := RoP.mono)).tail.tail.tail (Know.here (m := RoP.mono)).tail.tail (Know.here (m := RoP.mono)).tail H
              · refine nwS_st H fun a342 w343 H => ?_
                have H := row_new (sz := 1) (m := 0) rfl H
                refine cl_mono (without_spec (tx := o) hW (Know.tW kC.tail.tail.tail) H) ?_
                intro r345 w344 H
                have hr345 := row_cap H
                have H := row_stay H
                refine ⟨rdat_cel tSlc (H.front 4) rfl rfl, ?_⟩
                refine ⟨rdat_cel tSlc (H.front 4) rfl rfl, ?_⟩
                refine apd_row (fun _ => rfl) 1 H rfl ((Know.tD kC.tail.tail.tail.tail).rdS H) hb1 fun r349 w348 H => ?_
                refine ⟨rdat_cel tSlc (H.front 4) rfl rfl, ?_⟩
                refine ⟨rdat_cel tSlc (H.front 4) rfl rfl, ?_⟩
                refine apd_row (fun _ => rfl) 0 H rfl (Know.rdS ((Know.here (m := RoP.mono)).tail.tail.tail) H) hb2 fun r353 w352 H => ?_
                refine ⟨rdat_cel tSlc (H.front 4) rfl rfl, ?_⟩
                refine ⟨rdat_cel tSlc (H.front 4) rfl rfl, ?_⟩
                refine ⟨rdat_cel tSlc (H.front 4) rfl rfl, ?_⟩
                have H := row_stay H
                refine st_st (x := r321) 4 H rfl rfl (Nat.le_of_ble_eq_true rfl) fun _ H => ?_
                refine st_st (x := r345) 0 H rfl rfl (Nat.le_of_ble_eq_true rfl) fun _ H => ?_
                refine st_st (x := r353) 0 H rfl rfl (Nat.le_of_ble_eq_true rfl) fun _ H => ?_
                exact fin r321 r345 r353 [_, _, _, _] _ hr345 (Know.here (m := RoP.mono)).tail.tail.tail (Know.here (m := RoP.mono)).tail.tail (Know.here (m := RoP.mono)).tail H
            · refine nwS_st H fun a360 w361 H => ?_
              have H := row_new (sz := 1) (m := 0) rfl H
              refine cl_mono (without_spec (tx := o) hH (Know.tH kC.tail.tail) H) ?_
              intro r363 w362 H
              have hr363 := row_cap H
              have H := row_stay H
              refine ⟨rdat_cel tSlc (H.front 3) rfl rfl, ?_⟩
              refine ⟨rdat_cel tSlc (H.front 3) rfl rfl, ?_⟩
              refine cl_mono (without_spec (tx := o) hW (Know.tW kC.tail.tail.tail) H) ?_
              intro r367 w366 H
              have hr367 := row_cap H
              have H := row_stay H
              refine ⟨rdat_cel tSlc (H.front 4) rfl rfl, ?_⟩
              refine ⟨rdat_cel tSlc (H.front 4) rfl rfl, ?_⟩
              refine apd_row (fun _ => rfl) 2 H rfl ((Know.tD kC.tail.tail.tail.tail).rdS H) hb1 fun r371 w370 H => ?_
              refine ⟨rdat_cel tSlc (H.front 4) rfl rfl, ?_⟩
              refine ⟨rdat_cel tSlc (H.front 4) rfl rfl, ?_⟩
              refine apd_row (fun _ => rfl) 0 H rfl (Know.rdS ((Know.here (m := RoP.mono)).tail.tail.tail) H) hb2 fun r375 w374 H => ?_
              refine ⟨rdat_cel tSlc (H.front 4) rfl rfl, ?_⟩
              refine ⟨rdat_cel tSlc (H.front 4) rfl rfl, ?_⟩
              refine ⟨rdat_cel tSlc (H.front 4) rfl rfl, ?_⟩
              have H := row_stay H
              refine st_st (x := r363) 4 H rfl rfl (Nat.le_of_ble_eq_true rfl) fun _ H => ?_
              refine st_st (x := r367) 0 H rfl rfl (Nat.le_of_ble_eq_true rfl) fun _ H => ?_
              refine st_st (x := r375) 0 H rfl rfl (Nat.le_of_ble_eq_true rfl) fun _ H => ?_
              exact fin r363 r367 r375 [_, _, _, _] _ hr367 (Know.here (m := RoP.mono)).tail.tail.tail (Know.here (m := RoP.mono)).tail.tail (Know.here (m := RoP.mono)).tail H
      · rename_i hc
        have hc : i = (wounded m x).length := by simp at hc; omega
        subst hc
        have et : (wounded m x).take (((wounded m x).length : Int)).toNat = wounded m x := by simp
        rw [et] at H hls
        clear i0 i1 hc et htl
        have kC : Know (cel b5 (T27.cells t') 28 :: tbo t' ((wounded m x).foldl wound m) :: ro (tInt .i64) ws (wounded m x) :: cel b45 (T33.cells ⟨false, ws, nilS⟩) 34 :: cel b42 (T79.cells x) 80 :: cel b9 (T33.cells Z33) 34 :: cel b7 (T27.cells Z27) 28 :: l) (TbR t' ((wounded m x).foldl wound m)) := (Know.here (m := TbR.mono)).tail
        have hcap := Know.tcap kC H
        refine ld_st (x := t'.Waits) 0 H rfl rfl rfl ?_
        refine ld_st (x := x) 4 H rfl rfl (at_all _) ?_
        refine cl_mono (put_spec (x := x) (by omega) hcap (Know.tW kC) H) ?_
        intro r w9 H
        have hcap2 := row_cap H
        have H := row_stay H
        refine st_st (x := r) 1 H rfl rfl (Nat.le_of_ble_eq_true rfl) fun w10 H => ?_
        have H : St W (cel b5 (T27.cells ⟨t'.Holds, r, t'.Dead⟩) 28 :: ro T79 r (asked m x).W :: tbo t' ((wounded m x).foldl wound m) :: ro (tInt .i64) ws (wounded m x) :: cel b45 (T33.cells ⟨false, ws, nilS⟩) 34 :: cel b42 (T79.cells x) 80 :: cel b9 (T33.cells Z33) 34 :: cel b7 (T27.cells Z27) 28 :: l) w10 := H
        refine ld_st (x := (⟨t'.Holds, r, t'.Dead⟩ : S27)) 0 H rfl rfl (at_all _) ?_
        have ka : Know (cel b5 (T27.cells ⟨t'.Holds, r, t'.Dead⟩) 28 :: ro T79 r (asked m x).W :: tbo t' ((wounded m x).foldl wound m) :: ro (tInt .i64) ws (wounded m x) :: cel b45 (T33.cells ⟨false, ws, nilS⟩) 34 :: cel b42 (T79.cells x) 80 :: cel b9 (T33.cells Z33) 34 :: cel b7 (T27.cells Z27) 28 :: l) (TbR ⟨t'.Holds, r, t'.Dead⟩ (asked m x)) := fun I h hl => by
          have h1 := (Know.here (m := TbR.mono) (φ := TbR t' ((wounded m x).foldl wound m))).tail.tail I h hl
          exact ⟨⟨h1.1.1, (Know.here (m := RoP.mono)).tail I h hl, h1.1.2.2⟩, hcap2⟩
        have la : (asked m x).W.length ≤ m.W.length + 1 := by
          show (put _ _).length ≤ _
          rw [put_len]; omega
        refine cl_mono (give_spec (m := asked m x) (Nat.le_trans hls.1 (by omega)) (by omega) ka H) ?_
        rintro ⟨t2, gs⟩ w11 H
        have hgl := give_lens (asked m x).W (asked m x)
        generalize give (asked m x).W (asked m x) = G at H hgl
        obtain ⟨M2, outs⟩ := G
        simp only at H hgl ⊢
        have H := row_stay H
        refine st_st (x := t2) 2 H rfl rfl (Nat.le_of_ble_eq_true rfl) fun w12 H => ?_
        have H := (H.front 2).front 5
        have H : St W (ro (tInt .i64) ws (wounded m x) :: tbo t2 M2 :: cel b5 (T27.cells t2) 28 :: ro T55 gs outs :: ro T79 r (asked m x).W :: tbo t' ((wounded m x).foldl wound m) :: cel b45 (T33.cells ⟨false, ws, nilS⟩) 34 :: cel b42 (T79.cells x) 80 :: cel b9 (T33.cells Z33) 34 :: cel b7 (T27.cells Z27) 28 :: l) w12 := H
        have H := row_nil T55 56 2 H
        have H := ((H.ord [7, 0, 1, 2, 3, 4, 9, 10]).front 8).drop
        have H := (H.front 8).drop
        have H := (H.front 8).drop
        have H : St W (cel b45 (T33.cells ⟨false, ws, nilS⟩) 34 :: row T55 56 2 nilS ([] : List S55) :: ro (tInt .i64) ws (wounded m x) :: tbo t2 M2 :: cel b5 (T27.cells t2) 28 :: ro T55 gs outs :: cel b9 (T33.cells Z33) 34 :: cel b7 (T27.cells Z27) 28 :: l) w12 := H
        clear ka kC
        refine lp_i (fun i w => 0 ≤ i ∧ i ≤ outs.length ∧ ∃ wk, St W (cel b45 (T33.cells ⟨(outs.take i.toNat).any (fun g => g.Tx == x.Tx), ws, wk⟩) 34 :: row T55 56 2 wk ((outs.take i.toNat).filter fun g => g.Tx != x.Tx) :: ro (tInt .i64) ws (wounded m x) :: tbo t2 M2 :: cel b5 (T27.cells t2) 28 :: ro T55 gs outs :: cel b9 (T33.cells Z33) 34 :: cel b7 (T27.cells Z27) 28 :: l) w) (fun i => (outs.length - i).toNat)
          ⟨Int.le_refl 0, by omega, nilS, H⟩ ?_
        clear H
        rintro i w ⟨i0, i1, wk, H⟩
        have kg : ∀ A B C D E : Assn, Know (A :: B :: C :: D :: E :: ro T55 gs outs :: cel b9 (T33.cells Z33) 34 :: cel b7 (T27.cells Z27) 28 :: l) (RoP T55 gs outs) := fun _ _ _ _ _ => (Know.here (m := RoP.mono)).tail.tail.tail.tail.tail
        have lg := (kg _ _ _ _ _).len H
        have hfl : ((outs.take i.toNat).filter fun g => g.Tx != x.Tx).length ≤ outs.length := Nat.le_trans (List.length_filter_le _ _) (List.length_take_le' _ _)
        unfold F12_l7
        simp only
        split
        · rename_i hc
          have hc : i < outs.length := by simp at hc; omega
          have e1 : IntKind.i64.wrap (i + 1) = i + 1 := wrap_i64 (by omega) (by omega)
          have hy : outs[i.toNat]? = some outs[i.toNat] := List.getElem?_eq_getElem (by omega)
          have htk : outs.take (i.toNat + 1) = outs.take i.toNat ++ [outs[i.toNat]] := List.take_succ_eq_append_getElem (by omega)
          generalize outs[i.toNat] = g at hy htk
          obtain ⟨a, ha⟩ := (kg _ _ _ _ _).ix (sz := 2) (i := i) H i0 hc
          refine ex_i a ha ?_
          refine ex_i g.Tx ((kg _ _ _ _ _).fld (fun _ => rfl) ha hy rfl H) ?_
          split
          · rename_i hk
            refine st_st (x := true) 0 H rfl rfl (Nat.le_of_ble_eq_true rfl) fun w13 H => ?_
            unfold F12_j8
            rw [e1]
            refine ⟨⟨by omega, by omega, wk, ?_⟩, by omega⟩
            rw [show (i + 1).toNat = i.toNat + 1 from by omega, htk, List.any_append, List.filter_append]
            have ea : ([g].any fun g => g.Tx == x.Tx) = true := by simpa using hk
            have ef : ([g].filter fun g => g.Tx != x.Tx) = [] := by
              have hk : g.Tx = x.Tx := by simpa using hk
              simp [hk]
            rw [ea, ef, List.append_nil, Bool.or_true]
            exact H
          · rename_i hk
            refine dr_st H fun w13 H => ?_
            refine ex_i a ha ?_
            refine ld_st (x := wk) 0 H rfl rfl rfl ?_
            refine ex_i g ((kg _ _ _ _ _).rd (fun _ => rfl) ha hy H) ?_
            refine apl_row (fun _ => rfl) 1 H rfl (by simp only [List.length_singleton]; omega) fun r4 w14 H => ?_
            refine ⟨(kg _ _ _ _ _).rd (fun _ => rfl) ha hy H, ?_⟩
            refine st_st (x := r4) 1 H rfl rfl (Nat.le_of_ble_eq_true rfl) fun w15 H => ?_
            unfold F12_j8
            rw [e1]
            refine ⟨⟨by omega, by omega, r4, ?_⟩, by omega⟩
            rw [show (i + 1).toNat = i.toNat + 1 from by omega, htk, List.any_append, List.filter_append]
            have hk : g.Tx ≠ x.Tx := by simpa using hk
            have ea : ([g].any fun g => g.Tx == x.Tx) = false := by simpa using hk
            have ef : ([g].filter fun g => g.Tx != x.Tx) = [g] := by simp [hk]
            rw [ea, ef, Bool.or_false]
            exact H
        · rename_i hc
          have hc : i = outs.length := by simp at hc; omega
          subst hc
          have et : outs.take ((outs.length : Int)).toNat = outs := by simp
          rw [et] at H
          have H := row_stay (H.front 1)
          refine dr_st H fun w13 H => ?_
          refine ld_st (x := t2) 4 H rfl rfl (at_all _) ?_
          refine ld_st (x := (⟨outs.any (fun g => g.Tx == x.Tx), ws, wk⟩ : S33)) 1 H rfl rfl (at_all _) ?_
          refine st_st (x := t2) 7 H rfl rfl (Nat.le_of_ble_eq_true rfl) fun w14 H => ?_
          refine ⟨rdat_cel T33 (H.front 2) rfl (at_all _), ?_⟩
          refine st_st (x := (⟨outs.any (fun g => g.Tx == x.Tx), ws, wk⟩ : S33)) 7 H rfl rfl (Nat.le_of_ble_eq_true rfl) fun w15 H => ?_
          have H : St W (cel b9 (T33.cells ⟨outs.any (fun g => g.Tx == x.Tx), ws, wk⟩) 34 :: cel b7 (T27.cells t2) 28 :: ro T55 wk (outs.filter fun g => g.Tx != x.Tx) :: cel b45 (T33.cells ⟨outs.any (fun g => g.Tx == x.Tx), ws, wk⟩) 34 :: ro (tInt .i64) ws (wounded m x) :: tbo t2 M2 :: cel b5 (T27.cells t2) 28 :: ro T55 gs outs :: l) w15 := H
          refine ld_st (x := t2) 1 H rfl rfl (at_all _) ?_
          refine ld_st (x := (⟨outs.any (fun g => g.Tx == x.Tx), ws, wk⟩ : S33)) 0 H rfl rfl (at_all _) ?_
          refine ⟨by trivial, ?_⟩
          have H := H.know (φ := AnsR ⟨outs.any (fun g => g.Tx == x.Tx), ws, wk⟩ ⟨outs.any (fun g => g.Tx == x.Tx), wounded m x, outs.filter fun g => g.Tx != x.Tx⟩) (m := AnsR.mono) fun I h hl =>
            ⟨rfl, (Know.here (m := RoP.mono)).tail.tail.tail.tail I h hl, (Know.here (m := RoP.mono)).tail.tail I h hl⟩
          have H := H.ord [0, 6]
          exact ((((((H.front 2).drop.front 2).drop.front 2).drop.front 2).drop.front 2).drop.front 2).drop.front 2 |>.drop
end
end Go.Proofs.Ytojcgejjdfcaaaa.Locks
