/- Contracts of the reference for locks: rows put, kept, told, compared. -/
import Derived.Test.YtojcgejjdfcaaaaLA
namespace Go.Proofs.Ytojcgejjdfcaaaa.Locks
open Go Go.Proofs.Ytojcgejjdfcaaaa.Cf
set_option linter.unusedVariables false
set_option linter.unusedSimpArgs false
set_option maxRecDepth 100000
section
variable {W w : World} {l : List Assn}
theorem tog_spec (H : St W l w) (a b : S79) : cl Try.prog 30 [T79.enc a, T79.enc b] tBool w fun r w' => r = tog a b ∧ St W l w' := by
  refine F30_ok ?_
  unfold F30
  refine nw_st H fun p w1 H => ?_
  refine nw_st H fun q w2 H => ?_
  refine ld_st (x := a.Tx) 1 H rfl rfl rfl ?_
  refine ld_st (x := b.Tx) 0 H rfl rfl rfl ?_
  refine ex_i a.Write (fun _ => rdat_cel tBool (H.front 1) rfl rfl) ?_
  refine ex_i b.Write (fun _ => rdat_cel tBool H rfl rfl) ?_
  exact ⟨rfl, H.drop.drop⟩
theorem wo_take {L : List S79} {tx : Int} {i : Nat} {x : S79} (hx : L[i]? = some x) : wo (L.take (i + 1)) tx = wo (L.take i) tx ++ if (x.Tx != tx) = true then [x] else [] := by
  obtain ⟨hi, rfl⟩ := List.getElem?_eq_some_iff.1 hx
  unfold wo
  rw [List.take_succ_eq_append_getElem hi, List.filter_append, List.filter_cons, List.filter_nil]
theorem wo_len (L : List S79) (tx : Int) : (wo L tx).length ≤ L.length := List.length_filter_le _ _
theorem without_spec {s : Slc} {L : List S79} {tx : Int} (hm : L.length ≤ 10000) (k : Know l (RoP T79 s L)) (H : St W l w) : cl Try.prog 31 [tSlc.enc s, .int .i64 tx] tSlc w fun r w' => St W (row T79 80 3 r (wo L tx) :: l) w' := by
  have hs := k.len H
  refine F31_ok ?_
  unfold F31
  refine nwS_st H fun b w1 H => ?_
  have H := row_new (sz := 3) (m := 0) rfl H
  refine lp_i (fun p w => 0 ≤ p.2 ∧ p.2 ≤ L.length ∧ St W (row T79 80 3 p.1 (wo (L.take p.2.toNat) tx) :: l) w) (fun p => (L.length - p.2).toNat) ⟨Int.le_refl 0, by simp only; omega, H⟩ ?_
  rintro ⟨out, i⟩ w ⟨h0, h1, H⟩
  simp only at h0 h1 H ⊢
  have hol := Nat.le_trans (wo_len (L.take i.toNat) tx) (List.length_take_le' _ _)
  unfold F31_l1
  split
  · rename_i hc
    have hc : i < L.length := by simp at hc; omega
    have e1 : IntKind.i64.wrap (i + 1) = i + 1 := wrap_i64 (by omega) (by omega)
    have hx : L[i.toNat]? = some L[i.toNat] := List.getElem?_eq_getElem (by omega)
    obtain ⟨a, ha⟩ := k.tail.ix (sz := 3) (i := i) H h0 hc
    have htk := wo_take (tx := tx) hx
    generalize L[i.toNat] = x at hx htk
    refine ex_i a ha ?_
    refine ex_i x.Tx (k.tail.fld (fun _ => rfl) ha hx rfl H) ?_
    split
    · rename_i hne
      rw [if_pos hne] at htk
      refine ex_i a ha ?_
      refine ex_i x (k.tail.rd (fun _ => rfl) ha hx H) ?_
      refine apl_row (fun _ => rfl) 0 H rfl (by simp only [List.length_singleton]; omega) fun r w3 H => ?_
      unfold F31_j2
      rw [e1]
      refine ⟨⟨by simp only; omega, by simp only; omega, ?_⟩, by simp only; omega⟩
      simp only
      rw [show (i + 1).toNat = i.toNat + 1 from by omega, htk]; exact H
    · rename_i hne
      rw [if_neg hne, List.append_nil] at htk
      unfold F31_j2
      rw [e1]
      refine ⟨⟨by simp only; omega, by simp only; omega, ?_⟩, by simp only; omega⟩
      simp only
      rw [show (i + 1).toNat = i.toNat + 1 from by omega, htk]; exact H
  · rename_i hc
    have hc : i = L.length := by simp at hc; omega
    subst hc
    have e : L.take ((L.length : Int)).toNat = L := by simp
    rw [e] at H; exact H
theorem put_spec {s : Slc} {L : List S79} {x : S79} (hm : L.length ≤ 10000) (hcap : s.len ≤ s.cap) (k : Know l (RoP T79 s L)) (H : St W l w) : cl Try.prog 32 [tSlc.enc s, T79.enc x] tSlc w fun r w' => St W (row T79 80 3 r (put L x) :: l) w' := by
  have hs := k.len H
  refine F32_ok ?_
  unfold F32
  refine nw_st H fun b w1 H => ?_
  refine lp_i (fun j w => 0 ≤ j ∧ j ≤ L.length ∧ (∀ y ∈ L.take j.toNat, ltr y x = true) ∧ St W (cel b (T79.cells x) 80 :: l) w) (fun j => (L.length - j).toNat) ⟨Int.le_refl 0, by omega, by simp, H⟩ ?_
  clear H
  rintro j w ⟨j0, j1, j2, H⟩
  have k1 := k.tail (A := cel b (T79.cells x) 80)
  unfold F32_l1
  refine dr_st H fun w2 H => ?_
  obtain ⟨a, ha⟩ : ∃ a, j < L.length → IxA s 3 j a := by
    by_cases c : j < L.length
    · obtain ⟨a, ha⟩ := k1.ix (sz := 3) (i := j) H j0 c
      exact ⟨a, fun _ => ha⟩
    · exact ⟨⟨0, 0, none⟩, fun h => absurd h c⟩
  obtain ⟨y, hy⟩ : ∃ y, j < L.length → L[j.toNat]? = some y := by
    by_cases c : j < L.length
    · exact ⟨L[j.toNat]'(by omega), fun _ => List.getElem?_eq_getElem (by omega)⟩
    · exact ⟨x, fun h => absurd h c⟩
  rw [hs]
  have g1 : decide (j < (L.length : Int)) = true → j < L.length := fun h => by simpa using h
  have g2 : ∀ {b : Bool}, ((decide (j < (L.length : Int))) && b) = true → j < L.length := fun h => by simp at h; exact h.1
  have g3 : ∀ {b c : Bool}, (((decide (j < (L.length : Int))) && b) && c) = true → j < L.length := fun h => by simp at h; exact h.1.1
  refine ex_i a (fun h => ha (g1 h)) ?_
  refine ex_i y.Key (fun h => k1.fld (fun _ => rfl) (ha (g1 h)) (hy (g1 h)) rfl H) ?_
  refine ex_i x.Key (fun _ => rdat_cel (tInt .i64) H rfl rfl) ?_
  refine ex_i a (fun h => ha (g2 h)) ?_
  refine ex_i y.Key (fun h => k1.fld (fun _ => rfl) (ha (g2 h)) (hy (g2 h)) rfl H) ?_
  refine ex_i x.Key (fun _ => rdat_cel (tInt .i64) H rfl rfl) ?_
  refine ex_i a (fun h => ha (g3 h)) ?_
  refine ex_i y.Tx (fun h => k1.fld (fun _ => rfl) (ha (g3 h)) (hy (g3 h)) rfl H) ?_
  refine ex_i x.Tx (fun _ => rdat_cel (tInt .i64) H rfl rfl) ?_
  split
  · rename_i hcc
    have hj : j < L.length := by simp at hcc; exact hcc.1
    have hlt : ltr y x = true := by rw [Bool.and_eq_true] at hcc; exact hcc.2
    have e2 : IntKind.i64.wrap (j + 1) = j + 1 := wrap_i64 (by omega) (by omega)
    rw [e2]
    refine ⟨⟨by omega, by omega, fun z hz => ?_, H⟩, by omega⟩
    rw [show (j + 1).toNat = j.toNat + 1 from by omega, List.take_add_one, hy hj] at hz
    rcases List.mem_append.1 hz with hz | hz
    · exact j2 z hz
    · have : z = y := by simpa using hz
      rw [this]; exact hlt
  · rename_i hcc
    have hw := while_at (p := fun y => ltr y x) (L := L) (n := j.toNat) j2 fun z hz => by
      have hj : j < L.length := by have := (List.getElem?_eq_some_iff.1 hz).1; omega
      rw [hy hj] at hz; cases hz
      cases hlt : ltr y x with
      | false => rfl
      | true => exact absurd (by rw [Bool.and_eq_true]; exact ⟨by simpa using hj, hlt⟩) hcc
    refine dr_st H fun w3 H => ?_
    obtain ⟨s1, hs1⟩ : ∃ s1, Sub s 3 0 j ((s).cap : Int) s1 := ⟨_, Int.le_refl 0, j0, by omega, Int.le_refl _, rfl⟩
    obtain ⟨s2, hs2⟩ : ∃ s2, Sub s 3 j ((s).len : Int) ((s).cap : Int) s2 := ⟨_, j0, by omega, by omega, Int.le_refl _, rfl⟩
    rw [← hs]
    refine ex_i s1 hs1 ?_
    refine ex_i s2 hs2 ?_
    have rdx : ∀ l' w, St W (l' ++ (cel b (T79.cells x) 80 :: l)) w → RdAt T79 ⟨b, 0, none⟩ w x := by
      intro l' w H
      have hp : (l' ++ (cel b (T79.cells x) 80 :: l)).Perm (cel b (T79.cells x) 80 :: (l' ++ l)) := List.perm_middle
      exact rdat_cel T79 (H.perm hp) rfl (at_all _)
    refine ex_i x (rdx [] _ H) ?_
    have k2 := k1.sub (fun _ => rfl) hs1 j1
    have k3 := k1.sub (fun _ => rfl) hs2 (show ((s.len : Int)) ≤ (L.length : Int) by omega)
    have ek : L.take ((s.len : Int)).toNat = L := by rw [hs]; simp
    rw [ek] at k3
    simp only [show ((0 : Int)).toNat = 0 from rfl, List.drop_zero] at k2
    refine ins_st (xs := L.take j.toNat) (zs := L.drop j.toNat) (fun _ => rfl) k2 k3 rdx H (by simp only [List.length_take, List.length_drop]; omega) fun r w4 H => ?_
    unfold F32_j2
    have e : L.take j.toNat ++ [x] ++ L.drop j.toNat = put L x := by unfold put; rw [hw.1, hw.2]
    rw [e] at H
    exact (H.front 1).drop
theorem of_take {L : List S79} {key : Int} {i : Nat} {x : S79} (hx : L[i]? = some x) : of (L.take (i + 1)) key = of (L.take i) key ++ if (x.Key == key) = true then [⟨x.Tx, x.Write⟩] else [] := by
  obtain ⟨hi, rfl⟩ := List.getElem?_eq_some_iff.1 hx
  unfold of
  rw [List.take_succ_eq_append_getElem hi, List.filter_append, List.filter_cons, List.filter_nil, List.map_append]
  split <;> simp
theorem of_len (L : List S79) (k : Int) : (of L k).length ≤ L.length := by unfold of; rw [List.length_map]; exact List.length_filter_le _ _
theorem of_spec {s : Slc} {L : List S79} {key : Int} (hm : L.length ≤ 10000) (k : Know l (RoP T79 s L)) (H : St W l w) : cl Try.prog 34 [tSlc.enc s, .int .i64 key] tSlc w fun r w' => St W (row T53 54 2 r (of L key) :: l) w' := by
  have hs := k.len H
  refine F34_ok ?_
  unfold F34
  refine nwS_st H fun b w1 H => ?_
  have H := row_new (sz := 2) (m := 0) rfl H
  refine lp_i (fun p w => 0 ≤ p.2 ∧ p.2 ≤ L.length ∧ St W (row T53 54 2 p.1 (of (L.take p.2.toNat) key) :: l) w) (fun p => (L.length - p.2).toNat) ⟨Int.le_refl 0, by simp only; omega, H⟩ ?_
  rintro ⟨out, i⟩ w ⟨h0, h1, H⟩
  simp only at h0 h1 H ⊢
  have hol := Nat.le_trans (of_len (L.take i.toNat) key) (List.length_take_le' _ _)
  unfold F34_l1
  split
  · rename_i hc
    have hc : i < L.length := by simp at hc; omega
    have e1 : IntKind.i64.wrap (i + 1) = i + 1 := wrap_i64 (by omega) (by omega)
    have hx : L[i.toNat]? = some L[i.toNat] := List.getElem?_eq_getElem (by omega)
    obtain ⟨a, ha⟩ := k.tail.ix (sz := 3) (i := i) H h0 hc
    have htk := of_take (key := key) hx
    generalize L[i.toNat] = x at hx htk
    refine ex_i a ha ?_
    refine ex_i x.Key (k.tail.fld (fun _ => rfl) ha hx rfl H) ?_
    split
    · rename_i hne
      rw [if_pos hne] at htk
      refine dr_st H fun w2 H => ?_
      refine ex_i a ha ?_
      refine ex_i a ha ?_
      refine ex_i x.Tx (k.tail.fld (fun _ => rfl) ha hx rfl H) ?_
      refine ex_i x.Write (k.tail.fld (fun _ => rfl) ha hx rfl H) ?_
      refine apl_row (fun _ => rfl) 0 H rfl (by simp only [List.length_singleton]; omega) fun r w3 H => ?_
      refine ⟨k.tail.fld (fun _ => rfl) ha hx rfl H, ?_⟩
      refine ⟨k.tail.fld (fun _ => rfl) ha hx rfl H, ?_⟩
      unfold F34_j2
      rw [e1]
      refine ⟨⟨by simp only; omega, by simp only; omega, ?_⟩, by simp only; omega⟩
      simp only
      rw [show (i + 1).toNat = i.toNat + 1 from by omega, htk]; exact H
    · rename_i hne
      rw [if_neg hne, List.append_nil] at htk
      unfold F34_j2
      rw [e1]
      refine ⟨⟨by simp only; omega, by simp only; omega, ?_⟩, by simp only; omega⟩
      simp only
      rw [show (i + 1).toNat = i.toNat + 1 from by omega, htk]; exact H
  · rename_i hc
    have hc : i = L.length := by simp at hc; omega
    subst hc
    have e : L.take ((L.length : Int)).toNat = L := by simp
    rw [e] at H; exact H
theorem in_spec {s : Slc} {L : List Int} {n : Int} (hm : L.length ≤ 100000) (k : Know l (RoP (tInt .i64) s L)) (H : St W l w) : cl Try.prog 19 [tSlc.enc s, .int .i64 n] tBool w fun r w' => r = L.any (· == n) ∧ St W l w' := by
  have hs := k.len H
  refine F19_ok ?_
  unfold F19
  refine lp_i (fun i w => 0 ≤ i ∧ i ≤ L.length ∧ (∀ x ∈ L.take i.toNat, x ≠ n) ∧ St W l w) (fun i => (L.length - i).toNat) ⟨Int.le_refl 0, by omega, by simp, H⟩ ?_
  rintro i w ⟨h0, h1, h2, H⟩
  unfold F19_l1
  split
  · rename_i hc
    have hc : i < L.length := by simp at hc; omega
    have e1 : IntKind.i64.wrap (i + 1) = i + 1 := wrap_i64 (by omega) (by omega)
    have hx : L[i.toNat]? = some L[i.toNat] := List.getElem?_eq_getElem (by omega)
    have ht : L.take (i.toNat + 1) = L.take i.toNat ++ [L[i.toNat]] := List.take_succ_eq_append_getElem (by omega)
    obtain ⟨a, ha⟩ := k.ix (sz := 1) (i := i) H h0 hc
    generalize L[i.toNat] = x at hx ht
    refine ex_i a ha ?_
    refine ex_i x (k.rd (fun _ => rfl) ha hx H) ?_
    split
    · rename_i hk
      refine ⟨?_, H⟩
      have : L.any (· == n) = true := List.any_eq_true.2 ⟨x, List.mem_of_getElem? hx, hk⟩
      rw [this]
    · rename_i hk
      rw [e1]
      refine ⟨⟨by omega, by omega, fun y hy => ?_, H⟩, by omega⟩
      rw [show (i + 1).toNat = i.toNat + 1 from by omega, ht] at hy
      rcases List.mem_append.1 hy with hy | hy
      · exact h2 y hy
      · rw [List.mem_singleton.1 hy]; simpa using hk
  · rename_i hc
    have hc : i = L.length := by simp at hc; omega
    subst hc
    refine ⟨?_, H⟩
    have : L.any (· == n) = false := by
      rw [List.any_eq_false]
      intro x hx
      have := h2 x (by simpa using hx)
      simpa using this
    rw [this]
theorem ints_spec {sa sb : Slc} {a b : List Int} (hm : a.length ≤ 1000000) (ka : Know l (RoP (tInt .i64) sa a)) (kb : Know l (RoP (tInt .i64) sb b)) (H : St W l w) :
    cl Try.prog 13 [tSlc.enc sa, tSlc.enc sb] tBool w fun r w' => (r = true ↔ a = b) ∧ St W l w' := by
  have la := ka.len H
  have lb := kb.len H
  refine F13_ok ?_
  unfold F13
  split
  · rename_i hne
    have hne : a.length ≠ b.length := by simp at hne; omega
    exact ⟨⟨fun h => (by cases h), fun h => absurd (congrArg List.length h) hne⟩, H⟩
  · rename_i hne
    have hne : a.length = b.length := by simp at hne; omega
    refine lp_i (fun i w => 0 ≤ i ∧ i ≤ a.length ∧ a.take i.toNat = b.take i.toNat ∧ St W l w) (fun i => (a.length - i).toNat) ⟨Int.le_refl 0, by omega, by simp, H⟩ ?_
    rintro i w ⟨h0, h1, h2, H⟩
    unfold F13_l1
    split
    · rename_i hc
      have hc : i < a.length := by simp at hc; omega
      have e1 : IntKind.i64.wrap (i + 1) = i + 1 := wrap_i64 (by omega) (by omega)
      have hx : a[i.toNat]? = some a[i.toNat] := List.getElem?_eq_getElem (by omega)
      have hy : b[i.toNat]? = some b[i.toNat] := List.getElem?_eq_getElem (by omega)
      obtain ⟨p, hp⟩ := ka.ix (sz := 1) (i := i) H h0 hc
      obtain ⟨q, hq⟩ := kb.ix (sz := 1) (i := i) H h0 (by omega)
      have ht : a.take (i.toNat + 1) = a.take i.toNat ++ [a[i.toNat]] := List.take_succ_eq_append_getElem (by omega)
      have ht2 : b.take (i.toNat + 1) = b.take i.toNat ++ [b[i.toNat]] := List.take_succ_eq_append_getElem (by omega)
      generalize a[i.toNat] = x at hx ht
      generalize b[i.toNat] = y at hy ht2
      refine dr_st H fun w1 H => ?_
      refine ex_i p hp ?_
      refine ex_i q hq ?_
      refine ex_i x (ka.rd (fun _ => rfl) hp hx H) ?_
      refine ex_i y (kb.rd (fun _ => rfl) hq hy H) ?_
      split
      · rename_i hd
        refine ⟨⟨fun h => (by cases h), fun h => ?_⟩, H⟩
        subst h
        rw [hx] at hy; cases hy
        simp at hd
      · rename_i hd
        rw [e1]
        have hxy : x = y := by simpa using hd
        refine ⟨⟨by omega, by omega, ?_, H⟩, by omega⟩
        rw [show (i + 1).toNat = i.toNat + 1 from by omega, ht, ht2, h2, hxy]
    · rename_i hc
      have hc : i = a.length := by simp at hc; omega
      subst hc
      refine ⟨⟨fun _ => ?_, fun _ => rfl⟩, H⟩
      have e1 : a.take ((a.length : Int)).toNat = a := by simp
      have e2 : b.take ((a.length : Int)).toNat = b := by rw [hne]; simp
      rw [e1, e2] at h2; exact h2
theorem s55_eq {x y : S55} (h1 : x.Tx = y.Tx) (h2 : x.Key = y.Key) : x = y := by cases x; cases y; simp only at h1 h2; subst h1; subst h2; rfl
theorem s53_eq {x y : S53} (h1 : x.Tx = y.Tx) (h2 : x.Write = y.Write) : x = y := by cases x; cases y; simp only at h1 h2; subst h1; subst h2; rfl
theorem grants_spec {sa sb : Slc} {a b : List S55} (hm : a.length ≤ 1000000) (ka : Know l (RoP T55 sa a)) (kb : Know l (RoP T55 sb b)) (H : St W l w) :
    cl Try.prog 14 [tSlc.enc sa, tSlc.enc sb] tBool w fun r w' => (r = true ↔ a = b) ∧ St W l w' := by
  have la := ka.len H
  have lb := kb.len H
  refine F14_ok ?_
  unfold F14
  split
  · rename_i hne
    have hne : a.length ≠ b.length := by simp at hne; omega
    exact ⟨⟨fun h => (by cases h), fun h => absurd (congrArg List.length h) hne⟩, H⟩
  · rename_i hne
    have hne : a.length = b.length := by simp at hne; omega
    refine lp_i (fun i w => 0 ≤ i ∧ i ≤ a.length ∧ a.take i.toNat = b.take i.toNat ∧ St W l w) (fun i => (a.length - i).toNat) ⟨Int.le_refl 0, by omega, by simp, H⟩ ?_
    rintro i w ⟨h0, h1, h2, H⟩
    unfold F14_l1
    split
    · rename_i hc
      have hc : i < a.length := by simp at hc; omega
      have e1 : IntKind.i64.wrap (i + 1) = i + 1 := wrap_i64 (by omega) (by omega)
      have hx : a[i.toNat]? = some a[i.toNat] := List.getElem?_eq_getElem (by omega)
      have hy : b[i.toNat]? = some b[i.toNat] := List.getElem?_eq_getElem (by omega)
      obtain ⟨p, hp⟩ := ka.ix (sz := 2) (i := i) H h0 hc
      obtain ⟨q, hq⟩ := kb.ix (sz := 2) (i := i) H h0 (by omega)
      have ht : a.take (i.toNat + 1) = a.take i.toNat ++ [a[i.toNat]] := List.take_succ_eq_append_getElem (by omega)
      have ht2 : b.take (i.toNat + 1) = b.take i.toNat ++ [b[i.toNat]] := List.take_succ_eq_append_getElem (by omega)
      generalize a[i.toNat] = x at hx ht
      generalize b[i.toNat] = y at hy ht2
      refine dr_st H fun w1 H => ?_
      refine ex_i p hp ?_
      refine ex_i q hq ?_
      refine ex_i x.Tx (ka.fld (fun _ => rfl) hp hx rfl H) ?_
      refine ex_i y.Tx (kb.fld (fun _ => rfl) hq hy rfl H) ?_
      refine ex_i p (fun _ => hp) ?_
      refine ex_i q (fun _ => hq) ?_
      refine ex_i x.Key (fun _ => ka.fld (fun _ => rfl) hp hx rfl H) ?_
      refine ex_i y.Key (fun _ => kb.fld (fun _ => rfl) hq hy rfl H) ?_
      split
      · rename_i hd
        refine ⟨⟨fun h => (by cases h), fun h => ?_⟩, H⟩
        subst h
        rw [hx] at hy; cases hy
        simp at hd
      · rename_i hd
        rw [e1]
        have hxy : x = y := s55_eq (by simp at hd; exact hd.1) (by simp at hd; exact hd.2)
        refine ⟨⟨by omega, by omega, ?_, H⟩, by omega⟩
        rw [show (i + 1).toNat = i.toNat + 1 from by omega, ht, ht2, h2, hxy]
    · rename_i hc
      have hc : i = a.length := by simp at hc; omega
      subst hc
      refine ⟨⟨fun _ => ?_, fun _ => rfl⟩, H⟩
      have e1 : a.take ((a.length : Int)).toNat = a := by simp
      have e2 : b.take ((a.length : Int)).toNat = b := by rw [hne]; simp
      rw [e1, e2] at h2; exact h2
theorem holds_spec {sa sb : Slc} {a b : List S53} (hm : a.length ≤ 1000000) (ka : Know l (RoP T53 sa a)) (kb : Know l (RoP T53 sb b)) (H : St W l w) :
    cl Try.prog 23 [tSlc.enc sa, tSlc.enc sb] tBool w fun r w' => (r = true ↔ a = b) ∧ St W l w' := by
  have la := ka.len H
  have lb := kb.len H
  refine F23_ok ?_
  unfold F23
  split
  · rename_i hne
    have hne : a.length ≠ b.length := by simp at hne; omega
    exact ⟨⟨fun h => (by cases h), fun h => absurd (congrArg List.length h) hne⟩, H⟩
  · rename_i hne
    have hne : a.length = b.length := by simp at hne; omega
    refine lp_i (fun i w => 0 ≤ i ∧ i ≤ a.length ∧ a.take i.toNat = b.take i.toNat ∧ St W l w) (fun i => (a.length - i).toNat) ⟨Int.le_refl 0, by omega, by simp, H⟩ ?_
    rintro i w ⟨h0, h1, h2, H⟩
    unfold F23_l1
    split
    · rename_i hc
      have hc : i < a.length := by simp at hc; omega
      have e1 : IntKind.i64.wrap (i + 1) = i + 1 := wrap_i64 (by omega) (by omega)
      have hx : a[i.toNat]? = some a[i.toNat] := List.getElem?_eq_getElem (by omega)
      have hy : b[i.toNat]? = some b[i.toNat] := List.getElem?_eq_getElem (by omega)
      obtain ⟨p, hp⟩ := ka.ix (sz := 2) (i := i) H h0 hc
      obtain ⟨q, hq⟩ := kb.ix (sz := 2) (i := i) H h0 (by omega)
      have ht : a.take (i.toNat + 1) = a.take i.toNat ++ [a[i.toNat]] := List.take_succ_eq_append_getElem (by omega)
      have ht2 : b.take (i.toNat + 1) = b.take i.toNat ++ [b[i.toNat]] := List.take_succ_eq_append_getElem (by omega)
      generalize a[i.toNat] = x at hx ht
      generalize b[i.toNat] = y at hy ht2
      refine dr_st H fun w1 H => ?_
      refine ex_i p hp ?_
      refine ex_i q hq ?_
      refine ex_i x.Tx (ka.fld (fun _ => rfl) hp hx rfl H) ?_
      refine ex_i y.Tx (kb.fld (fun _ => rfl) hq hy rfl H) ?_
      refine ex_i p (fun _ => hp) ?_
      refine ex_i q (fun _ => hq) ?_
      refine ex_i x.Write (fun _ => ka.fld (fun _ => rfl) hp hx rfl H) ?_
      refine ex_i y.Write (fun _ => kb.fld (fun _ => rfl) hq hy rfl H) ?_
      split
      · rename_i hd
        refine ⟨⟨fun h => (by cases h), fun h => ?_⟩, H⟩
        subst h
        rw [hx] at hy; cases hy
        simp at hd
      · rename_i hd
        rw [e1]
        have hxy : x = y := s53_eq (by simp at hd; exact hd.1) (by simp at hd; exact hd.2)
        refine ⟨⟨by omega, by omega, ?_, H⟩, by omega⟩
        rw [show (i + 1).toNat = i.toNat + 1 from by omega, ht, ht2, h2, hxy]
    · rename_i hc
      have hc : i = a.length := by simp at hc; omega
      subst hc
      refine ⟨⟨fun _ => ?_, fun _ => rfl⟩, H⟩
      have e1 : a.take ((a.length : Int)).toNat = a := by simp
      have e2 : b.take ((a.length : Int)).toNat = b := by rw [hne]; simp
      rw [e1, e2] at h2; exact h2
end
end Go.Proofs.Ytojcgejjdfcaaaa.Locks
