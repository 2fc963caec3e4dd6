/- Picking votes; the laws' own helpers: contracts. -/
import Derived.Test.YtjkmeooncmhonaaBC
namespace Go.Proofs.Ytjkmeooncmhonaa.Ballot
open Go Go.Proofs.Ytjkmeooncmhonaa.Cf Go.Proofs.Ytjkmeooncmhonaa.Wire Go.Proofs.Ytjkmeooncmhonaa.Disk
set_option linter.unusedVariables false
set_option linter.unusedSimpArgs false
set_option maxRecDepth 100000
abbrev Act := S38
abbrev TAct := T38
def pick1 (es : Es) (x : Vote) : Es := match es.lookup x.Slot with
  | none => ups x.Slot x es
  | some y => if y.B < x.B then ups x.Slot x es else es
theorem pick1_none {es : Es} {x : Vote} (h : es.lookup x.Slot = none) : pick1 es x = ups x.Slot x es := by unfold pick1; rw [h]
theorem pick1_gt {es : Es} {x y : Vote} (h : es.lookup x.Slot = some y) (hB : y.B < x.B) : pick1 es x = ups x.Slot x es := by unfold pick1; rw [h]; simp only; rw [if_pos hB]
theorem pick1_le {es : Es} {x y : Vote} (h : es.lookup x.Slot = some y) (hB : ¬ y.B < x.B) : pick1 es x = es := by unfold pick1; rw [h]; simp only; rw [if_neg hB]
def pickE (xs : List Vote) : Es := xs.foldl pick1 []
def InI (n : Int) : Prop := -9223372036854775808 ≤ n ∧ n ≤ 9223372036854775807
theorem pick1_mem {es : Es} {x : Vote} {e : Int × Vote} (h : e ∈ pick1 es x) : e = (x.Slot, x) ∨ e ∈ es := by
  unfold pick1 at h
  split at h
  · exact mem_ups h
  · split at h
    · exact mem_ups h
    · exact .inr h
theorem pick1_len (es : Es) (x : Vote) : (pick1 es x).length ≤ es.length + 1 := by
  unfold pick1
  split
  · exact ups_le.2
  · split
    · exact ups_le.2
    · omega
theorem picks_mem : ∀ {xs : List Vote} {es : Es} {e : Int × Vote}, e ∈ xs.foldl pick1 es → (∃ x ∈ xs, e = (x.Slot, x)) ∨ e ∈ es
  | [], _, _, h => .inr h
  | x :: xs, es, e, h => by
    rcases picks_mem (xs := xs) h with ⟨y, hy, h⟩ | h
    · exact .inl ⟨y, by simp [hy], h⟩
    · rcases pick1_mem h with h | h
      · exact .inl ⟨x, by simp, h⟩
      · exact .inr h
theorem picks_len : ∀ {xs : List Vote} {es : Es}, (xs.foldl pick1 es).length ≤ es.length + xs.length
  | [], _ => by simp
  | x :: xs, es => by
    have h1 := picks_len (xs := xs) (es := pick1 es x)
    have h2 := pick1_len es x
    simp only [List.foldl_cons, List.length_cons]; omega
theorem pickE_keyed {xs : List Vote} (h : ∀ x ∈ xs, InI x.Slot) (hn : xs.length ≤ 1000000) : Keyed (pickE xs) := by
  have h1 := picks_len (xs := xs) (es := [])
  refine ⟨by unfold pickE; simp at h1; omega, fun e he => ?_⟩
  rcases picks_mem he with ⟨x, hx, rfl⟩ | he
  · exact h x hx
  · simp at he
theorem sortI_sorted {L : List Int} (h : L.Pairwise fun x y => x ≤ y) : sortI L = L :=
  List.Perm.eq_of_pairwise (fun a b _ _ h1 h2 => by omega) (sortI_pw L) h (sortI_p L)
section
variable {W w : World} {l l' : List Assn}
theorem pick_spec {q : Slc} {qs : List Slc} {xss : List (List Vote)} (hlen : qs.length = xss.length) (k : See 1 l tSlc q qs) (kk : ∀ (i : Nat) s xs, qs[i]? = some s → xss[i]? = some xs → See 3 l TVo s xs)
    (hr : ∀ x ∈ xss.flatten, InI x.Slot) (hn : xss.flatten.length ≤ 1000000) (hq : qs.length ≤ 1000000) (H : St W l w) :
    cl Try.prog 8 [tSlc.enc q] tSlc w fun r w' => St W (row TVo 47 3 r (listV (pickE xss.flatten)) :: l) w' := by
  have hql := k.len H
  refine F8_ok ?_
  unfold F8
  refine nwMap_st H fun m w H => ?_
  have H := mapE_new TVo .i64 H
  refine lp_p (fun i w => 0 ≤ i ∧ i ≤ qs.length ∧ St W (mapE TVo .i64 m (pickE (xss.take i.toNat).flatten) :: l) w) (fun i => (qs.length - i).toNat)
    ⟨Int.le_refl 0, by omega, H⟩ ?_
  clear H
  rintro i w ⟨i0, i1, H⟩ K hK
  unfold F8_l1
  rw [hql]
  split
  · rename_i hi
    have hi : i < qs.length := by simpa using hi
    have hx : xss[i.toNat]? = some xss[i.toNat] := List.getElem?_eq_getElem (by omega)
    have hs : qs[i.toNat]? = some qs[i.toNat] := List.getElem?_eq_getElem (by omega)
    have ht : xss.take (i.toNat + 1) = xss.take i.toNat ++ [xss[i.toNat]] := by rw [List.take_succ_eq_append_getElem (by omega)]
    have hmem : xss[i.toNat] ∈ xss := List.getElem_mem _
    generalize xss[i.toNat] = xs at hx ht hmem
    generalize qs[i.toNat] = s at hs
    have ks := kk _ _ _ hs hx
    have hxl : xs.length ≤ 1000000 := by
      have := (List.sublist_flatten_of_mem hmem).length_le
      omega
    obtain ⟨a, ha⟩ := k.tail.ix (i := i) H i0 hi
    refine ex_i a ha ?_
    refine ex_i s (k.tail.rd ha hs H) ?_
    have hsl := ks.tail.len H
    refine lp_p (fun j w => 0 ≤ j ∧ j ≤ xs.length ∧ St W (mapE TVo .i64 m ((xs.take j.toNat).foldl pick1 (pickE (xss.take i.toNat).flatten)) :: l) w) (fun j => (xs.length - j).toNat)
      ⟨Int.le_refl 0, by omega, H⟩ ?_
    clear H
    rintro j w ⟨j0, j1, H⟩ K2 hK2
    unfold F8_l2
    rw [hsl]
    split
    · rename_i hj
      have hj : j < xs.length := by simpa using hj
      have hy : xs[j.toNat]? = some xs[j.toNat] := List.getElem?_eq_getElem (by omega)
      have hty : xs.take (j.toNat + 1) = xs.take j.toNat ++ [xs[j.toNat]] := by rw [List.take_succ_eq_append_getElem (by omega)]
      generalize xs[j.toNat] = x at hy hty
      obtain ⟨a2, ha2⟩ := ks.tail.ix (i := j) H j0 hj
      refine ex_i a2 ha2 ?_
      refine ex_i x (ks.tail.rd ha2 hy H) ?_
      refine nw_st H fun b15 w H => ?_
      refine vst_st (x := Z46) (y := x) lenVo 0 H rfl fun w H => ?_
      refine ld_st (x := x.Slot) 0 H rfl rfl rfl ?_
      refine mget_st 1 H rfl rfl ?_
      refine nw_st H fun b20 w H => ?_
      refine vst_st (x := Z46) lenVo 0 H rfl fun w H => ?_
      have e1 : IntKind.i64.wrap (j + 1) = j + 1 := wrap_i64 (by omega) (by omega)
      have e2 : (j + 1).toNat = j.toNat + 1 := by omega
      have fin : ∀ (w : World) (es : Es), es = pick1 ((xs.take j.toNat).foldl pick1 (pickE (xss.take i.toNat).flatten)) x → St W (mapE TVo .i64 m es :: l) w → K2 (IntKind.i64.wrap (j + 1)) w := by
        rintro w es rfl H
        rw [e1]
        refine hK2 _ _ ⟨by omega, by omega, ?_⟩ (by omega)
        rw [e2, hty, List.foldl_append]
        exact H
      refine ex_i x.B (fun _ => rdat_cel (tInt .i64) (H.front 1) rfl rfl) ?_
      unfold F8_j3
      have put : pick1 ((xs.take j.toNat).foldl pick1 (pickE (xss.take i.toNat).flatten)) x = ups x.Slot x ((xs.take j.toNat).foldl pick1 (pickE (xss.take i.toNat).flatten)) → ex (RdAt (tInt .i64) (Addr.add ⟨b15, 0, none⟩ 0) w) (fun x25 =>
          ex (RdAt TVo ⟨b15, 0, none⟩ w) fun x26 => mput TVo .i64 (some m) x25 x26 w fun w27 => K2 (IntKind.i64.wrap (j + 1)) w27) := by
        intro he
        refine ld_st (x := x.Slot) 1 H rfl rfl rfl ?_
        refine vld_st (x := x) 1 H rfl ?_
        refine mput_st 2 H rfl rfl fun w H => ?_
        exact fin w _ he.symm ((H.ord [1, 2]).drop.drop)
      cases hl : ((xs.take j.toNat).foldl pick1 (pickE (xss.take i.toNat).flatten)).lookup x.Slot with
      | none =>
        refine ex_i 0 (fun h => by simp at h) ?_
        rw [if_pos (by simp)]
        exact put (pick1_none hl)
      | some y =>
        rw [hl] at H
        refine ex_i y.B (fun _ => rdat_cel (tInt .i64) H rfl rfl) ?_
        by_cases hB : y.B < x.B
        · rw [if_pos (by simpa using hB)]
          exact put (pick1_gt hl hB)
        · rw [if_neg (by simpa using hB)]
          exact fin w _ (pick1_le hl hB).symm H.drop.drop
    · rename_i hj
      have hj : j = xs.length := by simp at hj; omega
      subst hj
      have e1 : IntKind.i64.wrap (i + 1) = i + 1 := wrap_i64 (by omega) (by omega)
      have e2 : (i + 1).toNat = i.toNat + 1 := by omega
      have e3 : xs.take ((xs.length : Int)).toNat = xs := by simp
      rw [e3] at H
      rw [e1]
      refine hK _ _ ⟨by omega, by omega, ?_⟩ (by omega)
      rw [e2, ht, List.flatten_append]
      unfold pickE
      rw [List.foldl_append]
      simp only [List.flatten_cons, List.flatten_nil, List.append_nil]
      exact H
  · rename_i hi
    have hi : i = qs.length := by simp at hi; omega
    subst hi
    have e3 : xss.take ((qs.length : Int)).toNat = xss := by rw [hlen]; simp
    rw [e3] at H
    refine cl_mono (list_spec (pickE_keyed hr hn) H) ?_
    intro r w H
    exact (H.front 1).drop
theorem same_spec {p q : Slc} {xs ys : List Vote} (hx : xs.length ≤ 4611686018427387904) (k1 : See 3 l TVo p xs) (k2 : See 3 l TVo q ys) (H : St W l w) :
    cl Try.prog 9 [tSlc.enc p, tSlc.enc q] tBool w fun r w' => (r = true ↔ xs = ys) ∧ St W l w' := by
  have h1 := k1.len H
  have h2 := k2.len H
  refine F9_ok ?_
  unfold F9
  rw [h1, h2]
  by_cases hl : xs.length = ys.length
  · rw [if_neg (by simp [hl])]
    refine lp_p (fun i w => 0 ≤ i ∧ i ≤ xs.length ∧ xs.take i.toNat = ys.take i.toNat ∧ St W l w) (fun i => (xs.length - i).toNat)
      ⟨Int.le_refl 0, by omega, by simp, H⟩ ?_
    clear H
    rintro i w ⟨i0, i1, he, H⟩ K hK
    unfold F9_l1
    rw [h1]
    split
    · rename_i hi
      have hi : i < xs.length := by simpa using hi
      have hx : xs[i.toNat]? = some xs[i.toNat] := List.getElem?_eq_getElem (by omega)
      have hy : ys[i.toNat]? = some ys[i.toNat] := List.getElem?_eq_getElem (by omega)
      have htx : xs.take (i.toNat + 1) = xs.take i.toNat ++ [xs[i.toNat]] := by rw [List.take_succ_eq_append_getElem (by omega)]
      have hty : ys.take (i.toNat + 1) = ys.take i.toNat ++ [ys[i.toNat]] := by rw [List.take_succ_eq_append_getElem (by omega)]
      generalize xs[i.toNat] = x at hx htx
      generalize ys[i.toNat] = y at hy hty
      refine dr_st H fun w H => ?_
      obtain ⟨a, ha⟩ := k1.ix (i := i) H i0 hi
      obtain ⟨b, hb⟩ := k2.ix (i := i) H i0 (by omega)
      refine ex_i a ha ?_
      refine ex_i b hb ?_
      refine ex_i x.Slot (k1.fld (U := tInt .i64) ha hx rfl H) ?_
      refine ex_i y.Slot (k2.fld (U := tInt .i64) hb hy rfl H) ?_
      refine ex_i a (fun _ => ha) ?_
      refine ex_i b (fun _ => hb) ?_
      refine ex_i x.B (fun _ => k1.fld (U := tInt .i64) ha hx rfl H) ?_
      refine ex_i y.B (fun _ => k2.fld (U := tInt .i64) hb hy rfl H) ?_
      refine ex_i a (fun _ => ha) ?_
      refine ex_i b (fun _ => hb) ?_
      refine ex_i x.V (fun _ => k1.fld (U := tStr) ha hx rfl H) ?_
      refine ex_i y.V (fun _ => k2.fld (U := tStr) hb hy rfl H) ?_
      by_cases hxy : x = y
      · subst hxy
        rw [if_neg (by simp)]
        have e1 : IntKind.i64.wrap (i + 1) = i + 1 := wrap_i64 (by omega) (by omega)
        have e2 : (i + 1).toNat = i.toNat + 1 := by omega
        rw [e1]
        refine hK _ _ ⟨by omega, by omega, ?_, H⟩ (by omega)
        rw [e2, htx, hty, he]
      · rw [if_pos ?_]
        · refine ⟨⟨fun h => by simp at h, fun h => ?_⟩, H⟩
          subst h
          rw [hx] at hy
          exact absurd (by simpa using hy) hxy
        · obtain ⟨x1, x2, x3⟩ := x
          obtain ⟨y1, y2, y3⟩ := y
          simp only [Bool.or_eq_true, bne_iff_ne, ne_eq, Bool.not_eq_true', beq_eq_false_iff_ne]
          simp only [S46.mk.injEq, not_and] at hxy
          by_cases c1 : x1 = y1
          · by_cases c2 : x2 = y2
            · exact .inr (hxy c1 c2)
            · exact .inl (.inr c2)
          · exact .inl (.inl c1)
    · rename_i hi
      have hi : i = xs.length := by simp at hi; omega
      subst hi
      refine ⟨⟨fun _ => ?_, fun _ => rfl⟩, H⟩
      simp only [Int.toNat_natCast] at he
      rw [List.take_length, hl, List.take_length] at he
      exact he
  · rw [if_pos (by simp; omega)]
    exact ⟨⟨fun h => by simp at h, fun h => absurd (congrArg List.length h) hl⟩, H⟩
theorem few_spec {x : Act} (hx : x.Keep.len ≤ x.Keep.cap) (H : St W l w) : cl Try.prog 13 [TAct.enc x] TAct w fun r w' => r.Kind = x.Kind ∧ r.N = x.N ∧ r.Slot = x.Slot ∧ r.B = x.B ∧ r.V = x.V.take 1100 ∧ St W l w' := by
  have lenA : ∀ y : Act, (TAct.cells y).length = 6 := fun _ => rfl
  refine F13_ok ?_
  unfold F13
  refine nw_st H fun b2 w H => ?_
  refine nw_st H fun b4 w H => ?_
  refine ld_st (x := x.Keep) 1 H rfl rfl rfl ?_
  have fin : ∀ (w : World) (y : Act), y.Kind = x.Kind → y.N = x.N → y.Slot = x.Slot → y.B = x.B → y.V = x.V.take 1100 → St W (cel b4 (TAct.cells Z38) 39 :: cel b2 (TAct.cells y) 39 :: l) w →
      F13_j2 ⟨b2, 0, none⟩ ⟨b4, 0, none⟩ w fun r w' => r.Kind = x.Kind ∧ r.N = x.N ∧ r.Slot = x.Slot ∧ r.B = x.B ∧ r.V = x.V.take 1100 ∧ St W l w' := by
    intro w y h1 h2 h3 h4 h5 H
    unfold F13_j2
    refine vld_st (x := y) 1 H rfl ?_
    refine vst_st (x := Z38) (y := y) lenA 0 H rfl fun w H => ?_
    refine vld_st (x := y) 0 H rfl ?_
    exact ⟨h1, h2, h3, h4, h5, H.drop.drop⟩
  have mid : ∀ (w : World) (y : Act), y.Kind = x.Kind → y.N = x.N → y.Slot = x.Slot → y.B = x.B → y.V = x.V → St W (cel b4 (TAct.cells Z38) 39 :: cel b2 (TAct.cells y) 39 :: l) w →
      F13_j1 ⟨b2, 0, none⟩ ⟨b4, 0, none⟩ w fun r w' => r.Kind = x.Kind ∧ r.N = x.N ∧ r.Slot = x.Slot ∧ r.B = x.B ∧ r.V = x.V.take 1100 ∧ St W l w' := by
    intro w y h1 h2 h3 h4 h5 H
    unfold F13_j1
    refine ld_st (x := y.V) 1 H rfl rfl rfl ?_
    rw [h5]
    by_cases hv : 1100 < x.V.length
    · rw [if_pos (by simp; omega)]
      refine ld_st (x := y.V) 1 H rfl rfl rfl ?_
      refine ex_i (x.V.take 1100) ⟨by omega, by omega, by rw [h5]; omega, by rw [h5]; rfl⟩ ?_
      refine st_st (x := x.V.take 1100) 1 H rfl rfl (Nat.le_of_ble_eq_true rfl) fun w H => ?_
      exact fin w { y with V := x.V.take 1100 } h1 h2 h3 h4 rfl (H.front 1)
    · rw [if_neg (by simp; omega)]
      exact fin w y h1 h2 h3 h4 (by rw [h5, List.take_of_length_le (by omega)]) H
  by_cases hk : 4 < x.Keep.len
  · rw [if_pos (by simp; omega)]
    refine ld_st (x := x.Keep) 1 H rfl rfl rfl ?_
    refine sub_st (by omega) (by omega) (by omega) (by omega) fun s18 _ => ?_
    refine st_st (x := s18) 1 H rfl rfl (Nat.le_of_ble_eq_true rfl) fun w H => ?_
    exact mid w { x with Keep := s18 } rfl rfl rfl rfl rfl (H.front 1)
  · rw [if_neg (by simp; omega)]
    exact mid w x rfl rfl rfl rfl rfl H
end
end Go.Proofs.Ytjkmeooncmhonaa.Ballot
