/- The law Rises: walk. -/
import Derived.Test.YtjkmeooncmhonaaBE
import Derived.Test.YtjkmeooncmhonaaOp
import Derived.Test.YtjkmeooncmhonaaFL4
namespace Go.Proofs.Ytjkmeooncmhonaa.Ballot
open Go Go.Proofs.Ytjkmeooncmhonaa.Cf Go.Proofs.Ytjkmeooncmhonaa.Wire Go.Proofs.Ytjkmeooncmhonaa.Disk
set_option linter.unusedVariables false
set_option linter.unusedSimpArgs false
set_option maxRecDepth 100000
/-! ### plain -/
abbrev Sorted (xs : List Vote) : Prop := xs.Pairwise fun x y => x.Slot < y.Slot
def SubV (xs ys : List Vote) (k j : Nat) : Prop := ∀ x ∈ xs.drop k, ∃ y ∈ ys.drop j, y.Slot = x.Slot
theorem drop_cons {α : Type} {xs : List α} {k : Nat} {x : α} (h : xs[k]? = some x) : xs.drop k = x :: xs.drop (k + 1) := by
  have hk := (List.getElem?_eq_some_iff.1 h)
  obtain ⟨h1, h2⟩ := hk
  rw [List.drop_eq_getElem_cons h1, h2]
theorem sub_both {xs ys : List Vote} {k j : Nat} {x y : Vote} (sx : Sorted xs) (h : SubV xs ys k j) (hx : xs[k]? = some x) (hy : ys[j]? = some y) (e : x.Slot = y.Slot) : SubV xs ys (k + 1) (j + 1) := by
  intro z hz
  have s1 : Sorted (xs.drop k) := List.Pairwise.drop sx
  unfold SubV at h
  rw [drop_cons hx] at h s1
  rw [drop_cons hy] at h
  obtain ⟨u, hu, he⟩ := h z (by simp [hz])
  have := (List.pairwise_cons.1 s1).1 z hz
  rcases List.mem_cons.1 hu with rfl | hu
  · omega
  · exact ⟨u, hu, he⟩
theorem sub_one {xs ys : List Vote} {k j : Nat} {y : Vote} (sx : Sorted xs) (sy : Sorted ys) (h : SubV xs ys k j) (hy : ys[j]? = some y) (e : ∀ x, xs[k]? = some x → x.Slot ≠ y.Slot) : SubV xs ys k (j + 1) := by
  intro z hz
  have s1 : Sorted (xs.drop k) := List.Pairwise.drop sx
  have s2 : Sorted (ys.drop j) := List.Pairwise.drop sy
  unfold SubV at h
  rw [drop_cons hy] at h s2
  obtain ⟨u, hu, he⟩ := h z hz
  rcases List.mem_cons.1 hu with rfl | hu
  · exfalso
    cases hx : xs[k]? with
    | none =>
      rw [List.drop_eq_nil_of_le (List.getElem?_eq_none_iff.1 hx)] at hz
      simp at hz
    | some x =>
      have hne := e x hx
      rw [drop_cons hx] at h s1 hz
      rcases List.mem_cons.1 hz with rfl | hz
      · exact hne he.symm
      · have h1 := (List.pairwise_cons.1 s1).1 z hz
        obtain ⟨v, hv, hve⟩ := h x (by simp)
        rcases List.mem_cons.1 hv with rfl | hv
        · exact hne hve.symm
        · have h2 := (List.pairwise_cons.1 s2).1 v hv
          omega
  · exact ⟨u, hu, he⟩
theorem sub_end {xs ys : List Vote} {k : Nat} (hk : k ≤ xs.length) (h : SubV xs ys k ys.length) : k = xs.length := by
  by_cases c : k < xs.length
  · have hx : xs[k]? = some xs[k] := List.getElem?_eq_getElem c
    unfold SubV at h
    rw [drop_cons hx, List.drop_length] at h
    obtain ⟨y, hy, _⟩ := h xs[k] List.mem_cons_self
    simp at hy
  · omega
theorem lee_sub {s t : Int × Es} (g : Good s) (g' : Good t) (h : Lee s t) : SubV (listV s.2) (listV t.2) 0 0 := by
  intro x hx
  have hx := (listV_mem g).1 (by simpa using hx)
  obtain ⟨y, hy, _⟩ := h.v _ _ hx
  have he := (g'.ok _ (lookup_mem hy)).1
  simp only at he
  refine ⟨y, ?_, he⟩
  rw [List.drop_zero]
  exact (listV_mem g').2 (by rw [he]; exact hy)
theorem lee_at {s t : Int × Es} (g : Good s) (g' : Good t) (h : Lee s t) {x y : Vote} (hx : x ∈ listV s.2) (hy : y ∈ listV t.2) (e : x.Slot = y.Slot) : x.B < y.B ∨ x = y := by
  have hx := (listV_mem g).1 hx
  have hy := (listV_mem g').1 hy
  obtain ⟨z, hz, h1⟩ := h.v _ _ hx
  rw [e, hy] at hz
  cases hz
  exact h1
theorem prepR_zero {rs : List Rec} {b : Int} : (prepR rs b).2 = 0 ↔ (1 ≤ b ∧ b ≤ 1099511627776 ∧ (fold rs).1 ≤ b) := by
  have hn := numB_iff (b := b)
  unfold prepR whyR
  cases h : numB b with
  | false =>
    simp only [if_true]
    rw [h] at hn
    constructor
    · intro h; simp at h
    · rintro ⟨h1, h2, h3⟩
      have := hn.2 ⟨h1, h2⟩
      simp at this
  | true =>
    have h2 := hn.1 h
    simp only [Bool.true_eq_false, if_false]
    by_cases c : b < (fold rs).1
    · simp [c] <;> omega
    · simp [c]
      split <;> simp <;> omega
theorem prepR_prom {rs : List Rec} {b : Int} (h : (prepR rs b).2 = 0) : (fold (prepR rs b).1).1 = b := by
  have h1 := prepR_zero.1 h
  have hw : whyR rs b = 0 := by
    unfold whyR
    rw [numB_iff.2 ⟨h1.1, h1.2.1⟩, if_neg (by simp), if_neg (by omega)]
  unfold prepR
  rw [if_neg (by simp [hw])]
  by_cases c : (fold rs).1 < b
  · rw [if_pos c, fold_app]
    simp only [stepR]; omega
  · rw [if_neg c]
    simp only; omega
theorem prepR_same {rs : List Rec} {b : Int} : (fold (prepR rs b).1).2 = (fold rs).2 := by
  unfold prepR
  split
  · rfl
  · split
    · rw [fold_app]; rfl
    · rfl
theorem accR_prom {rs : List Rec} {b n : Int} {v : List UInt8} (hl : Legal (0, []) rs) (h : (accR rs b n v).2 = 0) : (fold rs).1 ≤ b ∧ (fold (accR rs b n v).1).1 = b := by
  have h0 : whyR rs b = 0 := by
    unfold accR at h
    by_cases c : whyR rs b = 231
    · rw [if_pos c] at h; simp at h
    · rw [if_neg c] at h
      split at h
      · simp at h
      · split at h
        · simp at h
        · by_cases c : whyR rs b ≠ 0
          · rw [if_pos c] at h; exact h
          · omega
  have hp : (fold rs).1 ≤ b := by
    unfold whyR at h0
    split at h0
    · simp at h0
    · split at h0
      · simp at h0
      · omega
  refine ⟨hp, ?_⟩
  have g := good_fold hl
  unfold accR at h ⊢
  rw [if_neg (by omega)] at h ⊢
  split at h
  · simp at h
  · rename_i c1
    rw [if_neg c1]
    split at h
    · simp at h
    · rename_i c2
      rw [if_neg c2, if_neg (by omega)]
      rw [if_neg (by omega)] at h
      cases hlk : (fold rs).2.lookup n with
      | none =>
        simp only
        rw [fold_app]
        simp only [stepR]; omega
      | some o =>
        rw [hlk] at h
        simp only at h ⊢
        by_cases cB : o.B = b
        · rw [if_pos cB] at h ⊢
          have := (g.ok _ (lookup_mem hlk)).2.2.2.2.1
          simp only at this
          split <;> simp only <;> omega
        · rw [if_neg cB, fold_app]
          simp only [stepR]; omega
section
variable {W w : World} {l l' : List Assn}
theorem rises_walk (W : World) (s : Slc) (g0 : G29 W s) : cl Try.prog 4 [tSlc.enc s] tBool W fun r w' => r = true ∧ RowKit.Below W.heap.size W w' := by
  obtain ⟨⟨hcap, hcap2⟩, acts, hI, hro⟩ := g0
  have hsl := hro.1
  have H := ro_old hro (St.start W)
  have lenA : ∀ y : Act, (TAct.cells y).length = 6 := fun _ => rfl
  have kA : See 6 [ro TAct s acts, old W] TAct s acts := See.ro lenA (Know.here (m := RoP.mono))
  refine F4_ok ?_
  unfold F4
  refine cl_mono (new_spec (by omega) (by omega) H) ?_
  rintro ⟨p1, e1⟩ w ⟨he, d, hp, H⟩
  simp only at he hp
  subst he; subst hp
  refine cl_mono (hopen_spec H) ?_
  rintro ⟨p2, e2⟩ w ⟨he, a, hp, H⟩
  simp only at he hp
  subst he; subst hp
  refine cl_mono (awake_spec H) ?_
  rintro r w ⟨rfl, H⟩
  rw [if_neg (by simp)]
  refine nwS_st H fun b8 w H => ?_
  have H := row_new (sz := 3) (m := 0) rfl H
  refine lp_p (fun p w => 0 ≤ p.2.2 ∧ p.2.2 ≤ 40 ∧ ∃ rs : List Rec, rs.length ≤ p.2.2 ∧ Legal (0, []) rs ∧ p.1 = (fold rs).1 ∧ St W (row TVo 47 3 p.2.1 (listV (fold rs).2) :: hasA a d rs 0 :: [ro TAct s acts, old W]) w) (fun p => (40 - p.2.2).toNat)
    ⟨Int.le_refl 0, by simp only; omega, [], by simp, trivial, rfl, by rw [aw_n]; exact H⟩ ?_
  clear H
  rintro ⟨pr, was, i⟩ w ⟨i0, i1, rs, hrl, hleg, hpr, H⟩ K hK
  simp only at i0 i1 hrl hpr H
  have hsl2 : (s.len : Int) = acts.length := by omega
  unfold F4_l1
  simp only
  rw [hsl2]
  split
  rotate_left
  · exact ⟨by trivial, H.drop.drop.drop.below⟩
  rename_i hi
  have hi : i < acts.length ∧ i < 40 := by simpa using hi
  have hx : acts[i.toNat]? = some acts[i.toNat] := List.getElem?_eq_getElem (by omega)
  have hmem : acts[i.toNat] ∈ acts := List.getElem_mem _
  generalize acts[i.toNat] = x at hx hmem
  have gx := hI x hmem
  have gk := gx.2.2.2.2.2.1
  obtain ⟨a15, ha15⟩ := kA.tail.tail.ix (i := i) H i0 hi.1
  refine ex_i a15 ha15 ?_
  refine ex_i x (kA.tail.tail.rd ha15 hx H) ?_
  refine cl_mono (few_spec gk.1 H) ?_
  rintro y w ⟨y1, y2, y3, y4, y5, H⟩
  refine nw_st H fun b19 w H => ?_
  refine vst_st (x := Z38) (y := y) lenA 0 H rfl fun w H => ?_
  clear y1 y2 y3 y4 y5
  -- what follows either deed
  have fin : ∀ (w : World) (rs' : List Rec), (∃ e, rs' = rs ++ e ∧ e.length ≤ 1) → Legal (0, []) rs' → St W (hasA a d rs' 0 :: row TVo 47 3 was (listV (fold rs).2) :: cel b19 (TAct.cells y) 39 :: [ro TAct s acts, old W]) w →
      F4_j2 (some ⟨a, 0, none⟩, 0) pr was i w K fun r w' => r = true ∧ RowKit.Below W.heap.size W w' := by
    rintro w rs' ⟨e, rfl, hel⟩ hleg' H
    have g1 := good_fold hleg
    have g2 := good_fold hleg'
    have hle := lee_fold hleg'
    have hl2 : (rs ++ e).length ≤ i + 1 := by rw [List.length_append]; omega
    unfold F4_j2
    refine cl_mono (hvotes_spec (by omega) H) ?_
    intro r24 w H
    refine cl_mono (hprom_spec (H.front 1)) ?_
    rintro r26 w ⟨rfl, H⟩
    rw [if_neg (by rw [hpr]; have := hle.p; simp; omega)]
    have sx := listV_sorted g1
    have sy := listV_sorted g2
    have hsub := lee_sub g1 g2 hle
    have hat := fun x y => lee_at g1 g2 hle (x := x) (y := y)
    have hyp : ∀ y ∈ listV (fold (rs ++ e)).2, y.B ≤ (fold (rs ++ e)).1 := fun y hy => (listV_ok g2 hy).2.2.2.1
    have hxn : (listV (fold rs).2).length ≤ 1000 := by
      rw [listV_len]
      have := fold_len (rs := rs) (s := (0, []))
      unfold fold
      simp only [List.length_nil] at this
      omega
    have hyn : (listV (fold (rs ++ e)).2).length ≤ 1000 := by
      rw [listV_len]
      have := fold_len (rs := rs ++ e) (s := (0, []))
      unfold fold
      simp only [List.length_nil] at this
      omega
    have kY : See 3 (hasA a d (rs ++ e) 0 :: row TVo 47 3 r24 (listV (fold (rs ++ e)).2) :: row TVo 47 3 was (listV (fold rs).2) :: cel b19 (TAct.cells y) 39 :: [ro TAct s acts, old W]) TVo r24 (listV (fold (rs ++ e)).2) := See.row (fun _ => rfl) 1 rfl
    have kX : See 3 (hasA a d (rs ++ e) 0 :: row TVo 47 3 r24 (listV (fold (rs ++ e)).2) :: row TVo 47 3 was (listV (fold rs).2) :: cel b19 (TAct.cells y) 39 :: [ro TAct s acts, old W]) TVo was (listV (fold rs).2) := See.row (fun _ => rfl) 2 rfl
    have hny := kY.len H
    have hnx := kX.len H
    generalize hP : (fold (rs ++ e)).1 = P at *
    have done : ∀ w, St W (hasA a d (rs ++ e) 0 :: row TVo 47 3 r24 (listV (fold (rs ++ e)).2) :: row TVo 47 3 was (listV (fold rs).2) :: cel b19 (TAct.cells y) 39 :: [ro TAct s acts, old W]) w → K (P, r24, IntKind.i64.wrap (i + 1)) w := by
      intro w H
      have e1 : IntKind.i64.wrap (i + 1) = i + 1 := wrap_i64 (by omega) (by omega)
      rw [e1]
      exact hK _ _ ⟨by simp only; omega, by simp only; omega, rs ++ e, hl2, hleg', hP.symm, (H.ord [2, 3]).drop.drop.front 1⟩ (by simp only; omega)
    have hprom : ∀ {w}, St W (hasA a d (rs ++ e) 0 :: row TVo 47 3 r24 (listV (fold (rs ++ e)).2) :: row TVo 47 3 was (listV (fold rs).2) :: cel b19 (TAct.cells y) 39 :: [ro TAct s acts, old W]) w → cl Try.prog 15 [.pointer (some ⟨a, 0, none⟩)] (tInt .i64) w fun r w' => r = P ∧ St W (hasA a d (rs ++ e) 0 :: row TVo 47 3 r24 (listV (fold (rs ++ e)).2) :: row TVo 47 3 was (listV (fold rs).2) :: cel b19 (TAct.cells y) 39 :: [ro TAct s acts, old W]) w' := by
      intro w H
      rw [← hP]
      exact hprom_spec H
    generalize listV (fold (rs ++ e)).2 = ys at *
    generalize listV (fold rs).2 = xs at *
    generalize hL : (hasA a d (rs ++ e) 0 :: row TVo 47 3 r24 ys :: row TVo 47 3 was xs :: cel b19 (TAct.cells y) 39 :: [ro TAct s acts, old W]) = L at *
    refine lp_p (fun p w => 0 ≤ p.1 ∧ p.1 ≤ xs.length ∧ 0 ≤ p.2 ∧ p.2 ≤ ys.length ∧ SubV xs ys p.1.toNat p.2.toNat ∧ St W L w) (fun p => (ys.length - p.2).toNat)
      ⟨Int.le_refl 0, by simp only; omega, Int.le_refl 0, by simp only; omega, hsub, H⟩ ?_
    clear H hsub
    rintro ⟨k, j⟩ w ⟨k0, k1, j0, j1, hs, H⟩ K2 hK2
    simp only at k0 k1 j0 j1 hs
    unfold F4_l3
    simp only
    rw [hny, hnx]
    split
    rotate_left
    · rename_i hj
      have hj : j = ys.length := by simp at hj; omega
      subst hj
      have := sub_end (xs := xs) (ys := ys) (k := k.toNat) (by omega) (by simpa using hs)
      rw [if_neg (by simp; omega)]
      refine cl_mono (hprom H) ?_
      rintro r w ⟨rfl, H⟩
      exact done w H
    rename_i hj
    have hj : j < ys.length := by simpa using hj
    have hv : ys[j.toNat]? = some ys[j.toNat] := List.getElem?_eq_getElem (by omega)
    have hvm : ys[j.toNat] ∈ ys := List.getElem_mem _
    have hlt : ∀ u, 0 < j → ys[(j - 1).toNat]? = some u → u.Slot < ys[j.toNat].Slot := by
      intro u h0 hu
      obtain ⟨h1, h2⟩ := List.getElem?_eq_some_iff.1 hu
      have := (List.pairwise_iff_getElem.1 sy) (j - 1).toNat j.toNat h1 (by omega) (by omega)
      rw [h2] at this
      exact this
    generalize ys[j.toNat] = v at hv hvm hlt
    refine dr_st H fun w H => ?_
    obtain ⟨av, hav⟩ := kY.ix (i := j) H j0 hj
    have hg : ∃ (a57 : Addr) (z : Int), ((decide (j > 0)) = true → IxA r24 3 (IntKind.i64.wrap (j - 1)) a57) ∧ (∀ w, St W L w → (decide (j > 0)) = true → RdAt (tInt .i64) (a57.add 0) w z) ∧ (0 < j → z < v.Slot) := by
      by_cases c : 0 < j
      · have e1 : IntKind.i64.wrap (j - 1) = j - 1 := wrap_i64 (by omega) (by omega)
        rw [e1]
        obtain ⟨au, hau⟩ := kY.ix (i := j - 1) H (by omega) (by omega)
        have hu : ys[(j - 1).toNat]? = some ys[(j - 1).toNat] := List.getElem?_eq_getElem (by omega)
        exact ⟨au, _, fun _ => hau, fun w H _ => kY.fld (U := tInt .i64) hau hu rfl H, fun h => hlt _ h hu⟩
      · exact ⟨⟨0, 0, none⟩, 0, fun h => absurd (by simpa using h) c, fun _ _ h => absurd (by simpa using h) c, fun h => absurd h c⟩
    obtain ⟨a57, z, z1, z2, z3⟩ := hg
    refine ex_i a57 z1 ?_
    refine ex_i av (fun _ => hav) ?_
    refine ex_i z (z2 w H) ?_
    refine ex_i v.Slot (fun _ => kY.fld (U := tInt .i64) hav hv rfl H) ?_
    rw [if_neg (by simp; intro h; have := z3 h; omega)]
    refine ex_i av hav ?_
    refine ex_i v.B (kY.fld (U := tInt .i64) hav hv rfl H) ?_
    refine cl_mono (hprom H) ?_
    rintro r w ⟨rfl, H⟩
    refine ⟨z2 w H, fun _ => kY.fld (U := tInt .i64) hav hv rfl H, kY.fld (U := tInt .i64) hav hv rfl H, ?_⟩
    have hvb := hyp v hvm
    rw [show decide (v.B > r) = false from by simp; omega]
    unfold F4_j5
    rw [if_neg (by simp)]
    refine dr_st H fun w H => ?_
    have e1 : IntKind.i64.wrap (j + 1) = j + 1 := wrap_i64 (by omega) (by omega)
    have e2 : (j + 1).toNat = j.toNat + 1 := by omega
    by_cases c : k < xs.length
    · have hu : xs[k.toNat]? = some xs[k.toNat] := List.getElem?_eq_getElem (by omega)
      have hum : xs[k.toNat] ∈ xs := List.getElem_mem _
      generalize xs[k.toNat] = u at hu hum
      obtain ⟨au, hau⟩ := kX.ix (i := k) H k0 c
      refine ex_i au (fun _ => hau) ?_
      refine ex_i av (fun _ => hav) ?_
      refine ex_i u.Slot (fun _ => kX.fld (U := tInt .i64) hau hu rfl H) ?_
      refine ex_i v.Slot (fun _ => kY.fld (U := tInt .i64) hav hv rfl H) ?_
      by_cases hq : u.Slot = v.Slot
      · rw [if_pos (by rw [hnx]; simp [hq, c])]
        refine dr_st H fun w H => ?_
        refine ex_i av hav ?_
        refine ex_i au hau ?_
        refine ex_i v.B (kY.fld (U := tInt .i64) hav hv rfl H) ?_
        refine ex_i u.B (kX.fld (U := tInt .i64) hau hu rfl H) ?_
        refine ex_i av (fun _ => hav) ?_
        refine ex_i au (fun _ => hau) ?_
        refine ex_i v.B (fun _ => kY.fld (U := tInt .i64) hav hv rfl H) ?_
        refine ex_i u.B (fun _ => kX.fld (U := tInt .i64) hau hu rfl H) ?_
        refine ex_i av (fun _ => hav) ?_
        refine ex_i au (fun _ => hau) ?_
        refine ex_i v.V (fun _ => kY.fld (U := tStr) hav hv rfl H) ?_
        refine ex_i u.V (fun _ => kX.fld (U := tStr) hau hu rfl H) ?_
        have hr := hat u v hum hvm hq
        rw [if_neg ?_]
        · unfold F4_j4
          have e3 : IntKind.i64.wrap (k + 1) = k + 1 := wrap_i64 (by omega) (by omega)
          have e4 : (k + 1).toNat = k.toNat + 1 := by omega
          rw [e1, e3]
          refine hK2 _ _ ⟨by simp only; omega, by simp only; omega, by simp only; omega, by simp only; omega, ?_, H⟩ (by simp only; omega)
          simp only
          rw [e2, e4]
          exact sub_both sx hs hu hv hq
        · rcases hr with hr | rfl
          · simp; omega
          · simp
      · rw [if_neg (by simp [hq])]
        unfold F4_j4
        rw [e1]
        refine hK2 _ _ ⟨by simp only; omega, by simp only; omega, by simp only; omega, by simp only; omega, ?_, H⟩ (by simp only; omega)
        simp only
        rw [e2]
        exact sub_one sx sy hs hv (fun x hx2 => by rw [hu] at hx2; cases hx2; exact hq)
    · have hc : ¬ (decide (k < (was.len : Int))) = true := by rw [hnx]; simpa using c
      refine ex_i ⟨0, 0, none⟩ (fun h => absurd h hc) ?_
      refine ex_i ⟨0, 0, none⟩ (fun h => absurd h hc) ?_
      refine ex_i 0 (fun h => absurd h hc) ?_
      refine ex_i 0 (fun h => absurd h hc) ?_
      rw [if_neg (by rw [Bool.and_eq_true]; exact fun h => hc h.1)]
      unfold F4_j4
      rw [e1]
      refine hK2 _ _ ⟨by simp only; omega, by simp only; omega, by simp only; omega, by simp only; omega, ?_, H⟩ (by simp only; omega)
      simp only
      rw [e2]
      refine sub_one sx sy hs hv (fun x hx2 => ?_)
      have := (List.getElem?_eq_some_iff.1 hx2).1
      omega
  have cB : ∀ {w : World} {l : List Assn}, St W (cel b19 (TAct.cells y) 39 :: l) w → RdAt (tInt .i64) (Addr.add ⟨b19, 0, none⟩ 3) w y.B := fun H => rdat_cel (tInt .i64) H rfl rfl
  refine ld_st (x := y.Kind) 0 H rfl rfl rfl ?_
  by_cases hk : y.Kind = 0
  · rw [if_pos (by simp [hk])]
    refine ld_st (x := y.B) 0 H rfl rfl rfl ?_
    refine cl_mono (hprep_spec (b := y.B) (by omega) (H.front 2)) ?_
    rintro ⟨q, e⟩ w ⟨he, h2, h3⟩
    simp only at he h2 h3
    have hz := prepR_zero (rs := rs) (b := y.B)
    have hx := prepR_ext rs y.B
    have hlg := prepR_legal (b := y.B) hleg
    by_cases c : (prepR rs y.B).2 = 0
    · have H := h2 c
      rw [c] at he
      subst he
      have hb := hz.1 c
      refine dr_st H fun w H => ?_
      refine ex_i y.B (cB (H.front 2)) ?_
      refine ex_i y.B (fun _ => cB (H.front 2)) ?_
      refine ex_i y.B (fun _ => cB (H.front 2)) ?_
      rw [if_neg (by rw [hpr]; simp; omega), if_pos (by simp)]
      have hn : (listV (fold rs).2).length ≤ 4611686018427387904 := by
        rw [listV_len]
        have := fold_len (rs := rs) (s := (0, []))
        unfold fold
        simp only [List.length_nil] at this
        omega
      refine cl_mono (same_spec hn (See.row (fun _ => rfl) 0 rfl) (See.row (fun _ => rfl) 3 rfl) H) ?_
      rintro r w ⟨hr, H⟩
      have hr := hr.2 rfl
      subst hr
      refine ⟨cB (H.front 2), fun _ => cB (H.front 2), fun _ => cB (H.front 2), ?_⟩
      rw [if_neg (by simp)]
      refine ex_i y.B (cB (H.front 2)) ?_
      refine cl_mono (hprom_spec (H.front 1)) ?_
      rintro r w ⟨rfl, H⟩
      refine ⟨cB (H.front 2), fun _ => cB (H.front 2), fun _ => cB (H.front 2), cB (H.front 2), ?_⟩
      rw [prepR_prom c]
      unfold F4_j6
      rw [if_neg (by simp)]
      exact fin w _ hx hlg ((H.ord [1, 0, 3, 2]).drop)
    · have H := (h3 c).2
      refine dr_st H fun w H => ?_
      refine ex_i y.B (cB (H.front 1)) ?_
      refine ex_i y.B (fun _ => cB (H.front 1)) ?_
      refine ex_i y.B (fun _ => cB (H.front 1)) ?_
      have c2 : ¬ e = 0 := by rw [he]; exact c
      have c3 : ¬ (1 ≤ y.B ∧ y.B ≤ 1099511627776 ∧ (fold rs).1 ≤ y.B) := fun h => c (hz.2 h)
      rw [if_neg (by
        rw [hpr, show (e == 0) = false from by simpa using c2]
        simp only [ge_iff_le, Bool.not_eq_true', Bool.false_beq, Bool.not_eq_false', Bool.not_not, Bool.and_eq_true, decide_eq_true_eq, Bool.not_eq_true]
        intro h
        exact c3 (by simpa [and_assoc] using h)), if_neg (by simpa using c2)]
      unfold F4_j6
      rw [if_neg (by simp)]
      exact fin w _ hx hlg (H.ord [0, 2, 1])
  · rw [if_neg (by simpa using hk)]
    refine ld_st (x := y.B) 0 H rfl rfl rfl ?_
    refine ld_st (x := y.Slot) 0 H rfl rfl rfl ?_
    refine ld_st (x := y.V) 0 H rfl rfl rfl ?_
    refine cl_mono (hacc_spec (b := y.B) (n := y.Slot) (v := y.V) (by omega) (H.front 2)) ?_
    rintro e w ⟨he, H⟩
    have hx := accR_ext rs y.B y.Slot y.V
    have hlg := accR_legal (b := y.B) (n := y.Slot) (v := y.V) hleg
    have hz := accR_prom (b := y.B) (n := y.Slot) (v := y.V) hleg
    refine dr_st H fun w H => ?_
    by_cases c : (accR rs y.B y.Slot y.V).2 = 0
    · rw [c] at he
      subst he
      have hz := hz c
      rw [if_pos (by simp)]
      refine ex_i y.B (cB (H.front 1)) ?_
      rw [if_neg (by rw [hpr]; simp; omega)]
      refine ex_i y.B (cB (H.front 1)) ?_
      refine cl_mono (hprom_spec H) ?_
      rintro r w ⟨rfl, H⟩
      refine ⟨cB (H.front 1), cB (H.front 1), ?_⟩
      rw [hz.2]
      unfold F4_j7
      rw [if_neg (by simp)]
      exact fin w _ hx hlg (H.ord [0, 2, 1])
    · have c2 : ¬ e = 0 := by rw [he]; exact c
      rw [if_neg (by simpa using c2)]
      unfold F4_j7
      rw [if_neg (by simp)]
      exact fin w _ hx hlg (H.ord [0, 2, 1])
end
theorem _root_.Go.Proofs.Ytjkmeooncmhonaa.walkBallotRises (W : World) (s : Slc) (g0 : G29 W s) : cl Try.prog 4 [tSlc.enc s] tBool W fun r w' => r = true ∧ RowKit.Below W.heap.size W w' := rises_walk W s g0
end Go.Proofs.Ytjkmeooncmhonaa.Ballot
