/- The law Lasts: walk. -/
import Derived.Test.YtjkmeooncmhonaaBQ
import Derived.Test.YtjkmeooncmhonaaOp
import Derived.Test.YtjkmeooncmhonaaFL5
namespace Go.Proofs.Ytjkmeooncmhonaa.Ballot
open Go Go.Proofs.Ytjkmeooncmhonaa.Cf Go.Proofs.Ytjkmeooncmhonaa.Wire Go.Proofs.Ytjkmeooncmhonaa.Disk
set_option linter.unusedVariables false
set_option linter.unusedSimpArgs false
set_option maxRecDepth 100000
section
variable {W w : World} {l l' : List Assn}
theorem lasts_walk (W : World) (s m : Slc) (keep : Int) (g0 : G29 W s) (g1 : G29 W m) : cl Try.prog 5 [tSlc.enc s, tSlc.enc m, .int .i64 keep] tBool W fun r w' => r = true ∧ RowKit.Below W.heap.size W w' := by
  obtain ⟨⟨hcap, hcap2⟩, acts, hI, hro⟩ := g0
  obtain ⟨⟨hcap3, hcap4⟩, more, hJ, hro2⟩ := g1
  have hsl := hro.1
  have hml := hro2.1
  have H : St W [ro TAct m more, ro TAct s acts, old W] W := (ro_old hro2 ((ro_old hro (St.start W)).front 1)).ord [0, 2, 1]
  have lenA : ∀ y : Act, (TAct.cells y).length = 6 := fun _ => rfl
  generalize hB : ([ro TAct m more, ro TAct s acts, old W] : List Assn) = base at *
  have kA : See 6 base TAct s acts := by rw [← hB]; exact See.ro lenA (Know.tail (Know.here (m := RoP.mono)))
  have kM : See 6 base TAct m more := by rw [← hB]; exact See.ro lenA (Know.here (m := RoP.mono))
  have bel : ∀ w, St W base w → RowKit.Below W.heap.size W w := by
    intro w H
    rw [← hB] at H
    exact H.drop.drop.below
  clear hB
  refine F5_ok ?_
  unfold F5
  refine cl_mono (new_spec (by omega) (by omega) H) ?_
  rintro ⟨p1, e1⟩ w ⟨he, d, hp, H⟩
  simp only at he hp
  subst he; subst hp
  refine cl_mono (hopen_spec H) ?_
  rintro ⟨p2, e2⟩ w ⟨he, a, hp, H⟩
  simp only at he hp
  subst he; subst hp
  refine cl_mono (awake_spec H) ?_
  rintro r w ⟨rfl, H⟩
  rw [if_neg (by simp)]
  refine lp_p (fun i w => 0 ≤ i ∧ i ≤ 20 ∧ ∃ rs : List Rec, rs.length ≤ 2 * i ∧ Legal (0, []) rs ∧ St W (hasA a d rs 0 :: base) w) (fun i => (20 - i).toNat)
    ⟨Int.le_refl 0, by omega, [], by simp, trivial, H⟩ ?_
  clear H
  rintro i w ⟨i0, i1, rs, hrl, hleg, H⟩ K hK
  have hsl2 : (s.len : Int) = acts.length := by omega
  have hml2 : (m.len : Int) = more.length := by omega
  unfold F5_l1
  rw [hsl2]
  split
  · rename_i hi
    have hi : i < acts.length ∧ i < 20 := by simpa using hi
    have hx : acts[i.toNat]? = some acts[i.toNat] := List.getElem?_eq_getElem (by omega)
    have hmem : acts[i.toNat] ∈ acts := List.getElem_mem _
    generalize acts[i.toNat] = x at hx hmem
    have gk := (hI x hmem).2.2.2.2.2.1
    obtain ⟨ax, hax⟩ := kA.tail.ix (i := i) H i0 hi.1
    refine ex_i ax hax ?_
    refine ex_i x.B (kA.tail.fld (U := tInt .i64) hax hx rfl H) ?_
    refine cl_mono (hprep_any (by omega) H) ?_
    intro r16 w H
    have hx1 := prepR_ext rs x.B
    have hg1 := prepR_legal (b := x.B) hleg
    obtain ⟨e1, he1, hel1⟩ := hx1
    generalize (prepR rs x.B).1 = r1 at *
    refine dr_st H fun w H => ?_
    refine ex_i ax hax ?_
    refine ex_i ax hax ?_
    refine ex_i ax hax ?_
    have f : ∀ {w}, St W (hasA a d r1 0 :: base) w → RdAt (tInt .i64) (ax.add 3) w x.B ∧ RdAt (tInt .i64) (ax.add 2) w x.Slot := fun H => ⟨kA.tail.fld (U := tInt .i64) hax hx rfl H, kA.tail.fld (U := tInt .i64) hax hx rfl H⟩
    refine ex_i x.B (f H).1 ?_
    refine ex_i x.Slot (f H).2 ?_
    refine ex_i x (kA.tail.rd hax hx H) ?_
    refine cl_mono (few_spec gk.1 H) ?_
    rintro y w ⟨_, _, _, _, _, H⟩
    refine ⟨(f H).1, (f H).2, ?_⟩
    have hl1 : r1.length ≤ 2 * i + 1 := by rw [he1, List.length_append]; omega
    refine cl_mono (hacc_spec (b := x.B) (n := x.Slot) (v := y.V) (by omega) H) ?_
    rintro e w ⟨_, H⟩
    obtain ⟨e2, he2, hel2⟩ := accR_ext r1 x.B x.Slot y.V
    refine ⟨kA.tail.rd hax hx H, ?_⟩
    have e3 : IntKind.i64.wrap (i + 1) = i + 1 := wrap_i64 (by omega) (by omega)
    rw [e3]
    exact hK _ _ ⟨by omega, by omega, _, by rw [he2, List.length_append]; omega, accR_legal hg1, H⟩ (by omega)
  clear hK
  refine nc_st rfl ?_
  refine hsync_spec (by omega) H fun w H => ?_
  rw [if_neg (by simp)]
  refine cl_mono (hprom_spec H) ?_
  rintro r36 w ⟨rfl, H⟩
  refine cl_mono (hvotes_spec (by omega) H) ?_
  intro r38 w H
  have H : St W (hasA a d rs rs.length :: row TVo 47 3 r38 (listV (fold rs).2) :: base) w := H.front 1
  have hrl2 : rs.length ≤ 40 := by omega
  refine lp_p (fun i w => 0 ≤ i ∧ i ≤ 20 ∧ ∃ ext : List Rec, ext.length ≤ 2 * i ∧ Legal (0, []) (rs ++ ext) ∧ St W (hasA a d (rs ++ ext) rs.length :: row TVo 47 3 r38 (listV (fold rs).2) :: base) w) (fun i => (20 - i).toNat)
    ⟨Int.le_refl 0, by omega, [], by simp, by simpa using hleg, by simpa using H⟩ ?_
  clear H
  rintro i w ⟨i0, i1, ext, hrl, hleg2, H⟩ K hK
  have hln : (rs ++ ext).length ≤ 80 := by rw [List.length_append]; omega
  unfold F5_l2
  rw [hml2]
  split
  · rename_i hi
    have hi : i < more.length ∧ i < 20 := by simpa using hi
    have hx : more[i.toNat]? = some more[i.toNat] := List.getElem?_eq_getElem (by omega)
    have hmem : more[i.toNat] ∈ more := List.getElem_mem _
    generalize more[i.toNat] = x at hx hmem
    have gk := (hJ x hmem).2.2.2.2.2.1
    have kM := kM.tail (A := row TVo 47 3 r38 (listV (fold rs).2))
    obtain ⟨ax, hax⟩ := kM.tail.ix (i := i) H i0 hi.1
    refine ex_i ax hax ?_
    refine ex_i x.B (kM.tail.fld (U := tInt .i64) hax hx rfl H) ?_
    refine cl_mono (hprep_any (by omega) H) ?_
    intro r16 w H
    have hx1 := prepR_ext (rs ++ ext) x.B
    have hg1 := prepR_legal (b := x.B) hleg2
    obtain ⟨e1, he1, hel1⟩ := hx1
    rw [he1] at hg1 H
    refine dr_st H fun w H => ?_
    refine ex_i ax hax ?_
    refine ex_i ax hax ?_
    refine ex_i ax hax ?_
    have f : ∀ {w}, St W (hasA a d (rs ++ ext ++ e1) rs.length :: row TVo 47 3 r38 (listV (fold rs).2) :: base) w → RdAt (tInt .i64) (ax.add 3) w x.B ∧ RdAt (tInt .i64) (ax.add 2) w x.Slot := fun H => ⟨kM.tail.fld (U := tInt .i64) hax hx rfl H, kM.tail.fld (U := tInt .i64) hax hx rfl H⟩
    refine ex_i x.B (f H).1 ?_
    refine ex_i x.Slot (f H).2 ?_
    refine ex_i x (kM.tail.rd hax hx H) ?_
    refine cl_mono (few_spec gk.1 H) ?_
    rintro y w ⟨_, _, _, _, _, H⟩
    refine ⟨(f H).1, (f H).2, ?_⟩
    refine cl_mono (hacc_spec (b := x.B) (n := x.Slot) (v := y.V) (by rw [List.length_append]; omega) H) ?_
    rintro e w ⟨_, H⟩
    obtain ⟨e2, he2, hel2⟩ := accR_ext (rs ++ ext ++ e1) x.B x.Slot y.V
    have hg2 := accR_legal (b := x.B) (n := x.Slot) (v := y.V) hg1
    rw [he2] at hg2 H
    refine ⟨kM.tail.rd hax hx H, ?_⟩
    have e3 : IntKind.i64.wrap (i + 1) = i + 1 := wrap_i64 (by omega) (by omega)
    rw [e3]
    refine hK _ _ ⟨by omega, by omega, ext ++ e1 ++ e2, by simp only [List.length_append]; omega, ?_, ?_⟩ (by omega)
    · rw [show rs ++ (ext ++ e1 ++ e2) = rs ++ ext ++ e1 ++ e2 by simp]; exact hg2
    · rw [show rs ++ (ext ++ e1 ++ e2) = rs ++ ext ++ e1 ++ e2 by simp]; exact H
  clear hK
  refine cl_mono (hprom_spec H) ?_
  rintro r61 w ⟨rfl, H⟩
  refine cl_mono (hvotes_spec (by omega) H) ?_
  intro r63 w H
  have n63 := row_len H
  have H := H.drop
  refine nwS_st H fun b64 w H => ?_
  have H := row_new (sz := 1) (m := 1) rfl H
  refine cl_mono (hcrash_spec (keep := [keep]) (by omega) (See.row (T := tInt .i64) (fun _ => rfl) 0 rfl) (H.front 1)) ?_
  rintro r67 w ⟨n, p, acts, hn1, hn2, hp, hpl, _, H⟩
  refine cl_mono (up_spec H) ?_
  intro r69 w H
  have hsplit : rs ++ ext = (rs ++ ext).take n ++ (rs ++ ext).drop n := (List.take_append_drop n _).symm
  have hC : (rs ++ ext).take n = rs ++ ext.take (n - rs.length) := by
    rw [List.take_append, List.take_of_length_le hn1]
  have hlegC : Legal (0, []) ((rs ++ ext).take n) := by
    rw [hsplit] at hleg2
    exact (legal_app.1 hleg2).1
  have le1 : Lee (fold rs) (fold ((rs ++ ext).take n)) := by
    rw [hC] at hlegC ⊢
    exact lee_fold hlegC
  have le2 : Lee (fold ((rs ++ ext).take n)) (fold (rs ++ ext)) := by
    have := lee_fold (a := (rs ++ ext).take n) (b := (rs ++ ext).drop n) (by rw [← hsplit]; exact hleg2)
    rw [← hsplit] at this
    exact this
  have hCl : ((rs ++ ext).take n).length ≤ 80 := by rw [List.length_take]; omega
  rw [listV_len] at n63
  generalize (rs ++ ext).take n = C at *
  refine cl_mono (hreopen_spec (by omega) hp hpl hlegC H) ?_
  rintro ⟨p71, e71⟩ w ⟨he, a2, hp2, H⟩
  simp only at he hp2
  subst he; subst hp2
  rw [if_neg (by simp)]
  refine cl_mono (hprom_spec H) ?_
  rintro r w ⟨rfl, H⟩
  unfold F5_j3
  have l1 := le1.p
  have l2 := le2.p
  rw [if_neg (by simp; omega)]
  refine cl_mono (hprom_spec H) ?_
  rintro r w ⟨rfl, H⟩
  unfold F5_j4
  rw [if_neg (by simp; omega)]
  refine cl_mono (hvotes_spec (by omega) H) ?_
  intro r77 w H
  have gA := good_fold hleg
  have gC := good_fold hlegC
  have hsub := lee_sub gA gC le1
  have hat := fun x y => lee_at gA gC le1 (x := x) (y := y)
  have hxn : (listV (fold rs).2).length ≤ 1000 := by
    rw [listV_len]
    have := fold_len (rs := rs) (s := (0, []))
    unfold fold
    simp only [List.length_nil] at this
    omega
  have hyn : (listV (fold C).2).length ≤ 1000 := by
    rw [listV_len]
    have := fold_len (rs := C) (s := (0, []))
    unfold fold
    simp only [List.length_nil] at this
    omega
  have hcount : (listV (fold C).2).length ≤ r63.len := by
    rw [listV_len, n63]; exact le2.n
  have H := H.ord [0, 3]
  generalize listV (fold C).2 = ys at *
  generalize listV (fold rs).2 = xs at *
  have kY : See 3 (row TVo 47 3 r77 ys :: row TVo 47 3 r38 xs :: hasA a2 d C C.length :: row (tInt .i64) 3 1 ⟨some ⟨b64, 0, none⟩, 1, 1⟩ [keep] :: base) TVo r77 ys := See.row (fun _ => rfl) 0 rfl
  have kX : See 3 (row TVo 47 3 r77 ys :: row TVo 47 3 r38 xs :: hasA a2 d C C.length :: row (tInt .i64) 3 1 ⟨some ⟨b64, 0, none⟩, 1, 1⟩ [keep] :: base) TVo r38 xs := See.row (fun _ => rfl) 1 rfl
  have H : St W (row TVo 47 3 r77 ys :: row TVo 47 3 r38 xs :: hasA a2 d C C.length :: row (tInt .i64) 3 1 ⟨some ⟨b64, 0, none⟩, 1, 1⟩ [keep] :: base) w := H
  have hny := kY.len H
  have hnx := kX.len H
  have bel : ∀ w, St W (row TVo 47 3 r77 ys :: row TVo 47 3 r38 xs :: hasA a2 d C C.length :: row (tInt .i64) 3 1 ⟨some ⟨b64, 0, none⟩, 1, 1⟩ [keep] :: base) w → RowKit.Below W.heap.size W w := fun w H => bel w H.drop.drop.drop.drop
  generalize (row TVo 47 3 r77 ys :: row TVo 47 3 r38 xs :: hasA a2 d C C.length :: row (tInt .i64) 3 1 ⟨some ⟨b64, 0, none⟩, 1, 1⟩ [keep] :: base) = L at *
  refine lp_p (fun i w => 0 ≤ i ∧ i ≤ xs.length ∧ St W L w) (fun i => (xs.length - i).toNat) ⟨Int.le_refl 0, by omega, H⟩ ?_
  clear H
  rintro i w ⟨i0, i1, H⟩ K hK
  unfold F5_l5
  rw [hnx]
  split
  rotate_left
  · refine ⟨?_, bel w H⟩
    rw [hny]
    simp; omega
  rename_i hi
  have hi : i < xs.length := by simpa using hi
  have hu : xs[i.toNat]? = some xs[i.toNat] := List.getElem?_eq_getElem (by omega)
  have hum : xs[i.toNat] ∈ xs := List.getElem_mem _
  generalize xs[i.toNat] = u at hu hum
  obtain ⟨y0, hy0, hye⟩ := hsub u (by simpa using hum)
  have hy0 : y0 ∈ ys := by simpa using hy0
  refine lp_p (fun p w => 0 ≤ p.2 ∧ p.2 ≤ ys.length ∧ (p.1 = true ∨ y0 ∈ ys.drop p.2.toNat) ∧ St W L w) (fun p => (ys.length - p.2).toNat) ⟨Int.le_refl 0, by simp only; omega, .inr (by simpa using hy0), H⟩ ?_
  clear H
  rintro ⟨found, k⟩ w ⟨k0, k1, hf, H⟩ K2 hK2
  simp only at k0 k1 hf
  unfold F5_l6
  simp only
  rw [hny]
  split
  · rename_i hk
    have hk : k < ys.length := by simpa using hk
    have hv : ys[k.toNat]? = some ys[k.toNat] := List.getElem?_eq_getElem (by omega)
    generalize ys[k.toNat] = v at hv
    refine dr_st H fun w H => ?_
    obtain ⟨av, hav⟩ := kY.ix (i := k) H k0 hk
    obtain ⟨au, hau⟩ := kX.ix (i := i) H i0 hi
    refine ex_i av (fun _ => hav) ?_
    refine ex_i au (fun _ => hau) ?_
    refine ex_i v.Slot (fun _ => kY.fld (U := tInt .i64) hav hv rfl H) ?_
    refine ex_i u.Slot (fun _ => kX.fld (U := tInt .i64) hau hu rfl H) ?_
    refine ex_i av (fun _ => hav) ?_
    refine ex_i au (fun _ => hau) ?_
    refine ex_i v (fun _ => kY.rd hav hv H) ?_
    refine ex_i u (fun _ => kX.rd hau hu H) ?_
    refine ex_i av (fun _ => hav) ?_
    refine ex_i au (fun _ => hau) ?_
    refine ex_i v.B (fun _ => kY.fld (U := tInt .i64) hav hv rfl H) ?_
    refine ex_i u.B (fun _ => kX.fld (U := tInt .i64) hau hu rfl H) ?_
    have e1 : IntKind.i64.wrap (k + 1) = k + 1 := wrap_i64 (by omega) (by omega)
    have e2 : (k + 1).toNat = k.toNat + 1 := by omega
    rw [e1]
    refine hK2 _ _ ⟨by simp only; omega, by simp only; omega, ?_, H⟩ (by simp only; omega)
    simp only
    rw [e2]
    rcases hf with hf | hf
    · exact .inl (by simp [hf])
    · rw [drop_cons hv] at hf
      rcases List.mem_cons.1 hf with rfl | hf
      · left
        rcases hat u _ hum hy0 hye.symm with h | h
        · simp [hye, h]
        · subst h
          simp [eqb_self]
      · exact .inr hf
  · rename_i hk
    have hk : k = ys.length := by simp at hk; omega
    subst hk
    have hf : found = true := by
      rcases hf with hf | hf
      · exact hf
      · simp at hf
    subst hf
    rw [if_neg (by simp)]
    have e1 : IntKind.i64.wrap (i + 1) = i + 1 := wrap_i64 (by omega) (by omega)
    rw [e1]
    exact hK _ _ ⟨by omega, by omega, H⟩ (by omega)
end
theorem _root_.Go.Proofs.Ytjkmeooncmhonaa.walkBallotLasts (W : World) (s m : Slc) (keep : Int) (g0 : G29 W s) (g1 : G29 W m) (g2 : G3 W keep) : cl Try.prog 5 [tSlc.enc s, tSlc.enc m, .int .i64 keep] tBool W fun r w' => r = true ∧ RowKit.Below W.heap.size W w' := lasts_walk W s m keep g0 g1
end Go.Proofs.Ytjkmeooncmhonaa.Ballot
