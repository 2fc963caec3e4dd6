/- StoreRefuses: the walk. -/
import Derived.Test.YtdgdkbfigndndaaKM
namespace Go.Proofs.Ytdgdkbfigndndaa.Store
open Go Go.Proofs.Ytdgdkbfigndndaa.Cf
set_option linter.unusedVariables false
set_option linter.unusedSimpArgs false
set_option maxRecDepth 100000
theorem put_no {M : Md} {t : Int} {xs : List S57} (h : putE M t xs ≠ 0) : putM M t xs = M := by unfold putM; rw [if_neg h]
theorem put_closed (M : Md) (t : Int) (xs : List S57) : (putM M t xs).closed = M.closed := by unfold putM; split <;> rfl
theorem put_len {M : Md} {t : Int} {xs : List S57} (h : putE M t xs = 0) : (putM M t xs).rows.length = M.rows.length + xs.length := by unfold putM; rw [if_pos h, List.length_append, news_len]
theorem refuses_walk (W : World) (s sp : Slc) (t : Int) (g0 : G22 W s) (g1 : G31 W sp) : cl Try.prog 6 [tSlc.enc s, .int .i64 t, tSlc.enc sp] tBool W fun r w' => r = true ∧ RowKit.Below W.heap.size W w' := by
  obtain ⟨os, hos⟩ := ops_of g0
  obtain ⟨hcap, xs, _, hxs⟩ := g1
  have H := St.start W
  have ko := know_old W
  refine F6_ok ?_
  unfold F6
  refine cl_mono (made_spec (know_ops ko hos) H) ?_
  rintro r w2 ⟨b, rfl, H⟩
  refine cl_mono (awake_spec H) ?_
  rintro r w3 ⟨rfl, H⟩
  rw [if_neg (by simp)]
  have hI : Inv (play M0 (os.take 30)) 3000 := (Inv.zero.play (os := os.take 30)).more (by rw [List.length_take]; omega)
  generalize play M0 (os.take 30) = M at *
  refine cl_mono (few_spec (o := ⟨0, 0, 0, sp⟩) hcap.1 (ko.old hxs).tail H) ?_
  rintro r w4 ⟨s2, rfl, H⟩
  have hyl : (xs.take 120).length ≤ 120 := by rw [List.length_take]; omega
  generalize xs.take 120 = ys at H hyl
  refine nw_st H fun b10 w5 H => ?_
  refine vst_st (x := Z32) (y := (⟨0, 0, 0, s2⟩ : S32)) len33 0 H rfl fun w6 H => ?_
  refine cl_mono (size_spec hI (by omega) (H.front 2)) ?_
  rintro r w7 ⟨rfl, H⟩
  refine nw_st H fun b15 w8 H => ?_
  -- cel b15, sto, cel b10, ro, old
  have H : St W (row T35 60 2 ⟨some ⟨b15, 0, none⟩, 120, 120⟩ (List.replicate 120 Z35) :: sto b M :: cel b10 (T32.cells ⟨0, 0, 0, s2⟩) 33 :: ro T57 s2 ys :: [old W]) w8 := row_new (T := T35) (t := 60) (sz := 2) (xs := List.replicate 120 Z35) (m := 120) rfl H
  generalize hz : (⟨0, 0, 0, s2⟩ : S32) = z at H
  have hz : z.L = s2 := by rw [← hz]
  have kw : Know (cel b10 (T32.cells z) 33 :: ro T57 s2 ys :: [old W]) (RoP T57 s2 ys) := (Know.here (m := RoP.mono)).tail
  have hs2 := kw.len H.drop.drop
  have hend : ∀ {A B : Assn} {w : World}, St W (A :: B :: cel b10 (T32.cells z) 33 :: ro T57 s2 ys :: [old W]) w → RowKit.Below W.heap.size W w := fun H => Know.below ko.tail.tail.tail.tail H
  have hlenI := hI.len
  refine lp_i (fun i w => 0 ≤ i ∧ i ≤ ys.length ∧ ∃ arr : List S35, arr.length = 120 ∧ (∀ j : Nat, j < i.toNat → ∀ y, ys[j]? = some y → arr[j]? = some (lastV (vs M.rows y.Key)).1) ∧ St W (row T35 60 2 ⟨some ⟨b15, 0, none⟩, 120, 120⟩ arr :: sto b M :: cel b10 (T32.cells z) 33 :: ro T57 s2 ys :: [old W]) w) (fun i => (ys.length - i).toNat) ⟨Int.le_refl 0, by omega, _, by simp, fun j hj => absurd hj (by simp), H⟩ ?_
  clear H
  rintro i w ⟨h0, h1, arr, ha0, ha1, H⟩
  unfold F6_l1
  refine ld_st (x := z.L) 2 H rfl rfl rfl ?_
  rw [hz, hs2]
  split
  · rename_i hc
    have hc : i < ys.length := by simpa using hc
    have e1 : IntKind.i64.wrap (i + 1) = i + 1 := wrap_i64 (by omega) (by omega)
    have hx : ys[i.toNat]? = some ys[i.toNat] := List.getElem?_eq_getElem (by omega)
    obtain ⟨a, ha⟩ := kw.tail.tail.ix (sz := 2) (i := i) H h0 hc
    generalize ys[i.toNat] = x at hx
    refine ld_st (x := z.L) 2 H rfl rfl rfl ?_
    rw [hz]
    refine ex_i a ha ?_
    refine ex_i x.Key (kw.tail.tail.fld (fun _ => rfl) ha hx rfl H) ?_
    refine cl_mono (slast_spec (k := x.Key) hI (by omega) (H.front 1)) ?_
    rintro q w9 ⟨hq, H⟩
    refine ex_i _ ⟨h0, by omega, rfl⟩ ?_
    refine st_row (y := q.1) (i := i) len36 ⟨_, rfl, h0, by show i < 120; omega, rfl⟩ (H.front 1) fun w10 H => ?_
    rw [e1]
    refine ⟨⟨by omega, by omega, _, by rw [List.length_set]; exact ha0, fun j hj y hy => ?_, H⟩, by omega⟩
    rw [List.getElem?_set]
    by_cases hji : i.toNat = j
    · subst hji
      rw [if_pos rfl, if_pos (by omega)]
      rw [hx] at hy; cases hy
      rw [hq]
    · rw [if_neg hji]
      exact ha1 j (by omega) y hy
  · rename_i hc
    have hc : i = ys.length := by simp at hc; omega
    subst hc
    refine ld_st (x := z.L) 2 H rfl rfl rfl ?_
    rw [hz]
    have ha1 : ∀ (j : Nat) y, ys[j]? = some y → arr[j]? = some (lastV (vs M.rows y.Key)).1 := fun j y hy => ha1 j (by have := (List.getElem?_eq_some_iff.1 hy).1; simpa using this) y hy
    refine cl_mono (put_spec (t := t) hI (by omega) (by omega) (See.ro (fun _ => rfl) kw.tail) (H.front 1)) ?_
    rintro r w9 ⟨rfl, H⟩
    have hI2 := hI.put t ys
    refine lp_i (fun i w => 0 ≤ i ∧ i ≤ ys.length ∧ St W (sto b (putM M t ys) :: row T35 60 2 ⟨some ⟨b15, 0, none⟩, 120, 120⟩ arr :: cel b10 (T32.cells z) 33 :: ro T57 s2 ys :: [old W]) w) (fun i => (ys.length - i).toNat) ⟨Int.le_refl 0, by omega, H⟩ ?_
    clear H
    rintro i w ⟨h0, h1, H⟩
    unfold F6_l2
    refine ld_st (x := z.L) 2 H rfl rfl rfl ?_
    rw [hz, hs2]
    split
    · rename_i hc
      have hc : i < ys.length := by simpa using hc
      have e1 : IntKind.i64.wrap (i + 1) = i + 1 := wrap_i64 (by omega) (by omega)
      have hx : ys[i.toNat]? = some ys[i.toNat] := List.getElem?_eq_getElem (by omega)
      have hxm : ys[i.toNat] ∈ ys := List.getElem_mem _
      obtain ⟨a, ha⟩ := kw.tail.tail.ix (sz := 2) (i := i) H h0 hc
      generalize ys[i.toNat] = x at hx hxm
      have hwas := ha1 i.toNat x hx
      refine ld_st (x := z.L) 2 H rfl rfl rfl ?_
      rw [hz]
      refine ex_i a ha ?_
      refine ex_i x.Key (kw.tail.tail.fld (fun _ => rfl) ha hx rfl H) ?_
      refine cl_mono (slast_spec (k := x.Key) hI2 (by omega) H) ?_
      rintro q w10 ⟨hq, H⟩
      have hq1 : q.1 = (lastV (vs (putM M t ys).rows x.Key)).1 := by rw [hq]
      generalize hwv : (lastV (vs M.rows x.Key)).1 = wv at hwas
      have hok : putE M t ys = 0 → q.1.T_ = t ∧ q.1.V = x.V ∧ ¬ wv.T_ ≥ t := by
        intro he
        rw [hq1, vs_put he hxm, lastV_app]
        have := ((put_ok he).key x hxm).2.2
        rw [hwv] at this
        exact ⟨rfl, rfl, by omega⟩
      have hno : putE M t ys ≠ 0 → q.1 = wv := by
        intro he
        rw [hq1, put_no he]; exact hwv
      clear hq hq1
      refine nw_st H fun b40 w11 H => ?_
      refine vst_st (x := Z35) (y := q.1) len36 0 H rfl fun w12 H => ?_
      refine dr_st H fun w13 H => ?_
      refine ex_i q.1.T_ (fun _ => rdat_cel (tInt .i64) H rfl rfl) ?_
      refine ex_i q.1.V (fun _ => rdat_cel (tInt .i64) H rfl rfl) ?_
      refine ex_i z.L (fun _ => rdat_cel tSlc (H.front 3) rfl rfl) ?_
      rw [hz]
      refine ex_i a (fun _ => ha) ?_
      refine ex_i x.V (fun _ => kw.tail.tail.tail.fld (fun _ => rfl) ha hx rfl H) ?_
      have hix : IxA ⟨some ⟨b15, 0, none⟩, 120, 120⟩ 2 i ((⟨b15, 0, none⟩ : Addr).add (i.toNat * 2)) := ⟨_, rfl, h0, by show i < 120; omega, rfl⟩
      refine ex_i _ (fun _ => ⟨h0, by omega, rfl⟩) ?_
      refine ex_i wv.T_ (fun _ => fld_row (fun _ => rfl) hix hwas rfl (H.front 2)) ?_
      refine ex_i _ (fun _ => ⟨h0, by omega, rfl⟩) ?_
      refine ex_i q.1 (fun _ => rdat_cel T35 H rfl (at_all _)) ?_
      refine ex_i wv (fun _ => rd_row (fun _ => rfl) hix hwas (H.front 2)) ?_
      rw [if_neg (by
        by_cases he : putE M t ys = 0
        · obtain ⟨a1, a2, a3⟩ := hok he
          simp [he, a1, a2]; omega
        · rw [hno he]; simp [he, S35.eqb]), e1]
      exact ⟨⟨by omega, by omega, H.drop⟩, by omega⟩
    · split
      · rename_i he
        have he : putE M t ys = 0 := by simpa using he
        refine dr_st H fun w10 H => ?_
        refine ld_st (x := z.L) 2 H rfl rfl rfl ?_
        rw [hz]
        refine cl_mono (size_spec hI2 (by omega) H) ?_
        rintro r w11 ⟨rfl, H⟩
        refine ⟨by rw [← hz]; exact rdat_cel tSlc (H.front 2) rfl rfl, ?_⟩
        have e3 : IntKind.i64.wrap ((M.rows.length : Int) + (s2.len : Int)) = (M.rows.length : Int) + ys.length := by rw [hs2]; exact wrap_i64 (by omega) (by omega)
        rw [e3, put_len he, if_pos (by simp)]
        refine cl_mono (closed_spec H) ?_
        rintro r w12 ⟨rfl, H⟩
        refine ⟨by rw [← hz]; exact rdat_cel tSlc (H.front 2) rfl rfl, ?_⟩
        unfold F6_j3
        rw [put_closed]
        exact ⟨by have := (put_ok he).time; simp; omega, hend H⟩
      · rename_i he
        have he : putE M t ys ≠ 0 := by simpa using he
        refine cl_mono (size_spec hI2 (by omega) H) ?_
        rintro r w10 ⟨rfl, H⟩
        rw [put_no he]
        exact ⟨by simp, hend H⟩
end Go.Proofs.Ytdgdkbfigndndaa.Store
namespace Go.Proofs.Ytdgdkbfigndndaa
open Go Go.Proofs.Ytdgdkbfigndndaa.Cf
theorem walkStoreRefuses (W : World) (s : Slc) (t : Int) (sp : Slc) (g0 : G22 W s) (g1 : G2 W t) (g2 : G31 W sp) : cl Try.prog 6 [tSlc.enc s, .int .i64 t, tSlc.enc sp] tBool W fun r w' => r = true ∧ RowKit.Below W.heap.size W w' := Store.refuses_walk W s sp t g0 g2
end Go.Proofs.Ytdgdkbfigndndaa
