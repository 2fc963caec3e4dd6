/- StoreAgrees: plain law and walk. -/
import Derived.Test.YtdgdkbfigndndaaKK
namespace Go.Proofs.Ytdgdkbfigndndaa.Store
open Go Go.Proofs.Ytdgdkbfigndndaa.Cf
set_option linter.unusedVariables false
set_option linter.unusedSimpArgs false
set_option maxRecDepth 100000
theorem snapK_mem {L : List S75} {t : Int} {ks : List Int} {y : S57} : y ∈ snapK L t ks ↔ y.Key ∈ ks ∧ ∃ v, cnt (vs L y.Key) t = some v ∧ y.V = v.V := by
  unfold snapK
  rw [List.mem_filterMap]
  constructor
  · rintro ⟨k, hk, h⟩
    obtain ⟨v, hv, rfl⟩ := Option.map_eq_some_iff.1 h
    exact ⟨hk, v, hv, rfl⟩
  · rintro ⟨hk, v, hv, e⟩
    refine ⟨y.Key, hk, ?_⟩
    rw [hv, Option.map_some, ← e]
theorem snapK_rise {L : List S75} {t : Int} : ∀ {ks : List Int}, (ks.Pairwise fun x y => x < y) → (snapK L t ks).Pairwise fun a b => a.Key < b.Key
  | [], _ => List.Pairwise.nil
  | k :: ks, h => by
    have h' := List.pairwise_cons.1 h
    have ih := snapK_rise (L := L) (t := t) h'.2
    unfold snapK at ih ⊢
    rw [List.filterMap_cons]
    cases hc : cnt (vs L k) t with
    | none => exact ih
    | some v =>
      refine List.pairwise_cons.2 ⟨fun y hy => ?_, ih⟩
      have hy : y ∈ snapK L t ks := hy
      exact h'.1 _ (snapK_mem.1 hy).1
theorem snapL_ok {M : Md} {t : Int} (h : timeM M t = 0) : snapL M t = snapK M.rows t (keysOf M.rows) := by unfold snapL; rw [if_pos h]
theorem snap_mem {M : Md} {t : Int} (h : timeM M t = 0) {y : S57} : y ∈ snapL M t ↔ ∃ v, cnt (vs M.rows y.Key) t = some v ∧ y.V = v.V := by
  rw [snapL_ok h, snapK_mem]
  constructor
  · exact fun h => h.2
  · rintro ⟨v, hv, e⟩
    refine ⟨((keysOf_ok M.rows).all _).2 fun h0 => ?_, v, hv, e⟩
    rw [h0] at hv; cases hv
theorem snap_rise {M : Md} {t : Int} : (snapL M t).Pairwise fun a b => a.Key < b.Key := by
  unfold snapL
  split
  · exact snapK_rise (keysOf_ok M.rows).rise
  · exact List.Pairwise.nil
theorem snap_len {M : Md} {t : Int} : (snapL M t).length ≤ M.rows.length := by
  unfold snapL
  split
  · unfold snapK
    exact Nat.le_trans (List.length_filterMap_le _ _) (keysOf_ok M.rows).len
  · exact Nat.zero_le _
theorem cnt_key {M : Md} {n : Nat} (hI : Inv M n) {k t : Int} {v : S35} (h : cnt (vs M.rows k) t = some v) : 0 ≤ k ∧ k ≤ 8191 := by
  obtain ⟨r, h1, h2, _⟩ := vs_mem (cnt_mem h).1
  rw [← h2]; exact hI.key r h1
theorem agree {M : Md} {n : Nat} (hI : Inv M n) {t : Int} (h : timeM M t = 0) {y : S57} (hy : y ∈ snapL M t) : ∃ v, getM M y.Key t = (v, 0) ∧ v.V = y.V ∧ v.T_ ≤ t := by
  obtain ⟨v, hv, e⟩ := (snap_mem h).1 hy
  refine ⟨v, ?_, e.symm, (cnt_mem hv).2⟩
  rw [getM_of (cnt_key hI hv) h, hv]
theorem agree_no {M : Md} {t k : Int} (h : timeM M t = 0) (hy : ∀ y ∈ snapL M t, y.Key ≠ k) : (getM M k t).2 = 127 ∨ (getM M k t).2 = 123 := by
  by_cases hk : k < 0 ∨ k > 8191
  · right; unfold getM; rw [if_pos hk]
  · left
    rw [getM_of (by omega) h]
    cases hc : cnt (vs M.rows k) t with
    | none => rfl
    | some v => exact absurd rfl (hy ⟨k, v.V⟩ ((snap_mem h).2 ⟨v, hc, rfl⟩))
theorem agrees_walk (W : World) (s : Slc) (at_ : Int) (g0 : G22 W s) : cl Try.prog 7 [tSlc.enc s, .int .i64 at_] tBool W fun r w' => r = true ∧ RowKit.Below W.heap.size W w' := by
  obtain ⟨os, hos⟩ := ops_of g0
  have H := St.start W
  have ko := know_old W
  refine F7_ok ?_
  unfold F7
  refine cl_mono (made_spec (know_ops ko hos) H) ?_
  rintro r w2 ⟨b, rfl, H⟩
  refine cl_mono (awake_spec H) ?_
  rintro r w3 ⟨rfl, H⟩
  rw [if_neg (by simp)]
  have hI : Inv (play M0 (os.take 30)) 3000 := (Inv.zero.play (os := os.take 30)).more (by rw [List.length_take]; omega)
  generalize play M0 (os.take 30) = M at *
  refine cl_mono (snap_spec (t := at_) hI (by omega) H) ?_
  rintro ⟨q, e⟩ w4 ⟨he, H⟩
  simp only at he H ⊢
  subst he
  have hlen := row_len H
  have H := row_stay H
  have hsl := Nat.le_trans (snap_len (M := M) (t := at_)) hI.len
  split
  · rename_i hc
    have hc : timeM M at_ ≠ 0 := by simpa using hc
    have hs0 : snapL M at_ = [] := by unfold snapL; rw [if_neg hc]
    rw [hs0] at hlen
    have hg : getM M 0 at_ = (⟨0, 0⟩, timeM M at_) := by unfold getM; rw [if_neg (by omega), if_pos hc]
    refine cl_mono (get_spec (k := 0) (t := at_) hI (by omega) (H.front 1)) ?_
    rintro r w5 ⟨rfl, H⟩
    rw [hg]
    refine nw_st H fun b11 w6 H => ?_
    refine vst_st (x := Z35) (y := (⟨0, 0⟩ : S35)) len36 0 H rfl fun w7 H => ?_
    refine ⟨?_, Know.below ko.tail.tail.tail H⟩
    rw [hlen]; simp
  · rename_i hc
    have ht : timeM M at_ = 0 := by simpa using hc
    have hag := fun y hy => agree hI ht (y := y) hy
    have hno := fun k hk => agree_no (k := k) ht hk
    have hri := snap_rise (M := M) (t := at_)
    generalize snapL M at_ = xs at *
    have H := H.front 1
    have kr : Know (ro T57 q xs :: [old W]) (RoP T57 q xs) := Know.here (m := RoP.mono)
    refine lp_i (fun i w => 0 ≤ i ∧ i ≤ xs.length ∧ St W (sto b M :: ro T57 q xs :: [old W]) w) (fun i => (xs.length - i).toNat) ⟨Int.le_refl 0, by omega, H⟩ ?_
    clear H
    rintro i w ⟨h0, h1, H⟩
    unfold F7_l1
    rw [hlen]
    split
    · rename_i hc
      have hc : i < xs.length := by simpa using hc
      have e1 : IntKind.i64.wrap (i + 1) = i + 1 := wrap_i64 (by omega) (by omega)
      have e2 : IntKind.i64.wrap (i - 1) = i - 1 := wrap_i64 (by omega) (by omega)
      have hx : xs[i.toNat]? = some xs[i.toNat] := List.getElem?_eq_getElem (by omega)
      obtain ⟨a, ha⟩ := kr.tail.ix (sz := 2) (i := i) H h0 hc
      obtain ⟨v, hv1, hv2, hv3⟩ := hag xs[i.toNat] (List.getElem_mem _)
      have hprev : ∀ (y : S57), 0 < i → xs[(i - 1).toNat]? = some y → y.Key < (xs[i.toNat]).Key := by
        intro y hi hy
        obtain ⟨hl, rfl⟩ := List.getElem?_eq_some_iff.1 hy
        exact List.pairwise_iff_getElem.1 hri _ _ hl (by omega) (by omega)
      generalize xs[i.toNat] = x at hx hv1 hv2 hprev
      refine ex_i a ha ?_
      refine ex_i x.Key (kr.tail.fld (fun _ => rfl) ha hx rfl H) ?_
      refine cl_mono (get_spec (k := x.Key) (t := at_) hI (by omega) H) ?_
      rintro r w5 ⟨rfl, H⟩
      rw [hv1]
      refine nw_st H fun b21 w6 H => ?_
      refine vst_st (x := Z35) (y := v) len36 0 H rfl fun w7 H => ?_
      refine dr_st H fun w8 H => ?_
      refine ex_i a (fun _ => ha) ?_
      refine ex_i v.V (fun _ => rdat_cel (tInt .i64) H rfl rfl) ?_
      refine ex_i x.V (fun _ => kr.tail.tail.fld (fun _ => rfl) ha hx rfl H) ?_
      refine ex_i v.T_ (fun _ => rdat_cel (tInt .i64) H rfl rfl) ?_
      rw [e2, hv2]
      by_cases hi0 : 0 < i
      · have hy : xs[(i - 1).toNat]? = some xs[(i - 1).toNat] := List.getElem?_eq_getElem (by omega)
        have hlt := hprev _ hi0 hy
        generalize xs[(i - 1).toNat] = y at hy hlt
        obtain ⟨c, hcx⟩ := kr.tail.tail.ix (sz := 2) (i := i - 1) H (by omega) (by omega)
        refine ex_i c (fun _ => hcx) ?_
        refine ex_i a (fun _ => ha) ?_
        refine ex_i y.Key (fun _ => kr.tail.tail.fld (fun _ => rfl) hcx hy rfl H) ?_
        refine ex_i x.Key (fun _ => kr.tail.tail.fld (fun _ => rfl) ha hx rfl H) ?_
        rw [if_neg (by simp; omega), e1]
        exact ⟨⟨by omega, by omega, H.drop⟩, by omega⟩
      · have hf : decide (i > (0 : Int)) = false := by simpa using hi0
        rw [hf]
        refine ex_i a (fun h => by simp at h) ?_
        refine ex_i a (fun h => by simp at h) ?_
        refine ex_i 0 (fun h => by simp at h) ?_
        refine ex_i 0 (fun h => by simp at h) ?_
        rw [if_neg (by simp; omega), e1]
        exact ⟨⟨by omega, by omega, H.drop⟩, by omega⟩
    · clear h0 h1
      have k1 : Know [old W] (RoP T32 s (os.map (·.1))) := (know_ops ko hos).imp fun _ h => h.1
      have hso := k1.tail.tail.len H
      rw [List.length_map] at hso
      refine lp_i (fun i w => 0 ≤ i ∧ i ≤ os.length ∧ i ≤ 30 ∧ St W (sto b M :: ro T57 q xs :: [old W]) w) (fun i => (30 - i).toNat) ⟨Int.le_refl 0, by omega, by omega, H⟩ ?_
      clear H
      rintro i w ⟨h0, h1, h2, H⟩
      unfold F7_l2
      rw [hso]
      split
      · rename_i hc
        have hc : i < os.length ∧ i < 30 := by simpa using hc
        have e1 : IntKind.i64.wrap (i + 1) = i + 1 := wrap_i64 (by omega) (by omega)
        obtain ⟨a, ha⟩ := k1.tail.tail.ix (sz := 4) (i := i) H h0 (by rw [List.length_map]; exact hc.1)
        have hx : (os.map (·.1))[i.toNat]? = some (os[i.toNat]).1 := by rw [List.getElem?_map, List.getElem?_eq_getElem (by omega)]; rfl
        have hp := hos.2 _ (List.getElem_mem (l := os) (n := i.toNat) (by omega))
        generalize os[i.toNat] = o at hx hp
        refine ex_i a ha ?_
        refine ex_i o.1 (k1.tail.tail.rd (fun _ => rfl) ha hx H) ?_
        refine cl_mono (few_spec (xs := o.2) hp.1 (ko.old hp.2).tail.tail H) ?_
        rintro r w5 ⟨s2, rfl, H⟩
        have hyl : (o.2.take 120).length ≤ 120 := by rw [List.length_take]; omega
        generalize o.2.take 120 = ys at H hyl
        refine nw_st H fun b41 w6 H => ?_
        refine vst_st (x := Z32) (y := (⟨o.1.Kind, o.1.Key, o.1.T_, s2⟩ : S32)) len33 0 H rfl fun w7 H => ?_
        generalize hz : (⟨o.1.Kind, o.1.Key, o.1.T_, s2⟩ : S32) = z at H
        have hz : z.L = s2 := by rw [← hz]
        have H := H.ord [2, 3, 0, 1]
        have kr2 : Know (ro T57 q xs :: cel b41 (T32.cells z) 33 :: ro T57 s2 ys :: [old W]) (RoP T57 q xs) := Know.here (m := RoP.mono)
        have ky : Know (ro T57 q xs :: cel b41 (T32.cells z) 33 :: ro T57 s2 ys :: [old W]) (RoP T57 s2 ys) := (Know.here (m := RoP.mono)).tail.tail
        have hsy := ky.tail.len H
        refine lp_i (fun k w => 0 ≤ k ∧ k ≤ ys.length ∧ St W (sto b M :: ro T57 q xs :: cel b41 (T32.cells z) 33 :: ro T57 s2 ys :: [old W]) w) (fun k => (ys.length - k).toNat) ⟨Int.le_refl 0, by omega, H⟩ ?_
        clear H
        rintro k w ⟨k0, k1', H⟩
        unfold F7_l3
        refine ld_st (x := z.L) 2 H rfl rfl rfl ?_
        rw [hz, hsy]
        split
        · rename_i hck
          have hck : k < ys.length := by simpa using hck
          have e3 : IntKind.i64.wrap (k + 1) = k + 1 := wrap_i64 (by omega) (by omega)
          have hy : ys[k.toNat]? = some ys[k.toNat] := List.getElem?_eq_getElem (by omega)
          obtain ⟨c, hcx⟩ := ky.tail.ix (sz := 2) (i := k) H k0 hck
          generalize ys[k.toNat] = y at hy
          refine lp_i (fun p w => 0 ≤ p.2 ∧ p.2 ≤ xs.length ∧ (p.1 = false → ∀ x ∈ xs.take p.2.toNat, x.Key ≠ y.Key) ∧ St W (sto b M :: ro T57 q xs :: cel b41 (T32.cells z) 33 :: ro T57 s2 ys :: [old W]) w) (fun p => (xs.length - p.2).toNat) ⟨Int.le_refl 0, by simp only; omega, by simp, H⟩ ?_
          clear H
          rintro ⟨inn, j⟩ w ⟨j0, j1, j2, H⟩
          simp only at j0 j1 j2 ⊢
          unfold F7_l4
          rw [hlen]
          split
          · rename_i hcj
            have hcj : j < xs.length := by simpa using hcj
            have e4 : IntKind.i64.wrap (j + 1) = j + 1 := wrap_i64 (by omega) (by omega)
            have hxj : xs[j.toNat]? = some xs[j.toNat] := List.getElem?_eq_getElem (by omega)
            have htj : xs.take (j.toNat + 1) = xs.take j.toNat ++ [xs[j.toNat]] := List.take_succ_eq_append_getElem (by omega)
            obtain ⟨d, hdx⟩ := kr2.tail.ix (sz := 2) (i := j) H j0 hcj
            generalize xs[j.toNat] = x at hxj htj
            refine dr_st H fun w8 H => ?_
            refine ex_i d (fun _ => hdx) ?_
            refine ex_i x.Key (fun _ => kr2.tail.fld (fun _ => rfl) hdx hxj rfl H) ?_
            refine ex_i z.L (fun _ => rdat_cel tSlc (H.front 2) rfl rfl) ?_
            rw [hz]
            refine ex_i c (fun _ => hcx) ?_
            refine ex_i y.Key (fun _ => ky.tail.fld (fun _ => rfl) hcx hy rfl H) ?_
            rw [e4]
            refine ⟨⟨by simp only; omega, by simp only; omega, fun hf u hu => ?_, H⟩, by simp only; omega⟩
            simp only at hf hu
            rw [Bool.or_eq_false_iff] at hf
            rw [show (j + 1).toNat = j.toNat + 1 from by omega, htj] at hu
            rcases List.mem_append.1 hu with hu | hu
            · exact j2 hf.1 u hu
            · rw [List.mem_singleton.1 hu]; simpa using hf.2
          · rename_i hcj
            have hcj : j = xs.length := by simp at hcj; omega
            subst hcj
            have e5 : xs.take ((xs.length : Int)).toNat = xs := by simp
            rw [e5] at j2
            refine ld_st (x := z.L) 2 H rfl rfl rfl ?_
            rw [hz]
            refine ex_i c hcx ?_
            refine ex_i y.Key (ky.tail.fld (fun _ => rfl) hcx hy rfl H) ?_
            refine cl_mono (get_spec (k := y.Key) (t := at_) hI (by omega) H) ?_
            rintro r w8 ⟨rfl, H⟩
            have hg : inn = false → (getM M y.Key at_).2 = 127 ∨ (getM M y.Key at_).2 = 123 := fun h => hno y.Key (j2 h)
            generalize getM M y.Key at_ = g at hg
            refine nw_st H fun b63 w9 H => ?_
            refine vst_st (x := Z35) (y := g.1) len36 0 H rfl fun w10 H => ?_
            rw [if_neg (by
              cases inn with
              | true => simp
              | false => rcases hg rfl with h | h <;> rw [h] <;> decide), e3]
            exact ⟨⟨by omega, by omega, H.drop⟩, by omega⟩
        · rw [e1]
          refine ⟨⟨by omega, by omega, by omega, ?_⟩, by omega⟩
          exact ((((H.front 2).drop).front 2).drop)
      · exact ⟨rfl, Know.below ko.tail.tail H⟩
end Go.Proofs.Ytdgdkbfigndndaa.Store
namespace Go.Proofs.Ytdgdkbfigndndaa
open Go Go.Proofs.Ytdgdkbfigndndaa.Cf
theorem walkStoreAgrees (W : World) (s : Slc) (at_ : Int) (g0 : G22 W s) (g1 : G2 W at_) : cl Try.prog 7 [tSlc.enc s, .int .i64 at_] tBool W fun r w' => r = true ∧ RowKit.Below W.heap.size W w' := Store.agrees_walk W s at_ g0
end Go.Proofs.Ytdgdkbfigndndaa
