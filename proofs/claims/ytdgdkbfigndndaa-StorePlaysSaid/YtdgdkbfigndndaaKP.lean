/- StorePlays: the walk. -/
import Derived.Test.YtdgdkbfigndndaaKO
import Derived.Test.YtdgdkbfigndndaaSlK
namespace Go.Proofs.Ytdgdkbfigndndaa.Store
open Go Go.Proofs.Ytdgdkbfigndndaa.Cf
set_option linter.unusedVariables false
set_option linter.unusedSimpArgs false
set_option maxRecDepth 100000
section
variable {W w : World} {l : List Assn}
theorem same_see {sa sb : Slc} {a b : List S57} (hm : a.length ≤ 1000000) (ka : See 2 l T57 sa a) (kb : See 2 l T57 sb b) (H : St W l w) :
    cl Try.prog 20 [tSlc.enc sa, tSlc.enc sb] tBool w fun r w' => (r = true ↔ a = b) ∧ St W l w' := by
  have la := ka.len H
  have lb := kb.len H
  refine F20_ok ?_
  unfold F20
  split
  · rename_i hne
    have hne : a.length ≠ b.length := by simp at hne; omega
    exact ⟨by constructor
              · intro h; cases h
              · intro h; subst h; exact absurd rfl hne, H⟩
  · rename_i hne
    have hne : a.length = b.length := by simp at hne; omega
    refine lp_i (fun i w => 0 ≤ i ∧ i ≤ a.length ∧ a.take i.toNat = b.take i.toNat ∧ St W l w) (fun i => (a.length - i).toNat) ⟨Int.le_refl 0, by omega, by simp, H⟩ ?_
    rintro i w ⟨h0, h1, h2, H⟩
    unfold F20_l1
    split
    · rename_i hc
      have hc : i < a.length := by simp at hc; omega
      have e1 : IntKind.i64.wrap (i + 1) = i + 1 := wrap_i64 (by omega) (by omega)
      have hx : a[i.toNat]? = some a[i.toNat] := List.getElem?_eq_getElem (by omega)
      have hy : b[i.toNat]? = some b[i.toNat] := List.getElem?_eq_getElem (by omega)
      obtain ⟨p, hp⟩ := ka.ix (i := i) H h0 hc
      obtain ⟨q, hq⟩ := kb.ix (i := i) H h0 (by omega)
      have ht : a.take (i.toNat + 1) = a.take i.toNat ++ [a[i.toNat]] := List.take_succ_eq_append_getElem (by omega)
      have ht2 : b.take (i.toNat + 1) = b.take i.toNat ++ [b[i.toNat]] := List.take_succ_eq_append_getElem (by omega)
      generalize a[i.toNat] = x at hx ht
      generalize b[i.toNat] = y at hy ht2
      refine dr_st H fun w1 H => ?_
      refine ex_i p hp ?_
      refine ex_i q hq ?_
      refine ex_i x.Key (ka.fld hp hx rfl H) ?_
      refine ex_i y.Key (kb.fld hq hy rfl H) ?_
      refine ex_i p (fun _ => hp) ?_
      refine ex_i q (fun _ => hq) ?_
      refine ex_i x.V (fun _ => ka.fld hp hx rfl H) ?_
      refine ex_i y.V (fun _ => kb.fld hq hy rfl H) ?_
      split
      · rename_i hd
        refine ⟨⟨fun h => (by cases h), fun h => ?_⟩, H⟩
        subst h
        rw [hx] at hy; cases hy
        simp at hd
      · rename_i hd
        rw [e1]
        have hxy : x = y := s57_eq (by simp at hd; exact hd.1) (by simp at hd; exact hd.2)
        refine ⟨⟨by omega, by omega, ?_, H⟩, by omega⟩
        rw [show (i + 1).toNat = i.toNat + 1 from by omega, ht, ht2, h2, hxy]
    · rename_i hc
      have hc : i = a.length := by simp at hc; omega
      subst hc
      refine ⟨⟨fun _ => ?_, fun _ => rfl⟩, H⟩
      have e1 : a.take ((a.length : Int)).toNat = a := by simp
      have e2 : b.take ((a.length : Int)).toNat = b := by rw [hne]; simp
      rw [e1, e2] at h2; exact h2
/-- What a call changes in both. -/
def act (M : Md) (o : S32) (ys : List S57) : Md := if o.Kind = 0 then putM M o.T_ ys else if o.Kind = 3 then pruneM M o.T_ else if o.Kind = 4 then closeM M o.T_ else M
theorem Inv.act {M : Md} {n : Nat} (h : Inv M n) (o : S32) (ys : List S57) : Inv (act M o ys) (n + 100) := by
  unfold Store.act
  split
  · exact h.put _ _
  · split
    · exact (h.prune _).more (by omega)
    · split
      · exact (h.close _).more (by omega)
      · exact h.more (by omega)
theorem eqb_refl (x : S35) : S35.eqb x x = true := by simp [S35.eqb]
/-- What is handed in is changed behind it. -/
theorem bump {s : Slc} {zs : List S57} {body : Int → World → (Int → World → Prop) → Prop} (R : World → Prop)
    (hb : ∀ i w K, body i w K = if (decide (i < (s.len : Int))) = true then (ex (IxA s 2 i) fun a34 => ex (RdAt (tInt .i64) (a34.add 1) w) fun x35 => ex (IxA s 2 i) fun a36 => st (tInt .i64) (a36.add 1) (IntKind.i64.wrap (x35 + (1 : Int))) w fun w37 => K ((IntKind.i64.wrap (i + (1 : Int)))) w37) else R w)
    (hz : zs.length ≤ 100000) (H : St W (row T57 58 2 s zs :: l) w) (hR : ∀ zs w, St W (row T57 58 2 s zs :: l) w → R w) : lp body 0 w := by
  refine lp_i (fun i w => 0 ≤ i ∧ i ≤ zs.length ∧ ∃ us : List S57, us.length = zs.length ∧ St W (row T57 58 2 s us :: l) w) (fun i => (zs.length - i).toNat) ⟨Int.le_refl 0, by omega, zs, rfl, H⟩ ?_
  clear H
  rintro i w ⟨h0, h1, us, hu, H⟩
  rw [hb]
  have hs := row_len H
  rw [hs, hu]
  split
  · rename_i hc
    have hc : i < zs.length := by simpa using hc
    have e1 : IntKind.i64.wrap (i + 1) = i + 1 := wrap_i64 (by omega) (by omega)
    have hx : us[i.toNat]? = some us[i.toNat] := List.getElem?_eq_getElem (by omega)
    obtain ⟨a, ha⟩ := row_ix (sz := 2) (i := i) H h0 (by omega)
    generalize us[i.toNat] = x at hx
    refine ex_i a ha ?_
    refine ex_i x.V (fld_row (fun _ => rfl) ha hx rfl H) ?_
    refine ex_i a ha ?_
    refine stf_row (y := ⟨x.Key, IntKind.i64.wrap (x.V + 1)⟩) (fun _ => rfl) ha hx rfl (Nat.le_of_ble_eq_true rfl) H fun w2 H => ?_
    rw [e1]
    exact ⟨⟨by omega, by omega, _, by rw [List.length_set]; exact hu, H⟩, by omega⟩
  · exact hR us _ H
theorem does_spec {b n : Nat} {M : Md} {m : S26} {o : S32} {ys : List S57} (hI : Inv M n) (hn : n ≤ 8000) (hy : ys.length ≤ 1000) (hR : Ref m M) (k : Know l (RoP T75 m.L M.rows)) (ky : Know l (RoP T57 o.L ys)) (H : St W (sto b M :: l) w) :
    cl Try.prog 11 [.pointer (some ⟨b, 0, none⟩), T26.enc m, T32.enc o] (tTup2 T26 tBool) w fun r w' => r.2 = true ∧ Ref r.1 (act M o ys) ∧ St W (ro T75 r.1.L (act M o ys).rows :: sto b (act M o ys) :: l) w' := by
  have hlen := hI.len
  refine F11_ok ?_
  unfold F11
  refine nw_st H fun b4 w1 H => ?_
  refine nw_st H fun b6 w2 H => ?_
  refine nw_st H fun b8 w3 H => ?_
  -- b8, b6, b4, sto, l
  have hj : ∀ (m' : S26) (M' : Md) (e f : Int) (w : World), act M o ys = M' → Ref m' M' → e = f → St W (cel b8 (T26.cells Z26) 27 :: cel b4 (T26.cells m') 27 :: ro T75 m'.L M'.rows :: sto b M' :: l) w →
      F11_j1 ⟨b4, 0, none⟩ ⟨b8, 0, none⟩ e f w fun r w' => r.2 = true ∧ Ref r.1 (act M o ys) ∧ St W (ro T75 r.1.L (act M o ys).rows :: sto b (act M o ys) :: l) w' := by
    intro m' M' e f w hM hR' hef H
    subst hM
    unfold F11_j1
    refine vld_st (x := m') 1 H rfl ?_
    refine vst_st (x := Z26) (y := m') len27 0 H rfl fun w4 H => ?_
    refine vld_st (x := m') 0 H rfl ?_
    exact ⟨by simp [hef], hR', H.drop.drop⟩
  refine ld_st (x := o.Kind) 1 H rfl rfl rfl ?_
  split
  · rename_i hk
    have hk : o.Kind = 0 := by simpa using hk
    have ha : act M o ys = putM M o.T_ ys := by unfold act; rw [if_pos hk]
    refine nwS_st H fun b17 w4 H => ?_
    have H := row_new (T := T57) (sz := 2) (m := 0) rfl H
    refine ld_st (x := o.L) 2 H rfl rfl rfl ?_
    refine apd_row (fun _ => rfl) 0 H rfl (ky.tail.tail.tail.tail.tail.rdS H) (by simp; omega) fun s w5 H => ?_
    rw [List.nil_append] at H
    -- row, b8, b6, b4, sto
    refine ld_st (x := o.T_) 2 H rfl rfl rfl ?_
    refine cl_mono (put_spec (t := o.T_) hI hn hy (See.row (fun _ => rfl) 0 rfl) (H.front 4)) ?_
    rintro r w6 ⟨rfl, H⟩
    -- sto', row, b8, b6, b4
    refine vld_st (x := m) 4 H rfl ?_
    refine ld_st (x := o.T_) 3 H rfl rfl rfl ?_
    refine ld_st (x := o.L) 3 H rfl rfl rfl ?_
    refine cl_mono (rput_spec (t := o.T_) (s := o.L) (xs := ys) (by omega) hy hR k.tail.tail.tail.tail.tail (See.ro (fun _ => rfl) ky.tail.tail.tail.tail.tail) H) ?_
    rintro ⟨m', f⟩ w7 ⟨hf, hR', H⟩
    simp only at hf hR' H
    -- ro, sto', row, b8, b6, b4
    refine vst_st (x := m) (y := m') len27 5 H rfl fun w8 H => ?_
    -- b4', ro, sto', row, b8, b6
    refine bump (fun w => F11_j1 ⟨b4, 0, none⟩ ⟨b8, 0, none⟩ (putE M o.T_ ys) f w fun r w' => r.2 = true ∧ Ref r.1 (act M o ys) ∧ St W (ro T75 r.1.L (act M o ys).rows :: sto b (act M o ys) :: l) w') (fun i w K => rfl) (by omega) (H.front 3) fun zs w9 H => ?_
    -- row, b4', ro, sto', b8, b6
    exact hj m' _ _ _ _ ha hR' hf.symm ((H.ord [4, 1, 2, 3, 0, 5]).front 4 |> fun H => (H.drop.front 4).drop)
  · rename_i hk0
    have hk0 : ¬ o.Kind = 0 := by simpa using hk0
    split
    · rename_i hk
      have hk : o.Kind = 1 := by simpa using hk
      have ha : act M o ys = M := by unfold act; rw [if_neg hk0, if_neg (by omega), if_neg (by omega)]
      refine ld_st (x := o.Key) 1 H rfl rfl rfl ?_
      refine ld_st (x := o.T_) 1 H rfl rfl rfl ?_
      refine cl_mono (get_spec (k := o.Key) (t := o.T_) hI (by omega) (H.front 3)) ?_
      rintro r w4 ⟨rfl, H⟩
      generalize hg : getM M o.Key o.T_ = g
      refine nw_st H fun b43 w5 H => ?_
      refine vst_st (x := Z35) (y := g.1) len36 0 H rfl fun w6 H => ?_
      -- b43, sto, b8, b6, b4
      refine vld_st (x := m) 4 H rfl ?_
      refine ld_st (x := o.Key) 3 H rfl rfl rfl ?_
      refine ld_st (x := o.T_) 3 H rfl rfl rfl ?_
      refine cl_mono (rget_spec (key := o.Key) (t := o.T_) (by omega) hR k.tail.tail.tail.tail.tail H) ?_
      rintro r w7 ⟨rfl, H⟩
      rw [hg]
      refine nw_st H fun b51 w8 H => ?_
      refine vst_st (x := Z35) (y := g.1) len36 0 H rfl fun w9 H => ?_
      -- b51, b43, sto, b8, b6, b4
      refine vld_st (x := g.1) 1 H rfl ?_
      refine vld_st (x := g.1) 0 H rfl ?_
      rw [eqb_refl, if_neg (by simp)]
      have H := St.ro k.tail.tail.tail.tail H.drop.drop
      -- ro, sto, b8, b6, b4
      exact hj m M _ _ _ ha hR rfl ((H.ord [2, 4, 0, 1, 3]).front 4).drop
    · rename_i hk1
      have hk1 : ¬ o.Kind = 1 := by simpa using hk1
      split
      · rename_i hk
        have hk : o.Kind = 2 := by simpa using hk
        have ha : act M o ys = M := by unfold act; rw [if_neg hk0, if_neg (by omega), if_neg (by omega)]
        refine ld_st (x := o.T_) 1 H rfl rfl rfl ?_
        refine cl_mono (snap_spec (t := o.T_) hI (by omega) (H.front 3)) ?_
        rintro ⟨q, e⟩ w4 ⟨he, H⟩
        simp only at he H
        -- row, sto, b8, b6, b4
        refine vld_st (x := m) 4 H rfl ?_
        refine ld_st (x := o.T_) 3 H rfl rfl rfl ?_
        refine cl_mono (rsnap_spec (t := o.T_) (by omega) hR k.tail.tail.tail.tail.tail H) ?_
        rintro ⟨q', e'⟩ w5 ⟨he', H⟩
        simp only at he' H
        have hsl : (snapL M o.T_).length ≤ 9000 := Nat.le_trans snap_len (by omega)
        refine cl_mono (same_see (a := snapL M o.T_) (b := snapL M o.T_) (by omega) (See.row (fun _ => rfl) 1 rfl) (See.row (fun _ => rfl) 0 rfl) H) ?_
        rintro r w6 ⟨hr, H⟩
        have hr := hr.2 rfl
        subst hr
        rw [if_neg (by simp)]
        -- row', row, sto, b8, b6, b4
        refine bump (fun w => F11_j1 ⟨b4, 0, none⟩ ⟨b8, 0, none⟩ e e' w fun r w' => r.2 = true ∧ Ref r.1 (act M o ys) ∧ St W (ro T75 r.1.L (act M o ys).rows :: sto b (act M o ys) :: l) w') (fun i w K => rfl) (by omega) (H.front 1) fun zs w7 H => ?_
        have H := H.drop.drop
        have H := St.ro k.tail.tail.tail.tail H
        exact hj m M _ _ _ ha hR (by rw [he, he']) ((H.ord [2, 4, 0, 1, 3]).front 4).drop
      · rename_i hk2
        have hk2 : ¬ o.Kind = 2 := by simpa using hk2
        split
        · rename_i hk
          have hk : o.Kind = 3 := by simpa using hk
          have ha : act M o ys = pruneM M o.T_ := by unfold act; rw [if_neg hk0, if_pos hk]
          refine ld_st (x := o.T_) 1 H rfl rfl rfl ?_
          refine cl_mono (prune_spec (t := o.T_) hI (by omega) (H.front 3)) ?_
          rintro r w4 ⟨rfl, H⟩
          -- sto', b8, b6, b4
          refine vld_st (x := m) 3 H rfl ?_
          refine ld_st (x := o.T_) 2 H rfl rfl rfl ?_
          refine cl_mono (rprune_spec (t := o.T_) (by omega) hR k.tail.tail.tail.tail H) ?_
          rintro ⟨m', f⟩ w5 ⟨hf, hR', H⟩
          simp only at hf hR' H
          -- ro, sto', b8, b6, b4
          refine vst_st (x := m) (y := m') len27 4 H rfl fun w6 H => ?_
          -- b4', ro, sto', b8, b6
          exact hj m' _ _ _ _ ha hR' hf.symm ((H.ord [3, 0, 1, 2, 4]).front 4).drop
        · rename_i hk3
          have hk3 : ¬ o.Kind = 3 := by simpa using hk3
          split
          · rename_i hk
            have hk : o.Kind = 4 := by simpa using hk
            have ha : act M o ys = closeM M o.T_ := by unfold act; rw [if_neg hk0, if_neg hk3, if_pos hk]
            refine ld_st (x := o.T_) 1 H rfl rfl rfl ?_
            refine cl_mono (close_spec (t := o.T_) (H.front 3)) ?_
            rintro r w4 ⟨rfl, H⟩
            refine vld_st (x := m) 3 H rfl ?_
            refine ld_st (x := o.T_) 2 H rfl rfl rfl ?_
            refine cl_mono (rclose_spec (t := o.T_) hR k.tail.tail.tail.tail H) ?_
            rintro ⟨m', f⟩ w5 ⟨hf, hR', H⟩
            simp only at hf hR' H
            refine vst_st (x := m) (y := m') len27 4 H rfl fun w6 H => ?_
            exact hj m' _ _ _ _ ha hR' hf.symm ((H.ord [3, 0, 1, 2, 4]).front 4).drop
          · rename_i hk4
            have hk4 : ¬ o.Kind = 4 := by simpa using hk4
            have ha : act M o ys = M := by unfold act; rw [if_neg hk0, if_neg hk3, if_neg hk4]
            have H := St.ro k.tail.tail.tail.tail H
            -- ro, b8, b6, b4, sto
            exact hj m M _ _ _ ha hR rfl ((H.ord [1, 3, 0, 4, 2]).front 4).drop
end
theorem plays_walk (W : World) (s : Slc) (g0 : G22 W s) : cl Try.prog 3 [tSlc.enc s] tBool W fun r w' => r = true ∧ RowKit.Below W.heap.size W w' := by
  obtain ⟨os, hos⟩ := ops_of g0
  have H := St.start W
  have ko := know_old W
  refine F3_ok ?_
  unfold F3
  refine cl_mono (snew_spec H) ?_
  rintro r w2 ⟨b, rfl, H⟩
  refine nw_st H fun b4 w3 H => ?_
  refine vst_st (x := Z26) (y := (⟨⟨none, 0, 0⟩, 0, 0⟩ : S26)) len27 0 H rfl fun w4 H => ?_
  refine cl_mono (awake_spec H) ?_
  rintro r w5 ⟨rfl, H⟩
  rw [if_neg (by simp)]
  have H := roA_nil T75 H
  have k1 : Know [old W] (RoP T32 s (os.map (·.1))) := (know_ops ko hos).imp fun _ h => h.1
  have hso := k1.len H.drop.drop.drop
  rw [List.length_map] at hso
  refine lp_i (fun i w => 0 ≤ i ∧ i ≤ os.length ∧ i ≤ 30 ∧ ∃ M m, Inv M (100 * i.toNat) ∧ Ref m M ∧ St W (sto b M :: cel b4 (T26.cells m) 27 :: ro T75 m.L M.rows :: [old W]) w) (fun i => (30 - i).toNat)
    ⟨Int.le_refl 0, by omega, by omega, M0, ⟨⟨none, 0, 0⟩, 0, 0⟩, Inv.zero, ⟨rfl, rfl⟩, H.ord [2, 1, 0]⟩ ?_
  clear H
  rintro i w ⟨h0, h1, h2, M, m, hI, hR, H⟩
  have k2 : Know (sto b M :: cel b4 (T26.cells m) 27 :: ro T75 m.L M.rows :: [old W]) (RoP T32 s (os.map (·.1))) := k1.tail.tail.tail
  unfold F3_l1
  rw [hso]
  split
  · rename_i hc
    have hc : i < os.length ∧ i < 30 := by simpa using hc
    have e1 : IntKind.i64.wrap (i + 1) = i + 1 := wrap_i64 (by omega) (by omega)
    obtain ⟨a, ha⟩ := k2.ix (sz := 4) (i := i) H h0 (by rw [List.length_map]; exact hc.1)
    have hx : (os.map (·.1))[i.toNat]? = some (os[i.toNat]).1 := by rw [List.getElem?_map, List.getElem?_eq_getElem (by omega)]; rfl
    have hp := hos.2 _ (List.getElem_mem (l := os) (n := i.toNat) (by omega))
    generalize os[i.toNat] = o at hx hp
    -- the rest of a round
    have hj3 : ∀ (M2 : Md) (m2 : S26) (b21 y24 : Nat) (q : S35 × Bool) (w : World), Inv M2 (100 * i.toNat + 100) → Ref m2 M2 → St W (cel y24 (T35.cells q.1) 36 :: cel b21 (T35.cells q.1) 36 :: sto b M2 :: cel b4 (T26.cells m2) 27 :: ro T75 m2.L M2.rows :: [old W]) w →
        F3_j3 (some ⟨b, 0, none⟩) ⟨b4, 0, none⟩ i true q ⟨b21, 0, none⟩ ⟨y24, 0, none⟩ q.2 w (fun i' w' => (0 ≤ i' ∧ i' ≤ os.length ∧ i' ≤ 30 ∧ ∃ M m, Inv M (100 * i'.toNat) ∧ Ref m M ∧ St W (sto b M :: cel b4 (T26.cells m) 27 :: ro T75 m.L M.rows :: [old W]) w') ∧ (30 - i').toNat < (30 - i).toNat) fun r w' => r = true ∧ RowKit.Below W.heap.size W w' := by
      intro M2 m2 b21 y24 q w hI2 hR2 H
      unfold F3_j3
      refine dr_st H fun w1 H => ?_
      rw [if_neg (by simp)]
      refine ld_st (x := m2.Closed) 3 H rfl rfl rfl ?_
      refine cl_mono (closed_spec (H.front 2)) ?_
      rintro r w2 ⟨rfl, H⟩
      refine ⟨rdat_cel (tInt .i64) (H.front 3) rfl rfl, ?_⟩
      rw [hR2.closed, if_neg (by simp)]
      refine ld_st (x := m2.Mark) 3 H rfl rfl rfl ?_
      refine cl_mono (mark_spec H) ?_
      rintro r w3 ⟨rfl, H⟩
      refine ⟨by rw [← hR2.closed]; exact rdat_cel (tInt .i64) (H.front 3) rfl rfl, ?_⟩
      refine ⟨rdat_cel (tInt .i64) (H.front 3) rfl rfl, ?_⟩
      rw [hR2.mark, if_neg (by simp)]
      refine ld_st (x := m2.L) 3 H rfl rfl rfl ?_
      refine cl_mono (size_spec hI2 (by omega) H) ?_
      rintro r w4 ⟨rfl, H⟩
      refine ⟨by rw [← hR2.closed]; exact rdat_cel (tInt .i64) (H.front 3) rfl rfl, ?_⟩
      refine ⟨by rw [← hR2.mark]; exact rdat_cel (tInt .i64) (H.front 3) rfl rfl, ?_⟩
      refine ⟨rdat_cel tSlc (H.front 3) rfl rfl, ?_⟩
      have hl2 : m2.L.len = M2.rows.length := ro_len (H.front 4)
      refine ex_i q.1 (fun _ => rdat_cel T35 (H.front 2) rfl (at_all _)) ?_
      refine ex_i q.1 (fun _ => rdat_cel T35 (H.front 1) rfl (at_all _)) ?_
      unfold F3_j4
      rw [hl2, eqb_refl, if_neg (by simp), e1]
      refine ⟨⟨by omega, by omega, by omega, M2, m2, ?_, hR2, (((H.front 1).drop).front 1).drop⟩, by omega⟩
      rw [show (i + 1).toNat = i.toNat + 1 from by omega]
      exact hI2.more (by omega)
    have hj2 : ∀ (M2 : Md) (m2 : S26) (nb : Nat) (w : World), Inv M2 (100 * i.toNat + 100) → Ref m2 M2 → St W (cel nb (T26.cells m2) 27 :: sto b M2 :: cel b4 (T26.cells m) 27 :: ro T75 m2.L M2.rows :: [old W]) w →
        F3_j2 s (some ⟨b, 0, none⟩) ⟨b4, 0, none⟩ i ⟨nb, 0, none⟩ true w (fun i' w' => (0 ≤ i' ∧ i' ≤ os.length ∧ i' ≤ 30 ∧ ∃ M m, Inv M (100 * i'.toNat) ∧ Ref m M ∧ St W (sto b M :: cel b4 (T26.cells m) 27 :: ro T75 m.L M.rows :: [old W]) w') ∧ (30 - i').toNat < (30 - i).toNat) fun r w' => r = true ∧ RowKit.Below W.heap.size W w' := by
      intro M2 m2 nb w hI2 hR2 H
      have hlen2 := hI2.len
      unfold F3_j2
      refine vld_st (x := m2) 0 H rfl ?_
      refine vst_st (x := m) (y := m2) len27 2 H rfl fun w1 H => ?_
      have H := ((H.front 1).drop).ord [1, 0]
      -- sto, b4, ro, old
      have k3 : Know (sto b M2 :: cel b4 (T26.cells m2) 27 :: ro T75 m2.L M2.rows :: [old W]) (RoP T32 s (os.map (·.1))) := k1.tail.tail.tail
      have kr : Know (cel b4 (T26.cells m2) 27 :: ro T75 m2.L M2.rows :: [old W]) (RoP T75 m2.L M2.rows) := (Know.here (m := RoP.mono)).tail
      refine ex_i a ha ?_
      refine ex_i o.1.Key (k3.fld (fun _ => rfl) ha hx rfl H) ?_
      refine cl_mono (slast_spec (k := o.1.Key) hI2 (by omega) H) ?_
      rintro q w2 ⟨hq, H⟩
      refine nw_st H fun b21 w3 H => ?_
      refine vst_st (x := Z35) (y := q.1) len36 0 H rfl fun w4 H => ?_
      refine dr_st H fun w5 H => ?_
      refine ex_i a ha ?_
      refine vld_st (x := m2) 2 H rfl ?_
      refine ex_i o.1.Key (k3.tail.fld (fun _ => rfl) ha hx rfl H) ?_
      refine ⟨?_, ?_⟩
      · refine cl_mono (rlast_spec (key := o.1.Key) (by omega) kr.tail.tail H) ?_
        rintro q' w6 ⟨hq', H⟩
        have : q' = q := hq'.trans hq.symm
        subst this
        refine nw_st H fun b82 w7 H => ?_
        refine vst_st (x := Z35) (y := q'.1) len36 0 H rfl fun w8 H => ?_
        exact hj3 M2 m2 _ _ _ _ hI2 hR2 H
      · refine nw_st H fun b85 w6 H => ?_
        refine cl_mono (rlast_spec (key := o.1.Key) (by omega) kr.tail.tail.tail H) ?_
        rintro q' w7 ⟨hq', H⟩
        have : q' = q := hq'.trans hq.symm
        subst this
        refine vst_st (x := Z35) (y := q'.1) len36 0 H rfl fun w8 H => ?_
        exact hj3 M2 m2 _ _ _ _ hI2 hR2 H
    refine dr_st H fun w6 H => ?_
    refine ex_i a ha ?_
    refine vld_st (x := m) 1 H rfl ?_
    refine ex_i o.1 (k2.rd (fun _ => rfl) ha hx H) ?_
    have hyl : (o.2.take 120).length ≤ 1000 := by rw [List.length_take]; omega
    have kf : Know (sto b M :: cel b4 (T26.cells m) 27 :: ro T75 m.L M.rows :: [old W]) (RoP T57 o.1.L o.2) := (ko.old hp.2).tail.tail.tail
    refine ⟨?_, ?_⟩
    · refine cl_mono (few_spec hp.1 kf H) ?_
      rintro r w7 ⟨s2, rfl, H⟩
      generalize o.2.take 120 = ys at H hyl
      generalize hz : (⟨o.1.Kind, o.1.Key, o.1.T_, s2⟩ : S32) = z
      have hzL : z.L = s2 := by rw [← hz]
      -- ro s2, sto, b4, ro m
      refine ⟨rdat_cel T26 (H.front 2) rfl (at_all _), ?_⟩
      refine ⟨?_, ?_⟩
      · have k75 : Know (ro T57 s2 ys :: cel b4 (T26.cells m) 27 :: ro T75 m.L M.rows :: [old W]) (RoP T75 m.L M.rows) := (Know.here (m := RoP.mono)).tail.tail
        have k57 : Know (ro T57 s2 ys :: cel b4 (T26.cells m) 27 :: ro T75 m.L M.rows :: [old W]) (RoP T57 z.L ys) := by rw [hzL]; exact Know.here (m := RoP.mono)
        refine cl_mono (does_spec hI (by omega) hyl hR k75 k57 (H.front 1)) ?_
        rintro ⟨m2, ok⟩ w8 ⟨hok, hR2, H⟩
        simp only at hok hR2 H
        subst hok
        -- ro m2, sto', ro s2, b4, ro m, old
        refine ⟨k1.tail.tail.tail.tail.tail.rd (fun _ => rfl) ha hx H, ?_⟩
        refine nw_st H fun b100 w9 H => ?_
        refine vst_st (x := Z26) (y := m2) len27 0 H rfl fun w10 H => ?_
        -- b100, ro m2, sto', ro s2, b4, ro m, old
        exact hj2 _ m2 _ _ (hI.act z ys) hR2 ((((H.ord [0, 2, 4, 1]).front 4).drop).front 4).drop
      · refine nw_st H fun b103 w8 H => ?_
        have k75 : Know (cel b103 (T26.cells Z26) 27 :: ro T57 s2 ys :: cel b4 (T26.cells m) 27 :: ro T75 m.L M.rows :: [old W]) (RoP T75 m.L M.rows) := (Know.here (m := RoP.mono)).tail.tail.tail
        have k57 : Know (cel b103 (T26.cells Z26) 27 :: ro T57 s2 ys :: cel b4 (T26.cells m) 27 :: ro T75 m.L M.rows :: [old W]) (RoP T57 z.L ys) := by rw [hzL]; exact (Know.here (m := RoP.mono)).tail
        refine cl_mono (does_spec hI (by omega) hyl hR k75 k57 (H.front 2)) ?_
        rintro ⟨m2, ok⟩ w9 ⟨hok, hR2, H⟩
        simp only at hok hR2 H
        subst hok
        -- ro m2, sto', b103, ro s2, b4, ro m, old
        refine ⟨k1.tail.tail.tail.tail.tail.tail.rd (fun _ => rfl) ha hx H, ?_⟩
        refine vst_st (x := Z26) (y := m2) len27 2 H rfl fun w10 H => ?_
        -- b103, ro m2, sto', ro s2, b4, ro m, old
        exact hj2 _ m2 _ _ (hI.act z ys) hR2 ((((H.ord [0, 2, 4, 1]).front 4).drop).front 4).drop
    · refine nw_st H fun b109 w7 H => ?_
      refine cl_mono (few_spec hp.1 kf.tail H) ?_
      rintro r w8 ⟨s2, rfl, H⟩
      generalize o.2.take 120 = ys at H hyl
      generalize hz : (⟨o.1.Kind, o.1.Key, o.1.T_, s2⟩ : S32) = z
      have hzL : z.L = s2 := by rw [← hz]
      -- ro s2, b109, sto, b4, ro m
      refine ⟨rdat_cel T26 (H.front 3) rfl (at_all _), ?_⟩
      have k75 : Know (ro T57 s2 ys :: cel b109 (T26.cells Z26) 27 :: cel b4 (T26.cells m) 27 :: ro T75 m.L M.rows :: [old W]) (RoP T75 m.L M.rows) := (Know.here (m := RoP.mono)).tail.tail.tail
      have k57 : Know (ro T57 s2 ys :: cel b109 (T26.cells Z26) 27 :: cel b4 (T26.cells m) 27 :: ro T75 m.L M.rows :: [old W]) (RoP T57 z.L ys) := by rw [hzL]; exact Know.here (m := RoP.mono)
      refine cl_mono (does_spec hI (by omega) hyl hR k75 k57 (H.front 2)) ?_
      rintro ⟨m2, ok⟩ w9 ⟨hok, hR2, H⟩
      simp only at hok hR2 H
      subst hok
      -- ro m2, sto', ro s2, b109, b4, ro m, old
      refine ⟨k1.tail.tail.tail.tail.tail.tail.rd (fun _ => rfl) ha hx H, ?_⟩
      refine vst_st (x := Z26) (y := m2) len27 3 H rfl fun w10 H => ?_
      -- b109, ro m2, sto', ro s2, b4, ro m, old
      exact hj2 _ m2 _ _ (hI.act z ys) hR2 ((((H.ord [0, 2, 4, 1]).front 4).drop).front 4).drop
  · have hIl := hI.len
    have kr : Know (cel b4 (T26.cells m) 27 :: ro T75 m.L M.rows :: [old W]) (RoP T75 m.L M.rows) := (Know.here (m := RoP.mono)).tail
    refine ld_st (x := m.Closed) 1 H rfl rfl rfl ?_
    refine cl_mono (snap_spec (t := m.Closed) hI (by omega) H) ?_
    rintro ⟨q, e⟩ w6 ⟨he, H⟩
    simp only at he H
    -- row, sto, b4, ro
    refine vld_st (x := m) 2 H rfl ?_
    refine ld_st (x := m.Closed) 2 H rfl rfl rfl ?_
    refine cl_mono (rsnap_spec (t := m.Closed) (by omega) hR kr.tail.tail H) ?_
    rintro ⟨q', e'⟩ w7 ⟨he', H⟩
    simp only at he' H
    have hsl : (snapL M m.Closed).length ≤ 9000 := Nat.le_trans snap_len (by omega)
    rw [show ((q, e).2 == (q', e').2) = true from by simp [he, he'], if_pos rfl]
    refine cl_mono (same_see (a := snapL M m.Closed) (b := snapL M m.Closed) (by omega) (See.row (fun _ => rfl) 1 rfl) (See.row (fun _ => rfl) 0 rfl) H) ?_
    rintro r w8 ⟨hr, H⟩
    have hr := hr.2 rfl
    subst hr
    unfold F3_j5
    exact ⟨rfl, Know.below ko.tail.tail.tail.tail.tail H⟩
end Go.Proofs.Ytdgdkbfigndndaa.Store
namespace Go.Proofs.Ytdgdkbfigndndaa
open Go Go.Proofs.Ytdgdkbfigndndaa.Cf
theorem walkStorePlays (W : World) (s : Slc) (g0 : G22 W s) : cl Try.prog 3 [tSlc.enc s] tBool W fun r w' => r = true ∧ RowKit.Below W.heap.size W w' := Store.plays_walk W s g0
end Go.Proofs.Ytdgdkbfigndndaa
