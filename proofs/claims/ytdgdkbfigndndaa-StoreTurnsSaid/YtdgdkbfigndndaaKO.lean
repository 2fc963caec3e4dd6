/- StoreTurns: plain law and walk. -/
import Derived.Test.YtdgdkbfigndndaaKN
namespace Go.Proofs.Ytdgdkbfigndndaa.Store
open Go Go.Proofs.Ytdgdkbfigndndaa.Cf
set_option linter.unusedVariables false
set_option linter.unusedSimpArgs false
set_option maxRecDepth 100000
theorem vs_putM (M : Md) (t k : Int) (xs : List S57) : vs (putM M t xs).rows k = vs M.rows k ++ if putE M t xs = 0 then vs (news t xs) k else [] := by
  unfold putM
  split
  · rw [vs_app]
  · rw [List.append_nil]
theorem putE_congr {M M' : Md} {t : Int} {xs : List S57} (hc : M.closed = M'.closed) (h : ∀ x ∈ xs, vs M.rows x.Key = vs M'.rows x.Key) : putE M t xs = putE M' t xs := by
  unfold putE
  rw [hc, why_congr h]
theorem timeM_congr {M M' : Md} {t : Int} (hc : M.closed = M'.closed) (hm : M.mark = M'.mark) : timeM M t = timeM M' t := by
  unfold timeM; rw [hc, hm]
theorem snapL_congr {M M' : Md} {t : Int} (hc : M.closed = M'.closed) (hm : M.mark = M'.mark) (hv : ∀ k, vs M.rows k = vs M'.rows k) : snapL M t = snapL M' t := by
  by_cases h : timeM M t = 0
  · exact snap_congr h (by rw [← timeM_congr hc hm]; exact h) fun k => by rw [hv]
  · have h' : ¬ timeM M' t = 0 := by rw [← timeM_congr hc hm]; exact h
    unfold snapL; rw [if_neg h, if_neg h']
/-- Puts of unlike keys may change places. -/
structure Turned (M : Md) (ta tb : Int) (p q : List S57) : Prop where
  e : putE M ta p = putE (putM M tb q) ta p
  f : putE (putM M ta p) tb q = putE M tb q
  v : ∀ k, vs (putM (putM M ta p) tb q).rows k = vs (putM (putM M tb q) ta p).rows k
theorem turned {M : Md} {ta tb : Int} {p q : List S57} (h : ∀ x ∈ p, ∀ y ∈ q, x.Key ≠ y.Key) : Turned M ta tb p q := by
  have he : putE M ta p = putE (putM M tb q) ta p := putE_congr (put_closed _ _ _).symm fun x hx => (vs_put_no fun hm => by
    obtain ⟨y, hy, e⟩ := List.mem_map.1 hm
    exact h x hx y hy e.symm).symm
  have hf : putE (putM M ta p) tb q = putE M tb q := putE_congr (put_closed _ _ _) fun y hy => vs_put_no fun hm => by
    obtain ⟨x, hx, e⟩ := List.mem_map.1 hm
    exact h x hx y hy e
  refine ⟨he, hf, fun k => ?_⟩
  rw [vs_putM, vs_putM, vs_putM, vs_putM, hf, ← he]
  by_cases hk : k ∈ p.map (·.Key)
  · have hq : k ∉ q.map (·.Key) := by
      obtain ⟨x, hx, rfl⟩ := List.mem_map.1 hk
      intro hm
      obtain ⟨y, hy, e⟩ := List.mem_map.1 hm
      exact h x hx y hy e.symm
    have hn : vs (news tb q) k = [] := vs_news_no hq
    rw [hn]; simp
  · have hn : vs (news ta p) k = [] := vs_news_no hk
    rw [hn]; simp
theorem turns_walk (W : World) (s : Slc) (a c : S51) (g0 : G22 W s) (g1 : G52 W a) (g2 : G52 W c) : cl Try.prog 8 [tSlc.enc s, T51.enc a, T51.enc c] tBool W fun r w' => r = true ∧ RowKit.Below W.heap.size W w' := by
  obtain ⟨os, hos⟩ := ops_of g0
  obtain ⟨_, hcap, xs, _, hxs⟩ := g1
  obtain ⟨_, hcap2, xs2, _, hxs2⟩ := g2
  have H := St.start W
  have ko := know_old W
  refine F8_ok ?_
  unfold F8
  refine nw_st H fun b4 w1 H => ?_
  refine nw_st H fun b6 w2 H => ?_
  refine cl_mono (made_spec (know_ops ko.tail.tail hos) H) ?_
  rintro r w3 ⟨b, rfl, H⟩
  refine cl_mono (made_spec (know_ops ko.tail.tail.tail hos) H) ?_
  rintro r w4 ⟨b', rfl, H⟩
  refine cl_mono (awake_spec H) ?_
  rintro r w5 ⟨rfl, H⟩
  rw [if_neg (by simp)]
  have hI : Inv (play M0 (os.take 30)) 3000 := (Inv.zero.play (os := os.take 30)).more (by rw [List.length_take]; omega)
  generalize play M0 (os.take 30) = M at *
  -- sto b', sto b, cel b6, cel b4, old
  refine dr_st H fun w6 H => ?_
  refine ld_st (x := a.L) 3 H rfl rfl rfl ?_
  refine ld_st (x := c.L) 2 H rfl rfl rfl ?_
  refine cl_mono (few_spec (o := ⟨0, 0, 0, a.L⟩) hcap.1 (ko.old hxs).tail.tail.tail.tail H) ?_
  rintro r w7 ⟨s1, rfl, H⟩
  refine ⟨rdat_cel tSlc (H.front 4) rfl rfl, ?_⟩
  refine ⟨rdat_cel tSlc (H.front 3) rfl rfl, ?_⟩
  refine cl_mono (few_spec (o := ⟨0, 0, 0, c.L⟩) hcap2.1 (ko.old hxs2).tail.tail.tail.tail.tail H) ?_
  rintro r w8 ⟨s2, rfl, H⟩
  refine ⟨rdat_cel tSlc (H.front 5) rfl rfl, ?_⟩
  refine ⟨rdat_cel tSlc (H.front 4) rfl rfl, ?_⟩
  have hpl : (xs.take 120).length ≤ 120 := by rw [List.length_take]; omega
  have hql : (xs2.take 120).length ≤ 120 := by rw [List.length_take]; omega
  generalize xs.take 120 = p at H hpl
  generalize xs2.take 120 = q at H hql
  -- ro s2 q, ro s1 p, sto b', sto b, cel b6, cel b4, old
  have H : St W (sto b M :: sto b' M :: cel b6 (T51.cells c) 52 :: cel b4 (T51.cells a) 52 :: ro T57 s1 p :: ro T57 s2 q :: [old W]) w8 := H.ord [3, 2, 4, 5, 1, 0]
  have kp : Know (cel b6 (T51.cells c) 52 :: cel b4 (T51.cells a) 52 :: ro T57 s1 p :: ro T57 s2 q :: [old W]) (RoP T57 s1 p) := (Know.here (m := RoP.mono)).tail.tail
  have kq : Know (cel b6 (T51.cells c) 52 :: cel b4 (T51.cells a) 52 :: ro T57 s1 p :: ro T57 s2 q :: [old W]) (RoP T57 s2 q) := (Know.here (m := RoP.mono)).tail.tail.tail
  have lp1 := kp.tail.tail.len H
  have lq1 := kq.tail.tail.len H
  have hend : ∀ {A B : Assn} {w : World}, St W (A :: B :: cel b6 (T51.cells c) 52 :: cel b4 (T51.cells a) 52 :: ro T57 s1 p :: ro T57 s2 q :: [old W]) w → RowKit.Below W.heap.size W w := fun H => Know.below ko.tail.tail.tail.tail.tail.tail H
  refine lp_i (fun i w => 0 ≤ i ∧ i ≤ p.length ∧ (∀ x ∈ p.take i.toNat, ∀ y ∈ q, x.Key ≠ y.Key) ∧ St W (sto b M :: sto b' M :: cel b6 (T51.cells c) 52 :: cel b4 (T51.cells a) 52 :: ro T57 s1 p :: ro T57 s2 q :: [old W]) w) (fun i => (p.length - i).toNat) ⟨Int.le_refl 0, by omega, by simp, H⟩ ?_
  clear H
  rintro i w ⟨h0, h1, h2, H⟩
  unfold F8_l1
  split
  · rename_i hc
    have hc : i < p.length := by have hh : i < (s1.len : Int) := (by simpa using hc); omega
    have e1 : IntKind.i64.wrap (i + 1) = i + 1 := wrap_i64 (by omega) (by omega)
    have hx : p[i.toNat]? = some p[i.toNat] := List.getElem?_eq_getElem (by omega)
    have htk : p.take (i.toNat + 1) = p.take i.toNat ++ [p[i.toNat]] := List.take_succ_eq_append_getElem (by omega)
    obtain ⟨d, hd⟩ := kp.tail.tail.ix (sz := 2) (i := i) H h0 hc
    generalize p[i.toNat] = x at hx htk
    refine lp_i (fun k w => 0 ≤ k ∧ k ≤ q.length ∧ (∀ y ∈ q.take k.toNat, x.Key ≠ y.Key) ∧ St W (sto b M :: sto b' M :: cel b6 (T51.cells c) 52 :: cel b4 (T51.cells a) 52 :: ro T57 s1 p :: ro T57 s2 q :: [old W]) w) (fun k => (q.length - k).toNat) ⟨Int.le_refl 0, by omega, by simp, H⟩ ?_
    clear H
    rintro k w ⟨k0, k1, k2, H⟩
    unfold F8_l2
    split
    · rename_i hck
      have hck : k < q.length := by have hh : k < (s2.len : Int) := (by simpa using hck); omega
      have e2 : IntKind.i64.wrap (k + 1) = k + 1 := wrap_i64 (by omega) (by omega)
      have hy : q[k.toNat]? = some q[k.toNat] := List.getElem?_eq_getElem (by omega)
      have hqk : q.take (k.toNat + 1) = q.take k.toNat ++ [q[k.toNat]] := List.take_succ_eq_append_getElem (by omega)
      obtain ⟨f, hf⟩ := kq.tail.tail.ix (sz := 2) (i := k) H k0 hck
      generalize q[k.toNat] = y at hy hqk
      refine dr_st H fun w9 H => ?_
      refine ex_i d hd ?_
      refine ex_i f hf ?_
      refine ex_i x.Key (kp.tail.tail.fld (fun _ => rfl) hd hx rfl H) ?_
      refine ex_i y.Key (kq.tail.tail.fld (fun _ => rfl) hf hy rfl H) ?_
      split
      · exact ⟨by trivial, hend H⟩
      · rename_i hne
        have hne : x.Key ≠ y.Key := by simpa using hne
        rw [e2]
        refine ⟨⟨by omega, by omega, fun z hz => ?_, H⟩, by omega⟩
        rw [show (k + 1).toNat = k.toNat + 1 from by omega, hqk] at hz
        rcases List.mem_append.1 hz with hz | hz
        · exact k2 z hz
        · rw [List.mem_singleton.1 hz]; exact hne
    · rename_i hck
      have hck : k = q.length := by have hh : ¬ k < (s2.len : Int) := (by simpa using hck); omega
      subst hck
      have e3 : q.take ((q.length : Int)).toNat = q := by simp
      rw [e3] at k2
      rw [e1]
      refine ⟨⟨by omega, by omega, fun z hz => ?_, H⟩, by omega⟩
      rw [show (i + 1).toNat = i.toNat + 1 from by omega, htk] at hz
      rcases List.mem_append.1 hz with hz | hz
      · exact h2 z hz
      · rw [List.mem_singleton.1 hz]; exact k2
  · rename_i hc
    have hc : i = p.length := by have hh : ¬ i < (s1.len : Int) := (by simpa using hc); omega
    subst hc
    have e3 : p.take ((p.length : Int)).toNat = p := by simp
    rw [e3] at h2
    have ht := turned (M := M) (ta := a.T_) (tb := c.T_) h2
    have sp : See 2 (cel b6 (T51.cells c) 52 :: cel b4 (T51.cells a) 52 :: ro T57 s1 p :: ro T57 s2 q :: [old W]) T57 s1 p := See.ro (fun _ => rfl) kp
    have sq : See 2 (cel b6 (T51.cells c) 52 :: cel b4 (T51.cells a) 52 :: ro T57 s1 p :: ro T57 s2 q :: [old W]) T57 s2 q := See.ro (fun _ => rfl) kq
    have Ia := hI.put a.T_ p
    have Ib := hI.put c.T_ q
    have Iab := Ia.put c.T_ q
    have Iba := Ib.put a.T_ p
    refine dr_st H fun w9 H => ?_
    refine ld_st (x := a.T_) 3 H rfl rfl rfl ?_
    refine ld_st (x := c.T_) 2 H rfl rfl rfl ?_
    refine cl_mono (put_spec (t := a.T_) hI (by omega) (by omega) sp.tail H) ?_
    rintro r w10 ⟨rfl, H⟩
    refine ⟨rdat_cel (tInt .i64) (H.front 2) rfl rfl, ?_⟩
    refine cl_mono (put_spec (t := c.T_) Ia (by omega) (by omega) sq.tail H) ?_
    rintro r w11 ⟨rfl, H⟩
    refine ⟨rdat_cel (tInt .i64) (H.front 3) rfl rfl, ?_⟩
    refine dr_st H fun w12 H => ?_
    refine ld_st (x := c.T_) 2 H rfl rfl rfl ?_
    refine ld_st (x := a.T_) 3 H rfl rfl rfl ?_
    refine cl_mono (put_spec (t := c.T_) hI (by omega) (by omega) sq.tail (H.front 1)) ?_
    rintro r w13 ⟨rfl, H⟩
    refine ⟨rdat_cel (tInt .i64) (H.front 3) rfl rfl, ?_⟩
    refine cl_mono (put_spec (t := a.T_) Ib (by omega) (by omega) sp.tail H) ?_
    rintro r w14 ⟨rfl, H⟩
    refine ⟨rdat_cel (tInt .i64) (H.front 2) rfl rfl, ?_⟩
    refine cl_mono (close_spec (t := 1125899906842624) (H.front 1)) ?_
    rintro r w15 ⟨_, H⟩
    refine cl_mono (close_spec (t := 1125899906842624) (H.front 1)) ?_
    rintro r w16 ⟨_, H⟩
    have hE1 := ht.e
    have hE2 := ht.f
    have hcE : closeE 1125899906842624 = 0 := by unfold closeE; rw [if_neg (by omega)]
    have hcl : ∀ M : Md, (closeM M 1125899906842624).closed = max M.closed 1125899906842624 ∧ (closeM M 1125899906842624).mark = M.mark ∧ (closeM M 1125899906842624).rows = M.rows := fun M => by unfold closeM; rw [if_pos hcE]; exact ⟨rfl, rfl, rfl⟩
    have hc1 : (closeM (putM (putM M a.T_ p) c.T_ q) 1125899906842624).closed = (closeM (putM (putM M c.T_ q) a.T_ p) 1125899906842624).closed := by
      rw [(hcl _).1, (hcl _).1, put_closed, put_closed, put_closed, put_closed]
    have hc2 : (closeM (putM (putM M a.T_ p) c.T_ q) 1125899906842624).mark = (closeM (putM (putM M c.T_ q) a.T_ p) 1125899906842624).mark := by
      rw [(hcl _).2.1, (hcl _).2.1, put_mark, put_mark, put_mark, put_mark]
    have hv : ∀ k, vs (closeM (putM (putM M a.T_ p) c.T_ q) 1125899906842624).rows k = vs (closeM (putM (putM M c.T_ q) a.T_ p) 1125899906842624).rows k := fun k => by
      rw [(hcl _).2.2, (hcl _).2.2]; exact ht.v k
    have Ix := Iab.close 1125899906842624
    have Iy := Iba.close 1125899906842624
    rw [hE1, hE2]
    generalize closeM (putM (putM M a.T_ p) c.T_ q) 1125899906842624 = X at *
    generalize closeM (putM (putM M c.T_ q) a.T_ p) 1125899906842624 = Y at *
    -- sto b' Y, sto b X, ..
    refine ld_st (x := a.T_) 3 H rfl rfl rfl ?_
    refine ld_st (x := c.T_) 2 H rfl rfl rfl ?_
    refine nwS_st H fun b62 w17 H => ?_
    have H := row_stay (row_new (T := tInt .i64) (sz := 1) (m := 3) (xs := [a.T_, c.T_, 1125899906842624]) rfl H)
    have H : St W (sto b X :: sto b' Y :: ro (tInt .i64) ⟨some ⟨b62, 0, none⟩, 3, 3⟩ [a.T_, c.T_, 1125899906842624] :: cel b6 (T51.cells c) 52 :: cel b4 (T51.cells a) 52 :: ro T57 s1 p :: ro T57 s2 q :: [old W]) w17 := H.ord [2, 1, 0]
    have k3 : Know (ro (tInt .i64) ⟨some ⟨b62, 0, none⟩, 3, 3⟩ [a.T_, c.T_, 1125899906842624] :: cel b6 (T51.cells c) 52 :: cel b4 (T51.cells a) 52 :: ro T57 s1 p :: ro T57 s2 q :: [old W]) (RoP (tInt .i64) ⟨some ⟨b62, 0, none⟩, 3, 3⟩ [a.T_, c.T_, 1125899906842624]) := Know.here (m := RoP.mono)
    refine lp_i (fun i w => 0 ≤ i ∧ i ≤ 3 ∧ St W (sto b X :: sto b' Y :: ro (tInt .i64) ⟨some ⟨b62, 0, none⟩, 3, 3⟩ [a.T_, c.T_, 1125899906842624] :: cel b6 (T51.cells c) 52 :: cel b4 (T51.cells a) 52 :: ro T57 s1 p :: ro T57 s2 q :: [old W]) w) (fun i => (3 - i).toNat) ⟨Int.le_refl 0, by omega, H⟩ ?_
    clear H
    rintro i w ⟨i0, i1, H⟩
    unfold F8_l3
    split
    · rename_i hc3
      have hc3 : i < 3 := by simpa using hc3
      have e4 : IntKind.i64.wrap (i + 1) = i + 1 := wrap_i64 (by omega) (by omega)
      obtain ⟨d, hd⟩ := k3.tail.tail.ix (sz := 1) (i := i) H i0 (by simpa using hc3)
      obtain ⟨u, hx⟩ : ∃ u, ([a.T_, c.T_, 1125899906842624] : List Int)[i.toNat]? = some u := ⟨_, List.getElem?_eq_getElem (by simp; omega)⟩
      refine ex_i d hd ?_
      refine ex_i u (k3.tail.tail.rd (fun _ => rfl) hd hx H) ?_
      refine cl_mono (snap_spec (t := u) Ix (by omega) H) ?_
      rintro ⟨q1, z1⟩ w18 ⟨hz1, H⟩
      simp only at hz1 H ⊢
      have H := (row_stay H).front 2
      refine cl_mono (snap_spec (t := u) Iy (by omega) H) ?_
      rintro ⟨q2, z2⟩ w19 ⟨hz2, H⟩
      simp only at hz2 H ⊢
      have H := row_stay H
      have hsl : (snapL X u).length ≤ 9000 := Nat.le_trans snap_len (Nat.le_trans Ix.len (by omega))
      rw [hz1, hz2, timeM_congr hc1 hc2, if_neg (by simp)]
      refine cl_mono (same_spec (a := snapL X u) (b := snapL Y u) (by omega) ((Know.here (m := RoP.mono)).tail.tail) (Know.here (m := RoP.mono)) H) ?_
      rintro r w20 ⟨hr, H⟩
      have hr := hr.2 (snapL_congr hc1 hc2 hv)
      subst hr
      unfold F8_j4
      rw [if_neg (by simp), e4]
      -- ro q2, sto b', ro q1, sto b
      exact ⟨⟨by omega, by omega, ((H.drop.front 1).drop).ord [1, 0]⟩, by omega⟩
    · exact ⟨by simp, Know.below ko.tail.tail.tail.tail.tail.tail.tail H⟩
end Go.Proofs.Ytdgdkbfigndndaa.Store
namespace Go.Proofs.Ytdgdkbfigndndaa
open Go Go.Proofs.Ytdgdkbfigndndaa.Cf
theorem walkStoreTurns (W : World) (s : Slc) (a c : S51) (g0 : G22 W s) (g1 : G52 W a) (g2 : G52 W c) : cl Try.prog 8 [tSlc.enc s, T51.enc a, T51.enc c] tBool W fun r w' => r = true ∧ RowKit.Below W.heap.size W w' := Store.turns_walk W s a c g0 g1 g2
end Go.Proofs.Ytdgdkbfigndndaa
