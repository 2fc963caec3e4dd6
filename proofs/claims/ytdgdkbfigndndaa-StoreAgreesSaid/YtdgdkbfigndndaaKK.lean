/- StoreWhole: plain law and walk. -/
import Derived.Test.YtdgdkbfigndndaaKJ
import Derived.Test.YtdgdkbfigndndaaOp
namespace Go.Proofs.Ytdgdkbfigndndaa.Store
open Go Go.Proofs.Ytdgdkbfigndndaa.Cf
set_option linter.unusedVariables false
set_option linter.unusedSimpArgs false
set_option maxRecDepth 100000
theorem list_ex {α β : Type} {P : α → β → Prop} : ∀ {xs : List α}, (∀ x ∈ xs, ∃ y, P x y) → ∃ ps : List (α × β), ps.map (·.1) = xs ∧ ∀ p ∈ ps, P p.1 p.2
  | [], _ => ⟨[], rfl, fun p h => by cases h⟩
  | x :: xs, h => by
    obtain ⟨y, hy⟩ := h x (List.mem_cons_self ..)
    obtain ⟨ps, h1, h2⟩ := list_ex fun x hx => h x (List.mem_cons_of_mem _ hx)
    refine ⟨(x, y) :: ps, by rw [List.map_cons, h1], fun p hp => ?_⟩
    rcases List.mem_cons.1 hp with rfl | hp
    · exact hy
    · exact h2 p hp
theorem ops_of {W : World} {s : Slc} (g : G22 W s) : ∃ os, OpsP s os fun b => W.heap[b]? := by
  obtain ⟨_, xs, h1, h2⟩ := g
  obtain ⟨ps, e, hp⟩ := list_ex (P := fun (x : S32) (es : List S57) => x.L.len ≤ x.L.cap ∧ RoP T57 x.L es fun b => W.heap[b]?) (xs := xs) fun x hx => by
    obtain ⟨_, _, _, hc, es, _, hr⟩ := h1 x hx
    exact ⟨es, hc.1, hr⟩
  exact ⟨ps, by rw [e]; exact h2, hp⟩
theorem OpsP.mono {s : Slc} {os : List (S32 × List S57)} {I I' : PMap} (h : PMap.le I I') : OpsP s os I → OpsP s os I' := fun ⟨h1, h2⟩ => ⟨RoP.mono h h1, fun p hp => ⟨(h2 p hp).1, RoP.mono h (h2 p hp).2⟩⟩
theorem know_old (W : World) : Know [old W] fun I => PMap.le (fun b => W.heap[b]?) I := Know.here (m := fun h k => PMap.le_trans k h)
theorem know_ops {W : World} {l : List Assn} {s : Slc} {os : List (S32 × List S57)} (k : Know l fun I => PMap.le (fun b => W.heap[b]?) I) (h : OpsP s os fun b => W.heap[b]?) : Know l (OpsP s os) := k.imp fun _ hI => OpsP.mono hI h
/-- What is put. -/
structure PutOk (M : Md) (t : Int) (xs : List S57) : Prop where
  time : 1 ≤ t ∧ t ≤ 1125899906842624 ∧ M.closed < t
  len : xs.length ≤ 100
  key : ∀ x ∈ xs, 0 ≤ x.Key ∧ x.Key ≤ 8191 ∧ (lastV (vs M.rows x.Key)).1.T_ < t
  nd : (xs.map (·.Key)).Nodup
theorem put_ok {M : Md} {t : Int} {xs : List S57} (h : putE M t xs = 0) : PutOk M t xs := by
  unfold putE at h
  split at h
  · cases h
  · split at h
    · cases h
    · split at h
      · cases h
      · obtain ⟨h1, h2⟩ := why_ok h
        exact ⟨by omega, by omega, fun x hx => ⟨(h1 x hx).1, (h1 x hx).2.1, (h1 x hx).2.2.1⟩, h2⟩
theorem vs_news_one {t : Int} {x : S57} : ∀ {xs : List S57}, (xs.map (·.Key)).Nodup → x ∈ xs → vs (news t xs) x.Key = [⟨t, x.V⟩]
  | [], _, h => by cases h
  | y :: xs, hn, h => by
    have hn' := List.nodup_cons.1 hn
    show vs (⟨t, y⟩ :: news t xs) x.Key = _
    rw [vs_cons]
    rcases List.mem_cons.1 h with rfl | h
    · rw [if_pos rfl, vs_news_no hn'.1]
    · have : ¬ y.Key = x.Key := fun e => hn'.1 (by show y.Key ∈ _; rw [e]; exact List.mem_map.2 ⟨x, h, rfl⟩)
      rw [if_neg this]; exact vs_news_one hn'.2 h
theorem vs_put {M : Md} {t : Int} {xs : List S57} {x : S57} (h : putE M t xs = 0) (hx : x ∈ xs) : vs (putM M t xs).rows x.Key = vs M.rows x.Key ++ [⟨t, x.V⟩] := by
  unfold putM
  rw [if_pos h, vs_app, vs_news_one (put_ok h).nd hx]
theorem vs_put_no {M : Md} {t k : Int} {xs : List S57} (hx : k ∉ xs.map (·.Key)) : vs (putM M t xs).rows k = vs M.rows k := by
  unfold putM
  split
  · rw [vs_app, vs_news_no hx, List.append_nil]
  · rfl
theorem lt_last {L : List S35} (h : Rise L) {t : Int} (hl : (lastV L).1.T_ < t) : ∀ v ∈ L, v.T_ < t := by
  intro v hv
  unfold lastV at hl
  rcases List.eq_nil_or_concat L with rfl | ⟨L', y, rfl⟩
  · cases hv
  · rw [List.concat_eq_append] at *
    rw [List.getLast?_append] at hl
    simp only [List.getLast?_singleton, Option.some_or, Option.getD_some] at hl
    rcases List.mem_append.1 hv with h1 | h1
    · have := (List.pairwise_append.1 h).2.2 _ h1 y (List.mem_singleton_self _); omega
    · rw [List.mem_singleton.1 h1]; exact hl
theorem cnt_put {L : List S35} {v : S35} {t : Int} : cnt (L ++ [v]) t = if v.T_ ≤ t then some v else cnt L t := by
  unfold cnt
  rw [upto_app]
  split
  · rename_i h
    have : upto [v] t = [v] := by unfold upto; rw [List.filter_cons_of_pos (by simpa using h)]; rfl
    rw [this]; simp
  · rename_i h
    have : upto [v] t = [] := by unfold upto; rw [List.filter_cons_of_neg (by simpa using h)]; rfl
    rw [this, List.append_nil]
theorem cnt_mem {L : List S35} {v : S35} {t : Int} (h : cnt L t = some v) : v ∈ L ∧ v.T_ ≤ t := by
  unfold cnt at h
  have := List.mem_of_getLast? h
  unfold upto at this
  obtain ⟨h1, h2⟩ := List.mem_filter.1 this
  exact ⟨h1, by simpa using h2⟩
theorem timeM_of {M : Md} {t : Int} (h0 : 0 ≤ t) (h1 : t ≤ 1125899906842624) (h2 : t ≤ M.closed) (h3 : M.mark ≤ t) : timeM M t = 0 := by
  unfold timeM
  rw [if_neg (by omega), if_neg (by omega), if_neg (by omega)]
theorem getM_of {M : Md} {k t : Int} (hk : 0 ≤ k ∧ k ≤ 8191) (ht : timeM M t = 0) : getM M k t = match cnt (vs M.rows k) t with | none => (⟨0, 0⟩, 127) | some v => (v, 0) := by
  unfold getM
  rw [if_neg (by omega), if_neg (by omega)]
  rfl
theorem closeE_ok {t : Int} (h : closeE t = 0) : 0 ≤ t ∧ t ≤ 1125899906842624 := by
  unfold closeE at h
  split at h
  · cases h
  · omega
/-- Of what was put at one stamp a time sees all, or nothing. -/
theorem whole {M : Md} {n : Nat} {t at_ : Int} {xs : List S57} {x : S57} (hI : Inv M n) (hp : putE M t xs = 0) (hc : closeE at_ = 0) (hm : M.mark ≤ at_) (hx : x ∈ xs) :
    getM (closeM (putM M t xs) at_) x.Key at_ = (if t ≤ at_ then (⟨t, x.V⟩, 0) else getM (closeM (putM M t xs) at_) x.Key at_) ∧ (at_ < t → (getM (closeM (putM M t xs) at_) x.Key at_).2 = 0 → (getM (closeM (putM M t xs) at_) x.Key at_).1.T_ < t) := by
  have ho := put_ok hp
  obtain ⟨c0, c1⟩ := closeE_ok hc
  have hpm : (putM M t xs).mark = M.mark := by unfold putM; split <;> rfl
  have hM : closeM (putM M t xs) at_ = { putM M t xs with closed := max (putM M t xs).closed at_ } := by unfold closeM; rw [if_pos hc]
  have hkx := ho.key x hx
  have ht : timeM (closeM (putM M t xs) at_) at_ = 0 := by
    rw [hM]; exact timeM_of c0 c1 (by simp only; omega) (by simp only; omega)
  rw [getM_of ⟨hkx.1, hkx.2.1⟩ ht]
  have hr : (closeM (putM M t xs) at_).rows = (putM M t xs).rows := by rw [hM]
  have hcp := cnt_put (L := vs M.rows x.Key) (v := ⟨t, x.V⟩) (t := at_)
  dsimp only at hcp
  rw [hr, vs_put hp hx, hcp]
  constructor
  · by_cases hle : t ≤ at_
    · rw [if_pos hle, if_pos hle]
    · rw [if_neg hle, if_neg hle]
  · intro hlt
    rw [if_neg (by omega)]
    intro h0
    cases hct : cnt (vs M.rows x.Key) at_ with
    | none => rw [hct] at h0; cases h0
    | some v =>
      exact lt_last (vs_rise hI.rise _) hkx.2.2 _ (cnt_mem hct).1
theorem close_mark (M : Md) (t : Int) : (closeM M t).mark = M.mark := by unfold closeM; split <;> rfl
theorem put_mark (M : Md) (t : Int) (xs : List S57) : (putM M t xs).mark = M.mark := by unfold putM; split <;> rfl
theorem whole_walk (W : World) (s : Slc) (p : S51) (at_ : Int) (g0 : G22 W s) (g1 : G52 W p) : cl Try.prog 5 [tSlc.enc s, T51.enc p, .int .i64 at_] tBool W fun r w' => r = true ∧ RowKit.Below W.heap.size W w' := by
  obtain ⟨os, hos⟩ := ops_of g0
  obtain ⟨_, hcap, xs, _, hxs⟩ := g1
  have H := St.start W
  have ko := know_old W
  refine F5_ok ?_
  unfold F5
  refine nw_st H fun b4 w1 H => ?_
  refine cl_mono (made_spec (know_ops ko.tail hos) H) ?_
  rintro r w2 ⟨b, rfl, H⟩
  refine cl_mono (awake_spec H) ?_
  rintro r w3 ⟨rfl, H⟩
  rw [if_neg (by simp)]
  have hI : Inv (play M0 (os.take 30)) 3000 := (Inv.zero.play (os := os.take 30)).more (by rw [List.length_take]; omega)
  generalize play M0 (os.take 30) = M at *
  have kx : Know (sto b M :: cel b4 (T51.cells p) 52 :: [old W]) (RoP T57 p.L xs) := (ko.old hxs).tail.tail
  refine ld_st (x := p.L) 1 H rfl rfl rfl ?_
  refine cl_mono (few_spec (o := ⟨0, 0, 0, p.L⟩) hcap.1 kx H) ?_
  rintro r w4 ⟨s2, rfl, H⟩
  have hl : (xs.take 120).length ≤ 1000 := by rw [List.length_take]; omega
  generalize xs.take 120 = ys at hl H
  refine nw_st H fun b13 w5 H => ?_
  refine vst_st (x := Z32) (y := (⟨0, 0, 0, s2⟩ : S32)) len33 0 H rfl fun w6 H => ?_
  refine ld_st (x := p.T_) 3 H rfl rfl rfl ?_
  refine ld_st (x := s2) 0 H rfl rfl rfl ?_
  -- cel b13, ro, sto, cel b4, old
  have H := H.ord [2, 1, 0]
  have kr : Know (ro T57 s2 ys :: cel b13 (T32.cells ⟨0, 0, 0, s2⟩) 33 :: cel b4 (T51.cells p) 52 :: [old W]) (RoP T57 s2 ys) := Know.here (m := RoP.mono)
  refine cl_mono (put_spec (t := p.T_) hI (by omega) hl (See.ro (fun _ => rfl) kr) H) ?_
  rintro r w7 ⟨rfl, H⟩
  have hI2 := hI.put p.T_ ys
  have hend : ∀ {M : Md} {w : World}, St W (sto b M :: ro T57 s2 ys :: cel b13 (T32.cells ⟨0, 0, 0, s2⟩) 33 :: cel b4 (T51.cells p) 52 :: [old W]) w → RowKit.Below W.heap.size W w := fun H => Know.below ko.tail.tail.tail.tail H
  split
  · rename_i hc
    unfold F5_j1
    rw [if_pos rfl]
    unfold F5_j2
    rw [if_pos rfl]
    exact ⟨rfl, hend H⟩
  · rename_i hc
    have hp : putE M p.T_ ys = 0 := by simpa using hc
    refine cl_mono (close_spec (t := at_) H) ?_
    rintro r w8 ⟨rfl, H⟩
    unfold F5_j1
    split
    · unfold F5_j2
      rw [if_pos rfl]
      exact ⟨rfl, hend H⟩
    · rename_i hc2
      have hcl : closeE at_ = 0 := by simpa using hc2
      refine cl_mono (mark_spec H) ?_
      rintro r w9 ⟨rfl, H⟩
      unfold F5_j2
      split
      · exact ⟨rfl, hend H⟩
      · rename_i hc3
        rw [close_mark, put_mark] at hc3
        have hm : M.mark ≤ at_ := by simpa using hc3
        have hI3 := hI2.close at_
        have hw := fun x hx => whole (x := x) hI hp hcl hm hx
        generalize closeM (putM M p.T_ ys) at_ = M2 at *
        have hs2 := kr.tail.len H
        refine lp_i (fun i w => 0 ≤ i ∧ i ≤ ys.length ∧ St W (sto b M2 :: ro T57 s2 ys :: cel b13 (T32.cells ⟨0, 0, 0, s2⟩) 33 :: cel b4 (T51.cells p) 52 :: [old W]) w) (fun i => (ys.length - i).toNat) ⟨Int.le_refl 0, by omega, H⟩ ?_
        clear H
        rintro i w ⟨h0, h1, H⟩
        unfold F5_l3
        refine ld_st (x := s2) 2 H rfl rfl rfl ?_
        rw [hs2]
        split
        · rename_i hc
          have hc : i < ys.length := by simpa using hc
          have e1 : IntKind.i64.wrap (i + 1) = i + 1 := wrap_i64 (by omega) (by omega)
          have hx : ys[i.toNat]? = some ys[i.toNat] := List.getElem?_eq_getElem (by omega)
          obtain ⟨a, ha⟩ := kr.tail.ix (sz := 2) (i := i) H h0 hc
          have hwx := hw ys[i.toNat] (List.getElem_mem _)
          generalize ys[i.toNat] = x at hx hwx
          refine ld_st (x := s2) 2 H rfl rfl rfl ?_
          refine ex_i a ha ?_
          refine ex_i x.Key (kr.tail.fld (fun _ => rfl) ha hx rfl H) ?_
          refine cl_mono (get_spec (k := x.Key) (t := at_) hI3 (by omega) H) ?_
          rintro q w10 ⟨hq, H⟩
          rw [← hq] at hwx
          clear hq
          refine nw_st H fun b33 w11 H => ?_
          refine vst_st (x := Z35) (y := q.1) len36 0 H rfl fun w12 H => ?_
          refine ex_i q.1.T_ (fun _ => rdat_cel (tInt .i64) H rfl rfl) ?_
          refine ex_i p.T_ (fun _ => rdat_cel (tInt .i64) (H.front 4) rfl rfl) ?_
          refine dr_st H fun w13 H => ?_
          refine ld_st (x := p.T_) 4 H rfl rfl rfl ?_
          refine ex_i q.1.V (fun _ => rdat_cel (tInt .i64) H rfl rfl) ?_
          refine ex_i s2 (fun _ => rdat_cel tSlc (H.front 3) rfl rfl) ?_
          refine ex_i a (fun _ => ha) ?_
          refine ex_i x.V (fun _ => kr.tail.tail.fld (fun _ => rfl) ha hx rfl H) ?_
          have hgood : ((q.2 == (0 : Int)) && (q.1.T_ == p.T_)) = decide (at_ ≥ p.T_) ∧ (at_ ≥ p.T_ → q.1.V = x.V) := by
            by_cases hle : p.T_ ≤ at_
            · have h := hwx.1
              rw [if_pos hle] at h
              rw [h]; simp; omega
            · refine ⟨?_, fun h => absurd h hle⟩
              rw [show decide (at_ ≥ p.T_) = false from by simpa using hle]
              by_cases h2 : q.2 = 0
              · have := hwx.2 (by omega) h2
                have : ¬ q.1.T_ = p.T_ := by omega
                simp [this]
              · simp [h2]
          rw [hgood.1]
          rw [if_neg (by
            by_cases hle : at_ ≥ p.T_
            · simp [hle, hgood.2 hle]
            · simp [hle])]
          rw [e1]
          exact ⟨⟨by omega, by omega, H.drop⟩, by omega⟩
        · exact ⟨rfl, hend H⟩
end Go.Proofs.Ytdgdkbfigndndaa.Store
namespace Go.Proofs.Ytdgdkbfigndndaa
open Go Go.Proofs.Ytdgdkbfigndndaa.Cf
theorem walkStoreWhole (W : World) (s : Slc) (p : S51) (at_ : Int) (g0 : G22 W s) (g1 : G52 W p) (g2 : G2 W at_) : cl Try.prog 5 [tSlc.enc s, T51.enc p, .int .i64 at_] tBool W fun r w' => r = true ∧ RowKit.Below W.heap.size W w' := Store.whole_walk W s p at_ g0 g1
end Go.Proofs.Ytdgdkbfigndndaa
