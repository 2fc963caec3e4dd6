/- Contracts of the store: Put, Snap, Prune, Size. -/
import Derived.Test.YtpdaapffkdejoaaGreatKD
namespace Go.Proofs.YtpdaapffkdejoaaGreat.Store
open Go Go.Proofs.YtpdaapffkdejoaaGreat.Cf
set_option linter.unusedVariables false
set_option linter.unusedSimpArgs false
set_option maxRecDepth 100000
theorem news_len (t : Int) (xs : List S62) : (news t xs).length = xs.length := List.length_map ..
theorem news_take {t : Int} {xs : List S62} {i : Nat} (h : i < xs.length) : news t (xs.take (i + 1)) = news t (xs.take i) ++ [⟨t, xs[i]⟩] := by
  unfold news; rw [List.take_succ_eq_append_getElem h, List.map_append]; rfl
theorem vs_one (t k : Int) (x : S62) : vs [⟨t, x⟩] k = if x.Key = k then [⟨t, x.V⟩] else [] := by rw [vs_cons, vs_nil]
/-- What is put keeps the store in order. -/
theorem vs_news_le {t k : Int} : ∀ {xs : List S62}, (xs.map (·.Key)).Nodup → (vs (news t xs) k).length ≤ 1
  | [], _ => by simp [news, vs_nil]
  | x :: xs, h => by
    have h' := List.nodup_cons.1 h
    have e : news t (x :: xs) = ⟨t, x⟩ :: news t xs := rfl
    rw [e, vs_cons]
    split
    · rename_i hk
      have hk : x.Key = k := hk
      subst hk
      rw [vs_news_no h'.1]
      simp
    · exact vs_news_le h'.2
theorem Inv.put {M : Md} (hI : Inv M) (t : Int) (xs : List S62) : Inv (putM M t xs) := by
  unfold putM
  split
  · rename_i he
    unfold putE at he
    split at he
    · cases he
    · split at he
      · cases he
      · split at he
        · cases he
        · obtain ⟨h1, h2⟩ := why_ok he
          refine ⟨fun k => ?_, fun r hr => ?_, fun r hr => ?_, ?_, hI.mark⟩
          · simp only
            rw [vs_app, List.length_append]
            by_cases hk : k ∈ xs.map (·.Key)
            · obtain ⟨x, hx, rfl⟩ := List.mem_map.1 hk
              have := (h1 x hx).2.2.2.1
              have := vs_news_le (t := t) (k := x.Key) h2
              omega
            · rw [vs_news_no hk]
              have := hI.cap k
              simpa using this
          · rcases List.mem_append.1 hr with hr | hr
            · exact hI.key r hr
            · obtain ⟨x, hx, rfl⟩ := List.mem_map.1 hr
              exact ⟨(h1 x hx).1, (h1 x hx).2.1⟩
          · rcases List.mem_append.1 hr with hr | hr
            · exact hI.time r hr
            · obtain ⟨x, hx, rfl⟩ := List.mem_map.1 hr
              simp only; omega
          · refine List.pairwise_append.2 ⟨hI.rise, ?_, ?_⟩
            · unfold news
              rw [List.pairwise_map]
              refine (List.pairwise_map.1 h2).imp fun hne he => absurd he hne
            · rintro r hr q hq hk
              obtain ⟨x, hx, rfl⟩ := List.mem_map.1 hq
              have hlt := (h1 x hx).2.2.1
              have hk : r.X.Key = x.Key := hk
              show r.T_ < t
              have hm : (⟨r.T_, r.X.V⟩ : S86) ∈ vs M.rows x.Key := List.mem_map.2 ⟨r, List.mem_filter.2 ⟨hr, by simpa using hk⟩, rfl⟩
              have hrise := vs_rise hI.rise x.Key
              unfold lastV at hlt
              generalize vs M.rows x.Key = L at *
              rcases List.eq_nil_or_concat L with rfl | ⟨L', y, rfl⟩
              · cases hm
              · rw [List.concat_eq_append] at *
                rw [List.getLast?_append] at hlt
                simp only [List.getLast?_singleton, Option.some_or, Option.getD_some] at hlt
                rcases List.mem_append.1 hm with h | h
                · have := (List.pairwise_append.1 hrise).2.2 _ h y (List.mem_singleton_self _)
                  simp only at this; omega
                · cases List.mem_singleton.1 h
                  simpa using hlt
  · exact hI
theorem Inv.close {M : Md} (hI : Inv M) (t : Int) : Inv (closeM M t) := by
  unfold closeM
  split
  · rename_i h
    unfold closeE at h
    have := hI.mark
    refine ⟨hI.cap, hI.key, hI.time, hI.rise, ?_⟩
    split at h
    · cases h
    · simp only; omega
  · exact hI
theorem Inv.prune {M : Md} (hI : Inv M) (t : Int) : Inv (pruneM M t) := by
  unfold pruneM
  split
  · rename_i h
    unfold pruneE at h
    have := hI.mark
    have hs := keep_sub (max M.mark t) M.rows
    refine ⟨fun k => Nat.le_trans (by unfold vs; rw [List.length_map, List.length_map]; exact (hs.filter _).length_le) (hI.cap k), fun r hr => hI.key r (hs.subset hr), fun r hr => hI.time r (hs.subset hr), hI.rise.sublist hs, ?_⟩
    split at h
    · cases h
    · split at h
      · cases h
      · simp only; omega
  · exact hI
section
variable {W w : World} {l l' : List Assn}
theorem put_spec {b : Nat} {M : Md} {t : Int} {s : Slc} {xs : List S62} (hI : Inv M) (hx : xs.length ≤ 1000) (k : See 2 l T62 s xs) (H : St W (sto b M :: l) w) :
    cl Tryz.prog 30 [.pointer (some ⟨b, 0, none⟩), .int .i64 t, tSlc.enc s] (tInt .i64) w fun r w' => r = putE M t xs ∧ St W (sto b (putM M t xs) :: l) w' := by
  refine F30_ok ?_
  unfold F30
  have hs := k.tail.len H
  split
  · rename_i hc
    have e : putE M t xs = 120 := by unfold putE; rw [if_pos (by simp at hc; omega)]
    unfold putM
    rw [e, if_neg (by omega)]
    exact ⟨rfl, H⟩
  · rename_i hc
    have hc : ¬ (t < 1 ∨ t > 1125899906842624) := by simp at hc; omega
    obtain ⟨p, h, hnd, H⟩ := sto_open H
    refine nc_st rfl ?_
    refine ld_st (x := M.closed) 0 H rfl rfl rfl ?_
    have H := sto_shut h H
    split
    · rename_i hc2
      have e : putE M t xs = 121 := by unfold putE; rw [if_neg hc, if_pos (by simpa using hc2)]
      unfold putM
      rw [e, if_neg (by omega)]
      exact ⟨rfl, H⟩
    · rename_i hc2
      have hc2 : ¬ t ≤ M.closed := by simpa using hc2
      refine cl_mono (swhy_spec (t := t) hI hx (by omega) k H) ?_
      rintro r w1 ⟨rfl, H⟩
      have e : putE M t xs = if xs.length > 100 then 122 else whyL M.rows t [] xs := by unfold putE; rw [if_neg hc, if_neg hc2]
      rw [← e]
      unfold putM
      split
      · rename_i hne
        have hne : putE M t xs ≠ 0 := by simpa using hne
        rw [if_neg hne]
        exact ⟨rfl, H⟩
      · rename_i hne
        have hne : putE M t xs = 0 := by simpa using hne
        rw [if_pos hne, hne]
        have hl : xs.length ≤ 100 := by
          rw [e] at hne
          split at hne
          · cases hne
          · omega
        rw [e, if_neg (by omega)] at hne
        obtain ⟨g1, g2⟩ := why_ok hne
        refine lp_i (fun i w => 0 ≤ i ∧ i ≤ xs.length ∧ St W (sto b { M with rows := M.rows ++ news t (xs.take i.toNat) } :: l) w) (fun i => (xs.length - i).toNat) ⟨Int.le_refl 0, by omega, by simpa [news] using H⟩ ?_
        rintro i w ⟨h0, h1, H⟩
        unfold F30_l1
        rw [hs]
        split
        · rename_i hc3
          have hc3 : i < xs.length := by simpa using hc3
          have e1 : IntKind.i64.wrap (i + 1) = i + 1 := wrap_i64 (by omega) (by omega)
          have hxi : xs[i.toNat]? = some xs[i.toNat] := List.getElem?_eq_getElem (by omega)
          have htk := news_take (t := t) (xs := xs) (i := i.toNat) (by omega)
          have hkey := g1 xs[i.toNat] (List.getElem_mem _)
          have hnot : (xs[i.toNat]).Key ∉ (xs.take i.toNat).map (·.Key) := by
            intro hm
            rw [List.map_take] at hm
            obtain ⟨j, hj, hje⟩ := List.mem_take_iff_getElem.1 hm
            have := (List.pairwise_iff_getElem.1 g2) j i.toNat (by simp at hj ⊢; omega) (by simp; omega) (by omega)
            rw [hje] at this
            simp at this
          obtain ⟨a, ha⟩ := k.tail.ix (i := i) H h0 hc3
          refine ex_i a ha ?_
          refine ex_i xs[i.toNat] (k.tail.rd ha hxi H) ?_
          generalize xs[i.toNat] = x at htk hkey hnot
          refine nw_st H fun b1 w2 H => ?_
          refine vst_st (x := Z62) (y := x) len63 0 H rfl fun w3 H => ?_
          refine dr_st H fun w4 H => ?_
          have hvs : vs (M.rows ++ news t (xs.take i.toNat)) x.Key = vs M.rows x.Key := by rw [vs_app, vs_news_no hnot, List.append_nil]
          generalize hrows : M.rows ++ news t (xs.take i.toNat) = rows at H hvs
          have hrows' : M.rows ++ news t (xs.take (i + 1).toNat) = rows ++ [⟨t, x⟩] := by rw [show (i + 1).toNat = i.toNat + 1 from by omega, htk, ← hrows, List.append_assoc]
          have hlen : (vs rows x.Key).length < 10000 := by rw [hvs]; exact hkey.2.2.2.1
          have hlast : (lastV (vs rows x.Key)).1.T_ < t := by rw [hvs]; exact hkey.2.2.1
          have hself : vs (rows ++ [⟨t, x⟩]) x.Key = vs rows x.Key ++ [⟨t, x.V⟩] := by rw [vs_app, vs_one, if_pos rfl]
          have hother : ∀ q, q ≠ x.Key → vs rows q = vs (rows ++ [⟨t, x⟩]) q := fun q hq => by rw [vs_app, vs_one, if_neg (fun h => hq h.symm), List.append_nil]
          have hmk := hI.mark
          obtain ⟨p, h, hnd, H⟩ := sto_open (H.front 1)
          -- what both ways share
          have hend : ∀ (C : ChP) (l1 l2 : List (Int × ChP)) (pm : Nat) (w : World), Rel ⟨pm, l1 ++ (x.Key, C) :: l2⟩ { M with rows := rows ++ [⟨t, x⟩] } → ((l1 ++ (x.Key, C) :: l2).map (·.1)).Nodup → 0 ≤ C.mark ∧ C.mark ≤ M.mark →
              St W (chainA C (vs rows x.Key) :: bigF (vs rows) (l1 ++ l2) :: mapE tPtr .i64 pm (ptrs (l1 ++ (x.Key, C) :: l2)) :: cel b (T94.cells ⟨some pm, M.closed, M.mark⟩) 95 :: cel b1 (T62.cells x) 63 :: l) w →
              F30_j2 t i ⟨b1, 0, none⟩ (some ⟨C.b, 0, none⟩) w (fun s' w' => (0 ≤ s' ∧ s' ≤ xs.length ∧ St W (sto b { M with rows := M.rows ++ news t (xs.take s'.toNat) } :: l) w') ∧ (xs.length - s').toNat < (xs.length - i).toNat) fun r w' => r = 0 ∧ St W (sto b { M with rows := M.rows ++ news t xs } :: l) w' := by
            intro C l1 l2 pm w hR hnd hm H
            unfold F30_j2
            refine ld_st (x := x.V) 4 H rfl rfl rfl ?_
            refine cl_mono (chput_spec (t := t) (v := x.V) (by omega) (by omega) (by omega) (by omega) hlast H) ?_
            rintro r w5 ⟨s2, H⟩
            rw [e1]
            have H := big_set (g' := vs (rows ++ [⟨t, x⟩])) (k := x.Key) hself (fun e he => hother e.1 (others hnd e he)) H
            refine ⟨⟨by omega, by omega, ?_⟩, by omega⟩
            rw [hrows']
            have hp : ptrs (l1 ++ (x.Key, (⟨C.b, s2, C.mark⟩ : ChP)) :: l2) = ptrs (l1 ++ (x.Key, C) :: l2) := by unfold ptrs; simp
            rw [← hp] at H
            refine sto_shut (t := ⟨pm, l1 ++ (x.Key, ⟨C.b, s2, C.mark⟩) :: l2⟩) (M := { M with rows := rows ++ [⟨t, x⟩] }) ⟨fun q => ?_, fun e he => ?_⟩ (((H.front 3).drop).ord [2, 1, 0])
            · have := hR.keys q
              simpa using this
            · rcases List.mem_append.1 he with he | he
              · exact hR.marks e (List.mem_append_left _ he)
              · rcases List.mem_cons.1 he with rfl | he
                · exact hm
                · exact hR.marks e (List.mem_append_right _ (List.mem_cons_of_mem _ he))
          refine ld_st (x := some p.m) 0 H rfl rfl rfl ?_
          refine ld_st (x := x.Key) 3 H rfl rfl rfl ?_
          refine mget_st 1 H rfl rfl ?_
          rw [lookup_ptrs]
          cases hlk : p.chs.lookup x.Key with
          | none =>
            rw [if_pos (by simp)]
            refine cl_mono (chnew_spec H) ?_
            rintro r w5 ⟨cb, rfl, H⟩
            refine dr_st H fun w6 H => ?_
            refine ld_st (x := some p.m) 1 H rfl rfl rfl ?_
            refine ld_st (x := x.Key) 4 H rfl rfl rfl ?_
            refine mput_st 2 H rfl rfl fun w7 H => ?_
            have hlk2 : (ptrs p.chs).lookup x.Key = none := by rw [lookup_ptrs, hlk]; rfl
            have hp : ups x.Key (some ⟨cb, 0, none⟩) (ptrs p.chs) = ptrs (p.chs ++ (x.Key, (⟨cb, nilS, 0⟩ : ChP)) :: []) := by rw [ups_none hlk2]; unfold ptrs; simp
            rw [hp] at H
            have h0v : vs rows x.Key = [] := h.none hlk
            have hnin : x.Key ∉ p.chs.map (·.1) := lookup_none.1 hlk
            refine hend ⟨cb, nilS, 0⟩ p.chs [] p.m w7 ⟨fun q => ?_, fun e he => ?_⟩ ?_ ⟨Int.le_refl 0, hmk.1⟩ ?_
            · by_cases hq : q = x.Key
              · subst hq
                simp only [hself]; simp
              · rw [← hother q hq, h.keys q]; simp [hq]
            · rcases List.mem_append.1 he with he | he
              · exact h.marks e he
              · cases List.mem_singleton.1 he
                exact ⟨Int.le_refl 0, hmk.1⟩
            · rw [List.map_append]
              refine List.nodup_append.2 ⟨hnd, by simp, ?_⟩
              intro a ha c hc
              simp at hc; subst hc
              intro e; subst e; exact hnin ha
            · rw [h0v, List.append_nil]
              exact H.ord [1, 3, 0, 2, 4]
          | some C =>
            rw [if_neg (by simp)]
            obtain ⟨l1, l2, e⟩ := look_split hlk
            rw [e] at H hnd
            have hm := h.marks _ (look_mem hlk)
            refine hend C l1 l2 p.m w4 ⟨fun q => ?_, fun e' he => ?_⟩ hnd hm ((big_get (H.front 2)).ord [0, 1, 3, 2, 4])
            · have := h.keys q
              rw [e] at this
              by_cases hq : q = x.Key
              · subst hq
                simp only [hself]; simp
              · rw [← hother q hq]; exact this
            · exact h.marks _ (by rw [e]; assumption)
        · rename_i hc3
          have hc3 : i = xs.length := by simp at hc3; omega
          subst hc3
          have e2 : xs.take ((xs.length : Int)).toNat = xs := by simp
          rw [e2] at H
          exact ⟨rfl, H⟩
end
end Go.Proofs.YtpdaapffkdejoaaGreat.Store
