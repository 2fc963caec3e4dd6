/- Contracts of the store: why, Put, Snap, Prune, Size. -/
import Derived.Test.YtpdaapffkdejoaaGreatKC
namespace Go.Proofs.YtpdaapffkdejoaaGreat.Store
open Go Go.Proofs.YtpdaapffkdejoaaGreat.Cf
set_option linter.unusedVariables false
set_option linter.unusedSimpArgs false
set_option maxRecDepth 100000
theorem why_ok {L : List Row} {t : Int} : ∀ {xs : List S62} {seen : List Int}, whyL L t seen xs = 0 → (∀ x ∈ xs, 0 ≤ x.Key ∧ x.Key ≤ 8191 ∧ (lastV (vs L x.Key)).1.T_ < t ∧ (vs L x.Key).length < 10000 ∧ x.Key ∉ seen) ∧ (xs.map (·.Key)).Nodup
  | [], seen, _ => ⟨fun x h => (by cases h), List.nodup_nil⟩
  | x :: xs, seen, h => by
    unfold whyL at h
    split at h
    · cases h
    · rename_i h1
      split at h
      · cases h
      · rename_i h2
        split at h
        · cases h
        · rename_i h3
          split at h
          · cases h
          rename_i h4
          obtain ⟨g1, g2⟩ := why_ok h
          refine ⟨fun y hy => ?_, List.nodup_cons.2 ⟨fun hm => ?_, g2⟩⟩
          · rcases List.mem_cons.1 hy with rfl | hy
            · exact ⟨by omega, by omega, by omega, by omega, h2⟩
            · have := g1 y hy
              exact ⟨this.1, this.2.1, this.2.2.1, this.2.2.2.1, fun hs => this.2.2.2.2 (List.mem_append_left _ hs)⟩
          · obtain ⟨y, hy, e⟩ := List.mem_map.1 hm
            have := (g1 y hy).2.2.2.2
            rw [e] at this
            exact this (List.mem_append_right _ (List.mem_singleton_self _))
theorem whyL_cons {L : List Row} {t : Int} {seen : List Int} {x : S62} {xs : List S62} : whyL L t seen (x :: xs) = if x.Key < 0 ∨ x.Key > 8191 then 123 else if x.Key ∈ seen then 124 else if (lastV (vs L x.Key)).1.T_ ≥ t then 121 else if 10000 ≤ (vs L x.Key).length then 125 else whyL L t (seen ++ [x.Key]) xs := rfl
theorem why_congr {L L' : List Row} {t : Int} : ∀ {xs : List S62} {seen : List Int}, (∀ x ∈ xs, vs L x.Key = vs L' x.Key) → whyL L t seen xs = whyL L' t seen xs
  | [], _, _ => rfl
  | x :: xs, seen, h => by
    unfold whyL
    rw [h x (List.mem_cons_self ..), why_congr fun y hy => h y (List.mem_cons_of_mem _ hy)]
theorem vs_news_no {t k : Int} {xs : List S62} (h : k ∉ xs.map (·.Key)) : vs (news t xs) k = [] := by
  by_cases e : vs (news t xs) k = []
  · exact e
  · obtain ⟨r, hr, hk⟩ := vs_ne.1 e
    obtain ⟨x, hx, rfl⟩ := List.mem_map.1 hr
    exact absurd (List.mem_map.2 ⟨x, hx, hk⟩) h
section
variable {W w : World} {l l' : List Assn}
theorem swhy_spec {b : Nat} {M : Md} {t : Int} {s : Slc} {xs : List S62} (hI : Inv M) (hx : xs.length ≤ 1000) (ht : 1 ≤ t) (k : See 2 l T62 s xs) (H : St W (sto b M :: l) w) :
    cl Tryz.prog 50 [.pointer (some ⟨b, 0, none⟩), .int .i64 t, tSlc.enc s] (tInt .i64) w fun r w' => r = (if xs.length > 100 then 122 else whyL M.rows t [] xs) ∧ St W (sto b M :: l) w' := by
  have hs := k.tail.len H
  refine F50_ok ?_
  unfold F50
  split
  · rename_i hc
    rw [if_pos (by simp at hc; omega)]
    exact ⟨rfl, H⟩
  · rename_i hc
    rw [if_neg (by simp at hc; omega)]
    refine nwMap_st H fun m w1 H => ?_
    have H := mapE_new T115 .i64 H
    refine lp_i (fun i w => 0 ≤ i ∧ i ≤ xs.length ∧ whyL M.rows t [] xs = whyL M.rows t ((xs.take i.toNat).map (·.Key)) (xs.drop i.toNat) ∧ ∃ es : List (Int × S115), (∀ k, (es.lookup k).isSome = decide (k ∈ (xs.take i.toNat).map (·.Key))) ∧ St W (mapE T115 .i64 m es :: sto b M :: l) w) (fun i => (xs.length - i).toNat)
      ⟨Int.le_refl 0, by omega, by simp, [], by simp, H⟩ ?_
    rintro i w ⟨h0, h1, h2, es, h3, H⟩
    unfold F50_l1
    rw [hs]
    split
    · rename_i hc
      have hc : i < xs.length := by simpa using hc
      have e1 : IntKind.i64.wrap (i + 1) = i + 1 := wrap_i64 (by omega) (by omega)
      have hxi : xs[i.toNat]? = some xs[i.toNat] := List.getElem?_eq_getElem (by omega)
      have hd : xs.drop i.toNat = xs[i.toNat] :: xs.drop (i.toNat + 1) := List.drop_eq_getElem_cons (by omega)
      have htk : xs.take (i.toNat + 1) = xs.take i.toNat ++ [xs[i.toNat]] := List.take_succ_eq_append_getElem (by omega)
      obtain ⟨a, ha⟩ := k.tail.tail.ix (i := i) H h0 hc
      refine ex_i a ha ?_
      refine ex_i xs[i.toNat] (k.tail.tail.rd ha hxi H) ?_
      generalize xs[i.toNat] = x at hd htk
      refine nw_st H fun b1 w2 H => ?_
      refine vst_st (x := Z62) (y := x) len63 0 H rfl fun w3 H => ?_
      refine ld_st (x := x.Key) 0 H rfl rfl rfl ?_
      refine mget_st 1 H rfl rfl ?_
      refine nw_st H fun b2 w4 H => ?_
      refine st_st (x := _) 0 H rfl rfl (Nat.le_of_ble_eq_true rfl) fun w5 H => ?_
      refine ld_st (x := x.Key) 1 H rfl rfl rfl ?_
      refine cl_mono (slast_spec (k := x.Key) hI (H.front 3)) ?_
      rintro r w6 ⟨rfl, H⟩
      refine nw_st H fun b3 w7 H => ?_
      generalize hq : lastV (vs M.rows x.Key) = q
      refine vst_st (x := Z86) (y := q.1) len87 0 H rfl fun w8 H => ?_
      refine ld_st (x := x.Key) 3 H rfl rfl rfl ?_
      refine cl_mono (is_spec H) ?_
      rintro r w9 ⟨rfl, H⟩
      rw [hd, whyL_cons, hq] at h2
      have hin := h3 x.Key
      generalize hsn : (xs.take i.toNat).map (·.Key) = seen at h2 hin h3
      split
      · rename_i hk
        rw [if_pos (show x.Key < 0 ∨ x.Key > 8191 from by simp at hk; omega)] at h2
        exact ⟨h2.symm, ((((H.drop.front 1).drop.front 1).drop.front 1).drop)⟩
      · rename_i hk
        rw [if_neg (show ¬ (x.Key < 0 ∨ x.Key > 8191) from by simp at hk; omega)] at h2
        split
        · rename_i hk2
          have hk2 : (es.lookup x.Key).isSome = true := hk2
          rw [hin] at hk2
          rw [if_pos (by simpa using hk2)] at h2
          exact ⟨h2.symm, ((((H.drop.front 1).drop.front 1).drop.front 1).drop)⟩
        · rename_i hk2
          have hk2 : ¬ (es.lookup x.Key).isSome = true := hk2
          rw [hin] at hk2
          rw [if_neg (by simpa using hk2)] at h2
          refine ld_st (x := q.1.T_) 0 H rfl rfl rfl ?_
          split
          · rename_i hk3
            rw [if_pos (by simpa using hk3)] at h2
            exact ⟨h2.symm, ((((H.drop.front 1).drop.front 1).drop.front 1).drop)⟩
          · rename_i hk3
            rw [if_neg (by simpa using hk3)] at h2
            refine ld_st (x := x.Key) 3 H rfl rfl rfl ?_
            refine cl_mono (full_spec (k := x.Key) hI (H.front 1)) ?_
            rintro r w10 ⟨rfl, H⟩
            by_cases hk4 : 10000 ≤ (vs M.rows x.Key).length
            · rw [decide_eq_true hk4, if_pos rfl]
              rw [if_pos hk4] at h2
              exact ⟨h2.symm, ((((H.front 1).drop.front 1).drop.front 1).drop.front 1).drop⟩
            rw [if_neg hk4] at h2
            rw [decide_eq_false hk4, if_neg (by simp)]
            refine ld_st (x := x.Key) 3 H rfl rfl rfl ?_
            refine mput_st 4 H rfl rfl fun w11 H => ?_
            rw [e1]
            refine ⟨⟨by omega, by omega, ?_, _, ?_, ((((H.front 2).drop.front 2).drop.front 2).drop)⟩, by omega⟩
            · rw [show (i + 1).toNat = i.toNat + 1 from by omega, htk, List.map_append, hsn]; exact h2
            · intro k
              rw [show (i + 1).toNat = i.toNat + 1 from by omega, htk, List.map_append, hsn, lookup_ups]
              by_cases hkx : k = x.Key
              · subst hkx; simp
              · rw [if_neg (by simpa using hkx), h3 k]; simp [hkx]
    · rename_i hc
      have hc : i = xs.length := by simp at hc; omega
      subst hc
      have e : xs.drop ((xs.length : Int)).toNat = [] := by simp
      rw [e] at h2
      exact ⟨h2.symm, H.drop⟩
end
end Go.Proofs.YtpdaapffkdejoaaGreat.Store
