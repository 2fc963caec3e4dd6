/- What a store tells of a time: plain laws; Same of the reference. -/
import Derived.Test.YtpdaapffkdejoaaGreatKF
namespace Go.Proofs.YtpdaapffkdejoaaGreat.Store
open Go Go.Proofs.YtpdaapffkdejoaaGreat.Cf
set_option linter.unusedVariables false
set_option linter.unusedSimpArgs false
set_option maxRecDepth 100000
theorem snapK_mem {L : List Row} {t : Int} {ks : List Int} {y : S62} : y ∈ snapK L t ks ↔ y.Key ∈ ks ∧ ∃ v, cnt (vs L y.Key) t = some v ∧ y.V = v.V := by
  unfold snapK
  rw [List.mem_filterMap]
  constructor
  · rintro ⟨k, hk, h⟩
    obtain ⟨v, hv, rfl⟩ := Option.map_eq_some_iff.1 h
    exact ⟨hk, v, hv, rfl⟩
  · rintro ⟨hk, v, hv, e⟩
    refine ⟨y.Key, hk, ?_⟩
    rw [hv, Option.map_some, ← e]
theorem snapK_rise {L : List Row} {t : Int} : ∀ {ks : List Int}, (ks.Pairwise fun x y => x < y) → (snapK L t ks).Pairwise fun a b => a.Key < b.Key
  | [], _ => List.Pairwise.nil
  | k :: ks, h => by
    have h' := List.pairwise_cons.1 h
    have ih := snapK_rise (L := L) (t := t) h'.2
    unfold snapK at ih ⊢
    rw [List.filterMap_cons]
    cases hc : cnt (vs L k) t with
    | none => exact ih
    | some v =>
      refine List.pairwise_cons.2 ⟨fun y hy => ?_, ih⟩
      have hy : y ∈ snapK L t ks := hy
      exact h'.1 _ (snapK_mem.1 hy).1
theorem snapL_ok {M : Md} {t : Int} (h : timeM M t = 0) : snapL M t = snapK M.rows t (keysOf M.rows) := by unfold snapL; rw [if_pos h]
theorem snap_mem {M : Md} {t : Int} (h : timeM M t = 0) {y : S62} : y ∈ snapL M t ↔ ∃ v, cnt (vs M.rows y.Key) t = some v ∧ y.V = v.V := by
  rw [snapL_ok h, snapK_mem]
  constructor
  · exact fun h => h.2
  · rintro ⟨v, hv, e⟩
    refine ⟨((keysOf_ok M.rows).all _).2 fun h0 => ?_, v, hv, e⟩
    rw [h0] at hv; cases hv
theorem snap_rise {M : Md} {t : Int} : (snapL M t).Pairwise fun a b => a.Key < b.Key := by
  unfold snapL
  split
  · exact snapK_rise (keysOf_ok M.rows).rise
  · exact List.Pairwise.nil
theorem keysOf_len {M : Md} (hI : Inv M) : (keysOf M.rows).length ≤ 8192 := by
  have := rise_len (L := keysOf M.rows) (lo := 0) (hi := 8191) (keysOf_ok _).rise fun x hx => by
    obtain ⟨r, hr, e⟩ := vs_ne.1 (((keysOf_ok M.rows).all x).1 hx)
    have := hI.key r hr
    omega
  omega
theorem snap_len {M : Md} {t : Int} (hI : Inv M) : (snapL M t).length ≤ 8192 := by
  unfold snapL
  split
  · unfold snapK
    exact Nat.le_trans (List.length_filterMap_le _ _) (keysOf_len hI)
  · exact Nat.zero_le _
theorem rise_eq {a b : List S62} (ha : a.Pairwise fun x y => x.Key < y.Key) (hb : b.Pairwise fun x y => x.Key < y.Key) (h : ∀ x, x ∈ a ↔ x ∈ b) : a = b := by
  have na : a.Nodup := ha.imp fun {x y} h e => by subst e; omega
  have nb : b.Nodup := hb.imp fun {x y} h e => by subst e; omega
  exact ((List.perm_ext_iff_of_nodup na nb).2 h).eq_of_pairwise (fun x y _ _ h1 h2 => by omega) ha hb
theorem snap_congr {M M' : Md} {t : Int} (h : timeM M t = 0) (h' : timeM M' t = 0) (hc : ∀ k, cnt (vs M.rows k) t = cnt (vs M'.rows k) t) : snapL M t = snapL M' t :=
  rise_eq snap_rise snap_rise fun x => by rw [snap_mem h, snap_mem h', hc]
theorem upto_app (L M : List S86) (t : Int) : upto (L ++ M) t = upto L t ++ upto M t := List.filter_append ..
theorem cnt_news {M : Md} {t at_ k : Int} {xs : List S62} (h : at_ < t) : cnt (vs (M.rows ++ news t xs) k) at_ = cnt (vs M.rows k) at_ := by
  unfold cnt
  rw [vs_app, upto_app]
  have : upto (vs (news t xs) k) at_ = [] := by
    unfold upto
    rw [List.filter_eq_nil_iff]
    intro v hv
    obtain ⟨r, hr, _, ht, _⟩ := vs_mem hv
    obtain ⟨x, hx, rfl⟩ := List.mem_map.1 hr
    simp only at ht
    simp; omega
  rw [this, List.append_nil]
theorem last_cons {v : S86} {a b : List S86} (h : a.getLast? = b.getLast?) : (v :: a).getLast? = (v :: b).getLast? := by
  rw [List.getLast?_cons, List.getLast?_cons, h]
theorem upto_cons (v : S86) (l : List S86) (t : Int) : upto (v :: l) t = if v.T_ ≤ t then v :: upto l t else upto l t := by
  unfold upto
  by_cases h : v.T_ ≤ t
  · rw [if_pos h, List.filter_cons_of_pos (by simpa using h)]
  · rw [if_neg h, List.filter_cons_of_neg (by simpa using h)]
theorem cnt_keep {m t : Int} (h : m ≤ t) : ∀ l : List S86, cnt (keepV m l) t = cnt l t
  | [] => rfl
  | v :: l => by
    have ih := cnt_keep h l
    unfold cnt at ih ⊢
    unfold keepV
    split
    · rename_i hc
      rw [ih, upto_cons]
      split
      · obtain ⟨q, hq, hq2⟩ := List.any_eq_true.1 hc
        have hm : q ∈ upto l t := List.mem_filter.2 ⟨hq, by simp at hq2 ⊢; omega⟩
        cases hu : upto l t with
        | nil => rw [hu] at hm; cases hm
        | cons u us => rw [List.getLast?_cons_cons]
      · rfl
    · rw [upto_cons, upto_cons]
      split
      · exact last_cons ih
      · exact ih
theorem timeM_of {M : Md} {t : Int} (h0 : 0 ≤ t) (h1 : t ≤ 1125899906842624) (h2 : t ≤ M.closed) (h3 : M.mark ≤ t) : timeM M t = 0 := by
  unfold timeM
  rw [if_neg (by omega), if_neg (by omega), if_neg (by omega)]
/-- What was told of a time. -/
def Tells (M : Md) (t : Int) (L : List S62) : Prop := 0 ≤ t ∧ t ≤ 1125899906842624 ∧ t ≤ M.closed ∧ (t < M.mark ∨ (timeM M t = 0 ∧ snapL M t = L))
theorem told_put {M : Md} {t at_ : Int} {L xs : List S62} (h : Tells M at_ L) : Tells (putM M t xs) at_ L := by
  obtain ⟨h0, h1, h2, h3⟩ := h
  unfold putM
  split
  · rename_i he
    have hp : M.closed < t := by
      unfold putE at he
      split at he
      · omega
      · split at he
        · omega
        · omega
    refine ⟨h0, h1, h2, h3.imp id fun ⟨g1, g2⟩ => ?_⟩
    have g1' : timeM ⟨M.rows ++ news t xs, M.closed, M.mark⟩ at_ = 0 := g1
    exact ⟨g1', by rw [← g2]; exact snap_congr g1' g1 fun k => cnt_news (by omega)⟩
  · exact ⟨h0, h1, h2, h3⟩
theorem told_prune {M : Md} {t at_ : Int} {L : List S62} (h : Tells M at_ L) : Tells (pruneM M t) at_ L := by
  obtain ⟨h0, h1, h2, h3⟩ := h
  unfold pruneM
  split
  · refine ⟨h0, h1, h2, ?_⟩
    by_cases hm : at_ < max M.mark t
    · exact .inl hm
    · right
      obtain ⟨g1, g2⟩ := h3.resolve_left (by omega)
      have g1' : timeM ⟨keep (max M.mark t) M.rows, M.closed, max M.mark t⟩ at_ = 0 := timeM_of h0 h1 h2 (by simp only; omega)
      exact ⟨g1', by rw [← g2]; exact snap_congr g1' g1 fun k => by rw [vs_keep]; exact cnt_keep (by omega) _⟩
  · exact ⟨h0, h1, h2, h3⟩
theorem told_close {M : Md} {t at_ : Int} {L : List S62} (h : Tells M at_ L) : Tells (closeM M t) at_ L := by
  obtain ⟨h0, h1, h2, h3⟩ := h
  unfold closeM
  split
  · refine ⟨h0, h1, by simp only; omega, h3.imp id fun ⟨g1, g2⟩ => ?_⟩
    obtain ⟨_, _, _, hm⟩ := timeM_ok g1
    have g1' : timeM ⟨M.rows, max M.closed t, M.mark⟩ at_ = 0 := timeM_of h0 h1 (by simp only; omega) hm
    exact ⟨g1', by rw [← g2]; exact snap_congr g1' g1 fun k => rfl⟩
  · exact ⟨h0, h1, h2, h3⟩
theorem ent_eq {x y : S62} (h1 : x.Key = y.Key) (h2 : x.V = y.V) : x = y := by cases x; cases y; simp_all
section
variable {W w : World} {l l' : List Assn}
theorem same_spec {sa sb : Slc} {a b : List S62} (hm : a.length ≤ 1000000) (ka : See 2 l T62 sa a) (kb : See 2 l T62 sb b) (H : St W l w) :
    cl Tryz.prog 12 [tSlc.enc sa, tSlc.enc sb] tBool w fun r w' => (r = true ↔ a = b) ∧ St W l w' := by
  have la := ka.len H
  have lb := kb.len H
  refine F12_ok ?_
  unfold F12
  split
  · rename_i hne
    have hne : a.length ≠ b.length := by simp at hne; omega
    exact ⟨by constructor
              · intro h; cases h
              · intro h; subst h; exact absurd rfl hne, H⟩
  · rename_i hne
    have hne : a.length = b.length := by simp at hne; omega
    refine lp_i (fun i w => 0 ≤ i ∧ i ≤ a.length ∧ a.take i.toNat = b.take i.toNat ∧ St W l w) (fun i => (a.length - i).toNat) ⟨Int.le_refl 0, by omega, by simp, H⟩ ?_
    rintro i w ⟨h0, h1, h2, H⟩
    unfold F12_l1
    split
    · rename_i hc
      have hc : i < a.length := by simp at hc; omega
      have e1 : IntKind.i64.wrap (i + 1) = i + 1 := wrap_i64 (by omega) (by omega)
      have hx : a[i.toNat]? = some a[i.toNat] := List.getElem?_eq_getElem (by omega)
      have hy : b[i.toNat]? = some b[i.toNat] := List.getElem?_eq_getElem (by omega)
      obtain ⟨p, hp⟩ := ka.ix (i := i) H h0 hc
      obtain ⟨q, hq⟩ := kb.ix (i := i) H h0 (by omega)
      have ht : a.take (i.toNat + 1) = a.take i.toNat ++ [a[i.toNat]] := List.take_succ_eq_append_getElem (by omega)
      have ht2 : b.take (i.toNat + 1) = b.take i.toNat ++ [b[i.toNat]] := List.take_succ_eq_append_getElem (by omega)
      generalize a[i.toNat] = x at hx ht
      generalize b[i.toNat] = y at hy ht2
      refine dr_st H fun w1 H => ?_
      refine ex_i p hp ?_
      refine ex_i q hq ?_
      refine ex_i x.Key (ka.fld hp hx rfl H) ?_
      refine ex_i y.Key (kb.fld hq hy rfl H) ?_
      refine ex_i p (fun _ => hp) ?_
      refine ex_i q (fun _ => hq) ?_
      refine ex_i x.V (fun _ => ka.fld hp hx rfl H) ?_
      refine ex_i y.V (fun _ => kb.fld hq hy rfl H) ?_
      split
      · rename_i hd
        refine ⟨⟨fun h => (by cases h), fun h => ?_⟩, H⟩
        subst h
        rw [hx] at hy; cases hy
        simp at hd
      · rename_i hd
        rw [e1]
        have hxy : x = y := ent_eq (by simp at hd; exact hd.1) (by simp at hd; exact hd.2)
        refine ⟨⟨by omega, by omega, ?_, H⟩, by omega⟩
        rw [show (i + 1).toNat = i.toNat + 1 from by omega, ht, ht2, h2, hxy]
    · rename_i hc
      have hc : i = a.length := by simp at hc; omega
      subst hc
      refine ⟨⟨fun _ => ?_, fun _ => rfl⟩, H⟩
      have e1 : a.take ((a.length : Int)).toNat = a := by simp
      have e2 : b.take ((a.length : Int)).toNat = b := by rw [hne]; simp
      rw [e1, e2] at h2; exact h2
end
end Go.Proofs.YtpdaapffkdejoaaGreat.Store
