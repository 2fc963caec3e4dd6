/- Contracts of the store: Snap, Prune, Size. -/
import Derived.Test.YtpdaapffkdejoaaGreatKE
namespace Go.Proofs.YtpdaapffkdejoaaGreat.Store
open Go Go.Proofs.YtpdaapffkdejoaaGreat.Cf
set_option linter.unusedVariables false
set_option linter.unusedSimpArgs false
set_option maxRecDepth 100000
def sortI (L : List Int) : List Int := L.mergeSort fun x y => decide (x ≤ y)
theorem sortI_pw (L : List Int) : (sortI L).Pairwise fun x y => x ≤ y := by
  have h1 : (sortI L).Pairwise fun x y => decide (x ≤ y) = true :=
    List.pairwise_mergeSort (fun a b c h1 h2 => by simp at h1 h2 ⊢; omega) (fun a b => by simp; omega) L
  exact h1.imp fun h => by simpa using h
theorem sortI_p (L : List Int) : (sortI L).Perm L := List.mergeSort_perm L _
theorem sortI_perm {L M : List Int} (h : L.Perm M) : sortI L = sortI M :=
  List.Perm.eq_of_pairwise (fun a b _ _ h1 h2 => by omega) (sortI_pw L) (sortI_pw M) ((sortI_p L).trans (h.trans (sortI_p M).symm))
theorem sortI_lt {L : List Int} (h : L.Nodup) : (sortI L).Pairwise fun x y => x < y :=
  ((sortI_pw L).and ((sortI_p L).nodup_iff.2 h)).imp fun {a b} h => by
    have h1 := h.1
    have h2 : a ≠ b := h.2
    omega
theorem Rel.sorted {t : StP} {M : Md} (h : Rel t M) (hn : (t.chs.map (·.1)).Nodup) : Keys M.rows (sortI (t.chs.map (·.1))) :=
  ⟨sortI_lt hn, fun k => by rw [(sortI_p _).mem_iff, h.keys]⟩
theorem keys_ex : ∀ L : List Row, ∃ ks, Keys L ks
  | [] => ⟨[], List.Pairwise.nil, fun k => by simp [vs_nil]⟩
  | r :: L => by
    obtain ⟨ks, h⟩ := keys_ex L
    by_cases hk : r.X.Key ∈ ks
    · refine ⟨ks, h.rise, fun k => ?_⟩
      rw [vs_cons]
      split
      · rename_i e; subst e; simp [hk]
      · exact h.all k
    · refine ⟨sortI (r.X.Key :: ks), sortI_lt (List.nodup_cons.2 ⟨hk, h.rise.imp fun h => Int.ne_of_lt h⟩), fun k => ?_⟩
      rw [(sortI_p _).mem_iff, vs_cons, List.mem_cons, h.all]
      split
      · rename_i e; subst e; simp
      · rename_i e
        constructor
        · rintro (rfl | h)
          · exact absurd rfl e
          · exact h
        · exact fun h => .inr h
noncomputable def keysOf (L : List Row) : List Int := Classical.choose (keys_ex L)
theorem keysOf_ok (L : List Row) : Keys L (keysOf L) := Classical.choose_spec (keys_ex L)
theorem keysOf_eq {L : List Row} {ks : List Int} (h : Keys L ks) : keysOf L = ks := (keysOf_ok L).uniq h fun _ => Iff.rfl
noncomputable def snapL (M : Md) (t : Int) : List S62 := if timeM M t = 0 then snapK M.rows t (keysOf M.rows) else []
theorem snap_take {L : List Row} {t : Int} {q : List Int} {i : Nat} (h : i < q.length) : snapK L t (q.take (i + 1)) = snapK L t (q.take i) ++ match cnt (vs L q[i]) t with | none => [] | some v => [⟨q[i], v.V⟩] := by
  unfold snapK
  rw [List.take_succ_eq_append_getElem h, List.filterMap_append]
  congr 1
  rw [List.filterMap_cons]
  cases cnt (vs L q[i]) t <;> rfl
theorem timeM_ok {M : Md} {t : Int} (h : timeM M t = 0) : 0 ≤ t ∧ t ≤ 1125899906842624 ∧ t ≤ M.closed ∧ M.mark ≤ t := by
  unfold timeM at h
  split at h
  · cases h
  · split at h
    · cases h
    · split at h
      · cases h
      · omega
theorem fst_ptrs (chs : List (Int × ChP)) : (ptrs chs).map (·.1) = chs.map (·.1) := by unfold ptrs; rw [List.map_map]; rfl
theorem rise_len : ∀ {L : List Int} {lo hi : Int}, L.Pairwise (fun x y => x < y) → (∀ x ∈ L, lo ≤ x ∧ x ≤ hi) → (L.length : Int) ≤ max 0 (hi - lo + 1)
  | [], _, _, _, _ => by simp only [List.length_nil]; omega
  | x :: L, lo, hi, h, hb => by
    have h' := List.pairwise_cons.1 h
    have h1 := hb x (List.mem_cons_self ..)
    have := rise_len (L := L) (lo := x + 1) (hi := hi) h'.2 fun y hy => ⟨by have := h'.1 y hy; omega, (hb y (List.mem_cons_of_mem _ hy)).2⟩
    simp only [List.length_cons]; omega
theorem keys_len {t : StP} {M : Md} (hI : Inv M) (h : Rel t M) (hn : (t.chs.map (·.1)).Nodup) : t.chs.length ≤ 8192 := by
  have h1 := rise_len (L := sortI (t.chs.map (·.1))) (lo := 0) (hi := 8191) (sortI_lt hn) fun x hx => by
    have hx : x ∈ t.chs.map (·.1) := (sortI_p _).mem_iff.1 hx
    obtain ⟨r, hr, hk⟩ := vs_ne.1 ((h.keys x).2 hx)
    have := hI.key r hr
    omega
  rw [(sortI_p _).length_eq, List.length_map] at h1
  omega
theorem keys_len_old {t : StP} {M : Md} {n : Nat} (hI : M.rows.length ≤ n) (h : Rel t M) (hn : (t.chs.map (·.1)).Nodup) : t.chs.length ≤ n := by
  have := sum_vs hn (L := M.rows) fun r hr => (h.keys _).1 (vs_ne.2 ⟨r, hr, rfl⟩)
  have h2 : (t.chs.map (·.1)).length ≤ ((t.chs.map (·.1)).map fun k => (vs M.rows k).length).sum := by
    have : ∀ ks : List Int, (∀ k ∈ ks, vs M.rows k ≠ []) → ks.length ≤ (ks.map fun k => (vs M.rows k).length).sum := by
      intro ks
      induction ks with
      | nil => intro _; exact Nat.le_refl _
      | cons k ks ih =>
        intro h
        have := ih fun q hq => h q (List.mem_cons_of_mem _ hq)
        have h1 := List.length_pos_iff.2 (h k (List.mem_cons_self ..))
        simp only [List.length_cons, List.map_cons, List.sum_cons]; omega
    exact this _ fun k hk => (h.keys k).2 hk
  rw [List.length_map] at h2
  omega
section
variable {W w : World} {l l' : List Assn}
theorem snap_spec {b : Nat} {M : Md} {t : Int} (hI : Inv M) (H : St W (sto b M :: l) w) : cl Tryz.prog 27 [.pointer (some ⟨b, 0, none⟩), .int .i64 t] (tTup2 tSlc (tInt .i64)) w fun r w' => r.2 = timeM M t ∧ St W (row T62 63 2 r.1 (snapL M t) :: sto b M :: l) w' := by
  refine F27_ok ?_
  unfold F27
  refine cl_mono (time_spec (t := t) H) ?_
  rintro r w1 ⟨rfl, H⟩
  unfold snapL
  split
  · rename_i hc
    have hc : timeM M t ≠ 0 := by simpa using hc
    rw [if_neg hc]
    exact ⟨rfl, row_nil T62 63 2 H⟩
  · rename_i hc
    have hc : timeM M t = 0 := by simpa using hc
    rw [if_pos hc]
    obtain ⟨ht0, ht1, ht2, ht3⟩ := timeM_ok hc
    obtain ⟨p, h, hnd, H⟩ := sto_open H
    have hks := h.sorted hnd
    have hcl := keys_len hI h hnd
    rw [keysOf_eq hks]
    refine nc_st rfl ?_
    refine ld_st (x := some p.m) 0 H rfl rfl rfl ?_
    refine F48_ok ?_
    unfold F48
    refine nw_st H fun bm w2 H => ?_
    have hrange : ∀ e ∈ ptrs p.chs, -9223372036854775808 ≤ e.1 ∧ e.1 ≤ 9223372036854775807 := by
      intro e he
      have : e.1 ∈ p.chs.map (·.1) := by rw [← fst_ptrs]; exact List.mem_map.2 ⟨e, he, rfl⟩
      obtain ⟨r, hr, hk⟩ := vs_ne.1 ((h.keys _).2 this)
      have := hI.key r hr
      omega
    refine cl_mono (sorted_keys hrange (by unfold ptrs; rw [List.length_map]; omega) (H.ord [0, 2])) ?_
    rintro s w3 ⟨ks, hp, H⟩
    have hq : (ks.mergeSort fun x y => decide (x ≤ y)) = sortI (p.chs.map (·.1)) := by rw [fst_ptrs] at hp; exact sortI_perm hp
    rw [hq] at H
    have hs := row_len H
    have hql : (sortI (p.chs.map (·.1))).length ≤ 9000 := by rw [(sortI_p _).length_eq, List.length_map]; omega
    generalize sortI (p.chs.map (·.1)) = q at *
    have H := row_nil T62 63 2 H
    refine lp_i (fun x w => 0 ≤ x.2 ∧ x.2 ≤ q.length ∧ St W (row T62 63 2 x.1 (snapK M.rows t (q.take x.2.toNat)) :: row (tInt .i64) 3 1 s q :: cel bm [.map (some p.m)] 93 :: mapE tPtr .i64 p.m (ptrs p.chs) :: cel b (T94.cells ⟨some p.m, M.closed, M.mark⟩) 95 :: bigF (vs M.rows) p.chs :: l) w) (fun x => (q.length - x.2).toNat)
      ⟨Int.le_refl 0, by simp only; omega, H⟩ ?_
    rintro ⟨out, i⟩ w ⟨h0, h1, H⟩
    simp only at h0 h1
    simp only
    unfold F27_l1
    rw [hs]
    split
    · rename_i hc2
      have hc2 : i < q.length := by simpa using hc2
      have e1 : IntKind.i64.wrap (i + 1) = i + 1 := wrap_i64 (by omega) (by omega)
      have hx : q[i.toNat]? = some q[i.toNat] := List.getElem?_eq_getElem (by omega)
      have hst := snap_take (L := M.rows) (t := t) (q := q) (i := i.toNat) (by omega)
      have hin : q[i.toNat] ∈ p.chs.map (·.1) := (h.keys _).1 ((hks.all _).1 (List.getElem_mem _))
      have hol : (snapK M.rows t (q.take i.toNat)).length ≤ 9000 := by
        unfold snapK
        refine Nat.le_trans (List.length_filterMap_le _ _) ?_
        rw [List.length_take]; omega
      obtain ⟨a, ha⟩ := row_ix (sz := 1) (i := i) (H.front 1) h0 hc2
      refine ex_i a ha ?_
      refine ex_i q[i.toNat] (rd_row (fun _ => rfl) ha hx (H.front 1)) ?_
      generalize q[i.toNat] = k at *
      refine ld_st (x := some p.m) 4 H rfl rfl rfl ?_
      refine mget_st 3 H rfl rfl ?_
      rw [lookup_ptrs]
      obtain ⟨e, he, hek⟩ := List.mem_map.1 hin
      obtain ⟨k', C⟩ := e
      simp only at hek
      subst hek
      have hlk := mem_look hnd he
      rw [hlk]
      obtain ⟨l1, l2, hsp⟩ := look_split hlk
      have hmk := (h.marks _ he).2
      have H := H.front 5
      rw [hsp] at H
      have H := big_get H
      have hlen : (vs M.rows k').length ≤ 10000 := hI.cap k'
      refine cl_mono (chget_spec (C := C) (at_ := t) (by show (vs M.rows k').length ≤ _; omega) (vs_rise hI.rise k') ht0 ht1 (by simp only at hmk; omega) H) ?_
      rintro r w4 ⟨rfl, H⟩
      have H := big_put (e := (k', C)) H
      rw [← hsp] at H
      refine nw_st H fun b5 w5 H => ?_
      cases hct : cnt (vs M.rows k') t with
      | none =>
        rw [hct] at hst
        dsimp only
        refine vst_st (x := Z86) (y := (⟨0, 0⟩ : S86)) len87 0 H rfl fun w6 H => ?_
        rw [if_neg (by simp)]
        unfold F27_j2
        rw [e1]
        refine ⟨⟨by simp only; omega, by simp only; omega, ?_⟩, by simp only; omega⟩
        simp only
        rw [show (i + 1).toNat = i.toNat + 1 from by omega, hst, List.append_nil]
        exact H.drop.ord [1, 2, 3, 4, 5, 0]
      | some v =>
        rw [hct] at hst
        dsimp only
        refine vst_st (x := Z86) (y := v) len87 0 H rfl fun w6 H => ?_
        rw [if_pos (by simp)]
        refine ld_st (x := v.V) 0 H rfl rfl rfl ?_
        refine apl_row (fun _ => rfl) 2 H rfl (by simp only [List.length_singleton]; omega) fun s2 w7 H => ?_
        unfold F27_j2
        rw [e1]
        refine ⟨⟨by simp only; omega, by simp only; omega, ?_⟩, by simp only; omega⟩
        simp only
        rw [show (i + 1).toNat = i.toNat + 1 from by omega, hst]
        exact ((H.front 1).drop).ord [0, 2, 3, 4, 5, 1]
    · rename_i hc2
      have hc2 : i = q.length := by simp at hc2; omega
      subst hc2
      have e : q.take ((q.length : Int)).toNat = q := by simp
      rw [e] at H
      refine ⟨hc.symm, ?_⟩
      exact ((sto_shut h (((H.front 1).drop.front 1).drop.ord [2, 1, 3])).front 1)
theorem flt_lt {β : Type} {p : Int × β} {left : List (Int × β)} (hp : p ∈ left) : (left.filter fun q => q.1 != p.1).length < left.length := by
  induction left with
  | nil => cases hp
  | cons x left ih =>
    rw [List.filter_cons]
    by_cases c : (x.1 != p.1) = true
    · rw [if_pos c]
      rcases List.mem_cons.1 hp with e | hp
      · rw [e] at c; simp at c
      · have := ih hp
        simp only [List.length_cons]; omega
    · rw [if_neg c]
      have := List.length_filter_le (fun q : Int × β => q.1 != p.1) left
      simp only [List.length_cons]; omega
theorem sum_flt {β : Type} {f : Int → Nat} : ∀ {left : List (Int × β)} {p : Int × β}, (left.map (·.1)).Nodup → p ∈ left → (left.map fun q => f q.1).sum = f p.1 + ((left.filter fun q => q.1 != p.1).map fun q => f q.1).sum
  | [], _, _, h => by cases h
  | x :: left, p, hn, h => by
    have hn' := List.nodup_cons.1 hn
    rw [List.filter_cons]
    by_cases c : x.1 = p.1
    · rw [if_neg (by simpa using c)]
      have : left.filter (fun q => q.1 != p.1) = left := List.filter_eq_self.2 fun q hq => by
        have : q.1 ≠ p.1 := fun e => hn'.1 (by show x.1 ∈ _; rw [c, ← e]; exact List.mem_map.2 ⟨q, hq, rfl⟩)
        simpa using this
      rw [this, List.map_cons, List.sum_cons, c]
    · rw [if_pos (by simpa using c)]
      have hp : p ∈ left := by
        rcases List.mem_cons.1 h with e | h
        · rw [e] at c; exact absurd rfl c
        · exact h
      have := sum_flt (f := f) hn'.2 hp
      simp only [List.map_cons, List.sum_cons, this]; omega
def cut (mark : Int) (rows : List Row) (left : List (Int × Option Addr)) (k : Int) : List S86 := if left.any (fun q => q.1 == k) = true then vs rows k else keepV mark (vs rows k)
theorem prune_spec {b : Nat} {M : Md} {t : Int} (hI : Inv M) (H : St W (sto b M :: l) w) : cl Tryz.prog 46 [.pointer (some ⟨b, 0, none⟩), .int .i64 t] (tInt .i64) w fun r w' => r = pruneE M t ∧ St W (sto b (pruneM M t) :: l) w' := by
  refine F46_ok ?_
  unfold F46
  refine cl_mono (in_spec H) ?_
  rintro r w1 ⟨rfl, H⟩
  unfold pruneM
  split
  · rename_i hc
    have e : pruneE M t = 120 := by unfold pruneE; rw [if_pos (by simp at hc; omega)]
    rw [e, if_neg (by omega)]
    exact ⟨rfl, H⟩
  · rename_i hc
    have hc : ¬ (t < 0 ∨ t > 1125899906842624) := by simp at hc; omega
    obtain ⟨p, h, hnd, H⟩ := sto_open H
    refine nc_st rfl ?_
    refine ld_st (x := M.closed) 0 H rfl rfl rfl ?_
    split
    · rename_i hc2
      have e : pruneE M t = 128 := by unfold pruneE; rw [if_neg hc, if_pos (by simpa using hc2)]
      rw [e, if_neg (by omega)]
      exact ⟨rfl, sto_shut h H⟩
    · rename_i hc2
      have hc2 : ¬ t > M.closed := by simpa using hc2
      have e : pruneE M t = 0 := by unfold pruneE; rw [if_neg hc, if_neg hc2]
      rw [e, if_pos rfl]
      have hmk := hI.mark
      refine ld_st (x := M.mark) 0 H rfl rfl rfl ?_
      refine st_st (x := max M.mark t) 0 H rfl rfl (Nat.le_of_ble_eq_true rfl) fun w2 H => ?_
      have H : St W (cel b (T94.cells ⟨some p.m, M.closed, max M.mark t⟩) 95 :: mapE tPtr .i64 p.m (ptrs p.chs) :: bigF (vs M.rows) p.chs :: l) w2 := H
      generalize hmm : max M.mark t = mm at *
      have hm0 : M.mark ≤ mm ∧ 0 ≤ mm ∧ mm ≤ 1125899906842624 := by omega
      refine ld_st (x := some p.m) 0 H rfl rfl rfl ?_
      refine rng_st 1 H rfl rfl fun it w3 H => ?_
      have hstart : bigF (vs M.rows) p.chs = bigF (cut mm M.rows (ptrs p.chs)) p.chs := big_congr fun e he => by
        unfold cut
        have : (ptrs p.chs).any (fun q => q.1 == e.1) = true := List.any_eq_true.2 ⟨(e.1, some (⟨e.2.b, 0, none⟩ : Addr)), List.mem_map.2 ⟨e, he, rfl⟩, by simp⟩
        rw [if_pos this]
      rw [hstart] at H
      refine lp_n (fun n _ w => ∃ left cur chs, n = left.length ∧ (∀ q ∈ left, q ∈ ptrs p.chs) ∧ ptrs chs = ptrs p.chs ∧ (∀ e ∈ chs, 0 ≤ e.2.mark ∧ e.2.mark ≤ mm) ∧ St W (ranging tPtr .i64 p.m it (ptrs p.chs) left cur :: cel b (T94.cells ⟨some p.m, M.closed, mm⟩) 95 :: bigF (cut mm M.rows left) chs :: l) w) _ ⟨ptrs p.chs, none, p.chs, rfl, fun _ h => h, rfl, fun e he => by have := h.marks e he; omega, H⟩ ?_
      clear H
      rintro c _ w ⟨left, cur, chs, rfl, h1, h2, h3, H⟩ K hK
      have hkeys : chs.map (·.1) = p.chs.map (·.1) := by rw [← fst_ptrs, ← fst_ptrs, h2]
      unfold F46_l1
      refine nxt_st 0 H rfl rfl (fun he H => ?_) fun q hq w4 H => ?_
      · rw [if_neg (by simp)]
        subst he
        have hend : bigF (cut mm M.rows []) chs = bigF (vs (keep mm M.rows)) chs := big_congr fun e _ => by
          unfold cut; rw [if_neg (by simp), vs_keep]
        rw [hend] at H
        have H := ranging_done H
        rw [← h2] at H
        refine ⟨rfl, sto_shut (t := ⟨p.m, chs⟩) (M := ⟨keep mm M.rows, M.closed, mm⟩) ⟨fun k => ?_, h3⟩ (H.ord [1, 0])⟩
        rw [hkeys, ← h.keys k, vs_keep, ne_eq, ne_eq, keepV_nil (vs_rise hI.rise k)]
      · rw [if_pos (by simp)]
        refine ent_st 0 H rfl rfl ?_
        refine ld_st (x := mm) 1 H rfl rfl rfl ?_
        have hq2 := h1 q hq
        rw [← h2] at hq2
        obtain ⟨e, he, rfl⟩ := List.mem_map.1 hq2
        obtain ⟨k, C⟩ := e
        obtain ⟨l1, l2, hsp⟩ := List.append_of_mem he
        have hnd2 : ((l1 ++ (k, C) :: l2).map (·.1)).Nodup := by rw [← hsp, hkeys]; exact hnd
        have hoth := others hnd2
        have H := H.front 2
        rw [hsp] at H
        have H := big_get H
        have hcut : cut mm M.rows left k = vs M.rows k := by
          unfold cut; rw [if_pos (List.any_eq_true.2 ⟨_, hq, by simp⟩)]
        have H : St W (chainA C (vs M.rows k) :: bigF (cut mm M.rows left) (l1 ++ l2) :: ranging tPtr .i64 p.m it (ptrs p.chs) (left.filter fun q => q.1 != k) (some (k, some ⟨C.b, 0, none⟩)) :: cel b (T94.cells ⟨some p.m, M.closed, mm⟩) 95 :: l) w4 := by rw [← hcut]; exact H
        have hlen : (vs M.rows k).length ≤ 10000 := hI.cap k
        refine cl_mono (chprune_spec (C := C) (mark := mm) (by omega) (vs_rise hI.rise k) hm0.2.1 hm0.2.2 (h3 _ he).2 H) ?_
        rintro r w5 ⟨s, H⟩
        have H := big_set (g' := cut mm M.rows (left.filter fun q => q.1 != k)) (k := k) (by
          unfold cut
          rw [if_neg]
          rw [List.any_filter, List.any_eq_true]
          rintro ⟨q, _, h⟩
          simp at h) (fun e' he' => by
          have hne := hoth e' he'
          unfold cut
          have : (left.filter fun q => q.1 != k).any (fun q => q.1 == e'.1) = left.any (fun q => q.1 == e'.1) := by
            rw [List.any_filter]
            congr 1
            funext q
            by_cases c : q.1 = e'.1
            · simp [c, hne]
            · simp [c]
          rw [this]) H
        refine hK _ _ _ (flt_lt hq) ⟨_, _, l1 ++ (k, ⟨C.b, s, mm⟩) :: l2, rfl, fun q hq => h1 q (List.mem_filter.1 hq).1, ?_, fun e' he' => ?_, H.ord [1, 2, 0]⟩
        · rw [← h2, hsp]; unfold ptrs; simp
        · rcases List.mem_append.1 he' with he' | he'
          · exact h3 e' (by rw [hsp]; exact List.mem_append_left _ he')
          · rcases List.mem_cons.1 he' with rfl | he'
            · exact ⟨hm0.2.1, Int.le_refl _⟩
            · exact h3 e' (by rw [hsp]; exact List.mem_append_right _ (List.mem_cons_of_mem _ he'))
end
end Go.Proofs.YtpdaapffkdejoaaGreat.Store
