/- AuditChecks, AuditMerges, AuditDiffs, AuditSteps: the walks. -/
import Derived.Test.YtleehieomicicaaQM
import Derived.Test.YtleehieomicicaaQN
import Derived.Test.YtleehieomicicaaQO
import Derived.Test.YtleehieomicicaaQP
import Derived.Test.YtleehieomicicaaOp
namespace Go.Proofs.Ytleehieomicicaa
open Go Go.Proofs.Ytleehieomicicaa.Cf Go.Proofs.Ytleehieomicicaa.Audit
set_option linter.unusedVariables false
set_option linter.unusedSimpArgs false
set_option maxRecDepth 100000
section
theorem reports_of {W : World} {s : Slc} (g : G22 W s) : ∃ rs, RsP s rs fun b => W.heap[b]? := by
  obtain ⟨_, xs, h1, h2⟩ := g
  have : ∀ xs : List S38, (∀ x ∈ xs, G39 W x) → ∃ rs : List (S38 × List S36), rs.map (·.1) = xs ∧ ∀ p ∈ rs, RoP T36 p.1.L p.2 fun b => W.heap[b]? := by
    intro xs
    induction xs with
    | nil => intro _; exact ⟨[], rfl, fun p hp => by cases hp⟩
    | cons x xs ih =>
      intro h
      obtain ⟨rs, h1, h2⟩ := ih fun y hy => h y (List.mem_cons_of_mem _ hy)
      obtain ⟨_, _, L, _, hL⟩ := h x (List.mem_cons_self ..)
      refine ⟨(x, L) :: rs, by rw [List.map_cons, h1], fun p hp => ?_⟩
      rcases List.mem_cons.1 hp with rfl | hp
      · exact hL
      · exact h2 p hp
  obtain ⟨rs, e1, e2⟩ := this xs h1
  exact ⟨rs, by rw [e1]; exact h2, e2⟩
theorem entries_of {W : World} {s : Slc} (g : G31 W s) : ∃ L, (∀ x ∈ L, I64 x.Key) ∧ RoP T36 s L fun b => W.heap[b]? := by
  obtain ⟨_, xs, h1, h2⟩ := g
  exact ⟨xs, fun x hx => (h1 x hx).1, h2⟩
theorem oldK (W : World) : Know [old W] fun I => PMap.le (fun b => W.heap[b]?) I := Know.here (m := fun h k => PMap.le_trans k h)
theorem walkAuditChecks (W : World) (at_ : Int) (s : Slc) (g0 : G2 W at_) (g1 : G22 W s) : cl Try.prog 3 [.int .i64 at_, tSlc.enc s] tBool W fun r w' => r = true ∧ RowKit.Below W.heap.size W w' := by
  obtain ⟨rs, hrs⟩ := reports_of g1
  have k : Know [old W] (RsP s rs) := (oldK W).imp fun I h => RsP.mono h hrs
  have H := St.start W
  refine F3_ok ?_
  unfold F3
  refine cl_mono (few_spec k H) ?_
  rintro ⟨q, ok⟩ w1 (⟨hq, H⟩ | ⟨hq, hm, hm2, rs', hk, _, H⟩)
  · simp only at hq; subst hq
    rw [if_pos (by simp)]
    refine cl_mono (awake_spec H) ?_
    rintro r w2 ⟨rfl, H⟩; exact ⟨rfl, H.below⟩
  · simp only at hq H; subst hq
    rw [if_neg (by simp)]
    have ki : Know (rso q rs' :: [old W]) (RsP q rs') := Know.here (m := RsP.mono)
    have hl := len_same hk
    have hm3 := each_same hk hm2
    refine cl_mono (check_spec (by omega) (fun p hp => Nat.le_trans (hm3 p hp) (by omega)) ki H) ?_
    rintro a w2 ⟨rfl, H⟩
    refine cl_mono (ref_check (by omega) (fun p hp => Nat.le_trans (hm2 p hp) (by omega)) k.tail H) ?_
    rintro b w3 ⟨rfl, H⟩
    refine cl_mono (awake_spec H) ?_
    rintro c w4 ⟨rfl, H⟩
    rw [checked_same hk, if_pos (by simp)]
    refine cl_mono (kept_spec hk (by omega) (fun p hp => Nat.le_trans (hm2 p hp) (by omega)) ki k.tail H) ?_
    rintro r w5 ⟨rfl, H⟩
    unfold F3_j1
    exact ⟨rfl, H.drop.below⟩
theorem walkAuditMerges (W : World) (at_ : Int) (s : Slc) (g0 : G2 W at_) (g1 : G22 W s) : cl Try.prog 4 [.int .i64 at_, tSlc.enc s] tBool W fun r w' => r = true ∧ RowKit.Below W.heap.size W w' := by
  obtain ⟨rs, hrs⟩ := reports_of g1
  have k : Know [old W] (RsP s rs) := (oldK W).imp fun I h => RsP.mono h hrs
  have H := St.start W
  refine F4_ok ?_
  unfold F4
  refine cl_mono (few_spec k H) ?_
  rintro ⟨q, ok⟩ w1 (⟨hq, H⟩ | ⟨hq, hm, hm2, rs', hk, _, H⟩)
  · simp only at hq; subst hq
    rw [if_pos (by simp)]
    refine cl_mono (awake_spec H) ?_
    rintro r w2 ⟨rfl, H⟩; exact ⟨rfl, H.below⟩
  · simp only at hq H; subst hq
    rw [if_neg (by simp)]
    have ki : Know (rso q rs' :: [old W]) (RsP q rs') := Know.here (m := RsP.mono)
    have hl := len_same hk
    have hm3 := each_same hk hm2
    refine cl_mono (merge_spec (by omega) (fun p hp => Nat.le_trans (hm3 p hp) (by omega)) ki H) ?_
    rintro ⟨sa, ea⟩ w2 ⟨L, ⟨h1, h2⟩, H⟩
    have H := row_stay H
    refine cl_mono (ref_merge (by omega) (fun p hp => Nat.le_trans (hm2 p hp) (by omega)) k.tail.tail H) ?_
    rintro ⟨sb, eb⟩ w3 ⟨M, ⟨h3, h4⟩, H⟩
    have H := row_stay H
    simp only at h1 h2 h3 h4 H ⊢
    rw [checked_same hk] at h1
    have hLM : L = M := by
      by_cases c : ea = 0
      · rw [if_pos c] at h2
        rw [if_pos (by omega)] at h4
        refine rise_eq h2.1 h4.1 fun x => ?_
        rw [h2.2.1.mem_iff, h4.2.mem_iff, flat_same hk]
      · rw [if_neg c] at h2
        rw [if_neg (by omega)] at h4
        rw [h2.1, h4.1]
    have hLl : L.length ≤ 1000000 := by
      by_cases c : ea = 0
      · rw [if_pos c] at h2
        have := h2.2.1.length_eq
        have h5 := flat_len_le hm3
        have h6 : rs'.length * 60 ≤ 20 * 60 := Nat.mul_le_mul_right _ (by omega)
        omega
      · rw [if_neg c] at h2
        rw [h2.1]; simp
    refine cl_mono (awake_spec H) ?_
    rintro c w4 ⟨rfl, H⟩
    rw [if_pos (by rw [h1, h3]; simp)]
    refine cl_mono (same_spec (a := L) (b := M) hLl (Know.here (m := RoP.mono)).tail (Know.here (m := RoP.mono)) H) ?_
    rintro r w5 ⟨hr, H⟩
    have hr := hr.2 hLM
    subst hr
    unfold F4_j1
    rw [if_pos rfl]
    refine cl_mono (kept_spec hk (by omega) (fun p hp => Nat.le_trans (hm2 p hp) (by omega)) ki.tail.tail k.tail.tail.tail H) ?_
    rintro r w6 ⟨rfl, H⟩
    unfold F4_j2
    exact ⟨rfl, H.drop.drop.drop.below⟩
theorem diffed_eq {a b d d' : List S36} {s s' : Slc} {e e' : Int} (h : Diffed a b s e d) (h' : Diffed a b s' e' d') : e = e' ∧ d = d' := by
  obtain ⟨h1, h2⟩ := h
  obtain ⟨h3, h4⟩ := h'
  have he : e = e' := h1.trans h3.symm
  refine ⟨he, ?_⟩
  subst he
  by_cases c : e = 0
  · rw [if_pos c] at h2 h4
    exact canon_eq h2.1 h4.1 h2.2.1 h4.2.1 fun k => by rw [h2.2.2, h4.2.2]
  · rw [if_neg c] at h2 h4
    rw [h2.1, h4.1]
theorem nodup_len : ∀ {l m : List Int}, l.Nodup → (∀ x ∈ l, x ∈ m) → l.length ≤ m.length
  | [], _, _, _ => Nat.zero_le _
  | x :: l, m, hn, h => by
    have hn' := List.nodup_cons.1 hn
    have hx := h x (List.mem_cons_self ..)
    have := nodup_len (l := l) (m := m.erase x) hn'.2 fun y hy => by
      have hne : y ≠ x := fun e => hn'.1 (by rw [← e]; exact hy)
      exact (List.mem_erase_of_ne hne).2 (h y (List.mem_cons_of_mem _ hy))
    rw [List.length_erase_of_mem hx] at this
    have hp := List.length_pos_of_mem hx
    rw [List.length_cons]; omega
theorem diffed_len {a b d : List S36} {s : Slc} {e : Int} (h : Diffed a b s e d) : d.length ≤ a.length + b.length := by
  obtain ⟨h1, h2⟩ := h
  by_cases c : e = 0
  · rw [if_pos c] at h2
    obtain ⟨r, z, v⟩ := h2
    have hsub : ∀ k ∈ d.map (·.Key), k ∈ a.map (·.Key) ++ b.map (·.Key) := by
      intro k hk
      obtain ⟨x, hx, rfl⟩ := List.mem_map.1 hk
      rw [List.mem_append]
      have h5 := v x.Key
      rw [val_mem r hx] at h5
      have h6 := z x hx
      by_cases ca : val a x.Key = 0
      · obtain ⟨y, hy, h7, _⟩ := val_some (L := b) (k := x.Key) (by omega)
        exact .inr (List.mem_map.2 ⟨y, hy, h7⟩)
      · obtain ⟨y, hy, h7, _⟩ := val_some ca
        exact .inl (List.mem_map.2 ⟨y, hy, h7⟩)
    have hn := rise_nodup r
    have : (d.map (·.Key)).length ≤ (a.map (·.Key) ++ b.map (·.Key)).length := nodup_len hn hsub
    simpa using this
  · rw [if_neg c] at h2
    rw [h2.1]; simp
theorem walkAuditDiffs (W : World) (sa sb : Slc) (g0 : G31 W sa) (g1 : G31 W sb) : cl Try.prog 5 [tSlc.enc sa, tSlc.enc sb] tBool W fun r w' => r = true ∧ RowKit.Below W.heap.size W w' := by
  obtain ⟨a, ra, ha⟩ := entries_of g0
  obtain ⟨b, rb, hb⟩ := entries_of g1
  have ka : Know [old W] (RoP T36 sa a) := (oldK W).old ha
  have kb : Know [old W] (RoP T36 sb b) := (oldK W).old hb
  have H := St.start W
  have la := ka.len H
  have lb := kb.len H
  refine F5_ok ?_
  unfold F5
  split
  · refine cl_mono (awake_spec H) ?_
    rintro r w2 ⟨rfl, H⟩; exact ⟨rfl, H.below⟩
  · rename_i hc
    have hc : a.length ≤ 200 ∧ b.length ≤ 200 := by simp at hc; omega
    refine cl_mono (diff_spec (by omega) (by omega) ra rb ka kb H) ?_
    rintro ⟨s1, e1⟩ w1 ⟨d, hd, H⟩
    have H := row_stay H
    refine cl_mono (ref_diff (by omega) (by omega) ka.tail kb.tail H) ?_
    rintro ⟨s2, e2⟩ w2 ⟨d', hd', H⟩
    have H := row_stay H
    obtain ⟨he, hdd⟩ := diffed_eq hd hd'
    have hln := diffed_len hd
    refine cl_mono (awake_spec H) ?_
    rintro c w4 ⟨rfl, H⟩
    simp only at he H ⊢
    rw [if_pos (by rw [he]; simp)]
    refine cl_mono (same_spec (a := d) (b := d') (by omega) (Know.here (m := RoP.mono)).tail (Know.here (m := RoP.mono)) H) ?_
    rintro r w5 ⟨hr, H⟩
    have hr := hr.2 hdd
    subst hr
    unfold F5_j1
    exact ⟨rfl, H.drop.drop.below⟩
theorem dWhy_ok {a b : List S36} (h : dWhy a b = 0) : Rise a ∧ Rise b ∧ (∀ x ∈ a, 0 ≤ x.V ∧ x.V ≤ 4611686018427387904) ∧ (∀ x ∈ b, 0 ≤ x.V ∧ x.V ≤ 4611686018427387904) := by
  have may : ∀ {L : List S36}, (L.all fun x => !wrong x) = true → ∀ x ∈ L, 0 ≤ x.V ∧ x.V ≤ 4611686018427387904 := by
    intro L hL x hx
    have := List.all_eq_true.1 hL x hx
    simp [wrong] at this; exact this
  unfold dWhy at h
  by_cases c : (!(rises a) || !(rises b)) = true
  · rw [if_pos c] at h; omega
  · rw [if_neg c] at h
    by_cases c2 : (!(a.all fun x => !wrong x) || !(b.all fun x => !wrong x)) = true
    · rw [if_pos c2] at h; omega
    · have c : rises a = true ∧ rises b = true := by simpa using c
      have c2 : (a.all fun x => !wrong x) = true ∧ (b.all fun x => !wrong x) = true := by simpa only [Bool.or_eq_true, Bool.not_eq_true', not_or, Bool.not_eq_false] using c2
      exact ⟨(rises_pw a).1 c.1, (rises_pw b).1 c.2, may c2.1, may c2.2⟩
theorem dWhy_of {a b : List S36} (h1 : Rise a) (h2 : Rise b) (h3 : ∀ x ∈ a, 0 ≤ x.V ∧ x.V ≤ 4611686018427387904) (h4 : ∀ x ∈ b, 0 ≤ x.V ∧ x.V ≤ 4611686018427387904) : dWhy a b = 0 := by
  have may : ∀ {L : List S36}, (∀ x ∈ L, 0 ≤ x.V ∧ x.V ≤ 4611686018427387904) → (L.all fun x => !wrong x) = true := by
    intro L hL
    rw [List.all_eq_true]
    intro x hx
    have := hL x hx
    simp [wrong]; omega
  unfold dWhy
  rw [(rises_pw a).2 h1, (rises_pw b).2 h2, may h3, may h4]; rfl
theorem walkAuditSteps (W : World) (sa sb sc : Slc) (g0 : G31 W sa) (g1 : G31 W sb) (g2 : G31 W sc) : cl Try.prog 8 [tSlc.enc sa, tSlc.enc sb, tSlc.enc sc] tBool W fun r w' => r = true ∧ RowKit.Below W.heap.size W w' := by
  obtain ⟨a, ra, ha⟩ := entries_of g0
  obtain ⟨b, rb, hb⟩ := entries_of g1
  obtain ⟨c, rc, hc⟩ := entries_of g2
  have ka : Know [old W] (RoP T36 sa a) := (oldK W).old ha
  have kb : Know [old W] (RoP T36 sb b) := (oldK W).old hb
  have kc : Know [old W] (RoP T36 sc c) := (oldK W).old hc
  have H := St.start W
  have la := ka.len H
  have lb := kb.len H
  have lc := kc.len H
  refine F8_ok ?_
  unfold F8
  split
  · refine cl_mono (awake_spec H) ?_
    rintro r w2 ⟨rfl, H⟩; exact ⟨rfl, H.below⟩
  · rename_i hc
    have hc : a.length ≤ 100 ∧ b.length ≤ 100 ∧ c.length ≤ 100 := by simp at hc; omega
    refine cl_mono (diff_spec (by omega) (by omega) ra rb ka kb H) ?_
    rintro ⟨s1, e1⟩ w1 ⟨x, hx, H⟩
    have H := row_stay H
    refine cl_mono (diff_spec (by omega) (by omega) rb rc kb.tail kc.tail H) ?_
    rintro ⟨s2, e2⟩ w2 ⟨y, hy, H⟩
    have H := row_stay H
    refine cl_mono (diff_spec (by omega) (by omega) ra rc ka.tail.tail kc.tail.tail H) ?_
    rintro ⟨s3, e3⟩ w3 ⟨z, hz, H⟩
    have H := row_stay H
    have lx := diffed_len hx
    have ly := diffed_len hy
    simp only at H ⊢
    refine cl_mono (awake_spec H) ?_
    rintro q w4 ⟨rfl, H⟩
    split
    · refine cl_mono (awake_spec H) ?_
      rintro r w2 ⟨rfl, H⟩; exact ⟨rfl, H.drop.drop.drop.below⟩
    · rename_i hne
      have hne : e1 = 0 ∧ e2 = 0 := by simpa using hne
      obtain ⟨x1, x2⟩ := hx
      obtain ⟨y1, y2⟩ := hy
      obtain ⟨z1, z2⟩ := hz
      rw [if_pos hne.1] at x2
      rw [if_pos hne.2] at y2
      obtain ⟨d1, d2, d3, d4⟩ := dWhy_ok (x1.symm.trans hne.1)
      obtain ⟨d5, d6, d7, d8⟩ := dWhy_ok (y1.symm.trans hne.2)
      have z1 : e3 = dWhy a c := z1
      have e30 : e3 = 0 := by rw [z1]; exact dWhy_of d1 d6 d3 d8
      rw [if_pos e30] at z2
      rw [if_pos (show (e3 == 0) = true by rw [e30]; rfl)]
      refine cl_mono (add_spec (a := x) (d := y) (f := fun q => val c q - val a q) (by omega) (by omega) x2.1 y2.1 (fun q => by rw [x2.2.2, y2.2.2]; omega) (fun q => by
        have h1 := val_bound (k := q) d3
        have h2 := val_bound (k := q) d8
        constructor <;> omega) (Know.here (m := RoP.mono)).tail.tail (Know.here (m := RoP.mono)).tail H) ?_
      rintro r w5 ⟨M, m1, m2, m3, H⟩
      have hMz : M = z := canon_eq m1 z2.1 m2 z2.2.1 fun k => by rw [m3, z2.2.2]
      have lz := diffed_len (a := a) (b := c) (s := s3) (e := e3) ⟨z1, by rw [if_pos e30]; exact z2⟩
      have H := row_stay H
      refine cl_mono (same_spec (a := M) (b := z) (by rw [hMz]; omega) (Know.here (m := RoP.mono)) (Know.here (m := RoP.mono)).tail H) ?_
      rintro r w6 ⟨hr, H⟩
      have hr := hr.2 hMz
      subst hr
      unfold F8_j1
      exact ⟨rfl, H.drop.drop.drop.drop.below⟩
end
end Go.Proofs.Ytleehieomicicaa
