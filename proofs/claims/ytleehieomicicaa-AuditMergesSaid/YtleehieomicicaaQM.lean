/- Contracts of the reference: Check and Merge. -/
import Derived.Test.YtleehieomicicaaQL
namespace Go.Proofs.Ytleehieomicicaa.Audit
open Go Go.Proofs.Ytleehieomicicaa.Cf
set_option linter.unusedVariables false
set_option linter.unusedSimpArgs false
set_option maxRecDepth 100000
section
variable {W w : World} {l : List Assn}
theorem goes_fst {L : List S36} {i : Nat} (h : (goes [] 0 (L.take i)).2.2 = 0) : (goes [] 0 (L.take i)).1 = (L.take i).map fun x => (x.Key, x.V) := by
  have := (goes_ok (L := L.take i) (es := []) (sum := 0) (by simp) (by simp) h).1
  rw [this, List.nil_append]
theorem look_some {M : List S36} {k : Int} : ((M.map fun x => (x.Key, x.V)).lookup k).isSome = true ↔ ∃ x ∈ M, x.Key = k := by
  induction M with
  | nil => simp
  | cons y M ih =>
    simp only [List.map_cons, List.lookup]
    by_cases c : (k == y.Key) = true
    · rw [c]
      have e : k = y.Key := by simpa using c
      exact ⟨fun _ => ⟨y, List.mem_cons_self .., e.symm⟩, fun _ => rfl⟩
    · simp only [Bool.not_eq_true] at c
      rw [c]
      have e : k ≠ y.Key := by simpa using c
      simp only [ih, List.mem_cons, exists_eq_or_imp]
      exact ⟨.inr, fun h => h.resolve_left fun h => e h.symm⟩
theorem stop_at {L : List S36} {i : Nat} {x : S36} (hx : L[i]? = some x) (hz : (goes [] 0 (L.take i)).2.2 = 0) (hw : why (goes [] 0 (L.take i)).1 (goes [] 0 (L.take i)).2.1 x ≠ 0) :
    (goes [] 0 L).2.2 = why (goes [] 0 (L.take i)).1 (goes [] 0 (L.take i)).2.1 x := by
  have hst := goes_take hx hz
  rw [if_neg hw] at hst
  have := goes_stop (es := []) (sum := 0) (L := L) (i := i + 1) (by rw [hst]; exact hw)
  rw [this, hst]
theorem checked_no {at_ : Int} {rs : List (S38 × List S36)} (h : (decide (at_ < 0) || decide (at_ > 1125899906842624) || rs.any fun p => p.1.At != at_) = true) : checked at_ rs = (0, 180) := by
  unfold checked gathered
  rw [if_pos h]; rfl
theorem checked_yes {at_ : Int} {rs : List (S38 × List S36)} (h : (decide (at_ < 0) || decide (at_ > 1125899906842624) || rs.any fun p => p.1.At != at_) = false) :
    checked at_ rs = if (goes [] 0 (flat rs)).2.2 = 0 then ((goes [] 0 (flat rs)).2.1, 0) else (0, (goes [] 0 (flat rs)).2.2) := by
  unfold checked gathered
  rw [h]
  simp only [Bool.false_eq_true, if_false]
theorem ref_check {at_ : Int} {s : Slc} {rs : List (S38 × List S36)} (hm : rs.length ≤ 100) (hm2 : ∀ p ∈ rs, p.2.length ≤ 100) (k : Know l (RsP s rs)) (H : St W l w) :
    cl Try.prog 12 [.int .i64 at_, tSlc.enc s] (tTup2 (tInt .i64) (tInt .i64)) w fun q w' => q = checked at_ rs ∧ St W l w' := by
  have hs := (Know.rs k).len H
  rw [List.length_map] at hs
  refine F12_ok ?_
  unfold F12
  split
  · rename_i hc
    rw [checked_no (by rw [hc]; rfl)]; exact ⟨rfl, H⟩
  · rename_i hc
    refine lp_i (fun i w => 0 ≤ i ∧ i ≤ rs.length ∧ (∀ p ∈ rs.take i.toNat, p.1.At = at_) ∧ St W l w) (fun i => (rs.length - i).toNat) ⟨Int.le_refl 0, by omega, by simp, H⟩ ?_
    clear H
    rintro i w ⟨h0, h1, h2, H⟩
    unfold F12_l1
    split
    · rename_i hc2
      have hc2 : i < rs.length := by simp at hc2; omega
      have e1 : IntKind.i64.wrap (i + 1) = i + 1 := wrap_i64 (by omega) (by omega)
      have hx : rs[i.toNat]? = some rs[i.toNat] := List.getElem?_eq_getElem (by omega)
      have hmem := List.mem_of_getElem? hx
      have hxm : (rs.map (·.1))[i.toNat]? = some rs[i.toNat].1 := by rw [List.getElem?_map, hx]; rfl
      obtain ⟨a, ha⟩ := (Know.rs k).ix (sz := 2) (i := i) H h0 (by rw [List.length_map]; omega)
      refine ex_i a ha ?_
      refine ex_i rs[i.toNat].1.At ((Know.rs k).fld (fun _ => rfl) ha hxm rfl H) ?_
      split
      · rename_i hw
        refine ⟨(checked_no ?_).symm, H⟩
        have : rs.any (fun p => p.1.At != at_) = true := List.any_eq_true.2 ⟨_, hmem, hw⟩
        rw [this]; simp
      · rename_i hw
        rw [e1]
        refine ⟨⟨by omega, by omega, ?_, H⟩, by omega⟩
        intro p hp
        rw [show (i + 1).toNat = i.toNat + 1 from by omega, List.take_succ_eq_append_getElem (by omega), List.mem_append] at hp
        rcases hp with hp | hp
        · exact h2 p hp
        · rw [List.mem_singleton.1 hp]; simpa using hw
    · rename_i hc2
      have hc2 : i = rs.length := by simp at hc2; omega
      subst hc2
      have hany : (decide (at_ < 0) || decide (at_ > 1125899906842624) || rs.any fun p => p.1.At != at_) = false := by
        rw [show (decide (at_ < 0) || decide (at_ > 1125899906842624)) = false from by simpa using hc]
        rw [Bool.false_or, List.any_eq_false]
        intro p hp
        simp [h2 p (by simpa using hp)]
      rw [checked_yes hany]
      clear h0 h1 h2 hany hc
      have hlen := flat_len_le hm2
      have hl2 : rs.length * 100 ≤ 100 * 100 := Nat.mul_le_mul_right _ hm
      refine cl_mono (flat_spec hm hm2 k H) ?_
      intro r w1 H
      have H := (row_stay H)
      generalize flat rs = L at hlen H
      have kL : Know (ro T36 r L :: l) (RoP T36 r L) := Know.here (m := RoP.mono)
      have hsl := kL.len H
      refine lp_i (fun p w => 0 ≤ p.2 ∧ p.2 ≤ L.length ∧ (goes [] 0 (L.take p.2.toNat)).2.2 = 0 ∧ p.1 = 4611686018427387904 - (goes [] 0 (L.take p.2.toNat)).2.1 ∧ St W (ro T36 r L :: l) w) (fun p => (L.length - p.2).toNat) ⟨Int.le_refl 0, by simp only; omega, rfl, rfl, H⟩ ?_
      clear H
      rintro ⟨left, i⟩ w ⟨h0, h1, hz, hleft, H⟩
      simp only at h0 h1 hz hleft H ⊢
      have hg : good (goes [] 0 (L.take i.toNat)).2.1 := good_goes ⟨by omega, by omega⟩
      obtain ⟨hg0, hg1⟩ := hg
      have hes := goes_fst hz
      unfold F12_l2
      split
      · rename_i hc
        have hc : i < L.length := by simp at hc; omega
        have e1 : IntKind.i64.wrap (i + 1) = i + 1 := wrap_i64 (by omega) (by omega)
        have hx : L[i.toNat]? = some L[i.toNat] := List.getElem?_eq_getElem (by omega)
        obtain ⟨a, ha⟩ := kL.ix (sz := 2) (i := i) H h0 hc
        generalize L[i.toNat] = x at hx
        have hstop := stop_at hx hz
        have htake := goes_take hx hz
        rw [hes] at hstop htake
        generalize (goes [] 0 (L.take i.toNat)).2.1 = sum at *
        refine ex_i a ha ?_
        refine ex_i x.Key (kL.fld (fun _ => rfl) ha hx rfl H) ?_
        refine ex_i a (fun _ => ha) ?_
        refine ex_i x.Key (fun _ => kL.fld (fun _ => rfl) ha hx rfl H) ?_
        by_cases c1 : x.Key < 0 ∨ x.Key ≥ 8192
        · have e : why ((L.take i.toNat).map fun x => (x.Key, x.V)) sum x = 181 := by unfold why; rw [if_pos c1]
          rw [if_pos (by simp; omega)]
          rw [e] at hstop
          have := hstop (by decide)
          rw [this]; exact ⟨rfl, H.drop⟩
        rw [if_neg (by simp; omega)]
        refine lp_i (fun j w => 0 ≤ j ∧ j ≤ i ∧ (∀ y ∈ L.take j.toNat, y.Key ≠ x.Key) ∧ St W (ro T36 r L :: l) w) (fun j => (i - j).toNat) ⟨Int.le_refl 0, by omega, by simp, H⟩ ?_
        clear H
        rintro j w ⟨j0, j1, j2, H⟩
        unfold F12_l3
        split
        · rename_i hc2
          have hc2 : j < i := by simpa using hc2
          have e2 : IntKind.i64.wrap (j + 1) = j + 1 := wrap_i64 (by omega) (by omega)
          have hy : L[j.toNat]? = some L[j.toNat] := List.getElem?_eq_getElem (by omega)
          have ht : L.take (j.toNat + 1) = L.take j.toNat ++ [L[j.toNat]] := List.take_succ_eq_append_getElem (by omega)
          obtain ⟨a', ha'⟩ := kL.ix (sz := 2) (i := j) H j0 (by omega)
          have hym : L[j.toNat] ∈ L.take i.toNat := by
            have : (L.take i.toNat)[j.toNat]? = some L[j.toNat] := by rw [List.getElem?_take_of_lt (by omega)]; exact hy
            exact List.mem_of_getElem? this
          generalize L[j.toNat] = y at hy ht hym
          refine dr_st H fun w2 H => ?_
          refine ex_i a' ha' ?_
          refine ex_i a ha ?_
          refine ex_i y.Key (kL.fld (fun _ => rfl) ha' hy rfl H) ?_
          refine ex_i x.Key (kL.fld (fun _ => rfl) ha hx rfl H) ?_
          split
          · rename_i hk
            have hk : y.Key = x.Key := by simpa using hk
            have e : why ((L.take i.toNat).map fun x => (x.Key, x.V)) sum x = 182 := by
              unfold why; rw [if_neg c1, if_pos (look_some.2 ⟨y, hym, hk⟩)]
            rw [e] at hstop
            rw [hstop (by decide)]; exact ⟨rfl, H.drop⟩
          · rename_i hk
            have hk : y.Key ≠ x.Key := by simpa using hk
            rw [e2]
            refine ⟨⟨by omega, by omega, fun z hz => ?_, H⟩, by omega⟩
            rw [show (j + 1).toNat = j.toNat + 1 from by omega, ht] at hz
            rcases List.mem_append.1 hz with hz | hz
            · exact j2 z hz
            · rw [List.mem_singleton.1 hz]; exact hk
        · rename_i hc2
          have hc2 : j = i := by simp at hc2; omega
          subst hc2
          have c2 : ¬ (((L.take j.toNat).map fun x => (x.Key, x.V)).lookup x.Key).isSome = true := by
            rw [look_some]; rintro ⟨y, h1, h2⟩; exact j2 y h1 h2
          have hk := kL.fld (T := T36) (U := tInt .i64) (o := 0) (y := x.Key) (fun _ => rfl) ha hx rfl H
          have hv := kL.fld (T := T36) (U := tInt .i64) (o := 1) (y := x.V) (fun _ => rfl) ha hx rfl H
          refine ex_i a ha ?_
          refine ex_i x.V hv ?_
          refine ex_i a (fun _ => ha) ?_
          refine ex_i x.Key (fun _ => hk) ?_
          refine ex_i a (fun _ => ha) ?_
          refine ex_i x.V (fun _ => hv) ?_
          refine ex_i a (fun _ => ha) ?_
          refine ex_i x.V (fun _ => hv) ?_
          by_cases c3 : x.V < 0 ∨ x.V > most x.Key
          · have e : why ((L.take j.toNat).map fun x => (x.Key, x.V)) sum x = 183 := by unfold why; rw [if_neg c1, if_neg c2, if_pos c3]
            rw [if_pos (by unfold most at c3; simp; split at c3 <;> omega)]
            rw [e] at hstop
            rw [hstop (by decide)]; exact ⟨rfl, H.drop⟩
          rw [if_neg (by unfold most at c3; simp; split at c3 <;> omega)]
          refine ex_i a ha ?_
          refine ex_i x.V hv ?_
          by_cases c4 : x.V > 4611686018427387904 - sum
          · have e : why ((L.take j.toNat).map fun x => (x.Key, x.V)) sum x = 184 := by unfold why; rw [if_neg c1, if_neg c2, if_neg c3, if_pos c4]
            rw [if_pos (by rw [hleft]; simpa using c4)]
            rw [e] at hstop
            rw [hstop (by decide)]; exact ⟨rfl, H.drop⟩
          have e : why ((L.take j.toNat).map fun x => (x.Key, x.V)) sum x = 0 := by unfold why; rw [if_neg c1, if_neg c2, if_neg c3, if_neg c4]
          rw [if_neg (by rw [hleft]; simpa using c4)]
          rw [if_pos e] at htake
          refine ex_i a ha ?_
          refine ex_i x.V hv ?_
          have e3 : IntKind.i64.wrap (left - x.V) = left - x.V := wrap_i64 (by omega) (by omega)
          rw [e1, e3]
          refine ⟨⟨by simp only; omega, by simp only; omega, ?_, ?_, H⟩, by simp only; omega⟩
          · simp only; rw [show (j + 1).toNat = j.toNat + 1 from by omega, htake]
          · simp only; rw [show (j + 1).toNat = j.toNat + 1 from by omega, htake]; simp only; omega
      · rename_i hc
        have hc : i = L.length := by simp at hc; omega
        subst hc
        have e : L.take ((L.length : Int)).toNat = L := by simp
        rw [e] at hz hleft hg0 hg1
        have e3 : IntKind.i64.wrap (4611686018427387904 - left) = (goes [] 0 L).2.1 := by rw [hleft]; rw [wrap_i64 (by omega) (by omega)]; omega
        rw [e3, if_pos hz]
        exact ⟨rfl, H.drop⟩
theorem ref_merge {at_ : Int} {s : Slc} {rs : List (S38 × List S36)} (hm : rs.length ≤ 100) (hm2 : ∀ p ∈ rs, p.2.length ≤ 100) (k : Know l (RsP s rs)) (H : St W l w) :
    cl Try.prog 15 [.int .i64 at_, tSlc.enc s] (tTup2 tSlc (tInt .i64)) w fun q w' => ∃ L, (q.2 = (checked at_ rs).2 ∧ if q.2 = 0 then Rise L ∧ L.Perm (flat rs) else L = [] ∧ q.1 = nilS) ∧ St W (row T36 37 2 q.1 L :: l) w' := by
  refine F15_ok ?_
  unfold F15
  refine cl_mono (ref_check hm hm2 k H) ?_
  rintro q w1 ⟨rfl, H⟩
  split
  · rename_i hne
    exact ⟨[], ⟨rfl, by rw [if_neg (by simpa using hne)]; exact ⟨rfl, rfl⟩⟩, row_nil T36 37 2 H⟩
  · rename_i hne
    have hne : (checked at_ rs).2 = 0 := by simpa using hne
    refine cl_mono (flat_spec hm hm2 k H) ?_
    intro r w2 H
    have H := row_stay H
    have hz : (goes [] 0 (flat rs)).2.2 = 0 := by
      cases c : (decide (at_ < 0) || decide (at_ > 1125899906842624) || rs.any fun p => p.1.At != at_) with
      | true => rw [checked_no c] at hne; cases hne
      | false =>
        rw [checked_yes c] at hne
        by_cases c2 : (goes [] 0 (flat rs)).2.2 = 0
        · exact c2
        · rw [if_neg c2] at hne; exact hne
    obtain ⟨g1, g2, _⟩ := goes_ok (L := flat rs) (es := []) (sum := 0) (by simp) (by simp) hz
    rw [g1, List.nil_append, List.map_map] at g2
    have hlen := flat_len_le hm2
    have hl2 : rs.length * 100 ≤ 100 * 100 := Nat.mul_le_mul_right _ hm
    refine cl_mono (sort_spec (by omega) g2 (Know.here (m := RoP.mono)) H) ?_
    rintro r2 w3 ⟨M, hM, hP, H⟩
    exact ⟨M, ⟨hne.symm, by rw [if_pos rfl]; exact ⟨hM, hP⟩⟩, (H.front 1).drop⟩
end
end Go.Proofs.Ytleehieomicicaa.Audit
