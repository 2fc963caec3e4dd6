/- Contracts of the reference: Same, find, flat, Sort. -/
import Derived.Test.YtleehieomicicaaQK
import Derived.Test.YtleehieomicicaaSlH
namespace Go.Proofs.Ytleehieomicicaa.Audit
open Go Go.Proofs.Ytleehieomicicaa.Cf
set_option linter.unusedVariables false
set_option linter.unusedSimpArgs false
set_option maxRecDepth 100000
section
variable {W w : World} {l : List Assn}
theorem same_spec {sa sb : Slc} {a b : List S36} (hm : a.length ≤ 1000000) (ka : Know l (RoP T36 sa a)) (kb : Know l (RoP T36 sb b)) (H : St W l w) :
    cl Try.prog 16 [tSlc.enc sa, tSlc.enc sb] tBool w fun r w' => (r = true ↔ a = b) ∧ St W l w' := by
  have la := ka.len H
  have lb := kb.len H
  refine F16_ok ?_
  unfold F16
  split
  · rename_i hne
    have hne : a.length ≠ b.length := by simp at hne; omega
    exact ⟨by constructor
              · intro h; cases h
              · intro h; subst h; exact absurd rfl hne, H⟩
  · rename_i hne
    have hne : a.length = b.length := by simp at hne; omega
    refine lp_i (fun i w => 0 ≤ i ∧ i ≤ a.length ∧ a.take i.toNat = b.take i.toNat ∧ St W l w) (fun i => (a.length - i).toNat) ⟨Int.le_refl 0, by omega, by simp, H⟩ ?_
    rintro i w ⟨h0, h1, h2, H⟩
    unfold F16_l1
    split
    · rename_i hc
      have hc : i < a.length := by simp at hc; omega
      have e1 : IntKind.i64.wrap (i + 1) = i + 1 := wrap_i64 (by omega) (by omega)
      have hx : a[i.toNat]? = some a[i.toNat] := List.getElem?_eq_getElem (by omega)
      have hy : b[i.toNat]? = some b[i.toNat] := List.getElem?_eq_getElem (by omega)
      obtain ⟨p, hp⟩ := ka.ix (sz := 2) (i := i) H h0 hc
      obtain ⟨q, hq⟩ := kb.ix (sz := 2) (i := i) H h0 (by omega)
      have ht : a.take (i.toNat + 1) = a.take i.toNat ++ [a[i.toNat]] := List.take_succ_eq_append_getElem (by omega)
      have ht2 : b.take (i.toNat + 1) = b.take i.toNat ++ [b[i.toNat]] := List.take_succ_eq_append_getElem (by omega)
      generalize a[i.toNat] = x at hx ht
      generalize b[i.toNat] = y at hy ht2
      refine dr_st H fun w1 H => ?_
      refine ex_i p hp ?_
      refine ex_i q hq ?_
      refine ex_i x.Key (ka.fld (fun _ => rfl) hp hx rfl H) ?_
      refine ex_i y.Key (kb.fld (fun _ => rfl) hq hy rfl H) ?_
      refine ex_i p (fun _ => hp) ?_
      refine ex_i q (fun _ => hq) ?_
      refine ex_i x.V (fun _ => ka.fld (fun _ => rfl) hp hx rfl H) ?_
      refine ex_i y.V (fun _ => kb.fld (fun _ => rfl) hq hy rfl H) ?_
      split
      · rename_i hd
        refine ⟨⟨fun h => (by cases h), fun h => ?_⟩, H⟩
        subst h
        rw [hx] at hy; cases hy
        simp at hd
      · rename_i hd
        rw [e1]
        have hxy : x = y := s36_eq (by simp at hd; exact hd.1) (by simp at hd; exact hd.2)
        refine ⟨⟨by omega, by omega, ?_, H⟩, by omega⟩
        rw [show (i + 1).toNat = i.toNat + 1 from by omega, ht, ht2, h2, hxy]
    · rename_i hc
      have hc : i = a.length := by simp at hc; omega
      subst hc
      refine ⟨⟨fun _ => ?_, fun _ => rfl⟩, H⟩
      have e1 : a.take ((a.length : Int)).toNat = a := by simp
      have e2 : b.take ((a.length : Int)).toNat = b := by rw [hne]; simp
      rw [e1, e2] at h2; exact h2
theorem find_spec {s : Slc} {L : List S36} {key : Int} (hm : L.length ≤ 1000000) (k : Know l (RoP T36 s L)) (H : St W l w) : cl Try.prog 28 [tSlc.enc s, .int .i64 key] (tInt .i64) w fun r w' => r = val L key ∧ St W l w' := by
  have hs := k.len H
  refine F28_ok ?_
  unfold F28
  refine lp_i (fun i w => 0 ≤ i ∧ i ≤ L.length ∧ val L key = val (L.drop i.toNat) key ∧ St W l w) (fun i => (L.length - i).toNat) ⟨Int.le_refl 0, by omega, by simp, H⟩ ?_
  rintro i w ⟨h0, h1, h2, H⟩
  unfold F28_l1
  split
  · rename_i hc
    have hc : i < L.length := by simp at hc; omega
    have e1 : IntKind.i64.wrap (i + 1) = i + 1 := wrap_i64 (by omega) (by omega)
    have hx : L[i.toNat]? = some L[i.toNat] := List.getElem?_eq_getElem (by omega)
    obtain ⟨a, ha⟩ := k.ix (sz := 2) (i := i) H h0 hc
    have hd : L.drop i.toNat = L[i.toNat] :: L.drop (i.toNat + 1) := List.drop_eq_getElem_cons (by omega)
    generalize L[i.toNat] = x at hx hd
    rw [hd, val] at h2
    refine ex_i a ha ?_
    refine ex_i x.Key (k.fld (fun _ => rfl) ha hx rfl H) ?_
    split
    · rename_i hk
      refine ex_i a ha ?_
      refine ex_i x.V (k.fld (fun _ => rfl) ha hx rfl H) ?_
      rw [if_pos (by simpa using hk)] at h2
      exact ⟨h2.symm, H⟩
    · rename_i hk
      rw [if_neg (by simpa using hk)] at h2
      rw [e1]
      exact ⟨⟨by omega, by omega, by rw [show (i + 1).toNat = i.toNat + 1 from by omega]; exact h2, H⟩, by omega⟩
  · rename_i hc
    have hc : i = L.length := by simp at hc; omega
    subst hc
    refine ⟨?_, H⟩
    rw [h2]; simp [val]
theorem Know.rs {s : Slc} {rs : List (S38 × List S36)} (k : Know l (RsP s rs)) : Know l (RoP T38 s (rs.map (·.1))) := k.imp fun _ h => h.1
theorem Know.rs_at {s : Slc} {rs : List (S38 × List S36)} {p : S38 × List S36} (hp : p ∈ rs) (k : Know l (RsP s rs)) : Know l (RoP T36 p.1.L p.2) := k.imp fun _ h => h.2 p hp
theorem flat_take {rs : List (S38 × List S36)} {i : Nat} (h : i < rs.length) : flat (rs.take (i + 1)) = flat (rs.take i) ++ rs[i].2 := by
  rw [List.take_succ_eq_append_getElem h]
  unfold flat; rw [List.flatMap_append, List.flatMap_cons, List.flatMap_nil, List.append_nil]
theorem flat_spec {s : Slc} {rs : List (S38 × List S36)} (hm : rs.length ≤ 100) (hm2 : ∀ p ∈ rs, p.2.length ≤ 100) (k : Know l (RsP s rs)) (H : St W l w) :
    cl Try.prog 21 [tSlc.enc s] tSlc w fun r w' => St W (row T36 37 2 r (flat rs) :: l) w' := by
  have hs := (Know.rs k).len H
  rw [List.length_map] at hs
  refine F21_ok ?_
  unfold F21
  refine nwS_st H fun b w1 H => ?_
  have H := row_new (sz := 2) (m := 0) rfl H
  refine lp_i (fun p w => 0 ≤ p.2 ∧ p.2 ≤ rs.length ∧ St W (row T36 37 2 p.1 (flat (rs.take p.2.toNat)) :: l) w) (fun p => (rs.length - p.2).toNat) ⟨Int.le_refl 0, by simp only; omega, H⟩ ?_
  rintro ⟨out, i⟩ w ⟨h0, h1, H⟩
  simp only at h0 h1 H ⊢
  unfold F21_l1
  split
  · rename_i hc
    have hc : i < rs.length := by simp at hc; omega
    have e1 : IntKind.i64.wrap (i + 1) = i + 1 := wrap_i64 (by omega) (by omega)
    have hx : rs[i.toNat]? = some rs[i.toNat] := List.getElem?_eq_getElem (by omega)
    have hmem := List.mem_of_getElem? hx
    have hxm : (rs.map (·.1))[i.toNat]? = some rs[i.toNat].1 := by rw [List.getElem?_map, hx]; rfl
    obtain ⟨a, ha⟩ := (Know.rs k).tail.ix (sz := 2) (i := i) H h0 (by rw [List.length_map]; omega)
    refine ex_i a ha ?_
    refine ex_i rs[i.toNat].1.L ((Know.rs k).tail.fld (fun _ => rfl) ha hxm rfl H) ?_
    have hl := flat_len_le (rs := rs.take i.toNat) (m := 100) fun p hp => hm2 p (List.mem_of_mem_take hp)
    have hl2 : (rs.take i.toNat).length * 100 ≤ 100 * 100 := Nat.mul_le_mul_right _ (by rw [List.length_take]; omega)
    have hl3 := hm2 _ hmem
    refine apd_row (fun _ => rfl) 0 H rfl ((Know.rs_at hmem k).tail.rdS H) (by omega) fun r w2 H => ?_
    rw [e1]
    refine ⟨⟨by simp only; omega, by simp only; omega, ?_⟩, by simp only; omega⟩
    simp only
    rw [show (i + 1).toNat = i.toNat + 1 from by omega, flat_take (by omega)]
    exact H
  · rename_i hc
    have hc : i = rs.length := by simp at hc; omega
    subst hc
    have e : rs.take ((rs.length : Int)).toNat = rs := by simp
    rw [e] at H; exact H
theorem rise_ins {out : List S36} {at_ : Nat} {x : S36} (h : Rise out) (h1 : ∀ y ∈ out.take at_, y.Key < x.Key) (h2 : ∀ y ∈ out.drop at_, x.Key < y.Key) : Rise (out.take at_ ++ [x] ++ out.drop at_) := by
  have hb : Rise (out.take at_ ++ out.drop at_) := by rw [List.take_append_drop]; exact h
  obtain ⟨b1, b2, b3⟩ := List.pairwise_append.1 hb
  refine List.pairwise_append.2 ⟨List.pairwise_append.2 ⟨b1, by simp, fun y hy z hz => by rw [List.mem_singleton.1 hz]; exact h1 y hy⟩, b2, fun y hy z hz => ?_⟩
  rcases List.mem_append.1 hy with hy | hy
  · exact b3 y hy z hz
  · rw [List.mem_singleton.1 hy]; exact h2 z hz
theorem sort_spec {s : Slc} {L : List S36} (hm : L.length ≤ 100000) (hn : (L.map fun x => x.Key).Nodup) (k : Know l (RoP T36 s L)) (H : St W l w) :
    cl Try.prog 23 [tSlc.enc s] tSlc w fun r w' => ∃ M, Rise M ∧ M.Perm L ∧ St W (row T36 37 2 r M :: l) w' := by
  have hs := k.len H
  refine F23_ok ?_
  unfold F23
  refine nwS_st H fun b w1 H => ?_
  have H := row_new (sz := 2) (m := 0) rfl H
  refine lp_i (fun p w => 0 ≤ p.2 ∧ p.2 ≤ L.length ∧ ∃ M, Rise M ∧ M.Perm (L.take p.2.toNat) ∧ St W (row T36 37 2 p.1 M :: l) w) (fun p => (L.length - p.2).toNat) ⟨Int.le_refl 0, by simp only; omega, [], List.Pairwise.nil, by simp, H⟩ ?_
  rintro ⟨out, i⟩ w ⟨h0, h1, M, hM, hP, H⟩
  simp only at h0 h1 hP H ⊢
  unfold F23_l1
  split
  · rename_i hc
    have hc : i < L.length := by simp at hc; omega
    have e1 : IntKind.i64.wrap (i + 1) = i + 1 := wrap_i64 (by omega) (by omega)
    have hx : L[i.toNat]? = some L[i.toNat] := List.getElem?_eq_getElem (by omega)
    have ht : L.take (i.toNat + 1) = L.take i.toNat ++ [L[i.toNat]] := List.take_succ_eq_append_getElem (by omega)
    generalize L[i.toNat] = x at hx ht
    have hlen := hP.length_eq
    rw [List.length_take] at hlen
    have hnew : ∀ y ∈ M, y.Key ≠ x.Key := by
      intro y hy
      have hy2 := hP.mem_iff.1 hy
      have h3 : ((L.take (i.toNat + 1)).map fun x => x.Key).Nodup := hn.sublist ((List.take_sublist _ _).map _)
      rw [ht, List.map_append] at h3
      exact (List.nodup_append.1 h3).2.2 _ (List.mem_map.2 ⟨y, hy2, rfl⟩) _ (List.mem_singleton.2 rfl)
    have hcap := row_cap H
    have H := row_stay H
    have km : Know (ro T36 out M :: l) (RoP T36 out M) := Know.here (m := RoP.mono)
    have hsl := km.len H
    refine lp_i (fun j w => 0 ≤ j ∧ j ≤ M.length ∧ (∀ y ∈ M.take j.toNat, y.Key < x.Key) ∧ St W (ro T36 out M :: l) w) (fun j => (M.length - j).toNat) ⟨Int.le_refl 0, by omega, by simp, H⟩ ?_
    rintro j w ⟨j0, j1, j2, H⟩
    obtain ⟨a2, ha2⟩ := k.tail.ix (sz := 2) (i := i) H h0 hc
    unfold F23_l3
    refine dr_st H fun w2 H => ?_
    obtain ⟨a, ha⟩ := gex (C := IxA out 2 j) (g := decide (j < (out.len : Int))) fun h => km.ix H j0 (show j < (M.length : Int) by simp at h; omega)
    refine ex_i a ha ?_
    refine ex_i a2 (fun _ => ha2) ?_
    obtain ⟨y, hy⟩ : ∃ y, j < M.length → M[j.toNat]? = some y := by
      by_cases c : j < M.length
      · exact ⟨M[j.toNat]'(by omega), fun _ => List.getElem?_eq_getElem (by omega)⟩
      · exact ⟨x, fun h => absurd h c⟩
    have hg : decide (j < (out.len : Int)) = true → M[j.toNat]? = some y := fun h => hy (by simp at h; omega)
    refine ex_i y.Key (fun h => km.fld (fun _ => rfl) (ha h) (hg h) rfl H) ?_
    refine ex_i x.Key (fun _ => k.tail.fld (fun _ => rfl) ha2 hx rfl H) ?_
    split
    · rename_i hcc
      have hcc : j < M.length ∧ y.Key < x.Key := by simp at hcc; omega
      have e2 : IntKind.i64.wrap (j + 1) = j + 1 := wrap_i64 (by omega) (by omega)
      rw [e2]
      refine ⟨⟨by omega, by omega, fun z hz => ?_, H⟩, by omega⟩
      rw [show (j + 1).toNat = j.toNat + 1 from by omega, List.take_add_one, hy hcc.1] at hz
      rcases List.mem_append.1 hz with hz | hz
      · exact j2 z hz
      · have : z = y := by simpa using hz
        rw [this]; exact hcc.2
    · rename_i hcc
      have hdr : ∀ z ∈ M.drop j.toNat, x.Key < z.Key := by
        intro z hz
        by_cases c : j < M.length
        · have hyx : ¬ (y.Key < x.Key) := fun h => hcc (by simp; omega)
          have hym := hy c
          have hne := hnew y (List.mem_of_getElem? hym)
          have hd : M.drop j.toNat = y :: M.drop (j.toNat + 1) := by
            obtain ⟨hi, rfl⟩ := List.getElem?_eq_some_iff.1 hym
            exact List.drop_eq_getElem_cons hi
          have hr : Rise (M.drop j.toNat) := hM.sublist (List.drop_sublist _ _)
          rw [hd] at hz hr
          rcases List.mem_cons.1 hz with rfl | hz
          · omega
          · have := (List.pairwise_cons.1 hr).1 z hz; omega
        · rw [List.drop_eq_nil_of_le (by omega)] at hz; cases hz
      refine dr_st H fun w3 H => ?_
      obtain ⟨s1, hs1⟩ : ∃ s1, Sub out 2 0 j ((out).cap : Int) s1 := ⟨_, Int.le_refl 0, j0, by omega, Int.le_refl _, rfl⟩
      obtain ⟨s2, hs2⟩ : ∃ s2, Sub out 2 j ((out).len : Int) ((out).cap : Int) s2 := ⟨_, j0, by omega, by omega, Int.le_refl _, rfl⟩
      refine ex_i s1 hs1 ?_
      refine ex_i a2 ha2 ?_
      refine ex_i s2 hs2 ?_
      have rdx : ∀ l' w, St W (l' ++ (ro T36 out M :: l)) w → RdAt T36 a2 w x := fun l' w H => (k.tail.app l').rd (fun _ => rfl) ha2 hx H
      refine ex_i x (rdx [] _ H) ?_
      have k1 := km.sub (fun _ => rfl) hs1 j1
      have k2 := km.sub (fun _ => rfl) hs2 (show ((out.len : Int)) ≤ (M.length : Int) by omega)
      have ek2 : M.take ((out.len : Int)).toNat = M := by rw [hsl]; simp
      rw [ek2] at k2
      simp only [show ((0 : Int)).toNat = 0 from rfl, List.drop_zero] at k1
      refine ins_st (xs := M.take j.toNat) (zs := M.drop j.toNat) (fun _ => rfl) k1 k2 rdx H (by simp only [List.length_take, List.length_drop]; omega) fun r w4 H => ?_
      unfold F23_j2
      rw [e1]
      refine ⟨⟨by simp only; omega, by simp only; omega, _, rise_ins hM j2 hdr, ?_, (H.front 1).drop⟩, by simp only; omega⟩
      simp only
      rw [show (i + 1).toNat = i.toNat + 1 from by omega, ht]
      have : (M.take j.toNat ++ [x] ++ M.drop j.toNat).Perm (M ++ [x]) := by
        have h1 : (M.take j.toNat ++ [x] ++ M.drop j.toNat).Perm (M.take j.toNat ++ (M.drop j.toNat ++ [x])) := by
          rw [List.append_assoc]; exact List.perm_append_comm.append_left _
        rw [← List.append_assoc, List.take_append_drop] at h1; exact h1
      exact this.trans (hP.append_right _)
  · rename_i hc
    have hc : i = L.length := by simp at hc; omega
    subst hc
    have e : L.take ((L.length : Int)).toNat = L := by simp
    rw [e] at hP
    exact ⟨M, hM, hP, H⟩
end
end Go.Proofs.Ytleehieomicicaa.Audit
