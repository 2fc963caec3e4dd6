/- The law's own functions few, kept and awake; what doesn't hang on the order of reports. -/
import Derived.Test.YtleehieomicicaaQK
import Derived.Test.YtleehieomicicaaQL
namespace Go.Proofs.Ytleehieomicicaa.Audit
open Go Go.Proofs.Ytleehieomicicaa.Cf
set_option linter.unusedVariables false
set_option linter.unusedSimpArgs false
set_option maxRecDepth 100000
section
variable {W w : World} {l : List Assn}
def keyR (p : S38 × List S36) : Int × List S36 := (p.1.At, p.2)
theorem flat_key (rs : List (S38 × List S36)) : flat rs = (rs.map keyR).flatMap (·.2) := by
  unfold flat; rw [List.flatMap_map]; rfl
theorem any_key (at_ : Int) (rs : List (S38 × List S36)) : (rs.any fun p => p.1.At != at_) = (rs.map keyR).any fun k => k.1 != at_ := by
  rw [List.any_map]; rfl
theorem flat_same {rs rs' : List (S38 × List S36)} (h : rs'.map keyR = rs.map keyR) : flat rs' = flat rs := by rw [flat_key, flat_key, h]
theorem checked_same {at_ : Int} {rs rs' : List (S38 × List S36)} (h : rs'.map keyR = rs.map keyR) : checked at_ rs' = checked at_ rs := by
  unfold checked gathered
  rw [flat_same h, any_key, any_key, h]
theorem len_same {rs rs' : List (S38 × List S36)} (h : rs'.map keyR = rs.map keyR) : rs'.length = rs.length := by simpa using congrArg List.length h
theorem each_same {rs rs' : List (S38 × List S36)} {m : Nat} (h : rs'.map keyR = rs.map keyR) (hm : ∀ p ∈ rs, p.2.length ≤ m) : ∀ p ∈ rs', p.2.length ≤ m := by
  intro p hp
  have : keyR p ∈ rs.map keyR := by rw [← h]; exact List.mem_map.2 ⟨p, hp, rfl⟩
  obtain ⟨q, hq, e⟩ := List.mem_map.1 this
  have := hm q hq
  have e2 : q.2 = p.2 := (Prod.mk.inj (show (q.1.At, q.2) = (p.1.At, p.2) from e)).2
  rw [← e2]; exact this
theorem few_spec {s : Slc} {rs : List (S38 × List S36)} (k : Know l (RsP s rs)) (H : St W l w) :
    cl Try.prog 9 [tSlc.enc s] (tTup2 tSlc tBool) w fun q w' => (q.2 = false ∧ St W l w') ∨ (q.2 = true ∧ rs.length ≤ 20 ∧ (∀ p ∈ rs, p.2.length ≤ 60) ∧ ∃ rs', rs'.map keyR = rs.map keyR ∧ q.1.len ≤ q.1.cap ∧ St W (rso q.1 rs' :: l) w') := by
  have hs := (Know.rs k).len H
  rw [List.length_map] at hs
  refine F9_ok ?_
  unfold F9
  split
  · exact .inl ⟨rfl, H⟩
  · rename_i hc
    have hm : rs.length ≤ 20 := by simp at hc; omega
    refine nwS_st H fun b w1 H => ?_
    have H := row_new (sz := 2) (m := 0) rfl H
    have mm : ∀ (rs' : List (S38 × List S36)) {I I' : PMap}, PMap.le I I' → (∀ p ∈ rs', RoP T36 p.1.L p.2 I) → (∀ p ∈ rs', RoP T36 p.1.L p.2 I') := fun rs' I I' h h2 p hp => RoP.mono h (h2 p hp)
    have H0 : St W (row T38 39 2 ⟨some ⟨b, 0, none⟩, 0, 0⟩ ([] : List S38) :: ever (fun I => ∀ p ∈ ([] : List (S38 × List S36)), RoP T36 p.1.L p.2 I) (mm []) :: l) w1 :=
      (St.know (m := mm []) (fun I h hl p hp => by cases hp) H).front 1
    clear H
    refine lp_i (fun t w => 0 ≤ t.2 ∧ t.2 ≤ rs.length ∧ (∀ p ∈ rs.take t.2.toNat, p.2.length ≤ 60) ∧ ∃ rs' : List (S38 × List S36), rs'.map keyR = (rs.take t.2.toNat).map keyR ∧ St W (row T38 39 2 t.1 (rs'.map (·.1)) :: ever (fun I => ∀ p ∈ rs', RoP T36 p.1.L p.2 I) (mm rs') :: l) w) (fun t => (rs.length - t.2).toNat) ⟨Int.le_refl 0, by simp only; omega, by simp, [], by simp, H0⟩ ?_
    clear H0
    rintro ⟨out, i⟩ w ⟨h0, h1, h2, rs', hk, H⟩
    simp only at h0 h1 h2 hk H ⊢
    have hlr : rs'.length ≤ 20 := by have := len_same hk; rw [List.length_take] at this; omega
    have k2 : Know (row T38 39 2 out (rs'.map (·.1)) :: ever (fun I => ∀ p ∈ rs', RoP T36 p.1.L p.2 I) (mm rs') :: l) (RsP s rs) := k.tail.tail
    unfold F9_l1
    split
    · rename_i hc
      have hc : i < rs.length := by simp at hc; omega
      have e1 : IntKind.i64.wrap (i + 1) = i + 1 := wrap_i64 (by omega) (by omega)
      have hx : rs[i.toNat]? = some rs[i.toNat] := List.getElem?_eq_getElem (by omega)
      have hmem := List.mem_of_getElem? hx
      have ht : rs.take (i.toNat + 1) = rs.take i.toNat ++ [rs[i.toNat]] := List.take_succ_eq_append_getElem (by omega)
      generalize rs[i.toNat] = p at hx hmem ht
      have hxm : (rs.map (·.1))[i.toNat]? = some p.1 := by rw [List.getElem?_map, hx]; rfl
      obtain ⟨a, ha⟩ := (Know.rs k2).ix (sz := 2) (i := i) H h0 (by rw [List.length_map]; omega)
      have hpl := (Know.rs_at hmem k2).len H
      refine ex_i a ha ?_
      refine ex_i p.1.L ((Know.rs k2).fld (fun _ => rfl) ha hxm rfl H) ?_
      split
      · exact .inl ⟨rfl, H.drop.drop⟩
      · rename_i hc2
        have hc2 : p.2.length ≤ 60 := by simp at hc2; omega
        refine dr_st H fun w1 H => ?_
        refine ex_i a ha ?_
        refine ex_i a ha ?_
        refine ex_i p.1.At ((Know.rs k2).fld (fun _ => rfl) ha hxm rfl H) ?_
        refine ex_i p.1.L ((Know.rs k2).fld (fun _ => rfl) ha hxm rfl H) ?_
        refine nwS_st H fun b2 w2 H => ?_
        have H := row_new (sz := 2) (m := 0) rfl H
        refine apd_row (fun _ => rfl) 0 H rfl ((Know.rs_at hmem k2).tail.rdS H) (by simp only [List.length_nil]; omega) fun r w3 H => ?_
        refine ⟨(Know.rs k2).tail.fld (fun _ => rfl) ha hxm rfl H, ?_⟩
        refine apl_row (fun _ => rfl) 1 H rfl (by simp only [List.length_map, List.length_singleton]; omega) fun r2 w4 H => ?_
        refine ⟨k.tail.tail.tail.imp (fun _ h => h.1) |>.fld (fun _ => rfl) ha hxm rfl H, ?_⟩
        refine ⟨k.tail.tail.tail.imp (fun _ h => h.1) |>.fld (fun _ => rfl) ha hxm rfl H, ?_⟩
        rw [e1]
        refine ⟨⟨by simp only; omega, by simp only; omega, ?_, rs' ++ [(⟨p.1.At, r⟩, p.2)], ?_, ?_⟩, by simp only; omega⟩
        · simp only
          rw [show (i + 1).toNat = i.toNat + 1 from by omega, ht]
          intro q hq
          rcases List.mem_append.1 hq with hq | hq
          · exact h2 q hq
          · rw [List.mem_singleton.1 hq]; exact hc2
        · simp only
          rw [show (i + 1).toNat = i.toNat + 1 from by omega, ht, List.map_append, List.map_append, hk]; rfl
        · have H := row_stay (H.front 1)
          have H := St.know (φ := fun I => ∀ q ∈ rs' ++ [((⟨p.1.At, r⟩ : S38), p.2)], RoP T36 q.1.L q.2 I) (m := mm (rs' ++ [(⟨p.1.At, r⟩, p.2)])) (fun I h hl q hq => by
            rcases List.mem_append.1 hq with hq | hq
            · exact (Know.here (m := mm rs')).tail.tail I h hl q hq
            · rw [List.mem_singleton.1 hq]
              exact Know.here (m := RoP.mono) I h hl) H
          have H := (((H.ord [0, 2]).front 2).drop.front 2).drop
          have H := H.front 1
          simp only [List.map_append, List.map_cons, List.map_nil]
          exact H
    · rename_i hc
      have hc : i = rs.length := by simp at hc; omega
      subst hc
      have e : rs.take ((rs.length : Int)).toNat = rs := by simp
      rw [e] at hk h2
      refine .inr ⟨rfl, hm, h2, rs', hk, row_cap H, ?_⟩
      have H := row_stay H
      have H := St.know (φ := RsP out rs') (m := RsP.mono) (fun I h hl => ⟨Know.here (m := RoP.mono) I h hl, (Know.here (m := mm rs')).tail I h hl⟩) H
      exact ((H.front 1).drop.front 1).drop
theorem kept_spec {sa sb : Slc} {rs' rs : List (S38 × List S36)} (hk : rs'.map keyR = rs.map keyR) (hm : rs.length ≤ 100) (hm2 : ∀ p ∈ rs, p.2.length ≤ 100) (ka : Know l (RsP sa rs')) (kb : Know l (RsP sb rs)) (H : St W l w) :
    cl Try.prog 13 [tSlc.enc sa, tSlc.enc sb] tBool w fun r w' => r = true ∧ St W l w' := by
  have la := (Know.rs ka).len H
  have lb := (Know.rs kb).len H
  rw [List.length_map] at la lb
  have hlen := len_same hk
  refine F13_ok ?_
  unfold F13
  refine lp_i (fun i w => 0 ≤ i ∧ i ≤ rs.length ∧ St W l w) (fun i => (rs.length - i).toNat) ⟨Int.le_refl 0, by omega, H⟩ ?_
  rintro i w ⟨h0, h1, H⟩
  unfold F13_l1
  split
  · rename_i hc
    have hc : i < rs.length := by simp at hc; omega
    have e1 : IntKind.i64.wrap (i + 1) = i + 1 := wrap_i64 (by omega) (by omega)
    have hx : rs'[i.toNat]? = some (rs'[i.toNat]'(by omega)) := List.getElem?_eq_getElem (by omega)
    have hy : rs[i.toNat]? = some rs[i.toNat] := List.getElem?_eq_getElem (by omega)
    generalize rs'[i.toNat]'(by omega) = x at hx
    generalize rs[i.toNat] = y at hy
    have exy : keyR x = keyR y := by
      have := congrArg (fun q => q[i.toNat]?) hk
      simp only [List.getElem?_map, hx, hy, Option.map_some, Option.some.injEq] at this
      exact this
    have exy : (x.1.At, x.2) = (y.1.At, y.2) := exy
    have eat : x.1.At = y.1.At := (Prod.mk.inj exy).1
    have el : x.2 = y.2 := (Prod.mk.inj exy).2
    have mx := List.mem_of_getElem? hx
    have my := List.mem_of_getElem? hy
    have hxm : (rs'.map (·.1))[i.toNat]? = some x.1 := by rw [List.getElem?_map, hx]; rfl
    have hym : (rs.map (·.1))[i.toNat]? = some y.1 := by rw [List.getElem?_map, hy]; rfl
    obtain ⟨a, ha⟩ := (Know.rs ka).ix (sz := 2) (i := i) H h0 (by rw [List.length_map]; omega)
    obtain ⟨b, hb⟩ := (Know.rs kb).ix (sz := 2) (i := i) H h0 (by rw [List.length_map]; omega)
    refine dr_st H fun w1 H => ?_
    refine ex_i a ha ?_
    refine ex_i b hb ?_
    refine ex_i x.1.At ((Know.rs ka).fld (fun _ => rfl) ha hxm rfl H) ?_
    refine ex_i y.1.At ((Know.rs kb).fld (fun _ => rfl) hb hym rfl H) ?_
    rw [if_neg (by simpa using eat)]
    refine ex_i a ha ?_
    refine ex_i b hb ?_
    refine ex_i x.1.L ((Know.rs ka).fld (fun _ => rfl) ha hxm rfl H) ?_
    refine ex_i y.1.L ((Know.rs kb).fld (fun _ => rfl) hb hym rfl H) ?_
    have hxl : x.2.length ≤ 1000000 := by have := hm2 y my; rw [el]; omega
    refine cl_mono (same_spec hxl (Know.rs_at mx ka) (Know.rs_at my kb) H) ?_
    rintro r w2 ⟨hr, H⟩
    have hr := hr.2 el
    subst hr
    refine ⟨(Know.rs ka).fld (fun _ => rfl) ha hxm rfl H, ?_⟩
    refine ⟨(Know.rs kb).fld (fun _ => rfl) hb hym rfl H, ?_⟩
    unfold F13_j2
    rw [if_neg (by decide), e1]
    exact ⟨⟨by omega, by omega, H⟩, by omega⟩
  · refine ⟨?_, H⟩
    rw [la, lb, hlen]; simp
theorem awake_spec (H : St W l w) : cl Try.prog 10 [] tBool w fun r w' => r = true ∧ St W l w' := by
  refine F10_ok ?_
  unfold F10
  refine nwS_st H fun b1 w1 H => ?_
  have H := row_stay (row_new (sz := 2) (m := 2) rfl H)
  refine nwS_st H fun b2 w2 H => ?_
  have H := row_stay (row_new (sz := 2) (m := 1) rfl H)
  refine nwS_st H fun b3 w3 H => ?_
  have H := row_stay (row_new (sz := 2) (m := 2) rfl H)
  have k1 := (Know.here (m := RoP.mono) (φ := RoP T36 ⟨some ⟨b1, 0, none⟩, 2, 2⟩ [(⟨7, 798⟩ : S36), ⟨4103, 2⟩]) (l := l)).tail (A := ro T36 ⟨some ⟨b2, 0, none⟩, 1, 1⟩ [(⟨8, 200⟩ : S36)]) |>.tail (A := ro T38 ⟨some ⟨b3, 0, none⟩, 2, 2⟩ [(⟨9, ⟨some ⟨b1, 0, none⟩, 2, 2⟩⟩ : S38), ⟨9, ⟨some ⟨b2, 0, none⟩, 1, 1⟩⟩])
  have k2 := (Know.here (m := RoP.mono) (φ := RoP T36 ⟨some ⟨b2, 0, none⟩, 1, 1⟩ [(⟨8, 200⟩ : S36)]) (l := ro T36 ⟨some ⟨b1, 0, none⟩, 2, 2⟩ [(⟨7, 798⟩ : S36), ⟨4103, 2⟩] :: l)).tail (A := ro T38 ⟨some ⟨b3, 0, none⟩, 2, 2⟩ [(⟨9, ⟨some ⟨b1, 0, none⟩, 2, 2⟩⟩ : S38), ⟨9, ⟨some ⟨b2, 0, none⟩, 1, 1⟩⟩])
  have k3 := (Know.here (m := RoP.mono) (φ := RoP T38 ⟨some ⟨b3, 0, none⟩, 2, 2⟩ [(⟨9, ⟨some ⟨b1, 0, none⟩, 2, 2⟩⟩ : S38), ⟨9, ⟨some ⟨b2, 0, none⟩, 1, 1⟩⟩]) (l := ro T36 ⟨some ⟨b2, 0, none⟩, 1, 1⟩ [(⟨8, 200⟩ : S36)] :: ro T36 ⟨some ⟨b1, 0, none⟩, 2, 2⟩ [(⟨7, 798⟩ : S36), ⟨4103, 2⟩] :: l))
  generalize hrs : [((⟨9, ⟨some ⟨b1, 0, none⟩, 2, 2⟩⟩ : S38), [(⟨7, 798⟩ : S36), ⟨4103, 2⟩]), ((⟨9, ⟨some ⟨b2, 0, none⟩, 1, 1⟩⟩ : S38), [(⟨8, 200⟩ : S36)])] = rs
  have k : Know (ro T38 ⟨some ⟨b3, 0, none⟩, 2, 2⟩ [(⟨9, ⟨some ⟨b1, 0, none⟩, 2, 2⟩⟩ : S38), ⟨9, ⟨some ⟨b2, 0, none⟩, 1, 1⟩⟩] :: ro T36 ⟨some ⟨b2, 0, none⟩, 1, 1⟩ [(⟨8, 200⟩ : S36)] :: ro T36 ⟨some ⟨b1, 0, none⟩, 2, 2⟩ [(⟨7, 798⟩ : S36), ⟨4103, 2⟩] :: l) (RsP ⟨some ⟨b3, 0, none⟩, 2, 2⟩ rs) := by
    subst hrs
    intro I h hl
    refine ⟨k3 I h hl, fun p hp => ?_⟩
    rcases List.mem_cons.1 hp with rfl | hp
    · exact k1 I h hl
    · rw [List.mem_singleton.1 hp]; exact k2 I h hl
  have hc9 : checked 9 rs = (1000, 0) := by subst hrs; rfl
  have hc8 : checked 8 rs = (0, 180) := by subst hrs; rfl
  have hf : flat rs = [(⟨7, 798⟩ : S36), ⟨4103, 2⟩, ⟨8, 200⟩] := by subst hrs; rfl
  have hm : rs.length ≤ 100 := by subst hrs; simp
  have hm2 : ∀ p ∈ rs, p.2.length ≤ 100 := by subst hrs; simp
  refine cl_mono (check_spec (by omega) (fun p hp => Nat.le_trans (hm2 p hp) (by omega)) k H) ?_
  rintro q w4 ⟨rfl, H⟩
  rw [hc9]
  refine cl_mono (merge_spec hm hm2 k H) ?_
  rintro q2 w5 ⟨L, ⟨hL1, hL2⟩, H⟩
  rw [hc9] at hL1
  rw [if_pos hL1, hf] at hL2
  have eL : L = [(⟨7, 798⟩ : S36), ⟨8, 200⟩, ⟨4103, 2⟩] := by
    refine rise_eq hL2.1 (by unfold Rise; simp) fun x => ?_
    rw [hL2.2.1.mem_iff]; simp [or_comm, or_left_comm]
  subst eL
  have lL := row_len H
  refine cl_mono (check_spec (by omega) (fun p hp => Nat.le_trans (hm2 p hp) (by omega)) k.tail H) ?_
  rintro q3 w6 ⟨rfl, H⟩
  rw [hc8]
  refine nwS_st H fun b4 w7 H => ?_
  have H := row_stay (row_new (sz := 2) (m := 1) rfl H)
  refine nwS_st H fun b5 w8 H => ?_
  have H := row_stay (row_new (sz := 2) (m := 2) rfl H)
  refine cl_mono (diff_spec (a := [(⟨7, 1000⟩ : S36)]) (b := [(⟨7, 798⟩ : S36), ⟨8, 200⟩]) (by simp) (by simp) (by simp [I64]) (by simp [I64]) (Know.here (m := RoP.mono)).tail (Know.here (m := RoP.mono)) H) ?_
  rintro q4 w9 ⟨d, ⟨hd1, hd2⟩, H⟩
  have hw : dWhy [(⟨7, 1000⟩ : S36)] [(⟨7, 798⟩ : S36), ⟨8, 200⟩] = 0 := rfl
  rw [hw] at hd1
  rw [if_pos hd1] at hd2
  have ed : d = [(⟨7, -202⟩ : S36), ⟨8, 200⟩] := by
    refine canon_eq hd2.1 (by unfold Rise; simp) hd2.2.1 (by simp) fun k => ?_
    rw [hd2.2.2]
    simp only [val]
    repeat' split
    all_goals omega
  subst ed
  have ld := row_len H
  obtain ⟨a, ha⟩ := row_ix (sz := 2) (i := 1) (H.front 3) (by decide) (by decide)
  obtain ⟨p, hp⟩ := row_ix (sz := 2) (i := 0) H (by decide) (by decide)
  obtain ⟨p', hp'⟩ := row_ix (sz := 2) (i := 1) H (by decide) (by decide)
  refine ex_i a (fun _ => ha) ?_
  refine ex_i (8 : Int) (fun _ => fld_row (x := (⟨8, 200⟩ : S36)) (fun _ => rfl) ha rfl rfl (H.front 3)) ?_
  refine ex_i p (fun _ => hp) ?_
  refine ex_i (-202 : Int) (fun _ => fld_row (x := (⟨7, -202⟩ : S36)) (fun _ => rfl) hp rfl rfl H) ?_
  refine ex_i p' (fun _ => hp') ?_
  refine ex_i (200 : Int) (fun _ => fld_row (x := (⟨8, 200⟩ : S36)) (fun _ => rfl) hp' rfl rfl H) ?_
  rw [hL1, hd1, lL, ld]
  refine ⟨rfl, ?_⟩
  exact H.drop.drop.drop.drop.drop.drop.drop
end
end Go.Proofs.Ytleehieomicicaa.Audit
