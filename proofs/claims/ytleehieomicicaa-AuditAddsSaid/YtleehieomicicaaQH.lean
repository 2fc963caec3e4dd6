/- Contracts of package audit: what reports come to at a time. -/
import Derived.Test.YtleehieomicicaaQG
namespace Go.Proofs.Ytleehieomicicaa.Audit
open Go Go.Proofs.Ytleehieomicicaa.Cf
set_option linter.unusedVariables false
set_option linter.unusedSimpArgs false
set_option maxRecDepth 100000
section
variable {W w : World} {l : List Assn}
/-- Is a report of another time among them? -/
theorem other_spec {b : Nat} {at_ : Int} {s : Slc} {rs : List (S38 × List S36)} (hm : rs.length ≤ 1000) (H : St W (cel b [.int .i64 at_] 2 :: rso s rs :: l) w) :
    cl Try.prog 29 [tSlc.enc s, (Fv.mk (.func 30) (List.toArray []) (List.toArray [.pointer (some ⟨b, 0, none⟩)])).enc] tBool w fun q w' => q = rs.any (fun p => p.1.At != at_) ∧ St W (cel b [.int .i64 at_] 2 :: rso s rs :: l) w' := by
  have hs := ro_len (rso_row (H.front 1))
  rw [List.length_map] at hs
  refine F29_ok ?_
  unfold F29
  refine F38_ok ?_
  unfold F38
  refine lp_i (fun i w => 0 ≤ i ∧ i ≤ rs.length ∧ (∀ p ∈ rs.take i.toNat, p.1.At = at_) ∧ St W (cel b [.int .i64 at_] 2 :: rso s rs :: l) w) (fun i => (rs.length - i).toNat) ⟨Int.le_refl 0, by omega, by simp, H⟩ ?_
  rintro i w ⟨h0, h1, h2, H⟩
  unfold F38_l1
  split
  · rename_i hc
    have hc : i < rs.length := by simp at hc; omega
    have e1 : IntKind.i64.wrap (i + 1) = i + 1 := wrap_i64 (by omega) (by omega)
    have hx : rs[i.toNat]? = some rs[i.toNat] := List.getElem?_eq_getElem (by omega)
    have hmem := List.mem_of_getElem? hx
    have hxm : (rs.map (·.1))[i.toNat]? = some rs[i.toNat].1 := by rw [List.getElem?_map, hx]; rfl
    have Hr := rso_row (H.front 1)
    obtain ⟨a, ha⟩ := ro_ix (sz := 2) (i := i) Hr h0 (by rw [List.length_map]; omega)
    refine ex_i a ha ?_
    refine ex_i rs[i.toNat].1 (rd_ro (fun _ => rfl) ha hxm Hr) ?_
    refine ⟨30, [.pointer (some ⟨b, 0, none⟩)], rfl, ent30, F30_ok ?_⟩
    unfold F30
    refine nw_st H fun b1 w1 H => ?_
    refine ld_st (x := rs[i.toNat].1.At) 0 H rfl rfl rfl ?_
    refine ld_st (x := at_) 1 H rfl rfl rfl ?_
    have H := St.drop H
    show if (rs[i.toNat].1.At != at_) = true then _ else _
    split
    · rename_i hw
      refine ⟨?_, H⟩
      have : rs.any (fun p => p.1.At != at_) = true := List.any_eq_true.2 ⟨_, hmem, hw⟩
      rw [this]; simp [h0]
    · rename_i hw
      rw [e1]
      refine ⟨⟨by omega, by omega, ?_, H⟩, by omega⟩
      intro p hp
      rw [show (i + 1).toNat = i.toNat + 1 from by omega, List.take_succ_eq_append_getElem (by omega), List.mem_append] at hp
      rcases hp with hp | hp
      · exact h2 p hp
      · rw [List.mem_singleton.1 hp]; simpa using hw
  · rename_i hc
    have hc : i = rs.length := by simp at hc; omega
    subst hc
    refine ⟨?_, H⟩
    have : rs.any (fun p => p.1.At != at_) = false := by
      rw [List.any_eq_false]
      intro p hp
      simp [h2 p (by simpa using hp)]
    rw [this]; rfl
/-- What collecting comes to: the map's entries, the sum, the error. -/
def gathered (at_ : Int) (rs : List (S38 × List S36)) : Option (List (Int × Int)) × Int × Int :=
  if (decide (at_ < 0) || decide (at_ > 1125899906842624) || rs.any fun p => p.1.At != at_) = true then (none, 0, 180)
  else (some (goes [] 0 (flat rs)).1, (goes [] 0 (flat rs)).2.1, (goes [] 0 (flat rs)).2.2)
theorem collect_spec {at_ : Int} {s : Slc} {rs : List (S38 × List S36)} (hm : rs.length ≤ 1000) (hm2 : ∀ p ∈ rs, p.2.length ≤ 1000) (H : St W (rso s rs :: l) w) :
    cl Try.prog 20 [.int .i64 at_, tSlc.enc s] (tTup3 tMap (tInt .i64) (tInt .i64)) w fun q w' => q.2 = (gathered at_ rs).2 ∧
      match (gathered at_ rs).1 with
      | none => q.1 = none ∧ St W (rso s rs :: l) w'
      | some es => ∃ r, q.1 = some r ∧ St W (mapE (tInt .i64) .i64 r es :: rso s rs :: l) w' := by
  refine F20_ok ?_
  unfold F20
  refine nw_st H fun b w1 H => ?_
  refine ld_st (x := at_) 0 H rfl rfl rfl ?_
  refine ex_i at_ (fun _ => rdat_cel (tInt .i64) H rfl rfl) ?_
  have tail : ∀ (q : Bool) (w1 : World), q = (decide (at_ < 0) || decide (at_ > 1125899906842624) || rs.any fun p => p.1.At != at_) → St W (cel b [.int .i64 at_] 2 :: rso s rs :: l) w1 →
      F20_j1 s q w1 fun q w' => q.2 = (gathered at_ rs).2 ∧
      match (gathered at_ rs).1 with
      | none => q.1 = none ∧ St W (rso s rs :: l) w'
      | some es => ∃ r, q.1 = some r ∧ St W (mapE (tInt .i64) .i64 r es :: rso s rs :: l) w' := by
    intro q w1 hq H
    unfold F20_j1
    cases hb : q with
    | true =>
      have e : gathered at_ rs = (none, 0, 180) := by unfold gathered; rw [if_pos (by rw [← hq, hb])]
      rw [if_pos rfl, e]
      exact ⟨rfl, rfl, H.drop⟩
    | false =>
      have e : gathered at_ rs = (some (goes [] 0 (flat rs)).1, (goes [] 0 (flat rs)).2.1, (goes [] 0 (flat rs)).2.2) := by unfold gathered; rw [if_neg (by rw [← hq, hb]; decide)]
      rw [if_neg (by decide), e]
      refine nwMap_st H fun r w2 H => ?_
      refine nw_st H fun bm w3 H => ?_
      refine nw_st H fun bs w4 H => ?_
      refine st_st (x := some r) 1 H rfl rfl (Nat.le_of_ble_eq_true rfl) fun w5 H => ?_
      refine st_st (x := (0 : Int)) 1 H rfl rfl (Nat.le_of_ble_eq_true rfl) fun w6 H => ?_
      have H := mapE_new (tInt .i64) .i64 (H.front 2)
      have H : St W (ledger bm bs r [] 0 ++ (rso s rs :: cel b [.int .i64 at_] 2 :: l)) w6 := (H.ord [2, 1, 0, 4])
      refine cl_mono (all_spec (es := []) (sum := 0) ⟨by omega, by omega⟩ hm hm2 H) ?_
      rintro q2 w7 ⟨rfl, H⟩
      refine dr_st H fun w8 H => ?_
      refine ld_st (x := some r) 0 H rfl rfl rfl ?_
      refine ld_st (x := (goes [] 0 (flat rs)).2.1) 1 H rfl rfl rfl ?_
      exact ⟨rfl, r, rfl, (H.ord [2, 3]).ord [2, 3, 4, 0, 1] |> fun H => ((H.drop).drop).drop⟩
  split
  · rename_i hc
    refine tail true _ ?_ H
    simp at hc; rcases hc with h | h <;> simp [h]
  · rename_i hc
    refine cl_mono (other_spec hm H) ?_
    rintro q w2 ⟨rfl, H⟩
    refine tail _ _ ?_ H
    rw [show (decide (at_ < 0) || decide (at_ > 1125899906842624)) = false from by simpa using hc]; rfl
end
end Go.Proofs.Ytleehieomicicaa.Audit
