/- Contracts of package audit: all reports; what they come to. -/
import Derived.Test.YtleehieomicicaaQF
namespace Go.Proofs.Ytleehieomicicaa.Audit
open Go Go.Proofs.Ytleehieomicicaa.Cf
set_option linter.unusedVariables false
set_option linter.unusedSimpArgs false
set_option maxRecDepth 100000
section
variable {W w : World} {l : List Assn}
/-- All entries, one behind the other. -/
def flat (rs : List (S38 × List S36)) : List S36 := rs.flatMap (·.2)
theorem all_spec {bm bs r : Nat} {es : List (Int × Int)} {sum : Int} {s : Slc} {rs : List (S38 × List S36)} (hg : good sum) (hm : rs.length ≤ 1000) (hm2 : ∀ p ∈ rs, p.2.length ≤ 1000)
    (H : St W (ledger bm bs r es sum ++ (rso s rs :: l)) w) :
    cl Try.prog 31 [tSlc.enc s, (taker bm bs).enc] (tInt .i64) w fun e w' => e = (goes es sum (flat rs)).2.2 ∧ St W (ledger bm bs r (goes es sum (flat rs)).1 (goes es sum (flat rs)).2.1 ++ (rso s rs :: l)) w' := by
  have hs := ro_len (rso_row (H.front 3))
  rw [List.length_map] at hs
  refine F31_ok ?_
  unfold F31
  refine lp_i (fun i w => 0 ≤ i ∧ i ≤ rs.length ∧ (goes es sum (flat (rs.take i.toNat))).2.2 = 0 ∧ St W (ledger bm bs r (goes es sum (flat (rs.take i.toNat))).1 (goes es sum (flat (rs.take i.toNat))).2.1 ++ (rso s rs :: l)) w) (fun i => (rs.length - i).toNat) ⟨Int.le_refl 0, by omega, rfl, H⟩ ?_
  rintro i w ⟨h0, h1, hz, H⟩
  unfold F31_l1
  split
  · rename_i hc
    have hc : i < rs.length := by simp at hc; omega
    have e1 : IntKind.i64.wrap (i + 1) = i + 1 := wrap_i64 (by omega) (by omega)
    have hx : rs[i.toNat]? = some rs[i.toNat] := List.getElem?_eq_getElem (by omega)
    have hmem := List.mem_of_getElem? hx
    have ht : flat (rs.take (i + 1).toNat) = flat (rs.take i.toNat) ++ rs[i.toNat].2 := by
      rw [show (i + 1).toNat = i.toNat + 1 from by omega, List.take_succ_eq_append_getElem (by omega)]
      unfold flat; rw [List.flatMap_append, List.flatMap_cons, List.flatMap_nil, List.append_nil]
    have hall : flat rs = flat (rs.take (i + 1).toNat) ++ flat (rs.drop (i + 1).toNat) := by
      unfold flat; rw [← List.flatMap_append, List.take_append_drop]
    generalize rs[i.toNat] = p at hx hmem ht
    have hxm : (rs.map (·.1))[i.toNat]? = some p.1 := by rw [List.getElem?_map, hx]; rfl
    have Hr := rso_row (H.front 3)
    obtain ⟨a, ha⟩ := ro_ix (sz := 2) (i := i) Hr h0 (by rw [List.length_map]; omega)
    refine ex_i a ha ?_
    refine ex_i p.1 (rd_ro (fun _ => rfl) ha hxm Hr) ?_
    refine nw_st H fun b w1 H => ?_
    refine st_st (x := p.1) 0 H rfl rfl (Nat.le_of_ble_eq_true rfl) fun w2 H => ?_
    refine ld_st (x := p.1.L) 0 H rfl rfl rfl ?_
    have H := (St.drop H)
    have H := rso_at hmem (H.front 3)
    have hg2 := good_goes (xs := flat (rs.take i.toNat)) (es := es) hg
    have hsum : goes es sum (flat (rs.take (i + 1).toNat)) = goes (goes es sum (flat (rs.take i.toNat))).1 (goes es sum (flat (rs.take i.toNat))).2.1 p.2 := by
      rw [ht, goes_append, if_pos hz]
    refine one_spec hg2 (Nat.le_trans (hm2 p hmem) (by omega)) (l := rso s rs :: l) (H.ord [2, 3, 4, 0, 1]) ?_ ?_
    · intro w3 hz2 H
      rw [← hsum] at hz2 H
      rw [e1]
      exact ⟨⟨by omega, by omega, hz2, H⟩, by omega⟩
    · intro w3 hz2 H
      rw [← hsum] at hz2 H ⊢
      have : goes es sum (flat rs) = goes es sum (flat (rs.take (i + 1).toNat)) := by rw [hall, goes_append, if_neg hz2]
      rw [this]
      exact ⟨rfl, H⟩
  · rename_i hc
    have hc : i = rs.length := by simp at hc; omega
    subst hc
    have e : rs.take ((rs.length : Int)).toNat = rs := by simp
    rw [e] at hz H
    exact ⟨hz.symm, H⟩
end
end Go.Proofs.Ytleehieomicicaa.Audit
