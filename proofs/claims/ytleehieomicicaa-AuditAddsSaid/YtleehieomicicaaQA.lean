/- Contracts of package audit: entries by rising keys, and what they may be. -/
import Derived.Test.YtleehieomicicaaIt
import Derived.Test.YtleehieomicicaaFs
namespace Go.Proofs.Ytleehieomicicaa.Audit
open Go Go.Proofs.Ytleehieomicicaa.Cf
set_option linter.unusedVariables false
set_option linter.unusedSimpArgs false
set_option maxRecDepth 100000
section
variable {W w : World} {l : List Assn}
def Ranged (es : List (Int × Int)) : Prop := ∀ p ∈ es, -9223372036854775808 ≤ p.1 ∧ p.1 ≤ 9223372036854775807
theorem sorted_spec {r : Nat} {es : List (Int × Int)} (hr : Ranged es) (hm : es.length ≤ 100000) (H : St W (mapE (tInt .i64) .i64 r es :: l) w) :
    cl Try.prog 22 [.map (some r)] tSlc w fun s w' => ∃ ks : List Int, ks.Perm (es.map (·.1)) ∧
      St W (row T36 37 2 s ((ks.mergeSort fun x y => decide (x ≤ y)).map fun k => (⟨k, (es.lookup k).getD 0⟩ : S36)) :: mapE (tInt .i64) .i64 r es :: l) w' := by
  refine F22_ok ?_
  unfold F22
  refine F35_ok ?_
  unfold F35
  refine nw_st H fun bm w1 H => ?_
  refine cl_mono (sorted_keys hr (by omega) H) ?_
  rintro s w2 ⟨ks, hp, H⟩
  have hs := row_len H
  have hl : ks.length = es.length := by have := hp.length_eq; simpa using this
  rw [List.length_mergeSort] at hs
  generalize hq : (ks.mergeSort fun x y => decide (x ≤ y)) = q at *
  have hql : q.length = ks.length := by rw [← hq, List.length_mergeSort]
  have H := row_nil T36 37 2 H
  refine lp_i (fun p w => 0 ≤ p.2 ∧ p.2 ≤ q.length ∧ St W (row T36 37 2 p.1 ((q.take p.2.toNat).map fun k => (⟨k, (es.lookup k).getD 0⟩ : S36)) :: row (tInt .i64) 3 1 s q :: cel bm [.map (some r)] 43 :: mapE (tInt .i64) .i64 r es :: l) w) (fun p => (q.length - p.2).toNat)
    ⟨Int.le_refl 0, by simp only; omega, H⟩ ?_
  rintro ⟨out, i⟩ w ⟨h0, h1, H⟩
  simp only at h0 h1
  simp only
  unfold F22_l1
  split
  · rename_i hc
    have hc : i < q.length := by simp at hc; omega
    have e1 : IntKind.i64.wrap (i + 1) = i + 1 := wrap_i64 (by omega) (by omega)
    have hx : q[i.toNat]? = some q[i.toNat] := List.getElem?_eq_getElem (by omega)
    obtain ⟨a, ha⟩ := row_ix (sz := 1) (i := i) (H.front 1) h0 hc
    refine ex_i a ha ?_
    refine ex_i q[i.toNat] (rd_row (fun _ => rfl) ha hx (H.front 1)) ?_
    refine mget_st 3 H rfl rfl ?_
    refine apl_row (fun _ => rfl) 0 H rfl (by simp only [List.length_map, List.length_take, List.length_singleton]; omega) fun r w3 H => ?_
    rw [e1]
    refine ⟨⟨by simp only; omega, by simp only; omega, ?_⟩, by simp only; omega⟩
    simp only
    rw [show (i + 1).toNat = i.toNat + 1 from by omega, List.take_succ_eq_append_getElem (by omega), List.map_append]
    exact H
  · rename_i hc
    have hc : i = q.length := by simp at hc; omega
    subst hc
    refine ⟨ks, hp, ?_⟩
    rw [hq]
    have e : q.take ((q.length : Int)).toNat = q := by simp
    rw [e] at H
    exact (H.ord [1, 2]).drop.drop
end
end Go.Proofs.Ytleehieomicicaa.Audit
