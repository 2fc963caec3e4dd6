/- Contracts of package audit: all entries of all reports taken. -/
import Derived.Test.YtleehieomicicaaQE
namespace Go.Proofs.Ytleehieomicicaa.Audit
open Go Go.Proofs.Ytleehieomicicaa.Cf
set_option linter.unusedVariables false
set_option linter.unusedSimpArgs false
set_option maxRecDepth 100000
section
variable {W w : World} {l : List Assn}
def good (sum : Int) : Prop := 0 ≤ sum ∧ sum ≤ 4611686018427387904
theorem good_step {es : List (Int × Int)} {sum : Int} {x : S36} (hg : good sum) (h : why es sum x = 0) : good (sum + x.V) := by
  obtain ⟨h0, h1⟩ := hg
  unfold why at h
  split at h
  · omega
  · split at h
    · omega
    · split at h
      · omega
      · split at h
        · omega
        · constructor <;> omega
theorem good_goes {xs : List S36} : ∀ {es : List (Int × Int)} {sum : Int}, good sum → good (goes es sum xs).2.1 := by
  induction xs with
  | nil => intro es sum h; exact h
  | cons x xs ih =>
    intro es sum h
    simp only [goes]
    split
    · rename_i hw; exact ih (good_step h hw)
    · exact h
abbrev taker (bm bs : Nat) : Fv := Fv.mk (.func 32) (List.toArray []) (List.toArray [.pointer (some ⟨bm, 0, none⟩), .pointer (some ⟨bs, 0, none⟩)])
theorem goes_take {es : List (Int × Int)} {sum : Int} {L : List S36} {i : Nat} {x : S36} (hx : L[i]? = some x) (h : (goes es sum (L.take i)).2.2 = 0) :
    goes es sum (L.take (i + 1)) = if why (goes es sum (L.take i)).1 (goes es sum (L.take i)).2.1 x = 0 then (ups x.Key x.V (goes es sum (L.take i)).1, (goes es sum (L.take i)).2.1 + x.V, 0) else ((goes es sum (L.take i)).1, (goes es sum (L.take i)).2.1, why (goes es sum (L.take i)).1 (goes es sum (L.take i)).2.1 x) := by
  obtain ⟨hi, rfl⟩ := List.getElem?_eq_some_iff.1 hx
  rw [List.take_succ_eq_append_getElem hi, goes_append, if_pos h]
  simp only [goes]
theorem goes_stop {es : List (Int × Int)} {sum : Int} {L : List S36} {i : Nat} (h : (goes es sum (L.take i)).2.2 ≠ 0) : goes es sum L = goes es sum (L.take i) := by
  conv => lhs; rw [← List.take_append_drop i L]
  rw [goes_append, if_neg h]
/-- One report's entries. -/
theorem one_spec {bm bs r : Nat} {es : List (Int × Int)} {sum : Int} {sl : Slc} {L : List S36} {t3 : Int} {K5 : Int → World → Prop} {R : Int → World → Prop} (hg : good sum) (hm : L.length ≤ 1000000)
    (H : St W (ledger bm bs r es sum ++ (ro T36 sl L :: l)) w)
    (hok : ∀ w', (goes es sum L).2.2 = 0 → St W (ledger bm bs r (goes es sum L).1 (goes es sum L).2.1 ++ l) w' → K5 (IntKind.i64.wrap (t3 + 1)) w')
    (hno : ∀ w', (goes es sum L).2.2 ≠ 0 → St W (ledger bm bs r (goes es sum L).1 (goes es sum L).2.1 ++ l) w' → R (goes es sum L).2.2 w') :
    lp (fun (s : Int) w K => F31_l2 (taker bm bs) t3 sl s w K5 K R) ((0 : Int)) w := by
  have hs := ro_len (H.front 3)
  refine lp_i (fun i w => 0 ≤ i ∧ i ≤ L.length ∧ (goes es sum (L.take i.toNat)).2.2 = 0 ∧ St W (ledger bm bs r (goes es sum (L.take i.toNat)).1 (goes es sum (L.take i.toNat)).2.1 ++ (ro T36 sl L :: l)) w) (fun i => (L.length - i).toNat) ⟨Int.le_refl 0, by omega, rfl, H⟩ ?_
  rintro i w ⟨h0, h1, hz, H⟩
  unfold F31_l2
  split
  · rename_i hc
    have hc : i < L.length := by simp at hc; omega
    have e1 : IntKind.i64.wrap (i + 1) = i + 1 := wrap_i64 (by omega) (by omega)
    have hx : L[i.toNat]? = some L[i.toNat] := List.getElem?_eq_getElem (by omega)
    obtain ⟨a, ha⟩ := ro_ix (sz := 2) (i := i) (H.front 3) h0 hc
    refine ex_i a ha ?_
    refine ex_i L[i.toNat] (rd_ro (fun _ => rfl) ha hx (H.front 3)) ?_
    generalize L[i.toNat] = x at hx
    refine nw_st H fun b w1 H => ?_
    refine st_st (x := x) 0 H rfl rfl (Nat.le_of_ble_eq_true rfl) fun w2 H => ?_
    refine ld_st (x := x) 0 H rfl rfl rfl ?_
    have H := (St.drop H)
    have hg2 := good_goes (xs := L.take i.toNat) (es := es) hg
    have hst := goes_take hx hz
    refine ⟨32, [.pointer (some ⟨bm, 0, none⟩), .pointer (some ⟨bs, 0, none⟩)], rfl, ent32, cl_mono (take_spec hg2.1 hg2.2 x H) ?_⟩
    rintro e w3 ⟨rfl, H⟩
    rw [show i.toNat + 1 = (i + 1).toNat from by omega] at hst
    split
    · rename_i hne
      have hne : why (goes es sum (L.take i.toNat)).1 (goes es sum (L.take i.toNat)).2.1 x ≠ 0 := by simpa using hne
      rw [if_neg hne] at hst
      rw [if_neg hne, if_neg hne] at H
      have hall := goes_stop (es := es) (sum := sum) (L := L) (i := (i + 1).toNat) (by rw [hst]; exact hne)
      rw [hst] at hall
      have := hno w3 (by rw [hall]; exact hne) (by rw [hall]; exact ((H.front 3).drop))
      rw [hall] at this
      exact this
    · rename_i hne
      have hne : why (goes es sum (L.take i.toNat)).1 (goes es sum (L.take i.toNat)).2.1 x = 0 := by simpa using hne
      rw [if_pos hne] at hst
      rw [if_pos hne, if_pos hne] at H
      rw [e1]
      exact ⟨⟨by omega, by omega, by rw [hst], by rw [hst]; exact H⟩, by omega⟩
  · rename_i hc
    have hc : i = L.length := by simp at hc; omega
    subst hc
    have e : L.take ((L.length : Int)).toNat = L := by simp
    rw [e] at hz H
    exact hok w hz ((H.front 3).drop)
end
end Go.Proofs.Ytleehieomicicaa.Audit
