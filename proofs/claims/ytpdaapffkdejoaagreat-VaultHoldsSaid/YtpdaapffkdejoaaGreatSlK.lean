/- A field of an element of an owned slice is written. -/
import Derived.Test.YtpdaapffkdejoaaGreatSlJ
namespace Go.Proofs.YtpdaapffkdejoaaGreat.Cf
set_option linter.unusedSimpArgs false
set_option linter.unusedVariables false
open Go Go.RowKit
section
variable {W w w' : World} {l l' : List Assn} {α β : Type} {T : Ty α} {U : Ty β} {t : TypeId}
theorem splice_mid {A c D z : List Value} {o : Nat} (h : o + z.length ≤ c.length) : splice (A ++ (c ++ D)) (A.length + o) z = A ++ (splice c o z ++ D) := by
  unfold splice
  rw [List.take_length_add_append, Nat.add_assoc, List.drop_length_add_append, List.take_append_of_le_length (by omega), List.drop_append_of_le_length (by omega)]
  simp
theorem stf_row {sz o : Nat} {s : Slc} {xs : List α} {i : Int} {a : Addr} {x y : α} {z : β} {K : World → Prop} (hl : ∀ x, (T.cells x).length = sz) (ha : IxA s sz i a) (hx : xs[i.toNat]? = some x) (hy : splice (T.cells x) o (U.cells z) = T.cells y) (ho : o + (U.cells z).length ≤ sz)
    (H : St W (row T t sz s xs :: l) w) (hk : ∀ w', St W (row T t sz s (xs.set i.toNat y) :: l) w' → K w') : st U (a.add o) z w K := by
  obtain ⟨c, hc, h0, h1, rfl⟩ := ha
  rcases row_open H with ⟨rfl, rfl, H⟩ | ⟨b, rest, h2, h3, h4, h5, H⟩
  · cases hc
  · rw [h2] at hc; injection hc with hc; subst hc
    have hi : i.toNat < xs.length := by omega
    obtain ⟨_, rfl⟩ := List.getElem?_eq_some_iff.1 hx
    have htl : ((xs.take i.toNat).flatMap T.cells).length = i.toNat * sz := by rw [flat_len hl, List.length_take]; congr 1; omega
    have hd : xs.drop i.toNat = xs[i.toNat] :: xs.drop (i.toNat + 1) := List.drop_eq_getElem_cons hi
    have hxs : xs.flatMap T.cells ++ rest = (xs.take i.toNat).flatMap T.cells ++ (T.cells xs[i.toNat] ++ ((xs.drop (i.toNat + 1)).flatMap T.cells ++ rest)) := by
      have : xs.flatMap T.cells = (xs.take i.toNat).flatMap T.cells ++ (xs.drop i.toNat).flatMap T.cells := by rw [← List.flatMap_append, List.take_append_drop]
      rw [this, hd, List.flatMap_cons]; simp only [List.append_assoc]
    have hys : (xs.set i.toNat y).flatMap T.cells ++ rest = (xs.take i.toNat).flatMap T.cells ++ (T.cells y ++ ((xs.drop (i.toNat + 1)).flatMap T.cells ++ rest)) := by
      have : xs.set i.toNat y = xs.take i.toNat ++ y :: xs.drop (i.toNat + 1) := by rw [List.set_eq_take_append_cons_drop, if_pos hi]
      rw [this, List.flatMap_append, List.flatMap_cons]; simp only [List.append_assoc]
    rw [add_at, add_at]
    rw [hxs] at H
    have hcl := hl xs[i.toNat]
    have hle : 0 + i.toNat * sz + o + (U.cells z).length ≤ ((xs.take i.toNat).flatMap T.cells ++ (T.cells xs[i.toNat] ++ ((xs.drop (i.toNat + 1)).flatMap T.cells ++ rest))).length := by
      simp only [List.length_append, htl, hcl]; omega
    refine ⟨wr_cel H hle, hk _ ?_⟩
    have h6 := putc_cel (U.cells z) (0 + i.toNat * sz + o) 0 _ _ H (by simpa using hle)
    refine row_shut h2 (by simpa using h3) h4 h5 ?_
    rw [hys, ← hy]
    have e := splice_mid (A := (xs.take i.toNat).flatMap T.cells) (c := T.cells xs[i.toNat]) (D := (xs.drop (i.toNat + 1)).flatMap T.cells ++ rest) (z := U.cells z) (o := o) (by omega)
    rw [htl] at e
    rw [show 0 + i.toNat * sz + o + 0 = i.toNat * sz + o from by omega, e] at h6
    exact h6
end
end Go.Proofs.YtpdaapffkdejoaaGreat.Cf
