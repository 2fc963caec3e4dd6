/- What acceptors grow by, plainly: votes by slots. -/
import Derived.Test.YtjkmeooncmhonaaBE
namespace Go.Proofs.Ytjkmeooncmhonaa.Ballot
open Go Go.Proofs.Ytjkmeooncmhonaa.Cf Go.Proofs.Ytjkmeooncmhonaa.Wire Go.Proofs.Ytjkmeooncmhonaa.Disk
set_option linter.unusedVariables false
set_option linter.unusedSimpArgs false
set_option maxRecDepth 100000
/-! ### plain -/
abbrev Sorted (xs : List Vote) : Prop := xs.Pairwise fun x y => x.Slot < y.Slot
def SubV (xs ys : List Vote) (k j : Nat) : Prop := ∀ x ∈ xs.drop k, ∃ y ∈ ys.drop j, y.Slot = x.Slot
theorem drop_cons {α : Type} {xs : List α} {k : Nat} {x : α} (h : xs[k]? = some x) : xs.drop k = x :: xs.drop (k + 1) := by
  have hk := (List.getElem?_eq_some_iff.1 h)
  obtain ⟨h1, h2⟩ := hk
  rw [List.drop_eq_getElem_cons h1, h2]
theorem sub_both {xs ys : List Vote} {k j : Nat} {x y : Vote} (sx : Sorted xs) (h : SubV xs ys k j) (hx : xs[k]? = some x) (hy : ys[j]? = some y) (e : x.Slot = y.Slot) : SubV xs ys (k + 1) (j + 1) := by
  intro z hz
  have s1 : Sorted (xs.drop k) := List.Pairwise.drop sx
  unfold SubV at h
  rw [drop_cons hx] at h s1
  rw [drop_cons hy] at h
  obtain ⟨u, hu, he⟩ := h z (by simp [hz])
  have := (List.pairwise_cons.1 s1).1 z hz
  rcases List.mem_cons.1 hu with rfl | hu
  · omega
  · exact ⟨u, hu, he⟩
theorem sub_one {xs ys : List Vote} {k j : Nat} {y : Vote} (sx : Sorted xs) (sy : Sorted ys) (h : SubV xs ys k j) (hy : ys[j]? = some y) (e : ∀ x, xs[k]? = some x → x.Slot ≠ y.Slot) : SubV xs ys k (j + 1) := by
  intro z hz
  have s1 : Sorted (xs.drop k) := List.Pairwise.drop sx
  have s2 : Sorted (ys.drop j) := List.Pairwise.drop sy
  unfold SubV at h
  rw [drop_cons hy] at h s2
  obtain ⟨u, hu, he⟩ := h z hz
  rcases List.mem_cons.1 hu with rfl | hu
  · exfalso
    cases hx : xs[k]? with
    | none =>
      rw [List.drop_eq_nil_of_le (List.getElem?_eq_none_iff.1 hx)] at hz
      simp at hz
    | some x =>
      have hne := e x hx
      rw [drop_cons hx] at h s1 hz
      rcases List.mem_cons.1 hz with rfl | hz
      · exact hne he.symm
      · have h1 := (List.pairwise_cons.1 s1).1 z hz
        obtain ⟨v, hv, hve⟩ := h x (by simp)
        rcases List.mem_cons.1 hv with rfl | hv
        · exact hne hve.symm
        · have h2 := (List.pairwise_cons.1 s2).1 v hv
          omega
  · exact ⟨u, hu, he⟩
theorem sub_end {xs ys : List Vote} {k : Nat} (hk : k ≤ xs.length) (h : SubV xs ys k ys.length) : k = xs.length := by
  by_cases c : k < xs.length
  · have hx : xs[k]? = some xs[k] := List.getElem?_eq_getElem c
    unfold SubV at h
    rw [drop_cons hx, List.drop_length] at h
    obtain ⟨y, hy, _⟩ := h xs[k] List.mem_cons_self
    simp at hy
  · omega
theorem lee_sub {s t : Int × Es} (g : Good s) (g' : Good t) (h : Lee s t) : SubV (listV s.2) (listV t.2) 0 0 := by
  intro x hx
  have hx := (listV_mem g).1 (by simpa using hx)
  obtain ⟨y, hy, _⟩ := h.v _ _ hx
  have he := (g'.ok _ (lookup_mem hy)).1
  simp only at he
  refine ⟨y, ?_, he⟩
  rw [List.drop_zero]
  exact (listV_mem g').2 (by rw [he]; exact hy)
theorem lee_at {s t : Int × Es} (g : Good s) (g' : Good t) (h : Lee s t) {x y : Vote} (hx : x ∈ listV s.2) (hy : y ∈ listV t.2) (e : x.Slot = y.Slot) : x.B < y.B ∨ x = y := by
  have hx := (listV_mem g).1 hx
  have hy := (listV_mem g').1 hy
  obtain ⟨z, hz, h1⟩ := h.v _ _ hx
  rw [e, hy] at hz
  cases hz
  exact h1
theorem prepR_zero {rs : List Rec} {b : Int} : (prepR rs b).2 = 0 ↔ (1 ≤ b ∧ b ≤ 1099511627776 ∧ (fold rs).1 ≤ b) := by
  have hn := numB_iff (b := b)
  unfold prepR whyR
  cases h : numB b with
  | false =>
    simp only [if_true]
    rw [h] at hn
    constructor
    · intro h; simp at h
    · rintro ⟨h1, h2, h3⟩
      have := hn.2 ⟨h1, h2⟩
      simp at this
  | true =>
    have h2 := hn.1 h
    simp only [Bool.true_eq_false, if_false]
    by_cases c : b < (fold rs).1
    · simp [c] <;> omega
    · simp [c]
      split <;> simp <;> omega
theorem prepR_prom {rs : List Rec} {b : Int} (h : (prepR rs b).2 = 0) : (fold (prepR rs b).1).1 = b := by
  have h1 := prepR_zero.1 h
  have hw : whyR rs b = 0 := by
    unfold whyR
    rw [numB_iff.2 ⟨h1.1, h1.2.1⟩, if_neg (by simp), if_neg (by omega)]
  unfold prepR
  rw [if_neg (by simp [hw])]
  by_cases c : (fold rs).1 < b
  · rw [if_pos c, fold_app]
    simp only [stepR]; omega
  · rw [if_neg c]
    simp only; omega
theorem prepR_same {rs : List Rec} {b : Int} : (fold (prepR rs b).1).2 = (fold rs).2 := by
  unfold prepR
  split
  · rfl
  · split
    · rw [fold_app]; rfl
    · rfl
theorem accR_prom {rs : List Rec} {b n : Int} {v : List UInt8} (hl : Legal (0, []) rs) (h : (accR rs b n v).2 = 0) : (fold rs).1 ≤ b ∧ (fold (accR rs b n v).1).1 = b := by
  have h0 : whyR rs b = 0 := by
    unfold accR at h
    by_cases c : whyR rs b = 231
    · rw [if_pos c] at h; simp at h
    · rw [if_neg c] at h
      split at h
      · simp at h
      · split at h
        · simp at h
        · by_cases c : whyR rs b ≠ 0
          · rw [if_pos c] at h; exact h
          · omega
  have hp : (fold rs).1 ≤ b := by
    unfold whyR at h0
    split at h0
    · simp at h0
    · split at h0
      · simp at h0
      · omega
  refine ⟨hp, ?_⟩
  have g := good_fold hl
  unfold accR at h ⊢
  rw [if_neg (by omega)] at h ⊢
  split at h
  · simp at h
  · rename_i c1
    rw [if_neg c1]
    split at h
    · simp at h
    · rename_i c2
      rw [if_neg c2, if_neg (by omega)]
      rw [if_neg (by omega)] at h
      cases hlk : (fold rs).2.lookup n with
      | none =>
        simp only
        rw [fold_app]
        simp only [stepR]; omega
      | some o =>
        rw [hlk] at h
        simp only at h ⊢
        by_cases cB : o.B = b
        · rw [if_pos cB] at h ⊢
          have := (g.ok _ (lookup_mem hlk)).2.2.2.2.1
          simp only at this
          split <;> simp only <;> omega
        · rw [if_neg cB, fold_app]
          simp only [stepR]; omega
end Go.Proofs.Ytjkmeooncmhonaa.Ballot
