/- What calls of the kit's shelf leave behind, in our words. -/
import Derived.Test.YtpdaapffkdejoaaGreatSlE
import Derived.Laws.AppendOwn
namespace Go.Proofs.YtpdaapffkdejoaaGreat.Cf
set_option linter.unusedSimpArgs false
set_option linter.unusedVariables false
open Go Go.RowKit
section
variable {W w w' : World} {l : List Assn}
/-- A call that turned nothing old keeps all that we know. -/
theorem St.grown (H : St W l w) (hb : Below w.heap.size w w') : St W l w' := by
  obtain ⟨I, h, a, c1, c2, hl⟩ := H.mem
  have old : ∀ b o, w.heap[b]? = some o → w'.heap[b]? = some o := fun b o e => by
    rw [hb.block b (Array.getElem?_eq_some_iff.1 e).1]; exact e
  exact ⟨hb.os.trans H.os, hb.tape.trans H.tape, hb.output.trans H.output, Nat.le_trans H.size hb.size, I, h, a, fun b o e => old b o (c1 b o e), fun b o e => old b o (c2 b o e), hl⟩
/-- .. and what it made is ours. -/
theorem St.made {g : Nat} {o : Obj} (H : St W l w) (hb : Below w.heap.size w w') (hg : w.heap.size ≤ g) (ho : w'.heap[g]? = some o) : St W (blk g o :: l) w' := by
  have H' := H.grown hb
  obtain ⟨I, h, a, c1, c2, hl⟩ := H.mem
  have hI : I g = none := by
    cases e : I g with
    | none => rfl
    | some u => have := (Array.getElem?_eq_some_iff.1 (c1 _ _ e)).1; omega
  have hh : h g = none := by
    cases e : h g with
    | none => rfl
    | some u => have := (Array.getElem?_eq_some_iff.1 (c2 _ _ e)).1; omega
  have old : ∀ b o, w.heap[b]? = some o → w'.heap[b]? = some o := fun b o e => by
    rw [hb.block b (Array.getElem?_eq_some_iff.1 e).1]; exact e
  refine ⟨H'.os, H'.tape, H'.output, H'.size, I, fun x => if x = g then some o else h x, ?_, fun b o e => old b o (c1 b o e), ?_, fun x => if x = g then some o else none, h, ?_, ?_, ?_, ?_, hl⟩
  · intro x
    by_cases e : x = g
    · subst e; exact .inl hI
    · simp only [e, if_false]; exact a x
  · intro x v hv
    by_cases e : x = g
    · subst e; simp at hv; subst hv; exact ho
    · simp only [e, if_false] at hv; exact old _ _ (c2 x v hv)
  · intro x
    by_cases e : x = g
    · right; rw [e]; exact hh
    · left; simp [e]
  · intro x v hv
    by_cases e : x = g <;> simp [e] at hv ⊢; exact hv
  · intro x v hv
    have : x ≠ g := by intro e; rw [e, hh] at hv; cases hv
    simp [this, hv]
  · show (fun x => if x = g then some o else none) g = some o
    simp
/-- A row that the shelf made. -/
theorem St.ownsRow {α : Type} {T : Ty α} {e : TypeId} {sz n : Nat} {v : Value} {xs : List α} (hl : ∀ x, (T.cells x).length = sz) (hn : n = xs.length) (H : St W l w) (hb : Below w.heap.size w w')
    (ho : w'.ownsRow w.heap.size e sz v n (xs.flatMap T.cells)) : ∃ s : Slc, v = tSlc.enc s ∧ St W (row T e sz s xs :: l) w' := by
  obtain ⟨hlen, ⟨rfl, h0⟩ | ⟨g, cap, cur, rfl, hg, hh, h1, h2, h3, h4⟩⟩ := ho
  · have : xs = [] := List.eq_nil_of_length_eq_zero (by omega)
    subst this
    exact ⟨nilS, rfl, row_nil T e sz (H.grown hb)⟩
  · refine ⟨⟨some ⟨g, 0, none⟩, n, cap⟩, rfl, ?_⟩
    refine row_shut (rest := cur.toList.drop (n * sz)) rfl hn h1 ?_ ?_
    · simp only [List.length_drop, Array.length_toList, h3, Nat.sub_mul]
      exact Nat.le_refl _
    · have := H.made hb hg hh
      have e1 : xs.flatMap T.cells ++ cur.toList.drop (n * sz) = cur.toList := by rw [← h4, List.take_append_drop]
      rw [e1]
      simpa [cel] using this
end
end Go.Proofs.YtpdaapffkdejoaaGreat.Cf
