/- Slices of slices among the arguments: none is longer than the form's own reach. -/
import Derived.Test.YtjkmeooncmhonaaSlE
import Derived.SizedLaws
namespace Go.Proofs.Ytjkmeooncmhonaa.Cf
set_option linter.unusedSimpArgs false
set_option linter.unusedVariables false
open Go Go.RowKit Go.ChangeShapes Go.WideShapes Go.Deep
section
variable {H : Type} {enc : TypeId × Value → H} {P : Program} {W : World} {base : Nat} {spare : Nat → Bool} {held : Bool} {α : Type}
theorem weights_all {e : TypeId} {d : DataW H} {n : Nat} : ∀ {l : List (DataW H)}, d ∈ l → n ∈ d.weights P e → n ∈ DataW.weightsAll P e l
  | [], h, _ => by simp at h
  | x :: l, h, hn => by
    simp only [DataW.weightsAll, List.mem_append]
    rcases List.mem_cons.1 h with rfl | h
    · exact .inl hn
    · exact .inr (weights_all h hn)
theorem nested_sized {t e u : TypeId} (ht : P.underlying t = some (.slice e)) (he : P.underlying e = some (.slice u)) (hu : 1 ≤ P.bytesOf u) (ce : P.cellsOf e = 1) {fuel : Nat} {x : DataW H × List MemPlace} {s : Slc}
    (h : DataW.trod enc P W base spare held fuel t (tSlc.cells s) = some x) (hw : ∀ n ∈ x.1.weights P t, n ≤ reachBytes) {qs : List Slc} (hro : RoP tSlc s qs fun b => W.heap[b]?) : ∀ q ∈ qs, q.len ≤ 140737488355328 := by
  intro q hq
  have hrb : reachBytes < 140737488355328 := reachBytes_lt
  obtain ⟨i, hi, rfl⟩ := List.getElem_of_mem hq
  rcases open_slice ht h with ⟨hc, rfl⟩ | ⟨a, len, cap, m, n, D, Pl, hc, hb, h1, h2, hm, rfl, hx⟩
  · obtain ⟨sa, sl, sc⟩ := s
    have hl := hro.1
    have e1 : Value.slice sa sl sc = .slice none 0 0 := by simpa using hc
    cases e1
    simp only at hl
    omega
  · obtain ⟨sa, sl, sc⟩ := s
    have e1 : Value.slice sa sl sc = .slice (some a) len cap := by simpa using hc
    cases e1
    obtain ⟨hl, hr⟩ := hro
    simp only at hl hr
    have hlm : len ≤ m := by rw [hm]; split <;> omega
    rcases hr with rfl | ⟨b, o, arr, t', fz, h3, h4, h5⟩
    · simp at hi
    · cases h3
      obtain ⟨cs', g1, g2⟩ := hx i (by omega)
      rw [ce] at g1
      obtain ⟨_, g3, g4⟩ := World.cells?_some g1
      have g5 := g4 0 (by omega)
      have hv : (qs.flatMap tSlc.cells)[i]? = some (tSlc.enc qs[i]) := by
        have : ∀ (l : List Slc) (j : Nat) (y : Slc), l[j]? = some y → (l.flatMap tSlc.cells)[j]? = some (tSlc.enc y) := by
          intro l
          induction l with
          | nil => intro j y h; simp at h
          | cons z l ih =>
            intro j y h
            cases j with
            | zero =>
              simp at h
              subst h
              rfl
            | succ j =>
              have := ih j y (by simpa using h)
              simpa using this
        exact this qs i _ (List.getElem?_eq_getElem hi)
      have h6 := h5 i _ hv
      have g6 : W.cell? (((⟨b, o, none⟩ : Addr).add (i * 1)).add 0) = some (tSlc.enc qs[i]) := by
        rw [add_at, add_at, Nat.mul_one, Nat.add_zero, cell_of_blk h4]
        exact h6
      rw [g6] at g5
      have hcs : cs' = [tSlc.enc qs[i]] := by
        match cs', g3, g5 with
        | [v], _, g5 => simp at g5; subst g5; rfl
      subst hcs
      have hD : D i ∈ (List.range len).map D := List.mem_map.2 ⟨i, by simp; omega, rfl⟩
      generalize qs[i] = q at *
      obtain ⟨qa, ql, qc⟩ := q
      rcases open_slice he g2 with ⟨k1, _⟩ | ⟨a2, len2, cap2, m2, n2, D2, Pl2, k1, _, _, _, _, k2, _⟩
      · have e2 : Value.slice qa ql qc = .slice none 0 0 := by simpa using k1
        cases e2
        simp
      · have e2 : Value.slice qa ql qc = .slice (some a2) len2 cap2 := by simpa using k1
        cases e2
        have k3 := congrArg Prod.fst k2
        simp only at k3
        have hwt : (((List.range ql).map D2).length + ((List.range (m2 - ql)).map fun j => D2 (ql + j)).length) * P.bytesOf u ∈ (D i).weights P e := by
          rw [k3]
          simp [DataW.weights, he]
        have := hw _ (by
          simp only [DataW.weights, ht]
          exact List.mem_cons_of_mem _ (List.mem_append_left _ (weights_all hD hwt)))
        simp only [List.length_map, List.length_range] at this
        have h7 : (ql + (m2 - ql)) * 1 ≤ (ql + (m2 - ql)) * P.bytesOf u := Nat.mul_le_mul_left _ hu
        simp only
        omega
end
end Go.Proofs.Ytjkmeooncmhonaa.Cf
