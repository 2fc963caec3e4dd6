/- What is written is read again, and the other way round. -/
import Derived.Test.YtjkmeooncmhonaaXF
namespace Go.Proofs.Ytjkmeooncmhonaa.Wire
open Go Go.Proofs.Ytjkmeooncmhonaa.Cf
set_option linter.unusedVariables false
set_option linter.unusedSimpArgs false
set_option maxRecDepth 100000
structure Fine (vs : List Val) : Prop where
  dom : ∀ v ∈ vs, In v
  ok : ∀ v ∈ vs, okV v = 0
theorem Fine.tail {v : Val} {vs : List Val} (h : Fine (v :: vs)) : Fine vs := ⟨fun x hx => h.dom x (by simp [hx]), fun x hx => h.ok x (by simp [hx])⟩
theorem Fine.app {l m : List Val} (h : Fine l) (k : Fine m) : Fine (l ++ m) := ⟨fun x hx => (List.mem_append.1 hx).elim (h.dom x) (k.dom x), fun x hx => (List.mem_append.1 hx).elim (h.ok x) (k.ok x)⟩
theorem Fine.left {l m : List Val} (h : Fine (l ++ m)) : Fine l := ⟨fun x hx => h.dom x (by simp [hx]), fun x hx => h.ok x (by simp [hx])⟩
theorem Fine.right {l m : List Val} (h : Fine (l ++ m)) : Fine m := ⟨fun x hx => h.dom x (by simp [hx]), fun x hx => h.ok x (by simp [hx])⟩
theorem unpF_step {f a : Nat} {bs r : List UInt8} {l : List Val} {v : Val} (h : dec1 bs = .ok (v, r)) (hl : l.length ≠ 1000) : unpF (f + 1) bs l a = unpF f r (l ++ [v]) (a + (bs.length - r.length)) := by
  cases bs with
  | nil => simp [dec1] at h
  | cons c bs =>
    simp only [unpF, h]
    rw [if_neg hl]
    rfl
theorem unpF_encs : ∀ {vs : List Val} {f a : Nat} {rest : List UInt8} {l : List Val}, Fine vs → l.length + vs.length ≤ 1000 → unpF (f + vs.length) (encs vs ++ rest) l a = unpF f rest (l ++ vs.map canon) (a + (encs vs).length)
  | [], f, a, rest, l, _, _ => by simp [encs]
  | v :: vs, f, a, rest, l, h, hl => by
    have hv := h.ok v (by simp)
    have hi := h.dom v (by simp)
    simp only [List.length_cons] at hl
    have e : encs (v :: vs) ++ rest = enc1 v ++ (encs vs ++ rest) := by simp [encs]
    have hd : dec1 (encs (v :: vs) ++ rest) = .ok (canon v, encs vs ++ rest) := by rw [e]; exact dec1_enc1 hi hv _
    rw [show f + (v :: vs).length = (f + vs.length) + 1 from by simp; omega, unpF_step hd (by omega), unpF_encs h.tail (by simp; omega)]
    have e2 : (encs (v :: vs) ++ rest).length - (encs vs ++ rest).length = (enc1 v).length := by rw [e]; simp only [List.length_append]; omega
    have e3 : (encs (v :: vs)).length = (enc1 v).length + (encs vs).length := by simp [encs]
    rw [e2, e3, Nat.add_assoc]
    simp
theorem encs_ge : ∀ vs : List Val, vs.length ≤ (encs vs).length
  | [] => by simp
  | v :: vs => by
    have := encs_ge vs
    simp only [encs, List.flatMap_cons, List.length_append, List.length_cons] at *
    have : 1 ≤ (enc1 v).length := by simp [enc1]
    omega
theorem unp_encs_rest {vs : List Val} {rest : List UInt8} (h : Fine vs) (hl : vs.length ≤ 1000) : ∃ f, rest.length < f ∧ unp (encs vs ++ rest) = unpF f rest (vs.map canon) (encs vs).length := by
  refine ⟨(encs vs ++ rest).length + 1 - vs.length, ?_, ?_⟩
  · have := encs_ge vs
    rw [List.length_append]; omega
  · have := encs_ge vs
    have e : (encs vs ++ rest).length + 1 = ((encs vs ++ rest).length + 1 - vs.length) + vs.length := by rw [List.length_append]; omega
    unfold unp
    rw [e, unpF_encs h (by simp; omega)]
    simp
theorem unp_encs {vs : List Val} (h : Fine vs) (hl : vs.length ≤ 1000) : unp (encs vs) = (vs.map canon, 0, 0) := by
  obtain ⟨f, hf, he⟩ := unp_encs_rest (rest := []) h hl
  rw [List.append_nil] at he
  rw [he]
  obtain ⟨g, rfl⟩ : ∃ g, f = g + 1 := ⟨f - 1, by omega⟩
  rfl
theorem rdNum_err : ∀ {bs : List UInt8} {k acc : Nat} {e : Int}, rdNum bs k acc = .error e → e ≠ 0
  | [], k, acc, e, h => by simp [rdNum] at h; omega
  | c :: bs, k, acc, e, h => by
    simp only [rdNum] at h
    split at h
    · simp at h; omega
    · split at h
      · cases h
      · exact rdNum_err h
theorem rdBe_err : ∀ {i acc : Nat} {bs : List UInt8} {e : Int}, rdBe i acc bs = .error e → e ≠ 0
  | 0, _, _, _, h => by simp [rdBe] at h
  | i + 1, acc, [], e, h => by simp [rdBe] at h; omega
  | i + 1, acc, c :: bs, e, h => rdBe_err (by simpa only [rdBe] using h)
theorem dec1_err {bs : List UInt8} {e : Int} (h : dec1 bs = .error e) : e ≠ 0 := by
  cases bs with
  | nil => simp [dec1] at h; omega
  | cons c bs =>
    simp only [dec1] at h
    split at h
    · split at h
      · rename_i h1; injection h with h; subst h; exact rdNum_err h1
      · cases h
    · split at h
      · split at h
        · rename_i h1; injection h with h; subst h; exact rdNum_err h1
        · cases h
      · split at h
        · split at h
          · rename_i h1; injection h with h; subst h; exact rdBe_err h1
          · split at h
            · simp at h; omega
            · cases h
        · split at h
          · split at h
            · rename_i h1; injection h with h; subst h; exact rdNum_err h1
            · split at h
              · simp at h; omega
              · split at h
                · simp at h; omega
                · cases h
          · simp at h; omega
theorem unpF_sound : ∀ {f a : Nat} {bs : List UInt8} {l m : List Val} {p : Nat}, bs.length < f → l.length ≤ 1000 → unpF f bs l a = (m, p, 0) → ∃ ls, m = l ++ ls ∧ Fine ls ∧ (∀ v ∈ ls, canon v = v) ∧ bs = encs ls ∧ m.length ≤ 1000 ∧ p = 0
  | 0, _, _, _, _, _, h, _, _ => by omega
  | f + 1, a, [], l, m, p, _, hl, h => by
    simp only [unpF, Prod.mk.injEq] at h
    obtain ⟨rfl, rfl, _⟩ := h
    exact ⟨[], by simp, ⟨by simp, by simp⟩, by simp, rfl, hl, rfl⟩
  | f + 1, a, c :: bs, l, m, p, hf, hl, h => by
    simp only [unpF] at h
    split at h
    · simp at h
    · rename_i h1
      split at h
      · rename_i e he
        simp only [Prod.mk.injEq] at h
        exact absurd h.2.2 (dec1_err he)
      · rename_i v r hd
        have hless := dec1_less hd
        obtain ⟨g1, g2, g3, g4⟩ := dec1_sound hd
        obtain ⟨ls, k1, k2, k3, k4, k5, k6⟩ := unpF_sound (by simp at hf hless; omega) (by simp; omega) h
        refine ⟨v :: ls, by rw [k1]; simp, ⟨fun x hx => ?_, fun x hx => ?_⟩, fun x hx => ?_, by rw [g4, k4]; simp [encs], k5, k6⟩
        · rcases List.mem_cons.1 hx with rfl | hx
          · exact g1
          · exact k2.dom x hx
        · rcases List.mem_cons.1 hx with rfl | hx
          · exact g2
          · exact k2.ok x hx
        · rcases List.mem_cons.1 hx with rfl | hx
          · exact g3
          · exact k3 x hx
theorem unpF_fail : ∀ {f a : Nat} {bs : List UInt8} {l m : List Val} {p : Nat} {e : Int}, bs.length < f → unpF f bs l a = (m, p, e) → e ≠ 0 → m = []
  | 0, _, _, _, _, _, _, h, _, _ => by omega
  | f + 1, a, [], l, m, p, e, _, h, he => by
    simp only [unpF, Prod.mk.injEq] at h
    exact absurd h.2.2.symm he
  | f + 1, a, c :: bs, l, m, p, e, hf, h, he => by
    simp only [unpF] at h
    split at h
    · simp only [Prod.mk.injEq] at h; exact h.1.symm
    · split at h
      · simp only [Prod.mk.injEq] at h; exact h.1.symm
      · rename_i v r hd
        have hless := dec1_less hd
        exact unpF_fail (by simp at hf hless; omega) h he
theorem unp_sound {bs : List UInt8} {m : List Val} (h : (unp bs).2.2 = 0) (hm : (unp bs).1 = m) : Fine m ∧ (∀ v ∈ m, canon v = v) ∧ bs = encs m ∧ m.length ≤ 1000 := by
  obtain ⟨ls, k1, k2, k3, k4, k5, k6⟩ := unpF_sound (f := bs.length + 1) (a := 0) (bs := bs) (l := []) (m := m) (p := (unp bs).2.1) (by omega) (by simp) (by
    show unp bs = _
    rw [← h, ← hm])
  rw [List.nil_append] at k1
  subst k1
  exact ⟨k2, k3, k4, k5⟩
theorem unp_fail {bs : List UInt8} (h : (unp bs).2.2 ≠ 0) : (unp bs).1 = [] := unpF_fail (f := bs.length + 1) (a := 0) (l := []) (p := (unp bs).2.1) (e := (unp bs).2.2) (by omega) rfl h
theorem canon_canon (v : Val) : canon (canon v) = canon v := by simp [canon, fb_fb]
end Go.Proofs.Ytjkmeooncmhonaa.Wire
