/- Parts of what is known; the pattern of a value put into its place. -/
import Derived.Test.YtpdaapffkdejoaaGreatSlG
namespace Go.Proofs.YtpdaapffkdejoaaGreat.Cf
set_option linter.unusedSimpArgs false
set_option linter.unusedVariables false
open Go Go.RowKit
section
variable {W w w' : World} {l l' : List Assn} {A B : Assn} {α β : Type} {T : Ty α} {U : Ty β} {t : TypeId} {φ ψ : PMap → Prop}
theorem row_cap {sz : Nat} {s : Slc} {xs : List α} (H : St W (row T t sz s xs :: l) w) : s.len ≤ s.cap := by
  rcases row_open H with ⟨rfl, rfl, _⟩ | ⟨b, rest, _, _, h, _⟩
  · exact Nat.le_refl _
  · exact h
theorem RoP.sub {sz : Nat} {s r : Slc} {xs : List α} {i h m : Int} {I : PMap} (hl : ∀ x, (T.cells x).length = sz) (hs : Sub s sz i h m r) (hh : h ≤ xs.length) (k : RoP T s xs I) : RoP T r ((xs.take h.toNat).drop i.toNat) I := by
  obtain ⟨g1, g2, g3⟩ := sub_at hs
  obtain ⟨h0, h1, h2, h3, _⟩ := hs
  have hlen : ((xs.take h.toNat).drop i.toNat).length = (h - i).toNat := by rw [List.length_drop, List.length_take]; omega
  refine ⟨by rw [hlen, g1], ?_⟩
  by_cases e : m = i
  · left
    exact List.eq_nil_of_length_eq_zero (by rw [hlen]; omega)
  · rcases k.2 with rfl | ⟨b, o, arr, t', fz, k1, k2, k3⟩
    · left; simp
    · right
      refine ⟨b, o + i.toNat * sz, arr, t', fz, g3 b o k1 e, k2, fun j v hv => ?_⟩
      have e2 : xs.flatMap T.cells = (xs.take i.toNat).flatMap T.cells ++ (((xs.take h.toNat).drop i.toNat).flatMap T.cells ++ (xs.drop h.toNat).flatMap T.cells) := by
        have e3 : xs.take i.toNat = (xs.take h.toNat).take i.toNat := by rw [List.take_take, Nat.min_eq_left (by omega)]
        rw [e3, ← List.append_assoc, ← List.flatMap_append, List.take_append_drop, ← List.flatMap_append, List.take_append_drop]
      have e4 : ((xs.take i.toNat).flatMap T.cells).length = i.toNat * sz := by rw [flat_len hl, List.length_take]; congr 1; omega
      rw [Nat.add_assoc]
      refine k3 (i.toNat * sz + j) v ?_
      rw [e2, ← e4, List.getElem?_append_right (by omega), Nat.add_sub_cancel_left]
      rw [List.getElem?_append_left (List.getElem?_eq_some_iff.1 hv).1]; exact hv
theorem Know.sub {sz : Nat} {s r : Slc} {xs : List α} {i h m : Int} (k : Know l (RoP T s xs)) (hl : ∀ x, (T.cells x).length = sz) (hs : Sub s sz i h m r) (hh : h ≤ xs.length) : Know l (RoP T r ((xs.take h.toNat).drop i.toNat)) := k.imp fun _ => RoP.sub hl hs hh
/-- s[:n:n]. -/
theorem row_cut3 {sz : Nat} {s r : Slc} {xs : List α} {h : Int} (hl : ∀ x, (T.cells x).length = sz) (hs : Sub s sz 0 h h r) (hh : h ≤ xs.length) (H : St W (row T t sz s xs :: l) w) : r = ⟨s.a, h.toNat, h.toNat⟩ ∧ St W (row T t sz r (xs.take h.toNat) :: l) w := by
  obtain ⟨h0, h1, h2, h3, rfl⟩ := hs
  have e : (⟨if h.toNat = (0 : Int).toNat then s.a else s.a.map (·.add ((0 : Int).toNat * sz)), h.toNat - (0 : Int).toNat, h.toNat - (0 : Int).toNat⟩ : Slc) = ⟨s.a, h.toNat, h.toNat⟩ := by
    have : (fun x : Addr => x.add 0) = id := by funext x; simp [Addr.add]
    simp [this]
  refine ⟨e, ?_⟩
  rw [e]
  rcases row_open H with ⟨rfl, rfl, H0⟩ | ⟨b, rest, g1, g2, g3, g4, H⟩
  · have : h.toNat = 0 := by simp at hh; omega
    rw [this]; exact row_nil T t sz H0
  · refine row_shut (rest := (xs.drop h.toNat).flatMap T.cells ++ rest) g1 (by simp; omega) (Nat.le_refl _) (by simp) ?_
    rw [← List.append_assoc, ← List.flatMap_append, List.take_append_drop]; exact H
theorem gex {α : Type} [Inhabited α] {g : Bool} {C : α → Prop} (h : g = true → ∃ x, C x) : ∃ x, g = true → C x := by
  cases g with
  | false => exact ⟨default, fun h => by cases h⟩
  | true => obtain ⟨x, hx⟩ := h rfl; exact ⟨x, fun _ => hx⟩
/-- append(append(append([]T{}, s...), x), u...) in any order of what is made. -/
theorem ins_st {K : Slc → World → Prop} {sz by_ : Nat} {xs zs : List α} {x : α} {s u : Slc} {φ : World → Prop} (hl : ∀ x, (T.cells x).length = sz) (k1 : Know l (RoP T s xs)) (k2 : Know l (RoP T u zs)) (hr : ∀ l' w, St W (l' ++ l) w → φ w) (H : St W l w)
    (hb : (xs.length + 1 + zs.length) * by_ ≤ 140737488355328) (hk : ∀ r w', St W (row T t sz r (xs ++ [x] ++ zs) :: l) w' → K r w') :
    bth (nwS t T ([] : List α) w fun a w1 => bth (
        apd t T sz by_ ⟨some a, 0, 0⟩ s w1 fun r w2 => kp (φ w2) <|
        apl t T sz by_ r [x] w2 fun r w3 => kp (φ w3) <|
        apd t T sz by_ r u w3 fun r w4 => kp (φ w4) <| K r w4)
      (nwS t T [x] w1 fun b w2 =>
        apd t T sz by_ ⟨some a, 0, 0⟩ s w2 fun r w3 => kp (φ w3) <|
        apd t T sz by_ r ⟨some b, 1, 1⟩ w3 fun r w4 => kp (φ w4) <|
        apd t T sz by_ r u w4 fun r w5 => kp (φ w5) <| K r w5))
      (nwS t T [x] w fun b w1 => nwS t T ([] : List α) w1 fun a w2 =>
        apd t T sz by_ ⟨some a, 0, 0⟩ s w2 fun r w3 => kp (φ w3) <|
        apd t T sz by_ r ⟨some b, 1, 1⟩ w3 fun r w4 => kp (φ w4) <|
        apd t T sz by_ r u w4 fun r w5 => kp (φ w5) <| K r w5) := by
  have n1 : (([] : List α).length + xs.length) * by_ ≤ 140737488355328 := Nat.le_trans (Nat.mul_le_mul_right _ (by simp; omega)) hb
  have n2 : (xs.length + [x].length) * by_ ≤ 140737488355328 := Nat.le_trans (Nat.mul_le_mul_right _ (by simp)) hb
  have n3 : ((xs ++ [x]).length + zs.length) * by_ ≤ 140737488355328 := by rw [List.length_append]; exact hb
  have fin : ∀ (b : Nat) (w1 : World) (a : Nat), St W (cel a (([x] : List α).flatMap T.cells) t :: row T t sz ⟨some ⟨b, 0, none⟩, 0, 0⟩ [] :: l) w1 →
      apd t T sz by_ ⟨some ⟨b, 0, none⟩, 0, 0⟩ s w1 fun r w3 => kp (φ w3) <|
        apd t T sz by_ r ⟨some ⟨a, 0, none⟩, 1, 1⟩ w3 fun r w4 => kp (φ w4) <|
        apd t T sz by_ r u w4 fun r w5 => kp (φ w5) <| K r w5 := by
    intro b w1 a H
    have H := row_stay (row_new (sz := sz) (m := 1) rfl H)
    refine apd_row hl 1 H rfl (k1.tail.tail.rdS H) n1 fun r w2 H => ?_
    refine ⟨hr [row T t sz _ _, ro T _ _] _ H, ?_⟩
    refine apd_row hl 0 H rfl (Know.rdS (Know.tail (Know.here (m := RoP.mono))) H) n2 fun r w3 H => ?_
    refine ⟨hr [row T t sz _ _, ro T _ _] _ H, ?_⟩
    refine apd_row hl 0 H rfl (k2.tail.tail.rdS H) n3 fun r w4 H => ?_
    refine ⟨hr [row T t sz _ _, ro T _ _] _ H, ?_⟩
    exact hk _ _ (H.front 1).drop
  refine ⟨?_, ?_⟩
  · refine nwS_st H fun b w1 H => ?_
    have H := row_new (sz := sz) (m := 0) rfl H
    refine ⟨?_, ?_⟩
    · refine apd_row hl 0 H rfl (k1.tail.rdS H) n1 fun r w2 H => ?_
      refine ⟨hr [row T t sz _ _] _ H, ?_⟩
      refine apl_row hl 0 H rfl n2 fun r w3 H => ?_
      refine ⟨hr [row T t sz _ _] _ H, ?_⟩
      refine apd_row hl 0 H rfl (k2.tail.rdS H) n3 fun r w4 H => ?_
      refine ⟨hr [row T t sz _ _] _ H, ?_⟩
      exact hk _ _ H
    · refine nwS_st H fun a w2 H => ?_
      exact fin b w2 a H
  · refine nwS_st H fun a w1 H => ?_
    refine nwS_st H fun b w2 H => ?_
    have H := row_new (sz := sz) (m := 0) rfl H
    exact fin b w2 a (H.front 1)
end
end Go.Proofs.YtpdaapffkdejoaaGreat.Cf
