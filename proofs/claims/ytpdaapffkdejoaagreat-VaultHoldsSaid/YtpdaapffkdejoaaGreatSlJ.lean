/- Slices that can be read, owned or not; make and copy. -/
import Derived.Test.YtpdaapffkdejoaaGreatSlI
import Derived.Test.YtpdaapffkdejoaaGreatCfO
namespace Go.Proofs.YtpdaapffkdejoaaGreat.Cf
set_option linter.unusedSimpArgs false
set_option linter.unusedVariables false
open Go Go.RowKit
section
variable {W w w' : World} {l l' : List Assn} {A B : Assn} {α β : Type} {T : Ty α} {U : Ty β} {t : TypeId}
theorem mkS_st {sz by_ : Nat} {n : Int} {z : α} {K : Slc → World → Prop} (h0 : 0 ≤ n) (h1 : (by_ : Int) * n ≤ 281474976710656) (h2 : n ≤ 9223372036854775807) (H : St W l w)
    (hk : ∀ b w', St W (row T t sz ⟨some ⟨b, 0, none⟩, n.toNat, n.toNat⟩ (List.replicate n.toNat z) :: l) w' → K ⟨some ⟨b, 0, none⟩, n.toNat, n.toNat⟩ w') : mkS t T by_ z n n w K :=
  ⟨h0, Int.le_refl _, h1, h2, hk _ _ (row_new (by simp) (H.alloc _))⟩
theorem cpy_st {sz : Nat} {s b : Slc} {xs new : List α} {K : Nat → World → Prop} (hl : ∀ x, (T.cells x).length = sz) (H : St W (row T t sz s xs :: l) w) (hn : RdS T w b new) (he : new.length = xs.length)
    (hk : ∀ w', St W (row T t sz s new :: l) w' → K new.length w') : cpy T sz s b w K := by
  have hs := row_len H
  refine ⟨new, by rw [← hn.1, hs]; omega, ?_, ?_⟩
  · exact ⟨rfl, hn.2⟩
  · rcases row_open H with ⟨rfl, rfl, H0⟩ | ⟨b', rest, h2, h3, h4, h5, H⟩
    · have : new = [] := List.length_eq_zero_iff.1 he
      subst this
      exact hk _ (row_nil T t sz H0)
    · rw [h2]
      have hfl : (xs.flatMap T.cells).length = xs.length * sz := flat_len hl _
      have hnl : (new.flatMap T.cells).length = new.length * sz := flat_len hl _
      refine ⟨wr_cel H (by simp [hfl, he]), hk _ ?_⟩
      have := putc_cel (new.flatMap T.cells) 0 0 _ _ H (by simp [hfl, hnl, he])
      refine row_shut (rest := rest) h2 (by rw [he]; exact h3) h4 h5 ?_
      have e : splice (xs.flatMap T.cells ++ rest) (0 + 0) (new.flatMap T.cells) = new.flatMap T.cells ++ rest := by
        unfold splice
        simp only [Nat.zero_add, Nat.add_zero, List.take_zero, List.nil_append]
        rw [hnl, he, ← hfl, List.drop_left]
      rw [e] at this
      exact this
/-- A slice that can be read wherever a state has what is listed. -/
def See (sz : Nat) (l : List Assn) (T : Ty α) (s : Slc) (xs : List α) : Prop := ∀ (W : World) (l' : List Assn) (w : World), St W (l' ++ l) w →
  s.len = xs.length ∧ RdS T w s xs ∧ ∀ i : Int, 0 ≤ i → i < xs.length → ∃ a, IxA s sz i a ∧ a.spot = none ∧ ∀ x, xs[i.toNat]? = some x → Rd w a (T.cells x)
theorem See.ro {sz : Nat} {s : Slc} {xs : List α} (hl : ∀ x, (T.cells x).length = sz) (k : Know l (RoP T s xs)) : See sz l T s xs := fun W l' w H => by
  have H := H.ro (k.app l')
  refine ⟨ro_len H, RdO_ro H, fun i h0 h1 => ?_⟩
  obtain ⟨a, ha⟩ := ro_ix (sz := sz) (i := i) H h0 h1
  exact ⟨a, ha, ro_spot ha H, fun x hx => rd_ro hl ha hx H⟩
theorem See.row {sz : Nat} {s : Slc} {xs : List α} (hl : ∀ x, (T.cells x).length = sz) (i : Nat) (hi : front i l = row T t sz s xs :: l') : See sz l T s xs := fun W l1 w H => by
  have hp : (l1 ++ l).Perm (Cf.row T t sz s xs :: (l1 ++ l')) := ((front_perm i l).append_left l1).trans (by rw [hi]; exact List.perm_middle)
  have H := H.perm hp
  refine ⟨row_len H, RdO_row H, fun i h0 h1 => ?_⟩
  obtain ⟨a, ha⟩ := row_ix (sz := sz) (i := i) H h0 h1
  exact ⟨a, ha, row_spot ha H, fun x hx => rd_row hl ha hx H⟩
theorem See.app {sz : Nat} {s : Slc} {xs : List α} (k : See sz l T s xs) (l' : List Assn) : See sz (l' ++ l) T s xs := fun W l1 w H => k W (l1 ++ l') w (by rw [List.append_assoc]; exact H)
theorem See.tail {sz : Nat} {s : Slc} {xs : List α} (k : See sz l T s xs) : See sz (A :: l) T s xs := k.app [A]
theorem See.len {sz : Nat} {s : Slc} {xs : List α} (k : See sz l T s xs) (H : St W l w) : s.len = xs.length := (k W [] w H).1
theorem See.ix {sz : Nat} {s : Slc} {xs : List α} {i : Int} (k : See sz l T s xs) (H : St W l w) (h0 : 0 ≤ i) (h1 : i < xs.length) : ∃ a, IxA s sz i a := by
  obtain ⟨a, h, _⟩ := (k W [] w H).2.2 i h0 h1; exact ⟨a, h⟩
theorem ixa_eq {sz : Nat} {s : Slc} {i : Int} {a b : Addr} (h : IxA s sz i a) (k : IxA s sz i b) : a = b := by
  obtain ⟨c, hc, _, _, rfl⟩ := h
  obtain ⟨d, hd, _, _, rfl⟩ := k
  rw [hc] at hd; injection hd with hd; rw [hd]
theorem See.rd {sz : Nat} {s : Slc} {xs : List α} {i : Int} {a : Addr} {x : α} (k : See sz l T s xs) (ha : IxA s sz i a) (hx : xs[i.toNat]? = some x) (H : St W l w) : Rd w a (T.cells x) := by
  have hlt := (List.getElem?_eq_some_iff.1 hx).1
  have h0 : 0 ≤ i := by obtain ⟨_, _, h, _⟩ := ha; exact h
  obtain ⟨b, hb, _, h⟩ := (k W [] w H).2.2 i h0 (by omega)
  rw [ixa_eq ha hb]; exact h x hx
theorem See.fld {sz o : Nat} {s : Slc} {xs : List α} {i : Int} {a : Addr} {x : α} {y : β} (k : See sz l T s xs) (ha : IxA s sz i a) (hx : xs[i.toNat]? = some x) (hs : at_ (T.cells x) o (U.cells y).length = U.cells y)
    (H : St W l w) : RdAt U (a.add o) w y := by
  have hlt := (List.getElem?_eq_some_iff.1 hx).1
  have h0 : 0 ≤ i := by obtain ⟨_, _, h, _⟩ := ha; exact h
  obtain ⟨b, hb, hsp, h⟩ := (k W [] w H).2.2 i h0 (by omega)
  rw [ixa_eq ha hb]; exact Rd_sub (h x hx) hsp hs
theorem See.rdS {sz : Nat} {s : Slc} {xs : List α} (k : See sz l T s xs) (H : St W l w) : RdS T w s xs := (k W [] w H).2.1
/-- The same, where nothing is read on the way. -/
theorem ins0_st {K : Slc → World → Prop} {sz by_ : Nat} {xs zs : List α} {x : α} {s u : Slc} (hl : ∀ x, (T.cells x).length = sz) (k1 : Know l (RoP T s xs)) (k2 : Know l (RoP T u zs)) (H : St W l w)
    (hb : (xs.length + 1 + zs.length) * by_ ≤ 140737488355328) (hk : ∀ r w', St W (row T t sz r (xs ++ [x] ++ zs) :: l) w' → K r w') :
    bth (nwS t T ([] : List α) w fun a w1 => bth (
        apd t T sz by_ ⟨some a, 0, 0⟩ s w1 fun r w2 => 
        apl t T sz by_ r [x] w2 fun r w3 => 
        apd t T sz by_ r u w3 fun r w4 => K r w4)
      (nwS t T [x] w1 fun b w2 =>
        apd t T sz by_ ⟨some a, 0, 0⟩ s w2 fun r w3 => 
        apd t T sz by_ r ⟨some b, 1, 1⟩ w3 fun r w4 => 
        apd t T sz by_ r u w4 fun r w5 => K r w5))
      (nwS t T [x] w fun b w1 => nwS t T ([] : List α) w1 fun a w2 =>
        apd t T sz by_ ⟨some a, 0, 0⟩ s w2 fun r w3 => 
        apd t T sz by_ r ⟨some b, 1, 1⟩ w3 fun r w4 => 
        apd t T sz by_ r u w4 fun r w5 => K r w5) := by
  have n1 : (([] : List α).length + xs.length) * by_ ≤ 140737488355328 := Nat.le_trans (Nat.mul_le_mul_right _ (by simp; omega)) hb
  have n2 : (xs.length + [x].length) * by_ ≤ 140737488355328 := Nat.le_trans (Nat.mul_le_mul_right _ (by simp)) hb
  have n3 : ((xs ++ [x]).length + zs.length) * by_ ≤ 140737488355328 := by rw [List.length_append]; exact hb
  have fin : ∀ (b : Nat) (w1 : World) (a : Nat), St W (cel a (([x] : List α).flatMap T.cells) t :: row T t sz ⟨some ⟨b, 0, none⟩, 0, 0⟩ [] :: l) w1 →
      apd t T sz by_ ⟨some ⟨b, 0, none⟩, 0, 0⟩ s w1 fun r w3 => 
        apd t T sz by_ r ⟨some ⟨a, 0, none⟩, 1, 1⟩ w3 fun r w4 => 
        apd t T sz by_ r u w4 fun r w5 => K r w5 := by
    intro b w1 a H
    have H := row_stay (row_new (sz := sz) (m := 1) rfl H)
    refine apd_row hl 1 H rfl (k1.tail.tail.rdS H) n1 fun r w2 H => ?_
    refine apd_row hl 0 H rfl (Know.rdS (Know.tail (Know.here (m := RoP.mono))) H) n2 fun r w3 H => ?_
    refine apd_row hl 0 H rfl (k2.tail.tail.rdS H) n3 fun r w4 H => ?_
    exact hk _ _ (H.front 1).drop
  refine ⟨?_, ?_⟩
  · refine nwS_st H fun b w1 H => ?_
    have H := row_new (sz := sz) (m := 0) rfl H
    refine ⟨?_, ?_⟩
    · refine apd_row hl 0 H rfl (k1.tail.rdS H) n1 fun r w2 H => ?_
      refine apl_row hl 0 H rfl n2 fun r w3 H => ?_
      refine apd_row hl 0 H rfl (k2.tail.rdS H) n3 fun r w4 H => ?_
      exact hk _ _ H
    · refine nwS_st H fun a w2 H => ?_
      exact fin b w2 a H
  · refine nwS_st H fun a w1 H => ?_
    refine nwS_st H fun b w2 H => ?_
    have H := row_new (sz := sz) (m := 0) rfl H
    exact fin b w2 a (H.front 1)
theorem add_add {a : Addr} (h : a.spot = none) (m n : Nat) : (a.add m).add n = a.add (m + n) := by
  obtain ⟨b, o, s⟩ := a
  simp only at h
  subst h
  rw [add_at, add_at, add_at, Nat.add_assoc]
theorem Know.fld2 {sz o o2 : Nat} {s : Slc} {xs : List α} {i : Int} {a : Addr} {x : α} {y : β} (k : Know l (RoP T s xs)) (hl : ∀ x, (T.cells x).length = sz) (ha : IxA s sz i a) (hx : xs[i.toNat]? = some x) (hs : at_ (T.cells x) (o + o2) (U.cells y).length = U.cells y)
    (H : St W l w) : RdAt U ((a.add o).add o2) w y := by
  rw [add_add (ro_spot ha (H.ro k))]; exact k.fld hl ha hx hs H
end
end Go.Proofs.YtpdaapffkdejoaaGreat.Cf
