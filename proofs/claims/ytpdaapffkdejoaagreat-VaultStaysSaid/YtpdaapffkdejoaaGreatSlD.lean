/- Loops, fields of elements, and the beginning and the end of a walk. -/
import Derived.Test.YtpdaapffkdejoaaGreatSlC
import Derived.Below
namespace Go.Proofs.YtpdaapffkdejoaaGreat.Cf
set_option linter.unusedSimpArgs false
set_option linter.unusedVariables false
open Go Go.RowKit
section
variable {W w w' : World} {l l' : List Assn} {A B : Assn} {α β : Type} {T : Ty α} {U : Ty β} {t : TypeId}
theorem lp_i {σ : Type} {body : σ → World → (σ → World → Prop) → Prop} {s : σ} {w : World} (I : σ → World → Prop) (μ : σ → Nat) (h0 : I s w)
    (h : ∀ s w, I s w → body s w fun s' w' => I s' w' ∧ μ s' < μ s) : lp body s w := ⟨I, fun s _ => μ s, h0, h⟩
theorem row_ix {sz : Nat} {s : Slc} {xs : List α} {i : Int} (H : St W (row T t sz s xs :: l) w) (h0 : 0 ≤ i) (h1 : i < xs.length) : ∃ a, IxA s sz i a := by
  obtain ⟨a, h, _⟩ := ixa_row (k := fun _ => True) H h0 h1 fun _ _ => trivial
  exact ⟨a, h⟩
theorem ro_ix {sz : Nat} {s : Slc} {xs : List α} {i : Int} (H : St W (ro T s xs :: l) w) (h0 : 0 ≤ i) (h1 : i < xs.length) : ∃ a, IxA s sz i a := by
  obtain ⟨a, h, _⟩ := ixa_ro (k := fun _ => True) H h0 h1 fun _ _ => trivial
  exact ⟨a, h⟩
theorem row_spot {sz : Nat} {s : Slc} {xs : List α} {i : Int} {a : Addr} (ha : IxA s sz i a) (H : St W (row T t sz s xs :: l) w) : a.spot = none := by
  obtain ⟨c, hc, h0, h1, rfl⟩ := ha
  rcases row_open H with ⟨rfl, rfl, H⟩ | ⟨b, rest, h2, h3, h4, h5, H⟩
  · cases hc
  · rw [h2] at hc; injection hc with hc; subst hc; rw [add_at]
theorem ro_spot {sz : Nat} {s : Slc} {xs : List α} {i : Int} {a : Addr} (ha : IxA s sz i a) (H : St W (ro T s xs :: l) w) : a.spot = none := by
  obtain ⟨c, hc, h0, h1, rfl⟩ := ha
  obtain ⟨I, hI, h2, h3 | ⟨b, o, arr, t', fz, h4, h5, h6⟩⟩ := H.everI
  · rw [h3] at h2; simp at h2; omega
  · rw [h4] at hc; injection hc with hc; subst hc; rw [add_at]
/-- A field of an element. -/
theorem fld_row {sz o : Nat} {s : Slc} {xs : List α} {i : Int} {a : Addr} {x : α} {y : β} (hl : ∀ x, (T.cells x).length = sz) (ha : IxA s sz i a) (hx : xs[i.toNat]? = some x) (hs : at_ (T.cells x) o (U.cells y).length = U.cells y)
    (H : St W (row T t sz s xs :: l) w) : RdAt U (a.add o) w y := Rd_sub (rd_row hl ha hx H) (row_spot ha H) hs
theorem fld_ro {sz o : Nat} {s : Slc} {xs : List α} {i : Int} {a : Addr} {x : α} {y : β} (hl : ∀ x, (T.cells x).length = sz) (ha : IxA s sz i a) (hx : xs[i.toNat]? = some x) (hs : at_ (T.cells x) o (U.cells y).length = U.cells y)
    (H : St W (ro T s xs :: l) w) : RdAt U (a.add o) w y := Rd_sub (rd_ro hl ha hx H) (ro_spot ha H) hs
/-- The memory at the start. -/
def old (W : World) : Assn := ever (fun I => PMap.le (fun b => W.heap[b]?) I) (fun h k => PMap.le_trans k h)
theorem St.start (W : World) : St W [old W] W :=
  ⟨rfl, rfl, rfl, Nat.le_refl _, fun b => W.heap[b]?, fun _ => none, fun _ => .inr rfl, fun _ _ h => h, fun _ _ h => (by cases h),
    fun _ => none, fun _ => none, fun _ => .inl rfl, fun _ _ h => (by cases h), fun _ _ h => (by cases h), PMap.le_refl _, trivial⟩
theorem ro_old {s : Slc} {xs : List α} (h : RoP T s xs fun b => W.heap[b]?) (H : St W (old W :: l) w) : St W (ro T s xs :: old W :: l) w :=
  St.impEver (m := fun h k => PMap.le_trans k h) (fun I hI => RoP.mono hI h) (St.dup (m := fun h k => PMap.le_trans k h) H)
theorem St.below (H : St W (old W :: l) w) : Below W.heap.size W w :=
  ⟨H.os, H.tape, H.output, H.size, fun k hk => by
    obtain ⟨I, hI, hle⟩ := St.everI (m := fun h k => PMap.le_trans k h) H
    have e : W.heap[k]? = some (W.heap[k]'hk) := Array.getElem?_eq_getElem hk
    rw [e]
    exact hI _ _ (hle _ _ e)⟩
/-! ### variables of one type, whole -/
theorem at_all (cs : List Value) : at_ cs 0 cs.length = cs := by simp [at_]
theorem splice_all {cs xs : List Value} (h : cs.length = xs.length) : splice cs 0 xs = xs := by simp [splice, ← h]
theorem at_app {a c d : List Value} {o n : Nat} (ho : o = a.length) (hn : n = c.length) : at_ (a ++ c ++ d) o n = c := by
  subst ho; subst hn; simp [at_]
theorem splice_app {a c c' d : List Value} {o : Nat} (ho : o = a.length) (hn : c'.length = c.length) : splice (a ++ c ++ d) o c' = a ++ c' ++ d := by
  subst ho; simp [splice, hn, List.drop_append]
theorem vld_st {b : Nat} {x : α} {k : α → Prop} (i : Nat) (H : St W l w) (hi : front i l = cel b (T.cells x) t :: l') (hk : k x) : ex (RdAt T ⟨b, 0, none⟩ w) k := ld_st i H hi rfl (at_all _) hk
theorem vst_st {b n : Nat} {x y : α} {k : World → Prop} (hl : ∀ x, (T.cells x).length = n) (i : Nat) (H : St W l w) (hi : front i l = cel b (T.cells x) t :: l') (hk : ∀ w', St W (cel b (T.cells y) t :: l') w' → k w') : st T ⟨b, 0, none⟩ y w k :=
  st_st i H hi rfl (by rw [hl, hl]; omega) fun w' H => hk w' (by rw [splice_all (by rw [hl, hl])] at H; exact H)
theorem ixr_i {b : Addr} {m sz : Nat} {i : Int} {k : Addr → Prop} (h0 : 0 ≤ i) (h1 : i < m) (hk : k (b.add (i.toNat * sz))) : ex (IxR b m sz i) k := ⟨_, ⟨h0, h1, rfl⟩, hk⟩
end
end Go.Proofs.YtpdaapffkdejoaaGreat.Cf
