/- Arguments as they lie in the memory at the start. -/
import Derived.Test.YtpdaapffkdejoaaGreatSlD
import Derived.ProofKit
import Derived.Deep.Slices
namespace Go.Proofs.YtpdaapffkdejoaaGreat.Cf
set_option linter.unusedSimpArgs false
set_option linter.unusedVariables false
open Go Go.RowKit Go.ChangeShapes Go.WideShapes Go.Deep
section
variable {H : Type} {enc : TypeId × Value → H} {P : Program} {W : World} {base : Nat} {spare : Nat → Bool} {held : Bool} {α : Type}
/-- What reads by a type is some x of it, and good. -/
def Opn (enc : TypeId × Value → H) (P : Program) (W : World) (base : Nat) (spare : Nat → Bool) (held : Bool) (t : TypeId) (T : Ty α) (G : α → Prop) : Prop :=
  ∀ fuel cs x, DataW.trod enc P W base spare held fuel t cs = some x → ∃ y : α, cs = T.cells y ∧ G y
theorem opn_int {t : TypeId} {k : IntKind} (ht : P.underlying t = some (.int k)) : Opn enc P W base spare held t (tInt k) fun n => k.min ≤ n ∧ n ≤ k.max := by
  intro fuel cs x h
  obtain ⟨n, rfl, _, hw⟩ := DataW.trod_int ht h
  refine ⟨n, rfl, ?_⟩
  simpa [Lit.wf] using hw
theorem opn_bool {t : TypeId} (ht : P.underlying t = some .bool) : Opn enc P W base spare held t tBool fun _ => True := by
  intro fuel cs x h
  obtain ⟨n, rfl, _⟩ := DataW.trod_bool ht h
  exact ⟨n, rfl, trivial⟩
theorem opn_flt {t : TypeId} (ht : P.underlying t = some (.float .f64)) : Opn enc P W base spare held t tFlt fun b => b < 18446744073709551616 := by
  intro fuel cs x h
  cases fuel with
  | zero => simp [DataW.trod] at h
  | succ n =>
    unfold DataW.trod at h
    rw [ht] at h
    split at h <;> try (simp_all; done)
    have hk : some (TypeDesc.float FloatKind.f64) = some (TypeDesc.float _) := ‹_›
    cases hk
    split at h
    · rename_i hc
      obtain ⟨rfl, hw⟩ := hc
      exact ⟨_, rfl, by simpa [Lit.wf] using hw⟩
    · cases h
theorem opn_str {t : TypeId} (ht : P.underlying t = some .string) : Opn enc P W base spare held t tStr fun s => s.length ≤ 9223372036854775807 := by
  intro fuel cs x h
  obtain ⟨s, rfl, _, hs⟩ := DataW.trod_string ht h
  refine ⟨s.data.toList, rfl, ?_⟩
  have e : s.data.toList.length = s.size := Array.length_toList
  exact Nat.le_trans (Nat.le_of_eq e) (Nat.le_trans hs (Nat.le_of_ble_eq_true rfl))
theorem flat_split {T : Ty α} {sz : Nat} (hl : ∀ x, (T.cells x).length = sz) : ∀ (xs : List α) (j : Nat) (v : Value), (xs.flatMap T.cells)[j]? = some v → ∃ i k x, j = i * sz + k ∧ k < sz ∧ xs[i]? = some x ∧ (T.cells x)[k]? = some v := by
  intro xs
  induction xs with
  | nil => intro j v h; simp at h
  | cons x xs ih =>
    intro j v h
    rw [List.flatMap_cons] at h
    by_cases hj : j < sz
    · rw [List.getElem?_append_left (by rw [hl]; exact hj)] at h
      exact ⟨0, j, x, by omega, hj, rfl, h⟩
    · rw [List.getElem?_append_right (by rw [hl]; omega), hl] at h
      obtain ⟨i, k, y, e, hk, hy, hv⟩ := ih _ _ h
      refine ⟨i + 1, k, y, ?_, hk, hy, hv⟩
      rw [Nat.add_mul, Nat.one_mul]; omega
theorem many {n : Nat} {p : Nat → α → Prop} (h : ∀ i, i < n → ∃ x, p i x) : ∃ xs : List α, xs.length = n ∧ ∀ i x, xs[i]? = some x → p i x := by
  induction n with
  | zero => exact ⟨[], rfl, fun i x h => (by simp at h)⟩
  | succ n ih =>
    obtain ⟨xs, h1, h2⟩ := ih fun i hi => h i (by omega)
    obtain ⟨x, hx⟩ := h n (by omega)
    refine ⟨xs ++ [x], by simp [h1], fun i y hy => ?_⟩
    by_cases hi : i < n
    · rw [List.getElem?_append_left (by omega)] at hy; exact h2 i y hy
    · rw [List.getElem?_append_right (by omega)] at hy
      have : i = n := by
        rcases Nat.lt_or_ge (i - xs.length) 1 with h | h
        · omega
        · rw [List.getElem?_eq_none (by simpa using h)] at hy; cases hy
      subst this
      simp [h1] at hy; subst hy; exact hx
theorem cell_heap {w : World} {b o : Nat} {v : Value} (h : w.cell? ⟨b, o, none⟩ = some v) : ∃ arr t fz, w.heap[b]? = some (.cells arr t fz) ∧ arr[o]? = some v := by
  unfold World.cell? at h
  split at h
  · rename_i arr t fz hb; exact ⟨arr, t, fz, hb, by simpa using h⟩
  · simp at h
theorem opn_slice {t e : TypeId} {T : Ty α} {G : α → Prop} {sz : Nat} (ht : P.underlying t = some (.slice e)) (hc : P.cellsOf e = sz) (hz : 0 < sz) (hl : ∀ x, (T.cells x).length = sz) (hE : Opn enc P W base spare held e T G) :
    Opn enc P W base spare held t tSlc fun s => (s.len ≤ s.cap ∧ s.cap ≤ 9223372036854775807) ∧ ∃ xs, (∀ x ∈ xs, G x) ∧ RoP T s xs fun b => W.heap[b]? := by
  intro fuel cs x h
  rcases open_slice ht h with ⟨rfl, _⟩ | ⟨a, len, cap, m, n, D, Pl, rfl, hb, h1, h2, hm, _, hx⟩
  · exact ⟨⟨none, 0, 0⟩, rfl, ⟨Nat.le_refl _, Nat.zero_le _⟩, [], (fun _ h => by cases h), rfl, .inl rfl⟩
  · refine ⟨⟨some a, len, cap⟩, rfl, ⟨h1, Nat.le_trans h2 (Nat.le_of_ble_eq_true rfl)⟩, ?_⟩
    have hlm : len ≤ m := by rw [hm]; split <;> omega
    have each : ∀ i, i < len → ∃ y : α, G y ∧ ∀ k v, (T.cells y)[k]? = some v → W.cell? (a.add (i * sz + k)) = some v := by
      intro i hi
      obtain ⟨cs', g1, g2⟩ := hx i (by omega)
      obtain ⟨y, rfl, hy⟩ := hE _ _ _ g2
      rw [hc] at g1
      obtain ⟨_, _, g3⟩ := World.cells?_some g1
      refine ⟨y, hy, fun k v hv => ?_⟩
      have hk := (List.getElem?_eq_some_iff.1 hv).1
      rw [hl] at hk
      have := g3 k hk
      rw [hv] at this
      rw [add_add] at this
      exact this
    obtain ⟨xs, hlen, hxs⟩ := many each
    refine ⟨xs, ?_, hlen, ?_⟩
    · intro x hx
      obtain ⟨i, hi, e⟩ := List.getElem_of_mem hx
      exact (hxs i x (by rw [List.getElem?_eq_getElem hi, e])).1
    · cases xs with
      | nil => exact .inl rfl
      | cons x0 xs0 =>
        right
        obtain ⟨_, g⟩ := hxs 0 x0 rfl
        obtain ⟨b, o, sp⟩ := a
        have hlt : 0 < (T.cells x0).length := by rw [hl]; exact hz
        have g0 := g 0 _ (List.getElem?_eq_getElem hlt)
        have hsp : sp = none := by simpa [Addr.add] using World.cell?_spot g0
        subst hsp
        rw [add_at] at g0
        obtain ⟨arr, t', fz, hb, _⟩ := cell_heap g0
        refine ⟨b, o, arr, t', fz, rfl, hb, fun j v hj => ?_⟩
        obtain ⟨i, k, y, rfl, hk, hy, hv⟩ := flat_split hl _ _ _ hj
        have := (hxs i y hy).2 k v hv
        rw [add_at] at this
        rw [cell_of_blk hb] at this
        exact this
/-- A struct by its fields. -/
theorem opn_agg {t : TypeId} {fs : Array Field} {n : Nat} {C : α → List Value} {G : α → Prop} (ht : P.underlying t = some (.struct fs)) (hc : P.cellsOf t = n)
    (h : ∀ cs : List Value, cs.length = n → (∀ (i off ty sz : Nat), (∃ f, fs[i]? = some f ∧ f.offset = off ∧ f.type = ty) → P.cellsOf ty = sz → ∃ m x, DataW.trod enc P W base spare held m ty ((cs.drop off).take sz) = some x) → ∃ y, cs = C y ∧ G y) :
    Opn enc P W base spare held t (tAgg C) G := by
  intro fuel cs x hx
  obtain ⟨xs, m, _, _, hl, hxl, hf⟩ := DataW.trod_struct ht hx
  refine h cs (hl.trans hc) ?_
  rintro i off ty sz ⟨f, hf1, rfl, rfl⟩ rfl
  have := hf i f hf1
  have hi : i < fs.size := (Array.getElem?_eq_some_iff.1 hf1).1
  exact ⟨m, xs[i]'(by omega), by rw [this]; exact List.getElem?_eq_getElem _⟩
theorem dj {cs a b : List Value} {o k : Nat} (h : (cs.drop o).take k = a) (h2 : cs.drop (o + k) = b) : cs.drop o = a ++ b := by
  rw [← h, ← h2, ← List.drop_drop]; exact (List.take_append_drop _ _).symm
theorem dend {cs : List Value} {n : Nat} (h : cs.length = n) : cs.drop n = [] := List.drop_eq_nil_of_le (by omega)
theorem calls_of_cl {α : Type} {T : Ty α} {f : FuncId} {args : List Value} {w : World} {k : α → World → Prop} (h : cl P f args T w k) : Calls P f args.toArray w fun e w' => ∃ x, e = .returned (T.enc x) ∧ k x w' :=
  h.mono fun e w' h => by
    cases e with
    | returned v => obtain ⟨x, rfl, h⟩ := h; exact ⟨x, rfl, h⟩
    | _ => exact h.elim
theorem arg_one {t : TypeId} {T : Ty α} {G : α → Prop} {v : Value} {d : DataW H} {ps : List MemPlace} (hO : Opn enc P W base spare held t T G) (h : DataW.Trod enc P W base spare held t v d ps) : ∃ y, v.cells.toList = T.cells y ∧ G y := by
  obtain ⟨m, hm⟩ := h
  exact hO _ _ _ hm
theorem one_of {v : Value} {T : Ty α} {y : α} (h : v.cells.toList = T.cells y) (h1 : v.cells = #[v]) (h2 : T.cells y = [T.enc y]) : v = T.enc y := by
  rw [h1, h2] at h; simpa using h
theorem agg_of {cs : Array Value} {C : α → List Value} {y : α} (h : (Value.agg cs).cells.toList = C y) : Value.agg cs = .agg (C y).toArray := by
  have : cs.toList = C y := h
  rw [← this]
end
end Go.Proofs.YtpdaapffkdejoaaGreat.Cf
