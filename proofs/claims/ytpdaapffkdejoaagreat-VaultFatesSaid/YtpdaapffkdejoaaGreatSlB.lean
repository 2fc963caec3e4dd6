/- The words of the formulae over assertions. -/
import Derived.Test.YtpdaapffkdejoaaGreatSlA
namespace Go.Proofs.YtpdaapffkdejoaaGreat.Cf
set_option linter.unusedSimpArgs false
set_option linter.unusedVariables false
open Go
section
variable {W w w' : World} {l l' : List Assn} {A B : Assn} {α : Type} {T : Ty α} {t : TypeId}

theorem add_at (b o n : Nat) : (⟨b, o, none⟩ : Addr).add n = ⟨b, o + n, none⟩ := by
  unfold Addr.add
  by_cases h : n = 0
  · subst h; rfl
  · rw [if_neg h]

/-! ### cells of an owned row -/
theorem cell_of_blk {b : Nat} {cs : Array Value} {fz : Nat × Nat} (h : w.heap[b]? = some (.cells cs t fz)) (j : Nat) : w.cell? ⟨b, j, none⟩ = cs[j]? := by
  simp [World.cell?, h]
theorem frozen_of_blk {b : Nat} {cs : Array Value} (h : w.heap[b]? = some (.cells cs t)) (j : Nat) : w.frozen? ⟨b, j, none⟩ = false := by
  simp [World.frozen?, h]
/-- The part of a row at a place. -/
def at_ (cs : List Value) (o n : Nat) : List Value := (cs.drop o).take n
theorem rd_cel {b o : Nat} {cs xs : List Value} (H : St W (cel b cs t :: l) w) (h : at_ cs o xs.length = xs) : Rd w ⟨b, o, none⟩ xs := by
  intro j v hv
  have hb := H.get
  rw [add_at, cell_of_blk hb]
  have hlt := (List.getElem?_eq_some_iff.1 hv).1
  rw [← h] at hv
  simp only [at_, List.getElem?_take, List.getElem?_drop] at hv
  rw [if_pos hlt] at hv
  simpa using hv
theorem wr_cel {b o n : Nat} {cs : List Value} (H : St W (cel b cs t :: l) w) (h : o + n ≤ cs.length) : Wr w ⟨b, o, none⟩ n := by
  intro j hj
  have hb := H.get
  rw [add_at]
  refine ⟨?_, frozen_of_blk hb _⟩
  rw [cell_of_blk hb]
  have : o + j < cs.toArray.size := by simp; omega
  rw [Array.getElem?_eq_getElem this]; rfl
theorem rdat_cel {α : Type} (T : Ty α) {b o : Nat} {cs : List Value} {x : α} {a : Addr} (H : St W (cel b cs t :: l) w) (ha : a = ⟨b, o, none⟩) (h : at_ cs o (T.cells x).length = T.cells x) : RdAt T a w x := by subst ha; exact rd_cel H h
/-- A row with other values from a place on. -/
def splice (cs : List Value) (o : Nat) (xs : List Value) : List Value := cs.take o ++ xs ++ cs.drop (o + xs.length)
theorem splice_cons (cs : List Value) (o : Nat) (v : Value) (xs : List Value) (h : o < cs.length) : splice (cs.set o v) (o + 1) xs = splice cs o (v :: xs) := by
  simp only [splice, List.length_cons]
  rw [List.drop_set_of_lt (by omega), List.take_set, List.take_add_one]
  have h1 : cs[o]?.toList = [cs[o]] := by rw [List.getElem?_eq_getElem h]; rfl
  rw [h1]
  have h2 : (cs.take o ++ [cs[o]]).set o v = cs.take o ++ [v] := by
    rw [List.set_append_right _ _ (by simp; omega)]
    have : o - (cs.take o).length = 0 := by simp; omega
    rw [this]; rfl
  rw [h2, show o + 1 + xs.length = o + (xs.length + 1) from by omega]
  simp
theorem splice_len (cs : List Value) (o : Nat) (xs : List Value) (h : o + xs.length ≤ cs.length) : (splice cs o xs).length = cs.length := by
  simp [splice]; omega
theorem splice_nil (cs : List Value) (o : Nat) : splice cs o [] = cs := by simp [splice]
theorem setCell_heap {b o : Nat} {cs : Array Value} {fz : Nat × Nat} {v : Value} (h : w.heap[b]? = some (.cells cs t fz)) : (w.setCell ⟨b, o, none⟩ v).heap = w.heap.setIfInBounds b (.cells (cs.setIfInBounds o v) t fz) := by
  have hlt : b < w.heap.size := (Array.getElem?_eq_some_iff.1 h).1
  simp only [World.setCell]
  apply Array.ext_getElem?
  intro i
  rw [Array.getElem?_modify, Array.getElem?_setIfInBounds]
  by_cases e : b = i
  · subst e
    have hb : w.heap[b] = .cells cs t fz := by rw [Array.getElem?_eq_getElem hlt] at h; exact Option.some.inj h
    simp [hlt, hb]
  · simp [e]
theorem putc_cel {b : Nat} : ∀ (xs : List Value) (o i : Nat) (cs : List Value) (w : World), St W (cel b cs t :: l) w → o + i + xs.length ≤ cs.length →
    St W (cel b (splice cs (o + i) xs) t :: l) (putc w ⟨b, o, none⟩ i xs)
  | [], o, i, cs, w, H, _ => by rw [splice_nil]; exact H
  | v :: xs, o, i, cs, w, H, hl => by
    have hb := H.get
    have hlt : o + i < cs.length := by simp at hl; omega
    have H1 : St W (cel b (cs.set (o + i) v) t :: l) (w.setCell ⟨b, o + i, none⟩ v) := H.put rfl rfl rfl (by rw [setCell_heap hb]; simp)
    have := putc_cel xs o (i + 1) (cs.set (o + i) v) _ H1 (by simp at hl ⊢; omega)
    rw [show o + (i + 1) = o + i + 1 from by omega, splice_cons _ _ _ _ hlt] at this
    simpa only [putc, add_at] using this

/-! ### words -/
theorem nw_st {x : α} {k : Addr → World → Prop} (H : St W l w) (hk : ∀ b w', St W (cel b (T.cells x) t :: l) w' → k ⟨b, 0, none⟩ w') : nw t T x w k := hk _ _ (H.alloc _)
theorem nwS_st {xs : List α} {k : Addr → World → Prop} (H : St W l w) (hk : ∀ b w', St W (cel b (xs.flatMap T.cells) t :: l) w' → k ⟨b, 0, none⟩ w') : nwS t T xs w k := hk _ _ (H.alloc _)
theorem nwMap_st {k : Nat → World → Prop} (H : St W l w) (hk : ∀ b w', St W (blk b (.map #[] 0) :: l) w' → k b w') : nwMap w k := hk _ _ (H.alloc _)
theorem dr_st {k : World → Prop} (H : St W l w) (hk : ∀ w', St W l w' → k w') : dr w k := hk _ H.drew
theorem ld_st {b o : Nat} {cs : List Value} {x : α} {a : Addr} {k : α → Prop} (i : Nat) (H : St W l w) (hi : front i l = cel b cs t :: l') (ha : a = ⟨b, o, none⟩) (hx : at_ cs o (T.cells x).length = T.cells x) (hk : k x) : ex (RdAt T a w) k :=
  ⟨x, by subst ha; exact rd_cel (hi ▸ H.front i) hx, hk⟩
theorem st_st {b o : Nat} {cs : List Value} {x : α} {a : Addr} {k : World → Prop} (i : Nat) (H : St W l w) (hi : front i l = cel b cs t :: l') (ha : a = ⟨b, o, none⟩) (hl : o + (T.cells x).length ≤ cs.length)
    (hk : ∀ w', St W (cel b (splice cs o (T.cells x)) t :: l') w' → k w') : st T a x w k := by
  subst ha
  exact ⟨wr_cel (hi ▸ H.front i) hl, hk _ (putc_cel (T.cells x) o 0 cs w (hi ▸ H.front i) (by simpa using hl))⟩
theorem ex_i {α : Type} {C k : α → Prop} (x : α) (h : C x) (hk : k x) : ex C k := ⟨x, h, hk⟩
theorem nc_st {p : Option Addr} {a : Addr} {k : Addr → Prop} (h : p = some a) (hk : k a) : ex (NC p) k := ⟨a, h, hk⟩

/-! ### rows of values: owned, or for ever -/
def orA (A B : Assn) : Assn := ⟨fun I h => A.p I h ∨ B.p I h, fun hI hh h => h.imp (A.mono hI hh) (B.mono hI hh)⟩
theorem St.or (H : St W (orA A B :: l) w) : St W (A :: l) w ∨ St W (B :: l) w := by
  obtain ⟨I, h, a, b, c, h1, h2, ho, l1, l2, hx, hl⟩ := H.mem
  rcases hx with hx | hx
  · exact .inl ⟨H.os, H.tape, H.output, H.size, I, h, a, b, c, h1, h2, ho, l1, l2, hx, hl⟩
  · exact .inr ⟨H.os, H.tape, H.output, H.size, I, h, a, b, c, h1, h2, ho, l1, l2, hx, hl⟩
theorem St.inl (H : St W (A :: l) w) : St W (orA A B :: l) w := H.imp fun _ _ ⟨h1, h2, ho, l1, l2, ha, hl⟩ => ⟨h1, h2, ho, l1, l2, .inl ha, hl⟩
theorem St.inr (H : St W (B :: l) w) : St W (orA A B :: l) w := H.imp fun _ _ ⟨h1, h2, ho, l1, l2, ha, hl⟩ => ⟨h1, h2, ho, l1, l2, .inr ha, hl⟩
def nilS : Slc := ⟨none, 0, 0⟩
/-- An owned slice with its spare room. -/
def row (T : Ty α) (t : TypeId) (sz : Nat) (s : Slc) (xs : List α) : Assn :=
  orA (puA (s = nilS ∧ xs = [])) (exA fun b => exA fun rest => sepA [puA (s.a = some ⟨b, 0, none⟩ ∧ s.len = xs.length ∧ s.len ≤ s.cap ∧ (s.cap - s.len) * sz ≤ rest.length), cel b (xs.flatMap T.cells ++ rest) t])
/-- A slice that stays as it is. -/
def RoP (T : Ty α) (s : Slc) (xs : List α) (I : PMap) : Prop :=
  xs.length = s.len ∧ (xs = [] ∨ ∃ b o arr t fz, s.a = some ⟨b, o, none⟩ ∧ I b = some (.cells arr t fz) ∧ ∀ j v, (xs.flatMap T.cells)[j]? = some v → arr[o + j]? = some v)
theorem RoP.mono {s : Slc} {xs : List α} {I I' : PMap} (h : PMap.le I I') : RoP T s xs I → RoP T s xs I' := fun ⟨h1, h2⟩ =>
  ⟨h1, h2.imp id fun ⟨b, o, arr, t, fz, h3, h4, h5⟩ => ⟨b, o, arr, t, fz, h3, h _ _ h4, h5⟩⟩
def ro (T : Ty α) (s : Slc) (xs : List α) : Assn := ever (RoP T s xs) RoP.mono

theorem row_nil (T : Ty α) (t : TypeId) (sz : Nat) (H : St W l w) : St W (row T t sz nilS [] :: l) w := St.inl (St.toPu ⟨rfl, rfl⟩ H)
theorem row_open {sz : Nat} {s : Slc} {xs : List α} (H : St W (row T t sz s xs :: l) w) :
    (s = nilS ∧ xs = [] ∧ St W l w) ∨ ∃ b rest, s.a = some ⟨b, 0, none⟩ ∧ s.len = xs.length ∧ s.len ≤ s.cap ∧ (s.cap - s.len) * sz ≤ rest.length ∧ St W (cel b (xs.flatMap T.cells ++ rest) t :: l) w := by
  rcases H.or with H | H
  · obtain ⟨⟨h1, h2⟩, H⟩ := H.pu
    exact .inl ⟨h1, h2, H⟩
  · obtain ⟨b, H⟩ := H.ex
    obtain ⟨rest, H⟩ := H.ex
    have H := H.open_
    obtain ⟨⟨h1, h2, h3, h4⟩, H⟩ := St.pu (φ := s.a = some ⟨b, 0, none⟩ ∧ s.len = xs.length ∧ s.len ≤ s.cap ∧ (s.cap - s.len) * sz ≤ rest.length) H
    exact .inr ⟨b, rest, h1, h2, h3, h4, H⟩
theorem row_shut {sz b : Nat} {rest : List Value} {s : Slc} {xs : List α} (h1 : s.a = some ⟨b, 0, none⟩) (h2 : s.len = xs.length) (h3 : s.len ≤ s.cap) (h4 : (s.cap - s.len) * sz ≤ rest.length) (H : St W (cel b (xs.flatMap T.cells ++ rest) t :: l) w) :
    St W (row T t sz s xs :: l) w := St.inr (St.toEx b (St.toEx rest (St.shut (l' := [puA _, cel b (xs.flatMap T.cells ++ rest) t]) (St.toPu ⟨h1, h2, h3, h4⟩ H))))
theorem row_new {sz b : Nat} {xs : List α} {m : Nat} (hm : m = xs.length) (H : St W (cel b (xs.flatMap T.cells) t :: l) w) : St W (row T t sz ⟨some ⟨b, 0, none⟩, m, m⟩ xs :: l) w :=
  row_shut (rest := []) rfl hm (Nat.le_refl _) (by simp) (by rw [List.append_nil]; exact H)
theorem row_len {sz : Nat} {s : Slc} {xs : List α} (H : St W (row T t sz s xs :: l) w) : s.len = xs.length := by
  rcases row_open H with ⟨rfl, rfl, _⟩ | ⟨b, rest, _, h, _⟩
  · rfl
  · exact h
theorem ro_len {s : Slc} {xs : List α} (H : St W (ro T s xs :: l) w) : s.len = xs.length := by
  obtain ⟨I, _, h⟩ := H.everI; exact h.1.symm
/-- From now on it stays. -/
theorem row_stay {sz : Nat} {s : Slc} {xs : List α} (H : St W (row T t sz s xs :: l) w) : St W (ro T s xs :: l) w := by
  rcases row_open H with ⟨rfl, rfl, H0⟩ | ⟨b, rest, h1, h2, h3, h4, H⟩
  · exact H0.imp fun I h hl => ⟨fun _ => none, h, fun _ => .inl rfl, fun _ _ h => (by cases h), PMap.le_refl _, ⟨rfl, .inl rfl⟩, hl⟩
  · refine St.impEver (fun I hI => ⟨h2.symm, .inr ⟨b, 0, _, t, (0, 0), h1, hI, ?_⟩⟩) H.stay
    intro j v hv
    have hlt := (List.getElem?_eq_some_iff.1 hv).1
    rw [Nat.zero_add]
    simp only [List.getElem?_toArray]
    rw [List.getElem?_append_left hlt]; exact hv
theorem roA_nil (T : Ty α) (H : St W l w) : St W (ro T nilS [] :: l) w := row_stay (sz := 0) (t := 0) (row_nil T 0 0 H)
theorem flat_at {sz : Nat} (hl : ∀ x, (T.cells x).length = sz) : ∀ (xs : List α) (i : Nat) (x : α), xs[i]? = some x → ∀ j v, (T.cells x)[j]? = some v → (xs.flatMap T.cells)[i * sz + j]? = some v
  | [], i, x, h, _, _, _ => by simp at h
  | y :: xs, 0, x, h, j, v, hv => by
    simp at h; subst h
    have hlt := (List.getElem?_eq_some_iff.1 hv).1
    rw [List.flatMap_cons, Nat.zero_mul, Nat.zero_add, List.getElem?_append_left hlt]; exact hv
  | y :: xs, i + 1, x, h, j, v, hv => by
    have ih := flat_at hl xs i x (by simpa using h) j v hv
    rw [List.flatMap_cons, List.getElem?_append_right (by rw [hl, Nat.add_mul]; omega), hl]
    rw [show (i + 1) * sz + j - sz = i * sz + j from by rw [Nat.add_mul]; omega]; exact ih

/-! ### reading by an index -/
theorem rd_row {sz : Nat} {s : Slc} {xs : List α} {i : Int} {a : Addr} {x : α} (hl : ∀ x, (T.cells x).length = sz) (ha : IxA s sz i a) (hx : xs[i.toNat]? = some x) (H : St W (row T t sz s xs :: l) w) : Rd w a (T.cells x) := by
  obtain ⟨c, hc, h0, h1, rfl⟩ := ha
  rcases row_open H with ⟨rfl, rfl, H⟩ | ⟨b, rest, h2, h3, h4, h5, H⟩
  · cases hc
  · rw [h2] at hc; injection hc with hc; subst hc
    have hb := H.get
    intro j v hv
    rw [add_at, add_at, cell_of_blk hb, Nat.zero_add]
    have := flat_at hl xs i.toNat x hx j v hv
    have hlt := (List.getElem?_eq_some_iff.1 this).1
    simp only [List.getElem?_toArray]
    rw [List.getElem?_append_left hlt]; exact this
theorem rd_ro {sz : Nat} {s : Slc} {xs : List α} {i : Int} {a : Addr} {x : α} (hl : ∀ x, (T.cells x).length = sz) (ha : IxA s sz i a) (hx : xs[i.toNat]? = some x) (H : St W (ro T s xs :: l) w) : Rd w a (T.cells x) := by
  obtain ⟨c, hc, h0, h1, rfl⟩ := ha
  obtain ⟨I, hI, h2, h3 | ⟨b, o, arr, t', fz, h4, h5, h6⟩⟩ := H.everI
  · rw [h3] at hx; simp at hx
  · rw [h4] at hc; injection hc with hc; subst hc
    intro j v hv
    rw [add_at, add_at, cell_of_blk (hI _ _ h5)]
    rw [show o + i.toNat * sz + j = o + (i.toNat * sz + j) from by omega]
    exact h6 _ _ (flat_at hl xs i.toNat x hx j v hv)
theorem ixa_row {sz : Nat} {s : Slc} {xs : List α} {i : Int} {k : Addr → Prop} (H : St W (row T t sz s xs :: l) w) (h0 : 0 ≤ i) (h1 : i < xs.length) (hk : ∀ a, IxA s sz i a → k a) : ex (IxA s sz i) k := by
  rcases row_open H with ⟨rfl, rfl, H⟩ | ⟨b, rest, h2, h3, _⟩
  · simp at h1; omega
  · exact ⟨_, ⟨_, h2, h0, by omega, rfl⟩, hk _ ⟨_, h2, h0, by omega, rfl⟩⟩
theorem ixa_ro {sz : Nat} {s : Slc} {xs : List α} {i : Int} {k : Addr → Prop} (H : St W (ro T s xs :: l) w) (h0 : 0 ≤ i) (h1 : i < xs.length) (hk : ∀ a, IxA s sz i a → k a) : ex (IxA s sz i) k := by
  obtain ⟨I, hI, h2, h3 | ⟨b, o, arr, t', fz, h4, h5, h6⟩⟩ := H.everI
  · rw [h3] at h1; simp at h1; omega
  · exact ⟨_, ⟨_, h4, h0, by omega, rfl⟩, hk _ ⟨_, h4, h0, by omega, rfl⟩⟩
theorem Rd_sub {a : Addr} {cs ys : List Value} {o : Nat} (h : Rd w a cs) (ha : a.spot = none) (hs : at_ cs o ys.length = ys) : Rd w (a.add o) ys := by
  intro j v hv
  have hlt := (List.getElem?_eq_some_iff.1 hv).1
  rw [← hs] at hv
  simp only [at_, List.getElem?_take, List.getElem?_drop] at hv
  rw [if_pos hlt] at hv
  have := h (o + j) v hv
  obtain ⟨b, p, q⟩ := a
  simp only at ha; subst ha
  rw [add_at, add_at] at *
  rw [show p + o + j = p + (o + j) from by omega]; exact this

/-! ### append to an owned slice -/
theorem grow_fit {a b c : Nat} (h : a ≤ b) (k : b * c ≤ 140737488355328) : a * c ≤ 140737488355328 := Nat.le_trans (Nat.mul_le_mul_right c h) k
theorem RdO_row {sz : Nat} {s : Slc} {xs : List α} (H : St W (row T t sz s xs :: l) w) : RdS T w s xs := by
  rcases row_open H with ⟨rfl, rfl, H⟩ | ⟨b, rest, h2, h3, h4, h5, H⟩
  · exact ⟨rfl, rfl⟩
  · refine ⟨h3.symm, ?_⟩
    rw [h2]
    have hb := H.get
    intro j v hv
    have hlt := (List.getElem?_eq_some_iff.1 hv).1
    rw [add_at, cell_of_blk hb, Nat.zero_add]
    simp only [List.getElem?_toArray]
    rw [List.getElem?_append_left hlt]; exact hv
theorem RdO_ro {s : Slc} {xs : List α} (H : St W (ro T s xs :: l) w) : RdS T w s xs := by
  obtain ⟨I, hI, h2, h3 | ⟨b, o, arr, t', fz, h4, h5, h6⟩⟩ := H.everI
  · refine ⟨h2, ?_⟩
    subst h3
    generalize s.a = q
    cases q with
    | none => rfl
    | some a => intro j v hv; simp at hv
  · refine ⟨h2, ?_⟩
    rw [h4]
    intro j v hv
    rw [add_at, cell_of_blk (hI _ _ h5)]
    exact h6 _ _ hv
theorem app_row {sz by_ : Nat} {s : Slc} {xs new : List α} {k : Slc → World → Prop} (hl : ∀ x, (T.cells x).length = sz) (H : St W (row T t sz s xs :: l) w) (hb : (xs.length + new.length) * by_ ≤ 140737488355328)
    (hk : ∀ r w', St W (row T t sz r (xs ++ new) :: l) w' → k r w') : app t T sz by_ s new w k := by
  have hn := row_len H
  have hrd := RdO_row H
  refine ⟨fun hc => ?_, fun hc => ⟨by rw [hn]; exact hb, xs, hrd, fun c rest h1 h2 => ?_⟩⟩
  · rcases row_open H with ⟨rfl, rfl, H0⟩ | ⟨b, rest, h2, h3, h4, h5, H⟩
    · have h0 : new = [] := by
        cases new with
        | nil => rfl
        | cons => simp [nilS] at hc
      subst h0
      exact hk _ _ (row_nil T t sz H0)
    · rw [h2]
      simp only [add_at, Nat.zero_add]
      have hfl : (xs.flatMap T.cells).length = s.len * sz := by rw [flat_len hl, h3]
      have hnl : (new.flatMap T.cells).length = new.length * sz := flat_len hl _
      have hrl : new.length * sz ≤ rest.length := Nat.le_trans (Nat.mul_le_mul_right sz (by omega)) h5
      refine ⟨wr_cel H (by simp [hfl]; omega), hk _ _ ?_⟩
      have := putc_cel (new.flatMap T.cells) (s.len * sz) 0 _ _ H (by simp [hfl, hnl]; omega)
      refine row_shut (rest := rest.drop (new.length * sz)) rfl (by simp; omega) (by simpa using hc) (by
        rw [List.length_drop]
        have e : (s.cap - (s.len + new.length)) * sz = (s.cap - s.len) * sz - new.length * sz := by rw [← Nat.sub_mul]; congr 1; omega
        simp only
        rw [e]; omega) ?_
      have e : splice (xs.flatMap T.cells ++ rest) (s.len * sz + 0) (new.flatMap T.cells) = (xs ++ new).flatMap T.cells ++ rest.drop (new.length * sz) := by
        simp only [splice, Nat.add_zero, hnl]
        rw [← hfl, List.take_left, List.drop_append]
        simp
      rw [e] at this
      exact this
  · have H1 : St W l w.drew := (H.drop).drew
    refine hk _ _ (row_shut rfl (by simp; omega) h1 (by simpa using Nat.le_of_eq h2.symm) (H1.alloc _))
theorem apl_row {sz by_ : Nat} {s : Slc} {xs new : List α} {k : Slc → World → Prop} (hl : ∀ x, (T.cells x).length = sz) (i : Nat) (H : St W l w) (hi : front i l = row T t sz s xs :: l') (hb : (xs.length + new.length) * by_ ≤ 140737488355328)
    (hk : ∀ r w', St W (row T t sz r (xs ++ new) :: l') w' → k r w') : apl t T sz by_ s new w k := by
  have H1 : St W (row T t sz s xs :: l') w := hi ▸ H.front i
  have H2 := H1.alloc (.cells (new.flatMap T.cells).toArray t)
  exact app_row hl H2.drop hb hk
/-- append(s, xs...) of what may be read. -/
theorem apd_row {sz by_ : Nat} {s b : Slc} {xs new : List α} {k : Slc → World → Prop} (hl : ∀ x, (T.cells x).length = sz) (i : Nat) (H : St W l w) (hi : front i l = row T t sz s xs :: l') (hn : RdS T w b new) (hb : (xs.length + new.length) * by_ ≤ 140737488355328)
    (hk : ∀ r w', St W (row T t sz r (xs ++ new) :: l') w' → k r w') : apd t T sz by_ s b w k :=
  ⟨new, hn, app_row hl (hi ▸ H.front i) hb hk⟩
end
end Go.Proofs.YtpdaapffkdejoaaGreat.Cf
