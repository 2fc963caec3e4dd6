/- Agreement: plainly, arrays, walk (merged from wip/ballot BH BI BJ BK BL). -/
import Derived.Test.YtjkmeooncmhonaaBQ
import Derived.Test.YtjkmeooncmhonaaOp
import Derived.Test.YtjkmeooncmhonaaFL6
namespace Go.Proofs.Ytjkmeooncmhonaa.Ballot
open Go Go.Proofs.Ytjkmeooncmhonaa.Cf Go.Proofs.Ytjkmeooncmhonaa.Wire Go.Proofs.Ytjkmeooncmhonaa.Disk
set_option linter.unusedVariables false
set_option linter.unusedSimpArgs false
set_option maxRecDepth 100000
/-! ### majorities -/
def cnt (p : Nat → Bool) (n : Nat) : Nat := ((List.range n).filter p).length
theorem cnt_succ (p : Nat → Bool) (n : Nat) : cnt p (n + 1) = cnt p n + (if p n then 1 else 0) := by
  unfold cnt
  rw [List.range_succ, List.filter_append, List.length_append]
  congr 1
  by_cases h : p n <;> simp [h]
theorem cnt_le (p : Nat → Bool) (n : Nat) : cnt p n ≤ n := by
  unfold cnt
  have := List.length_filter_le p (List.range n)
  simpa using this
theorem cnt_mono {p q : Nat → Bool} : ∀ {n : Nat}, (∀ k, k < n → p k = true → q k = true) → cnt p n ≤ cnt q n
  | 0, _ => by simp [cnt]
  | n + 1, h => by
    have ih := cnt_mono (p := p) (q := q) (n := n) fun k hk => h k (by omega)
    rw [cnt_succ, cnt_succ]
    by_cases hp : p n = true
    · rw [if_pos hp, if_pos (h n (by omega) hp)]; omega
    · rw [if_neg hp]; omega
theorem cnt_meet {p q : Nat → Bool} : ∀ {n : Nat}, (∀ k, k < n → ¬ (p k = true ∧ q k = true)) → cnt p n + cnt q n ≤ n
  | 0, _ => by simp [cnt]
  | n + 1, h => by
    have ih := cnt_meet (p := p) (q := q) (n := n) fun k hk => h k (by omega)
    have hn := h n (by omega)
    rw [cnt_succ, cnt_succ]
    by_cases hp : p n = true
    · by_cases hq : q n = true
      · exact absurd ⟨hp, hq⟩ hn
      · rw [if_pos hp, if_neg hq]; omega
    · rw [if_neg hp]
      split <;> omega
def Maj (n : Nat) (p : Nat → Bool) : Prop := n < 2 * cnt p n
theorem Maj.meet {n : Nat} {p q : Nat → Bool} (h1 : Maj n p) (h2 : Maj n q) : ∃ k, k < n ∧ p k = true ∧ q k = true := by
  apply Classical.byContradiction
  intro h
  have := cnt_meet (p := p) (q := q) (n := n) fun k hk hh => h ⟨k, hk, hh⟩
  unfold Maj at h1 h2
  omega
theorem Maj.mono {n : Nat} {p q : Nat → Bool} (h1 : Maj n p) (h : ∀ k, k < n → p k = true → q k = true) : Maj n q := by
  have := cnt_mono h
  unfold Maj at *
  omega
/-! ### votes come from records -/
theorem vote_rec {n : Int} {x : Vote} : ∀ {rs : List Rec} {s : Int × Es}, (rs.foldl stepR s).2.lookup n = some x → Rec.acc x.B n x.V ∈ rs ∨ s.2.lookup n = some x
  | [], _, h => .inr h
  | r :: rs, s, h => by
    rcases vote_rec (rs := rs) (s := stepR s r) h with h | h
    · exact .inl (by simp [h])
    · cases r with
      | prom b => exact .inr h
      | acc b m v =>
        simp only [stepR] at h
        rw [lookup_ups] at h
        by_cases c : n = m
        · subst c
          rw [if_pos (by simp)] at h
          cases h
          exact .inl (by simp)
        · rw [if_neg (by simpa using c)] at h
          exact .inr h
theorem accR_took {rs : List Rec} {b n : Int} {v : List UInt8} (h : (accR rs b n v).2 = 0) : ∃ x, (fold (accR rs b n v).1).2.lookup n = some x ∧ x.B = b := by
  unfold accR at h ⊢
  split at h
  · simp at h
  · rename_i c1
    rw [if_neg c1]
    split at h
    · simp at h
    · rename_i c2
      rw [if_neg c2]
      split at h
      · simp at h
      · rename_i c3
        rw [if_neg c3]
        split at h
        · rename_i c4
          exact absurd h c4
        · rename_i c4
          rw [if_neg c4]
          have new : ∃ x : Vote, (fold (rs ++ [.acc b n v])).2.lookup n = some x ∧ x.B = b := by
            rw [fold_app]
            simp only [stepR]
            rw [lookup_ups, if_pos (by simp)]
            exact ⟨_, rfl, rfl⟩
          cases hlk : (fold rs).2.lookup n with
          | none => exact new
          | some o =>
            rw [hlk] at h
            simp only at h ⊢
            by_cases cB : o.B = b
            · rw [if_pos cB] at h ⊢
              split
              · exact ⟨o, hlk, cB⟩
              · exact ⟨o, hlk, cB⟩
            · rw [if_neg cB]
              exact new
theorem accR_mem {rs : List Rec} {b n : Int} {v : List UInt8} {r : Rec} (h : r ∈ (accR rs b n v).1) : r ∈ rs ∨ r = .acc b n v := by
  unfold accR at h
  split at h
  · exact .inl h
  · split at h
    · exact .inl h
    · split at h
      · exact .inl h
      · split at h
        · exact .inl h
        · split at h
          · split at h
            · split at h <;> exact .inl h
            · rcases List.mem_append.1 h with h | h
              · exact .inl h
              · exact .inr (by simpa using h)
          · rcases List.mem_append.1 h with h | h
            · exact .inl h
            · exact .inr (by simpa using h)
theorem prepR_mem {rs : List Rec} {b : Int} {r : Rec} (h : r ∈ (prepR rs b).1) : r ∈ rs ∨ r = .prom b := by
  unfold prepR at h
  split at h
  · exact .inl h
  · split at h
    · rcases List.mem_append.1 h with h | h
      · exact .inl h
      · exact .inr (by simpa using h)
    · exact .inl h
/-! ### picking -/
theorem pick_look : ∀ {xs : List Vote} {es : Es} {s : Int}, (∀ e ∈ es, e.2.Slot = e.1) → (match (xs.foldl pick1 es).lookup s with
    | none => es.lookup s = none ∧ ∀ x ∈ xs, x.Slot ≠ s
    | some y => y.Slot = s ∧ (y ∈ xs ∨ es.lookup s = some y) ∧ (∀ x ∈ xs, x.Slot = s → x.B ≤ y.B) ∧ ∀ x, es.lookup s = some x → x.B ≤ y.B)
  | [], es, s, h => by
    simp only [List.foldl_nil]
    cases hl : es.lookup s with
    | none => simp
    | some y =>
      have := h _ (lookup_mem hl)
      simp only at this
      exact ⟨this, .inr rfl, by simp, fun x hx => by cases hx; exact Int.le_refl _⟩
  | x :: xs, es, s, h => by
    have h2 : ∀ e ∈ pick1 es x, e.2.Slot = e.1 := by
      intro e he
      rcases pick1_mem he with rfl | he
      · rfl
      · exact h e he
    have ih := pick_look (xs := xs) (es := pick1 es x) (s := s) h2
    simp only [List.foldl_cons]
    have hp : (pick1 es x).lookup s = if s = x.Slot then (match es.lookup s with
        | none => some x
        | some y => if y.B < x.B then some x else some y) else es.lookup s := by
      by_cases c : s = x.Slot
      · subst c
        rw [if_pos rfl]
        cases hl : es.lookup x.Slot with
        | none => rw [pick1_none hl, lookup_ups]; simp
        | some y =>
          by_cases hB : y.B < x.B
          · rw [pick1_gt hl hB, lookup_ups]; simp [hB]
          · rw [pick1_le hl hB, hl]; simp [hB]
      · rw [if_neg c]
        cases hl : es.lookup x.Slot with
        | none => rw [pick1_none hl, lookup_ups, if_neg (by simpa using c)]
        | some y =>
          by_cases hB : y.B < x.B
          · rw [pick1_gt hl hB, lookup_ups, if_neg (by simpa using c)]
          · rw [pick1_le hl hB]
    rw [hp] at ih
    cases hf : (xs.foldl pick1 (pick1 es x)).lookup s with
    | none =>
      rw [hf] at ih
      simp only at ih
      obtain ⟨i1, i2⟩ := ih
      by_cases c : s = x.Slot
      · rw [if_pos c] at i1
        cases hl : es.lookup s with
        | none => rw [hl] at i1; simp at i1
        | some y =>
          rw [hl] at i1
          simp only at i1
          split at i1 <;> simp at i1
      · rw [if_neg c] at i1
        refine ⟨i1, fun y hy => ?_⟩
        rcases List.mem_cons.1 hy with rfl | hy
        · exact fun e => c e.symm
        · exact i2 y hy
    | some y =>
      rw [hf] at ih
      simp only at ih ⊢
      obtain ⟨i1, i2, i3, i4⟩ := ih
      refine ⟨i1, ?_, ?_, ?_⟩
      · rcases i2 with i2 | i2
        · exact .inl (by simp [i2])
        · by_cases c : s = x.Slot
          · rw [if_pos c] at i2
            cases hl : es.lookup s with
            | none =>
              rw [hl] at i2
              cases i2
              exact .inl (by simp)
            | some z =>
              rw [hl] at i2
              simp only at i2
              split at i2
              · cases i2; exact .inl (by simp)
              · exact .inr i2
          · rw [if_neg c] at i2
            exact .inr i2
      · intro z hz he
        rcases List.mem_cons.1 hz with rfl | hz
        · rw [if_pos he.symm] at i4
          cases hl : es.lookup s with
          | none => rw [hl] at i4; exact i4 _ rfl
          | some u =>
            rw [hl] at i4
            simp only at i4
            by_cases hB : u.B < z.B
            · rw [if_pos hB] at i4; exact i4 _ rfl
            · rw [if_neg hB] at i4
              have := i4 _ rfl
              omega
        · exact i3 z hz he
      · intro z hz
        by_cases c : s = x.Slot
        · rw [if_pos c, hz] at i4
          simp only at i4
          by_cases hB : z.B < x.B
          · rw [if_pos hB] at i4
            have := i4 _ rfl
            omega
          · rw [if_neg hB] at i4
            exact i4 _ rfl
        · rw [if_neg c] at i4
          exact i4 z hz
theorem pickE_none {xs : List Vote} {s : Int} (h : (pickE xs).lookup s = none) : ∀ x ∈ xs, x.Slot ≠ s := by
  have := pick_look (xs := xs) (es := []) (s := s) (by simp)
  unfold pickE at h
  rw [h] at this
  exact this.2
theorem pickE_some {xs : List Vote} {s : Int} {y : Vote} (h : (pickE xs).lookup s = some y) : y.Slot = s ∧ y ∈ xs ∧ ∀ x ∈ xs, x.Slot = s → x.B ≤ y.B := by
  have := pick_look (xs := xs) (es := []) (s := s) (by simp)
  unfold pickE at h
  rw [h] at this
  obtain ⟨h1, h2, h3, _⟩ := this
  exact ⟨h1, by simpa using h2, h3⟩
/-! ### the invariant -/
structure Play where
  rs : Nat → List Rec
  sr : Nat → Nat
  said : Int → Nat → Bool
  E : Int → Nat → List Vote
  fixed : Int → Int → Bool
  value : Int → Int → List UInt8
  took : Int → Int → Nat → Bool
  is : Int → Bool
  chosen : Int → List UInt8
def Play.sure (X : Play) (k : Nat) : Int × Es := fold ((X.rs k).take (X.sr k))
structure Inv (n : Nat) (X : Play) : Prop where
  leg : ∀ k, k < n → Legal (0, []) (X.rs k) ∧ X.sr k ≤ (X.rs k).length
  recs : ∀ k, k < n → ∀ b m v, Rec.acc b m v ∈ X.rs k → X.fixed b m = true ∧ X.value b m = v
  said : ∀ b k, X.said b k = true → k < n ∧ b ≤ (X.sure k).1
  took : ∀ b s k, X.took b s k = true → k < n ∧ X.fixed b s = true ∧ ∃ x, (X.sure k).2.lookup s = some x ∧ b ≤ x.B
  heard : ∀ b k, ∀ x ∈ X.E b k, X.said b k = true ∧ x.B ≤ b ∧ X.fixed x.B x.Slot = true ∧ X.value x.B x.Slot = x.V
  told : ∀ b k b' s, X.said b k = true → X.took b' s k = true → b' < b → ∃ x ∈ X.E b k, x.Slot = s ∧ b' ≤ x.B
  safe : ∀ b s b', X.fixed b s = true → b' < b → (X.fixed b' s = true ∧ X.value b' s = X.value b s) ∨ ∃ c, b' < c ∧ Maj n fun k => X.said c k && !X.took b' s k
  one : ∀ s, X.is s = true → ∃ b, X.fixed b s = true ∧ X.chosen s = X.value b s ∧ Maj n fun k => X.took b s k
def up1 {α : Type} (f : Nat → α) (k : Nat) (v : α) : Nat → α := fun j => if j = k then v else f j
theorem up1_at {α : Type} (f : Nat → α) (k : Nat) (v : α) : up1 f k v k = v := by simp [up1]
theorem up1_ne {α : Type} {f : Nat → α} {k j : Nat} {v : α} (h : j ≠ k) : up1 f k v j = f j := by simp [up1, h]
/-- An acceptor's records change: it knows no less for sure, and has no votes but rightful ones. -/
theorem Inv.recsStep {n : Nat} {X : Play} (h : Inv n X) {k : Nat} (hk : k < n) {rs' : List Rec} {sr' : Nat} (hl : Legal (0, []) rs') (hs : sr' ≤ rs'.length)
    (hle : Lee (X.sure k) (fold (rs'.take sr'))) (hr : ∀ b m v, Rec.acc b m v ∈ rs' → X.fixed b m = true ∧ X.value b m = v) :
    Inv n { X with rs := up1 X.rs k rs', sr := up1 X.sr k sr' } := by
  have sure : ∀ j, Lee (X.sure j) (Play.sure { X with rs := up1 X.rs k rs', sr := up1 X.sr k sr' } j) := by
    intro j
    unfold Play.sure
    by_cases c : j = k
    · subst c
      simp only [up1_at]
      exact hle
    · simp only [up1_ne c]
      exact Lee.refl
  refine ⟨fun j hj => ?_, fun j hj b m v hm => ?_, fun b j hj => ?_, fun b s j hj => ?_, h.heard, h.told, h.safe, h.one⟩
  · by_cases c : j = k
    · subst c
      simp only [up1_at]
      exact ⟨hl, hs⟩
    · simp only [up1_ne c]
      exact h.leg j hj
  · by_cases c : j = k
    · subst c
      simp only [up1_at] at hm
      exact hr b m v hm
    · simp only [up1_ne c] at hm
      exact h.recs j hj b m v hm
  · have := h.said b j hj
    exact ⟨this.1, Int.le_trans this.2 (sure j).p⟩
  · obtain ⟨h1, h2, x, h3, h4⟩ := h.took b s j hj
    obtain ⟨y, hy, h5⟩ := (sure j).v s x h3
    refine ⟨h1, h2, y, hy, ?_⟩
    rcases h5 with h5 | rfl
    · omega
    · exact h4
/-- A promise is heard. -/
theorem Inv.hear {n : Nat} {X : Play} (h : Inv n X) {k : Nat} {b : Int} (hk : k < n) (hs : X.sr k = (X.rs k).length) (hb : (X.sure k).1 = b) (hn : X.said b k = false) :
    Inv n { X with said := fun c j => if c = b ∧ j = k then true else X.said c j, E := fun c j => if c = b ∧ j = k then listV (X.sure k).2 else X.E c j } := by
  have hsure : X.sure k = fold (X.rs k) := by unfold Play.sure; rw [hs, List.take_length]
  have g : Good (X.sure k) := by rw [hsure]; exact good_fold (h.leg k hk).1
  have mono : ∀ c j, X.said c j = true → (if c = b ∧ j = k then true else X.said c j) = true := by
    intro c j hc
    split
    · rfl
    · exact hc
  refine ⟨h.leg, h.recs, fun c j hj => ?_, h.took, fun c j x hx => ?_, fun c j b' s hj ht hlt => ?_, fun c s b' hf hlt => ?_, h.one⟩
  · simp only at hj
    by_cases e : c = b ∧ j = k
    · obtain ⟨rfl, rfl⟩ := e
      exact ⟨hk, by show c ≤ (X.sure j).1; omega⟩
    · rw [if_neg e] at hj
      exact h.said c j hj
  · simp only at hx ⊢
    by_cases e : c = b ∧ j = k
    · rw [if_pos e] at hx ⊢
      obtain ⟨rfl, rfl⟩ := e
      have h1 := listV_ok g hx
      have h2 := (listV_mem g).1 hx
      rw [hsure] at h2
      have h3 := vote_rec (rs := X.rs j) (s := (0, [])) h2
      simp at h3
      have h4 := h.recs j hk _ _ _ h3
      exact ⟨rfl, by omega, h4.1, h4.2⟩
    · rw [if_neg e] at hx ⊢
      exact h.heard c j x hx
  · simp only at hj ⊢
    by_cases e : c = b ∧ j = k
    · rw [if_pos e]
      obtain ⟨rfl, rfl⟩ := e
      obtain ⟨_, _, x, h3, h4⟩ := h.took b' s j ht
      have h5 := (g.ok _ (lookup_mem h3)).1
      simp only at h5
      exact ⟨x, (listV_mem g).2 (by rw [h5]; exact h3), h5, h4⟩
    · rw [if_neg e] at hj ⊢
      exact h.told c j b' s hj ht hlt
  · rcases h.safe c s b' hf hlt with h1 | ⟨d, h1, h2⟩
    · exact .inl h1
    · refine .inr ⟨d, h1, h2.mono fun j _ hj => ?_⟩
      simp only [Bool.and_eq_true] at hj ⊢
      exact ⟨mono d j hj.1, hj.2⟩
/-- A proposer settles what it proposes. -/
theorem Inv.fix {n : Nat} {X : Play} (h : Inv n X) {b s : Int} {v : List UInt8} {xs : List Vote} (hm : Maj n fun k => X.said b k) (hn : X.fixed b s = false) (hx1 : ∀ k, k < n → ∀ x ∈ X.E b k, x ∈ xs) (hx2 : ∀ x ∈ xs, ∃ k, x ∈ X.E b k)
    (hv : ∀ y, (pickE xs).lookup s = some y → v = y.V) :
    Inv n { X with fixed := fun c m => if c = b ∧ m = s then true else X.fixed c m, value := fun c m => if c = b ∧ m = s then v else X.value c m } := by
  have fx : ∀ c m, X.fixed c m = true → ((if c = b ∧ m = s then true else X.fixed c m) = true ∧ (if c = b ∧ m = s then v else X.value c m) = X.value c m) := by
    intro c m hc
    have : ¬ (c = b ∧ m = s) := by
      rintro ⟨rfl, rfl⟩
      rw [hn] at hc
      cases hc
    rw [if_neg this, if_neg this]
    exact ⟨hc, rfl⟩
  refine ⟨h.leg, fun k hk c m u hu => ?_, h.said, fun c m k hk => ?_, fun c k x hx => ?_, h.told, fun c m b' hf hlt => ?_, fun m hi => ?_⟩
  · have := h.recs k hk c m u hu
    have f := fx c m this.1
    exact ⟨f.1, f.2.trans this.2⟩
  · have := h.took c m k hk
    exact ⟨this.1, (fx c m this.2.1).1, this.2.2⟩
  · have := h.heard c k x hx
    have f := fx _ _ this.2.2.1
    exact ⟨this.1, this.2.1, f.1, f.2.trans this.2.2.2⟩
  · simp only at hf ⊢
    by_cases e : c = b ∧ m = s
    · obtain ⟨rfl, rfl⟩ := e
      rw [if_pos (show c = c ∧ m = m from ⟨rfl, rfl⟩)]
      -- votes of a lower ballot
      cases hp : (pickE xs).lookup m with
      | none =>
        right
        refine ⟨c, hlt, hm.mono fun k hk hs => ?_⟩
        simp only [Bool.and_eq_true, Bool.not_eq_true']
        refine ⟨hs, ?_⟩
        cases ht : X.took b' m k with
        | false => rfl
        | true =>
          obtain ⟨x, hx, h1, _⟩ := h.told c k b' m hs ht hlt
          exact absurd h1 (pickE_none hp x (hx1 k hk x hx))
      | some y =>
        obtain ⟨y1, y2, y3⟩ := pickE_some hp
        obtain ⟨k0, hk0⟩ := hx2 y y2
        obtain ⟨_, z2, z3, z4⟩ := h.heard c k0 y hk0
        rw [y1] at z3 z4
        have hyc : y.B < c := by
          rcases Int.lt_or_le y.B c with h | h
          · exact h
          · have : y.B = c := by omega
            rw [this, hn] at z3
            cases z3
        have hvy := hv y hp
        rcases Int.lt_trichotomy b' y.B with hb | hb | hb
        · rcases h.safe y.B m b' z3 hb with ⟨h1, h2⟩ | h1
          · left
            have f := fx b' m h1
            refine ⟨f.1, ?_⟩
            rw [f.2, h2, z4, hvy]
          · exact .inr h1
        · left
          subst hb
          have f := fx y.B m z3
          exact ⟨f.1, by rw [f.2, z4, hvy]⟩
        · right
          refine ⟨c, hlt, hm.mono fun k hk hs => ?_⟩
          simp only [Bool.and_eq_true, Bool.not_eq_true']
          refine ⟨hs, ?_⟩
          cases ht : X.took b' m k with
          | false => rfl
          | true =>
            obtain ⟨x, hx, h1, h2⟩ := h.told c k b' m hs ht hlt
            have := y3 x (hx1 k hk x hx) h1
            omega
    · rw [if_neg e] at hf
      rw [if_neg e]
      rcases h.safe c m b' hf hlt with ⟨h1, h2⟩ | h1
      · have f := fx b' m h1
        exact .inl ⟨f.1, f.2.trans h2⟩
      · exact .inr h1
  · obtain ⟨c, h1, h2, h3⟩ := h.one m hi
    have f := fx c m h1
    exact ⟨c, f.1, by simp only; rw [f.2]; exact h2, h3⟩
/-- An acceptor has taken a value, for sure. -/
theorem Inv.take {n : Nat} {X : Play} (h : Inv n X) {k : Nat} {b s : Int} (hk : k < n) (hf : X.fixed b s = true) (hp : (X.sure k).1 ≤ b) (hv : ∃ x, (X.sure k).2.lookup s = some x ∧ b ≤ x.B) :
    Inv n { X with took := fun c m j => if c = b ∧ m = s ∧ j = k then true else X.took c m j } := by
  have lt : ∀ c, X.said c k = true → ¬ b < c := by
    intro c hc hlt
    have := (h.said c k hc).2
    omega
  have old : ∀ c m j, (if c = b ∧ m = s ∧ j = k then true else X.took c m j) = true → (c = b ∧ m = s ∧ j = k) ∨ X.took c m j = true := by
    intro c m j hc
    by_cases e : c = b ∧ m = s ∧ j = k
    · exact .inl e
    · rw [if_neg e] at hc
      exact .inr hc
  refine ⟨h.leg, h.recs, h.said, fun c m j hj => ?_, h.heard, fun c j b' m hj ht hlt => ?_, fun c m b' hfx hlt => ?_, fun m hi => ?_⟩
  · rcases old c m j hj with ⟨rfl, rfl, rfl⟩ | hj
    · exact ⟨hk, hf, hv⟩
    · exact h.took c m j hj
  · rcases old b' m j ht with ⟨rfl, rfl, rfl⟩ | ht
    · exact absurd hlt (lt c hj)
    · exact h.told c j b' m hj ht hlt
  · rcases h.safe c m b' hfx hlt with h1 | ⟨d, h1, h2⟩
    · exact .inl h1
    · refine .inr ⟨d, h1, h2.mono fun j hj hh => ?_⟩
      simp only [Bool.and_eq_true, Bool.not_eq_true'] at hh ⊢
      refine ⟨hh.1, ?_⟩
      rw [if_neg]
      · exact hh.2
      · rintro ⟨rfl, rfl, rfl⟩
        exact lt d hh.1 h1
  · obtain ⟨c, h1, h2, h3⟩ := h.one m hi
    refine ⟨c, h1, h2, h3.mono fun j _ hj => ?_⟩
    simp only
    split
    · rfl
    · exact hj
/-- What is taken by more than half is what was taken before. -/
theorem Inv.agree {n : Nat} {X : Play} (h : Inv n X) {b s : Int} (hf : X.fixed b s = true) (hm : Maj n fun k => X.took b s k) (hi : X.is s = true) : X.chosen s = X.value b s := by
  have key : ∀ c d, X.fixed c s = true → X.fixed d s = true → (Maj n fun k => X.took c s k) → c < d → X.value c s = X.value d s := by
    intro c d hc hd hm hlt
    rcases h.safe d s c hd hlt with h1 | ⟨e, h1, h2⟩
    · exact h1.2
    · obtain ⟨k, _, h3, h4⟩ := hm.meet h2
      simp only [Bool.and_eq_true, Bool.not_eq_true'] at h4
      rw [h3] at h4
      exact absurd h4.2 (by simp)
  obtain ⟨c, h1, h2, h3⟩ := h.one s hi
  rw [h2]
  rcases Int.lt_trichotomy c b with e | e | e
  · exact key c b h1 hf h3 e
  · rw [e]
  · exact (key b c hf h1 hm e).symm
theorem Inv.choose {n : Nat} {X : Play} (h : Inv n X) {b s : Int} (hf : X.fixed b s = true) (hm : Maj n fun k => X.took b s k) :
    Inv n { X with is := fun m => if m = s then true else X.is m, chosen := fun m => if m = s then X.value b s else X.chosen m } := by
  refine ⟨h.leg, h.recs, h.said, h.took, h.heard, h.told, h.safe, fun m hi => ?_⟩
  simp only at hi ⊢
  by_cases e : m = s
  · subst e
    rw [if_pos rfl]
    exact ⟨b, hf, rfl, hm⟩
  · rw [if_neg e] at hi ⊢
    exact h.one m hi
theorem range_drop (f : Nat → Value) (n o : Nat) (h : o < n) : ((List.range n).map f).drop o = f o :: ((List.range n).map f).drop (o + 1) := by
  rw [List.drop_eq_getElem_cons (by simpa using h)]
  simp
theorem at_range {f : Nat → Value} {n o : Nat} (h : o < n) : at_ ((List.range n).map f) o 1 = [f o] := by
  unfold at_
  rw [range_drop f n o h]; simp
theorem splice_range {f : Nat → Value} {n o : Nat} {v : Value} (h : o < n) : splice ((List.range n).map f) o [v] = (List.range n).map (up1 f o v) := by
  unfold splice
  apply List.ext_getElem?
  intro j
  rw [List.getElem?_map]
  rcases Nat.lt_trichotomy j o with c | c | c
  · rw [List.getElem?_append_left (by simp; omega), List.getElem?_append_left (by simp; omega), List.getElem?_take, if_pos c, List.getElem?_map]
    have : up1 f o v = up1 f o v := rfl
    cases hj : (List.range n)[j]? with
    | none => rfl
    | some a =>
      have ha : a = j := by
        have := List.getElem?_eq_some_iff.1 hj
        obtain ⟨h1, h2⟩ := this
        simpa using h2.symm
      subst ha
      simp [up1_ne (show a ≠ o by omega)]
  · subst c
    have e0 : j - (List.take j (List.map f (List.range n))).length = 0 := by simp; omega
    rw [List.getElem?_append_left (by simp; omega), List.getElem?_append_right (by simp; omega), List.getElem?_range h, e0]
    simp [up1_at]
  · rw [List.getElem?_append_right (by simp; omega), List.getElem?_drop, List.getElem?_map]
    have e : o + [v].length + (j - ((List.take o (List.map f (List.range n))) ++ [v]).length) = j := by simp; omega
    rw [e]
    cases hj : (List.range n)[j]? with
    | none => rfl
    | some a =>
      have ha : a = j := by
        have := List.getElem?_eq_some_iff.1 hj
        obtain ⟨h1, h2⟩ := this
        simpa using h2.symm
      subst ha
      simp [up1_ne (show a ≠ o by omega)]
def fnA (b n : Nat) (t : TypeId) (f : Nat → Value) : Assn := cel b ((List.range n).map f) t
section
variable {W w : World} {l l' : List Assn} {α : Type} {T : Ty α}
theorem fn_rd {b n o : Nat} {t : TypeId} {f : Nat → Value} {x : α} {a : Addr} (H : St W (fnA b n t f :: l) w) (ha : a = ⟨b, o, none⟩) (ho : o < n) (hx : [f o] = T.cells x) : RdAt T a w x :=
  rdat_cel T H ha (by rw [← hx]; exact at_range ho)
theorem fn_st {b n o : Nat} {t : TypeId} {f : Nat → Value} {x : α} {v : Value} {a : Addr} {K : World → Prop} (i : Nat) (H : St W l w) (hi : front i l = fnA b n t f :: l') (ha : a = ⟨b, o, none⟩) (ho : o < n) (hx : T.cells x = [v])
    (hk : ∀ w', St W (fnA b n t (up1 f o v) :: l') w' → K w') : st T a x w K := by
  refine st_st (cs := (List.range n).map f) (o := o) i H hi ha (by rw [hx]; simp; omega) fun w' H => hk w' ?_
  rw [hx, splice_range ho] at H
  exact H
theorem ixr_o {b o m sz j p : Nat} {i : Int} {a : Addr} {k : Addr → Prop} (ha : a = ⟨b, o, none⟩) (hi : i = (j : Int)) (hj : j < m) (hp : o + j * sz = p) (hk : k ⟨b, p, none⟩) : ex (IxR a m sz i) k := by
  subst ha; subst hi; subst hp
  exact ⟨_, ⟨by omega, by omega, by simp [Addr.add]⟩, hk⟩
theorem ixr_g {b o m sz j p : Nat} {i : Int} {a : Addr} (ha : a = ⟨b, o, none⟩) (hi : i = (j : Int)) (hj : j < m) (hp : o + j * sz = p) : IxR a m sz i ⟨b, p, none⟩ := by
  subst ha; subst hi; subst hp
  exact ⟨by omega, by omega, by simp [Addr.add]⟩
end
/-! ### what stands in the arrays -/
def whoC (X : Play) (V : Int → Nat → Slc) (j : Nat) : Value :=
  if j % 18 < 5 then .bool (X.said ((j / 18 : Nat) : Int) (j % 18)) else if j % 18 < 10 then tSlc.enc (V ((j / 18 : Nat) : Int) (j % 18 - 5))
  else if j % 18 < 14 then .bool (X.fixed ((j / 18 : Nat) : Int) ((j % 18 - 10 : Nat) : Int)) else .string ⟨(X.value ((j / 18 : Nat) : Int) ((j % 18 - 14 : Nat) : Int)).toArray⟩
def tookC (X : Play) (j : Nat) : Value := .bool (X.took ((j / 20 : Nat) : Int) ((j % 20 / 5 : Nat) : Int) (j % 5))
def choC (X : Play) (j : Nat) : Value := .string ⟨(X.chosen (j : Int)).toArray⟩
def isC (X : Play) (j : Nat) : Value := .bool (X.is (j : Int))
def ptrC (f : Nat → Nat) (n j : Nat) : Value := .pointer (if j < n then some ⟨f j, 0, none⟩ else none)
theorem who_said (X : Play) (V : Int → Nat → Slc) {b k : Nat} (hk : k < 5) : whoC X V (b * 18 + k) = .bool (X.said b k) := by
  have e1 : (b * 18 + k) / 18 = b := by omega
  have e2 : (b * 18 + k) % 18 = k := by omega
  unfold whoC
  rw [e1, e2, if_pos hk]
theorem who_votes (X : Play) (V : Int → Nat → Slc) {b k : Nat} (hk : k < 5) : whoC X V (b * 18 + 5 + k) = tSlc.enc (V b k) := by
  have e1 : (b * 18 + 5 + k) / 18 = b := by omega
  have e2 : (b * 18 + 5 + k) % 18 = 5 + k := by omega
  have e3 : 5 + k - 5 = k := by omega
  unfold whoC
  rw [e1, e2, if_neg (by omega), if_pos (by omega), e3]
theorem who_fixed (X : Play) (V : Int → Nat → Slc) {b k : Nat} (hk : k < 4) : whoC X V (b * 18 + 10 + k) = .bool (X.fixed b k) := by
  have e1 : (b * 18 + 10 + k) / 18 = b := by omega
  have e2 : (b * 18 + 10 + k) % 18 = 10 + k := by omega
  have e3 : 10 + k - 10 = k := by omega
  unfold whoC
  rw [e1, e2, if_neg (by omega), if_neg (by omega), if_pos (by omega), e3]
theorem who_value (X : Play) (V : Int → Nat → Slc) {b k : Nat} (hk : k < 4) : whoC X V (b * 18 + 14 + k) = .string ⟨(X.value b k).toArray⟩ := by
  have e1 : (b * 18 + 14 + k) / 18 = b := by omega
  have e2 : (b * 18 + 14 + k) % 18 = 14 + k := by omega
  have e3 : 14 + k - 14 = k := by omega
  unfold whoC
  rw [e1, e2, if_neg (by omega), if_neg (by omega), if_neg (by omega), e3]
theorem took_at (X : Play) {b s k : Nat} (hs : s < 4) (hk : k < 5) : tookC X (b * 20 + s * 5 + k) = .bool (X.took b s k) := by
  have e1 : (b * 20 + s * 5 + k) / 20 = b := by omega
  have e2 : (b * 20 + s * 5 + k) % 20 / 5 = s := by omega
  have e3 : (b * 20 + s * 5 + k) % 5 = k := by omega
  unfold tookC
  rw [e1, e2, e3]
/-- A promise and its votes are written down. -/
theorem who_hear (X : Play) (V : Int → Nat → Slc) {b k : Nat} (hk : k < 5) (q : Slc) (E : Int → Nat → List Vote) :
    up1 (up1 (whoC X V) (b * 18 + k) (.bool true)) (b * 18 + 5 + k) (tSlc.enc q) = whoC { X with said := fun c j => if c = (b : Int) ∧ j = k then true else X.said c j, E := E } (fun c j => if c = (b : Int) ∧ j = k then q else V c j) := by
  funext j
  by_cases c1 : j = b * 18 + 5 + k
  · subst c1
    rw [up1_at, who_votes _ _ hk]
    simp
  · rw [up1_ne c1]
    by_cases c2 : j = b * 18 + k
    · subst c2
      rw [up1_at, who_said _ _ hk]
      simp
    · rw [up1_ne c2]
      unfold whoC
      simp only
      by_cases d1 : j % 18 < 5
      · rw [if_pos d1, if_pos d1, if_neg (by omega)]
      · rw [if_neg d1, if_neg d1]
        by_cases d2 : j % 18 < 10
        · rw [if_pos d2, if_pos d2, if_neg (by omega)]
        · rw [if_neg d2, if_neg d2]
theorem who_fix (X : Play) (V : Int → Nat → Slc) {b s : Nat} (hs : s < 4) (v : List UInt8) :
    up1 (up1 (whoC X V) (b * 18 + 10 + s) (.bool true)) (b * 18 + 14 + s) (.string ⟨v.toArray⟩) = whoC { X with fixed := fun c m => if c = (b : Int) ∧ m = (s : Int) then true else X.fixed c m, value := fun c m => if c = (b : Int) ∧ m = (s : Int) then v else X.value c m } V := by
  funext j
  by_cases c1 : j = b * 18 + 14 + s
  · subst c1
    rw [up1_at, who_value _ _ hs]
    simp
  · rw [up1_ne c1]
    by_cases c2 : j = b * 18 + 10 + s
    · subst c2
      rw [up1_at, who_fixed _ _ hs]
      simp
    · rw [up1_ne c2]
      unfold whoC
      simp only
      by_cases d1 : j % 18 < 5
      · rw [if_pos d1, if_pos d1]
      · rw [if_neg d1, if_neg d1]
        by_cases d2 : j % 18 < 10
        · rw [if_pos d2, if_pos d2]
        · rw [if_neg d2, if_neg d2]
          by_cases d3 : j % 18 < 14
          · rw [if_pos d3, if_pos d3, if_neg (by omega)]
          · rw [if_neg d3, if_neg d3, if_neg (by omega)]
theorem up1_up1 {α : Type} (f : Nat → α) (k : Nat) (u v : α) : up1 (up1 f k u) k v = up1 f k v := by
  funext j
  by_cases c : j = k
  · subst c; simp [up1_at]
  · simp [up1_ne c]
theorem took_up (X : Play) {b s k : Nat} (hs : s < 4) (hk : k < 5) : up1 (tookC X) (b * 20 + s * 5 + k) (.bool true) = tookC { X with took := fun c m j => if c = (b : Int) ∧ m = (s : Int) ∧ j = k then true else X.took c m j } := by
  funext j
  by_cases c1 : j = b * 20 + s * 5 + k
  · subst c1
    rw [up1_at, took_at _ hs hk]
    simp
  · rw [up1_ne c1]
    unfold tookC
    simp only
    rw [if_neg (by omega)]
theorem cho_up (X : Play) (s : Nat) (v : List UInt8) (i : Int → Bool) : up1 (choC X) s (.string ⟨v.toArray⟩) = choC { X with is := i, chosen := fun m => if m = (s : Int) then v else X.chosen m } := by
  funext j
  by_cases c : j = s
  · subst c
    rw [up1_at]
    simp [choC]
  · rw [up1_ne c]
    unfold choC
    simp only
    rw [if_neg (by omega)]
theorem is_up (X : Play) (s : Nat) (v : Int → List UInt8) : up1 (isC X) s (.bool true) = isC { X with is := fun m => if m = (s : Int) then true else X.is m, chosen := v } := by
  funext j
  by_cases c : j = s
  · subst c
    rw [up1_at]
    simp [isC]
  · rw [up1_ne c]
    unfold isC
    simp only
    rw [if_neg (by omega)]
theorem ptr_up (f : Nat → Nat) {n k : Nat} (hk : k < n) (a : Nat) : up1 (ptrC f n) k (.pointer (some ⟨a, 0, none⟩)) = ptrC (up1 f k a) n := by
  funext j
  by_cases c : j = k
  · subst c
    rw [up1_at]
    unfold ptrC
    rw [if_pos hk, up1_at]
  · rw [up1_ne c]
    unfold ptrC
    rw [up1_ne c]
theorem ptr_new (f : Nat → Nat) (n a : Nat) : up1 (ptrC f n) n (.pointer (some ⟨a, 0, none⟩)) = ptrC (up1 f n a) (n + 1) := by
  funext j
  by_cases c : j = n
  · subst c
    rw [up1_at]
    unfold ptrC
    rw [if_pos (by omega), up1_at]
  · rw [up1_ne c]
    unfold ptrC
    rw [up1_ne c]
    by_cases d : j < n
    · rw [if_pos d, if_pos (by omega)]
    · rw [if_neg d, if_neg (by omega)]
/-! ### a bunch -/
def bunch (n : Nat) (f : Nat → Assn) : Assn := sepA ((List.range n).map f)
def others (n k : Nat) (f : Nat → Assn) : Assn := exA fun P1 : List Nat => exA fun P2 : List Nat => sepA [puA (List.range n = P1 ++ k :: P2), sepA ((P1 ++ P2).map f)]
section
variable {W w : World} {l l' : List Assn}
theorem bunch_out {n k : Nat} {f : Nat → Assn} (hk : k < n) (H : St W (bunch n f :: l) w) : St W (f k :: others n k f :: l) w := by
  obtain ⟨P1, P2, h1, h2⟩ := split_at (P := List.range n) (List.getElem?_range hk)
  unfold bunch at H
  rw [h1] at H
  have H := (big_out H).front 1
  have H := St.toPu (φ := List.range n = P1 ++ k :: P2) h1 H
  have H := St.shut (l' := [puA _, sepA _]) H
  exact (St.toEx (f := fun P1 : List Nat => exA fun P2 : List Nat => sepA [puA (List.range n = P1 ++ k :: P2), sepA ((P1 ++ P2).map f)]) P1 (St.toEx (f := fun P2 : List Nat => sepA [puA (List.range n = P1 ++ k :: P2), sepA ((P1 ++ P2).map f)]) P2 H)).front 1
theorem bunch_in {n k : Nat} {f g : Nat → Assn} (hg : ∀ j, j ≠ k → g j = f j) (H : St W (g k :: others n k f :: l) w) : St W (bunch n g :: l) w := by
  have H := H.front 1
  obtain ⟨P1, H⟩ := H.ex
  obtain ⟨P2, H⟩ := H.ex
  have H := H.open_
  obtain ⟨h1, H2⟩ := St.pu (φ := List.range n = P1 ++ k :: P2) H
  clear H
  have hd : (P1 ++ k :: P2).Nodup := by rw [← h1]; exact List.nodup_range
  have hn : ∀ j ∈ P1 ++ P2, j ≠ k := by
    intro j hj e
    subst e
    rw [List.nodup_append] at hd
    obtain ⟨_, d2, d3⟩ := hd
    rcases List.mem_append.1 hj with hj | hj
    · exact d3 j hj j (by simp) rfl
    · rw [List.nodup_cons] at d2
      exact d2.1 hj
  have e : (P1 ++ P2).map f = (P1 ++ P2).map g := List.map_congr_left fun j hj => (hg j (hn j hj)).symm
  rw [e] at H2
  unfold bunch
  rw [h1]
  exact big_in (H2.front 1)
theorem bunch_new {n : Nat} {f g : Nat → Assn} (hg : ∀ j, j < n → g j = f j) (H : St W (g n :: bunch n f :: l) w) : St W (bunch (n + 1) g :: l) w := by
  unfold bunch at *
  have e : (List.range n).map f = (List.range n ++ []).map g := by
    rw [List.append_nil]
    exact List.map_congr_left fun j hj => (hg j (by simpa using hj)).symm
  rw [e] at H
  rw [List.range_succ]
  exact big_in H
theorem bunch_zero {f : Nat → Assn} (H : St W l w) : St W (bunch 0 f :: l) w := St.shut (l' := []) H
/-- The promises that a proposer counts. -/
theorem many_spec {b p n : Nat} {t : TypeId} {f : Nat → Value} {g : Nat → Bool} (hp : p + 5 ≤ n) (hg : ∀ k, k < 5 → f (p + k) = .bool (g k)) (H : St W (fnA b n t f :: l) w) :
    cl Try.prog 21 [.pointer (some ⟨b, p, none⟩)] (tInt .i64) w fun r w' => r = (cnt g 5 : Nat) ∧ St W (fnA b n t f :: l) w' := by
  refine F21_ok ?_
  unfold F21
  refine lp_p (fun q w => 0 ≤ q.2 ∧ q.2 ≤ 5 ∧ q.1 = (cnt g q.2.toNat : Nat) ∧ St W (fnA b n t f :: l) w) (fun q => (5 - q.2).toNat) ⟨Int.le_refl 0, by simp only; omega, rfl, H⟩ ?_
  clear H
  rintro ⟨c, i⟩ w ⟨i0, i1, hc, H⟩ K hK
  simp only at i0 i1 hc
  unfold F21_l1 F21_j2
  simp only
  by_cases hi : i < 5
  · rw [if_pos (by simpa using hi)]
    refine nc_st rfl ?_
    refine ixr_o (b := b) (o := p) (j := i.toNat) (p := p + i.toNat) rfl (by omega) (by omega) (by omega) ?_
    refine ex_i (g i.toNat) (fn_rd H rfl (by omega) (by rw [hg _ (by omega)])) ?_
    have e1 : IntKind.i64.wrap (i + 1) = i + 1 := wrap_i64 (by omega) (by omega)
    have e2 : (i + 1).toNat = i.toNat + 1 := by omega
    have hcl := cnt_le g i.toNat
    have e3 : IntKind.i64.wrap (c + 1) = c + 1 := wrap_i64 (by omega) (by omega)
    have hs := cnt_succ g i.toNat
    rw [e1, e3]
    by_cases hgi : g i.toNat = true
    · rw [if_pos hgi]
      rw [if_pos hgi] at hs
      refine hK _ _ ⟨by simp only; omega, by simp only; omega, ?_, H⟩ (by simp only; omega)
      simp only
      rw [e2, hs]; omega
    · rw [if_neg hgi]
      rw [if_neg hgi] at hs
      refine hK _ _ ⟨by simp only; omega, by simp only; omega, ?_, H⟩ (by simp only; omega)
      simp only
      rw [e2, hs]; omega
  · rw [if_neg (by simpa using hi)]
    have : i = 5 := by omega
    subst this
    exact ⟨hc, H⟩
theorem cnt_less {p : Nat → Bool} {n m : Nat} (h : n ≤ m) (hp : ∀ k, n ≤ k → p k = false) : cnt p m = cnt p n := by
  induction m with
  | zero =>
    have : n = 0 := by omega
    subst this; rfl
  | succ m ih =>
    by_cases c : n = m + 1
    · subst c; rfl
    · rw [cnt_succ, hp m (by omega), ih (by omega)]; simp
/-- Votes that were heard: for ever. -/
def HeardP (V : Int → Nat → Slc) (E : Int → Nat → List Vote) (I : PMap) : Prop := ∀ b k, RoP TVo (V b k) (E b k) I
theorem HeardP.mono {V : Int → Nat → Slc} {E : Int → Nat → List Vote} {I I' : PMap} (h : PMap.le I I') : HeardP V E I → HeardP V E I' := fun k b j => RoP.mono h (k b j)
def heardA (V : Int → Nat → Slc) (E : Int → Nat → List Vote) : Assn := ever (HeardP V E) HeardP.mono
theorem heard_new {V : Int → Nat → Slc} {E : Int → Nat → List Vote} {b : Int} {k : Nat} {q : Slc} {xs : List Vote} (H : St W (ro TVo q xs :: heardA V E :: l) w) :
    St W (heardA (fun c j => if c = b ∧ j = k then q else V c j) (fun c j => if c = b ∧ j = k then xs else E c j) :: l) w := by
  have H := H.know (φ := HeardP (fun c j => if c = b ∧ j = k then q else V c j) (fun c j => if c = b ∧ j = k then xs else E c j)) (m := HeardP.mono) (by
    intro I h hh c j
    have h1 : RoP TVo q xs I := (Know.here (m := RoP.mono)) I h hh
    have h2 : HeardP V E I := (Know.tail (Know.here (m := HeardP.mono))) I h hh
    by_cases e : c = b ∧ j = k
    · simp only [if_pos e]; exact h1
    · simp only [if_neg e]; exact h2 c j)
  exact (H.ord [1, 2]).drop.drop
end
/-- Votes by slots, of keys that are slots. -/
theorem listV_mem2 {es : Es} (hd : (es.map (·.1)).Nodup) (hs : ∀ e ∈ es, e.2.Slot = e.1) {x : Vote} : x ∈ listV es ↔ es.lookup x.Slot = some x := by
  unfold listV
  simp only [List.mem_map]
  constructor
  · rintro ⟨k, hk, rfl⟩
    obtain ⟨e, he, rfl⟩ := List.mem_map.1 ((sortI_p _).mem_iff.1 hk)
    have h := mem_lookup hd he
    rw [h]
    simp only [Option.getD_some]
    rw [hs e he]
    exact h
  · intro h
    refine ⟨x.Slot, (sortI_p _).mem_iff.2 (List.mem_map.2 ⟨_, lookup_mem h, rfl⟩), by rw [h]; rfl⟩
theorem pick_dup : ∀ {xs : List Vote} {es : Es}, (es.map (·.1)).Nodup → ((xs.foldl pick1 es).map (·.1)).Nodup
  | [], _, h => h
  | x :: xs, es, h => by
    refine pick_dup (xs := xs) (es := pick1 es x) ?_
    unfold pick1
    split
    · exact nodup_ups h
    · split
      · exact nodup_ups h
      · exact h
theorem pickE_mem {xs : List Vote} {x : Vote} : x ∈ listV (pickE xs) ↔ (pickE xs).lookup x.Slot = some x :=
  listV_mem2 (pick_dup (by simp)) fun e he => by
    rcases picks_mem he with ⟨y, _, rfl⟩ | h
    · rfl
    · simp at h
abbrev Stp := S68
abbrev TStp := T68
theorem lenStp : ∀ y : Stp, (TStp.cells y).length = 5 := fun _ => rfl
theorem wid_i64 (n : Int) (h0 : 0 ≤ n) (h1 : n < 2 ^ 63) : IntKind.i64.wrap n = n := by rw [wr_i64]; omega
def accF (X : Play) (dc ac : Nat → Nat) (k : Nat) : Assn := hasA (ac k) (dc k) (X.rs k) (X.sr k)
/-- What a run stands on. -/
structure Rn where
  W : World
  base : List Assn
  n : Nat
  B : Nat
  S : Nat
  k : Nat
  bw : Nat
  bt : Nat
  bc : Nat
  bi : Nat
  bd : Nat
  ba : Nat
  b0 : Nat
  n1 : 1 ≤ n
  n5 : n ≤ 5
  B1 : 1 ≤ B
  B8 : B ≤ 8
  S1 : 1 ≤ S
  S3 : S ≤ 3
  kn : k < n
abbrev Rn.two (r : Rn) (X : Play) (V : Int → Nat → Slc) (dc ac : Nat → Nat) : List Assn :=
  fnA r.bw 162 65 (whoC X V) :: fnA r.bt 180 67 (tookC X) :: fnA r.bc 4 62 (choC X) :: fnA r.bi 4 61 (isC X) :: fnA r.bd 5 57 (ptrC dc r.n) :: fnA r.ba 5 58 (ptrC ac r.n) :: heardA V X.E :: r.base
/-- All whole. -/
abbrev Rn.all (r : Rn) (x : Stp) (X : Play) (V : Int → Nat → Slc) (dc ac : Nat → Nat) : List Assn :=
  bunch r.n (accF X dc ac) :: cel r.b0 (TStp.cells x) 69 :: r.two X V dc ac
/-- One acceptor out. -/
abbrev Rn.out (r : Rn) (x : Stp) (X : Play) (V : Int → Nat → Slc) (dc ac : Nat → Nat) (A : Assn) : List Assn :=
  A :: others r.n r.k (accF X dc ac) :: cel r.b0 (TStp.cells x) 69 :: r.two X V dc ac
theorem sums (p : Nat → Bool) (n : Nat) (h : n ≤ 5) : IntKind.i64.wrap (2 * (cnt p n : Int)) = 2 * (cnt p n : Int) := by
  have := cnt_le p n
  exact wrap_i64 (by omega) (by omega)
theorem up1_self {α : Type} (f : Nat → α) (k : Nat) : up1 f k (f k) = f := by
  funext j
  by_cases c : j = k
  · subst c; rw [up1_at]
  · rw [up1_ne c]
theorem sure_at (X : Play) (k : Nat) (rs' : List Rec) (sr' : Nat) : Play.sure { X with rs := up1 X.rs k rs', sr := up1 X.sr k sr' } k = fold (rs'.take sr') := by
  unfold Play.sure
  simp only [up1_at]
section
variable {r : Rn} {w : World} {x : Stp} {X : Play} {V : Int → Nat → Slc} {dc ac : Nat → Nat} {A : Assn} {K29 : Int → World → Prop} {i : Int} {R : Bool → World → Prop}
structure Fit (r : Rn) (X : Play) (i : Int) : Prop where
  inv : Inv r.n X
  len : ∀ k, k < r.n → (X.rs k).length ≤ i
  few : ∀ b k, (X.E b k).length ≤ 1000 ∧ ∀ x ∈ X.E b k, InI x.Slot
def Goes (r : Rn) (i : Int) (w : World) : Prop := ∃ X V dc ac, Fit r X (i + 1) ∧ St r.W (bunch r.n (accF X dc ac) :: r.two X V dc ac) w
theorem Fit.up (h : Fit r X i) : Fit r X (i + 1) := ⟨h.inv, fun k hk => by have := h.len k hk; omega, h.few⟩
theorem goes (h : Fit r X (i + 1)) (H : St r.W (r.all x X V dc ac) w) : Goes r i w := ⟨X, V, dc, ac, h, (H.front 1).drop⟩
/-- Back in, with other records. -/
theorem back {rs' : List Rec} {sr' a' : Nat} (H : St r.W (r.out x X V dc ac (hasA a' (dc r.k) rs' sr')) w) :
    St r.W (bunch r.n (accF { X with rs := up1 X.rs r.k rs', sr := up1 X.sr r.k sr' } dc (up1 ac r.k a')) :: cel r.b0 (TStp.cells x) 69 :: r.two X V dc ac) w := by
  refine bunch_in (k := r.k) (f := accF X dc ac) (fun j hj => ?_) ?_
  · unfold accF
    simp only [up1_ne hj]
  · have e : accF { X with rs := up1 X.rs r.k rs', sr := up1 X.sr r.k sr' } dc (up1 ac r.k a') r.k = hasA a' (dc r.k) rs' sr' := by
      unfold accF
      simp only [up1_at]
    rw [e]
    exact H
theorem back0 {rs' : List Rec} {sr' : Nat} (H : St r.W (r.out x X V dc ac (hasA (ac r.k) (dc r.k) rs' sr')) w) :
    St r.W (r.all x { X with rs := up1 X.rs r.k rs', sr := up1 X.sr r.k sr' } V dc ac) w := by
  have H := back H
  rw [up1_self] at H
  exact H
theorem fit_step (h : Fit r X i) {rs' : List Rec} {sr' : Nat} (hl : Legal (0, []) rs') (hs : sr' ≤ rs'.length) (hle : Lee (X.sure r.k) (fold (rs'.take sr')))
    (hr : ∀ b m v, Rec.acc b m v ∈ rs' → X.fixed b m = true ∧ X.value b m = v) (hlen : rs'.length ≤ i + 1) : Fit r { X with rs := up1 X.rs r.k rs', sr := up1 X.sr r.k sr' } (i + 1) := by
  refine ⟨h.inv.recsStep r.kn hl hs hle hr, fun k hk => ?_, h.few⟩
  by_cases c : k = r.k
  · subst c
    simp only [up1_at]
    exact hlen
  · simp only [up1_ne c]
    have := h.len k hk
    omega
theorem lee_sure (h : Fit r X i) {e : List Rec} (hl : Legal (0, []) (X.rs r.k ++ e)) : Lee (X.sure r.k) (fold (X.rs r.k ++ e)) := by
  unfold Play.sure
  have e1 : X.rs r.k ++ e = (X.rs r.k).take (X.sr r.k) ++ ((X.rs r.k).drop (X.sr r.k) ++ e) := by rw [← List.append_assoc, List.take_append_drop]
  rw [e1] at hl ⊢
  exact lee_fold hl
theorem sure_same (h : Fit r X i) (e : List Rec) : (X.rs r.k ++ e).take (X.sr r.k) = (X.rs r.k).take (X.sr r.k) := List.take_append_of_le_length (h.inv.leg _ r.kn).2
/-- Records that go on, no more of them sure. -/
theorem fit_on (h : Fit r X i) {rs' : List Rec} (hx : ∃ e, rs' = X.rs r.k ++ e ∧ e.length ≤ 1) (hl : Legal (0, []) rs') (hr : ∀ b m v, Rec.acc b m v ∈ rs' → X.fixed b m = true ∧ X.value b m = v) :
    Fit r { X with rs := up1 X.rs r.k rs', sr := up1 X.sr r.k (X.sr r.k) } (i + 1) := by
  obtain ⟨e, rfl, he⟩ := hx
  have h1 := h.len _ r.kn
  have h2 := (h.inv.leg _ r.kn).2
  refine fit_step h hl (by rw [List.length_append]; omega) ?_ hr (by rw [List.length_append]; omega)
  rw [sure_same h]
  exact Lee.refl
/-- Records that go on, all of them sure. -/
theorem fit_sure (h : Fit r X i) {rs' : List Rec} (hx : ∃ e, rs' = X.rs r.k ++ e ∧ e.length ≤ 1) (hl : Legal (0, []) rs') (hr : ∀ b m v, Rec.acc b m v ∈ rs' → X.fixed b m = true ∧ X.value b m = v) :
    Fit r { X with rs := up1 X.rs r.k rs', sr := up1 X.sr r.k rs'.length } (i + 1) := by
  obtain ⟨e, rfl, he⟩ := hx
  have h1 := h.len _ r.kn
  refine fit_step h hl (Nat.le_refl _) ?_ hr (by rw [List.length_append]; omega)
  rw [List.take_length]
  exact lee_sure h hl
theorem ptr_rd {b n j : Nat} {t : TypeId} {f : Nat → Nat} {W : World} {l : List Assn} (H : St W (fnA b 5 t (ptrC f n) :: l) w) (hj : j < n) (hn : n ≤ 5) : RdAt tPtr ⟨b, j, none⟩ w (some ⟨f j, 0, none⟩) :=
  fn_rd H rfl (by omega) (by unfold ptrC; rw [if_pos hj])
/-- A value was taken, for sure. -/
theorem agrees_j8 {size xb xs : Int} (hN : IntKind.i64.wrap ((1 : Int) + (Int.tmod (IntKind.i64.wrap size) (5 : Int))) = r.n) (hB : IntKind.i64.wrap ((1 : Int) + (bits .and .i64 (IntKind.i64.wrap xb) (7 : Int))) = r.B) (hS : IntKind.i64.wrap ((1 : Int) + (Int.tmod (IntKind.i64.wrap xs) (3 : Int))) = r.S)
    (h : Fit r X (i + 1)) (hf : X.fixed r.B r.S = true) (hp : (X.sure r.k).1 ≤ r.B) (hv : ∃ x, (X.sure r.k).2.lookup (r.S : Int) = some x ∧ (r.B : Int) ≤ x.B) (H : St r.W (r.all x X V dc ac) w) (hK : ∀ w, Goes r i w → K29 (IntKind.i64.wrap (i + 1)) w) :
    F6_j8 size ⟨r.bt, 0, none⟩ ⟨r.bc, 0, none⟩ ⟨r.bi, 0, none⟩ i (r.k : Int) xb xs ⟨r.bw, r.B * 18, none⟩ false w K29 R := by
  have n1 := r.n1
  have n5 := r.n5
  have B8 := r.B8
  have S1 := r.S1
  have S3 := r.S3
  have kn := r.kn
  unfold F6_j8
  rw [if_neg (by simp), hB, hS]
  refine ixr_o (b := r.bt) (o := 0) (j := r.B) (p := r.B * 20) rfl rfl (by omega) (by omega) ?_
  refine ixr_o (b := r.bt) (o := r.B * 20) (j := r.S) (p := r.B * 20 + r.S * 5) rfl rfl (by omega) (by omega) ?_
  refine ixr_o (b := r.bt) (o := r.B * 20 + r.S * 5) (j := r.k) (p := r.B * 20 + r.S * 5 + r.k) rfl rfl (by omega) (by omega) ?_
  refine fn_st (v := .bool true) 3 H rfl rfl (by omega) rfl fun w H => ?_
  rw [took_up X (by omega) (by omega)] at H
  have hi := h.inv.take r.kn hf hp hv
  generalize hX : ({ X with took := fun c m j => if c = (r.B : Int) ∧ m = (r.S : Int) ∧ j = r.k then true else X.took c m j } : Play) = Y at H hi
  have hfY : Y.fixed r.B r.S = true := by rw [← hX]; exact hf
  have hfit : Fit r Y (i + 1) := by
    refine ⟨hi, ?_, ?_⟩
    · rw [← hX]; exact h.len
    · rw [← hX]; exact h.few
  have H : St r.W (r.all x Y V dc ac) w := by
    rw [← hX] at H ⊢
    exact H.ord [1, 2, 3, 0]
  clear hX h hf hp hv
  refine lp_p (fun q w => 0 ≤ q.2 ∧ q.2 ≤ r.n ∧ q.1 = (cnt (fun k => Y.took r.B r.S k) q.2.toNat : Nat) ∧ St r.W (r.all x Y V dc ac) w) (fun q => (r.n - q.2).toNat) ⟨Int.le_refl 0, by simp only; omega, rfl, H⟩ ?_
  clear H
  rintro ⟨c, j⟩ w ⟨j0, j1, hc, H⟩ K hK2
  simp only at j0 j1 hc
  unfold F6_l9 F6_j10 F6_j4
  simp only
  rw [hN, hB, hS]
  by_cases hj : j < r.n
  · rw [if_pos (by simpa using hj)]
    refine ixr_o (b := r.bt) (o := 0) (j := r.B) (p := r.B * 20) rfl rfl (by omega) (by omega) ?_
    refine ixr_o (b := r.bt) (o := r.B * 20) (j := r.S) (p := r.B * 20 + r.S * 5) rfl rfl (by omega) (by omega) ?_
    refine ixr_o (b := r.bt) (o := r.B * 20 + r.S * 5) (j := j.toNat) (p := r.B * 20 + r.S * 5 + j.toNat) rfl (by omega) (by omega) (by omega) ?_
    refine ex_i (Y.took r.B r.S j.toNat) (fn_rd (H.front 3) rfl (by omega) (by rw [took_at Y (by omega) (by omega)])) ?_
    have e1 : IntKind.i64.wrap (j + 1) = j + 1 := wrap_i64 (by omega) (by omega)
    have e2 : (j + 1).toNat = j.toNat + 1 := by omega
    have hcl := cnt_le (fun k => Y.took r.B r.S k) j.toNat
    have e3 : IntKind.i64.wrap (c + 1) = c + 1 := wrap_i64 (by omega) (by omega)
    have hs := cnt_succ (fun k => Y.took r.B r.S k) j.toNat
    rw [e1, e3]
    by_cases hg : Y.took r.B r.S j.toNat = true
    · rw [if_pos hg]
      rw [if_pos hg] at hs
      refine hK2 _ _ ⟨by simp only; omega, by simp only; omega, ?_, H⟩ (by simp only; omega)
      simp only
      rw [e2, hs]; omega
    · rw [if_neg hg]
      rw [if_neg hg] at hs
      refine hK2 _ _ ⟨by simp only; omega, by simp only; omega, ?_, H⟩ (by simp only; omega)
      simp only
      rw [e2, hs]; omega
  · rw [if_neg (by simpa using hj)]
    have : j = r.n := by omega
    subst this
    rw [Int.toNat_natCast] at hc
    subst hc
    rw [sums _ _ n5]
    by_cases hm : (r.n : Int) < 2 * (cnt (fun k => Y.took r.B r.S k) r.n : Nat)
    · rw [if_pos (by simpa using hm)]
      have hmaj : Maj r.n fun k => Y.took r.B r.S k := by unfold Maj; omega
      refine dr_st H fun w H => ?_
      refine ixr_o (b := r.bi) (o := 0) (j := r.S) (p := r.S) rfl rfl (by omega) (by omega) ?_
      refine ex_i (Y.is r.S) (fn_rd (H.front 5) rfl (by omega) rfl) ?_
      refine ex_i ⟨r.bc, r.S, none⟩ (fun _ => ixr_g (b := r.bc) (o := 0) (j := r.S) rfl rfl (by omega) (by omega)) ?_
      refine ex_i ⟨r.bw, r.B * 18, none⟩ (fun _ => rfl) ?_
      refine ex_i ⟨r.bw, r.B * 18 + 14 + r.S, none⟩ (fun _ => ixr_g (b := r.bw) (o := r.B * 18 + 14) (j := r.S) rfl rfl (by omega) (by omega)) ?_
      have rv : ∀ {w : World} {l : List Assn}, St r.W (fnA r.bw 162 65 (whoC Y V) :: l) w → RdAt tStr ⟨r.bw, r.B * 18 + 14 + r.S, none⟩ w (Y.value r.B r.S) := fun H => fn_rd H rfl (by omega) (by rw [who_value Y V (by omega)])
      refine ex_i (Y.chosen r.S) (fun _ => fn_rd (H.front 4) rfl (by omega) rfl) ?_
      refine ex_i (Y.value r.B r.S) (fun _ => rv (H.front 2)) ?_
      rw [if_neg (by
        rw [Bool.and_eq_true]
        rintro ⟨h1, h2⟩
        have := hi.agree hfY hmaj h1
        rw [this] at h2
        simp at h2)]
      refine dr_st H fun w H => ?_
      refine ixr_o (b := r.bw) (o := r.B * 18 + 14) (j := r.S) (p := r.B * 18 + 14 + r.S) rfl rfl (by omega) (by omega) ?_
      refine ixr_o (b := r.bi) (o := 0) (j := r.S) (p := r.S) rfl rfl (by omega) (by omega) ?_
      refine ex_i (Y.value r.B r.S) (rv (H.front 2)) ?_
      refine fn_st (v := .bool true) 5 H rfl rfl (by omega) rfl fun w H => ?_
      refine ⟨rv (H.front 3), ?_⟩
      refine ixr_o (b := r.bc) (o := 0) (j := r.S) (p := r.S) rfl rfl (by omega) (by omega) ?_
      refine fn_st (v := .string ⟨(Y.value r.B r.S).toArray⟩) 5 H rfl rfl (by omega) rfl fun w H => ?_
      rw [is_up Y r.S (fun m => if m = (r.S : Int) then Y.value r.B r.S else Y.chosen m), cho_up Y r.S _ (fun m => if m = (r.S : Int) then true else Y.is m)] at H
      refine hK _ (goes (x := x) ⟨hi.choose hfY hmaj, hfit.len, hfit.few⟩ (V := V) (dc := dc) (ac := ac) ?_)
      exact H.ord [2, 3, 4, 5, 0, 1]
    · rw [if_neg (by simpa using hm)]
      exact hK _ (goes hfit H)
/-- Accept, of a value that is settled. -/
theorem agrees_j7 {size xb xs : Int} (hN : IntKind.i64.wrap ((1 : Int) + (Int.tmod (IntKind.i64.wrap size) (5 : Int))) = r.n) (hB : IntKind.i64.wrap ((1 : Int) + (bits .and .i64 (IntKind.i64.wrap xb) (7 : Int))) = r.B) (hS : IntKind.i64.wrap ((1 : Int) + (Int.tmod (IntKind.i64.wrap xs) (3 : Int))) = r.S)
    (hi79 : i ≤ 79) (h : Fit r X i) (hf : X.fixed r.B r.S = true) (H : St r.W (r.all x X V dc ac) w) (hK : ∀ w, Goes r i w → K29 (IntKind.i64.wrap (i + 1)) w) :
    F6_j7 size ⟨r.ba, 0, none⟩ ⟨r.bt, 0, none⟩ ⟨r.bc, 0, none⟩ ⟨r.bi, 0, none⟩ i ⟨r.b0, 0, none⟩ (r.k : Int) xb xs ⟨r.bw, r.B * 18, none⟩ w K29 R := by
  have n1 := r.n1
  have n5 := r.n5
  have B8 := r.B8
  have S1 := r.S1
  have S3 := r.S3
  have kn := r.kn
  have hlen := h.len _ r.kn
  unfold F6_j7
  rw [hB, hS]
  refine dr_st H fun w H => ?_
  refine ixr_o (b := r.ba) (o := 0) (j := r.k) (p := r.k) rfl rfl (by omega) (by omega) ?_
  refine ixr_o (b := r.bw) (o := r.B * 18 + 14) (j := r.S) (p := r.B * 18 + 14 + r.S) rfl rfl (by omega) (by omega) ?_
  have rv : ∀ {w : World} {l : List Assn}, St r.W (fnA r.bw 162 65 (whoC X V) :: l) w → RdAt tStr ⟨r.bw, r.B * 18 + 14 + r.S, none⟩ w (X.value r.B r.S) := fun H => fn_rd H rfl (by omega) (by rw [who_value X V (by omega)])
  refine ex_i _ (ptr_rd (H.front 7) kn n5) ?_
  refine ex_i (X.value r.B r.S) (rv (H.front 2)) ?_
  have H := bunch_out kn H
  refine cl_mono (hacc_spec (b := r.B) (n := r.S) (v := X.value r.B r.S) (by omega) H) ?_
  rintro e w ⟨he, H⟩
  have hx := accR_ext (X.rs r.k) r.B r.S (X.value r.B r.S)
  have hl := accR_legal (b := r.B) (n := r.S) (v := X.value r.B r.S) (h.inv.leg _ kn).1
  have hr : ∀ b m v, Rec.acc b m v ∈ (accR (X.rs r.k) r.B r.S (X.value r.B r.S)).1 → X.fixed b m = true ∧ X.value b m = v := by
    intro b m v hm
    rcases accR_mem hm with hm | hm
    · exact h.inv.recs _ kn _ _ _ hm
    · cases hm
      exact ⟨hf, rfl⟩
  have hpr := accR_prom (b := r.B) (n := r.S) (v := X.value r.B r.S) (h.inv.leg _ kn).1
  have htk := accR_took (rs := X.rs r.k) (b := r.B) (n := r.S) (v := X.value r.B r.S)
  have rk : ∀ {w : World} {l : List Assn}, St r.W (cel r.b0 (TStp.cells x) 69 :: l) w → RdAt (tInt .i64) (Addr.add ⟨r.b0, 0, none⟩ 4) w x.Keep := fun H => rdat_cel (tInt .i64) H rfl rfl
  refine ex_i x.Keep (fun _ => rk (H.front 2)) ?_
  by_cases c : e = 0 ∧ ¬ bits .and .i64 x.Keep 1 = 1
  · obtain ⟨c1, c2⟩ := c
    have c3 : (accR (X.rs r.k) r.B r.S (X.value r.B r.S)).2 = 0 := by rw [← he]; exact c1
    have hpr := hpr c3
    have htk := htk c3
    generalize (accR (X.rs r.k) r.B r.S (X.value r.B r.S)).1 = rs' at *
    rw [if_neg (by simp [c1, c2])]
    refine ixr_o (b := r.ba) (o := 0) (j := r.k) (p := r.k) rfl rfl (by omega) (by omega) ?_
    refine ex_i _ (ptr_rd (H.front 8) kn n5) ?_
    refine nc_st rfl ?_
    refine hsync_spec (by obtain ⟨e, rfl, he⟩ := hx; rw [List.length_append]; omega) H fun w H => ?_
    refine ⟨ptr_rd (H.front 8) kn n5, rv (H.front 3), fun _ => rk (H.front 2), ptr_rd (H.front 8) kn n5, ?_⟩
    have hfit := fit_sure h hx hl hr
    have hsr : Play.sure { X with rs := up1 X.rs r.k rs', sr := up1 X.sr r.k rs'.length } r.k = fold rs' := by rw [sure_at, List.take_length]
    refine agrees_j8 hN hB hS hfit hf ?_ ?_ (back0 H) hK
    · rw [hsr, hpr.2]
      exact Int.le_refl _
    · rw [hsr]
      obtain ⟨u, hu, hub⟩ := htk
      exact ⟨u, hu, by omega⟩
  · have hfit := fit_on h hx hl hr
    rw [if_pos (by
      rw [Bool.or_eq_true]
      by_cases c1 : e = 0
      · right
        have : bits .and .i64 x.Keep 1 = 1 := by
          apply Classical.byContradiction
          intro c2
          exact c ⟨c1, c2⟩
        simpa using this
      · left
        simpa using c1)]
    unfold F6_j8 F6_j4
    rw [if_pos rfl]
    exact hK _ (goes hfit (back0 H))
end
theorem chars {a b : Int} (ha : 0 ≤ a) (ha2 : a < 256) (hb : 0 ≤ b) (hb2 : b < 256) : ([a, 32, b] : List Int) = B [UInt8.ofNat a.toNat, 32, UInt8.ofNat b.toNat] := by
  have h1 : (UInt8.ofNat a.toNat).toNat = a.toNat := u8_toNat (by omega)
  have h2 : (UInt8.ofNat b.toNat).toNat = b.toNat := u8_toNat (by omega)
  simp only [B, List.map_cons, List.map_nil, h1, h2]
  have e1 : ((a.toNat : Nat) : Int) = a := by omega
  have e2 : ((b.toNat : Nat) : Int) = b := by omega
  rw [e1, e2]
  rfl
theorem u8_rng (n : Int) : 0 ≤ IntKind.u8.wrap n ∧ IntKind.u8.wrap n < 256 := by rw [wr_u8]; omega
section
variable {w : World} {X : Play} {V : Int → Nat → Slc} {dc ac : Nat → Nat} {K29 : Int → World → Prop} {i : Int} {R : Bool → World → Prop}
theorem backL {W : World} {l : List Assn} {n k : Nat} {rs' : List Rec} {sr' a' : Nat} (H : St W (hasA a' (dc k) rs' sr' :: others n k (accF X dc ac) :: l) w) :
    St W (bunch n (accF { X with rs := up1 X.rs k rs', sr := up1 X.sr k sr' } dc (up1 ac k a')) :: l) w := by
  refine bunch_in (k := k) (f := accF X dc ac) (fun j hj => ?_) ?_
  · unfold accF
    simp only [up1_ne hj]
  · have e : accF { X with rs := up1 X.rs k rs', sr := up1 X.sr k sr' } dc (up1 ac k a') k = hasA a' (dc k) rs' sr' := by
      unfold accF
      simp only [up1_at]
    rw [e]
    exact H
theorem agrees_j3 {r0 : Rn} {size : Int} {sl : Slc} {steps : List Stp} {x : Stp} (hN : IntKind.i64.wrap ((1 : Int) + (Int.tmod (IntKind.i64.wrap size) (5 : Int))) = r0.n) (kS : See 5 r0.base TStp sl steps) (gx : G69 r0.W x)
    (i0 : 0 ≤ i) (i1 : i ≤ 79) (i2 : i < steps.length) (hx : steps[i.toNat]? = some x) (h0 : Fit r0 X i) (H : St r0.W (bunch r0.n (accF X dc ac) :: r0.two X V dc ac) w) (hK : ∀ w, Goes r0 i w → K29 (IntKind.i64.wrap (i + 1)) w) :
    F6_j3 size sl ⟨r0.bd, 0, none⟩ ⟨r0.ba, 0, none⟩ ⟨r0.bw, 0, none⟩ ⟨r0.bt, 0, none⟩ ⟨r0.bc, 0, none⟩ ⟨r0.bi, 0, none⟩ i true w K29 R := by
  have n1 := r0.n1
  have n5 := r0.n5
  obtain ⟨gK, gA, gB, gS, gKeep⟩ := gx
  have m1 : IntKind.u8.min = 0 := rfl
  have m2 : IntKind.u8.max = 255 := rfl
  unfold G5 at gK gA gB gS
  rw [m1, m2] at gK gA gB gS
  have hk : ∃ k : Nat, k < r0.n ∧ Int.tmod (IntKind.i64.wrap x.A) r0.n = (k : Int) := by
    rw [wrap_i64 (by omega) (by omega), Int.tmod_eq_emod_of_nonneg (by omega)]
    have h1 := Int.emod_nonneg x.A (show (r0.n : Int) ≠ 0 by omega)
    have h2 := Int.emod_lt_of_pos x.A (show (0 : Int) < r0.n by omega)
    exact ⟨(x.A % r0.n).toNat, by omega, by omega⟩
  obtain ⟨k, kn, hk⟩ := hk
  have hB : ∃ B : Nat, 1 ≤ B ∧ B ≤ 8 ∧ IntKind.i64.wrap ((1 : Int) + (bits .and .i64 (IntKind.i64.wrap x.B) (7 : Int))) = (B : Int) := by
    have hb : bits .and .i64 x.B 7 = x.B % 8 := bits_mask .i64 63 (by decide) wid_i64 3 (by decide) x.B (by omega) (by omega)
    rw [wrap_i64 (x := x.B) (by omega) (by omega), hb, wrap_i64 (by omega) (by omega)]
    exact ⟨(1 + x.B % 8).toNat, by omega, by omega, by omega⟩
  obtain ⟨B, B1, B8, hB⟩ := hB
  have hS : ∃ S : Nat, 1 ≤ S ∧ S ≤ 3 ∧ IntKind.i64.wrap ((1 : Int) + (Int.tmod (IntKind.i64.wrap x.Slot) (3 : Int))) = (S : Int) := by
    rw [wrap_i64 (x := x.Slot) (by omega) (by omega), Int.tmod_eq_emod_of_nonneg (by omega), wrap_i64 (by omega) (by omega)]
    exact ⟨(1 + x.Slot % 3).toNat, by omega, by omega, by omega⟩
  obtain ⟨S, S1, S3, hS⟩ := hS
  unfold F6_j3
  rw [if_pos rfl]
  have kS2 := kS.app [bunch r0.n (accF X dc ac), fnA r0.bw 162 65 (whoC X V), fnA r0.bt 180 67 (tookC X), fnA r0.bc 4 62 (choC X), fnA r0.bi 4 61 (isC X), fnA r0.bd 5 57 (ptrC dc r0.n), fnA r0.ba 5 58 (ptrC ac r0.n), heardA V X.E]
  obtain ⟨a33, ha33⟩ := kS2.ix (i := i) H i0 i2
  refine ex_i a33 ha33 ?_
  refine ex_i x (kS2.rd ha33 hx H) ?_
  clear kS2 kS
  refine nw_st H fun b0 w H => ?_
  refine vst_st (x := Z68) (y := x) lenStp 0 H rfl fun w H => ?_
  -- the run of this step
  obtain ⟨r, hr⟩ : ∃ r : Rn, r = { r0 with B := B, S := S, k := k, b0 := b0, B1 := B1, B8 := B8, S1 := S1, S3 := S3, kn := kn } := ⟨_, rfl⟩
  have H : St r.W (r.all x X V dc ac) w := by
    rw [hr]
    exact H.front 1
  have h : Fit r X i := by
    rw [hr]
    exact ⟨h0.inv, h0.len, h0.few⟩
  have hK : ∀ w, Goes r i w → K29 (IntKind.i64.wrap (i + 1)) w := by
    intro w hw
    refine hK w ?_
    rw [hr] at hw
    obtain ⟨X, V, dc, ac, h1, h2⟩ := hw
    exact ⟨X, V, dc, ac, ⟨h1.inv, h1.len, h1.few⟩, h2⟩
  have q1 : r0.n = r.n := by rw [hr]
  have q2 : B = r.B := by rw [hr]
  have q3 : S = r.S := by rw [hr]
  have q4 : k = r.k := by rw [hr]
  have q5 : b0 = r.b0 := by rw [hr]
  have q6 : r0.bw = r.bw ∧ r0.bt = r.bt ∧ r0.bc = r.bc ∧ r0.bi = r.bi ∧ r0.bd = r.bd ∧ r0.ba = r.ba := by rw [hr]; exact ⟨rfl, rfl, rfl, rfl, rfl, rfl⟩
  obtain ⟨q6, q7, q8, q9, q10, q11⟩ := q6
  rw [q6, q7, q8, q9, q10, q11, q5]
  rw [q1] at hN hk kn n1 n5
  rw [q2] at hB B1 B8
  rw [q3] at hS S1 S3
  rw [q4] at hk kn
  clear hr q1 q2 q3 q4 q5 q6 q7 q8 q9 q10 q11 h0
  rw [hN]
  have rk : ∀ {w : World} {l : List Assn}, St r.W (cel r.b0 (TStp.cells x) 69 :: l) w → RdAt (tInt .i64) (Addr.add ⟨r.b0, 0, none⟩ 4) w x.Keep := fun H => rdat_cel (tInt .i64) H rfl rfl
  have hlen := h.len _ kn
  have hleg := h.inv.leg _ kn
  refine dr_st H fun w H => ?_
  refine ld_st (x := x.A) 1 H rfl rfl rfl ?_
  refine ex_i (r.k : Int) ⟨by omega, hk.symm⟩ ?_
  refine ld_st (x := x.B) 1 H rfl rfl rfl ?_
  refine ld_st (x := x.Slot) 1 H rfl rfl rfl ?_
  rw [hB, hS]
  refine ixr_o (b := r.bw) (o := 0) (j := r.B) (p := r.B * 18) rfl rfl (by omega) (by omega) ?_
  refine ld_st (x := x.Kind) 1 H rfl rfl rfl ?_
  by_cases hk2 : x.Kind = 2
  · rw [if_pos (by simp [hk2])]
    refine dr_st H fun w H => ?_
    have H : St r.W (r.out x X V dc ac (hasA (ac r.k) (dc r.k) (X.rs r.k) (X.sr r.k))) w := bunch_out kn H
    refine ixr_o (b := r.bd) (o := 0) (j := r.k) (p := r.k) rfl rfl (by omega) (by omega) ?_
    refine ex_i _ (ptr_rd (H.front 7) kn n5) ?_
    refine ex_i x.Keep (rk (H.front 2)) ?_
    refine nwS_st H fun b49 w H => ?_
    have H := row_new (sz := 1) (m := 1) rfl H
    refine cl_mono (hcrash_spec (keep := [x.Keep]) (by omega) (See.row (T := tInt .i64) (fun _ => rfl) 0 rfl) (H.front 1)) ?_
    rintro r52 w ⟨m, p, acts, hm1, hm2, hp, hpl, _, H⟩
    refine ⟨rk (H.front 3), ?_⟩
    refine ixr_o (b := r.bd) (o := 0) (j := r.k) (p := r.k) rfl rfl (by omega) (by omega) ?_
    refine ex_i _ (ptr_rd (H.front 8) kn n5) ?_
    refine cl_mono (up_spec H) ?_
    intro r57 w H
    refine ixr_o (b := r.bd) (o := 0) (j := r.k) (p := r.k) rfl rfl (by omega) (by omega) ?_
    refine ex_i _ (ptr_rd (H.front 8) kn n5) ?_
    have hsplit : X.rs r.k = (X.rs r.k).take m ++ (X.rs r.k).drop m := (List.take_append_drop m _).symm
    have hC : (X.rs r.k).take m = (X.rs r.k).take (X.sr r.k) ++ ((X.rs r.k).take m).drop (X.sr r.k) := by
      have : (X.rs r.k).take (X.sr r.k) = ((X.rs r.k).take m).take (X.sr r.k) := by rw [List.take_take, Nat.min_eq_left hm1]
      rw [this, List.take_append_drop]
    have hlegC : Legal (0, []) ((X.rs r.k).take m) := by
      have := hleg.1
      rw [hsplit] at this
      exact (legal_app.1 this).1
    have hle : Lee (X.sure r.k) (fold ((X.rs r.k).take m)) := by
      unfold Play.sure
      rw [hC] at hlegC ⊢
      exact lee_fold hlegC
    have hCl : ((X.rs r.k).take m).length ≤ i + 1 := by rw [List.length_take]; omega
    have hrec : ∀ b n v, Rec.acc b n v ∈ (X.rs r.k).take m → X.fixed b n = true ∧ X.value b n = v := fun b n v hm => h.inv.recs _ kn _ _ _ (List.mem_of_mem_take hm)
    generalize (X.rs r.k).take m = C at *
    refine cl_mono (hreopen_spec (by omega) hp hpl hlegC H) ?_
    rintro ⟨p71, e71⟩ w ⟨he, a2, hp2, H⟩
    simp only at he hp2
    subst he; subst hp2
    rw [if_neg (by simp)]
    refine ixr_o (b := r.ba) (o := 0) (j := r.k) (p := r.k) rfl rfl (by omega) (by omega) ?_
    refine fn_st (v := .pointer (some ⟨a2, 0, none⟩)) 9 H rfl rfl (by omega) rfl fun w H => ?_
    unfold F6_j4
    rw [ptr_up ac kn] at H
    have H := (H.ord [2, 1, 3, 4, 5, 6, 7, 8, 9, 0]).drop
    have H := backL H
    have hfit := fit_step h hlegC (Nat.le_refl _) (by rw [List.take_length]; exact hle) hrec hCl
    exact hK _ (goes (x := x) hfit H)
  · rw [if_neg (by simpa using hk2)]
    refine ld_st (x := x.Kind) 1 H rfl rfl rfl ?_
    by_cases hk1 : x.Kind = 1
    · rw [if_neg (by simp [hk1])]
      have hmany := many_spec (p := r.B * 18) (g := fun k => X.said r.B k) (by omega) (fun k hk => who_said X V hk) (H.front 2)
      refine cl_mono hmany ?_
      rintro q w ⟨rfl, H⟩
      have H : St r.W (r.all x X V dc ac) w := H.ord [1, 2, 0]
      have hc5 : cnt (fun k => X.said r.B k) 5 = cnt (fun k => X.said r.B k) r.n := cnt_less n5 fun k hk => by
        cases hs : X.said r.B k with
        | false => rfl
        | true =>
          have := (h.inv.said _ _ hs).1
          omega
      rw [hc5, sums _ _ n5]
      by_cases hm : 2 * (cnt (fun k => X.said r.B k) r.n : Int) ≤ r.n
      · rw [if_pos (by simpa using hm)]
        unfold F6_j4
        exact hK _ (goes h.up H)
      · rw [if_neg (by simpa using hm)]
        have hmaj : Maj r.n fun k => X.said r.B k := by unfold Maj; omega
        refine ixr_o (b := r.bw) (o := r.B * 18 + 10) (j := r.S) (p := r.B * 18 + 10 + r.S) rfl rfl (by omega) (by omega) ?_
        refine ex_i (X.fixed r.B r.S) (fn_rd (H.front 2) rfl (by omega) (by rw [who_fixed X V (by omega)])) ?_
        by_cases hf : X.fixed r.B r.S = true
        · rw [if_neg (by simp [hf])]
          exact agrees_j7 hN hB hS i1 h hf H hK
        · have hf : X.fixed r.B r.S = false := by simpa using hf
          rw [if_pos (by simp [hf])]
          refine dr_st H fun w H => ?_
          have u1 := u8_rng ((48 : Int) + IntKind.u8.wrap (r.B : Int))
          have u2 := u8_rng ((48 : Int) + IntKind.u8.wrap (Int.tmod i (10 : Int)))
          refine nwS_st H fun b152 w H => ?_
          have H := row_new (sz := 1) (m := 3) rfl H
          refine b2s_st (r := [UInt8.ofNat (IntKind.u8.wrap ((48 : Int) + IntKind.u8.wrap (r.B : Int))).toNat, 32, UInt8.ofNat (IntKind.u8.wrap ((48 : Int) + IntKind.u8.wrap (Int.tmod i (10 : Int)))).toNat]) ?_ ?_
          · rw [← chars u1.1 u1.2 u2.1 u2.2]
            exact RdO_row H
          have H := H.drop
          refine cat_i (by simp) ?_
          generalize ([118, 97, 108, 117, 101, 32] : List UInt8) ++ [UInt8.ofNat (IntKind.u8.wrap ((48 : Int) + IntKind.u8.wrap (r.B : Int))).toNat, 32, UInt8.ofNat (IntKind.u8.wrap ((48 : Int) + IntKind.u8.wrap (Int.tmod i (10 : Int)))).toNat] = v0
          refine ixr_o (b := r.bw) (o := r.B * 18 + 10) (j := r.S) (p := r.B * 18 + 10 + r.S) rfl rfl (by omega) (by omega) ?_
          refine fn_st (v := .bool true) 2 H rfl rfl (by omega) rfl fun w H => ?_
          refine ixr_o (b := r.bw) (o := r.B * 18 + 14) (j := r.S) (p := r.B * 18 + 14 + r.S) rfl rfl (by omega) (by omega) ?_
          refine fn_st (v := .string ⟨v0.toArray⟩) 0 H rfl rfl (by omega) rfl fun w H => ?_
          refine dr_st H fun w H => ?_
          have rdv : ∀ (j : Nat), j < 5 → ∀ {w : World} {l : List Assn}, St r.W (fnA r.bw 162 65 (up1 (up1 (whoC X V) (r.B * 18 + 10 + r.S) (.bool true)) (r.B * 18 + 14 + r.S) (.string ⟨v0.toArray⟩)) :: l) w → RdAt tSlc ⟨r.bw, r.B * 18 + 5 + j, none⟩ w (V r.B j) := fun j hj _ _ H =>
            fn_rd H rfl (by omega) (by rw [up1_ne (by omega), up1_ne (by omega), who_votes X V hj])
          refine ixr_o (b := r.bw) (o := r.B * 18 + 5) (j := 0) (p := r.B * 18 + 5 + 0) rfl rfl (by omega) (by omega) ?_
          refine ixr_o (b := r.bw) (o := r.B * 18 + 5) (j := 1) (p := r.B * 18 + 5 + 1) rfl rfl (by omega) (by omega) ?_
          refine ixr_o (b := r.bw) (o := r.B * 18 + 5) (j := 2) (p := r.B * 18 + 5 + 2) rfl rfl (by omega) (by omega) ?_
          refine ixr_o (b := r.bw) (o := r.B * 18 + 5) (j := 3) (p := r.B * 18 + 5 + 3) rfl rfl (by omega) (by omega) ?_
          refine ixr_o (b := r.bw) (o := r.B * 18 + 5) (j := 4) (p := r.B * 18 + 5 + 4) rfl rfl (by omega) (by omega) ?_
          refine ex_i _ (rdv 0 (by omega) H) ?_
          refine ex_i _ (rdv 1 (by omega) H) ?_
          refine ex_i _ (rdv 2 (by omega) H) ?_
          refine ex_i _ (rdv 3 (by omega) H) ?_
          refine ex_i _ (rdv 4 (by omega) H) ?_
          refine nwS_st H fun b171 w H => ?_
          have H := row_new (sz := 1) (m := 5) rfl H
          have kH : Know (row tSlc 23 1 ⟨some ⟨b171, 0, none⟩, 5, 5⟩ [V r.B 0, V r.B 1, V r.B 2, V r.B 3, V r.B 4] ::
              fnA r.bw 162 65 (up1 (up1 (whoC X V) (r.B * 18 + 10 + r.S) (.bool true)) (r.B * 18 + 14 + r.S) (.string ⟨v0.toArray⟩)) :: bunch r.n (accF X dc ac) :: cel r.b0 (TStp.cells x) 69 :: fnA r.bt 180 67 (tookC X) :: fnA r.bc 4 62 (choC X) :: fnA r.bi 4 61 (isC X) :: fnA r.bd 5 57 (ptrC dc r.n) :: fnA r.ba 5 58 (ptrC ac r.n) :: heardA V X.E :: r.base) (HeardP V X.E) :=
            Know.app (l := heardA V X.E :: r.base) (Know.here (m := HeardP.mono)) [_, _, _, _, _, _, _, _, _]
          have kk : ∀ j, See 3 _ TVo (V r.B j) (X.E r.B j) := fun j => See.ro (fun _ => rfl) (kH.imp fun I hI => hI r.B j)
          refine cl_mono (pick_spec (qs := [V r.B 0, V r.B 1, V r.B 2, V r.B 3, V r.B 4]) (xss := [X.E r.B 0, X.E r.B 1, X.E r.B 2, X.E r.B 3, X.E r.B 4]) rfl (See.row (fun _ => rfl) 0 rfl) ?_ ?_ ?_ (by simp) H) ?_
          · intro j s xs h1 h2
            match j with
            | 0 => simp at h1 h2; subst h1; subst h2; exact kk 0
            | 1 => simp at h1 h2; subst h1; subst h2; exact kk 1
            | 2 => simp at h1 h2; subst h1; subst h2; exact kk 2
            | 3 => simp at h1 h2; subst h1; subst h2; exact kk 3
            | 4 => simp at h1 h2; subst h1; subst h2; exact kk 4
            | j + 5 => simp at h1
          · intro y hy
            simp only [List.flatten_cons, List.flatten_nil, List.append_nil, List.mem_append] at hy
            rcases hy with hy | hy | hy | hy | hy <;> exact (h.few _ _).2 y hy
          · have f0 := (h.few r.B 0).1
            have f1 := (h.few r.B 1).1
            have f2 := (h.few r.B 2).1
            have f3 := (h.few r.B 3).1
            have f4 := (h.few r.B 4).1
            simp only [List.flatten_cons, List.flatten_nil, List.length_append, List.length_nil]
            omega
          intro r174 w H
          refine ⟨rdv 0 (by omega) (H.front 2), rdv 1 (by omega) (H.front 2), rdv 2 (by omega) (H.front 2), rdv 3 (by omega) (H.front 2), rdv 4 (by omega) (H.front 2), ?_⟩
          have hfl : ([X.E r.B 0, X.E r.B 1, X.E r.B 2, X.E r.B 3, X.E r.B 4] : List (List Vote)).flatten.length ≤ 5000 := by
            have f0 := (h.few r.B 0).1
            have f1 := (h.few r.B 1).1
            have f2 := (h.few r.B 2).1
            have f3 := (h.few r.B 3).1
            have f4 := (h.few r.B 4).1
            simp only [List.flatten_cons, List.flatten_nil, List.length_append, List.length_nil]
            omega
          have hx1 : ∀ k, k < r.n → ∀ y ∈ X.E r.B k, y ∈ ([X.E r.B 0, X.E r.B 1, X.E r.B 2, X.E r.B 3, X.E r.B 4] : List (List Vote)).flatten := by
            intro k hk y hy
            simp only [List.flatten_cons, List.flatten_nil, List.append_nil, List.mem_append]
            have : k = 0 ∨ k = 1 ∨ k = 2 ∨ k = 3 ∨ k = 4 := by omega
            rcases this with rfl | rfl | rfl | rfl | rfl <;> simp [hy]
          have hx2 : ∀ y ∈ ([X.E r.B 0, X.E r.B 1, X.E r.B 2, X.E r.B 3, X.E r.B 4] : List (List Vote)).flatten, ∃ k, y ∈ X.E r.B k := by
            intro y hy
            simp only [List.flatten_cons, List.flatten_nil, List.append_nil, List.mem_append] at hy
            rcases hy with hy | hy | hy | hy | hy <;> exact ⟨_, hy⟩
          generalize ([X.E r.B 0, X.E r.B 1, X.E r.B 2, X.E r.B 3, X.E r.B 4] : List (List Vote)).flatten = xs5 at H hx1 hx2 hfl
          have hyl : (listV (pickE xs5)).length ≤ 5000 := by
            rw [listV_len]
            have := picks_len (xs := xs5) (es := [])
            unfold pickE
            simp only [List.length_nil] at this
            omega
          have hpm : ∀ y, y ∈ listV (pickE xs5) ↔ (pickE xs5).lookup y.Slot = some y := fun y => pickE_mem
          have hyn := row_len H
          have H := (H.ord [1]).drop
          clear kH kk rdv
          generalize hys : listV (pickE xs5) = ys at H hyl hpm hyn
          refine lp_p (fun j w => 0 ≤ j ∧ j ≤ ys.length ∧ ∃ v, ((v = v0 ∧ ∀ y ∈ ys.take j.toNat, y.Slot ≠ r.S) ∨ ∃ y ∈ ys, y.Slot = r.S ∧ v = y.V) ∧ St r.W (row TVo 47 3 r174 ys ::
              fnA r.bw 162 65 (up1 (up1 (whoC X V) (r.B * 18 + 10 + r.S) (.bool true)) (r.B * 18 + 14 + r.S) (.string ⟨v.toArray⟩)) :: bunch r.n (accF X dc ac) :: cel r.b0 (TStp.cells x) 69 :: fnA r.bt 180 67 (tookC X) :: fnA r.bc 4 62 (choC X) :: fnA r.bi 4 61 (isC X) :: fnA r.bd 5 57 (ptrC dc r.n) :: fnA r.ba 5 58 (ptrC ac r.n) :: heardA V X.E :: r.base) w) (fun j => (ys.length - j).toNat)
            ⟨Int.le_refl 0, by omega, v0, .inl ⟨rfl, by simp⟩, H⟩ ?_
          clear H
          rintro j w ⟨j0, j1, v, hv, H⟩ K hK2
          unfold F6_l11
          rw [hyn, hS]
          by_cases hj : j < ys.length
          · rw [if_pos (by simpa using hj)]
            have hy : ys[j.toNat]? = some ys[j.toNat] := List.getElem?_eq_getElem (by omega)
            have hym : ys[j.toNat] ∈ ys := List.getElem_mem _
            have ht : ys.take (j.toNat + 1) = ys.take j.toNat ++ [ys[j.toNat]] := by rw [List.take_succ_eq_append_getElem (by omega)]
            generalize ys[j.toNat] = y at hy hym ht
            have e1 : IntKind.i64.wrap (j + 1) = j + 1 := wrap_i64 (by omega) (by omega)
            have e2 : (j + 1).toNat = j.toNat + 1 := by omega
            obtain ⟨ay, hay⟩ := row_ix (i := j) H j0 hj
            refine ex_i ay hay ?_
            refine ex_i y.Slot (fld_row (U := tInt .i64) (fun _ => rfl) hay hy rfl H) ?_
            unfold F6_j12
            by_cases hsl : y.Slot = r.S
            · rw [if_pos (by simpa using hsl)]
              refine dr_st H fun w H => ?_
              refine ex_i ay hay ?_
              refine ex_i y.V (fld_row (U := tStr) (fun _ => rfl) hay hy rfl H) ?_
              refine ixr_o (b := r.bw) (o := r.B * 18 + 14) (j := r.S) (p := r.B * 18 + 14 + r.S) rfl rfl (by omega) (by omega) ?_
              refine fn_st (v := .string ⟨y.V.toArray⟩) 1 H rfl rfl (by omega) rfl fun w H => ?_
              rw [up1_up1] at H
              rw [e1]
              exact hK2 _ _ ⟨by omega, by omega, y.V, .inr ⟨y, hym, hsl, rfl⟩, H.front 1⟩ (by omega)
            · rw [if_neg (by simpa using hsl)]
              rw [e1]
              refine hK2 _ _ ⟨by omega, by omega, v, ?_, H⟩ (by omega)
              rcases hv with ⟨h1, h2⟩ | h1
              · refine .inl ⟨h1, fun z hz => ?_⟩
                rw [e2, ht] at hz
                rcases List.mem_append.1 hz with hz | hz
                · exact h2 z hz
                · rw [List.mem_singleton.1 hz]; exact hsl
              · exact .inr h1
          · rw [if_neg (by simpa using hj)]
            have : j = ys.length := by omega
            subst this
            have hv2 : ∀ y, (pickE xs5).lookup (r.S : Int) = some y → v = y.V := by
              intro y hy
              have hs := (pickE_some hy).1
              have hym : y ∈ ys := (hpm y).2 (by rw [hs]; exact hy)
              rcases hv with ⟨_, h2⟩ | ⟨z, hz, hzs, hzv⟩
              · exact absurd hs (h2 y (by simpa using hym))
              · have := (hpm z).1 hz
                rw [hzs, hy] at this
                cases this
                exact hzv
            rw [who_fix X V (by omega)] at H
            have hfit : Fit r _ i := ⟨h.inv.fix (v := v) hmaj hf hx1 hx2 hv2, h.len, h.few⟩
            have H := H.drop.ord [1, 2, 0]
            exact agrees_j7 hN hB hS i1 hfit (by simp) H hK
    · rw [if_pos (by simpa using hk1)]
      refine ixr_o (b := r.ba) (o := 0) (j := r.k) (p := r.k) rfl rfl (by omega) (by omega) ?_
      refine ex_i _ (ptr_rd (H.front 7) kn n5) ?_
      have H : St r.W (r.out x X V dc ac (hasA (ac r.k) (dc r.k) (X.rs r.k) (X.sr r.k))) w := bunch_out kn H
      refine cl_mono (hprep_spec (b := r.B) (by omega) H) ?_
      rintro ⟨q, e⟩ w ⟨he, h2, h3⟩
      simp only at he h2 h3
      have hx := prepR_ext (X.rs r.k) r.B
      have hl := prepR_legal (b := r.B) hleg.1
      have hrec : ∀ b n v, Rec.acc b n v ∈ (prepR (X.rs r.k) r.B).1 → X.fixed b n = true ∧ X.value b n = v := by
        intro b n v hm
        rcases prepR_mem hm with hm | hm
        · exact h.inv.recs _ kn _ _ _ hm
        · cases hm
      have hpr := prepR_prom (rs := X.rs r.k) (b := r.B)
      have hsame := prepR_same (rs := X.rs r.k) (b := r.B)
      by_cases c : (prepR (X.rs r.k) r.B).2 = 0
      · have H := h2 c
        have hpr := hpr c
        rw [c] at he
        clear h2 h3 c
        subst he
        generalize (prepR (X.rs r.k) r.B).1 = rs' at *
        refine ex_i x.Keep (fun _ => rk (H.front 3)) ?_
        have H := row_stay H
        by_cases c2 : bits .and .i64 x.Keep 1 = 0
        · rw [if_pos (by simp [c2])]
          refine ixr_o (b := r.ba) (o := 0) (j := r.k) (p := r.k) rfl rfl (by omega) (by omega) ?_
          refine ex_i _ (ptr_rd (H.front 9) kn n5) ?_
          refine nc_st rfl ?_
          refine hsync_spec (by obtain ⟨e, rfl, he⟩ := hx; rw [List.length_append]; omega) (H.front 1) fun w H => ?_
          have H := backL (H.ord [0, 2])
          rw [up1_self] at H
          have hfit := fit_sure h hx hl hrec
          have hsr : Play.sure { X with rs := up1 X.rs r.k rs', sr := up1 X.sr r.k rs'.length } r.k = fold rs' := by rw [sure_at, List.take_length]
          unfold F6_j6 F6_j5 F6_j4
          refine ex_i ⟨r.bw, r.B * 18, none⟩ (fun _ => rfl) ?_
          refine ex_i ⟨r.bw, r.B * 18 + r.k, none⟩ (fun _ => ixr_g (b := r.bw) (o := r.B * 18) (j := r.k) rfl rfl (by omega) (by omega)) ?_
          refine ex_i (X.said r.B r.k) (fun _ => fn_rd (H.front 3) rfl (by omega) (by rw [who_said X V (by omega)])) ?_
          by_cases hs : X.said r.B r.k = true
          · rw [if_neg (by simp [hs])]
            exact hK _ (goes (x := x) hfit (H.front 1).drop)
          · have hs : X.said r.B r.k = false := by simpa using hs
            rw [if_pos (by simp [hs])]
            refine dr_st H fun w H => ?_
            refine ixr_o (b := r.bw) (o := r.B * 18) (j := r.k) (p := r.B * 18 + r.k) rfl rfl (by omega) (by omega) ?_
            refine fn_st (v := .bool true) 3 H rfl rfl (by omega) rfl fun w H => ?_
            refine ixr_o (b := r.bw) (o := r.B * 18 + 5) (j := r.k) (p := r.B * 18 + 5 + r.k) rfl rfl (by omega) (by omega) ?_
            refine fn_st (v := tSlc.enc q) 0 H rfl rfl (by omega) rfl fun w H => ?_
            have hhear := hfit.inv.hear (b := (r.B : Int)) kn (by simp only [up1_at]) (by rw [hsr]; exact hpr) hs
            rw [hsr, hsame] at hhear
            rw [who_hear X V (by omega) q (fun c j => if c = (r.B : Int) ∧ j = r.k then listV (fold (X.rs r.k)).2 else X.E c j)] at H
            have H := heard_new (b := (r.B : Int)) (k := r.k) (H.ord [2, 9])
            have H := H.ord [2, 3, 1, 4, 5, 6, 7, 8, 0]
            refine hK _ (goes (x := x) (V := fun c j => if c = (r.B : Int) ∧ j = r.k then q else V c j) (dc := dc) (ac := ac) ⟨hhear, hfit.len, ?_⟩ H)
            intro b k
            simp only
            by_cases hbk : b = (r.B : Int) ∧ k = r.k
            · rw [if_pos hbk]
              refine ⟨?_, fun y hy => ?_⟩
              · rw [listV_len]
                have := fold_len (rs := X.rs r.k) (s := (0, []))
                unfold fold
                simp only [List.length_nil] at this
                omega
              · have := listV_ok (good_fold hleg.1) hy
                unfold InI
                omega
            · rw [if_neg hbk]
              exact h.few b k
        · rw [if_neg (by simp [c2])]
          unfold F6_j6 F6_j5 F6_j4
          refine ex_i ⟨0, 0, none⟩ (fun h => by cases h) ?_
          refine ex_i ⟨0, 0, none⟩ (fun h => by cases h) ?_
          refine ex_i false (fun h => by cases h) ?_
          rw [if_neg (by simp)]
          exact hK _ (goes (x := x) (fit_on h hx hl hrec) (back0 H.drop))
      · have H := (h3 c).2
        have c1 : e ≠ 0 := by rw [he]; exact c
        generalize (prepR (X.rs r.k) r.B).1 = rs' at *
        refine ex_i 0 (fun h => absurd (by simpa using h) c1) ?_
        rw [if_neg (by simp [c1])]
        unfold F6_j6 F6_j5 F6_j4
        refine ex_i ⟨0, 0, none⟩ (fun h => by cases h) ?_
        refine ex_i ⟨0, 0, none⟩ (fun h => by cases h) ?_
        refine ex_i false (fun h => by cases h) ?_
        rw [if_neg (by simp)]
        exact hK _ (goes (x := x) (fit_on h hx hl hrec) (back0 H))
end
def X0 : Play := ⟨fun _ => [], fun _ => 0, fun _ _ => false, fun _ _ => [], fun _ _ => false, fun _ _ => [], fun _ _ _ => false, fun _ => false, fun _ => []⟩
def V0 : Int → Nat → Slc := fun _ _ => nilS
theorem inv0 (n : Nat) : Inv n X0 := by
  refine ⟨fun k _ => ⟨trivial, Nat.le_refl _⟩, fun k _ b m v h => ?_, fun b k h => ?_, fun b s k h => ?_, fun b k x h => ?_, fun b k b' s h => ?_, fun b s b' h => ?_, fun s h => ?_⟩
  · simp [X0] at h
  · simp [X0] at h
  · simp [X0] at h
  · simp [X0] at h
  · simp [X0] at h
  · simp [X0] at h
  · simp [X0] at h
theorem cells_ptr (f : Nat → Nat) : (tArr tPtr 5).cells (Vector.replicate 5 (none : Option Addr)) = (List.range 5).map (ptrC f 0) := rfl
theorem cells_who : (tArr T63 9).cells (Vector.replicate 9 Z63) = (List.range 162).map (whoC X0 V0) := by kernel_rfl
theorem cells_took : (tArr (tArr (tArr tBool 5) 4) 9).cells (Vector.replicate 9 (Vector.replicate 4 (Vector.replicate 5 false))) = (List.range 180).map (tookC X0) := by kernel_rfl
theorem cells_cho : (tArr tStr 4).cells (Vector.replicate 4 ([] : List UInt8)) = (List.range 4).map (choC X0) := rfl
theorem cells_is : (tArr tBool 4).cells (Vector.replicate 4 false) = (List.range 4).map (isC X0) := rfl
theorem agrees_walk (W : World) (size : Int) (sl : Slc) (g0 : G5 W size) (g1 : G56 W sl) : cl Try.prog 6 [.int .u8 size, tSlc.enc sl] tBool W fun r w' => r = true ∧ RowKit.Below W.heap.size W w' := by
  obtain ⟨⟨hcap, hcap2⟩, steps, hI, hro⟩ := g1
  have hsl := hro.1
  have H := ro_old hro (St.start W)
  generalize hb : ([ro TStp sl steps, old W] : List Assn) = base at *
  have kS : See 5 base TStp sl steps := by rw [← hb]; exact See.ro lenStp (Know.here (m := RoP.mono))
  have bel : ∀ w, St W base w → RowKit.Below W.heap.size W w := by
    intro w H
    rw [← hb] at H
    exact H.drop.below
  clear hb
  have hN : ∃ n : Nat, 1 ≤ n ∧ n ≤ 5 ∧ IntKind.i64.wrap ((1 : Int) + (Int.tmod (IntKind.i64.wrap size) (5 : Int))) = (n : Int) := by
    have m1 : IntKind.u8.min = 0 := rfl
    have m2 : IntKind.u8.max = 255 := rfl
    unfold G5 at g0
    rw [m1, m2] at g0
    rw [wrap_i64 (x := size) (by omega) (by omega), Int.tmod_eq_emod_of_nonneg (by omega), wrap_i64 (by omega) (by omega)]
    exact ⟨(1 + size % 5).toNat, by omega, by omega, by omega⟩
  obtain ⟨n, n1, n5, hN⟩ := hN
  refine F6_ok ?_
  unfold F6
  refine nw_st H fun bd w H => ?_
  refine nw_st H fun ba w H => ?_
  rw [cells_ptr fun _ => 0] at H
  have H : St W (fnA bd 5 57 (ptrC (fun _ => 0) 0) :: fnA ba 5 58 (ptrC (fun _ => 0) 0) :: base) w := H.front 1
  refine lp_p (fun i w => 0 ≤ i ∧ i ≤ n ∧ ∃ dc ac : Nat → Nat, St W (fnA bd 5 57 (ptrC dc i.toNat) :: fnA ba 5 58 (ptrC ac i.toNat) :: bunch i.toNat (fun k => hasA (ac k) (dc k) [] 0) :: base) w) (fun i => (n - i).toNat)
    ⟨Int.le_refl 0, by omega, fun _ => 0, fun _ => 0, (bunch_zero H).ord [1, 2]⟩ ?_
  clear H
  rintro i w ⟨i0, i1, dc, ac, H⟩ K hK
  unfold F6_l1
  rw [hN]
  by_cases hi : i < n
  · rw [if_pos (by simpa using hi)]
    refine cl_mono (new_spec (by omega) (by omega) H) ?_
    rintro ⟨p1, e1⟩ w ⟨he, d, hp, H⟩
    simp only at he hp
    subst he; subst hp
    refine cl_mono (hopen_spec H) ?_
    rintro ⟨p2, e2⟩ w ⟨he, a, hp, H⟩
    simp only at he hp
    subst he; subst hp
    rw [if_neg (by simp)]
    refine ixr_o (b := bd) (o := 0) (j := i.toNat) (p := i.toNat) rfl (by omega) (by omega) (by omega) ?_
    refine fn_st (v := .pointer (some ⟨d, 0, none⟩)) 1 H rfl rfl (by omega) rfl fun w H => ?_
    refine ixr_o (b := ba) (o := 0) (j := i.toNat) (p := i.toNat) rfl (by omega) (by omega) (by omega) ?_
    refine fn_st (v := .pointer (some ⟨a, 0, none⟩)) 2 H rfl rfl (by omega) rfl fun w H => ?_
    rw [ptr_new, ptr_new] at H
    have e1 : IntKind.i64.wrap (i + 1) = i + 1 := wrap_i64 (by omega) (by omega)
    have e2 : (i + 1).toNat = i.toNat + 1 := by omega
    rw [e1]
    refine hK _ _ ⟨by omega, by omega, up1 dc i.toNat d, up1 ac i.toNat a, ?_⟩ (by omega)
    rw [e2]
    have H := H.ord [2, 3]
    have H2 := bunch_new (g := fun k => hasA (up1 ac i.toNat a k) (up1 dc i.toNat d k) [] 0) (fun j hj => by
      simp only [up1_ne (show j ≠ i.toNat by omega)]) (l := _) (n := i.toNat) (f := fun k => hasA (ac k) (dc k) [] 0) (by
        simp only [up1_at]
        exact H)
    exact H2.ord [2, 1]
  · rw [if_neg (by simpa using hi)]
    have : i = n := by omega
    subst this
    rw [Int.toNat_natCast] at H
    refine nw_st H fun bw w H => ?_
    refine nw_st H fun bt w H => ?_
    refine nw_st H fun bc w H => ?_
    refine nw_st H fun bi w H => ?_
    rw [cells_who, cells_took, cells_cho, cells_is] at H
    have H := H.know (φ := HeardP V0 X0.E) (m := HeardP.mono) (fun I _ _ b k => by
      have : RoP TVo nilS [] I = True := congrFun RoP.nil I
      show RoP TVo nilS [] I
      rw [this]; trivial)
    obtain ⟨r, hr⟩ : ∃ r : Rn, r = ⟨W, base, n, 1, 1, 0, bw, bt, bc, bi, bd, ba, 0, n1, n5, by omega, by omega, by omega, by omega, by omega⟩ := ⟨_, rfl⟩
    have H : St r.W (bunch r.n (accF X0 dc ac) :: r.two X0 V0 dc ac) w := by
      rw [hr]
      exact H.ord [7, 4, 3, 2, 1, 5, 6, 0]
    have hfit : Fit r X0 0 := by
      rw [hr]
      exact ⟨inv0 n, fun k _ => by simp [X0], fun b k => ⟨by simp [X0], fun x hx => by simp [X0] at hx⟩⟩
    have q1 : n = r.n := by rw [hr]
    have q2 : W = r.W := by rw [hr]
    have q3 : base = r.base := by rw [hr]
    have q4 : bw = r.bw ∧ bt = r.bt ∧ bc = r.bc ∧ bi = r.bi ∧ bd = r.bd ∧ ba = r.ba := by rw [hr]; exact ⟨rfl, rfl, rfl, rfl, rfl, rfl⟩
    obtain ⟨q4, q5, q6, q7, q8, q9⟩ := q4
    rw [q4, q5, q6, q7, q8, q9]
    rw [q1] at hN
    rw [q3] at kS bel
    rw [q2] at hI bel ⊢
    clear hr q1 q2 q3 q4 q5 q6 q7 q8 q9 hK
    refine lp_p (fun i w => 0 ≤ i ∧ i ≤ 80 ∧ ∃ X V dc ac, Fit r X i ∧ St r.W (bunch r.n (accF X dc ac) :: r.two X V dc ac) w) (fun i => (80 - i).toNat)
      ⟨Int.le_refl 0, by omega, X0, V0, dc, ac, hfit, H⟩ ?_
    clear H hfit
    rintro i w ⟨i0, i1, X, V, dc, ac, hfit, H⟩ K hK
    have hsl2 : (sl.len : Int) = steps.length := by omega
    unfold F6_l2
    rw [hsl2]
    by_cases hi : i < steps.length ∧ i < 80
    · rw [if_pos (by simpa using hi)]
      refine cl_mono (awake_spec H) ?_
      rintro t w ⟨rfl, H⟩
      have hx : steps[i.toNat]? = some steps[i.toNat] := List.getElem?_eq_getElem (by omega)
      refine agrees_j3 (x := steps[i.toNat]) hN kS (hI _ (List.getElem_mem _)) i0 (by omega) hi.1 hx hfit H ?_
      rintro w ⟨X, V, dc, ac, hfit, H⟩
      have e1 : IntKind.i64.wrap (i + 1) = i + 1 := wrap_i64 (by omega) (by omega)
      rw [e1]
      exact hK _ _ ⟨by omega, by omega, X, V, dc, ac, hfit, H⟩ (by omega)
    · rw [if_neg (by simpa using hi)]
      unfold F6_j3
      rw [if_neg (by simp)]
      refine cl_mono (awake_spec H) ?_
      rintro t w ⟨rfl, H⟩
      exact ⟨by trivial, bel _ H.drop.drop.drop.drop.drop.drop.drop.drop⟩
theorem _root_.Go.Proofs.Ytjkmeooncmhonaa.walkBallotAgrees (W : World) (size : Int) (sl : Slc) (g0 : G5 W size) (g1 : G56 W sl) : cl Try.prog 6 [.int .u8 size, tSlc.enc sl] tBool W fun r w' => r = true ∧ RowKit.Below W.heap.size W w' := agrees_walk W size sl g0 g1
end Go.Proofs.Ytjkmeooncmhonaa.Ballot
