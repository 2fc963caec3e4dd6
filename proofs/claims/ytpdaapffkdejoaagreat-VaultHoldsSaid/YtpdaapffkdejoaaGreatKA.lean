/- A store as the document has it: the list of what was put. -/
import Derived.Test.YtpdaapffkdejoaaGreatSlI
import Derived.Test.YtpdaapffkdejoaaGreatFs
namespace Go.Proofs.YtpdaapffkdejoaaGreat.Store
open Go Go.Proofs.YtpdaapffkdejoaaGreat.Cf
set_option linter.unusedVariables false
set_option linter.unusedSimpArgs false
set_option maxRecDepth 100000
/-- What was put: a stamp and an entry. -/
structure Row where
  T_ : Int
  X : S62
/-- All that was put and is kept, up to when it is closed, the mark. -/
structure Md where
  rows : List Row
  closed : Int
  mark : Int
def vs (L : List Row) (k : Int) : List S86 := (L.filter fun r => r.X.Key == k).map fun r => ⟨r.T_, r.X.V⟩
def upto (l : List S86) (at_ : Int) : List S86 := l.filter fun v => decide (v.T_ ≤ at_)
def cnt (l : List S86) (at_ : Int) : Option S86 := (upto l at_).getLast?
def timeM (m : Md) (at_ : Int) : Int := if at_ < 0 ∨ at_ > 1125899906842624 then 120 else if at_ > m.closed then 128 else if at_ < m.mark then 126 else 0
def getM (m : Md) (key at_ : Int) : S86 × Int :=
  if key < 0 ∨ key > 8191 then (⟨0, 0⟩, 123) else if timeM m at_ ≠ 0 then (⟨0, 0⟩, timeM m at_)
  else match cnt (vs m.rows key) at_ with
    | none => (⟨0, 0⟩, 127)
    | some v => (v, 0)
def lastV (l : List S86) : S86 × Bool := (l.getLast?.getD ⟨0, 0⟩, l.getLast?.isSome)
def whyL (L : List Row) (t : Int) : List Int → List S62 → Int
  | _, [] => 0
  | seen, x :: xs => if x.Key < 0 ∨ x.Key > 8191 then 123 else if x.Key ∈ seen then 124 else if (lastV (vs L x.Key)).1.T_ ≥ t then 121 else if 10000 ≤ (vs L x.Key).length then 125 else whyL L t (seen ++ [x.Key]) xs
def putE (m : Md) (t : Int) (l : List S62) : Int :=
  if t < 1 ∨ t > 1125899906842624 then 120 else if t ≤ m.closed then 121 else if l.length > 100 then 122 else whyL m.rows t [] l
def news (t : Int) (l : List S62) : List Row := l.map fun x => ⟨t, x⟩
def putM (m : Md) (t : Int) (l : List S62) : Md := if putE m t l = 0 then { m with rows := m.rows ++ news t l } else m
def closeE (t : Int) : Int := if t < 0 ∨ t > 1125899906842624 then 120 else 0
def closeM (m : Md) (t : Int) : Md := if closeE t = 0 then { m with closed := max m.closed t } else m
def gone (mark : Int) (r : Row) (L : List Row) : Bool := L.any fun q => (q.X.Key == r.X.Key) && decide (q.T_ ≤ mark)
def keep (mark : Int) : List Row → List Row
  | [] => []
  | r :: L => if gone mark r L = true then keep mark L else r :: keep mark L
def keepV (mark : Int) : List S86 → List S86
  | [] => []
  | v :: l => if l.any (fun q => decide (q.T_ ≤ mark)) = true then keepV mark l else v :: keepV mark l
def pruneE (m : Md) (t : Int) : Int := if t < 0 ∨ t > 1125899906842624 then 120 else if t > m.closed then 128 else 0
def pruneM (m : Md) (t : Int) : Md := if pruneE m t = 0 then ⟨keep (max m.mark t) m.rows, m.closed, max m.mark t⟩ else m
/-- All keys, rising. -/
structure Keys (L : List Row) (ks : List Int) : Prop where
  rise : ks.Pairwise fun x y => x < y
  all : ∀ k, k ∈ ks ↔ vs L k ≠ []
def snapK (L : List Row) (at_ : Int) (ks : List Int) : List S62 := ks.filterMap fun k => (cnt (vs L k) at_).map fun v => ⟨k, v.V⟩
/-- What stands in a store at every time. -/
structure Inv (m : Md) : Prop where
  cap : ∀ k, (vs m.rows k).length ≤ 10000
  key : ∀ r ∈ m.rows, 0 ≤ r.X.Key ∧ r.X.Key ≤ 8191
  time : ∀ r ∈ m.rows, 1 ≤ r.T_ ∧ r.T_ ≤ 1125899906842624
  rise : m.rows.Pairwise fun a b => a.X.Key = b.X.Key → a.T_ < b.T_
  mark : 0 ≤ m.mark ∧ m.mark ≤ m.closed ∧ m.closed ≤ 1125899906842624
def Rise (l : List S86) : Prop := l.Pairwise fun a b => a.T_ < b.T_
theorem vs_app (L M : List Row) (k : Int) : vs (L ++ M) k = vs L k ++ vs M k := by simp [vs]
theorem vs_nil (k : Int) : vs [] k = [] := rfl
theorem vs_cons (r : Row) (L : List Row) (k : Int) : vs (r :: L) k = if r.X.Key = k then ⟨r.T_, r.X.V⟩ :: vs L k else vs L k := by
  unfold vs
  by_cases h : r.X.Key = k
  · rw [if_pos h, List.filter_cons_of_pos (by simpa using h)]; rfl
  · rw [if_neg h, List.filter_cons_of_neg (by simpa using h)]
theorem vs_len (L : List Row) (k : Int) : (vs L k).length ≤ L.length := by unfold vs; rw [List.length_map]; exact List.length_filter_le _ _
theorem vs_mem {L : List Row} {k : Int} {v : S86} (h : v ∈ vs L k) : ∃ r ∈ L, r.X.Key = k ∧ r.T_ = v.T_ ∧ r.X.V = v.V := by
  unfold vs at h
  obtain ⟨r, hr, rfl⟩ := List.mem_map.1 h
  obtain ⟨h1, h2⟩ := List.mem_filter.1 hr
  exact ⟨r, h1, by simpa using h2, rfl, rfl⟩
theorem vs_ne {L : List Row} {k : Int} : vs L k ≠ [] ↔ ∃ r ∈ L, r.X.Key = k := by
  constructor
  · intro h
    obtain ⟨v, hv⟩ := List.exists_mem_of_ne_nil _ h
    obtain ⟨r, h1, h2, _⟩ := vs_mem hv
    exact ⟨r, h1, h2⟩
  · rintro ⟨r, h1, h2⟩ h
    have : (⟨r.T_, r.X.V⟩ : S86) ∈ vs L k := List.mem_map.2 ⟨r, List.mem_filter.2 ⟨h1, by simpa using h2⟩, rfl⟩
    rw [h] at this; cases this
theorem vs_rise {L : List Row} (h : L.Pairwise fun a b => a.X.Key = b.X.Key → a.T_ < b.T_) (k : Int) : Rise (vs L k) := by
  unfold vs Rise
  rw [List.pairwise_map]
  have h1 := h.filter (p := fun r => r.X.Key == k)
  refine List.Pairwise.imp_of_mem ?_ h1
  intro a b ha hb hab
  have ha := (List.mem_filter.1 ha).2
  have hb := (List.mem_filter.1 hb).2
  simp only [beq_iff_eq] at ha hb
  exact hab (ha.trans hb.symm)
theorem keep_any (mark : Int) (r : Row) (L : List Row) : gone mark r L = (vs L r.X.Key).any fun q => decide (q.T_ ≤ mark) := by
  unfold gone vs
  rw [List.any_map, List.any_filter]
  rfl
theorem vs_keep (mark : Int) (k : Int) : ∀ L : List Row, vs (keep mark L) k = keepV mark (vs L k)
  | [] => rfl
  | r :: L => by
    have ih := vs_keep mark k L
    rw [vs_cons]
    unfold keep
    by_cases h : r.X.Key = k
    · rw [if_pos h]
      have hg : gone mark r L = (vs L k).any fun q => decide (q.T_ ≤ mark) := by rw [keep_any, h]
      rw [keepV, ← hg]
      split
      · exact ih
      · rw [vs_cons, if_pos h, ih]
    · rw [if_neg h]
      split
      · exact ih
      · rw [vs_cons, if_neg h, ih]
theorem keepV_none {mark : Int} : ∀ {b : List S86}, (∀ v ∈ b, ¬ v.T_ ≤ mark) → keepV mark b = b
  | [], _ => rfl
  | v :: b, h => by
    have hn : ¬ b.any (fun q => decide (q.T_ ≤ mark)) = true := by
      rw [List.any_eq_true]
      rintro ⟨q, hq, hd⟩
      exact h q (List.mem_cons_of_mem _ hq) (by simpa using hd)
    rw [keepV, if_neg hn, keepV_none fun v hv => h v (List.mem_cons_of_mem _ hv)]
theorem keepV_app {mark : Int} {b : List S86} (hb : ∀ v ∈ b, ¬ v.T_ ≤ mark) : ∀ {a : List S86}, (∀ v ∈ a, v.T_ ≤ mark) → keepV mark (a ++ b) = a.drop (a.length - 1) ++ b
  | [], _ => by simpa using keepV_none hb
  | [v], h => by
    have hn : ¬ b.any (fun q => decide (q.T_ ≤ mark)) = true := by
      rw [List.any_eq_true]
      rintro ⟨q, hq, hd⟩
      exact hb q hq (by simpa using hd)
    show keepV mark (v :: b) = _
    rw [keepV, if_neg hn, keepV_none hb]; rfl
  | v :: u :: a, h => by
    have hn : (u :: a ++ b).any (fun q => decide (q.T_ ≤ mark)) = true :=
      List.any_eq_true.2 ⟨u, by simp, by simpa using h u (by simp)⟩
    show keepV mark (v :: (u :: a ++ b)) = _
    rw [keepV, if_pos hn, keepV_app hb fun v hv => h v (List.mem_cons_of_mem _ hv)]
    simp
/-- The place of the first version above a time. -/
structure Place (l : List S86) (at_ : Int) (j : Nat) : Prop where
  le : j ≤ l.length
  lo : ∀ v ∈ l.take j, v.T_ ≤ at_
  hi : ∀ v ∈ l.drop j, ¬ v.T_ ≤ at_
theorem Place.upto {l : List S86} {at_ : Int} {j : Nat} (h : Place l at_ j) : upto l at_ = l.take j := by
  unfold Store.upto
  conv => lhs; rw [← List.take_append_drop j l]
  rw [List.filter_append, List.filter_eq_self.2 fun v hv => by simpa using h.lo v hv, List.filter_eq_nil_iff.2 fun v hv => by simpa using h.hi v hv, List.append_nil]
theorem Place.keep {l : List S86} {at_ : Int} {j : Nat} (h : Place l at_ j) : keepV at_ l = l.drop (j - 1) := by
  conv => lhs; rw [← List.take_append_drop j l]
  rw [keepV_app h.hi h.lo, List.length_take, Nat.min_eq_left h.le]
  conv => rhs; rw [← List.take_append_drop j l]
  rw [List.drop_append_of_le_length (by rw [List.length_take, Nat.min_eq_left h.le]; omega)]
theorem Place.cnt0 {l : List S86} {at_ : Int} (h : Place l at_ 0) : cnt l at_ = none := by unfold cnt; rw [h.upto]; rfl
theorem Place.cnt {l : List S86} {at_ : Int} {j : Nat} (h : Place l at_ (j + 1)) : cnt l at_ = l[j]? := by
  unfold Store.cnt; rw [h.upto, List.getLast?_take, if_neg (by omega)]
  have := h.le
  rw [show j + 1 - 1 = j from rfl, List.getElem?_eq_getElem (by omega)]; rfl
theorem keep_len (mark : Int) : ∀ L : List Row, (keep mark L).length ≤ L.length
  | [] => Nat.le_refl _
  | r :: L => by
    have := keep_len mark L
    unfold keep; split
    · exact Nat.le_succ_of_le this
    · exact Nat.succ_le_succ this
theorem keep_sub (mark : Int) : ∀ L : List Row, (keep mark L).Sublist L
  | [] => List.Sublist.refl _
  | r :: L => by
    have := keep_sub mark L
    unfold keep; split
    · exact this.cons _
    · exact this.cons_cons _
theorem keepV_nil {mark : Int} {l : List S86} (hl : Rise l) : keepV mark l = [] ↔ l = [] := by
  constructor
  · intro h
    induction l with
    | nil => rfl
    | cons v l ih =>
      unfold keepV at h
      split at h
      · rename_i hc
        have := ih (List.pairwise_cons.1 hl).2 h
        subst this; simp at hc
      · cases h
  · rintro rfl; rfl
/-- Rows of keys that are all told make up all. -/
theorem sum_vs {ks : List Int} (hn : ks.Nodup) : ∀ {L : List Row}, (∀ r ∈ L, r.X.Key ∈ ks) → (ks.map fun k => (vs L k).length).sum = L.length
  | [], _ => by
    clear hn
    induction ks with
    | nil => rfl
    | cons k ks ih => simpa [vs_nil] using ih
  | r :: L, h => by
    have ih := sum_vs hn (L := L) fun q hq => h q (List.mem_cons_of_mem _ hq)
    obtain ⟨l1, l2, e⟩ := List.append_of_mem (h r (List.mem_cons_self ..))
    rw [e] at hn ih ⊢
    have hn2 := List.nodup_append.1 hn
    have hnot : ∀ k ∈ l1 ++ l2, ¬ r.X.Key = k := by
      intro k hk heq
      rcases List.mem_append.1 hk with h1 | h1
      · exact hn2.2.2 k h1 r.X.Key (List.mem_cons_self ..) heq.symm
      · exact (List.nodup_cons.1 hn2.2.1).1 (by rw [heq]; exact h1)
    have h1 : l1.map (fun k => (vs (r :: L) k).length) = l1.map fun k => (vs L k).length := List.map_congr_left fun k hk => by rw [vs_cons, if_neg (hnot k (List.mem_append_left _ hk))]
    have h2 : l2.map (fun k => (vs (r :: L) k).length) = l2.map fun k => (vs L k).length := List.map_congr_left fun k hk => by rw [vs_cons, if_neg (hnot k (List.mem_append_right _ hk))]
    simp only [List.map_append, List.map_cons, List.sum_append, List.sum_cons, h1, h2] at ih ⊢
    rw [vs_cons, if_pos rfl]
    simp only [List.length_cons]; omega
theorem Keys.uniq {L M : List Row} {ks js : List Int} (h : Keys L ks) (h2 : Keys M js) (he : ∀ k, vs L k ≠ [] ↔ vs M k ≠ []) : ks = js := by
  have hp : ks.Perm js := (List.perm_ext_iff_of_nodup (h.rise.imp fun h => Int.ne_of_lt h) (h2.rise.imp fun h => Int.ne_of_lt h)).2 fun k => by rw [h.all, h2.all, he]
  exact hp.eq_of_pairwise (fun a b _ _ h1 h2 => by omega) h.rise h2.rise
end Go.Proofs.YtpdaapffkdejoaaGreat.Store
