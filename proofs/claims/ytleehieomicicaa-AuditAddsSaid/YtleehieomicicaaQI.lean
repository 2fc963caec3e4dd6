/- Plain laws of lists of entries by rising keys. -/
import Derived.Test.YtleehieomicicaaQH
namespace Go.Proofs.Ytleehieomicicaa.Audit
open Go Go.Proofs.Ytleehieomicicaa.Cf
set_option linter.unusedVariables false
set_option linter.unusedSimpArgs false
set_option maxRecDepth 100000
section
/-- Keys rise. -/
def Rise (L : List S36) : Prop := L.Pairwise fun a b => a.Key < b.Key
theorem rises_pw : ∀ L : List S36, rises L = true ↔ Rise L
  | [] => by simp [rises, Rise]
  | [x] => by simp [rises, Rise]
  | x :: y :: L => by
    have ih := rises_pw (y :: L)
    simp only [rises, Bool.and_eq_true, decide_eq_true_eq, ih]
    unfold Rise
    rw [List.pairwise_cons (a := x)]
    constructor
    · rintro ⟨h1, h2⟩
      refine ⟨fun z hz => ?_, h2⟩
      rcases List.mem_cons.1 hz with rfl | hz
      · exact h1
      · have := (List.pairwise_cons.1 h2).1 z hz; omega
    · rintro ⟨h1, h2⟩; exact ⟨h1 y (List.mem_cons_self ..), h2⟩
/-- What a list says of a key. -/
def val : List S36 → Int → Int
  | [], _ => 0
  | x :: L, k => if x.Key = k then x.V else val L k
theorem val_none {k : Int} : ∀ {L : List S36}, (∀ x ∈ L, x.Key ≠ k) → val L k = 0
  | [], _ => rfl
  | x :: L, h => by
    rw [val, if_neg (h x (List.mem_cons_self ..))]
    exact val_none fun y hy => h y (List.mem_cons_of_mem _ hy)
theorem val_mem : ∀ {L : List S36} {x : S36}, Rise L → x ∈ L → val L x.Key = x.V
  | y :: L, x, h, hx => by
    rcases List.mem_cons.1 hx with rfl | hx
    · rw [val, if_pos rfl]
    · have := (List.pairwise_cons.1 h).1 x hx
      rw [val, if_neg (by omega)]
      exact val_mem (List.pairwise_cons.1 h).2 hx
theorem val_some {k : Int} : ∀ {L : List S36}, val L k ≠ 0 → ∃ x ∈ L, x.Key = k ∧ x.V = val L k
  | [], h => absurd rfl h
  | y :: L, h => by
    rw [val] at h ⊢
    by_cases e : y.Key = k
    · rw [if_pos e]; exact ⟨y, List.mem_cons_self .., e, rfl⟩
    · rw [if_neg e] at h ⊢
      obtain ⟨x, hx, h1, h2⟩ := val_some h
      exact ⟨x, List.mem_cons_of_mem _ hx, h1, h2⟩
theorem rise_eq : ∀ {L M : List S36}, Rise L → Rise M → (∀ x, x ∈ L ↔ x ∈ M) → L = M
  | [], [], _, _, _ => rfl
  | [], y :: M, _, _, h => absurd ((h y).2 (List.mem_cons_self ..)) (by simp)
  | x :: L, [], _, _, h => absurd ((h x).1 (List.mem_cons_self ..)) (by simp)
  | x :: L, y :: M, hL, hM, h => by
    have hL' := List.pairwise_cons.1 hL
    have hM' := List.pairwise_cons.1 hM
    have e : x = y := by
      rcases List.mem_cons.1 ((h x).1 (List.mem_cons_self ..)) with e | e
      · exact e
      · rcases List.mem_cons.1 ((h y).2 (List.mem_cons_self ..)) with e2 | e2
        · exact e2.symm
        · have := hL'.1 y e2; have := hM'.1 x e; omega
    subst e
    have := rise_eq hL'.2 hM'.2 fun z => ⟨fun hz => by
      rcases List.mem_cons.1 ((h z).1 (List.mem_cons_of_mem _ hz)) with e | e
      · subst e; have := hL'.1 _ hz; omega
      · exact e, fun hz => by
      rcases List.mem_cons.1 ((h z).2 (List.mem_cons_of_mem _ hz)) with e | e
      · subst e; have := hM'.1 _ hz; omega
      · exact e⟩
    rw [this]
theorem s36_eq {x y : S36} (h1 : x.Key = y.Key) (h2 : x.V = y.V) : x = y := by cases x; cases y; simp only at h1 h2; subst h1; subst h2; rfl
theorem canon_eq {L M : List S36} (hL : Rise L) (hM : Rise M) (zL : ∀ x ∈ L, x.V ≠ 0) (zM : ∀ x ∈ M, x.V ≠ 0) (h : ∀ k, val L k = val M k) : L = M := by
  have one : ∀ {L M : List S36}, Rise L → Rise M → (∀ x ∈ L, x.V ≠ 0) → (∀ k, val L k = val M k) → ∀ x, x ∈ L → x ∈ M := by
    intro L M hL hM zL h x hx
    have h1 := val_mem hL hx
    have h2 : val M x.Key ≠ 0 := by rw [← h, h1]; exact zL x hx
    obtain ⟨y, hy, e1, e2⟩ := val_some h2
    have : y = x := s36_eq e1 (by rw [e2, ← h, h1])
    rw [← this]; exact hy
  exact rise_eq hL hM fun x => ⟨one hL hM zL h x, one hM hL zM (fun k => (h k).symm) x⟩
theorem lt_sorted {ks : List Int} (hn : ks.Nodup) : (ks.mergeSort fun x y => decide (x ≤ y)).Pairwise (· < ·) := by
  have h1 : (ks.mergeSort fun x y => decide (x ≤ y)).Pairwise fun x y => decide (x ≤ y) = true :=
    List.pairwise_mergeSort (fun a b c h1 h2 => by simp at h1 h2 ⊢; omega) (fun a b => by simp; omega) ks
  have h2 : (ks.mergeSort fun x y => decide (x ≤ y)).Nodup := (List.mergeSort_perm ks _).nodup_iff.2 hn
  exact (h1.and h2).imp fun {a b} h => by
    have h3 : a ≤ b := by simpa using h.1
    have h4 : a ≠ b := h.2
    omega
theorem sorted_rise {ks : List Int} (hn : ks.Nodup) (f : Int → Int) : Rise ((ks.mergeSort fun x y => decide (x ≤ y)).map fun k => (⟨k, f k⟩ : S36)) :=
  List.Pairwise.map _ (fun a b h => h) (lt_sorted hn)
theorem sorted_mem {ks : List Int} (f : Int → Int) (x : S36) : x ∈ ((ks.mergeSort fun x y => decide (x ≤ y)).map fun k => (⟨k, f k⟩ : S36)) ↔ x.Key ∈ ks ∧ x.V = f x.Key := by
  rw [List.mem_map]
  constructor
  · rintro ⟨k, hk, rfl⟩
    exact ⟨(List.mergeSort_perm ks _).mem_iff.1 hk, rfl⟩
  · rintro ⟨h1, h2⟩
    exact ⟨x.Key, (List.mergeSort_perm ks _).mem_iff.2 h1, s36_eq rfl h2.symm⟩
/-- What was taken is just what was there, in its order; keys are unlike and may be. -/
theorem goes_ok : ∀ {L : List S36} {es : List (Int × Int)} {sum : Int}, (es.map (·.1)).Nodup → (∀ p ∈ es, 0 ≤ p.1 ∧ p.1 < 8192) → (goes es sum L).2.2 = 0 →
    (goes es sum L).1 = es ++ L.map (fun x => (x.Key, x.V)) ∧ (((goes es sum L).1).map (·.1)).Nodup ∧ (∀ p ∈ (goes es sum L).1, 0 ≤ p.1 ∧ p.1 < 8192)
  | [], es, sum, h1, h2, h3 => by simp only [goes, List.map_nil, List.append_nil]; exact ⟨trivial, h1, h2⟩
  | x :: L, es, sum, h1, h2, h3 => by
    simp only [goes] at h3 ⊢
    by_cases hw : why es sum x = 0
    · rw [if_pos hw] at h3 ⊢
      have hk : 0 ≤ x.Key ∧ x.Key < 8192 := by
        unfold why at hw
        by_cases c : x.Key < 0 ∨ x.Key ≥ 8192
        · rw [if_pos c] at hw; omega
        · omega
      have hl : es.lookup x.Key = none := by
        unfold why at hw
        by_cases c : x.Key < 0 ∨ x.Key ≥ 8192
        · rw [if_pos c] at hw; omega
        · rw [if_neg c] at hw
          by_cases c2 : (es.lookup x.Key).isSome = true
          · rw [if_pos c2] at hw; omega
          · cases e : es.lookup x.Key with
            | none => rfl
            | some u => rw [e] at c2; exact absurd rfl c2
      have hu : ups x.Key x.V es = es ++ [(x.Key, x.V)] := by
        clear h1 h2 h3 hw
        induction es with
        | nil => rfl
        | cons p es ih =>
          obtain ⟨a, b⟩ := p
          simp only [List.lookup] at hl
          by_cases c : (x.Key == a) = true
          · rw [c] at hl; cases hl
          · simp only [Bool.not_eq_true] at c
            rw [c] at hl
            simp only [ups, c, Bool.false_eq_true, if_false, List.cons_append, ih hl]
      have n1 := nodup_ups (key := x.Key) (v := x.V) h1
      have := goes_ok (L := L) (es := ups x.Key x.V es) (sum := sum + x.V) n1 (by
        rw [hu]
        intro p hp
        rcases List.mem_append.1 hp with hp | hp
        · exact h2 p hp
        · rw [List.mem_singleton.1 hp]; exact hk) h3
      rw [hu] at this ⊢
      refine ⟨?_, this.2⟩
      rw [this.1, List.map_cons, List.append_assoc]; rfl
    · rw [if_neg hw] at h3
      exact absurd h3 hw
end
end Go.Proofs.Ytleehieomicicaa.Audit
