/- Assertions on memory that may be set side by side: what is owned (h) and what stays for ever (I). Own base of this claim's contracts. -/
import Derived.Test.YtpdaapffkdejoaaGreatCfM
namespace Go.Proofs.YtpdaapffkdejoaaGreat.Cf
set_option linter.unusedSimpArgs false
set_option linter.unusedVariables false
open Go

abbrev PMap := Nat → Option Obj
def PMap.le (a b : PMap) : Prop := ∀ k o, a k = some o → b k = some o
def PMap.off (a b : PMap) : Prop := ∀ k, a k = none ∨ b k = none
structure Assn where
  p : PMap → PMap → Prop
  mono : ∀ {I I' h h' : PMap}, PMap.le I I' → PMap.le h h' → p I h → p I' h'

theorem PMap.le_refl (a : PMap) : PMap.le a a := fun _ _ h => h
theorem PMap.le_trans {a b c : PMap} (h : PMap.le a b) (k : PMap.le b c) : PMap.le a c := fun x o hx => k x o (h x o hx)
theorem PMap.off_le {a b c : PMap} (h : PMap.off a b) (k : PMap.le c b) : PMap.off a c := fun x => by
  cases hc : c x with
  | none => exact .inr rfl
  | some o => exact .inl ((h x).resolve_right (by rw [k x o hc]; simp))
theorem PMap.off_symm {a b : PMap} (h : PMap.off a b) : PMap.off b a := fun x => (h x).symm

def Seps : List Assn → PMap → PMap → Prop
  | [], _, _ => True
  | A :: l, I, h => ∃ h1 h2, PMap.off h1 h2 ∧ PMap.le h1 h ∧ PMap.le h2 h ∧ A.p I h1 ∧ Seps l I h2
theorem Seps.mono : ∀ {l : List Assn} {I I' h h' : PMap}, PMap.le I I' → PMap.le h h' → Seps l I h → Seps l I' h'
  | [], _, _, _, _, _, _, _ => trivial
  | _ :: _, _, _, _, _, hI, hh, ⟨h1, h2, ho, l1, l2, ha, hl⟩ => ⟨h1, h2, ho, (PMap.le_trans l1 hh), (PMap.le_trans l2 hh), Assn.mono _ hI (PMap.le_refl _) ha, Seps.mono hI (PMap.le_refl _) hl⟩
def sepA (l : List Assn) : Assn := ⟨Seps l, Seps.mono⟩
def exA {α : Type} (f : α → Assn) : Assn := ⟨fun I h => ∃ x, (f x).p I h, fun hI hh ⟨x, hx⟩ => ⟨x, (f x).mono hI hh hx⟩⟩
def puA (φ : Prop) : Assn := ⟨fun _ _ => φ, fun _ _ h => h⟩
/-- A block that is owned. -/
def blk (b : Nat) (o : Obj) : Assn := ⟨fun _ h => h b = some o, fun _ hh h => hh b o h⟩
/-- A row of cells that is owned. -/
def cel (b : Nat) (cs : List Value) (t : TypeId) : Assn := blk b (.cells cs.toArray t)
/-- What stays for ever. -/
def ever (φ : PMap → Prop) (m : ∀ {I I' : PMap}, PMap.le I I' → φ I → φ I') : Assn := ⟨fun I _ => φ I, fun hI _ h => m hI h⟩

/-- The state: os, tape and output are as in W; of the heap this is known. -/
structure St (W : World) (l : List Assn) (w : World) : Prop where
  os : w.os = W.os
  tape : w.tape = W.tape
  output : w.output = W.output
  size : W.heap.size ≤ w.heap.size
  mem : ∃ I h : PMap, PMap.off I h ∧ (∀ b o, I b = some o → w.heap[b]? = some o) ∧ (∀ b o, h b = some o → w.heap[b]? = some o) ∧ Seps l I h

section
variable {W w w' : World} {l l' : List Assn} {A B : Assn}
theorem St.same (H : St W l w) (ho : w'.os = w.os) (ht : w'.tape = w.tape) (hu : w'.output = w.output) (hh : w'.heap = w.heap) : St W l w' :=
  ⟨ho.trans H.os, ht.trans H.tape, hu.trans H.output, hh ▸ H.size, by rw [hh]; exact H.mem⟩
theorem St.drew (H : St W l w) : St W l w.drew := H.same rfl rfl rfl rfl
theorem St.imp (H : St W l w) (h : ∀ I h, Seps l I h → Seps l' I h) : St W l' w :=
  ⟨H.os, H.tape, H.output, H.size, let ⟨I, k, a, b, c, d⟩ := H.mem; ⟨I, k, a, b, c, h I k d⟩⟩

/-! ### order does not matter -/
theorem Seps.swap {I h : PMap} (H : Seps (A :: B :: l) I h) : Seps (B :: A :: l) I h := by
  obtain ⟨h1, h2, ho, l1, l2, ha, h3, h4, ho', l3, l4, hb, hl⟩ := H
  refine ⟨h3, fun x => if (h3 x).isSome then none else h x, ?_, (PMap.le_trans l3 l2), ?_, hb, h1, h4, ?_, ?_, ?_, ha, hl⟩
  · intro x
    cases h : h3 x <;> simp [h]
  · intro x o hx
    by_cases e : (h3 x).isSome <;> simp [e] at hx; exact hx
  · exact PMap.off_le ho l4
  · intro x o hx
    have : h3 x = none := by
      rcases ho x with h | h
      · rw [h] at hx; cases hx
      · cases h3x : h3 x with
        | none => rfl
        | some u => rw [l3 x u h3x] at h; cases h
    simp [this, l1 x o hx]
  · intro x o hx
    have : h3 x = none := (ho' x).resolve_right (by rw [hx]; simp)
    simp [this, l2 x o (l4 x o hx)]
theorem Seps.tail {I h : PMap} (g : ∀ I h, Seps l I h → Seps l' I h) (H : Seps (A :: l) I h) : Seps (A :: l') I h := by
  obtain ⟨h1, h2, ho, l1, l2, ha, hl⟩ := H
  exact ⟨h1, h2, ho, l1, l2, ha, g _ _ hl⟩
theorem Seps.perm (hp : l.Perm l') : ∀ {I h : PMap}, Seps l I h → Seps l' I h := by
  induction hp with
  | nil => exact fun h => h
  | cons x _ ih => exact fun h => Seps.tail (fun _ _ h => ih h) h
  | swap x y _ => exact fun h => Seps.swap h
  | trans _ _ i1 i2 => exact fun h => i2 (i1 h)
theorem St.perm (H : St W l w) (hp : l.Perm l') : St W l' w := H.imp fun _ _ h => h.perm hp
/-- Number i ahead of all. -/
def front (i : Nat) (l : List Assn) : List Assn := match l, i with
  | [], _ => []
  | A :: l, 0 => A :: l
  | A :: l, i + 1 => match front i l with
    | [] => [A]
    | B :: r => B :: A :: r
theorem front_perm : ∀ (i : Nat) (l : List Assn), l.Perm (front i l)
  | _, [] => by simp [front]
  | 0, _ :: _ => .refl _
  | i + 1, A :: l => by
    have ih := front_perm i l
    simp only [front]
    cases hf : front i l with
    | nil => rw [hf] at ih; rw [List.Perm.eq_nil ih]
    | cons B r => rw [hf] at ih; exact (ih.cons A).trans (.swap B A r)
theorem St.front (i : Nat) (H : St W l w) : St W (front i l) w := H.perm (front_perm i l)
/-- These places ahead of all, in this order. -/
def ord : List Nat → List Assn → List Assn
  | [], l => l
  | i :: is, l => _root_.Go.Proofs.YtpdaapffkdejoaaGreat.Cf.front (i + (is.filter fun j => Nat.blt i j).length) (ord is l)
theorem St.ord : ∀ (is : List Nat), St W l w → St W (Cf.ord is l) w
  | [], H => H
  | i :: is, H => (St.ord is H).front _
/-- The first one behind place i. -/
theorem St.drop (H : St W (A :: l) w) : St W l w := H.imp fun _ _ ⟨_, _, _, _, l2, _, hl⟩ => Seps.mono (PMap.le_refl _) l2 hl

/-! ### opening and shutting -/
theorem St.ex {α : Type} {f : α → Assn} (H : St W (exA f :: l) w) : ∃ x, St W (f x :: l) w := by
  obtain ⟨I, h, a, b, c, h1, h2, ho, l1, l2, ⟨x, hx⟩, hl⟩ := H.mem
  exact ⟨x, H.os, H.tape, H.output, H.size, I, h, a, b, c, h1, h2, ho, l1, l2, hx, hl⟩
theorem St.toEx {α : Type} {f : α → Assn} (x : α) (H : St W (f x :: l) w) : St W (exA f :: l) w :=
  H.imp fun _ _ ⟨h1, h2, ho, l1, l2, ha, hl⟩ => ⟨h1, h2, ho, l1, l2, ⟨x, ha⟩, hl⟩
theorem St.pu {φ : Prop} (H : St W (puA φ :: l) w) : φ ∧ St W l w := by
  refine ⟨?_, H.drop⟩
  obtain ⟨I, h, a, b, c, h1, h2, ho, l1, l2, hx, hl⟩ := H.mem
  exact hx
theorem St.toPu {φ : Prop} (hφ : φ) (H : St W l w) : St W (puA φ :: l) w :=
  H.imp fun _ h hl => ⟨fun _ => none, h, fun _ => .inl rfl, fun _ _ h => (by cases h), PMap.le_refl _, hφ, hl⟩
theorem Seps.append {l' : List Assn} {I h : PMap} : ∀ {l : List Assn}, Seps (l ++ l') I h ↔ Seps (sepA l :: l') I h
  | [] => ⟨fun H => ⟨fun _ => none, h, fun _ => .inl rfl, fun _ _ h => (by cases h), PMap.le_refl _, trivial, H⟩, fun ⟨_, _, _, _, l2, _, hl⟩ => Seps.mono (PMap.le_refl _) l2 hl⟩
  | A :: l => by
    constructor
    · rintro ⟨h1, h2, ho, l1, l2, ha, hl⟩
      obtain ⟨h3, h4, ho', l3, l4, hs, hl'⟩ := Seps.append.1 hl
      refine ⟨fun x => (h1 x).or (h3 x), h4, ?_, ?_, (PMap.le_trans l4 l2), ⟨h1, h3, PMap.off_le ho l3, ?_, ?_, ha, hs⟩, hl'⟩
      · intro x
        rcases ho' x with h | h
        · rcases PMap.off_le ho l4 x with k | k
          · left; simp [h, k]
          · exact .inr k
        · exact .inr h
      · intro x o hx
        cases e : h1 x with
        | some u => simp [e] at hx; subst hx; exact l1 x u e
        | none => simp [e] at hx; exact l2 x o (l3 x o hx)
      · intro x o hx; simp [hx]
      · intro x o hx
        have : h1 x = none := (PMap.off_le ho l3 x).resolve_right (by rw [hx]; simp)
        simp [this, hx]
    · rintro ⟨h12, h4, ho, l12, l4, ⟨h1, h3, ho', l1, l3, ha, hs⟩, hl'⟩
      refine ⟨h1, fun x => if (h1 x).isSome then none else h x, ?_, (PMap.le_trans l1 l12), ?_, ha, ?_⟩
      · intro x; cases e : h1 x <;> simp [e]
      · intro x o hx
        by_cases e : (h1 x).isSome <;> simp [e] at hx; exact hx
      · refine Seps.append.2 ⟨h3, h4, PMap.off_le (PMap.off_symm (PMap.off_le (PMap.off_symm ho) l3)) (PMap.le_refl _), ?_, ?_, hs, hl'⟩
        · intro x o hx
          have : h1 x = none := (ho' x).resolve_right (by rw [hx]; simp)
          simp [this, l12 x o (l3 x o hx)]
        · intro x o hx
          have : h1 x = none := by
            rcases ho x with k | k
            · cases e : h1 x with
              | none => rfl
              | some u => rw [l1 x u e] at k; cases k
            · rw [k] at hx; cases hx
          simp [this, l4 x o hx]
theorem St.open_ {l' : List Assn} (H : St W (sepA l' :: l) w) : St W (l' ++ l) w := H.imp fun _ _ h => Seps.append.2 h
theorem St.shut {l' : List Assn} (H : St W (l' ++ l) w) : St W (sepA l' :: l) w := H.imp fun _ _ h => Seps.append.1 h

/-! ### what stays for ever -/
theorem St.dup {φ : PMap → Prop} {m : ∀ {I I' : PMap}, PMap.le I I' → φ I → φ I'} (H : St W (ever φ m :: l) w) : St W (ever φ m :: ever φ m :: l) w :=
  H.imp fun _ h ⟨h1, h2, ho, l1, l2, ha, hl⟩ => ⟨fun _ => none, h, fun _ => .inl rfl, fun _ _ h => (by cases h), PMap.le_refl _, ha, h1, h2, ho, l1, l2, ha, hl⟩
theorem St.everI {φ : PMap → Prop} {m : ∀ {I I' : PMap}, PMap.le I I' → φ I → φ I'} (H : St W (ever φ m :: l) w) : ∃ I : PMap, (∀ b o, I b = some o → w.heap[b]? = some o) ∧ φ I := by
  obtain ⟨I, h, a, b, c, h1, h2, ho, l1, l2, hx, hl⟩ := H.mem
  exact ⟨I, b, hx⟩
theorem St.impEver {φ ψ : PMap → Prop} {m : ∀ {I I' : PMap}, PMap.le I I' → φ I → φ I'} {m' : ∀ {I I' : PMap}, PMap.le I I' → ψ I → ψ I'} (h : ∀ I, φ I → ψ I) (H : St W (ever φ m :: l) w) : St W (ever ψ m' :: l) w :=
  H.imp fun I _ ⟨h1, h2, ho, l1, l2, ha, hl⟩ => ⟨h1, h2, ho, l1, l2, h I ha, hl⟩

/-! ### blocks -/
theorem St.get {b : Nat} {o : Obj} (H : St W (blk b o :: l) w) : w.heap[b]? = some o := by
  obtain ⟨I, h, a, bb, c, h1, h2, ho, l1, l2, hx, hl⟩ := H.mem
  exact c b o (l1 b o hx)
/-- An owned block turns. -/
theorem St.put {b : Nat} {o u : Obj} (H : St W (blk b o :: l) w) (h1 : w'.os = w.os) (h2 : w'.tape = w.tape) (h3 : w'.output = w.output) (h4 : w'.heap = w.heap.setIfInBounds b u) : St W (blk b u :: l) w' := by
  obtain ⟨I, h, a, bb, c, k1, k2, ho, l1, l2, hx, hl⟩ := H.mem
  have hb := c b o (l1 b o hx)
  have hlt : b < w.heap.size := (Array.getElem?_eq_some_iff.1 hb).1
  refine ⟨h1.trans H.os, h2.trans H.tape, h3.trans H.output, by rw [h4]; simpa using H.size, I, fun x => if x = b then some u else k2 x, ?_, ?_, ?_, fun x => if x = b then some u else none, k2, ?_, ?_, ?_, ?_, hl⟩
  · intro x
    by_cases e : x = b
    · subst e; exact .inl ((a x).resolve_right (by rw [l1 x o hx]; simp))
    · simp only [e, if_false]
      exact PMap.off_le a l2 x
  · intro x v hv
    rw [h4, Array.getElem?_setIfInBounds]
    have hne : b ≠ x := by
      intro e; subst e
      have := (a b).resolve_right (by rw [l1 b o hx]; simp)
      rw [this] at hv; cases hv
    rw [if_neg hne]; exact bb x v hv
  · intro x v hv
    rw [h4, Array.getElem?_setIfInBounds]
    by_cases e : x = b
    · subst e; simp at hv; simp [hlt, hv]
    · simp only [e, if_false] at hv
      rw [if_neg (fun h => e h.symm)]
      exact c x v (l2 x v hv)
  · intro x
    by_cases e : x = b
    · subst e; right; exact (ho x).resolve_left (by rw [hx]; simp)
    · left; simp [e]
  · intro x v hv
    by_cases e : x = b <;> simp [e] at hv ⊢; exact hv
  · intro x v hv
    have : x ≠ b := by
      intro e; subst e
      have := (ho x).resolve_left (by rw [hx]; simp)
      rw [this] at hv; cases hv
    simp [this, hv]
  · show (fun x => if x = b then some u else none) b = some u
    simp
/-- A new block. -/
theorem St.alloc (o : Obj) (H : St W l w) : St W (blk w.heap.size o :: l) (w.alloc o) := by
  obtain ⟨I, h, a, bb, c, hl⟩ := H.mem
  have hI : I w.heap.size = none := by
    cases e : I w.heap.size with
    | none => rfl
    | some u => have := bb _ _ e; simp at this
  have hh : h w.heap.size = none := by
    cases e : h w.heap.size with
    | none => rfl
    | some u => have := c _ _ e; simp at this
  refine ⟨H.os, H.tape, H.output, by have := H.size; simp; omega, I, fun x => if x = w.heap.size then some o else h x, ?_, ?_, ?_, fun x => if x = w.heap.size then some o else none, h, ?_, ?_, ?_, ?_, hl⟩
  · intro x
    by_cases e : x = w.heap.size
    · subst e; exact .inl hI
    · simp only [e, if_false]; exact a x
  · intro x v hv
    have hlt : x < w.heap.size := (Array.getElem?_eq_some_iff.1 (bb x v hv)).1
    simp only [World.alloc, Array.getElem?_push]
    rw [if_neg (by omega)]; exact bb x v hv
  · intro x v hv
    simp only [World.alloc, Array.getElem?_push]
    by_cases e : x = w.heap.size
    · simp [e] at hv ⊢; exact hv
    · simp only [e, if_false] at hv ⊢; exact c x v hv
  · intro x
    by_cases e : x = w.heap.size
    · right; rw [e]; exact hh
    · left; simp [e]
  · intro x v hv
    by_cases e : x = w.heap.size <;> simp [e] at hv ⊢; exact hv
  · intro x v hv
    have : x ≠ w.heap.size := by intro e; rw [e, hh] at hv; cases hv
    simp [this, hv]
  · show (fun x => if x = w.heap.size then some o else none) w.heap.size = some o
    simp
/-- An owned block that is to stay as it is. -/
theorem St.stay {b : Nat} {o : Obj} (H : St W (blk b o :: l) w) : St W (ever (fun I => I b = some o) (fun h k => h _ _ k) :: l) w := by
  obtain ⟨I, h, a, bb, c, k1, k2, ho, l1, l2, hx, hl⟩ := H.mem
  have hb := c b o (l1 b o hx)
  have hIb : I b = none := (a b).resolve_right (by rw [l1 b o hx]; simp)
  have hle : PMap.le I (fun x => if x = b then some o else I x) := by
    intro x v hv
    have : x ≠ b := by intro e; rw [e, hIb] at hv; cases hv
    simp [this, hv]
  refine ⟨H.os, H.tape, H.output, H.size, fun x => if x = b then some o else I x, k2, ?_, ?_, ?_, fun _ => none, k2, fun _ => .inl rfl, fun _ _ h => (by cases h), PMap.le_refl _, ?_, Seps.mono hle (PMap.le_refl _) hl⟩
  · intro x
    by_cases e : x = b
    · subst e; right; exact (ho x).resolve_left (by rw [hx]; simp)
    · simp only [e, if_false]; exact PMap.off_le a l2 x
  · intro x v hv
    by_cases e : x = b
    · subst e; simp at hv; subst hv; exact hb
    · simp only [e, if_false] at hv; exact bb x v hv
  · intro x v hv; exact c x v (l2 x v hv)
  · show (fun x => if x = b then some o else I x) b = some o
    simp
end
end Go.Proofs.YtpdaapffkdejoaaGreat.Cf
