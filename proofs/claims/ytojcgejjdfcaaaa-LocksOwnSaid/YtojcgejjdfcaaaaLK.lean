/- What holds of the document's table whatever is asked and ended. -/
import Derived.Test.YtojcgejjdfcaaaaLI
namespace Go.Proofs.Ytojcgejjdfcaaaa.Locks
open Go Go.Proofs.Ytojcgejjdfcaaaa.Cf
set_option linter.unusedVariables false
set_option linter.unusedSimpArgs false
set_option maxRecDepth 100000
section
/-- The table while keys are given. -/
structure Pre (p : Int → Prop) (m : Md) : Prop where
  N : (m.W.map (·.Tx)).Nodup
  comp : ∀ y ∈ m.H, ∀ z ∈ m.H, y.Key = z.Key → tog y z = true
  nH : ∀ y ∈ m.H, y.Tx ∉ m.D
  nW : ∀ y ∈ m.W, y.Tx ∉ m.D
  young : ∀ x ∈ m.W, ∀ y ∈ m.H, y.Key = x.Key → tog y x = false → y.Tx < x.Tx
  up : ∀ x ∈ m.W, ∀ y ∈ m.H, y.Key = x.Key → y.Tx = x.Tx → x.Write = true ∧ y.Write = false
  pH : ∀ y ∈ m.H, p y.Tx
  pW : ∀ y ∈ m.W, p y.Tx
variable {p : Int → Prop} {m : Md}
theorem tog_comm (a b : S79) : tog a b = tog b a := by
  unfold tog
  have h : (a.Tx == b.Tx) = (b.Tx == a.Tx) := by
    rw [Bool.eq_iff_iff, beq_iff_eq, beq_iff_eq]; exact eq_comm
  rw [h, Bool.and_comm (!a.Write)]
theorem tog_false {a b : S79} : tog a b = false ↔ a.Tx ≠ b.Tx ∧ (a.Write = true ∨ b.Write = true) := by
  unfold tog
  cases a.Write <;> cases b.Write <;> simp
theorem tog_true {a b : S79} : tog a b = true ↔ a.Tx = b.Tx ∨ (a.Write = false ∧ b.Write = false) := by
  unfold tog
  cases a.Write <;> cases b.Write <;> simp
theorem may_H {x : S79} (h : may m x = true) : ∀ y ∈ m.H, y.Key = x.Key → tog y x = true := by
  intro y hy hk
  unfold may at h
  rw [Bool.and_eq_true, List.all_eq_true] at h
  have := h.1 y hy
  simpa [hk] using this
theorem may_W {x : S79} (h : may m x = true) : ∀ y ∈ m.W, y.Key = x.Key → y.Tx < x.Tx → tog y x = true := by
  intro y hy hk hlt
  unfold may at h
  rw [Bool.and_eq_true] at h
  have := List.all_eq_true.1 h.2 y hy
  simpa [hk, hlt] using this
theorem may_no {x : S79} : may m x = false ↔ (∃ y ∈ m.H, y.Key = x.Key ∧ tog y x = false) ∨ ∃ y ∈ m.W, y.Key = x.Key ∧ y.Tx < x.Tx ∧ tog y x = false := by
  unfold may
  rw [Bool.and_eq_false_iff, List.all_eq_false, List.all_eq_false]
  constructor
  · rintro (⟨y, hy, h⟩ | ⟨y, hy, h⟩)
    · left
      refine ⟨y, hy, ?_⟩
      simp only [Bool.not_eq_true, Bool.or_eq_false_iff, Bool.not_eq_false', beq_iff_eq] at h
      exact h
    · right
      refine ⟨y, hy, ?_⟩
      simp only [Bool.not_eq_true, Bool.or_eq_false_iff, Bool.not_eq_false', Bool.and_eq_true, beq_iff_eq, decide_eq_true_eq] at h
      exact ⟨h.1.1, h.1.2, h.2⟩
  · rintro (⟨y, hy, h1, h2⟩ | ⟨y, hy, h1, h2, h3⟩)
    · exact .inl ⟨y, hy, by simp [h1, h2]⟩
    · exact .inr ⟨y, hy, by simp [h1, h2, h3]⟩
theorem mem_grantH {x y : S79} : y ∈ (grant m x).H ↔ y = mrg m.H x ∨ (y ∈ m.H ∧ same x y = false) := by
  show y ∈ put _ _ ↔ _
  rw [mem_put, List.mem_filter]; simp
theorem mem_grantW {x y : S79} : y ∈ (grant m x).W ↔ y ∈ m.W ∧ y.Tx ≠ x.Tx := mem_wo
theorem same_false {x y : S79} (h : same x y = false) (hk : y.Key = x.Key) : y.Tx ≠ x.Tx := by
  intro e
  unfold same at h
  simp [e, hk] at h
theorem Pre.mrg_write (I : Pre p m) {x : S79} (hx : x ∈ m.W) (h : x.Write = false) : (mrg m.H x).Write = false := by
  show (x.Write || _) = false
  rw [h, Bool.false_or, List.any_eq_false]
  intro y hy hs
  unfold same at hs
  simp only [Bool.and_eq_true, beq_iff_eq] at hs
  have := I.up x hx y hy hs.1.2 hs.1.1
  rw [h] at this
  cases this.1
theorem mrg_up {H : List S79} {x : S79} (h : x.Write = true) : (mrg H x).Write = true := by
  show (x.Write || _) = true
  rw [h]; rfl
theorem Pre.grant (I : Pre p m) {x : S79} (hx : x ∈ m.W) (hm : may m x = true) : Pre p (grant m x) := by
  have one : ∀ y ∈ m.H, same x y = false → y.Key = x.Key → tog y (mrg m.H x) = true := by
    intro y hy hs hk
    have h1 := same_false hs hk
    have h2 := tog_true.1 (may_H hm y hy hk)
    rcases h2 with h2 | h2
    · exact absurd h2 h1
    · exact tog_true.2 (.inr ⟨h2.1, I.mrg_write hx h2.2⟩)
  refine ⟨I.N.sublist (List.filter_sublist.map _), fun y hy z hz hk => ?_, fun y hy => ?_, fun y hy => I.nW y (mem_grantW.1 hy).1, fun z hz y hy hk ht => ?_, fun z hz y hy hk ht => ?_, fun y hy => ?_, fun y hy => I.pW y (mem_grantW.1 hy).1⟩
  · rcases mem_grantH.1 hy with rfl | ⟨hy, hs⟩
    · rcases mem_grantH.1 hz with rfl | ⟨hz, hs⟩
      · exact tog_true.2 (.inl rfl)
      · rw [tog_comm]; exact one z hz hs hk.symm
    · rcases mem_grantH.1 hz with rfl | ⟨hz, hs2⟩
      · exact one y hy hs hk
      · exact I.comp y hy z hz hk
  · rcases mem_grantH.1 hy with rfl | ⟨hy, _⟩
    · exact I.nW x hx
    · exact I.nH y hy
  · obtain ⟨hz, hne⟩ := mem_grantW.1 hz
    rcases mem_grantH.1 hy with rfl | ⟨hy, hs⟩
    · show x.Tx < z.Tx
      have hk : x.Key = z.Key := hk
      by_cases c : x.Tx < z.Tx
      · exact c
      · have h1 := may_W hm z hz hk.symm (by omega)
        rcases tog_true.1 h1 with h1 | h1
        · exact absurd h1 hne
        · have h2 := (tog_false.1 ht).2
          rw [I.mrg_write hx h1.2] at h2
          rcases h2 with h2 | h2
          · cases h2
          · rw [h1.1] at h2; cases h2
    · exact I.young z hz y hy hk ht
  · obtain ⟨hz, hne⟩ := mem_grantW.1 hz
    rcases mem_grantH.1 hy with rfl | ⟨hy, hs⟩
    · have ht : x.Tx = z.Tx := ht
      exact absurd ht.symm hne
    · exact I.up z hz y hy hk ht
  · rcases mem_grantH.1 hy with rfl | ⟨hy, _⟩
    · exact I.pW x hx
    · exact I.pH y hy
theorem Pre.still (I : Pre p m) {x z : S79} (hx : x ∈ m.W) (hz : z ∈ m.W) (hne : x.Tx ≠ z.Tx) (h : may m x = false) : may (Locks.grant m z) x = false := by
  rw [may_no] at h ⊢
  rcases h with ⟨y, hy, h1, h2⟩ | ⟨y, hy, h1, h2, h3⟩
  · left
    cases hs : same z y with
    | false => exact ⟨y, mem_grantH.2 (.inr ⟨hy, hs⟩), h1, h2⟩
    | true =>
      unfold same at hs
      simp only [Bool.and_eq_true, beq_iff_eq] at hs
      refine ⟨mrg m.H z, mem_grantH.2 (.inl rfl), hs.2.symm.trans h1, ?_⟩
      obtain ⟨g1, g2⟩ := tog_false.1 h2
      refine tog_false.2 ⟨fun e => hne e.symm, ?_⟩
      rcases g2 with g2 | g2
      · left
        show (z.Write || _) = true
        have : m.H.any (fun y => same z y && y.Write) = true := List.any_eq_true.2 ⟨y, hy, by simp [same, hs.1, hs.2, g2]⟩
        rw [this, Bool.or_true]
      · exact .inr g2
  · by_cases c : y.Tx = z.Tx
    · have : y = z := nodup_inj I.N y hy z hz c
      subst this
      left
      refine ⟨mrg m.H y, mem_grantH.2 (.inl rfl), h1, ?_⟩
      obtain ⟨g1, g2⟩ := tog_false.1 h3
      refine tog_false.2 ⟨g1, ?_⟩
      rcases g2 with g2 | g2
      · exact .inl (mrg_up g2)
      · exact .inr g2
    · right
      exact ⟨y, mem_grantW.2 ⟨hy, c⟩, h1, h2, h3⟩
/-- Keys given: all that wait still must wait. -/
theorem give_pre : ∀ (P : List S79) (m : Md), Pre p m → (∀ x ∈ P, x ∈ m.W) → (P.map (·.Tx)).Nodup →
    Pre p (give P m).1 ∧ (∀ x ∈ (give P m).1.W, x ∈ P ∨ may m x = false → may (give P m).1 x = false) ∧ (give P m).1.H.length + (give P m).1.W.length ≤ m.H.length + m.W.length ∧ (give P m).1.D = m.D
  | [], m, I, _, _ => ⟨I, fun x _ h => (h.resolve_left (by simp)), Nat.le_refl _, rfl⟩
  | z :: P, m, I, hP, hN => by
    have hz := hP z (List.mem_cons_self ..)
    have hN' := List.nodup_cons.1 hN
    have hne : ∀ x ∈ P, x.Tx ≠ z.Tx := fun x hx e => hN'.1 (List.mem_map.2 ⟨x, hx, e⟩)
    simp only [give]
    by_cases c : may m z = true
    · rw [if_pos c]
      obtain ⟨h1, h2, h3, h4⟩ := give_pre P (grant m z) (I.grant hz c) (fun x hx => mem_grantW.2 ⟨hP x (List.mem_cons_of_mem _ hx), hne x hx⟩) hN'.2
      refine ⟨h1, fun x hx h => ?_, ?_, h4⟩
      · have hxW := mem_grantW.1 ((give_sub P (grant m z)).subset hx)
        refine h2 x hx ?_
        rcases h with h | h
        · rcases List.mem_cons.1 h with rfl | h
          · exact absurd rfl hxW.2
          · exact .inl h
        · exact .inr (I.still hxW.1 hz hxW.2 h)
      · have g1 : (grant m z).H.length ≤ m.H.length + 1 := by
          show (put _ _).length ≤ _
          rw [put_len]
          have := List.length_filter_le (fun y => !same z y) m.H
          omega
        have g2 : (grant m z).W.length < m.W.length := by
          show (wo m.W z.Tx).length < _
          unfold wo
          refine List.length_filter_lt_length_iff_exists.2 ⟨z, hz, by simp⟩
        show (give P (grant m z)).1.H.length + (give P (grant m z)).1.W.length ≤ _
        omega
    · rw [if_neg c]
      obtain ⟨h1, h2, h3, h4⟩ := give_pre P m I (fun x hx => hP x (List.mem_cons_of_mem _ hx)) hN'.2
      refine ⟨h1, fun x hx h => ?_, h3, h4⟩
      refine h2 x hx ?_
      rcases h with h | h
      · rcases List.mem_cons.1 h with rfl | h
        · right; simpa using c
        · exact .inl h
      · exact .inr h
/-- The table between calls. -/
structure Inv (p : Int → Prop) (j : Nat) (m : Md) : Prop where
  pre : Pre p m
  blk : ∀ x ∈ m.W, may m x = false
  hw : m.H.length + m.W.length ≤ j
  d : m.D.length ≤ 100 * j
  pD : ∀ o ∈ m.D, p o
theorem Inv.start : Inv p 0 ⟨[], [], []⟩ := ⟨⟨by simp, by simp, by simp, by simp, by simp, by simp, by simp, by simp⟩, by simp, by simp, by simp, by simp⟩
theorem Inv.mono {p' : Int → Prop} {j j' : Nat} (I : Inv p j m) (hp : ∀ x, p x → p' x) (hj : j ≤ j') : Inv p' j' m :=
  ⟨⟨I.pre.N, I.pre.comp, I.pre.nH, I.pre.nW, I.pre.young, I.pre.up, fun y hy => hp _ (I.pre.pH y hy), fun y hy => hp _ (I.pre.pW y hy)⟩, I.blk, by have := I.hw; omega, by have := I.d; omega, fun o ho => hp _ (I.pD o ho)⟩
theorem Pre.wo (I : Pre p m) (tx : Int) {D : List Int} (hD : ∀ o, o ∈ D → o ∈ m.D ∨ o = tx) : Pre (fun x => p x ∧ x ≠ tx) ⟨Locks.wo m.H tx, Locks.wo m.W tx, D⟩ := by
  refine ⟨I.N.sublist (List.filter_sublist.map _), fun y hy z hz hk => I.comp y (mem_wo.1 hy).1 z (mem_wo.1 hz).1 hk, fun y hy h => ?_, fun y hy h => ?_, fun x hx y hy hk ht => I.young x (mem_wo.1 hx).1 y (mem_wo.1 hy).1 hk ht, fun x hx y hy hk ht => I.up x (mem_wo.1 hx).1 y (mem_wo.1 hy).1 hk ht, fun y hy => ⟨I.pH y (mem_wo.1 hy).1, (mem_wo.1 hy).2⟩, fun y hy => ⟨I.pW y (mem_wo.1 hy).1, (mem_wo.1 hy).2⟩⟩
  · rcases hD _ h with h | h
    · exact I.nH y (mem_wo.1 hy).1 h
    · exact (mem_wo.1 hy).2 h
  · rcases hD _ h with h | h
    · exact I.nW y (mem_wo.1 hy).1 h
    · exact (mem_wo.1 hy).2 h
theorem Pre.weak {p' : Int → Prop} (I : Pre p m) (h : ∀ x, p x → p' x) : Pre p' m := ⟨I.N, I.comp, I.nH, I.nW, I.young, I.up, fun y hy => h _ (I.pH y hy), fun y hy => h _ (I.pW y hy)⟩
theorem give_inv {j : Nat} {m : Md} (I : Pre p m) (hw : m.H.length + m.W.length ≤ j) (hd : m.D.length ≤ 100 * j) (pD : ∀ o ∈ m.D, p o) : Inv p j (give m.W m).1 := by
  obtain ⟨h1, h2, h3, h4⟩ := give_pre m.W m I (fun _ h => h) I.N
  exact ⟨h1, fun x hx => h2 x hx (.inl ((give_sub m.W m).subset hx)), Nat.le_trans h3 hw, by rw [h4]; exact hd, by rw [h4]; exact pD⟩
theorem Inv.ended {j : Nat} (I : Inv p j m) (tx : Int) : Inv (fun x => p x ∧ x ≠ tx) j (give (Locks.ended m tx).W (Locks.ended m tx)).1 := by
  refine give_inv (I.pre.wo tx fun o ho => .inl (List.mem_filter.1 ho).1) ?_ ?_ fun o ho => ?_
  · have h1 := wo_len m.H tx; have h2 := wo_len m.W tx; have := I.hw
    show (Locks.wo m.H tx).length + (Locks.wo m.W tx).length ≤ j
    omega
  · have := List.length_filter_le (· != tx) m.D; have := I.d
    show (m.D.filter (· != tx)).length ≤ _
    omega
  · obtain ⟨h1, h2⟩ := List.mem_filter.1 ho
    exact ⟨I.pD o h1, by simpa using h2⟩
theorem wounds_pre : ∀ (L : List Int) (m : Md), Pre p m → Pre p (L.foldl wound m) ∧ (∀ y, y ∈ (L.foldl wound m).H ↔ y ∈ m.H ∧ y.Tx ∉ L) ∧ (∀ y, y ∈ (L.foldl wound m).W ↔ y ∈ m.W ∧ y.Tx ∉ L) ∧ (∀ o, o ∈ (L.foldl wound m).D ↔ o ∈ m.D ∨ o ∈ L)
  | [], m, I => ⟨I, fun y => by simp, fun y => by simp, fun o => by simp⟩
  | o :: L, m, I => by
    have I1 : Pre p (wound m o) := (I.wo o (D := m.D ++ [o]) fun x hx => by
      rcases List.mem_append.1 hx with h | h
      · exact .inl h
      · exact .inr (List.mem_singleton.1 h)).weak fun x h => h.1
    obtain ⟨h1, h2, h3, h4⟩ := wounds_pre L (wound m o) I1
    refine ⟨h1, fun y => ?_, fun y => ?_, fun x => ?_⟩
    · rw [List.foldl_cons, h2]
      show y ∈ Locks.wo m.H o ∧ _ ↔ _
      rw [mem_wo, List.mem_cons, not_or, and_assoc]
    · rw [List.foldl_cons, h3]
      show y ∈ Locks.wo m.W o ∧ _ ↔ _
      rw [mem_wo, List.mem_cons, not_or, and_assoc]
    · rw [List.foldl_cons, h4]
      show x ∈ m.D ++ [o] ∨ _ ↔ _
      rw [List.mem_append, List.mem_singleton, List.mem_cons, or_assoc]
theorem mem_wounded {x : S79} {o : Int} : o ∈ wounded m x ↔ ∃ y ∈ m.H, y.Tx = o ∧ y.Key = x.Key ∧ y.Tx > x.Tx ∧ tog x y = false := by
  unfold wounded
  rw [List.mem_map]
  constructor
  · rintro ⟨y, hy, rfl⟩
    obtain ⟨h1, h2⟩ := List.mem_filter.1 hy
    simp only [Bool.and_eq_true, beq_iff_eq, decide_eq_true_eq, Bool.not_eq_true'] at h2
    exact ⟨y, h1, rfl, h2.1.1, h2.1.2, h2.2⟩
  · rintro ⟨y, h1, rfl, h2, h3, h4⟩
    exact ⟨y, List.mem_filter.2 ⟨h1, by simp [h2, h3, h4]⟩, rfl⟩
theorem Inv.asked {j : Nat} (I : Inv p j m) {x : S79} (hp : p x.Tx) (hE : askE m x = 0) (hh : has m x = false) (hj : j < 100) : Inv p (j + 1) (give (Locks.asked m x).W (Locks.asked m x)).1 := by
  obtain ⟨w1, w2, w3, w4⟩ := wounds_pre (wounded m x) m I.pre
  have hwl := wounded_len m x
  have hls := wound_lens (wounded m x) m
  have hnD : x.Tx ∉ m.D ∧ ∀ y ∈ m.W, y.Tx ≠ x.Tx := by
    unfold askE at hE
    split at hE
    · omega
    · split at hE
      · omega
      · split at hE
        · omega
        · rename_i h3
          split at hE
          · omega
          · rename_i h4
            refine ⟨fun h => h3 (List.any_eq_true.2 ⟨_, h, by simp⟩), fun y hy e => h4 (List.any_eq_true.2 ⟨y, hy, by simpa using e⟩)⟩
  have hxw : x.Tx ∉ wounded m x := by
    rw [mem_wounded]
    rintro ⟨y, _, h1, _, h2, _⟩
    omega
  have hxD : x.Tx ∉ ((wounded m x).foldl wound m).D := by rw [w4]; exact fun h => h.elim hnD.1 hxw
  have hxW : ∀ y ∈ ((wounded m x).foldl wound m).W, y.Tx ≠ x.Tx := fun y hy => hnD.2 y ((w3 y).1 hy).1
  refine give_inv ?_ ?_ ?_ ?_
  · refine ⟨?_, w1.comp, w1.nH, fun y hy => ?_, fun z hz y hy hk ht => ?_, fun z hz y hy hk ht => ?_, w1.pH, fun y hy => ?_⟩
    · show ((put _ x).map (·.Tx)).Nodup
      rw [(put_perm.map _).nodup_iff, List.map_cons]
      refine List.nodup_cons.2 ⟨fun hm => ?_, w1.N⟩
      obtain ⟨y, hy, e⟩ := List.mem_map.1 hm
      exact hxW y hy e
    · rcases mem_put.1 hy with rfl | hy
      · exact hxD
      · exact w1.nW y hy
    · rcases mem_put.1 hz with rfl | hz
      · obtain ⟨g1, g2⟩ := (w2 y).1 hy
        by_cases c : y.Tx < z.Tx
        · exact c
        · have := (tog_false.1 ht).1
          exact absurd (mem_wounded.2 ⟨y, g1, rfl, hk, by omega, by rw [tog_comm]; exact ht⟩) g2
      · exact w1.young z hz y hy hk ht
    · rcases mem_put.1 hz with rfl | hz
      · obtain ⟨g1, g2⟩ := (w2 y).1 hy
        have := List.any_eq_false.1 hh y g1
        simp only [Bool.and_eq_true, Bool.or_eq_true, Bool.not_eq_true', beq_iff_eq, not_and, not_or, Bool.not_eq_false, Bool.not_eq_true] at this
        exact ⟨(this ⟨hk, ht⟩).2, (this ⟨hk, ht⟩).1⟩
      · exact w1.up z hz y hy hk ht
    · rcases mem_put.1 hy with rfl | hy
      · exact hp
      · exact w1.pW y hy
  · show ((wounded m x).foldl wound m).H.length + (put ((wounded m x).foldl wound m).W x).length ≤ j + 1
    have := I.hw
    rw [put_len]; omega
  · show ((wounded m x).foldl wound m).D.length ≤ _
    have := I.hw; have := I.d
    omega
  · intro o ho
    rcases (w4 o).1 ho with h | h
    · exact I.pD o h
    · obtain ⟨y, hy, rfl, _⟩ := mem_wounded.1 h
      exact I.pre.pH y hy
/-- A call. -/
def act (m : Md) (o : S30) : Md × Ans × Int := if o.Kind = 0 then ask m ⟨o.Tx, o.Key, o.Write⟩ else ((end_ m o.Tx).1, ⟨false, [], (end_ m o.Tx).2.1⟩, (end_ m o.Tx).2.2)
theorem askE_tx {x : S79} (h : askE m x = 0) : 1 ≤ x.Tx := by
  unfold askE at h
  split at h
  · omega
  · omega
theorem Inv.ask {j : Nat} (I : Inv p j m) {x : S79} (hp : 1 ≤ x.Tx → p x.Tx) (hj : j < 100) : Inv p (j + 1) (ask m x).1 := by
  have I1 := I.mono (p' := p) (fun _ h => h) (Nat.le_succ j)
  unfold Locks.ask
  by_cases h1 : askE m x ≠ 0
  · rw [if_pos h1]; exact I1
  · rw [if_neg h1]
    by_cases h2 : has m x = true
    · rw [if_pos h2]; exact I1
    · rw [if_neg h2]
      exact I.asked (hp (askE_tx (m := m) (by omega))) (by omega) (by simpa using h2) hj
theorem Inv.end_ {j : Nat} (I : Inv p j m) (tx : Int) : Inv p j (Locks.end_ m tx).1 := by
  unfold Locks.end_
  by_cases h1 : tx < 1
  · rw [if_pos h1]; exact I
  · rw [if_neg h1]
    exact (I.ended tx).mono (fun _ h => h.1) (Nat.le_refl _)
theorem Inv.act {j : Nat} (I : Inv p j m) {o : S30} (hp : 1 ≤ o.Tx → p o.Tx) (hj : j < 100) : Inv p (j + 1) (act m o).1 := by
  unfold Locks.act
  by_cases h : o.Kind = 0
  · rw [if_pos h]; exact I.ask (x := ⟨o.Tx, o.Key, o.Write⟩) hp hj
  · rw [if_neg h]; exact (I.end_ o.Tx).mono (fun _ h => h) (Nat.le_succ j)
theorem give_out : ∀ (P : List S79) (m : Md) (x : S79), x ∈ m.W → x ∈ (give P m).1.W ∨ ∃ g ∈ (give P m).2, g.Tx = x.Tx
  | [], m, x, h => .inl h
  | z :: P, m, x, h => by
    simp only [give]
    by_cases c : may m z = true
    · rw [if_pos c]
      by_cases e : x.Tx = z.Tx
      · exact .inr ⟨_, List.mem_cons_self .., e.symm⟩
      · rcases give_out P (grant m z) x (mem_grantW.2 ⟨h, e⟩) with h1 | ⟨g, h1, h2⟩
        · exact .inl h1
        · exact .inr ⟨g, List.mem_cons_of_mem _ h1, h2⟩
    · rw [if_neg c]
      exact give_out P m x h
theorem give_none : ∀ (P : List S79) (m : Md), (∀ x ∈ P, may m x = false) → give P m = (m, [])
  | [], m, _ => rfl
  | z :: P, m, h => by
    simp only [give]
    rw [if_neg (by rw [h z (List.mem_cons_self ..)]; decide)]
    exact give_none P m fun x hx => h x (List.mem_cons_of_mem _ hx)
theorem give_D (P : List S79) : ∀ m : Md, (give P m).1.D = m.D := by
  induction P with
  | nil => intro m; rfl
  | cons z P ih =>
    intro m
    simp only [give]
    split
    · exact ih (grant m z)
    · exact ih m
/-- The eldest one never waits. -/
theorem Inv.eldest {j : Nat} (I : Inv p j m) (hp : ∀ x, p x → 1 ≤ x) : ∀ x ∈ m.W, x.Tx ≠ 1 := by
  intro x hx e
  rcases may_no.1 (I.blk x hx) with ⟨y, hy, h1, h2⟩ | ⟨y, hy, _, h2, _⟩
  · have h3 := I.pre.young x hx y hy h1 h2
    have := hp _ (I.pre.pH y hy)
    omega
  · have := hp _ (I.pre.pW y hy)
    omega
theorem Inv.eldest_ok {j : Nat} (I : Inv p j m) (hp : ∀ x, p x → 1 ≤ x) (h1 : p 1) (hj : j < 100) {x : S79} (hx : x.Tx = 1) (hE : (Locks.ask m x).2.2 = 0) : (Locks.ask m x).2.1.ok = true := by
  have I2 := I.ask (x := x) (fun _ => by rw [hx]; exact h1) hj
  have hE0 : askE m x = 0 := by
    unfold Locks.ask at hE
    by_cases c : askE m x ≠ 0
    · rw [if_pos c] at hE; exact hE
    · omega
  unfold Locks.ask at I2 ⊢
  rw [if_neg (by omega)] at I2 ⊢
  by_cases c : has m x = true
  · rw [if_pos c]
  · rw [if_neg c] at I2 ⊢
    rcases give_out (Locks.asked m x).W (Locks.asked m x) x (mem_put.2 (.inl rfl)) with h | ⟨g, h2, h3⟩
    · exact absurd hx (I2.eldest hp x h)
    · exact List.any_eq_true.2 ⟨g, h2, by simpa using h3⟩
theorem ask_D {x : S79} (h : ∀ o ∈ m.D, 1 < o) : ∀ o ∈ (ask m x).1.D, 1 < o := by
  unfold Locks.ask
  by_cases h1 : askE m x ≠ 0
  · rw [if_pos h1]; exact h
  · rw [if_neg h1]
    by_cases h2 : has m x = true
    · rw [if_pos h2]; exact h
    · rw [if_neg h2]
      intro o ho
      have ho : o ∈ (give (Locks.asked m x).W (Locks.asked m x)).1.D := ho
      rw [give_D] at ho
      have e : ∀ (L : List Int) (m : Md), (L.foldl wound m).D = m.D ++ L := by
        intro L
        induction L with
        | nil => intro m; simp
        | cons a L ih => intro m; rw [List.foldl_cons, ih]; show (m.D ++ [a]) ++ L = _; simp
      have ho : o ∈ ((wounded m x).foldl wound m).D := ho
      rw [e, List.mem_append] at ho
      rcases ho with ho | ho
      · exact h o ho
      · obtain ⟨y, _, e1, _, e2, _⟩ := mem_wounded.1 ho
        have := askE_tx (m := m) (x := x) (by omega)
        omega
theorem end_D {tx : Int} (h : ∀ o ∈ m.D, 1 < o) : ∀ o ∈ (end_ m tx).1.D, 1 < o := by
  unfold Locks.end_
  by_cases h1 : tx < 1
  · rw [if_pos h1]; exact h
  · rw [if_neg h1]
    intro o ho
    have ho : o ∈ (give (Locks.ended m tx).W (Locks.ended m tx)).1.D := ho
    rw [give_D] at ho
    exact h o (List.mem_filter.1 ho).1
theorem act_D {o : S30} (h : ∀ o ∈ m.D, 1 < o) : ∀ x ∈ (act m o).1.D, 1 < x := by
  unfold act
  by_cases c : o.Kind = 0
  · rw [if_pos c]; exact ask_D h
  · rw [if_neg c]; exact end_D h
/-- An end, and nothing is left of who ended. -/
theorem Inv.end_gone {j : Nat} (I : Inv p j m) (hp : ∀ x, p x → 1 ≤ x) (tx : Int) : Inv (fun x => p x ∧ x ≠ tx) j (Locks.end_ m tx).1 := by
  unfold Locks.end_
  by_cases h1 : tx < 1
  · rw [if_pos h1]
    exact I.mono (fun x h => ⟨h, by have := hp x h; omega⟩) (Nat.le_refl _)
  · rw [if_neg h1]; exact I.ended tx
end
end Go.Proofs.Ytojcgejjdfcaaaa.Locks
