/- A table in memory and the document's: what asking and ending turn. -/
import Derived.Test.YtojcgejjdfcaaaaLH
import Derived.Test.YtojcgejjdfcaaaaLD
namespace Go.Proofs.Ytojcgejjdfcaaaa.Locks
open Go Go.Proofs.Ytojcgejjdfcaaaa.Cf
set_option linter.unusedVariables false
set_option linter.unusedSimpArgs false
set_option maxRecDepth 100000
section
variable {t : TbP} {m : Md} {n : Nat}
theorem Rel.mono (r : Rel t m n) {n' : Nat} (h : n ≤ n') : Rel t m n' :=
  { r with len := Nat.le_trans r.len h, sz := fun e he => Nat.le_trans (r.sz e he) h }
theorem look_ups77 {k x : Int} {v : S77} (es : List (Int × S77)) : ((ups k v es).lookup x).isSome = ((es.lookup x).isSome || x == k) := by
  rw [lookup_ups]
  by_cases c : (x == k) = true
  · rw [if_pos c, c]; simp
  · rw [if_neg c]
    simp only [Bool.not_eq_true] at c
    rw [c, Bool.or_false]
/-- One is wounded. -/
def woundT (o : Int) (t : TbP) : TbP := { freeT o t with dead := ups o (⟨⟩ : S77) t.dead }
theorem Rel.wound (r : Rel t m n) (o : Int) : Rel (woundT o t) (wound m o) n := by
  have f := r.free o
  refine ⟨f.len, f.keys, f.sz, f.rH, f.rW, f.kd, f.hd, f.vd, f.wd, nodup_ups r.dd, f.H, f.W, f.ws, fun tx => ?_, f.oH, f.oW⟩
  show ((ups o (⟨⟩ : S77) t.dead).lookup tx).isSome = (m.D ++ [o]).any (· == tx)
  rw [look_ups77, r.D, List.any_append]
  congr 1
  rw [Bool.eq_iff_iff]
  simp only [List.any_cons, List.any_nil, Bool.or_false, beq_iff_eq]
  exact eq_comm
/-- One ends. -/
def endT (tx : Int) (t : TbP) : TbP := { freeT tx t with dead := del tx t.dead }
theorem Rel.ended (r : Rel t m n) (tx : Int) : Rel (endT tx t) (ended m tx) n := by
  have f := r.free tx
  refine ⟨f.len, f.keys, f.sz, f.rH, f.rW, f.kd, f.hd, f.vd, f.wd, nodup_del r.dd, f.H, f.W, f.ws, fun x => ?_, f.oH, f.oW⟩
  show ((del tx t.dead).lookup x).isSome = (m.D.filter (· != tx)).any (· == x)
  rw [lookup_del tx x t.dead r.dd, List.any_filter]
  by_cases c : (x == tx) = true
  · rw [if_pos c]
    have e : x = tx := by simpa using c
    symm
    rw [show (none : Option S77).isSome = false from rfl, List.any_eq_false]
    intro y hy h
    simp [e] at h
  · rw [if_neg c, r.D]
    have c : x ≠ tx := by simpa using c
    congr 1
    funext y
    by_cases h : y = x
    · subst h; simp [c]
    · simp [h]
/-- A new lock that nobody holds. -/
theorem Rel.newlock (r : Rel t m n) {k : Int} {L : LkP} (hk : 0 ≤ k ∧ k < 8192) (hl : t.locks.lookup k = none) (h1 : L.hs = []) (h2 : L.ws = []) : Rel { t with locks := t.locks ++ [(k, L)] } m (n + 1) := by
  have hn : k ∉ t.locks.map (·.1) := lookup_none.1 hl
  have all : ∀ {p : Int × LkP → Prop}, (∀ e ∈ t.locks, p e) → p (k, L) → ∀ e ∈ t.locks ++ [(k, L)], p e := by
    intro p h3 h4 e he
    rcases List.mem_append.1 he with he | he
    · exact h3 e he
    · rw [List.mem_singleton.1 he]; exact h4
  refine ⟨by have := r.len; simp; omega, all r.keys hk, all (fun e he => Nat.le_trans (r.sz e he) (by omega)) (by simp [h1, h2]), all r.rH (by simp [h1]), all r.rW (by simp [h2]), ?_, all r.hd (by simp [h1]), all r.vd (by simp [h2]), r.wd, r.dd, fun y => ?_, fun y => ?_, r.ws, r.D, r.oH, r.oW⟩
  · show ((t.locks ++ [(k, L)]).map (·.1)).Nodup
    rw [List.map_append]
    refine List.nodup_append.2 ⟨r.kd, by simp, fun a ha b hb e => ?_⟩
    have hb : b = k := by simpa using hb
    exact hn (by rw [← hb, ← e]; exact ha)
  · rw [r.H]
    constructor
    · rintro ⟨L', h3, h4⟩; exact ⟨L', List.mem_append_left _ h3, h4⟩
    · rintro ⟨L', h3, h4⟩
      rcases List.mem_append.1 h3 with h3 | h3
      · exact ⟨L', h3, h4⟩
      · obtain ⟨_, h5⟩ := Prod.mk.inj (List.mem_singleton.1 h3)
        rw [h5, h1] at h4; cases h4
  · rw [r.W]
    constructor
    · rintro ⟨L', h3, h4⟩; exact ⟨L', List.mem_append_left _ h3, h4⟩
    · rintro ⟨L', h3, h4⟩
      rcases List.mem_append.1 h3 with h3 | h3
      · exact ⟨L', h3, h4⟩
      · obtain ⟨_, h5⟩ := Prod.mk.inj (List.mem_singleton.1 h3)
        rw [h5, h2] at h4; cases h4
/-- A new row that waits. -/
def waitT (t : TbP) (l1 l2 : List (Int × LkP)) (k : Int) (L : LkP) (x : S79) : TbP := { t with locks := l1 ++ (k, { L with ws := ups x.Tx x.Write L.ws }) :: l2, waits := ups x.Tx k t.waits }
theorem Rel.wait (r : Rel t m n) {l1 l2 : List (Int × LkP)} {k : Int} {L : LkP} (h : t.locks = l1 ++ (k, L) :: l2) {x : S79} (hx : x.Key = k) (hR : R64 x.Tx) (hno : ∀ y ∈ m.W, y.Tx ≠ x.Tx) : Rel (waitT t l1 l2 k L x) ⟨m.H, put m.W x, m.D⟩ (n + 1) := by
  have hmem : (k, L) ∈ t.locks := by rw [h]; simp
  have hdL := r.hd _ hmem
  have vdL := r.vd _ hmem
  have r1 := r.mono (Nat.le_succ n)
  have hnw : ∀ b, (x.Tx, b) ∉ L.ws := fun b hb => hno _ ((r.atW h).2 hb) rfl
  refine ⟨?_, turned_all r.kd h r1.keys (show 0 ≤ k ∧ k < 8192 from r.keys _ hmem), turned_all r.kd h r1.sz ?_, turned_all r.kd h r.rH (show ∀ p ∈ L.hs, R64 p.1 from r.rH _ hmem), turned_all r.kd h r.rW ?_, ?_, turned_all r.kd h r.hd hdL, turned_all r.kd h r.vd ?_, nodup_ups r.wd, r.dd, ?_, ?_, ?_, r.D, r.oH, ?_⟩
  · have := r.len; rw [h] at this
    show (l1 ++ _ :: l2).length ≤ n + 1
    simp only [List.length_append, List.length_cons] at this ⊢; omega
  · have h1 := r.sz _ hmem
    have h2 := ups_lenE (k := x.Tx) (v := x.Write) (es := L.ws)
    show L.hs.length + (ups _ _ _).length ≤ n + 1
    simp only at h1; omega
  · intro p hp
    rcases (mem_upsE vdL).1 hp with rfl | ⟨hp, _⟩
    · exact hR
    · exact r.rW _ hmem p hp
  · have := r.kd; rw [h] at this
    show ((l1 ++ _ :: l2).map (·.1)).Nodup
    simpa using this
  · exact nodup_ups vdL
  · intro y
    show y ∈ m.H ↔ ∃ L', (y.Key, L') ∈ l1 ++ _ :: l2 ∧ _
    rw [r.H]
    constructor
    · rintro ⟨L', h1, h2⟩
      by_cases c : y.Key = k
      · refine ⟨_, (turned_mem r.kd h).2 (.inl ⟨c, rfl⟩), ?_⟩
        rcases (locks_mem r.kd h).1 h1 with ⟨_, rfl⟩ | ⟨hne, _⟩
        · exact h2
        · exact absurd c hne
      · exact ⟨L', (turned_mem r.kd h).2 (.inr ⟨c, h1⟩), h2⟩
    · rintro ⟨L', h1, h2⟩
      rcases (turned_mem r.kd h).1 h1 with ⟨c, rfl⟩ | ⟨c, h1⟩
      · exact ⟨L, by rw [c]; exact hmem, h2⟩
      · exact ⟨L', h1, h2⟩
  · intro y
    show y ∈ put m.W x ↔ ∃ L', (y.Key, L') ∈ l1 ++ _ :: l2 ∧ _
    rw [mem_put]
    constructor
    · rintro (rfl | hy)
      · exact ⟨_, (turned_mem r.kd h).2 (.inl ⟨hx, rfl⟩), (mem_upsE vdL).2 (.inl rfl)⟩
      · by_cases c : y.Key = k
        · exact ⟨_, (turned_mem r.kd h).2 (.inl ⟨c, rfl⟩), (mem_upsE vdL).2 (.inr ⟨(r.atW h).1 (by rw [← row_form c]; exact hy), hno y hy⟩)⟩
        · obtain ⟨L', h1, h2⟩ := (r.W y).1 hy
          exact ⟨L', (turned_mem r.kd h).2 (.inr ⟨c, h1⟩), h2⟩
    · rintro ⟨L', h1, h2⟩
      rcases (turned_mem r.kd h).1 h1 with ⟨c, rfl⟩ | ⟨c, h1⟩
      · rcases (mem_upsE vdL).1 h2 with h2 | ⟨h2, _⟩
        · obtain ⟨h3, h4⟩ := Prod.mk.inj h2
          exact .inl (s79_eq h3 (c.trans hx.symm) h4)
        · right; rw [row_form c]; exact (r.atW h).2 h2
      · exact .inr ((r.W y).2 ⟨L', h1, h2⟩)
  · intro tx k'
    show (tx, k') ∈ ups x.Tx k t.waits ↔ ∃ y ∈ put m.W x, _
    rw [mem_upsE r.wd, r.ws]
    constructor
    · rintro (h1 | ⟨⟨y, hy, h1, h2⟩, _⟩)
      · obtain ⟨h3, h4⟩ := Prod.mk.inj h1
        exact ⟨x, mem_put.2 (.inl rfl), h3.symm, by rw [hx, h4]⟩
      · exact ⟨y, mem_put.2 (.inr hy), h1, h2⟩
    · rintro ⟨y, hy, h1, h2⟩
      rcases mem_put.1 hy with rfl | hy
      · left; rw [← h1, ← h2, hx]
      · exact .inr ⟨⟨y, hy, h1, h2⟩, by rw [← h1]; exact hno y hy⟩
  · exact ord_put r.oW fun y hy hc => hno y hy hc.2
theorem Rel.waits_any (r : Rel t m n) (tx : Int) : (t.waits.lookup tx).isSome = m.W.any fun y => y.Tx == tx := by
  rw [Bool.eq_iff_iff, List.any_eq_true]
  constructor
  · intro h
    cases hl : t.waits.lookup tx with
    | none => rw [hl] at h; cases h
    | some k =>
      obtain ⟨y, hy, h1, _⟩ := (r.ws tx k).1 (look_mem hl)
      exact ⟨y, hy, by simpa using h1⟩
  · rintro ⟨y, hy, h1⟩
    have h1 : y.Tx = tx := by simpa using h1
    have := mem_look r.wd ((r.ws tx y.Key).2 ⟨y, hy, h1, rfl⟩)
    rw [this]; rfl
theorem Rel.has_eq (r : Rel t m n) {l1 l2 : List (Int × LkP)} {k : Int} {L : LkP} (h : t.locks = l1 ++ (k, L) :: l2) {x : S79} (hx : x.Key = k) : ((L.hs.lookup x.Tx).isSome && ((L.hs.lookup x.Tx).getD false || !x.Write)) = has m x := by
  have hL := r.hd (k, L) (by rw [h]; simp)
  unfold has
  cases hl : L.hs.lookup x.Tx with
  | none =>
    symm
    rw [show ((none : Option Bool).isSome && ((none : Option Bool).getD false || !x.Write)) = false from rfl, List.any_eq_false]
    intro y hy hs
    simp only [Bool.and_eq_true, beq_iff_eq] at hs
    have hy2 : (⟨y.Tx, k, y.Write⟩ : S79) ∈ m.H := by rw [← row_form (hs.1.1.trans hx)]; exact hy
    have := mem_look hL ((r.atH h).1 hy2)
    rw [hs.1.2, hl] at this; cases this
  | some b =>
    rw [Option.isSome_some, Option.getD_some, Bool.true_and]
    have hy := (r.atH h).2 (look_mem hl)
    rw [Bool.eq_iff_iff, List.any_eq_true]
    constructor
    · intro hb
      exact ⟨_, hy, by simp [hx]; simpa using hb⟩
    · rintro ⟨y, hy2, hs⟩
      simp only [Bool.and_eq_true, beq_iff_eq] at hs
      have hy3 : (⟨y.Tx, k, y.Write⟩ : S79) ∈ m.H := by rw [← row_form (hs.1.1.trans hx)]; exact hy2
      have := mem_look hL ((r.atH h).1 hy3)
      rw [hs.1.2, hl] at this
      injection this with this
      rw [this]; exact hs.2
theorem Rel.wounded_eq (r : Rel t m n) {l1 l2 : List (Int × LkP)} {k : Int} {L : LkP} (h : t.locks = l1 ++ (k, L) :: l2) {x : S79} (hx : x.Key = k) :
    (sortI (L.hs.map (·.1))).filter (fun o => decide (o > x.Tx) && ag x.Tx x.Write o ((L.hs.lookup o).getD false)) = wounded m x := by
  have hL := r.hd (k, L) (by rw [h]; simp)
  have hag : ∀ (o : Int) (b : Bool) (k' : Int), ag x.Tx x.Write o b = !tog x ⟨o, k', b⟩ := by
    intro o b k'
    unfold ag tog
    by_cases c : o = x.Tx
    · subst c; simp
    · have c2 : (x.Tx == o) = false := by simpa using fun e => c e.symm
      have c3 : (o != x.Tx) = true := by simpa using c
      rw [c3, c2]
      cases x.Write <;> cases b <;> rfl
  refine int_eq ((sortI_lt hL).sublist List.filter_sublist) ?_ fun o => ?_
  · unfold wounded
    have : (m.H.filter fun y => ((y.Key == x.Key) && decide (y.Tx > x.Tx)) && !tog x y).Pairwise fun a b => a.Tx < b.Tx := by
      refine List.Pairwise.imp_of_mem ?_ (ord_filter (p := fun y => ((y.Key == x.Key) && decide (y.Tx > x.Tx)) && !tog x y) r.oH)
      intro a b ha hb h
      have h1 := (List.mem_filter.1 ha).2
      have h2 := (List.mem_filter.1 hb).2
      simp only [Bool.and_eq_true, beq_iff_eq] at h1 h2
      have := ltr_iff.1 h; omega
    exact List.Pairwise.map _ (fun _ _ h => h) this
  · unfold wounded
    rw [List.mem_filter, (sortI_p _).mem_iff, List.mem_map, List.mem_map]
    constructor
    · rintro ⟨⟨p, hp, rfl⟩, hc⟩
      rw [mem_look hL hp, Option.getD_some, Bool.and_eq_true] at hc
      refine ⟨⟨p.1, k, p.2⟩, List.mem_filter.2 ⟨(r.atH h).2 hp, ?_⟩, rfl⟩
      simp only [hx, beq_self_eq_true, Bool.true_and, Bool.and_eq_true]
      exact ⟨hc.1, by rw [← hag]; exact hc.2⟩
    · rintro ⟨y, hy, rfl⟩
      obtain ⟨h1, h2⟩ := List.mem_filter.1 hy
      simp only [Bool.and_eq_true, beq_iff_eq] at h2
      have hy3 : (⟨y.Tx, k, y.Write⟩ : S79) ∈ m.H := by rw [← row_form (h2.1.1.trans hx)]; exact h1
      have hm := (r.atH h).1 hy3
      refine ⟨⟨_, hm, rfl⟩, ?_⟩
      rw [mem_look hL hm, Option.getD_some, Bool.and_eq_true]
      refine ⟨h2.1.2, ?_⟩
      rw [hag _ _ y.Key]
      exact h2.2
end
end Go.Proofs.Ytojcgejjdfcaaaa.Locks
