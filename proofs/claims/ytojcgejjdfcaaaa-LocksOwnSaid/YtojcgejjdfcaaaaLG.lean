/- A table in memory and the document's: how they stay alike. -/
import Derived.Test.YtojcgejjdfcaaaaLF
import Derived.Test.YtojcgejjdfcaaaaLC
namespace Go.Proofs.Ytojcgejjdfcaaaa.Locks
open Go Go.Proofs.Ytojcgejjdfcaaaa.Cf
set_option linter.unusedVariables false
set_option linter.unusedSimpArgs false
set_option maxRecDepth 100000
section
theorem ltr_iff {a b : S79} : ltr a b = true ↔ a.Key < b.Key ∨ (a.Key = b.Key ∧ a.Tx < b.Tx) := by
  unfold ltr; simp
theorem ord_eq : ∀ {L M : List S79}, Ord L → Ord M → (∀ x, x ∈ L ↔ x ∈ M) → L = M
  | [], [], _, _, _ => rfl
  | [], y :: M, _, _, h => absurd ((h y).2 (List.mem_cons_self ..)) (by simp)
  | x :: L, [], _, _, h => absurd ((h x).1 (List.mem_cons_self ..)) (by simp)
  | x :: L, y :: M, hL, hM, h => by
    have hL' := List.pairwise_cons.1 hL
    have hM' := List.pairwise_cons.1 hM
    have e : x = y := by
      rcases List.mem_cons.1 ((h x).1 (List.mem_cons_self ..)) with e | e
      · exact e
      · rcases List.mem_cons.1 ((h y).2 (List.mem_cons_self ..)) with e2 | e2
        · exact e2.symm
        · have := ltr_iff.1 (hL'.1 y e2); have := ltr_iff.1 (hM'.1 x e); omega
    subst e
    have irr : ∀ z : S79, ¬ ltr z z = true := fun z h => by have := ltr_iff.1 h; omega
    have := ord_eq hL'.2 hM'.2 fun z => ⟨fun hz => by
      rcases List.mem_cons.1 ((h z).1 (List.mem_cons_of_mem _ hz)) with e | e
      · subst e; exact absurd (hL'.1 _ hz) (irr _)
      · exact e, fun hz => by
      rcases List.mem_cons.1 ((h z).2 (List.mem_cons_of_mem _ hz)) with e | e
      · subst e; exact absurd (hM'.1 _ hz) (irr _)
      · exact e⟩
    rw [this]
theorem mem_tw {p : S79 → Bool} : ∀ {L : List S79}, ∀ y ∈ L.takeWhile p, p y = true
  | [], y, h => by cases h
  | x :: L, y, h => by
    by_cases c : p x = true
    · rw [List.takeWhile_cons_of_pos c] at h
      rcases List.mem_cons.1 h with rfl | h
      · exact c
      · exact mem_tw y h
    · rw [List.takeWhile_cons_of_neg c] at h; cases h
theorem ord_put {L : List S79} {x : S79} (h : Ord L) (hn : ∀ y ∈ L, ¬ (y.Key = x.Key ∧ y.Tx = x.Tx)) : Ord (put L x) := by
  have e : L.takeWhile (fun y => ltr y x) ++ L.dropWhile (fun y => ltr y x) = L := List.takeWhile_append_dropWhile
  have hL : Ord (L.takeWhile (fun y => ltr y x) ++ L.dropWhile (fun y => ltr y x)) := by rw [e]; exact h
  obtain ⟨h1, h2, h3⟩ := List.pairwise_append.1 hL
  have ht : ∀ y ∈ L.takeWhile (fun y => ltr y x), ltr y x = true := mem_tw
  have hd : ∀ y ∈ L.dropWhile (fun y => ltr y x), ltr x y = true := by
    intro y hy
    have hyL : y ∈ L := by rw [← e]; exact List.mem_append_right _ hy
    cases hdw : L.dropWhile (fun y => ltr y x) with
    | nil => rw [hdw] at hy; cases hy
    | cons z r =>
      have hz : ltr z x = false := by
        have := List.head?_dropWhile_not (fun y => ltr y x) L
        rw [hdw] at this
        simpa using this
      have hzL : z ∈ L := by rw [← e]; exact List.mem_append_right _ (by rw [hdw]; exact List.mem_cons_self ..)
      have hzx : ltr x z = true := by
        have h5 := hn z hzL
        have h6 : ¬ (z.Key < x.Key ∨ (z.Key = x.Key ∧ z.Tx < x.Tx)) := fun h => by rw [ltr_iff.2 h] at hz; cases hz
        rw [ltr_iff]; omega
      rw [hdw] at hy h2
      rcases List.mem_cons.1 hy with rfl | hy
      · exact hzx
      · have h7 := ltr_iff.1 ((List.pairwise_cons.1 h2).1 y hy)
        have h8 := ltr_iff.1 hzx
        rw [ltr_iff]; omega
  unfold put
  refine List.pairwise_append.2 ⟨List.pairwise_append.2 ⟨h1, by simp, fun y hy z hz => by rw [List.mem_singleton.1 hz]; exact ht y hy⟩, h2, fun y hy z hz => ?_⟩
  rcases List.mem_append.1 hy with hy | hy
  · exact h3 y hy z hz
  · rw [List.mem_singleton.1 hy]; exact hd z hz
theorem ord_filter {L : List S79} {p : S79 → Bool} (h : Ord L) : Ord (L.filter p) := h.sublist List.filter_sublist
theorem mem_wo {L : List S79} {tx : Int} {y : S79} : y ∈ wo L tx ↔ y ∈ L ∧ y.Tx ≠ tx := by
  unfold wo; rw [List.mem_filter]; simp
/-- The two tables are alike. -/
structure Rel (t : TbP) (m : Md) (n : Nat) : Prop where
  len : t.locks.length ≤ n
  keys : ∀ e ∈ t.locks, 0 ≤ e.1 ∧ e.1 < 8192
  sz : ∀ e ∈ t.locks, e.2.hs.length + e.2.ws.length ≤ n
  rH : ∀ e ∈ t.locks, ∀ p ∈ e.2.hs, R64 p.1
  rW : ∀ e ∈ t.locks, ∀ p ∈ e.2.ws, R64 p.1
  kd : (t.locks.map (·.1)).Nodup
  hd : ∀ e ∈ t.locks, (e.2.hs.map (·.1)).Nodup
  vd : ∀ e ∈ t.locks, (e.2.ws.map (·.1)).Nodup
  wd : (t.waits.map (·.1)).Nodup
  dd : (t.dead.map (·.1)).Nodup
  H : ∀ y : S79, y ∈ m.H ↔ ∃ L, (y.Key, L) ∈ t.locks ∧ (y.Tx, y.Write) ∈ L.hs
  W : ∀ y : S79, y ∈ m.W ↔ ∃ L, (y.Key, L) ∈ t.locks ∧ (y.Tx, y.Write) ∈ L.ws
  ws : ∀ tx k, (tx, k) ∈ t.waits ↔ ∃ y ∈ m.W, y.Tx = tx ∧ y.Key = k
  D : ∀ tx, (t.dead.lookup tx).isSome = m.D.any (· == tx)
  oH : Ord m.H
  oW : Ord m.W
theorem Rel.fit {t : TbP} {m : Md} {n : Nat} (r : Rel t m n) : Fit t n :=
  ⟨r.len, r.keys, fun e he => ⟨by have := r.sz e he; omega, r.rH e he⟩, fun e he => ⟨by have := r.sz e he; omega, r.rW e he⟩⟩
theorem locks_mem {locks l1 l2 : List (Int × LkP)} {k : Int} {L : LkP} (hn : (locks.map (·.1)).Nodup) (h : locks = l1 ++ (k, L) :: l2) {k' : Int} {L' : LkP} : (k', L') ∈ locks ↔ (k' = k ∧ L' = L) ∨ (k' ≠ k ∧ (k', L') ∈ l1 ++ l2) := by
  subst h
  rw [List.map_append, List.map_cons] at hn
  obtain ⟨h1, h2, h3⟩ := List.nodup_append.1 hn
  have h2' := List.nodup_cons.1 h2
  constructor
  · intro h
    by_cases c : k' = k
    · left
      subst c
      refine ⟨rfl, ?_⟩
      rcases List.mem_append.1 h with h | h
      · exact absurd rfl (h3 k' (List.mem_map.2 ⟨_, h, rfl⟩) k' (List.mem_cons_self ..))
      · rcases List.mem_cons.1 h with h | h
        · exact (Prod.mk.inj h).2
        · exact absurd (List.mem_map.2 ⟨_, h, rfl⟩) h2'.1
    · right
      refine ⟨c, ?_⟩
      rcases List.mem_append.1 h with h | h
      · exact List.mem_append_left _ h
      · rcases List.mem_cons.1 h with h | h
        · exact absurd (Prod.mk.inj h).1 c
        · exact List.mem_append_right _ h
  · rintro (⟨rfl, rfl⟩ | ⟨_, h⟩)
    · simp
    · rcases List.mem_append.1 h with h | h
      · exact List.mem_append_left _ h
      · exact List.mem_append_right _ (List.mem_cons_of_mem _ h)
/-- One lock turned. -/
theorem turned_mem {locks l1 l2 : List (Int × LkP)} {k : Int} {L N : LkP} (hn : (locks.map (·.1)).Nodup) (h : locks = l1 ++ (k, L) :: l2) {k' : Int} {L' : LkP} : (k', L') ∈ l1 ++ (k, N) :: l2 ↔ (k' = k ∧ L' = N) ∨ (k' ≠ k ∧ (k', L') ∈ locks) := by
  have hn2 : ((l1 ++ (k, N) :: l2).map (·.1)).Nodup := by rw [h] at hn; simpa using hn
  rw [locks_mem hn2 rfl, locks_mem hn h]
  constructor
  · rintro (h | h)
    · exact .inl h
    · exact .inr ⟨h.1, .inr h⟩
  · rintro (h | ⟨h1, h2 | h2⟩)
    · exact .inl h
    · exact absurd h2.1 h1
    · exact .inr h2
theorem turned_all {locks l1 l2 : List (Int × LkP)} {k : Int} {L N : LkP} (hn : (locks.map (·.1)).Nodup) (h : locks = l1 ++ (k, L) :: l2) {p : Int × LkP → Prop} (h1 : ∀ e ∈ locks, p e) (h2 : p (k, N)) : ∀ e ∈ l1 ++ (k, N) :: l2, p e := by
  rintro ⟨k', L'⟩ he
  rcases (turned_mem hn h).1 he with ⟨rfl, rfl⟩ | ⟨_, he⟩
  · exact h2
  · exact h1 _ he
theorem del_one {β : Type} {k : Int} : ∀ {es : List (Int × β)}, k ∈ es.map (·.1) → (del k es).length + 1 = es.length
  | [], h => by cases h
  | (a, b) :: es, h => by
    simp only [del]
    by_cases c : (k == a) = true
    · rw [if_pos c]; rfl
    · rw [if_neg c]
      have c : k ≠ a := by simpa using c
      have h : k ∈ es.map (·.1) := (List.mem_cons.1 h).resolve_left c
      have := del_one h
      simp only [List.length_cons]; omega
variable {t : TbP} {m : Md} {n : Nat}
theorem Rel.atH (r : Rel t m n) {l1 l2 : List (Int × LkP)} {k : Int} {L : LkP} (h : t.locks = l1 ++ (k, L) :: l2) {tx : Int} {b : Bool} : (⟨tx, k, b⟩ : S79) ∈ m.H ↔ (tx, b) ∈ L.hs := by
  rw [r.H]
  constructor
  · rintro ⟨L', h1, h2⟩
    rcases (locks_mem r.kd h).1 h1 with ⟨_, rfl⟩ | ⟨hne, _⟩
    · exact h2
    · exact absurd rfl hne
  · intro h2
    exact ⟨L, (locks_mem r.kd h).2 (.inl ⟨rfl, rfl⟩), h2⟩
theorem Rel.atW (r : Rel t m n) {l1 l2 : List (Int × LkP)} {k : Int} {L : LkP} (h : t.locks = l1 ++ (k, L) :: l2) {tx : Int} {b : Bool} : (⟨tx, k, b⟩ : S79) ∈ m.W ↔ (tx, b) ∈ L.ws := by
  rw [r.W]
  constructor
  · rintro ⟨L', h1, h2⟩
    rcases (locks_mem r.kd h).1 h1 with ⟨_, rfl⟩ | ⟨hne, _⟩
    · exact h2
    · exact absurd rfl hne
  · intro h2
    exact ⟨L, (locks_mem r.kd h).2 (.inl ⟨rfl, rfl⟩), h2⟩
/-- A row of a key is one of the lock's. -/
theorem row_form {y : S79} {k : Int} (h : y.Key = k) : y = ⟨y.Tx, k, y.Write⟩ := by subst h; rfl
theorem Rel.mrgW (r : Rel t m n) {l1 l2 : List (Int × LkP)} {k : Int} {L : LkP} (h : t.locks = l1 ++ (k, L) :: l2) {x : S79} (hx : x.Key = k) : (m.H.any fun y => same x y && y.Write) = (L.hs.lookup x.Tx).getD false := by
  have hL := r.hd (k, L) (by rw [h]; simp)
  cases hl : L.hs.lookup x.Tx with
  | none =>
    rw [Option.getD_none, List.any_eq_false]
    intro y hy hs
    simp only [same, Bool.and_eq_true, beq_iff_eq] at hs
    have hy2 : (⟨y.Tx, k, y.Write⟩ : S79) ∈ m.H := by rw [← row_form (hs.1.2.trans hx)]; exact hy
    have := mem_look hL ((r.atH h).1 hy2)
    rw [hs.1.1, hl] at this; cases this
  | some b =>
    rw [Option.getD_some]
    have hm := look_mem hl
    have hy := (r.atH h).2 hm
    cases b with
    | true => exact List.any_eq_true.2 ⟨_, hy, by simp [same, hx]⟩
    | false =>
      rw [List.any_eq_false]
      intro y hy hs
      simp only [same, Bool.and_eq_true, beq_iff_eq] at hs
      have hy2 : (⟨y.Tx, k, y.Write⟩ : S79) ∈ m.H := by rw [← row_form (hs.1.2.trans hx)]; exact hy
      have := mem_look hL ((r.atH h).1 hy2)
      rw [hs.1.1, hl] at this
      injection this with this
      rw [hs.2] at this; cases this
/-- The table behind a grant. -/
def grantT (t : TbP) (l1 l2 : List (Int × LkP)) (k : Int) (L : LkP) (x : S79) : TbP :=
  { t with locks := l1 ++ (k, { L with hs := ups x.Tx ((L.hs.lookup x.Tx).getD false || x.Write) L.hs, ws := del x.Tx L.ws }) :: l2, waits := del x.Tx t.waits }
theorem Rel.grant (r : Rel t m n) {l1 l2 : List (Int × LkP)} {k : Int} {L : LkP} (h : t.locks = l1 ++ (k, L) :: l2) {x : S79} (hx : x.Key = k) (hxm : x ∈ m.W) (hN : (m.W.map (·.Tx)).Nodup) : Rel (grantT t l1 l2 k L x) (grant m x) n := by
  have hmem : (k, L) ∈ t.locks := by rw [h]; simp
  have hxw : (x.Tx, x.Write) ∈ L.ws := (r.atW h).1 (by rw [← row_form hx]; exact hxm)
  have hR := r.rW _ hmem _ hxw
  have hdL := r.hd _ hmem
  have vdL := r.vd _ hmem
  have huniq : ∀ y ∈ m.W, y.Tx = x.Tx → y = x := fun y hy e => nodup_inj hN y hy x hxm e
  refine ⟨?_, turned_all r.kd h r.keys (show 0 ≤ k ∧ k < 8192 from r.keys _ hmem), turned_all r.kd h r.sz ?_, turned_all r.kd h r.rH ?_, turned_all r.kd h r.rW ?_, ?_, turned_all r.kd h r.hd ?_, turned_all r.kd h r.vd ?_, nodup_del r.wd, r.dd, ?_, ?_, ?_, r.D, ?_, ord_filter r.oW⟩
  · have := r.len; rw [h] at this
    show (l1 ++ _ :: l2).length ≤ n
    simp only [List.length_append, List.length_cons] at this ⊢; exact this
  · have h1 := r.sz _ hmem
    have h2 := ups_lenE (k := x.Tx) (v := (L.hs.lookup x.Tx).getD false || x.Write) (es := L.hs)
    have h3 := del_one (k := x.Tx) (es := L.ws) (List.mem_map.2 ⟨_, hxw, rfl⟩)
    show (ups _ _ _).length + (del _ _).length ≤ n
    simp only at h1; omega
  · intro p hp
    rcases (mem_upsE hdL).1 hp with rfl | ⟨hp, _⟩
    · exact hR
    · exact r.rH _ hmem p hp
  · intro p hp; exact r.rW _ hmem p ((mem_del vdL).1 hp).1
  · have := r.kd; rw [h] at this
    show ((l1 ++ _ :: l2).map (·.1)).Nodup
    simpa using this
  · exact nodup_ups hdL
  · exact nodup_del vdL
  · intro y
    show y ∈ put (m.H.filter fun y => !same x y) (mrg m.H x) ↔ ∃ L', (y.Key, L') ∈ l1 ++ _ :: l2 ∧ _
    rw [mem_put, List.mem_filter]
    have ew : (mrg m.H x).Write = ((L.hs.lookup x.Tx).getD false || x.Write) := by
      show (x.Write || _) = _
      rw [r.mrgW h hx, Bool.or_comm]
    constructor
    · rintro (rfl | ⟨hy, hs⟩)
      · refine ⟨_, (turned_mem r.kd h).2 (.inl ⟨hx, rfl⟩), ?_⟩
        exact (mem_upsE hdL).2 (.inl (by rw [ew]; rfl))
      · by_cases c : y.Key = k
        · refine ⟨_, (turned_mem r.kd h).2 (.inl ⟨c, rfl⟩), ?_⟩
          have hne : y.Tx ≠ x.Tx := by
            intro e
            simp [same, e, c, hx] at hs
          exact (mem_upsE hdL).2 (.inr ⟨(r.atH h).1 (by rw [← row_form c]; exact hy), hne⟩)
        · obtain ⟨L', h1, h2⟩ := (r.H y).1 hy
          exact ⟨L', (turned_mem r.kd h).2 (.inr ⟨c, h1⟩), h2⟩
    · rintro ⟨L', h1, h2⟩
      rcases (turned_mem r.kd h).1 h1 with ⟨c, rfl⟩ | ⟨c, h1⟩
      · rcases (mem_upsE hdL).1 h2 with h2 | ⟨h2, hne⟩
        · left
          obtain ⟨h3, h4⟩ := Prod.mk.inj h2
          exact s79_eq h3 (c.trans hx.symm) (h4.trans ew.symm)
        · right
          have hy : y ∈ m.H := by rw [row_form c]; exact (r.atH h).2 h2
          refine ⟨hy, ?_⟩
          have hne : y.Tx ≠ x.Tx := hne
          simp [same, hne]
      · right
        refine ⟨(r.H y).2 ⟨L', h1, h2⟩, ?_⟩
        have : y.Key ≠ x.Key := by rw [hx]; exact c
        simp [same, this]
  · intro y
    show y ∈ wo m.W x.Tx ↔ ∃ L', (y.Key, L') ∈ l1 ++ _ :: l2 ∧ _
    rw [mem_wo]
    constructor
    · rintro ⟨hy, hne⟩
      by_cases c : y.Key = k
      · exact ⟨_, (turned_mem r.kd h).2 (.inl ⟨c, rfl⟩), (mem_del vdL).2 ⟨(r.atW h).1 (by rw [← row_form c]; exact hy), hne⟩⟩
      · obtain ⟨L', h1, h2⟩ := (r.W y).1 hy
        exact ⟨L', (turned_mem r.kd h).2 (.inr ⟨c, h1⟩), h2⟩
    · rintro ⟨L', h1, h2⟩
      rcases (turned_mem r.kd h).1 h1 with ⟨c, rfl⟩ | ⟨c, h1⟩
      · obtain ⟨h3, h4⟩ := (mem_del vdL).1 h2
        exact ⟨by rw [row_form c]; exact (r.atW h).2 h3, h4⟩
      · have hy := (r.W y).2 ⟨L', h1, h2⟩
        refine ⟨hy, fun e => c ?_⟩
        rw [huniq y hy e, hx]
  · intro tx k'
    show (tx, k') ∈ del x.Tx t.waits ↔ ∃ y ∈ wo m.W x.Tx, _
    rw [mem_del r.wd, r.ws]
    constructor
    · rintro ⟨⟨y, hy, h1, h2⟩, h3⟩
      exact ⟨y, mem_wo.2 ⟨hy, by rw [h1]; exact h3⟩, h1, h2⟩
    · rintro ⟨y, hy, h1, h2⟩
      obtain ⟨hy, h3⟩ := mem_wo.1 hy
      exact ⟨⟨y, hy, h1, h2⟩, by rw [← h1]; exact h3⟩
  · refine ord_put (ord_filter r.oH) fun y hy hc => ?_
    obtain ⟨hy, hs⟩ := List.mem_filter.1 hy
    have h1 : y.Key = x.Key := hc.1
    have h2 : y.Tx = x.Tx := hc.2
    simp [same, h1, h2] at hs
/-- Conflicts with those that hold, and with elder ones that wait. -/
theorem Rel.confH (r : Rel t m n) {l1 l2 : List (Int × LkP)} {k : Int} {L : LkP} (h : t.locks = l1 ++ (k, L) :: l2) {x : S79} (hx : x.Key = k) :
    (L.hs.any fun p => ag x.Tx x.Write p.1 p.2) = !(m.H.all fun y => !(y.Key == x.Key) || tog y x) := by
  rw [Bool.eq_iff_iff, List.any_eq_true, Bool.not_eq_true', List.all_eq_false]
  constructor
  · rintro ⟨p, hp, hc⟩
    refine ⟨⟨p.1, k, p.2⟩, (r.atH h).2 hp, ?_⟩
    unfold ag at hc
    unfold tog
    simp only [Bool.and_eq_true, bne_iff_ne, Bool.or_eq_true] at hc
    have h1 : ((p.1 == x.Tx) = false) := by simpa using hc.1
    simp only [hx, h1, beq_self_eq_true, Bool.not_true, Bool.false_or]
    rcases hc.2 with h2 | h2 <;> simp [h2]
  · rintro ⟨y, hy, hc⟩
    unfold tog at hc
    have hk : y.Key = x.Key := by
      by_cases c : y.Key = x.Key
      · exact c
      · exact absurd (by simp [c]) hc
    refine ⟨(y.Tx, y.Write), (r.atH h).1 (by rw [← row_form (hk.trans hx)]; exact hy), ?_⟩
    unfold ag
    have hne : y.Tx ≠ x.Tx := fun e => hc (by simp [e])
    have h2 : x.Write = true ∨ y.Write = true := by
      cases h3 : x.Write with
      | true => exact .inl rfl
      | false =>
        cases h4 : y.Write with
        | true => exact .inr rfl
        | false => exact absurd (by simp [h3, h4]) hc
    simp only [Bool.and_eq_true, bne_iff_ne, Bool.or_eq_true]
    exact ⟨hne, h2⟩
theorem Rel.confW (r : Rel t m n) {l1 l2 : List (Int × LkP)} {k : Int} {L : LkP} (h : t.locks = l1 ++ (k, L) :: l2) {x : S79} (hx : x.Key = k) :
    (L.ws.any fun p => decide (p.1 < x.Tx) && ag x.Tx x.Write p.1 p.2) = !(m.W.all fun y => !((y.Key == x.Key) && decide (y.Tx < x.Tx)) || tog y x) := by
  rw [Bool.eq_iff_iff, List.any_eq_true, Bool.not_eq_true', List.all_eq_false]
  constructor
  · rintro ⟨p, hp, hc⟩
    refine ⟨⟨p.1, k, p.2⟩, (r.atW h).2 hp, ?_⟩
    unfold ag at hc
    unfold tog
    simp only [Bool.and_eq_true, bne_iff_ne, Bool.or_eq_true, decide_eq_true_eq] at hc
    have h1 : ((p.1 == x.Tx) = false) := by simpa using hc.2.1
    simp only [hx, h1, hc.1, beq_self_eq_true, decide_true, Bool.and_true, Bool.not_true, Bool.false_or]
    rcases hc.2.2 with h2 | h2 <;> simp [h2]
  · rintro ⟨y, hy, hc⟩
    unfold tog at hc
    have hk : y.Key = x.Key ∧ y.Tx < x.Tx := by
      by_cases c : y.Key = x.Key ∧ y.Tx < x.Tx
      · exact c
      · refine absurd ?_ hc
        have : ((y.Key == x.Key) && decide (y.Tx < x.Tx)) = false := by
          rw [Bool.and_eq_false_iff]
          by_cases c1 : y.Key = x.Key
          · right; simpa using fun h => c ⟨c1, h⟩
          · left; simpa using c1
        rw [this]; rfl
    refine ⟨(y.Tx, y.Write), (r.atW h).1 (by rw [← row_form (hk.1.trans hx)]; exact hy), ?_⟩
    unfold ag
    have hne : y.Tx ≠ x.Tx := by omega
    have h2 : x.Write = true ∨ y.Write = true := by
      cases h3 : x.Write with
      | true => exact .inl rfl
      | false =>
        cases h4 : y.Write with
        | true => exact .inr rfl
        | false => exact absurd (by simp [h3, h4]) hc
    simp only [Bool.and_eq_true, bne_iff_ne, Bool.or_eq_true, decide_eq_true_eq]
    exact ⟨hk.2, hne, h2⟩
/-- A lock that nobody holds or waits for goes. -/
theorem Rel.drop (r : Rel t m n) {l1 l2 : List (Int × LkP)} {k : Int} {L : LkP} (h : t.locks = l1 ++ (k, L) :: l2) (h1 : L.hs = []) (h2 : L.ws = []) : Rel { t with locks := l1 ++ l2 } m n := by
  have sub : ∀ e ∈ l1 ++ l2, e ∈ t.locks := by
    rintro ⟨k', L'⟩ he
    rw [h]
    rcases List.mem_append.1 he with he | he
    · exact List.mem_append_left _ he
    · exact List.mem_append_right _ (List.mem_cons_of_mem _ he)
  have hsl : (l1 ++ l2).Sublist t.locks := by rw [h]; exact (List.Sublist.refl l1).append (List.sublist_cons_self _ _)
  refine ⟨Nat.le_trans hsl.length_le r.len, fun e he => r.keys e (sub e he), fun e he => r.sz e (sub e he), fun e he => r.rH e (sub e he), fun e he => r.rW e (sub e he), r.kd.sublist (hsl.map _), fun e he => r.hd e (sub e he), fun e he => r.vd e (sub e he), r.wd, r.dd, fun y => ?_, fun y => ?_, r.ws, r.D, r.oH, r.oW⟩
  · rw [r.H]
    constructor
    · rintro ⟨L', h3, h4⟩
      rcases (locks_mem r.kd h).1 h3 with ⟨_, rfl⟩ | ⟨_, h3⟩
      · rw [h1] at h4; cases h4
      · exact ⟨L', h3, h4⟩
    · rintro ⟨L', h3, h4⟩; exact ⟨L', sub _ h3, h4⟩
  · rw [r.W]
    constructor
    · rintro ⟨L', h3, h4⟩
      rcases (locks_mem r.kd h).1 h3 with ⟨_, rfl⟩ | ⟨_, h3⟩
      · rw [h2] at h4; cases h4
      · exact ⟨L', h3, h4⟩
    · rintro ⟨L', h3, h4⟩; exact ⟨L', sub _ h3, h4⟩
/-- One lets go of all. -/
theorem Rel.free (r : Rel t m n) (tx : Int) : Rel (freeT tx t) ⟨wo m.H tx, wo m.W tx, m.D⟩ n := by
  have mem : ∀ {k : Int} {L : LkP}, (k, L) ∈ t.locks.map (fun e => (e.1, frL tx e.2)) ↔ ∃ L0, (k, L0) ∈ t.locks ∧ L = frL tx L0 := by
    intro k L
    rw [List.mem_map]
    constructor
    · rintro ⟨e, he, h⟩
      obtain ⟨h1, h2⟩ := Prod.mk.inj h
      subst h1
      exact ⟨e.2, he, h2.symm⟩
    · rintro ⟨L0, h1, h2⟩
      exact ⟨_, h1, by rw [h2]⟩
  have all : ∀ {p : Int × LkP → Prop}, (∀ e ∈ t.locks, p (e.1, frL tx e.2)) → ∀ e ∈ (freeT tx t).locks, p e := by
    intro p hp e he
    obtain ⟨e0, he0, rfl⟩ := List.mem_map.1 he
    exact hp e0 he0
  refine ⟨by simpa [freeT] using r.len, all r.keys, all fun e he => ?_, all fun e he p hp => r.rH e he p ((mem_del (r.hd e he)).1 hp).1, all fun e he p hp => r.rW e he p ((mem_del (r.vd e he)).1 hp).1, ?_, all fun e he => nodup_del (r.hd e he), all fun e he => nodup_del (r.vd e he), nodup_del r.wd, r.dd, fun y => ?_, fun y => ?_, fun a b => ?_, r.D, ord_filter r.oH, ord_filter r.oW⟩
  · have h1 := r.sz e he
    have h2 := del_lenE (k := tx) (es := e.2.hs)
    have h3 := del_lenE (k := tx) (es := e.2.ws)
    show (del tx e.2.hs).length + (del tx e.2.ws).length ≤ n
    omega
  · show ((t.locks.map (fun e => (e.1, frL tx e.2))).map (·.1)).Nodup
    rw [List.map_map]; exact r.kd
  · show y ∈ wo m.H tx ↔ ∃ L, (y.Key, L) ∈ t.locks.map (fun e => (e.1, frL tx e.2)) ∧ _
    rw [mem_wo, r.H]
    constructor
    · rintro ⟨⟨L, h1, h2⟩, h3⟩
      exact ⟨_, mem.2 ⟨L, h1, rfl⟩, (mem_del (r.hd _ h1)).2 ⟨h2, h3⟩⟩
    · rintro ⟨L, h1, h2⟩
      obtain ⟨L0, h3, rfl⟩ := mem.1 h1
      obtain ⟨h4, h5⟩ := (mem_del (r.hd _ h3)).1 h2
      exact ⟨⟨L0, h3, h4⟩, h5⟩
  · show y ∈ wo m.W tx ↔ ∃ L, (y.Key, L) ∈ t.locks.map (fun e => (e.1, frL tx e.2)) ∧ _
    rw [mem_wo, r.W]
    constructor
    · rintro ⟨⟨L, h1, h2⟩, h3⟩
      exact ⟨_, mem.2 ⟨L, h1, rfl⟩, (mem_del (r.vd _ h1)).2 ⟨h2, h3⟩⟩
    · rintro ⟨L, h1, h2⟩
      obtain ⟨L0, h3, rfl⟩ := mem.1 h1
      obtain ⟨h4, h5⟩ := (mem_del (r.vd _ h3)).1 h2
      exact ⟨⟨L0, h3, h4⟩, h5⟩
  · show (a, b) ∈ del tx t.waits ↔ ∃ y ∈ wo m.W tx, _
    rw [mem_del r.wd, r.ws]
    constructor
    · rintro ⟨⟨y, hy, h1, h2⟩, h3⟩
      exact ⟨y, mem_wo.2 ⟨hy, by rw [h1]; exact h3⟩, h1, h2⟩
    · rintro ⟨y, hy, h1, h2⟩
      obtain ⟨hy, h3⟩ := mem_wo.1 hy
      exact ⟨⟨y, hy, h1, h2⟩, by rw [← h1]; exact h3⟩
end
end Go.Proofs.Ytojcgejjdfcaaaa.Locks
