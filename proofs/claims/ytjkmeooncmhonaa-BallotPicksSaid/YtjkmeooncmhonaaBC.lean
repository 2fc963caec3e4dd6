/- Acceptors: what their records make of them grows; contracts over the records. -/
import Derived.Test.YtjkmeooncmhonaaBB
namespace Go.Proofs.Ytjkmeooncmhonaa.Ballot
open Go Go.Proofs.Ytjkmeooncmhonaa.Cf Go.Proofs.Ytjkmeooncmhonaa.Wire Go.Proofs.Ytjkmeooncmhonaa.Disk
set_option linter.unusedVariables false
set_option linter.unusedSimpArgs false
set_option maxRecDepth 100000
/-! ### plain: growing -/
theorem mem_ups {α : Type} {k : Int} {v : α} {e : Int × α} : ∀ {es : List (Int × α)}, e ∈ ups k v es → e = (k, v) ∨ e ∈ es
  | [], h => .inl (by simpa [ups] using h)
  | (a, b) :: es, h => by
    unfold ups at h
    split at h
    · rename_i c
      rcases List.mem_cons.1 h with h | h
      · have : a = k := Eq.symm (by simpa using c)
        subst this
        exact .inl h
      · exact .inr (List.mem_cons_of_mem _ h)
    · rcases List.mem_cons.1 h with h | h
      · exact .inr (by simp [h])
      · rcases mem_ups h with h | h
        · exact .inl h
        · exact .inr (List.mem_cons_of_mem _ h)
theorem ups_le {α : Type} {k : Int} {v : α} : ∀ {es : List (Int × α)}, es.length ≤ (ups k v es).length ∧ (ups k v es).length ≤ es.length + 1
  | [] => by simp [ups]
  | (a, b) :: es => by
    have h := ups_le (k := k) (v := v) (es := es)
    unfold ups
    split
    · simp
    · simp only [List.length_cons]; omega
theorem lookup_mem {α : Type} {k : Int} {v : α} : ∀ {es : List (Int × α)}, es.lookup k = some v → (k, v) ∈ es
  | [], h => by simp at h
  | (a, b) :: es, h => by
    by_cases c : k = a
    · subst c
      rw [List.lookup_cons_self] at h
      cases h; simp
    · rw [List.lookup_cons, show (k == a) = false from by simpa using c] at h
      exact List.mem_cons_of_mem _ (lookup_mem h)
theorem mem_lookup {α : Type} {k : Int} {v : α} : ∀ {es : List (Int × α)}, (es.map (·.1)).Nodup → (k, v) ∈ es → es.lookup k = some v
  | [], _, h => by simp at h
  | (a, b) :: es, hd, h => by
    rw [List.map_cons, List.nodup_cons] at hd
    rcases List.mem_cons.1 h with h | h
    · cases h; rw [List.lookup_cons_self]
    · have : k ≠ a := fun e => hd.1 (List.mem_map.2 ⟨_, h, e⟩)
      rw [List.lookup_cons, show (k == a) = false from by simpa using this]
      exact mem_lookup hd.2 h
structure Good (s : Int × Es) : Prop where
  dup : (s.2.map (·.1)).Nodup
  ok : ∀ e ∈ s.2, e.2.Slot = e.1 ∧ 1 ≤ e.1 ∧ e.1 ≤ 1000 ∧ 1 ≤ e.2.B ∧ e.2.B ≤ s.1 ∧ e.2.V.length ≤ 1000
  p0 : 0 ≤ s.1
  p1 : s.1 ≤ 1099511627776
def lawR (s : Int × Es) : Rec → Prop
  | .prom b => numB b = true ∧ s.1 < b
  | .acc b n v => okR (.acc b n v) ∧ s.1 ≤ b ∧ ∀ o, s.2.lookup n = some o → o.B ≠ b
def Legal : Int × Es → List Rec → Prop
  | _, [] => True
  | s, r :: rs => lawR s r ∧ Legal (stepR s r) rs
theorem legal_app : ∀ {a b : List Rec} {s : Int × Es}, Legal s (a ++ b) ↔ Legal s a ∧ Legal (a.foldl stepR s) b
  | [], b, s => by simp [Legal]
  | r :: a, b, s => by simp [Legal, legal_app (a := a), and_assoc]
theorem law_ok {s : Int × Es} {r : Rec} (h : lawR s r) : okR r := by
  cases r with
  | prom b => exact h.1
  | acc b n v => exact h.1
theorem legal_ok : ∀ {rs : List Rec} {s : Int × Es}, Legal s rs → ∀ r ∈ rs, okR r
  | [], _, _, r, h => by simp at h
  | x :: rs, s, hl, r, h => by
    rcases List.mem_cons.1 h with rfl | h
    · exact law_ok hl.1
    · exact legal_ok hl.2 r h
theorem good_nil : Good (0, []) := ⟨by simp, by simp, by simp, by simp⟩
theorem Good.step {s : Int × Es} {r : Rec} (g : Good s) (h : okR r) : Good (stepR s r) := by
  cases r with
  | prom b =>
    have hb := numB_iff.1 h
    refine ⟨g.dup, fun e he => ?_, ?_, ?_⟩
    · have := g.ok e he
      simp only [stepR]; omega
    · have := g.p0
      simp only [stepR]; omega
    · have := g.p1
      simp only [stepR]; omega
  | acc b n v =>
    have hb := numB_iff.1 h.1
    have hn := slotB_iff.1 h.2.1
    refine ⟨nodup_ups g.dup, fun e he => ?_, ?_, ?_⟩
    · rcases mem_ups he with rfl | he
      · have := h.2.2
        exact ⟨rfl, hn.1, hn.2, hb.1, by simp only [stepR]; omega, this⟩
      · have := g.ok e he
        simp only [stepR]; omega
    · have := g.p0
      simp only [stepR]; omega
    · have := g.p1
      simp only [stepR]; omega
theorem Good.steps : ∀ {rs : List Rec} {s : Int × Es}, Good s → (∀ r ∈ rs, okR r) → Good (rs.foldl stepR s)
  | [], _, g, _ => g
  | r :: rs, s, g, h => Good.steps (rs := rs) (s := stepR s r) (g.step (h r (by simp))) fun x hx => h x (by simp [hx])
theorem fold_len : ∀ {rs : List Rec} {s : Int × Es}, (rs.foldl stepR s).2.length ≤ s.2.length + rs.length
  | [], _ => by simp
  | r :: rs, s => by
    have := fold_len (rs := rs) (s := stepR s r)
    have h : (stepR s r).2.length ≤ s.2.length + 1 := by
      cases r with
      | prom b => simp [stepR]
      | acc b n v => exact ups_le.2
    simp only [List.foldl_cons, List.length_cons]; omega
theorem good_fold {rs : List Rec} (h : Legal (0, []) rs) : Good (fold rs) := good_nil.steps (legal_ok h)
theorem keyed_fold {rs : List Rec} (h : Legal (0, []) rs) (hl : rs.length ≤ 1000) : Keyed (fold rs).2 := by
  have := fold_len (rs := rs) (s := (0, []))
  refine ⟨?_, fun e he => ?_⟩
  · unfold fold; simp only [List.length_nil] at this; omega
  · have := (good_fold h).ok e he
    omega
/-- What was, and what is: no promise falls, no vote is lost but for one of a greater number. -/
structure Lee (s t : Int × Es) : Prop where
  p : s.1 ≤ t.1
  n : s.2.length ≤ t.2.length
  v : ∀ k x, s.2.lookup k = some x → ∃ y, t.2.lookup k = some y ∧ (x.B < y.B ∨ x = y)
theorem Lee.refl {s : Int × Es} : Lee s s := ⟨Int.le_refl _, Nat.le_refl _, fun k x h => ⟨x, h, .inr rfl⟩⟩
theorem Lee.trans {s t u : Int × Es} (h : Lee s t) (k : Lee t u) : Lee s u := ⟨Int.le_trans h.p k.p, Nat.le_trans h.n k.n, fun i x hx => by
  obtain ⟨y, hy, h1⟩ := h.v i x hx
  obtain ⟨z, hz, h2⟩ := k.v i y hy
  refine ⟨z, hz, ?_⟩
  rcases h1 with h1 | rfl
  · rcases h2 with h2 | rfl
    · exact .inl (by omega)
    · exact .inl h1
  · exact h2⟩
theorem Lee.step {s : Int × Es} {r : Rec} (g : Good s) (h : lawR s r) : Lee s (stepR s r) := by
  cases r with
  | prom b => exact ⟨by simp only [stepR]; omega, Nat.le_refl _, fun k x h => ⟨x, h, .inr rfl⟩⟩
  | acc b n v =>
    refine ⟨by simp only [stepR]; omega, ups_le.1, fun k x hx => ?_⟩
    simp only [stepR]
    rw [lookup_ups]
    by_cases c : k = n
    · subst c
      rw [if_pos (by simp)]
      refine ⟨_, rfl, .inl ?_⟩
      have h1 := h.2.2 x hx
      have h2 := (g.ok _ (lookup_mem hx)).2.2.2.2.1
      have h3 := h.2.1
      simp only at h2 ⊢
      omega
    · rw [if_neg (by simpa using c)]
      exact ⟨x, hx, .inr rfl⟩
theorem Lee.steps : ∀ {rs : List Rec} {s : Int × Es}, Good s → Legal s rs → Lee s (rs.foldl stepR s)
  | [], _, _, _ => Lee.refl
  | r :: rs, s, g, h => (Lee.step g h.1).trans (Lee.steps (g.step (law_ok h.1)) h.2)
theorem lee_fold {a b : List Rec} (h : Legal (0, []) (a ++ b)) : Lee (fold a) (fold (a ++ b)) := by
  have h2 := legal_app.1 h
  have := Lee.steps (good_fold h2.1) h2.2
  unfold fold at *
  rw [List.foldl_append]
  exact this
/-! ### votes by slots -/
theorem listV_mem {s : Int × Es} (g : Good s) {x : Vote} : x ∈ listV s.2 ↔ s.2.lookup x.Slot = some x := by
  unfold listV
  simp only [List.mem_map]
  constructor
  · rintro ⟨k, hk, rfl⟩
    obtain ⟨e, he, rfl⟩ := List.mem_map.1 ((sortI_p _).mem_iff.1 hk)
    have h := mem_lookup g.dup he
    rw [h]
    simp only [Option.getD_some]
    rw [(g.ok e he).1]
    exact h
  · intro h
    refine ⟨x.Slot, (sortI_p _).mem_iff.2 (List.mem_map.2 ⟨_, lookup_mem h, rfl⟩), by rw [h]; rfl⟩
theorem listV_len (es : Es) : (listV es).length = es.length := by
  unfold listV
  rw [List.length_map, (sortI_p _).length_eq, List.length_map]
theorem listV_sorted {s : Int × Es} (g : Good s) : (listV s.2).Pairwise fun x y => x.Slot < y.Slot := by
  unfold listV
  rw [List.pairwise_map]
  refine (sortI_lt g.dup).imp_of_mem fun {a b} ha hb h => ?_
  have f : ∀ k, k ∈ sortI (s.2.map (·.1)) → ((s.2.lookup k).getD Z46).Slot = k := by
    intro k hk
    obtain ⟨e, he, rfl⟩ := List.mem_map.1 ((sortI_p _).mem_iff.1 hk)
    rw [mem_lookup g.dup he]
    exact (g.ok e he).1
  rw [f a ha, f b hb]
  exact h
theorem listV_ok {s : Int × Es} (g : Good s) {x : Vote} (h : x ∈ listV s.2) : 1 ≤ x.Slot ∧ x.Slot ≤ 1000 ∧ 1 ≤ x.B ∧ x.B ≤ s.1 ∧ x.V.length ≤ 1000 := by
  have := g.ok _ (lookup_mem ((listV_mem g).1 h))
  exact ⟨this.2.1, this.2.2.1, this.2.2.2.1, this.2.2.2.2.1, this.2.2.2.2.2⟩
/-! ### what is done keeps to the law -/
theorem prepR_legal {rs : List Rec} {b : Int} (h : Legal (0, []) rs) : Legal (0, []) (prepR rs b).1 := by
  unfold prepR
  split
  · exact h
  · rename_i hw
    split
    · rename_i hb
      refine legal_app.2 ⟨h, ?_, trivial⟩
      refine ⟨?_, hb⟩
      unfold whyR at hw
      cases hn : numB b with
      | true => rfl
      | false => rw [hn] at hw; simp at hw
    · exact h
theorem accR_legal {rs : List Rec} {b n : Int} {v : List UInt8} (h : Legal (0, []) rs) : Legal (0, []) (accR rs b n v).1 := by
  unfold accR
  split
  · exact h
  · split
    · exact h
    · rename_i hs
      split
      · exact h
      · rename_i hv
        split
        · exact h
        · rename_i hw
          have hnum : numB b = true ∧ (fold rs).1 ≤ b := by
            unfold whyR at hw
            cases hn : numB b with
            | true =>
              rw [hn] at hw
              simp only [Bool.true_eq_false, if_false] at hw
              refine ⟨rfl, ?_⟩
              by_cases c : b < (fold rs).1
              · rw [if_pos c] at hw; simp at hw
              · omega
            | false => rw [hn] at hw; simp at hw
          have hrec : okR (.acc b n v) := ⟨hnum.1, by simpa using hs, by omega⟩
          cases hl : (fold rs).2.lookup n with
          | none =>
            simp only
            refine legal_app.2 ⟨h, ⟨hrec, hnum.2, fun o ho => ?_⟩, trivial⟩
            unfold fold at hl
            rw [hl] at ho
            cases ho
          | some o =>
            simp only
            by_cases hB : o.B = b
            · rw [if_pos hB]
              split <;> exact h
            · rw [if_neg hB]
              refine legal_app.2 ⟨h, ⟨hrec, hnum.2, fun o' ho => ?_⟩, trivial⟩
              unfold fold at hl
              rw [hl] at ho
              cases ho
              exact hB
theorem prepR_ext (rs : List Rec) (b : Int) : ∃ e, (prepR rs b).1 = rs ++ e ∧ e.length ≤ 1 := by
  unfold prepR
  split
  · exact ⟨[], by simp, by simp⟩
  · split
    · exact ⟨_, rfl, by simp⟩
    · exact ⟨[], by simp, by simp⟩
theorem accR_ext (rs : List Rec) (b n : Int) (v : List UInt8) : ∃ e, (accR rs b n v).1 = rs ++ e ∧ e.length ≤ 1 := by
  unfold accR
  split
  · exact ⟨[], by simp, by simp⟩
  · split
    · exact ⟨[], by simp, by simp⟩
    · split
      · exact ⟨[], by simp, by simp⟩
      · split
        · exact ⟨[], by simp, by simp⟩
        · split
          · split
            · split <;> exact ⟨[], by simp, by simp⟩
            · exact ⟨_, rfl, by simp⟩
          · exact ⟨_, rfl, by simp⟩
/-! ### contracts -/
def hasA (a d : Nat) (rs : List Rec) (k : Nat) : Assn := exA fun S : Bl => sepA [puA (Has S rs k ∧ Legal (0, []) rs), blA a d S]
section
variable {W w : World} {l l' : List Assn} {a d k : Nat} {rs : List Rec}
theorem has_open (H : St W (hasA a d rs k :: l) w) : ∃ S, Has S rs k ∧ Legal (0, []) rs ∧ St W (blA a d S :: l) w := by
  obtain ⟨S, H⟩ := H.ex
  have H := H.open_
  obtain ⟨h, H⟩ := St.pu (φ := Has S rs k ∧ Legal (0, []) rs) H
  exact ⟨S, h.1, h.2, H⟩
theorem has_shut {S : Bl} (h : Has S rs k) (hl : Legal (0, []) rs) (H : St W (blA a d S :: l) w) : St W (hasA a d rs k :: l) w :=
  St.toEx S (St.shut (l' := [puA _, _]) (St.toPu (φ := Has S rs k ∧ Legal (0, []) rs) ⟨h, hl⟩ H))
theorem hprep_spec {b : Int} (hr : rs.length ≤ 1000) (H : St W (hasA a d rs k :: l) w) :
    cl Try.prog 14 [.pointer (some ⟨a, 0, none⟩), .int .i64 b] (tTup2 tSlc (tInt .i64)) w fun r w' => r.2 = (prepR rs b).2 ∧ ((prepR rs b).2 = 0 → St W (row TVo 47 3 r.1 (listV (fold rs).2) :: hasA a d (prepR rs b).1 k :: l) w') ∧ ((prepR rs b).2 ≠ 0 → r.1 = nilS ∧ St W (hasA a d (prepR rs b).1 k :: l) w') := by
  obtain ⟨S, h, hl, H⟩ := has_open H
  have he := congrArg Prod.snd h.st
  simp only at he
  have hk := keyed_fold hl hr
  rw [← he] at hk
  obtain ⟨p1, p2⟩ := h.prep hr b
  refine cl_mono (prep_spec (h.dOk hr) hk H) ?_
  rintro r w ⟨h1, h2, h3⟩
  rw [p2] at h1 h2 h3
  rw [he] at h2
  exact ⟨h1, fun e => (has_shut p1 (prepR_legal hl) ((h2 e).front 1)).front 1, fun e => ⟨(h3 e).1, has_shut p1 (prepR_legal hl) (h3 e).2⟩⟩
theorem hacc_spec {b n : Int} {v : List UInt8} (hr : rs.length ≤ 1000) (H : St W (hasA a d rs k :: l) w) :
    cl Try.prog 16 [.pointer (some ⟨a, 0, none⟩), .int .i64 b, .int .i64 n, .string ⟨v.toArray⟩] (tInt .i64) w fun r w' => r = (accR rs b n v).2 ∧ St W (hasA a d (accR rs b n v).1 k :: l) w' := by
  obtain ⟨S, h, hl, H⟩ := has_open H
  obtain ⟨p1, p2⟩ := h.acc hr b n v
  refine cl_mono (acc_spec (h.dOk hr) H) ?_
  rintro r w ⟨h1, H⟩
  rw [p2] at h1
  exact ⟨h1, has_shut p1 (accR_legal hl) H⟩
theorem hprom_spec (H : St W (hasA a d rs k :: l) w) : cl Try.prog 15 [.pointer (some ⟨a, 0, none⟩)] (tInt .i64) w fun r w' => r = (fold rs).1 ∧ St W (hasA a d rs k :: l) w' := by
  obtain ⟨S, h, hl, H⟩ := has_open H
  have hp := congrArg Prod.fst h.st
  simp only at hp
  refine cl_mono (promised_spec H) ?_
  rintro r w ⟨h1, H⟩
  exact ⟨h1.trans hp, has_shut h hl H⟩
theorem hvotes_spec (hr : rs.length ≤ 1000) (H : St W (hasA a d rs k :: l) w) : cl Try.prog 17 [.pointer (some ⟨a, 0, none⟩)] tSlc w fun r w' => St W (row TVo 47 3 r (listV (fold rs).2) :: hasA a d rs k :: l) w' := by
  obtain ⟨S, h, hl, H⟩ := has_open H
  have he := congrArg Prod.snd h.st
  simp only at he
  have hk := keyed_fold hl hr
  rw [← he] at hk ⊢
  refine cl_mono (votes_spec hk H) ?_
  intro r w H
  exact (has_shut h hl (H.front 1)).front 1
/-- The log ahead of all of an acceptor, and its Sync. -/
theorem hsync_spec {K : Int → World → Prop} (hr : rs.length ≤ 1000) (H : St W (hasA a d rs k :: l) w) (hk : ∀ w', St W (hasA a d rs rs.length :: l) w' → K 0 w') :
    ex (RdAt tPtr (Addr.add ⟨a, 0, none⟩ 0) w) fun x => cl Try.prog 18 [.pointer x] (tInt .i64) w K := by
  obtain ⟨S, h, hl, H⟩ := has_open H
  obtain ⟨b, m, H⟩ := bl_open H
  refine ex_i (some ⟨b, 0, none⟩) (rdat_cel tPtr H rfl rfl) ?_
  refine cl_mono (synw_spec (h.dOk hr) (H.ord [2, 3])) ?_
  rintro e w ⟨rfl, H⟩
  obtain ⟨acts, hd⟩ := h.disk
  obtain ⟨x, y, hv⟩ := h.wal
  have hs : synW S.D S.V = (⟨[⟨logB rs, (logB rs).length⟩], IntKind.i64.wrap (acts + 1), false, 0, []⟩, ⟨x, x, 0, false⟩, 0) := by
    unfold synW syncD actD
    rw [hd, hv]
    simp
  have hn : Has { S with D := (synW S.D S.V).1, V := (synW S.D S.V).2.1 } rs rs.length := by
    rw [hs]
    exact ⟨⟨IntKind.i64.wrap (acts + 1), by rw [List.take_length]⟩, ⟨x, x, rfl⟩, h.st, h.ok, Nat.le_refl _⟩
  rw [hs] at H ⊢
  rw [hs] at hn
  have H := H.ord [2, 3, 0, 1]
  have H := has_shut hn hl (bl_shut H)
  exact hk _ H
theorem hasA_nc : ∀ {x : Option Addr}, x = some ⟨a, 0, none⟩ → x ≠ none := by rintro x rfl; simp
/-- A new disk, and an acceptor on it. -/
theorem hopen_spec (H : St W (dskA d ⟨List.replicate 1 ⟨[], 0⟩, 0, false, 0, []⟩ :: l) w) :
    cl Try.prog 12 [.pointer (some ⟨d, 0, none⟩), .int .i64 0] (tTup2 tPtr (tInt .i64)) w fun r w' => r.2 = 0 ∧ ∃ a : Nat, r.1 = some ⟨a, 0, none⟩ ∧ St W (hasA a d [] 0 :: l) w' := by
  refine cl_mono (open_spec (rs := []) (g := ⟨[], 0⟩) ⟨by simp, by simp⟩ (Int.le_refl 0) rfl rfl rfl (by simp) rfl H) ?_
  rintro r w ⟨h1, a, h2, H⟩
  refine ⟨h1, a, h2, has_shut (S := _) ?_ trivial H⟩
  exact ⟨⟨0, rfl⟩, ⟨0, 0, rfl⟩, rfl, by simp, Nat.le_refl _⟩
end
end Go.Proofs.Ytjkmeooncmhonaa.Ballot
