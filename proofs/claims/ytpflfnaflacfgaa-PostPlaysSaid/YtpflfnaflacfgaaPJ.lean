/- The law PostSent answers true. -/
import Derived.Test.YtpflfnaflacfgaaPH
namespace Go.Proofs.Ytpflfnaflacfgaa.PostS
open Go Go.Proofs.Ytpflfnaflacfgaa.Cf
set_option linter.unusedVariables false
set_option linter.unusedSimpArgs false
set_option maxRecDepth 100000
section
variable {W w : World} {l : List Assn} {b : Nat} {N : Net}
/-- A local array is a row. -/
abbrev slcOf (b m : Nat) : Slc := ⟨some ⟨b, 0, none⟩, m, m⟩
theorem ixr_of {b m sz : Nat} {i : Int} {a : Addr} (h : IxA (slcOf b m) sz i a) : IxR ⟨b, 0, none⟩ m sz i a := by
  obtain ⟨c, hc, h0, h1, h2⟩ := h
  cases hc
  exact ⟨h0, h1, h2⟩
theorem Net.send_cases (N : Net) (f t : Int) (m : List UInt8) (h0 : 0 ≤ N.sent) (h1 : N.sent ≤ 1000) : (∃ e, e ≠ 0 ∧ N.send f t m = (N, 0, e)) ∨ N.send f t m = ({ N with l := N.l ++ [⟨N.sent + 1, f, t, m⟩], sent := N.sent + 1 }, N.sent + 1, 0) := by
  have e1 : IntKind.i64.wrap (N.sent + 1) = N.sent + 1 := wrap_i64 (by omega) (by omega)
  unfold Net.send
  rw [e1]
  split
  · exact .inl ⟨90, by decide, rfl⟩
  · split
    · exact .inl ⟨91, by decide, rfl⟩
    · rename_i hp
      refine .inr ?_
      unfold Net.put at hp ⊢
      split
      · rename_i hc; rw [if_pos hc] at hp; exact absurd (show (91 : Int) ≠ 0 by decide) hp
      · rfl
theorem Net.at_cases (N : Net) (i : Int) : (N.at_ i = (Z35, 92)) ∨ ∃ x, 0 ≤ i ∧ N.l[i.toNat]? = some x ∧ N.at_ i = (x, 0) := by
  by_cases hc : i < 0 ∨ (N.l.length : Int) ≤ i
  · exact .inl (N.at_out hc)
  · have hx : N.l[i.toNat]? = some (N.l[i.toNat]'(by omega)) := List.getElem?_eq_getElem (by omega)
    exact .inr ⟨_, by omega, hx, N.at_in (by omega) hx⟩
theorem Net.take_cases (N : Net) (i : Int) : (∃ x e, e ≠ 0 ∧ N.take i = (N, x, e)) ∨ ∃ x, 0 ≤ i ∧ N.l[i.toNat]? = some x ∧ N.take i = ({ N with l := N.l.eraseIdx i.toNat }, x, 0) := by
  rcases N.at_cases i with h | ⟨x, h0, hx, h⟩
  · exact .inl ⟨_, _, by rw [h]; decide, N.take_at (by rw [h]; decide)⟩
  · cases ho : (N.off (N.at_ i).1.From || N.off (N.at_ i).1.To) with
    | true => exact .inl ⟨_, _, by decide, N.take_off (by rw [h]) ho⟩
    | false => refine .inr ⟨x, h0, hx, ?_⟩; rw [N.take_ok (by rw [h]) ho, h]
theorem split_at {L : List S35} {i : Nat} {x : S35} (h : L[i]? = some x) : L = L.take i ++ x :: L.drop (i + 1) := by
  obtain ⟨hi, rfl⟩ := List.getElem?_eq_some_iff.1 h
  rw [← List.drop_eq_getElem_cons hi, List.take_append_drop]
theorem count_erase {L : List S35} {i : Nat} {x : S35} (p : S35 → Bool) (h : L[i]? = some x) : L.countP p = (L.eraseIdx i).countP p + if p x then 1 else 0 := by
  conv => lhs; rw [split_at h]
  rw [List.eraseIdx_eq_take_drop_succ, List.countP_append, List.countP_append, List.countP_cons]; omega
/-- The books of the law: what was sent, and how often it may be taken. -/
structure Books (N : Net) (many : Int) (S : List S28) (E : List Int) : Prop where
  m0 : 0 ≤ many
  sent : N.sent = many
  sl : S.length = 61
  el : E.length = 61
  each : ∀ x ∈ N.l, 1 ≤ x.ID ∧ x.ID ≤ many ∧ ∃ o, S[x.ID.toNat]? = some o ∧ o.A = x.From ∧ o.B = x.To ∧ o.M = x.M
  ends : ∀ id : Int, 1 ≤ id → id ≤ many → E[id.toNat]? = some (N.l.countP fun x => x.ID == id : Int)
theorem Books.send {many : Int} {S : List S28} {E : List Int} {o : S28} (B : Books N many S E) (hm : many < 60) :
    Books { N with l := N.l ++ [⟨many + 1, o.A, o.B, o.M⟩], sent := many + 1 } (many + 1) (S.set (many + 1).toNat o) (E.set (many + 1).toNat 1) := by
  have m0 := B.m0
  refine ⟨by omega, rfl, by rw [List.length_set]; exact B.sl, by rw [List.length_set]; exact B.el, ?_, ?_⟩
  · intro x hx
    rcases List.mem_append.1 hx with hx | hx
    · obtain ⟨g1, g2, q, g3, g4⟩ := B.each x hx
      exact ⟨g1, by omega, q, by rw [List.getElem?_set_ne (by omega)]; exact g3, g4⟩
    · obtain rfl := List.mem_singleton.1 hx
      exact ⟨by simp only; omega, by simp only; omega, o, by simp only; rw [List.getElem?_set_self (by rw [B.sl]; omega)], rfl, rfl, rfl⟩
  · intro id h1 h2
    simp only [List.countP_append, List.countP_singleton]
    by_cases hi : id = many + 1
    · subst hi
      have : N.l.countP (fun x => x.ID == many + 1) = 0 := List.countP_eq_zero.2 fun x hx => by
        have := (B.each x hx).2.1
        simp; omega
      rw [List.getElem?_set_self (by rw [B.el]; omega), this]; simp
    · rw [List.getElem?_set_ne (by omega), B.ends id h1 (by omega)]
      have : ((many + 1 == id) : Bool) = false := by simp; omega
      simp [this]
theorem Books.drop {many : Int} {S : List S28} {E : List Int} {i : Nat} {x : S35} (B : Books N many S E) (hx : N.l[i]? = some x) :
    Books { N with l := N.l.eraseIdx i } many S (E.set x.ID.toNat ((N.l.countP (fun y => y.ID == x.ID) : Int) - 1)) := by
  have m0 := B.m0
  have hmem := List.mem_of_getElem? hx
  have hxr := B.each x hmem
  refine ⟨B.m0, B.sent, B.sl, by rw [List.length_set]; exact B.el, fun y hy => B.each y ((List.eraseIdx_sublist _ _).subset hy), ?_⟩
  intro id h1 h2
  simp only
  have hc := count_erase (fun y => y.ID == id) hx
  have hlt : id.toNat < E.length := (List.getElem?_eq_some_iff.1 (B.ends id h1 h2)).1
  by_cases hi : id = x.ID
  · subst hi
    rw [List.getElem?_set_self hlt]
    simp only [beq_self_eq_true, if_true] at hc
    rw [hc]; simp
  · rw [List.getElem?_set_ne (by omega), B.ends id h1 h2]
    have : ((x.ID == id) : Bool) = false := by simp; omega
    simp only [this] at hc
    rw [hc]; simp
theorem Books.copy {many : Int} {S : List S28} {E : List Int} {x : S35} (B : Books N many S E) (hx : x ∈ N.l) :
    Books { N with l := N.l ++ [x] } many S (E.set x.ID.toNat ((N.l.countP (fun y => y.ID == x.ID) : Int) + 1)) := by
  have m0 := B.m0
  have hxr := B.each x hx
  refine ⟨B.m0, B.sent, B.sl, by rw [List.length_set]; exact B.el, fun y hy => ?_, ?_⟩
  · rcases List.mem_append.1 hy with hy | hy
    · exact B.each y hy
    · rw [List.mem_singleton.1 hy]; exact hxr
  · intro id h1 h2
    simp only [List.countP_append, List.countP_singleton]
    have hlt : id.toNat < E.length := (List.getElem?_eq_some_iff.1 (B.ends id h1 h2)).1
    by_cases hi : id = x.ID
    · subst hi
      rw [List.getElem?_set_self hlt]; simp
    · rw [List.getElem?_set_ne (by omega), B.ends id h1 h2]
      have : ((x.ID == id) : Bool) = false := by simp; omega
      simp [this]
theorem sent_end {r4 : Option Addr × Int} (hr : r4.1 = some ⟨b, 0, none⟩) {aE : Nat} {many : Int} {S : List S28} {E : List Int} (B : Books N many S E) (hm : many ≤ 60) (hN : N.l.length ≤ 60)
    (H : St W (row (tInt .i64) 43 1 (slcOf aE 61) E :: NetA b N :: l) w) :
    lp (fun (s : Int × Int) w K => F5_l3 r4 ⟨aE, 0, none⟩ many s.1 s.2 w K fun r w' => r = true ∧ St W l w') ((0 : Int), (1 : Int)) w := by
  have m0 := B.m0
  have hle : ∀ p : S35 → Bool, N.l.countP p ≤ N.l.length := fun p => List.countP_le_length
  refine lp_i (fun q w => 1 ≤ q.2 ∧ q.2 ≤ many + 1 ∧ q.1 = (N.l.countP fun x => decide (x.ID < q.2) : Int) ∧ St W (row (tInt .i64) 43 1 (slcOf aE 61) E :: NetA b N :: l) w) (fun q => (many + 1 - q.2).toNat) ⟨by simp only; omega, by simp only; omega, ?_, H⟩ ?_
  · simp only
    have : N.l.countP (fun x => decide (x.ID < 1)) = 0 := List.countP_eq_zero.2 fun x hx => by
      have := (B.each x hx).1
      simp; omega
    rw [this]; rfl
  rintro ⟨left, i⟩ w ⟨h1, h2, hle', H⟩
  simp only at h1 h2 hle'
  simp only
  unfold F5_l3
  split
  · rename_i hc
    have hc : i ≤ many := by simpa using hc
    have hx := B.ends i h1 hc
    obtain ⟨a, ha⟩ := row_ix (sz := 1) (i := i) H (by omega) (by rw [B.el]; omega)
    refine ex_i a (ixr_of ha) ?_
    refine ex_i _ (rd_row (fun _ => rfl) ha hx H) ?_
    have h3 := hle fun x => decide (x.ID < i)
    have h4 := hle fun x => x.ID == i
    have e1 : IntKind.i64.wrap (i + 1) = i + 1 := wrap_i64 (by omega) (by omega)
    have e2 : IntKind.i64.wrap (left + (N.l.countP fun x => x.ID == i : Int)) = left + (N.l.countP fun x => x.ID == i : Int) := wrap_i64 (by omega) (by omega)
    rw [e1, e2]
    refine ⟨⟨by simp only; omega, by simp only; omega, ?_, H⟩, by simp only; omega⟩
    simp only
    rw [hle', ← Int.natCast_add]
    congr 1
    have : ∀ L : List S35, L.countP (fun x => decide (x.ID < i)) + L.countP (fun x => x.ID == i) = L.countP fun x => decide (x.ID < i + 1) := by
      intro L
      induction L with
      | nil => rfl
      | cons x L ih =>
        simp only [List.countP_cons]
        have d : ∀ (p q r : Bool), (p.toNat + q.toNat = r.toNat) → L.countP (fun x => decide (x.ID < i)) + (if p = true then 1 else 0) + (L.countP (fun x => x.ID == i) + if q = true then 1 else 0) = L.countP (fun x => decide (x.ID < i + 1)) + if r = true then 1 else 0 := by
          intro p q r h
          rw [← ih]
          cases p <;> cases q <;> cases r <;> simp at h ⊢ <;> omega
        refine d _ _ _ ?_
        by_cases g1 : x.ID < i
        · rw [decide_eq_true g1, decide_eq_true (show x.ID < i + 1 by omega), beq_eq_false_iff_ne.2 (by omega)]; rfl
        · by_cases g2 : x.ID = i
          · rw [decide_eq_false g1, decide_eq_true (show x.ID < i + 1 by omega), beq_iff_eq.2 g2]; rfl
          · rw [decide_eq_false g1, decide_eq_false (show ¬ x.ID < i + 1 by omega), beq_eq_false_iff_ne.2 g2]; rfl
    exact this N.l
  · rename_i hc
    have hc : i = many + 1 := by simp at hc; omega
    subst hc
    rw [hr]
    refine cl_mono (letters_spec (H.front 1) (by omega)) ?_
    intro r w1 H
    have hrl := row_len H
    refine ⟨?_, H.drop.drop.drop⟩
    have : N.l.countP (fun x => decide (x.ID < many + 1)) = N.l.length := List.countP_eq_length.2 fun x hx => by
      have := (B.each x hx).2.1
      simp; omega
    rw [hle', this, hrl]; simp
end
end Go.Proofs.Ytpflfnaflacfgaa.PostS
