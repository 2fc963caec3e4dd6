/- Picking, plainly; the law Picks: the walk (merged from wip/ballot BO BN). -/
import Derived.Test.YtjkmeooncmhonaaBP
import Derived.Test.YtjkmeooncmhonaaOp
import Derived.Test.YtjkmeooncmhonaaFL3
namespace Go.Proofs.Ytjkmeooncmhonaa.Ballot
open Go Go.Proofs.Ytjkmeooncmhonaa.Cf Go.Proofs.Ytjkmeooncmhonaa.Wire Go.Proofs.Ytjkmeooncmhonaa.Disk
set_option linter.unusedVariables false
set_option linter.unusedSimpArgs false
set_option maxRecDepth 100000
theorem pick_look : ∀ {xs : List Vote} {es : Es} {s : Int}, (∀ e ∈ es, e.2.Slot = e.1) → (match (xs.foldl pick1 es).lookup s with
    | none => es.lookup s = none ∧ ∀ x ∈ xs, x.Slot ≠ s
    | some y => y.Slot = s ∧ (y ∈ xs ∨ es.lookup s = some y) ∧ (∀ x ∈ xs, x.Slot = s → x.B ≤ y.B) ∧ ∀ x, es.lookup s = some x → x.B ≤ y.B)
  | [], es, s, h => by
    simp only [List.foldl_nil]
    cases hl : es.lookup s with
    | none => simp
    | some y =>
      have := h _ (lookup_mem hl)
      simp only at this
      exact ⟨this, .inr rfl, by simp, fun x hx => by cases hx; exact Int.le_refl _⟩
  | x :: xs, es, s, h => by
    have h2 : ∀ e ∈ pick1 es x, e.2.Slot = e.1 := by
      intro e he
      rcases pick1_mem he with rfl | he
      · rfl
      · exact h e he
    have ih := pick_look (xs := xs) (es := pick1 es x) (s := s) h2
    simp only [List.foldl_cons]
    have hp : (pick1 es x).lookup s = if s = x.Slot then (match es.lookup s with
        | none => some x
        | some y => if y.B < x.B then some x else some y) else es.lookup s := by
      by_cases c : s = x.Slot
      · subst c
        rw [if_pos rfl]
        cases hl : es.lookup x.Slot with
        | none => rw [pick1_none hl, lookup_ups]; simp
        | some y =>
          by_cases hB : y.B < x.B
          · rw [pick1_gt hl hB, lookup_ups]; simp [hB]
          · rw [pick1_le hl hB, hl]; simp [hB]
      · rw [if_neg c]
        cases hl : es.lookup x.Slot with
        | none => rw [pick1_none hl, lookup_ups, if_neg (by simpa using c)]
        | some y =>
          by_cases hB : y.B < x.B
          · rw [pick1_gt hl hB, lookup_ups, if_neg (by simpa using c)]
          · rw [pick1_le hl hB]
    rw [hp] at ih
    cases hf : (xs.foldl pick1 (pick1 es x)).lookup s with
    | none =>
      rw [hf] at ih
      simp only at ih
      obtain ⟨i1, i2⟩ := ih
      by_cases c : s = x.Slot
      · rw [if_pos c] at i1
        cases hl : es.lookup s with
        | none => rw [hl] at i1; simp at i1
        | some y =>
          rw [hl] at i1
          simp only at i1
          split at i1 <;> simp at i1
      · rw [if_neg c] at i1
        refine ⟨i1, fun y hy => ?_⟩
        rcases List.mem_cons.1 hy with rfl | hy
        · exact fun e => c e.symm
        · exact i2 y hy
    | some y =>
      rw [hf] at ih
      simp only at ih ⊢
      obtain ⟨i1, i2, i3, i4⟩ := ih
      refine ⟨i1, ?_, ?_, ?_⟩
      · rcases i2 with i2 | i2
        · exact .inl (by simp [i2])
        · by_cases c : s = x.Slot
          · rw [if_pos c] at i2
            cases hl : es.lookup s with
            | none =>
              rw [hl] at i2
              cases i2
              exact .inl (by simp)
            | some z =>
              rw [hl] at i2
              simp only at i2
              split at i2
              · cases i2; exact .inl (by simp)
              · exact .inr i2
          · rw [if_neg c] at i2
            exact .inr i2
      · intro z hz he
        rcases List.mem_cons.1 hz with rfl | hz
        · rw [if_pos he.symm] at i4
          cases hl : es.lookup s with
          | none => rw [hl] at i4; exact i4 _ rfl
          | some u =>
            rw [hl] at i4
            simp only at i4
            by_cases hB : u.B < z.B
            · rw [if_pos hB] at i4; exact i4 _ rfl
            · rw [if_neg hB] at i4
              have := i4 _ rfl
              omega
        · exact i3 z hz he
      · intro z hz
        by_cases c : s = x.Slot
        · rw [if_pos c, hz] at i4
          simp only at i4
          by_cases hB : z.B < x.B
          · rw [if_pos hB] at i4
            have := i4 _ rfl
            omega
          · rw [if_neg hB] at i4
            exact i4 _ rfl
        · rw [if_neg c] at i4
          exact i4 z hz
theorem pickE_none {xs : List Vote} {s : Int} (h : (pickE xs).lookup s = none) : ∀ x ∈ xs, x.Slot ≠ s := by
  have := pick_look (xs := xs) (es := []) (s := s) (by simp)
  unfold pickE at h
  rw [h] at this
  exact this.2
theorem pickE_some {xs : List Vote} {s : Int} {y : Vote} (h : (pickE xs).lookup s = some y) : y.Slot = s ∧ y ∈ xs ∧ ∀ x ∈ xs, x.Slot = s → x.B ≤ y.B := by
  have := pick_look (xs := xs) (es := []) (s := s) (by simp)
  unfold pickE at h
  rw [h] at this
  obtain ⟨h1, h2, h3, _⟩ := this
  exact ⟨h1, by simpa using h2, h3⟩
/-- Votes by slots, of keys that are slots. -/
theorem listV_mem2 {es : Es} (hd : (es.map (·.1)).Nodup) (hs : ∀ e ∈ es, e.2.Slot = e.1) {x : Vote} : x ∈ listV es ↔ es.lookup x.Slot = some x := by
  unfold listV
  simp only [List.mem_map]
  constructor
  · rintro ⟨k, hk, rfl⟩
    obtain ⟨e, he, rfl⟩ := List.mem_map.1 ((sortI_p _).mem_iff.1 hk)
    have h := mem_lookup hd he
    rw [h]
    simp only [Option.getD_some]
    rw [hs e he]
    exact h
  · intro h
    refine ⟨x.Slot, (sortI_p _).mem_iff.2 (List.mem_map.2 ⟨_, lookup_mem h, rfl⟩), by rw [h]; rfl⟩
theorem pick_dup : ∀ {xs : List Vote} {es : Es}, (es.map (·.1)).Nodup → ((xs.foldl pick1 es).map (·.1)).Nodup
  | [], _, h => h
  | x :: xs, es, h => by
    refine pick_dup (xs := xs) (es := pick1 es x) ?_
    unfold pick1
    split
    · exact nodup_ups h
    · split
      · exact nodup_ups h
      · exact h
theorem pickE_mem {xs : List Vote} {x : Vote} : x ∈ listV (pickE xs) ↔ (pickE xs).lookup x.Slot = some x :=
  listV_mem2 (pick_dup (by simp)) fun e he => by
    rcases picks_mem he with ⟨y, _, rfl⟩ | h
    · rfl
    · simp at h
theorem sorted_eq {xs ys : List Vote} (hx : Sorted xs) (hy : Sorted ys) (h : ∀ z, z ∈ xs ↔ z ∈ ys) : xs = ys := by
  have n : ∀ {zs : List Vote}, Sorted zs → zs.Nodup := fun h => h.imp fun {a b} h e => by subst e; omega
  exact List.Perm.eq_of_pairwise (fun a b _ _ h1 h2 => by omega) hx hy ((List.perm_ext_iff_of_nodup (n hx) (n hy)).2 h)
theorem pickE_sorted (xs : List Vote) : Sorted (listV (pickE xs)) := by
  have hd : ((pickE xs).map (·.1)).Nodup := pick_dup (by simp)
  have hs : ∀ e ∈ pickE xs, e.2.Slot = e.1 := fun e he => by
    rcases picks_mem he with ⟨y, _, rfl⟩ | h
    · rfl
    · simp at h
  unfold listV
  unfold Sorted
  rw [List.pairwise_map]
  refine (sortI_lt hd).imp_of_mem fun {a b} ha hb h => ?_
  have f : ∀ k, k ∈ sortI ((pickE xs).map (·.1)) → (((pickE xs).lookup k).getD Z46).Slot = k := by
    intro k hk
    obtain ⟨e, he, rfl⟩ := List.mem_map.1 ((sortI_p _).mem_iff.1 hk)
    rw [mem_lookup hd he]
    exact hs e he
  rw [f a ha, f b hb]
  exact h
theorem pick_first {xs : List Vote} : ∀ (j : Nat), j ≤ xs.length → ∀ (s : Int) (y : Vote), (pickE (xs.take j)).lookup s = some y →
    ∃ i, i < j ∧ xs[i]? = some y ∧ ∀ (k : Nat) (z : Vote), k < j → xs[k]? = some z → z.Slot = s → z.B ≤ y.B ∧ (z.B = y.B → i ≤ k)
  | 0, _, s, y, h => by simp [pickE] at h
  | j + 1, hj, s, y, h => by
    have ih := pick_first (xs := xs) j (by omega)
    have hx : xs[j]? = some xs[j] := List.getElem?_eq_getElem (by omega)
    have ht : xs.take (j + 1) = xs.take j ++ [xs[j]] := by rw [List.take_succ_eq_append_getElem (by omega)]
    generalize xs[j] = x at hx ht
    have he : pickE (xs.take (j + 1)) = pick1 (pickE (xs.take j)) x := by
      rw [ht]; unfold pickE; rw [List.foldl_append]; rfl
    rw [he] at h
    have old : (pickE (xs.take j)).lookup s = some y → (x.Slot = s → x.B ≤ y.B) → ∃ i, i < j + 1 ∧ xs[i]? = some y ∧ ∀ (k : Nat) (z : Vote), k < j + 1 → xs[k]? = some z → z.Slot = s → z.B ≤ y.B ∧ (z.B = y.B → i ≤ k) := by
      intro h hB
      obtain ⟨i, h1, h2, h3⟩ := ih s y h
      refine ⟨i, by omega, h2, fun k z hk hz hs => ?_⟩
      by_cases c : k < j
      · exact h3 k z c hz hs
      · have : k = j := by omega
        subst this
        rw [hx] at hz
        cases hz
        exact ⟨hB hs, fun _ => by omega⟩
    have new : s = x.Slot → y = x → (∀ z ∈ xs.take j, z.Slot = s → z.B < x.B) → ∃ i, i < j + 1 ∧ xs[i]? = some y ∧ ∀ (k : Nat) (z : Vote), k < j + 1 → xs[k]? = some z → z.Slot = s → z.B ≤ y.B ∧ (z.B = y.B → i ≤ k) := by
      rintro rfl rfl hlt
      refine ⟨j, by omega, hx, fun k z hk hz hs => ?_⟩
      by_cases c : k < j
      · have hm : z ∈ xs.take j := List.mem_of_getElem? (by rw [List.getElem?_take, if_pos c]; exact hz)
        have := hlt z hm hs
        exact ⟨by omega, fun _ => by omega⟩
      · have : k = j := by omega
        subst this
        rw [hx] at hz
        cases hz
        exact ⟨Int.le_refl _, fun _ => Nat.le_refl _⟩
    cases hl : (pickE (xs.take j)).lookup x.Slot with
    | none =>
      rw [pick1_none hl, lookup_ups] at h
      by_cases c : s = x.Slot
      · subst c
        rw [if_pos (by simp)] at h
        cases h
        exact new rfl rfl fun z hz hs => absurd hs (pickE_none hl z hz)
      · rw [if_neg (by simpa using c)] at h
        exact old h fun e => absurd e.symm c
    | some y0 =>
      by_cases hB : y0.B < x.B
      · rw [pick1_gt hl hB, lookup_ups] at h
        by_cases c : s = x.Slot
        · subst c
          rw [if_pos (by simp)] at h
          cases h
          exact new rfl rfl fun z hz hs => by
            have := (pickE_some hl).2.2 z hz hs
            omega
        · rw [if_neg (by simpa using c)] at h
          exact old h fun e => absurd e.symm c
      · rw [pick1_le hl hB] at h
        refine old h fun e => ?_
        rw [← e, hl] at h
        cases h
        omega
/-- The first one of the greatest number in its slot. -/
def Best (xs : List Vote) (i : Nat) (y : Vote) : Prop := xs[i]? = some y ∧ ∀ (k : Nat) (z : Vote), xs[k]? = some z → z.Slot = y.Slot → z.B ≤ y.B ∧ (z.B = y.B → i ≤ k)
theorem Best.one {xs : List Vote} {i j : Nat} {x y : Vote} (h : Best xs i x) (k : Best xs j y) (e : x.Slot = y.Slot) : i = j ∧ x = y := by
  have h1 := h.2 j y k.1 e.symm
  have h2 := k.2 i x h.1 e
  have hB : x.B = y.B := by omega
  have h3 := h1.2 hB.symm
  have h4 := h2.2 hB
  have hij : i = j := by omega
  subst hij
  refine ⟨rfl, ?_⟩
  have := h.1.symm.trans k.1
  simpa using this
theorem best_mem {xs : List Vote} {x : Vote} : x ∈ listV (pickE xs) ↔ ∃ i, Best xs i x := by
  have look : ∀ {s : Int} {y : Vote}, (pickE xs).lookup s = some y → ∃ i, Best xs i y := by
    intro s y h
    have hs := (pickE_some h).1
    rw [← List.take_length (l := xs)] at h
    obtain ⟨i, h1, h2, h3⟩ := pick_first xs.length (Nat.le_refl _) s y h
    refine ⟨i, h2, fun k z hz he => h3 k z (List.getElem?_eq_some_iff.1 hz).1 hz (by rw [he, hs])⟩
  rw [pickE_mem]
  constructor
  · exact look
  · rintro ⟨i, hi⟩
    cases hl : (pickE xs).lookup x.Slot with
    | none => exact absurd rfl (pickE_none hl x (List.mem_of_getElem? hi.1))
    | some y =>
      obtain ⟨j, hj⟩ := look hl
      have := (hi.one hj (pickE_some hl).1.symm).2
      rw [this]
theorem pick_again {zs p : List Vote} (hp : Sorted p) (h : ∀ z, z ∈ zs ↔ z ∈ p) : listV (pickE zs) = p := by
  refine sorted_eq (pickE_sorted _) hp fun z => ?_
  rw [pickE_mem]
  constructor
  · intro hz
    exact (h z).1 (pickE_some hz).2.1
  · intro hz
    cases hl : (pickE zs).lookup z.Slot with
    | none => exact absurd rfl (pickE_none hl z ((h z).2 hz))
    | some y =>
      obtain ⟨h1, h2, _⟩ := pickE_some hl
      have h2 := (h y).1 h2
      obtain ⟨i, hi, rfl⟩ := List.getElem_of_mem hz
      obtain ⟨j, hj, rfl⟩ := List.getElem_of_mem h2
      have hq := List.pairwise_iff_getElem.1 hp
      rcases Nat.lt_trichotomy i j with c | c | c
      · have := hq i j hi hj c
        omega
      · subst c; rfl
      · have := hq j i hj hi c
        omega
/-- Put in at its place. -/
theorem ins_sorted {ys : List Vote} {x : Vote} {a : Nat} (hy : Sorted ys) (h1 : ∀ z ∈ ys.take a, z.Slot < x.Slot) (h2 : ∀ z ∈ ys.drop a, x.Slot < z.Slot) : Sorted (ys.take a ++ [x] ++ ys.drop a) := by
  have hs : Sorted (ys.take a ++ ys.drop a) := by rw [List.take_append_drop]; exact hy
  unfold Sorted at *
  rw [List.pairwise_append] at hs
  rw [List.append_assoc, List.pairwise_append]
  refine ⟨hs.1, ?_, ?_⟩
  · rw [List.singleton_append, List.pairwise_cons]
    exact ⟨h2, hs.2.1⟩
  · intro u hu v hv
    rcases List.mem_append.1 hv with hv | hv
    · rw [List.mem_singleton.1 hv]; exact h1 u hu
    · exact hs.2.2 u hu v hv
theorem drop_ge {ys : List Vote} {x : Vote} {a : Nat} (hy : Sorted ys) (h : ∀ z, ys[a]? = some z → x.Slot ≤ z.Slot) : ∀ z ∈ ys.drop a, x.Slot ≤ z.Slot := by
  intro z hz
  cases hc : ys[a]? with
  | none =>
    rw [List.drop_eq_nil_of_le (List.getElem?_eq_none_iff.1 hc)] at hz
    simp at hz
  | some y =>
    have hs : Sorted (ys.drop a) := List.Pairwise.drop hy
    rw [drop_cons hc] at hs hz
    have h1 := h y hc
    rcases List.mem_cons.1 hz with rfl | hz
    · exact h1
    · have := (List.pairwise_cons.1 hs).1 z hz
      omega
section
variable {W w : World} {l l' : List Assn}
theorem place_spec {q : Slc} {ys : List Vote} {slot : Int} (hn : ys.length ≤ 1000000) (k : See 3 l TVo q ys) (H : St W l w) :
    cl Try.prog 23 [tSlc.enc q, .int .i64 slot] (tTup2 (tInt .i64) tBool) w fun r w' => (0 ≤ r.1 ∧ r.1 ≤ ys.length ∧ (∀ z ∈ ys.take r.1.toNat, z.Slot < slot) ∧ ∀ z, ys[r.1.toNat]? = some z → slot ≤ z.Slot) ∧ St W l w' := by
  have hq := k.len H
  refine F23_ok ?_
  unfold F23
  refine lp_p (fun a w => 0 ≤ a ∧ a ≤ ys.length ∧ (∀ z ∈ ys.take a.toNat, z.Slot < slot) ∧ St W l w) (fun a => (ys.length - a).toNat) ⟨Int.le_refl 0, by omega, by simp, H⟩ ?_
  clear H
  rintro a w ⟨a0, a1, ha, H⟩ K hK
  unfold F23_l1
  rw [hq]
  by_cases c : a < ys.length
  · have hz : ys[a.toNat]? = some ys[a.toNat] := List.getElem?_eq_getElem (by omega)
    have ht : ys.take (a.toNat + 1) = ys.take a.toNat ++ [ys[a.toNat]] := by rw [List.take_succ_eq_append_getElem (by omega)]
    generalize ys[a.toNat] = z at hz ht
    obtain ⟨b, hb⟩ := k.ix (i := a) H a0 c
    refine ex_i b (fun _ => hb) ?_
    refine ex_i z.Slot (fun _ => k.fld (U := tInt .i64) hb hz rfl H) ?_
    by_cases hs : z.Slot < slot
    · rw [if_pos (by simp [c, hs])]
      have e1 : IntKind.i64.wrap (a + 1) = a + 1 := wrap_i64 (by omega) (by omega)
      have e2 : (a + 1).toNat = a.toNat + 1 := by omega
      rw [e1]
      refine hK _ _ ⟨by omega, by omega, ?_, H⟩ (by omega)
      rw [e2, ht]
      intro u hu
      rcases List.mem_append.1 hu with hu | hu
      · exact ha u hu
      · rw [List.mem_singleton.1 hu]; exact hs
    · rw [if_neg (by simp; omega)]
      refine dr_st H fun w H => ?_
      refine ex_i b (fun _ => hb) ?_
      refine ex_i z.Slot (fun _ => k.fld (U := tInt .i64) hb hz rfl H) ?_
      refine ⟨⟨a0, a1, ha, fun u hu => ?_⟩, H⟩
      rw [hz] at hu
      cases hu
      omega
  · have hc : ¬ (decide (a < (ys.length : Int))) = true := by simpa using c
    refine ex_i ⟨0, 0, none⟩ (fun h => absurd h hc) ?_
    refine ex_i 0 (fun h => absurd h hc) ?_
    rw [if_neg (by rw [Bool.and_eq_true]; exact fun h => hc h.1)]
    refine dr_st H fun w H => ?_
    refine ex_i ⟨0, 0, none⟩ (fun h => absurd h hc) ?_
    refine ex_i 0 (fun h => absurd h hc) ?_
    refine ⟨⟨a0, a1, ha, fun u hu => ?_⟩, H⟩
    have := (List.getElem?_eq_some_iff.1 hu).1
    omega
theorem refpick_spec {q : Slc} {qs : List Slc} {xss : List (List Vote)} (hlen : qs.length = xss.length) (k : See 1 l tSlc q qs) (kk : ∀ (i : Nat) s xs, qs[i]? = some s → xss[i]? = some xs → See 3 l TVo s xs)
    (hn : xss.flatten.length ≤ 1000000) (hq : qs.length ≤ 1000000) (H : St W l w) :
    cl Try.prog 10 [tSlc.enc q] tSlc w fun r w' => St W (row TVo 47 3 r (listV (pickE xss.flatten)) :: l) w' := by
  have hql := k.len H
  refine F10_ok ?_
  unfold F10
  refine nwS_st H fun b2 w H => ?_
  have H := row_new (sz := 3) (m := 0) rfl H
  refine lp_p (fun p w => 0 ≤ p.2 ∧ p.2 ≤ qs.length ∧ St W (row TVo 47 3 p.1 (xss.take p.2.toNat).flatten :: l) w) (fun p => (qs.length - p.2).toNat)
    ⟨Int.le_refl 0, by simp only; omega, H⟩ ?_
  clear H
  rintro ⟨al, i⟩ w ⟨i0, i1, H⟩ K hK
  simp only at i0 i1 H
  unfold F10_l1
  simp only
  rw [hql]
  split
  · rename_i hi
    have hi : i < qs.length := by simpa using hi
    have hx : xss[i.toNat]? = some xss[i.toNat] := List.getElem?_eq_getElem (by omega)
    have hs : qs[i.toNat]? = some qs[i.toNat] := List.getElem?_eq_getElem (by omega)
    have ht : xss.take (i.toNat + 1) = xss.take i.toNat ++ [xss[i.toNat]] := by rw [List.take_succ_eq_append_getElem (by omega)]
    generalize xss[i.toNat] = xs at hx ht
    generalize qs[i.toNat] = s at hs
    have ks := kk _ _ _ hs hx
    have hle : ((xss.take i.toNat).flatten ++ xs).length ≤ xss.flatten.length := by
      have h1 : (xss.take (i.toNat + 1)).flatten ++ (xss.drop (i.toNat + 1)).flatten = xss.flatten := by rw [← List.flatten_append, List.take_append_drop]
      have h2 := congrArg List.length h1
      rw [ht, List.flatten_append] at h2
      simp only [List.flatten_cons, List.flatten_nil, List.append_nil, List.length_append] at h2 ⊢
      omega
    rw [List.length_append] at hle
    obtain ⟨a, ha⟩ := k.tail.ix (i := i) H i0 hi
    refine ex_i a ha ?_
    refine ex_i s (k.tail.rd ha hs H) ?_
    refine apd_row (fun _ => rfl) 0 H rfl (ks.tail.rdS H) (by omega) fun r w H => ?_
    have e1 : IntKind.i64.wrap (i + 1) = i + 1 := wrap_i64 (by omega) (by omega)
    have e2 : (i + 1).toNat = i.toNat + 1 := by omega
    rw [e1]
    refine hK _ _ ⟨by simp only; omega, by simp only; omega, ?_⟩ (by simp only; omega)
    simp only
    rw [e2, ht, List.flatten_append]
    simp only [List.flatten_cons, List.flatten_nil, List.append_nil]
    exact H
  · rename_i hi
    have hi : i = qs.length := by simp at hi; omega
    subst hi
    have e3 : xss.take ((qs.length : Int)).toNat = xss := by rw [hlen]; simp
    rw [e3] at H
    clear hK i0 i1 hi
    generalize xss.flatten = xs at *
    have hal := row_len H
    refine nwS_st H fun b12 w H => ?_
    have H := row_new (sz := 3) (m := 0) rfl H
    refine lp_p (fun p w => 0 ≤ p.2 ∧ p.2 ≤ xs.length ∧ ∃ ys : List Vote, Sorted ys ∧ ys.length ≤ p.2 ∧ (∀ z, z ∈ ys ↔ ∃ j : Nat, (j : Int) < p.2 ∧ Best xs j z) ∧ St W (row TVo 47 3 p.1 ys :: row TVo 47 3 al xs :: l) w) (fun p => (xs.length - p.2).toNat)
      ⟨Int.le_refl 0, by simp only; omega, [], by simp [Sorted], by simp, fun z => ⟨by simp, fun ⟨j, hj, _⟩ => by simp only at hj; omega⟩, H⟩ ?_
    clear H
    rintro ⟨out, i⟩ w ⟨i0, i1, ys, hys, hyn, hym, H⟩ K hK
    simp only at i0 i1 hyn hym H
    unfold F10_l2
    simp only
    rw [hal]
    by_cases hi : i < xs.length
    · rw [if_pos (by simpa using hi)]
      have hx : xs[i.toNat]? = some xs[i.toNat] := List.getElem?_eq_getElem (by omega)
      generalize xs[i.toNat] = x at hx
      have e1 : IntKind.i64.wrap (i + 1) = i + 1 := wrap_i64 (by omega) (by omega)
      have kA : See 3 (row TVo 47 3 out ys :: row TVo 47 3 al xs :: l) TVo al xs := See.row (fun _ => rfl) 1 rfl
      obtain ⟨ax, hax⟩ := kA.ix (i := i) H i0 hi
      refine lp_p (fun p w => 0 ≤ p.2 ∧ p.2 ≤ xs.length ∧ (p.1 = true ↔ ∀ (j : Nat) (z : Vote), (j : Int) < p.2 → xs[j]? = some z → z.Slot = x.Slot → z.B ≤ x.B ∧ (z.B = x.B → i.toNat ≤ j)) ∧ St W (row TVo 47 3 out ys :: row TVo 47 3 al xs :: l) w) (fun p => (xs.length - p.2).toNat)
        ⟨Int.le_refl 0, by simp only; omega, ⟨fun _ j z hj => by simp only at hj; omega, fun _ => rfl⟩, H⟩ ?_
      clear H
      rintro ⟨best, m⟩ w ⟨m0, m1, hb, H⟩ K2 hK2
      simp only at m0 m1 hb
      unfold F10_l4
      simp only
      rw [hal]
      by_cases hm : m < xs.length
      · rw [if_pos (by simpa using hm)]
        have hz : xs[m.toNat]? = some xs[m.toNat] := List.getElem?_eq_getElem (by omega)
        generalize xs[m.toNat] = z at hz
        refine dr_st H fun w H => ?_
        obtain ⟨az, haz⟩ := kA.ix (i := m) H m0 hm
        refine ex_i az haz ?_
        refine ex_i ax hax ?_
        refine ex_i z.Slot (kA.fld (U := tInt .i64) haz hz rfl H) ?_
        refine ex_i x.Slot (kA.fld (U := tInt .i64) hax hx rfl H) ?_
        refine ex_i az (fun _ => haz) ?_
        refine ex_i ax (fun _ => hax) ?_
        refine ex_i z.B (fun _ => kA.fld (U := tInt .i64) haz hz rfl H) ?_
        refine ex_i x.B (fun _ => kA.fld (U := tInt .i64) hax hx rfl H) ?_
        refine ex_i az (fun _ => haz) ?_
        refine ex_i ax (fun _ => hax) ?_
        refine ex_i z.B (fun _ => kA.fld (U := tInt .i64) haz hz rfl H) ?_
        refine ex_i x.B (fun _ => kA.fld (U := tInt .i64) hax hx rfl H) ?_
        unfold F10_j5
        have e2 : IntKind.i64.wrap (m + 1) = m + 1 := wrap_i64 (by omega) (by omega)
        rw [e2]
        by_cases bad : z.Slot = x.Slot ∧ (x.B < z.B ∨ z.B = x.B ∧ m < i)
        · rw [if_pos (by
            simp only [Bool.and_eq_true, Bool.or_eq_true, beq_iff_eq, decide_eq_true_eq]
            exact bad)]
          refine hK2 _ _ ⟨by simp only; omega, by simp only; omega, ⟨fun h => by simp at h, fun h => ?_⟩, H⟩ (by simp only; omega)
          exfalso
          have := h m.toNat z (by simp only; omega) hz bad.1
          omega
        · rw [if_neg (by
            simp only [Bool.and_eq_true, Bool.or_eq_true, beq_iff_eq, decide_eq_true_eq]
            exact bad)]
          refine hK2 _ _ ⟨by simp only; omega, by simp only; omega, ?_, H⟩ (by simp only; omega)
          simp only
          rw [hb]
          constructor
          · intro h j u hj hu hs
            by_cases c : (j : Int) < m
            · exact h j u c hu hs
            · have : j = m.toNat := by omega
              subst this
              rw [hz] at hu
              cases hu
              constructor
              · apply Classical.byContradiction
                intro h2
                exact bad ⟨hs, .inl (by omega)⟩
              · intro h2
                apply Classical.byContradiction
                intro h3
                exact bad ⟨hs, .inr ⟨h2, by omega⟩⟩
          · intro h j u hj hu hs
            exact h j u (by omega) hu hs
      · rw [if_neg (by simpa using hm)]
        have : m = xs.length := by omega
        subst this
        have hbest : best = true ↔ Best xs i.toNat x := by
          rw [hb]
          constructor
          · intro h
            exact ⟨hx, fun j z hz hs => h j z (by have := (List.getElem?_eq_some_iff.1 hz).1; omega) hz hs⟩
          · intro h j z _ hz hs
            exact h.2 j z hz hs
        unfold F10_j3
        by_cases c : best = true
        · rw [if_pos c]
          have hB := hbest.1 c
          have kO : See 3 (row TVo 47 3 out ys :: row TVo 47 3 al xs :: l) TVo out ys := See.row (fun _ => rfl) 0 rfl
          refine ex_i ax hax ?_
          refine ex_i x.Slot (kA.fld (U := tInt .i64) hax hx rfl H) ?_
          refine cl_mono (place_spec (by omega) kO H) ?_
          rintro ⟨a, t⟩ w ⟨⟨a0, a1, a2, a3⟩, H⟩
          simp only at a0 a1 a2 a3
          have hol := row_len H
          have hoc := row_cap H
          dsimp only
          refine dr_st H fun w H => ?_
          refine sub_st (by omega) (by omega) (by omega) (by omega) fun s45 h45 => ?_
          refine ex_i ax hax ?_
          refine sub_st (by omega) (by omega) (by omega) (by omega) fun s47 h47 => ?_
          have H : St W (ro TVo out ys :: row TVo 47 3 al xs :: l) w := row_stay H
          have kR : Know (ro TVo out ys :: row TVo 47 3 al xs :: l) (RoP TVo out ys) := Know.here (m := RoP.mono)
          have kA2 : See 3 (ro TVo out ys :: row TVo 47 3 al xs :: l) TVo al xs := See.row (fun _ => rfl) 1 rfl
          have k45 := kR.sub (fun _ => rfl) h45 a1
          have k47 := kR.sub (fun _ => rfl) h47 (by omega)
          have b45 : (ys.take a.toNat).drop ((0 : Int)).toNat = ys.take a.toNat := rfl
          have b47 : (ys.take ((out.len : Int)).toNat).drop a.toNat = ys.drop a.toNat := by rw [List.take_of_length_le (by omega)]
          rw [b45] at k45
          rw [b47] at k47
          refine ex_i x (kA2.rd hax hx H) ?_
          have rdx : ∀ (l2 : List Assn) (w : World), St W (l2 ++ (ro TVo out ys :: row TVo 47 3 al xs :: l)) w → RdAt TVo ax w x := fun l2 w H => (kA2.app l2).rd hax hx H
          refine ins_st (φ := fun w => RdAt TVo ax w x) (fun _ => rfl) k45 k47 rdx H (by rw [List.length_take, List.length_drop]; omega) fun r w H => ?_
          rw [e1]
          refine hK _ _ ⟨by simp only; omega, by simp only; omega, ys.take a.toNat ++ [x] ++ ys.drop a.toNat, ?_, ?_, ?_, (H.front 1).drop⟩ (by simp only; omega)
          · refine ins_sorted hys a2 fun z hz => ?_
            have h1 := drop_ge hys a3 z hz
            have hzm := (hym z).1 (List.mem_of_mem_drop hz)
            obtain ⟨j, hj, hjb⟩ := hzm
            have : z.Slot ≠ x.Slot := by
              intro e
              have := (hjb.one hB e).1
              omega
            omega
          · simp only [List.length_append, List.length_take, List.length_drop, List.length_cons, List.length_nil]
            omega
          · intro z
            simp only
            have hmz : z ∈ ys.take a.toNat ++ [x] ++ ys.drop a.toNat ↔ z ∈ ys ∨ z = x := by
              rw [List.mem_append, List.mem_append, List.mem_singleton]
              have : z ∈ ys ↔ z ∈ ys.take a.toNat ∨ z ∈ ys.drop a.toNat := by rw [← List.mem_append, List.take_append_drop]
              rw [this]
              constructor
              · rintro ((h | h) | h)
                · exact .inl (.inl h)
                · exact .inr h
                · exact .inl (.inr h)
              · rintro ((h | h) | h)
                · exact .inl (.inl h)
                · exact .inr h
                · exact .inl (.inr h)
            rw [hmz, hym]
            constructor
            · rintro (⟨j, hj, h⟩ | rfl)
              · exact ⟨j, by omega, h⟩
              · exact ⟨i.toNat, by omega, hB⟩
            · rintro ⟨j, hj, h⟩
              by_cases cj : (j : Int) < i
              · exact .inl ⟨j, cj, h⟩
              · have : j = i.toNat := by omega
                subst this
                have := h.1.symm.trans hB.1
                right
                simpa using this
        · rw [if_neg c]
          rw [e1]
          refine hK _ _ ⟨by simp only; omega, by simp only; omega, ys, hys, by simp only; omega, fun z => ?_, H⟩ (by simp only; omega)
          simp only
          rw [hym]
          constructor
          · rintro ⟨j, hj, h⟩
            exact ⟨j, by omega, h⟩
          · rintro ⟨j, hj, h⟩
            by_cases cj : (j : Int) < i
            · exact ⟨j, cj, h⟩
            · have : j = i.toNat := by omega
              subst this
              have := h.1.symm.trans hx
              cases this
              exact absurd (hbest.2 h) c
    · rw [if_neg (by simpa using hi)]
      have : i = xs.length := by omega
      subst this
      have e : ys = listV (pickE xs) := by
        refine sorted_eq hys (pickE_sorted xs) fun z => ?_
        rw [hym, best_mem]
        constructor
        · rintro ⟨j, _, h⟩
          exact ⟨j, h⟩
        · rintro ⟨j, h⟩
          exact ⟨j, by have := (List.getElem?_eq_some_iff.1 h.1).1; omega, h⟩
      rw [← e]
      exact (H.front 1).drop
theorem picks_pick_len (xs : List Vote) : (listV (pickE xs)).length ≤ xs.length := by
  rw [listV_len]
  have := picks_len (xs := xs) (es := [])
  unfold pickE
  simpa using this
theorem lists_of {W : World} : ∀ {qs : List Slc}, (∀ x ∈ qs, G23 W x) → ∃ xss : List (List Vote), qs.length = xss.length ∧ ∀ (i : Nat) (s : Slc) (xs : List Vote), qs[i]? = some s → xss[i]? = some xs → xs.length = s.len ∧ (∀ v ∈ xs, G47 W v) ∧ RoP TVo s xs fun b => W.heap[b]?
  | [], _ => ⟨[], rfl, fun i s xs h => by simp at h⟩
  | q :: qs, h => by
    obtain ⟨xss, h1, h2⟩ := lists_of (qs := qs) fun x hx => h x (by simp [hx])
    obtain ⟨_, vs, h3, h4⟩ := h q (by simp)
    refine ⟨vs :: xss, by simp [h1], fun i s xs hs hx => ?_⟩
    cases i with
    | zero =>
      simp at hs hx
      subst hs; subst hx
      exact ⟨h4.1, h3, h4⟩
    | succ i => exact h2 i s xs (by simpa using hs) (by simpa using hx)
theorem picks_walk (W : World) (s : Slc) (g0 : G22 W s) (hsz : ∀ qs, RoP tSlc s qs (fun b => W.heap[b]?) → ∀ q ∈ qs, q.len ≤ 140737488355328) : cl Try.prog 3 [tSlc.enc s] tBool W fun r w' => r = true ∧ RowKit.Below W.heap.size W w' := by
  obtain ⟨⟨hcap, hcap2⟩, qs, hI, hro⟩ := g0
  have hsl := hro.1
  have hsz := hsz qs hro
  obtain ⟨xss, hlen, hxs⟩ := lists_of hI
  have H := ro_old hro (St.start W)
  have hold : Know [ro tSlc s qs, old W] (fun I => PMap.le (fun b => W.heap[b]?) I) := Know.tail (Know.here (m := fun h k => PMap.le_trans k h))
  generalize hb : ([ro tSlc s qs, old W] : List Assn) = base at *
  have kS : See 1 base tSlc s qs := by rw [← hb]; exact See.ro (fun _ => rfl) (Know.here (m := RoP.mono))
  have bel : ∀ w, St W base w → RowKit.Below W.heap.size W w := by
    intro w H
    rw [← hb] at H
    exact H.drop.below
  clear hb
  have kk : ∀ (i : Nat) (q : Slc) (xs : List Vote), qs[i]? = some q → xss[i]? = some xs → See 3 base TVo q xs := fun i q xs hq hx => See.ro (fun _ => rfl) (Know.old hold (hxs i q xs hq hx).2.2)
  refine F3_ok ?_
  unfold F3
  refine lp_p (fun p w => 0 ≤ p.2 ∧ p.2 ≤ qs.length ∧ (p.2 ≤ 100 → p.1 = ((xss.take p.2.toNat).flatten.length : Nat) ∧ ((xss.take p.2.toNat).flatten.length : Int) ≤ p.2 * 140737488355328) ∧ St W base w) (fun p => (qs.length - p.2).toNat)
    ⟨Int.le_refl 0, by simp only; omega, fun _ => by simp, H⟩ ?_
  clear H
  rintro ⟨al, i⟩ w ⟨i0, i1, hal, H⟩ K hK
  simp only at i0 i1 hal
  have hsl2 : (s.len : Int) = qs.length := by omega
  unfold F3_l1
  simp only
  rw [hsl2]
  by_cases hi : i < qs.length
  · rw [if_pos (by simpa using hi)]
    have hx : xss[i.toNat]? = some xss[i.toNat] := List.getElem?_eq_getElem (by omega)
    have hs : qs[i.toNat]? = some qs[i.toNat] := List.getElem?_eq_getElem (by omega)
    have ht : xss.take (i.toNat + 1) = xss.take i.toNat ++ [xss[i.toNat]] := by rw [List.take_succ_eq_append_getElem (by omega)]
    have hql := hsz _ (List.getElem_mem (l := qs) (n := i.toNat) (by omega))
    generalize xss[i.toNat] = xs at hx ht
    generalize qs[i.toNat] = q at hs hql
    have hxl := (hxs _ _ _ hs hx).1
    obtain ⟨a, ha⟩ := kS.ix (i := i) H i0 hi
    refine ex_i a ha ?_
    refine ex_i q (kS.rd ha hs H) ?_
    have e1 : IntKind.i64.wrap (i + 1) = i + 1 := wrap_i64 (by omega) (by omega)
    have e2 : (i + 1).toNat = i.toNat + 1 := by omega
    rw [e1]
    refine hK _ _ ⟨by simp only; omega, by simp only; omega, ?_, H⟩ (by simp only; omega)
    simp only
    intro h100
    obtain ⟨h1, h2⟩ := hal (by omega)
    rw [e2, ht, List.flatten_append]
    simp only [List.flatten_cons, List.flatten_nil, List.append_nil, List.length_append]
    have e3 : IntKind.i64.wrap (al + (q.len : Int)) = al + (q.len : Int) := wrap_i64 (by omega) (by omega)
    rw [e3]
    omega
  · rw [if_neg (by simpa using hi)]
    have : i = qs.length := by omega
    subst this
    have e3 : xss.take ((qs.length : Int)).toNat = xss := by rw [hlen]; simp
    rw [e3] at hal
    by_cases c : (decide (al > 200) || decide ((qs.length : Int) > 100)) = true
    · rw [if_pos c]
      refine cl_mono (awake_spec H) ?_
      rintro r w ⟨rfl, H⟩
      exact ⟨by trivial, bel w H⟩
    · rw [if_neg c]
      have c : al ≤ 200 ∧ (qs.length : Int) ≤ 100 := by
        simp only [Bool.or_eq_true, decide_eq_true_eq, not_or] at c
        omega
      have hal := (hal c.2).1
      have hfl : xss.flatten.length ≤ 200 := by omega
      have hin : ∀ x ∈ xss.flatten, InI x.Slot := by
        intro x hx
        obtain ⟨xs, h1, h2⟩ := List.mem_flatten.1 hx
        obtain ⟨j, hj, rfl⟩ := List.getElem_of_mem h1
        have := ((hxs j _ _ (List.getElem?_eq_getElem (by omega)) (List.getElem?_eq_getElem hj)).2.1 x h2).1
        have m1 : IntKind.i64.min = -9223372036854775808 := rfl
        have m2 : IntKind.i64.max = 9223372036854775807 := rfl
        unfold G3 at this
        rw [m1, m2] at this
        exact this
      refine cl_mono (pick_spec hlen kS kk hin (by omega) (by omega) H) ?_
      intro r11 w H
      have hpl := picks_pick_len xss.flatten
      have hps := pickE_sorted xss.flatten
      have hpin : ∀ x ∈ listV (pickE xss.flatten), InI x.Slot := fun x hx => hin x (pickE_some (pickE_mem.1 hx)).2.1
      refine cl_mono (awake_spec H) ?_
      rintro r w ⟨rfl, H⟩
      rw [if_pos rfl]
      refine cl_mono (refpick_spec hlen (kS.app [row TVo 47 3 r11 (listV (pickE xss.flatten))]) (fun i q xs h1 h2 => (kk i q xs h1 h2).app [row TVo 47 3 r11 (listV (pickE xss.flatten))]) (by omega) (by omega) H) ?_
      intro r36 w H
      generalize listV (pickE xss.flatten) = p at *
      refine cl_mono (same_spec (by omega) (See.row (fun _ => rfl) 1 rfl) (See.row (fun _ => rfl) 0 rfl) H) ?_
      rintro r w ⟨hr, H⟩
      have hr := hr.2 rfl
      subst hr
      unfold F3_j2
      rw [if_pos rfl]
      have H := H.drop
      refine nwS_st H fun b28 w H => ?_
      have H := row_new (sz := 1) (m := 1) rfl H
      have f1 : ([p] : List (List Vote)).flatten = p := by simp
      refine cl_mono (pick_spec (qs := [r11]) (xss := [p]) rfl (See.row (fun _ => rfl) 0 rfl) ?_ (by rw [f1]; exact hpin) (by rw [f1]; omega) (by simp) H) ?_
      · intro j q xs h1 h2
        match j with
        | 0 =>
          simp at h1 h2
          subst h1; subst h2
          exact See.row (fun _ => rfl) 1 rfl
        | j + 1 => simp at h1
      intro r31 w H
      rw [f1, pick_again hps fun z => Iff.rfl] at H
      refine cl_mono (same_spec (by omega) (See.row (fun _ => rfl) 0 rfl) (See.row (fun _ => rfl) 2 rfl) H) ?_
      rintro r w ⟨hr, H⟩
      have hr := hr.2 rfl
      subst hr
      unfold F3_j3
      rw [if_pos rfl]
      have H := H.drop.drop
      refine nwS_st H fun b21 w H => ?_
      have H := row_new (sz := 1) (m := 2) rfl H
      have f2 : ([p, p] : List (List Vote)).flatten = p ++ p := by simp
      refine cl_mono (pick_spec (qs := [r11, r11]) (xss := [p, p]) rfl (See.row (fun _ => rfl) 0 rfl) ?_ (by rw [f2]; intro x hx; rcases List.mem_append.1 hx with hx | hx <;> exact hpin x hx) (by rw [f2, List.length_append]; omega) (by simp) H) ?_
      · intro j q xs h1 h2
        match j with
        | 0 =>
          simp at h1 h2
          subst h1; subst h2
          exact See.row (fun _ => rfl) 1 rfl
        | 1 =>
          simp at h1 h2
          subst h1; subst h2
          exact See.row (fun _ => rfl) 1 rfl
        | j + 2 => simp at h1
      intro r24 w H
      rw [f2, pick_again hps fun z => by rw [List.mem_append, or_self]] at H
      refine cl_mono (same_spec (by omega) (See.row (fun _ => rfl) 0 rfl) (See.row (fun _ => rfl) 2 rfl) H) ?_
      rintro r w ⟨hr, H⟩
      have hr := hr.2 rfl
      subst hr
      unfold F3_j4
      exact ⟨by trivial, bel w H.drop.drop.drop⟩
end
end Go.Proofs.Ytjkmeooncmhonaa.Ballot
