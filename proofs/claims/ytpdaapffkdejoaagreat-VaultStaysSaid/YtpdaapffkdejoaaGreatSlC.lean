/- Owned maps with whole numbers for keys; clear; calls of function values. -/
import Derived.Test.YtpdaapffkdejoaaGreatSlB
namespace Go.Proofs.YtpdaapffkdejoaaGreat.Cf
set_option linter.unusedSimpArgs false
set_option linter.unusedVariables false
open Go
section
variable {W w w' : World} {l l' : List Assn} {A B : Assn} {α : Type} {T : Ty α} {t : TypeId} {k : IntKind}

theorem lookup_ups (key : Int) (v : α) (x : Int) : ∀ es : List (Int × α), (ups key v es).lookup x = if x == key then some v else es.lookup x
  | [] => by
    by_cases h : (x == key) = true
    · simp [ups, List.lookup, h]
    · simp only [Bool.not_eq_true] at h; simp [ups, List.lookup, h]
  | (a, b) :: es => by
    have ih := lookup_ups key v x es
    simp only [ups]
    by_cases h : (key == a) = true
    · have e : key = a := by simpa using h
      subst e
      by_cases g : (x == key) = true
      · simp [List.lookup, g]
      · simp only [Bool.not_eq_true] at g; simp [List.lookup, g]
    · simp only [Bool.not_eq_true] at h
      simp only [h, Bool.false_eq_true, if_false, List.lookup, ih]
      by_cases g : (x == a) = true
      · have e : x = a := by simpa using g
        subst e
        have : (x == key) = false := by simpa using fun e => by simp [e] at h
        simp [this]
      · simp only [Bool.not_eq_true] at g; simp [g]
theorem keys_ups (key : Int) (v : α) : ∀ es : List (Int × α), (ups key v es).map (·.1) = if (es.lookup key).isSome then es.map (·.1) else es.map (·.1) ++ [key]
  | [] => rfl
  | (a, b) :: es => by
    have ih := keys_ups key v es
    simp only [ups]
    by_cases h : (key == a) = true
    · have e : key = a := by simpa using h
      subst e; simp [List.lookup]
    · simp only [Bool.not_eq_true] at h
      simp only [h, Bool.false_eq_true, if_false, List.lookup, List.map_cons, ih]
      split <;> simp
theorem lookup_none {key : Int} : ∀ {es : List (Int × α)}, es.lookup key = none ↔ key ∉ es.map (·.1)
  | [] => by simp
  | (a, b) :: es => by
    by_cases h : (key == a) = true
    · have e : key = a := by simpa using h
      subst e; simp [List.lookup]
    · simp only [Bool.not_eq_true] at h
      have e : key ≠ a := by simpa using h
      simp only [List.lookup, h, List.map_cons, List.mem_cons, e, false_or]
      exact lookup_none
theorem nodup_ups {key : Int} {v : α} {es : List (Int × α)} (h : (es.map (·.1)).Nodup) : ((ups key v es).map (·.1)).Nodup := by
  rw [keys_ups]
  split
  · exact h
  · rename_i hn
    have : es.lookup key = none := by cases e : es.lookup key with | none => rfl | some u => rw [e] at hn; simp at hn
    rw [List.nodup_append]
    refine ⟨h, by simp, ?_⟩
    intro a ha b hb e
    simp at hb; subst hb; subst e
    exact lookup_none.1 this ha
theorem keys_del {key : Int} : ∀ {es : List (Int × α)}, ((del key es).map (·.1)).Sublist (es.map (·.1))
  | [] => .slnil
  | (a, b) :: es => by
    simp only [del]
    split
    · exact (List.sublist_cons_self _ _)
    · exact (keys_del (es := es)).cons_cons a
theorem nodup_del {key : Int} {es : List (Int × α)} (h : (es.map (·.1)).Nodup) : ((del key es).map (·.1)).Nodup := h.sublist keys_del
theorem lookup_del (key x : Int) : ∀ es : List (Int × α), (es.map (·.1)).Nodup → (del key es).lookup x = if x == key then none else es.lookup x
  | [], _ => by simp [del]
  | (a, b) :: es, h => by
    have hn : a ∉ es.map (·.1) := (List.nodup_cons.1 h).1
    have ih := lookup_del key x es (List.nodup_cons.1 h).2
    simp only [del]
    by_cases g : (key == a) = true
    · have e : key = a := by simpa using g
      subst e
      simp only [g, if_true, List.lookup]
      by_cases q : (x == key) = true
      · have e : x = key := by simpa using q
        subst e; simp [lookup_none.2 hn]
      · simp only [Bool.not_eq_true] at q; simp [q]
    · simp only [Bool.not_eq_true] at g
      simp only [g, Bool.false_eq_true, if_false, List.lookup, ih]
      by_cases q : (x == a) = true
      · have e : x = a := by simpa using q
        subst e
        have : (x == key) = false := by simpa using fun e => by simp [e] at g
        simp [this]
      · simp only [Bool.not_eq_true] at q; simp [q]

/-- An owned map of these entries. -/
def mapE (T : Ty α) (k : IntKind) (r : Nat) (es : List (Int × α)) : Assn := exA fun arr => exA fun c => sepA [puA (Reps T k arr es ∧ Born arr c ∧ (es.map (·.1)).Nodup), blk r (.map arr c)]
theorem mapE_open {r : Nat} {es : List (Int × α)} (H : St W (mapE T k r es :: l) w) : ∃ arr c, Reps T k arr es ∧ Born arr c ∧ (es.map (·.1)).Nodup ∧ St W (blk r (.map arr c) :: l) w := by
  obtain ⟨arr, H⟩ := H.ex
  obtain ⟨c, H⟩ := H.ex
  have H := H.open_
  obtain ⟨⟨h1, hb, h2⟩, H⟩ := St.pu (φ := Reps T k arr es ∧ Born arr c ∧ (es.map (·.1)).Nodup) H
  exact ⟨arr, c, h1, hb, h2, H⟩
theorem mapE_shut {r : Nat} {es : List (Int × α)} {arr : Array MapEntry} {c : Nat} (h1 : Reps T k arr es) (hb : Born arr c) (h2 : (es.map (·.1)).Nodup) (H : St W (blk r (.map arr c) :: l) w) : St W (mapE T k r es :: l) w :=
  St.toEx arr (St.toEx c (St.shut (l' := [puA _, blk r (.map arr c)]) (St.toPu ⟨h1, hb, h2⟩ H)))
theorem mapE_nodup {r : Nat} {es : List (Int × α)} (H : St W (mapE T k r es :: l) w) : (es.map (·.1)).Nodup := by
  obtain ⟨_, _, _, _, h, _⟩ := mapE_open H; exact h
theorem mapE_new {r : Nat} (T : Ty α) (k : IntKind) (H : St W (blk r (.map #[] 0) :: l) w) : St W (mapE T k r [] :: l) w := mapE_shut (by simp [Reps]) ⟨by simp, by simp⟩ (by simp) H
theorem mget_st {r : Nat} {es : List (Int × α)} {key : Int} {K : Option α → Prop} {m : Option Nat} (i : Nat) (H : St W l w) (hi : front i l = mapE T k r es :: l') (hm : m = some r) (hk : K (es.lookup key)) : ex (MapGet T k m key w) K := by
  obtain ⟨arr, c, h1, hbo, h2, H⟩ := mapE_open (hi ▸ H.front i)
  subst hm
  exact ⟨_, ⟨es, ⟨arr, c, H.get, h1, hbo⟩, rfl⟩, hk⟩
theorem mlen_st {r : Nat} {es : List (Int × α)} {K : Nat → Prop} {m : Option Nat} (i : Nat) (H : St W l w) (hi : front i l = mapE T k r es :: l') (hm : m = some r) (hk : K es.length) : ex (MapLen m w) K := by
  obtain ⟨arr, c, h1, hbo, h2, H⟩ := mapE_open (hi ▸ H.front i)
  subst hm
  have hl : es.length = arr.size := by have := congrArg List.length h1; simpa using this.symm
  exact ⟨_, ⟨arr, c, H.get, hl⟩, hk⟩
theorem setMap_put {r : Nat} {o : Obj} {arr : Array MapEntry} {c : Nat} (H : St W (blk r o :: l) w) : St W (blk r (.map arr c) :: l) (setMap w r arr c) := H.put rfl rfl rfl rfl
theorem mput_st {r : Nat} {es : List (Int × α)} {key : Int} {v : α} {K : World → Prop} {m : Option Nat} (i : Nat) (H : St W l w) (hi : front i l = mapE T k r es :: l') (hm : m = some r)
    (hk : ∀ w', St W (mapE T k r (ups key v es) :: l') w' → K w') : mput T k m key v w K := by
  obtain ⟨arr, c, h1, hbo, h2, H⟩ := mapE_open (hi ▸ H.front i)
  exact ⟨r, es, hm, ⟨arr, c, H.get, h1, hbo⟩, fun arr' c' h' hb' => hk _ (mapE_shut h' hb' (nodup_ups h2) (setMap_put H))⟩
theorem mdel_st {r : Nat} {es : List (Int × α)} {key : Int} {K : World → Prop} {m : Option Nat} (i : Nat) (H : St W l w) (hi : front i l = mapE T k r es :: l') (hm : m = some r)
    (hk : ∀ w', St W (mapE T k r (del key es) :: l') w' → K w') : mdel T k m key w K := by
  obtain ⟨arr, c, h1, hbo, h2, H⟩ := mapE_open (hi ▸ H.front i)
  subst hm
  exact ⟨es, ⟨arr, c, H.get, h1, hbo⟩, fun arr' c' h' hb' => hk _ (mapE_shut h' hb' (nodup_del h2) (setMap_put H))⟩

theorem wrap_i64 {x : Int} (h0 : -9223372036854775808 ≤ x) (h1 : x ≤ 9223372036854775807) : IntKind.i64.wrap x = x := by
  rw [IntKind.wrap_i64]; omega
/-! ### slices of slices -/
theorem sub_at {s r : Slc} {sz : Nat} {i h m : Int} (H : Sub s sz i h m r) : r.len = (h - i).toNat ∧ r.cap = (m - i).toNat ∧ (∀ b o, s.a = some ⟨b, o, none⟩ → m ≠ i → r.a = some ⟨b, o + i.toNat * sz, none⟩) := by
  obtain ⟨h0, h1, h2, h3, rfl⟩ := H
  refine ⟨by simp; omega, by simp; omega, fun b o hb hm => ?_⟩
  have : m.toNat ≠ i.toNat := by omega
  simp only [this, if_false, hb, Option.map_some, add_at]
theorem sub_st {s : Slc} {sz : Nat} {i h m : Int} {K : Slc → Prop} (h0 : 0 ≤ i) (h1 : i ≤ h) (h2 : h ≤ m) (h3 : m ≤ s.cap) (hk : ∀ r, Sub s sz i h m r → K r) : ex (Sub s sz i h m) K := ⟨_, ⟨h0, h1, h2, h3, rfl⟩, hk _ ⟨h0, h1, h2, h3, rfl⟩⟩
/-- The beginning of an owned slice is owned, with the rest for its spare room. -/
theorem row_cut {sz : Nat} {s r : Slc} {xs : List α} {h : Int} (hl : ∀ x, (T.cells x).length = sz) (hs : Sub s sz 0 h s.cap r) (hh : h ≤ xs.length) (H : St W (row T t sz s xs :: l) w) : r = ⟨s.a, h.toNat, s.cap⟩ ∧ St W (row T t sz r (xs.take h.toNat) :: l) w := by
  obtain ⟨h0, h1, h2, h3, rfl⟩ := hs
  have e : (⟨if (s.cap : Int).toNat = (0 : Int).toNat then s.a else s.a.map (·.add ((0 : Int).toNat * sz)), h.toNat - (0 : Int).toNat, (s.cap : Int).toNat - (0 : Int).toNat⟩ : Slc) = ⟨s.a, h.toNat, s.cap⟩ := by
    have : (fun x : Addr => x.add 0) = id := by funext x; simp [Addr.add]
    simp [this]
  refine ⟨e, ?_⟩
  rw [e]
  rcases row_open H with ⟨rfl, rfl, H0⟩ | ⟨b, rest, g1, g2, g3, g4, H⟩
  · have : h.toNat = 0 := by simp at hh; omega
    rw [this]; exact row_nil T t sz H0
  · refine row_shut (rest := (xs.drop h.toNat).flatMap T.cells ++ rest) g1 (by simp; omega) (by simp only; omega) ?_ ?_
    · rw [List.length_append, flat_len hl, List.length_drop]
      have e : (s.cap - h.toNat) * sz = (xs.length - h.toNat) * sz + (s.cap - s.len) * sz := by rw [← Nat.add_mul]; congr 1; omega
      simp only
      rw [e]; omega
    · rw [← List.append_assoc, ← List.flatMap_append, List.take_append_drop]; exact H
/-- What lies in a part of an owned slice. -/
theorem rdS_sub {sz : Nat} {s r : Slc} {xs : List α} {i : Int} (hl : ∀ x, (T.cells x).length = sz) (hs : Sub s sz i s.len s.cap r) (H : St W (row T t sz s xs :: l) w) : RdS T w r (xs.drop i.toNat) := by
  obtain ⟨g1, g2, g3⟩ := sub_at hs
  obtain ⟨h0, h1, h2, h3, hr⟩ := hs
  have hn := row_len H
  refine ⟨by rw [g1, List.length_drop]; omega, ?_⟩
  rcases row_open H with ⟨rfl, rfl, H⟩ | ⟨b, rest, k1, k2, k3, k4, H⟩
  · have ha : r.a = none := by
      rw [hr]
      show (if (nilS.cap : Int).toNat = i.toNat then nilS.a else nilS.a.map (·.add (i.toNat * sz))) = none
      split <;> rfl
    rw [ha]; simp [RdO]
  · by_cases e : (s.cap : Int) = i
    · have : xs.drop i.toNat = [] := List.drop_eq_nil_of_le (by omega)
      rw [this]
      cases hra : r.a with
      | none => rfl
      | some a => intro j v hv; simp at hv
    · rw [g3 b 0 k1 e]
      intro j v hv
      have hb := H.get
      rw [add_at, cell_of_blk hb, Nat.zero_add]
      simp only [List.getElem?_toArray]
      have hd : (xs.drop i.toNat).flatMap T.cells = (xs.flatMap T.cells).drop (i.toNat * sz) := by
        have : xs.flatMap T.cells = (xs.take i.toNat).flatMap T.cells ++ (xs.drop i.toNat).flatMap T.cells := by rw [← List.flatMap_append, List.take_append_drop]
        have hl2 : ((xs.take i.toNat).flatMap T.cells).length = i.toNat * sz := by rw [flat_len hl, List.length_take]; congr 1; omega
        rw [this, ← hl2, List.drop_left]
      rw [hd, List.getElem?_drop] at hv
      have hlt := (List.getElem?_eq_some_iff.1 hv).1
      rw [List.getElem?_append_left hlt]; exact hv
/-- append in its place. -/
theorem apd_in {sz by_ : Nat} {s b : Slc} {xs new : List α} {K : Slc → World → Prop} (hl : ∀ x, (T.cells x).length = sz) (H : St W (row T t sz s xs :: l) w) (hn : RdS T w b new) (hc : s.len + new.length ≤ s.cap)
    (hk : ∀ w', St W (row T t sz ⟨s.a, s.len + new.length, s.cap⟩ (xs ++ new) :: l) w' → K ⟨s.a, s.len + new.length, s.cap⟩ w') : apd t T sz by_ s b w K := by
  refine ⟨new, hn, fun _ => ?_, fun hg => absurd hc (by omega)⟩
  rcases row_open H with ⟨rfl, rfl, H0⟩ | ⟨b', rest, h2, h3, h4, h5, H⟩
  · have h0 : new = [] := by
      cases new with
      | nil => rfl
      | cons => simp [nilS] at hc
    subst h0
    exact hk _ (row_nil T t sz H0)
  · rw [h2]
    rw [h2] at hk
    simp only [add_at, Nat.zero_add]
    have hfl : (xs.flatMap T.cells).length = s.len * sz := by rw [flat_len hl, h3]
    have hnl : (new.flatMap T.cells).length = new.length * sz := flat_len hl _
    have hrl : new.length * sz ≤ rest.length := Nat.le_trans (Nat.mul_le_mul_right sz (by omega)) h5
    refine ⟨wr_cel H (by simp [hfl]; omega), hk _ ?_⟩
    have := putc_cel (new.flatMap T.cells) (s.len * sz) 0 _ _ H (by simp [hfl, hnl]; omega)
    refine row_shut (rest := rest.drop (new.length * sz)) rfl (by simp; omega) (by simpa using hc) (by
      rw [List.length_drop]
      have e : (s.cap - (s.len + new.length)) * sz = (s.cap - s.len) * sz - new.length * sz := by rw [← Nat.sub_mul]; congr 1; omega
      simp only
      rw [e]; omega) ?_
    have e : splice (xs.flatMap T.cells ++ rest) (s.len * sz + 0) (new.flatMap T.cells) = (xs ++ new).flatMap T.cells ++ rest.drop (new.length * sz) := by
      simp only [splice, Nat.add_zero, hnl]
      rw [← hfl, List.take_left, List.drop_append]
      simp
    rw [e] at this
    exact this
/-- clear of the spare room. -/
theorem clr_spare {sz : Nat} {s r : Slc} {xs : List α} {z : α} {m : Int} {K : World → Prop} (hl : ∀ x, (T.cells x).length = sz) (hs : Sub s sz s.len m s.cap r) (H : St W (row T t sz s xs :: l) w) (hk : ∀ w', St W (row T t sz s xs :: l) w' → K w') : clrS T sz z r w K := by
  obtain ⟨g1, g2, g3⟩ := sub_at hs
  obtain ⟨h0, h1, h2, h3, hr⟩ := hs
  rcases row_open H with ⟨rfl, rfl, H0⟩ | ⟨b, rest, k1, k2, k3, k4, H1⟩
  · simp only [nilS] at hr; subst hr; simpa [clrS] using hk w H
  · by_cases e : (s.cap : Int) = s.len
    · have h0 : r.len = 0 := by rw [g1]; omega
      unfold clrS
      split
      · exact hk w H
      · rw [h0]
        refine ⟨fun j hj => absurd hj (by omega), ?_⟩
        simpa [putc] using hk w H
    · have ha := g3 b 0 k1 e
      unfold clrS
      rw [ha]
      have hfl : (xs.flatMap T.cells).length = s.len * sz := by rw [flat_len hl, k2]
      have hzl : ((List.replicate r.len z).flatMap T.cells).length = r.len * sz := by rw [flat_len hl]; simp
      have hle : r.len * sz ≤ rest.length := Nat.le_trans (Nat.mul_le_mul_right sz (by rw [g1]; omega)) k4
      have e0 : ((s.len : Int).toNat) = s.len := by simp
      rw [e0]
      refine ⟨wr_cel H1 (by simp only [List.length_append, hfl]; omega), hk _ ?_⟩
      have := putc_cel ((List.replicate r.len z).flatMap T.cells) (0 + s.len * sz) 0 _ _ H1 (by simp only [List.length_append, hfl, hzl]; omega)
      refine row_shut (rest := splice rest 0 ((List.replicate r.len z).flatMap T.cells)) k1 k2 k3 (by rw [splice_len _ _ _ (by rw [hzl]; omega)]; exact k4) ?_
      have ee : splice (xs.flatMap T.cells ++ rest) (0 + s.len * sz + 0) ((List.replicate r.len z).flatMap T.cells) = xs.flatMap T.cells ++ splice rest 0 ((List.replicate r.len z).flatMap T.cells) := by
        simp only [splice, Nat.add_zero, Nat.zero_add, List.take_zero, List.nil_append, hzl]
        rw [← hfl, List.take_left, List.drop_append]
        simp
      rw [ee] at this
      exact this
/-- A value stored at an index of an owned slice. -/
theorem st_row {sz : Nat} {s : Slc} {xs : List α} {i : Int} {a : Addr} {y : α} {K : World → Prop} (hl : ∀ x, (T.cells x).length = sz) (ha : IxA s sz i a) (H : St W (row T t sz s xs :: l) w) (hk : ∀ w', St W (row T t sz s (xs.set i.toNat y) :: l) w' → K w') : st T a y w K := by
  obtain ⟨c, hc, h0, h1, rfl⟩ := ha
  rcases row_open H with ⟨rfl, rfl, H⟩ | ⟨b, rest, h2, h3, h4, h5, H⟩
  · cases hc
  · rw [h2] at hc; injection hc with hc; subst hc
    have hfl : (xs.flatMap T.cells).length = xs.length * sz := flat_len hl _
    have hi : i.toNat < xs.length := by omega
    have hm : i.toNat * sz + sz ≤ xs.length * sz := by rw [← Nat.succ_mul]; exact Nat.mul_le_mul_right sz hi
    rw [add_at]
    refine ⟨wr_cel H (by simp only [List.length_append, hl, hfl]; omega), hk _ ?_⟩
    have := putc_cel (T.cells y) (0 + i.toNat * sz) 0 _ _ H (by simp only [List.length_append, hl, hfl]; omega)
    refine row_shut h2 (by simpa using h3) h4 h5 ?_
    have e : splice (xs.flatMap T.cells ++ rest) (0 + i.toNat * sz + 0) (T.cells y) = (xs.set i.toNat y).flatMap T.cells ++ rest := by
      simp only [splice, Nat.zero_add, Nat.add_zero, hl]
      have hx : xs.set i.toNat y = xs.take i.toNat ++ y :: xs.drop (i.toNat + 1) := by rw [List.set_eq_take_append_cons_drop, if_pos hi]
      have hxs : xs.flatMap T.cells = (xs.take i.toNat).flatMap T.cells ++ (xs.drop i.toNat).flatMap T.cells := by rw [← List.flatMap_append, List.take_append_drop]
      have hd : xs.drop i.toNat = xs[i.toNat] :: xs.drop (i.toNat + 1) := List.drop_eq_getElem_cons hi
      have htl : ((xs.take i.toNat).flatMap T.cells).length = i.toNat * sz := by rw [flat_len hl, List.length_take]; congr 1; omega
      rw [hx, hxs, hd]
      simp only [List.flatMap_append, List.flatMap_cons]
      rw [List.append_assoc, List.append_assoc, ← htl, List.take_left]
      rw [List.drop_append]
      have hz : sz = (T.cells xs[i.toNat]).length := (hl _).symm
      simp only [Nat.add_sub_cancel_left]
      rw [List.drop_eq_nil_of_le (by omega), hz, List.append_assoc (T.cells xs[i.toNat]), List.drop_left]
      simp
    rw [e] at this
    exact this
end
end Go.Proofs.YtpdaapffkdejoaaGreat.Cf
