/- Ranges over owned maps; loops without a variable; rows of assertions. -/
import Derived.Test.YtpdaapffkdejoaaGreatSlH
import Derived.Test.YtpdaapffkdejoaaGreatCfN
namespace Go.Proofs.YtpdaapffkdejoaaGreat.Cf
set_option linter.unusedSimpArgs false
set_option linter.unusedVariables false
open Go Go.RowKit Go.ChangeMaps
section
variable {W w w' : World} {l l' : List Assn} {A B : Assn} {α β : Type} {T : Ty α} {U : Ty β} {t : TypeId} {φ ψ : PMap → Prop} {k : IntKind}
theorem leastN {p : Nat → Prop} : ∀ n, p n → ∃ m, m ≤ n ∧ p m ∧ ∀ j, p j → m ≤ j := by
  intro n
  induction n using Nat.strongRecOn with
  | _ n ih =>
    intro h
    by_cases c : ∃ j, j < n ∧ p j
    · obtain ⟨j, h1, h2⟩ := c
      obtain ⟨m, h3, h4, h5⟩ := ih j h1 h2
      exact ⟨m, by omega, h4, h5⟩
    · exact ⟨n, Nat.le_refl n, h, fun j hj => Nat.le_of_not_lt fun hlt => c ⟨j, hlt, hj⟩⟩
/-- A loop that counts down a number that its variables don't hold. -/
theorem lp_n {σ : Type} {body : σ → World → (σ → World → Prop) → Prop} {s : σ} {w : World} (I : Nat → σ → World → Prop) (n : Nat) (h0 : I n s w)
    (h : ∀ n s w, I n s w → ∀ K, (∀ m s' w', m < n → I m s' w' → K s' w') → body s w K) : lp body s w := by
  classical
  have pick : ∀ s w, ∃ m, (∃ n, I n s w) → I m s w ∧ ∀ j, I j s w → m ≤ j := by
    intro s w
    by_cases c : ∃ n, I n s w
    · obtain ⟨n, hn⟩ := c
      obtain ⟨m, _, h1, h2⟩ := leastN (p := fun n => I n s w) n hn
      exact ⟨m, fun _ => ⟨h1, h2⟩⟩
    · exact ⟨0, fun hc => absurd hc c⟩
  refine ⟨fun s w => ∃ n, I n s w, fun s w => (pick s w).choose, ⟨n, h0⟩, fun s w hI => ?_⟩
  obtain ⟨h1, h2⟩ := (pick s w).choose_spec hI
  refine h _ s w h1 _ fun m s' w' hm hI' => ⟨⟨m, hI'⟩, ?_⟩
  exact Nat.lt_of_le_of_lt (((pick s' w').choose_spec ⟨m, hI'⟩).2 m hI') hm
theorem mclr_st {r : Nat} {es : List (Int × α)} {K : World → Prop} {m : Option Nat} (i : Nat) (H : St W l w) (hi : front i l = mapE T k r es :: l') (hm : m = some r)
    (hk : ∀ w', St W (mapE T k r [] :: l') w' → K w') : mclr m w K := by
  obtain ⟨arr, c, h1, hbo, h2, H⟩ := mapE_open (hi ▸ H.front i)
  subst hm
  exact ⟨arr, c, H.get, hk _ (mapE_shut (by simp [Reps]) ⟨by simp, by simp⟩ (by simp) (setMap_put H))⟩
/-- A map under way: what is left, and the round's entry. -/
structure Way {α : Type} (T : Ty α) (k : IntKind) (arr : Array MapEntry) (c : Nat) (es : List (Int × α)) (left : List (Int × α)) (cur : Option (Int × α)) (since : Nat) (seen : Array Nat) (c0 : Nat) : Prop where
  reps : Reps T k arr es
  born : Born arr c
  dup : (es.map (·.1)).Nodup
  hsince : ∀ x ∈ arr.toList, x.born < since
  le : since ≤ c0
  le2 : since ≤ c
  hleft : (leftOf arr seen).toList.map (fun e => (e.key, e.val)) = left.map fun p => (.int k p.1, T.enc p.2)
  ldup : (left.map (·.1)).Nodup
  sub : ∀ p ∈ left, p ∈ es
  hcur : ∀ p, cur = some p → c0 = c ∧ ∃ e ∈ arr.toList, ∃ s, seen = Array.push s (MapEntry.born e) ∧ e.key = .int k p.1 ∧ e.val = T.enc p.2
def ranging (T : Ty α) (k : IntKind) (r it : Nat) (es left : List (Int × α)) (cur : Option (Int × α)) : Assn :=
  exA fun arr => exA fun c => exA fun since => exA fun seen => exA fun c0 => sepA [puA (Way T k arr c es left cur since seen c0), blk r (.map arr c), blk it (.mapIter (some r) since seen c0)]
theorem ranging_open {r it : Nat} {es left : List (Int × α)} {cur : Option (Int × α)} (H : St W (ranging T k r it es left cur :: l) w) : ∃ arr c since seen c0, Way T k arr c es left cur since seen c0 ∧ St W (blk r (.map arr c) :: blk it (.mapIter (some r) since seen c0) :: l) w := by
  obtain ⟨arr, H⟩ := H.ex
  obtain ⟨c, H⟩ := H.ex
  obtain ⟨since, H⟩ := H.ex
  obtain ⟨seen, H⟩ := H.ex
  obtain ⟨c0, H⟩ := H.ex
  have H := H.open_
  obtain ⟨h, H⟩ := St.pu (φ := Way T k arr c es left cur since seen c0) H
  exact ⟨arr, c, since, seen, c0, h, H⟩
theorem ranging_shut {r it : Nat} {es left : List (Int × α)} {cur : Option (Int × α)} {arr : Array MapEntry} {c since c0 : Nat} {seen : Array Nat} (h : Way T k arr c es left cur since seen c0) (H : St W (blk r (.map arr c) :: blk it (.mapIter (some r) since seen c0) :: l) w) : St W (ranging T k r it es left cur :: l) w :=
  St.toEx arr (St.toEx c (St.toEx since (St.toEx seen (St.toEx c0 (St.shut (l' := [puA _, blk r (.map arr c), blk it (.mapIter (some r) since seen c0)]) (St.toPu h H))))))
theorem ranging_done {r it : Nat} {es left : List (Int × α)} {cur : Option (Int × α)} (H : St W (ranging T k r it es left cur :: l) w) : St W (mapE T k r es :: l) w := by
  obtain ⟨arr, c, since, seen, c0, h, H⟩ := ranging_open H
  exact mapE_shut h.reps h.born h.dup ((H.front 1).drop)
theorem leftOf_nil (arr : Array MapEntry) : leftOf arr #[] = arr := by
  unfold leftOf
  exact Array.filter_eq_self.2 fun x hx => by simp
theorem rng_st {r : Nat} {es : List (Int × α)} {K : Addr → World → Prop} {m : Option Nat} (i : Nat) (H : St W l w) (hi : front i l = mapE T k r es :: l') (hm : m = some r)
    (hk : ∀ it w', St W (ranging T k r it es es none :: l') w' → K ⟨it, 0, none⟩ w') : rng m w K := by
  obtain ⟨arr, c, h1, hbo, h2, H⟩ := mapE_open (hi ▸ H.front i)
  subst hm
  refine ⟨arr, c, H.get, hk _ _ (ranging_shut ⟨h1, hbo, h2, hbo.1, Nat.le_refl c, Nat.le_refl c, by rw [leftOf_nil]; exact h1, h2, fun p hp => hp, fun p hp => by cases hp⟩ ?_)⟩
  exact (H.alloc _).front 1
theorem setBlock_put {r : Nat} {o u : Obj} (H : St W (blk r o :: l) w) : St W (blk r u :: l) (setBlock w r u) := H.put rfl rfl rfl rfl
theorem leftOf_push (arr : Array MapEntry) (seen : Array Nat) (b : Nat) : (leftOf arr (seen.push b)).toList = (leftOf arr seen).toList.filter fun x => x.born != b := by
  unfold leftOf
  simp only [Array.toList_filter, List.filter_filter]
  refine List.filter_congr fun x _ => ?_
  simp only [Array.contains_push, Bool.not_or]
  rw [Bool.and_comm]; rfl
theorem nodup_inj {γ δ : Type} {g : γ → δ} : ∀ {L : List γ}, (L.map g).Nodup → ∀ x ∈ L, ∀ y ∈ L, g x = g y → x = y
  | [], _, x, hx, _, _, _ => by cases hx
  | z :: L, h, x, hx, y, hy, e => by
    have h' := List.nodup_cons.1 h
    rcases List.mem_cons.1 hx with hx' | hx'
    · rcases List.mem_cons.1 hy with hy' | hy'
      · rw [hx', hy']
      · exact absurd (List.mem_map.2 ⟨y, hy', by rw [← e, hx']⟩) h'.1
    · rcases List.mem_cons.1 hy with hy' | hy'
      · exact absurd (List.mem_map.2 ⟨x, hx', by rw [e, hy']⟩) h'.1
      · exact nodup_inj h'.2 x hx' y hy' e
theorem left_step {arr : Array MapEntry} {seen : Array Nat} {left : List (Int × α)} {e : MapEntry} {p : Int × α} (hb : (arr.toList.map (·.born)).Nodup) (hd : (left.map (·.1)).Nodup) (hl : (leftOf arr seen).toList.map (fun e => (e.key, e.val)) = left.map fun p => (.int k p.1, T.enc p.2))
    (he : e ∈ (leftOf arr seen).toList) (e1 : e.key = .int k p.1) :
    (leftOf arr (seen.push e.born)).toList.map (fun e => (e.key, e.val)) = (left.filter fun q => q.1 != p.1).map fun p => (.int k p.1, T.enc p.2) := by
  rw [leftOf_push]
  have hsub : (leftOf arr seen).toList.Sublist arr.toList := by unfold leftOf; rw [Array.toList_filter]; exact List.filter_sublist
  have hbn : ((leftOf arr seen).toList.map (·.born)).Nodup := hb.sublist (hsub.map _)
  generalize (leftOf arr seen).toList = A at hl he hbn
  have hkeys : A.map (·.key) = left.map fun p => Value.int k p.1 := by
    have := congrArg (List.map Prod.fst) hl
    simpa [List.map_map, Function.comp_def] using this
  have hkn : (A.map (·.key)).Nodup := by
    rw [hkeys]
    have e : (left.map fun p => Value.int k p.1) = (left.map (·.1)).map (Value.int k) := by simp
    rw [e]
    exact List.Pairwise.map _ (fun a b h e => h (by injection e)) hd
  have h1 : (A.filter fun x => x.born != e.born) = A.filter ((fun kv : Value × Value => RowKit.intOf kv.1 != p.1) ∘ fun x => (x.key, x.val)) := by
    refine List.filter_congr fun x hx => ?_
    have : x.key ∈ A.map (·.key) := List.mem_map.2 ⟨x, hx, rfl⟩
    rw [hkeys] at this
    obtain ⟨q, hq, eq⟩ := List.mem_map.1 this
    have e2 : RowKit.intOf x.key = q.1 := by rw [← eq]; rfl
    show (x.born != e.born) = (RowKit.intOf x.key != p.1)
    rw [e2, Bool.eq_iff_iff, bne_iff_ne, bne_iff_ne]
    constructor
    · intro h hqp
      have : x = e := nodup_inj hkn x hx e he (by rw [← eq, e1, hqp])
      exact h (by rw [this])
    · intro h hbb
      have : x = e := nodup_inj hbn x hx e he hbb
      rw [this, e1] at eq
      injection eq with _ eq
      exact h eq
  rw [h1, ← List.filter_map, hl, List.filter_map]
  rfl
theorem nxt_st {r it : Nat} {es left : List (Int × α)} {cur : Option (Int × α)} {K : Option (Value × Value) → World → Prop} {a : Addr} (i : Nat) (H : St W l w) (hi : front i l = ranging T k r it es left cur :: l') (ha : a = ⟨it, 0, none⟩)
    (h0 : left = [] → St W (ranging T k r it es left cur :: l') w → K none w)
    (h1 : ∀ p ∈ left, ∀ w', St W (ranging T k r it es (left.filter fun q => q.1 != p.1) (some p) :: l') w' → K (some (.int k p.1, T.enc p.2)) w') : nxt a w K := by
  have H0 : St W (ranging T k r it es left cur :: l') w := hi ▸ H.front i
  obtain ⟨arr, c, since, seen, c0, h, H1⟩ := ranging_open H0
  have hb := H1.get
  have hr := (H1.front 1).get
  refine ⟨it, r, since, seen, c0, arr, c, ha, hr, hb, h.hsince, h.le, fun hz => h0 ?_ H0, fun e he w1 hw1 => ?_⟩
  · have hn : (leftOf arr seen).toList = [] := by
      apply List.eq_nil_of_length_eq_zero
      simpa using hz
    have hl := h.hleft
    rw [hn] at hl
    cases hleft : left with
    | nil => rfl
    | cons p q => rw [hleft] at hl; cases hl
  · have hem : e ∈ arr.toList := by
      unfold leftOf at he
      simp at he ⊢
      exact he.1
    have hmem : (e.key, e.val) ∈ (leftOf arr seen).toList.map fun e => (e.key, e.val) := List.mem_map.2 ⟨e, he, rfl⟩
    rw [h.hleft] at hmem
    obtain ⟨p, hp, ep⟩ := List.mem_map.1 hmem
    have e1 : e.key = .int k p.1 := (Prod.mk.inj ep).1.symm
    have e2 : e.val = T.enc p.2 := (Prod.mk.inj ep).2.symm
    rw [e1, e2]
    have H2 : St W (blk r (.map arr c) :: blk it (.mapIter (some r) since seen c0) :: l') w1 := by
      rcases hw1 with rfl | rfl
      · exact H1
      · exact H1.drew
    refine h1 p hp _ (ranging_shut (arr := arr) (c := c) (since := since) (seen := seen.push e.born) (c0 := c) ⟨h.reps, h.born, h.dup, h.hsince, h.le2, h.le2, ?_, ?_, fun q hq => h.sub q (List.mem_filter.1 hq).1, fun q hq => ?_⟩ ((setBlock_put (H2.front 1)).front 1))
    · exact left_step h.born.2 h.ldup h.hleft he e1
    · exact h.ldup.sublist (List.filter_sublist.map _)
    · cases hq
      exact ⟨rfl, e, hem, seen, rfl, e1, e2⟩
theorem ent_st {r it : Nat} {es left : List (Int × α)} {p : Int × α} {K : Int × α → Prop} {a : Addr} (i : Nat) (H : St W l w) (hi : front i l = ranging T k r it es left (some p) :: l') (ha : a = ⟨it, 0, none⟩) (hk : K p) : ex (Ent T k a w) K := by
  have H0 : St W (ranging T k r it es left (some p) :: l') w := hi ▸ H.front i
  obtain ⟨arr, c, since, seen, c0, h, H1⟩ := ranging_open H0
  have hb := H1.get
  have hr := (H1.front 1).get
  obtain ⟨rfl, e, he, s, rfl, e1, e2⟩ := h.hcur p rfl
  exact ⟨p, ⟨it, r, since, s, arr, c0, e, ha, hr, hb, he, h.born.2, e1, e2⟩, hk⟩
/-! ### rows of assertions -/
theorem big_out {f : β → Assn} {l1 l2 : List β} {e : β} (H : St W (sepA ((l1 ++ e :: l2).map f) :: l) w) : St W (f e :: sepA ((l1 ++ l2).map f) :: l) w := by
  have H := H.open_
  have hp : ((l1 ++ e :: l2).map f ++ l).Perm ((l1 ++ l2).map f ++ (f e :: l)) := by
    simp only [List.map_append, List.map_cons, List.append_assoc, List.cons_append]
    refine List.Perm.append_left _ ?_
    exact (List.perm_middle (l₁ := l2.map f) (a := f e) (l₂ := l)).symm
  exact (St.shut (H.perm hp)).front 1
theorem big_in {f : β → Assn} {l1 l2 : List β} {e : β} (H : St W (f e :: sepA ((l1 ++ l2).map f) :: l) w) : St W (sepA ((l1 ++ e :: l2).map f) :: l) w := by
  have H := (H.front 1).open_
  have hp : ((l1 ++ l2).map f ++ (f e :: l)).Perm ((l1 ++ e :: l2).map f ++ l) := by
    simp only [List.map_append, List.map_cons, List.append_assoc, List.cons_append]
    refine List.Perm.append_left _ ?_
    exact List.perm_middle
  exact St.shut (H.perm hp)
end
end Go.Proofs.YtpdaapffkdejoaaGreat.Cf
