/- Contracts of package audit: Diff. -/
import Derived.Test.YtleehieomicicaaQJ
namespace Go.Proofs.Ytleehieomicicaa.Audit
open Go Go.Proofs.Ytleehieomicicaa.Cf
set_option linter.unusedVariables false
set_option linter.unusedSimpArgs false
set_option maxRecDepth 100000
section
variable {W w : World} {l : List Assn}
/-- Why lists are not diffed. -/
def dWhy (a b : List S36) : Int := if (!(rises a) || !(rises b)) = true then 185 else if (!(a.all fun x => !wrong x) || !(b.all fun x => !wrong x)) = true then 183 else 0
/-- By how much b is above a. -/
def Diffed (a b : List S36) (s : Slc) (e : Int) (d : List S36) : Prop := e = dWhy a b ∧ if e = 0 then Rise d ∧ (∀ x ∈ d, x.V ≠ 0) ∧ (∀ k, val d k = val b k - val a k) else d = [] ∧ s = nilS
theorem val_take {L : List S36} {i : Nat} {x : S36} (h : Rise L) (hx : L[i]? = some x) (k : Int) : val (L.take (i + 1)) k = if k = x.Key then x.V else val (L.take i) k := by
  obtain ⟨hi, rfl⟩ := List.getElem?_eq_some_iff.1 hx
  rw [List.take_succ_eq_append_getElem hi]
  have hk : ∀ y ∈ L.take i, y.Key < L[i].Key := by
    have : Rise (L.take i ++ [L[i]]) := by
      rw [← List.take_succ_eq_append_getElem hi]; exact h.sublist (List.take_sublist _ _)
    intro y hy
    exact (List.pairwise_append.1 this).2.2 y hy _ (List.mem_singleton.2 rfl)
  generalize L[i] = x at hk
  generalize L.take i = M at hk
  induction M with
  | nil =>
    simp only [List.nil_append, val]
    by_cases e : x.Key = k
    · rw [if_pos e, if_pos e.symm]
    · rw [if_neg e, if_neg fun h => e h.symm]
  | cons y M ih =>
    simp only [List.cons_append, val]
    have h1 := hk y (List.mem_cons_self ..)
    have ih := ih fun z hz => hk z (List.mem_cons_of_mem _ hz)
    by_cases e : y.Key = k
    · rw [if_pos e, if_pos e, if_neg (by omega)]
    · rw [if_neg e, if_neg e, ih]
theorem val_bound {L : List S36} {k : Int} (h : ∀ x ∈ L, 0 ≤ x.V ∧ x.V ≤ 4611686018427387904) : 0 ≤ val L k ∧ val L k ≤ 4611686018427387904 := by
  by_cases e : val L k = 0
  · omega
  · obtain ⟨x, hx, _, h2⟩ := val_some e
    have := h x hx; omega
theorem del_pred (W : World) (k v : Int) : cl Try.prog 27 [.int .i64 k, .int .i64 v] tBool W fun q w' => q = (v == 0) ∧ w' = W := by
  refine F27_ok ?_
  unfold F27
  exact ⟨rfl, rfl⟩
theorem val_lookup {es : List (Int × Int)} {k : Int} {v : Int} (hn : (es.map (·.1)).Nodup) (h : (k, v) ∈ es) : es.lookup k = some v := by
  induction es with
  | nil => cases h
  | cons p es ih =>
    obtain ⟨a, b⟩ := p
    have hn' := List.nodup_cons.1 hn
    simp only [List.lookup]
    rcases List.mem_cons.1 h with e | h
    · cases e; simp
    · have : k ≠ a := fun e => hn'.1 (List.mem_map.2 ⟨(k, v), h, e⟩)
      rw [show (k == a) = false from by simpa using this]
      exact ih hn'.2 h
theorem lookup_mem {es : List (Int × Int)} {k v : Int} (h : es.lookup k = some v) : (k, v) ∈ es := by
  induction es with
  | nil => cases h
  | cons p es ih =>
    obtain ⟨a, b⟩ := p
    simp only [List.lookup] at h
    by_cases c : (k == a) = true
    · rw [c] at h
      have e : k = a := by simpa using c
      cases h; rw [e]; exact List.mem_cons_self ..
    · simp only [Bool.not_eq_true] at c
      rw [c] at h
      exact List.mem_cons_of_mem _ (ih h)
theorem mem_ups {key v : Int} {es : List (Int × Int)} {p : Int × Int} (hn : (es.map (·.1)).Nodup) (h : p ∈ ups key v es) : p = (key, v) ∨ p ∈ es := by
  obtain ⟨a, b⟩ := p
  have h1 := val_lookup (nodup_ups hn) h
  rw [lookup_ups] at h1
  by_cases c : (a == key) = true
  · rw [if_pos c] at h1
    have e : a = key := by simpa using c
    cases h1; rw [e]; exact .inl rfl
  · rw [if_neg c] at h1
    exact .inr (lookup_mem h1)
theorem ups_len {key v : Int} {es : List (Int × Int)} : (ups key v es).length ≤ es.length + 1 := by
  have := congrArg List.length (keys_ups key v es)
  rw [List.length_map] at this
  rw [this]; split <;> simp
structure Book (es : List (Int × Int)) (n : Nat) (f : Int → Int) : Prop where
  dup : (es.map (·.1)).Nodup
  len : es.length ≤ n
  rng : ∀ p ∈ es, I64 p.1 ∧ I64 p.2
  val : ∀ k, (es.lookup k).getD 0 = f k
theorem Book.put {es : List (Int × Int)} {n : Nat} {f : Int → Int} {key v : Int} (h : Book es n f) (hk : I64 key) (hv : I64 v) : Book (ups key v es) (n + 1) fun k => if k = key then v else f k := by
  refine ⟨nodup_ups h.dup, Nat.le_trans ups_len (Nat.succ_le_succ h.len), fun p hp => ?_, fun k => ?_⟩
  · rcases mem_ups h.dup hp with rfl | hp
    · exact ⟨hk, hv⟩
    · exact h.rng p hp
  · rw [lookup_ups]
    by_cases c : k = key
    · subst c; simp
    · rw [if_neg (by simpa using c), if_neg c]; exact h.val k
theorem diff_spec {sa sb : Slc} {a b : List S36} (ha : a.length ≤ 1000) (hb : b.length ≤ 1000) (ra : ∀ x ∈ a, I64 x.Key) (rb : ∀ x ∈ b, I64 x.Key) (ka : Know l (RoP T36 sa a)) (kb : Know l (RoP T36 sb b)) (H : St W l w) :
    cl Try.prog 17 [tSlc.enc sa, tSlc.enc sb] (tTup2 tSlc (tInt .i64)) w fun q w' => ∃ d, Diffed a b q.1 q.2 d ∧ St W (row T36 37 2 q.1 d :: l) w' := by
  refine F17_ok ?_
  unfold F17
  refine cl_mono (rising_spec (by omega) (H.ro ka)) ?_
  rintro q w1 ⟨rfl, H⟩
  have H := H.drop
  have two : ∀ (p : Bool) (w : World), p = (!(a.all fun x => !wrong x) || !(b.all fun x => !wrong x)) → rises a = true → rises b = true → St W l w → F17_j2 sa sb p w fun q w' => ∃ d, Diffed a b q.1 q.2 d ∧ St W (row T36 37 2 q.1 d :: l) w' := by
    intro p w hp h1 h2 H
    unfold F17_j2
    split
    · rename_i hpt
      refine ⟨[], ⟨?_, by rw [if_neg (by decide)]; exact ⟨rfl, rfl⟩⟩, row_nil T36 37 2 H⟩
      unfold dWhy; rw [h1, h2, if_neg (by decide), if_pos (by rw [← hp]; exact hpt)]
    · rename_i hpf
      have hd : dWhy a b = 0 := by unfold dWhy; rw [h1, h2, if_neg (by decide), if_neg (by rw [← hp]; exact hpf)]
      have Ra := (rises_pw a).1 h1
      have Rb := (rises_pw b).1 h2
      have hab : (a.all fun x => !wrong x) = true ∧ (b.all fun x => !wrong x) = true := by
        rw [hp] at hpf; simpa using hpf
      have may : ∀ {L : List S36}, (L.all fun x => !wrong x) = true → ∀ x ∈ L, 0 ≤ x.V ∧ x.V ≤ 4611686018427387904 := by
        intro L hL x hx
        have := List.all_eq_true.1 hL x hx
        simp [wrong] at this; exact this
      have ma := may hab.1
      have mb := may hab.2
      refine nwMap_st H fun r w2 H => ?_
      have H := mapE_new (tInt .i64) .i64 H
      have la := ka.len (H.drop)
      have lb := kb.len (H.drop)
      refine lp_i (fun i w => 0 ≤ i ∧ i ≤ b.length ∧ ∃ es, Book es i.toNat (fun k => val (b.take i.toNat) k) ∧ St W (mapE (tInt .i64) .i64 r es :: l) w) (fun i => (b.length - i).toNat) ⟨Int.le_refl 0, by omega, [], ⟨by simp, by simp, by simp, fun k => by simp [val]⟩, H⟩ ?_
      rintro i w ⟨i0, i1, es, hB, H⟩
      unfold F17_l3
      split
      · rename_i hc
        have hc : i < b.length := by simp at hc; omega
        have e1 : IntKind.i64.wrap (i + 1) = i + 1 := wrap_i64 (by omega) (by omega)
        have hx : b[i.toNat]? = some b[i.toNat] := List.getElem?_eq_getElem (by omega)
        have hxm := List.mem_of_getElem? hx
        obtain ⟨p, hp⟩ := kb.tail.ix (sz := 2) (i := i) H i0 hc
        refine ex_i p hp ?_
        refine ex_i b[i.toNat] (kb.tail.rd (fun _ => rfl) hp hx H) ?_
        generalize b[i.toNat] = x at hx hxm
        refine nw_st H fun bx w3 H => ?_
        refine st_st (x := x) 0 H rfl rfl (Nat.le_of_ble_eq_true rfl) fun w4 H => ?_
        refine ld_st (x := x.Key) 0 H rfl rfl rfl ?_
        refine ld_st (x := x.V) 0 H rfl rfl rfl ?_
        refine mput_st 1 H rfl rfl fun w5 H => ?_
        rw [e1]
        have hx2 := mb x hxm
        have hB2 := hB.put (key := x.Key) (v := x.V) (rb x hxm) ⟨by omega, by omega⟩
        refine ⟨⟨by omega, by omega, _, ?_, (H.front 1).drop⟩, by omega⟩
        rw [show (i + 1).toNat = i.toNat + 1 from by omega]
        exact ⟨hB2.dup, hB2.len, hB2.rng, fun k => by rw [hB2.val, val_take Rb hx]⟩
      · rename_i hc
        have hc : i = b.length := by simp at hc; omega
        subst hc
        have et : b.take ((b.length : Int)).toNat = b := by simp
        rw [et] at hB
        refine lp_i (fun i w => 0 ≤ i ∧ i ≤ a.length ∧ ∃ es, Book es (b.length + i.toNat) (fun k => val b k - val (a.take i.toNat) k) ∧ St W (mapE (tInt .i64) .i64 r es :: l) w) (fun i => (a.length - i).toNat) ⟨Int.le_refl 0, by omega, es, ⟨hB.dup, by have := hB.len; simp at this ⊢; omega, hB.rng, fun k => by rw [hB.val]; simp [val]⟩, H⟩ ?_
        clear hB H es i0 i1 hc et
        rintro i w ⟨i0, i1, es, hB, H⟩
        unfold F17_l4
        split
        · rename_i hc
          have hc : i < a.length := by simp at hc; omega
          have e1 : IntKind.i64.wrap (i + 1) = i + 1 := wrap_i64 (by omega) (by omega)
          have hx : a[i.toNat]? = some a[i.toNat] := List.getElem?_eq_getElem (by omega)
          have hxm := List.mem_of_getElem? hx
          obtain ⟨p, hp⟩ := ka.tail.ix (sz := 2) (i := i) H i0 hc
          refine ex_i p hp ?_
          refine ex_i a[i.toNat] (ka.tail.rd (fun _ => rfl) hp hx H) ?_
          have hvt := val_take Ra hx
          have hnot : val (a.take i.toNat) a[i.toNat].Key = 0 := val_none fun y hy => by
            have : Rise (a.take (i.toNat + 1)) := Ra.sublist (List.take_sublist _ _)
            rw [List.take_succ_eq_append_getElem (by omega)] at this
            have := (List.pairwise_append.1 this).2.2 y hy _ (List.mem_singleton.2 rfl)
            omega
          generalize a[i.toNat] = x at hx hxm hvt hnot
          refine nw_st H fun bx w3 H => ?_
          refine st_st (x := x) 0 H rfl rfl (Nat.le_of_ble_eq_true rfl) fun w4 H => ?_
          refine ld_st (x := x.Key) 0 H rfl rfl rfl ?_
          refine mget_st 1 H rfl rfl ?_
          refine ld_st (x := x.V) 0 H rfl rfl rfl ?_
          refine mput_st 1 H rfl rfl fun w5 H => ?_
          rw [e1]
          have hx2 := ma x hxm
          have hbv : (es.lookup x.Key).getD 0 = val b x.Key := by rw [hB.val]; rw [hnot]; omega
          have hbb := val_bound (k := x.Key) mb
          have hw : IntKind.i64.wrap ((es.lookup x.Key).getD 0 - x.V) = val b x.Key - x.V := by rw [hbv]; exact wrap_i64 (by omega) (by omega)
          rw [hw] at H
          have hB2 := hB.put (key := x.Key) (v := val b x.Key - x.V) (ra x hxm) ⟨by omega, by omega⟩
          refine ⟨⟨by omega, by omega, _, ?_, (H.front 1).drop⟩, by omega⟩
          rw [show (i + 1).toNat = i.toNat + 1 from by omega]
          refine ⟨hB2.dup, hB2.len, hB2.rng, fun k => ?_⟩
          rw [hB2.val, hvt]
          by_cases c : k = x.Key
          · subst c; rw [if_pos rfl, if_pos rfl]
          · rw [if_neg c, if_neg c]
        · rename_i hc
          have hc : i = a.length := by simp at hc; omega
          subst hc
          have et : a.take ((a.length : Int)).toNat = a := by simp
          rw [et] at hB
          have hlen := hB.len
          simp only [Int.toNat_natCast] at hlen
          refine cl_mono (delete_func (g := 27) (pr := fun v => v == 0) hB.rng (by omega) (enters_of Try.func27 (by kernel_rfl) rfl) del_pred H) ?_
          rintro _ w3 ⟨es', hp, H⟩
          have hfl : (es.filter fun p => !(p.2 == 0)).length ≤ es.length := List.length_filter_le _ _
          have hl' : es'.length ≤ es.length := by rw [hp.length_eq]; exact hfl
          have hmem : ∀ p, p ∈ es' ↔ p ∈ es ∧ p.2 ≠ 0 := by
            intro p; rw [hp.mem_iff, List.mem_filter]; simp
          have hn' := mapE_nodup H
          refine cl_mono (sorted_spec (fun p hp => (hB.rng p ((hmem p).1 hp).1).1) (by omega) H) ?_
          rintro q w4 ⟨ks, hks, H⟩
          have hm : ∀ x : S36, x ∈ (ks.mergeSort fun x y => decide (x ≤ y)).map (fun k => (⟨k, (es'.lookup k).getD 0⟩ : S36)) ↔ (x.Key, x.V) ∈ es' := by
            intro x
            rw [sorted_mem, hks.mem_iff, List.mem_map]
            constructor
            · rintro ⟨⟨⟨c, d⟩, h1, h2⟩, h3⟩
              simp only at h2; subst h2
              rw [val_lookup hn' h1] at h3
              rw [h3]; exact h1
            · intro h
              exact ⟨⟨_, h, rfl⟩, by rw [val_lookup hn' h]; rfl⟩
          have hrise : Rise ((ks.mergeSort fun x y => decide (x ≤ y)).map (fun k => (⟨k, (es'.lookup k).getD 0⟩ : S36))) := sorted_rise (hks.nodup_iff.2 hn') _
          generalize ((ks.mergeSort fun x y => decide (x ≤ y)).map (fun k => (⟨k, (es'.lookup k).getD 0⟩ : S36))) = d at hm hrise H
          refine ⟨d, ⟨hd.symm, ?_⟩, (H.front 1).drop⟩
          rw [if_pos rfl]
          refine ⟨hrise, fun x hx => ((hmem _).1 ((hm x).1 hx)).2, fun k => ?_⟩
          rw [← hB.val k]
          cases hl : es.lookup k with
          | none =>
            rw [Option.getD_none]
            refine val_none fun x hx e => ?_
            have := val_lookup hB.dup ((hmem _).1 ((hm x).1 hx)).1
            rw [e, hl] at this; cases this
          | some v =>
            rw [Option.getD_some]
            by_cases hv : v = 0
            · subst hv
              refine val_none fun x hx e => ?_
              have h1 := (hmem _).1 ((hm x).1 hx)
              have := val_lookup hB.dup h1.1
              rw [e, hl] at this
              exact h1.2 (by injection this with this; exact this.symm)
            · exact val_mem (x := ⟨k, v⟩) hrise ((hm _).2 ((hmem _).2 ⟨lookup_mem hl, hv⟩))
  have one : ∀ (p : Bool) (w : World), p = (!(rises a) || !(rises b)) → St W l w → F17_j1 sa sb p w fun q w' => ∃ d, Diffed a b q.1 q.2 d ∧ St W (row T36 37 2 q.1 d :: l) w' := by
    intro p w hp H
    unfold F17_j1
    split
    · rename_i hpt
      refine ⟨[], ⟨?_, by rw [if_neg (by decide)]; exact ⟨rfl, rfl⟩⟩, row_nil T36 37 2 H⟩
      unfold dWhy; rw [if_pos (by rw [← hp]; exact hpt)]
    · rename_i hpf
      have hr : rises a = true ∧ rises b = true := by rw [hp] at hpf; simpa using hpf
      refine cl_mono (may_spec (by omega) (H.ro ka)) ?_
      rintro q w1 ⟨rfl, H⟩
      have H := H.drop
      split
      · rename_i h
        exact two true _ (by rw [h]; rfl) hr.1 hr.2 H
      · rename_i h
        refine cl_mono (may_spec (by omega) (H.ro kb)) ?_
        rintro q w2 ⟨rfl, H⟩
        exact two _ _ (by rw [show (!(a.all fun x => !wrong x)) = false from by simpa using h]; rfl) hr.1 hr.2 H.drop
  split
  · rename_i h
    exact one true _ (by rw [h]; rfl) H
  · rename_i h
    refine cl_mono (rising_spec (by omega) (H.ro kb)) ?_
    rintro q w2 ⟨rfl, H⟩
    exact one _ _ (by rw [show (!(rises a)) = false from by simpa using h]; rfl) H.drop
end
end Go.Proofs.Ytleehieomicicaa.Audit
