/- LocksApart and LocksElder: the walks. -/
import Derived.Test.YtojcgejjdfcaaaaLL
import Derived.Test.YtojcgejjdfcaaaaOp
namespace Go.Proofs.Ytojcgejjdfcaaaa
open Go Go.Proofs.Ytojcgejjdfcaaaa.Cf Go.Proofs.Ytojcgejjdfcaaaa.Locks
set_option linter.unusedVariables false
set_option linter.unusedSimpArgs false
set_option maxRecDepth 100000
set_option maxHeartbeats 2000000
section
theorem oldK (W : World) : Know [old W] fun I => PMap.le (fun b => W.heap[b]?) I := Know.here (m := fun h k => PMap.le_trans k h)
theorem ops_of {W : World} {s : Slc} (g : G22 W s) : ∃ L : List S30, (∀ x ∈ L, R64 x.Tx) ∧ RoP T30 s L fun b => W.heap[b]? := by
  obtain ⟨_, xs, h1, h2⟩ := g
  exact ⟨xs, fun x hx => (h1 x hx).2.1, h2⟩
theorem of_mem {L : List S79} {k : Int} {x : S53} (h : x ∈ of L k) : ∃ y ∈ L, y.Key = k ∧ y.Tx = x.Tx ∧ y.Write = x.Write := by
  unfold of at h
  obtain ⟨y, hy, rfl⟩ := List.mem_map.1 h
  obtain ⟨h1, h2⟩ := List.mem_filter.1 hy
  exact ⟨y, h1, by simpa using h2, rfl, rfl⟩
theorem of_has {L : List S79} {k : Int} {y : S79} (h : y ∈ L) (hk : y.Key = k) : (⟨y.Tx, y.Write⟩ : S53) ∈ of L k := by
  unfold of
  exact List.mem_map.2 ⟨y, List.mem_filter.2 ⟨h, by simpa using hk⟩, rfl⟩
theorem of_lt {L : List S79} {k : Int} (h : Ord L) : (of L k).Pairwise fun a b => a.Tx < b.Tx := by
  unfold of
  have : (L.filter fun y => y.Key == k).Pairwise fun a b => a.Tx < b.Tx := by
    refine List.Pairwise.imp_of_mem ?_ (ord_filter (p := fun y => y.Key == k) h)
    intro a b ha hb' h
    have h1 : a.Key = k := by simpa using (List.mem_filter.1 ha).2
    have h2 : b.Key = k := by simpa using (List.mem_filter.1 hb').2
    have := ltr_iff.1 h; omega
  exact List.Pairwise.map _ (fun _ _ h => h) this
theorem tbl_ord {W w : World} {l : List Assn} {b n : Nat} {m : Md} (H : St W (tbl b m n :: l) w) : Ord m.H ∧ Ord m.W := by
  obtain ⟨t, _, r, _⟩ := tbl_open H
  exact ⟨r.oH, r.oW⟩
theorem pw_at {L : List S53} (h : L.Pairwise fun a b => a.Tx < b.Tx) {i j : Nat} {x y : S53} (hx : L[i]? = some x) (hy : L[j]? = some y) (hij : i < j) : x.Tx < y.Tx := by
  obtain ⟨h1, rfl⟩ := List.getElem?_eq_some_iff.1 hx
  obtain ⟨h2, rfl⟩ := List.getElem?_eq_some_iff.1 hy
  exact List.pairwise_iff_getElem.1 h i j h1 h2 hij
theorem of_len2 {L : List S79} {k : Int} : (of L k).length ≤ L.length := of_len L k
theorem walkLocksApart (W : World) (s : Slc) (g0 : G22 W s) : cl Try.prog 4 [tSlc.enc s] tBool W fun r w' => r = true ∧ RowKit.Below W.heap.size W w' := by
  obtain ⟨L, hR, hro⟩ := ops_of g0
  have k : Know [old W] (RoP T30 s L) := (oldK W).old hro
  have H := St.start W
  have lL := k.len H
  refine F4_ok ?_
  unfold F4
  refine cl_mono (new_B H) ?_
  rintro r w1 ⟨b, rfl, H⟩
  refine cl_mono (awake_B H) ?_
  rintro a w2 ⟨rfl, H⟩
  rw [if_neg (by simp)]
  refine lp_i (fun (i : Int) w => 0 ≤ i ∧ i ≤ 40 ∧ ∃ m, Inv (fun _ => True) i.toNat m ∧ St W (tbl b m (2 * i.toNat) :: [old W]) w) (fun i => (40 - i).toNat) ⟨Int.le_refl 0, by omega, ⟨[], [], []⟩, Inv.start, H⟩ ?_
  clear H
  rintro i w ⟨i0, i1, m, I, H⟩
  unfold F4_l1
  split
  · rename_i hc
    have hc : i < L.length ∧ i < 40 := by simp at hc; omega
    have e1 : IntKind.i64.wrap (i + 1) = i + 1 := wrap_i64 (by omega) (by omega)
    have hx : L[i.toNat]? = some L[i.toNat] := List.getElem?_eq_getElem (by omega)
    generalize L[i.toNat] = o at hx
    obtain ⟨p, hp⟩ := k.tail.ix (sz := 4) (i := i) H i0 hc.1
    refine ex_i p hp ?_
    refine ex_i o (k.tail.rd (fun _ => rfl) hp hx H) ?_
    refine cl_mono (does_B (o := o) (by omega) I.pre.N (by have := I.hw; omega) (hR o (List.mem_of_getElem? hx)) H) ?_
    rintro q w3 ⟨_, _, H⟩
    have H := H.drop.drop
    have I2 := I.act (o := o) (fun _ => trivial) (by omega)
    generalize (act m o).1 = m2 at H I2
    obtain ⟨oH, oW⟩ := tbl_ord H
    refine lp_i (fun (j : Int) w => 0 ≤ j ∧ j ≤ i + 1 ∧ St W (tbl b m2 (2 * i.toNat + 2) :: [old W]) w) (fun j => (i + 1 - j).toNat) ⟨Int.le_refl 0, by omega, H⟩ ?_
    clear H
    rintro j w ⟨j0, j1, H⟩
    unfold F4_l2
    split
    · rename_i hcj
      have hcj : j ≤ i := by simpa using hcj
      have e2 : IntKind.i64.wrap (j + 1) = j + 1 := wrap_i64 (by omega) (by omega)
      have hy : L[j.toNat]? = some (L[j.toNat]'(by omega)) := List.getElem?_eq_getElem (by omega)
      generalize L[j.toNat]'(by omega) = o2 at hy
      obtain ⟨p2, hp2⟩ := k.tail.ix (sz := 4) (i := j) H j0 (by omega)
      refine ex_i p2 hp2 ?_
      refine ex_i o2.Key (k.tail.fld (fun _ => rfl) hp2 hy rfl H) ?_
      refine cl_mono (holds_B (k := o2.Key) (by omega) H) ?_
      intro r19 w4 H
      have lr := row_len H
      have hpw := of_lt (k := o2.Key) oH
      have hall : ∀ x ∈ of m2.H o2.Key, ∃ y ∈ m2.H, y.Key = o2.Key ∧ y.Tx = x.Tx ∧ y.Write = x.Write := fun x hx => of_mem hx
      have hlen : (of m2.H o2.Key).length ≤ 1000 := Nat.le_trans of_len2 (by have := I2.hw; omega)
      generalize of m2.H o2.Key = hh at H hpw hall hlen lr
      refine lp_i (fun (a : Int) w => 0 ≤ a ∧ a ≤ hh.length ∧ St W (row T53 54 2 r19 hh :: tbl b m2 (2 * i.toNat + 2) :: [old W]) w) (fun a => (hh.length - a).toNat) ⟨Int.le_refl 0, by omega, H⟩ ?_
      clear H
      rintro a w ⟨a0, a1, H⟩
      unfold F4_l3
      split
      · rename_i hca
        have hca : a < hh.length := by simp at hca; omega
        have e3 : IntKind.i64.wrap (a + 1) = a + 1 := wrap_i64 (by omega) (by omega)
        have e4 : IntKind.i64.wrap (a - 1) = a - 1 := wrap_i64 (by omega) (by omega)
        have hz : hh[a.toNat]? = some hh[a.toNat] := List.getElem?_eq_getElem (by omega)
        generalize hh[a.toNat] = x at hz
        obtain ⟨y, hy1, hy2, hy3, hy4⟩ := hall x (List.mem_of_getElem? hz)
        refine dr_st H fun w5 H => ?_
        obtain ⟨c, hcx⟩ := row_ix (sz := 2) (i := a) H a0 hca
        refine ex_i c hcx ?_
        refine ex_i x.Tx (fld_row (fun _ => rfl) hcx hz rfl H) ?_
        refine cl_mono (dead_B (tx := x.Tx) (H.front 1)) ?_
        rintro d w6 ⟨hd, H⟩
        have hd : d = false := by
          rw [hd, List.any_eq_false]
          intro o ho e
          have e : o = x.Tx := by simpa using e
          exact I2.pre.nH y hy1 (by rw [hy3, ← e]; exact ho)
        subst hd
        have H := H.front 1
        rw [e4]
        obtain ⟨v, hv⟩ : ∃ v, a > 0 → hh[(a - 1).toNat]? = some v := by
          by_cases c : a > 0
          · exact ⟨hh[(a - 1).toNat]'(by omega), fun _ => List.getElem?_eq_getElem (by omega)⟩
          · exact ⟨x, fun h => absurd h c⟩
        obtain ⟨c', hc'⟩ := gex (g := ((!false) && (decide (a > (0 : Int))))) (C := IxA r19 2 (a - 1)) fun h => row_ix H (by simp at h; omega) (by omega)
        have gg : ∀ {q : Bool}, (((!false) && (decide (a > (0 : Int)))) && q) = true → ((!false) && (decide (a > (0 : Int)))) = true := fun h => by rw [Bool.and_eq_true] at h; exact h.1
        have ga : ((!false) && (decide (a > (0 : Int)))) = true → a > 0 := fun h => by simpa using h
        refine ex_i c' hc' ?_
        refine ex_i c (fun _ => hcx) ?_
        refine ex_i v.Tx (fun h => fld_row (fun _ => rfl) (hc' h) (hv (ga h)) rfl H) ?_
        refine ex_i x.Tx (fun _ => fld_row (fun _ => rfl) hcx hz rfl H) ?_
        refine ex_i c (fun _ => hcx) ?_
        refine ex_i x.Write (fun _ => fld_row (fun _ => rfl) hcx hz rfl H) ?_
        refine ex_i c' (fun h => hc' (gg h)) ?_
        refine ex_i v.Write (fun h => fld_row (fun _ => rfl) (hc' (gg h)) (hv (ga (gg h))) rfl H) ?_
        have good : a > 0 → v.Tx < x.Tx ∧ x.Write = false ∧ v.Write = false := by
          intro h
          have h1 := pw_at hpw (hv h) hz (by omega)
          obtain ⟨y', g1, g2, g3, g4⟩ := hall v (List.mem_of_getElem? (hv h))
          have h2 := I2.pre.comp y hy1 y' g1 (by rw [hy2, g2])
          rcases tog_true.1 h2 with h2 | h2
          · rw [hy3, g3] at h2; omega
          · exact ⟨h1, by rw [← hy4]; exact h2.1, by rw [← g4]; exact h2.2⟩
        rw [if_neg (by
          intro h
          simp only [Bool.false_or, Bool.and_eq_true, decide_eq_true_eq, Bool.or_eq_true] at h
          obtain ⟨h1, h2⟩ := h
          obtain ⟨f1, f2, f3⟩ := good h1
          rcases h2 with (h2 | h2) | h2
          · omega
          · rw [f2] at h2; cases h2
          · rw [f3] at h2; cases h2), e3]
        exact ⟨⟨by omega, by omega, H⟩, by omega⟩
      · rw [e2]
        exact ⟨⟨by omega, by omega, H.drop⟩, by omega⟩
    · rw [e1]
      refine ⟨⟨by omega, by omega, m2, ?_, ?_⟩, by omega⟩
      · rw [show (i + 1).toNat = i.toNat + 1 from by omega]; exact I2
      · rw [show 2 * (i + 1).toNat = 2 * i.toNat + 2 from by omega]; exact H
  · exact ⟨rfl, H.drop.below⟩
theorem any_take {p : S53 → Bool} {L : List S53} {i : Nat} {x : S53} (hx : L[i]? = some x) : (L.take (i + 1)).any p = ((L.take i).any p || p x) := by
  obtain ⟨hi, rfl⟩ := List.getElem?_eq_some_iff.1 hx
  rw [List.take_succ_eq_append_getElem hi, List.any_append]; simp
theorem walkLocksElder (W : World) (s : Slc) (g0 : G22 W s) : cl Try.prog 5 [tSlc.enc s] tBool W fun r w' => r = true ∧ RowKit.Below W.heap.size W w' := by
  obtain ⟨L, hR, hro⟩ := ops_of g0
  have k : Know [old W] (RoP T30 s L) := (oldK W).old hro
  have H := St.start W
  have lL := k.len H
  refine F5_ok ?_
  unfold F5
  refine cl_mono (new_B H) ?_
  rintro r w1 ⟨b, rfl, H⟩
  refine cl_mono (awake_B H) ?_
  rintro a w2 ⟨rfl, H⟩
  rw [if_neg (by simp)]
  refine lp_i (fun (i : Int) w => 0 ≤ i ∧ i ≤ 40 ∧ ∃ m, Inv (fun _ => True) i.toNat m ∧ St W (tbl b m (2 * i.toNat) :: [old W]) w) (fun i => (40 - i).toNat) ⟨Int.le_refl 0, by omega, ⟨[], [], []⟩, Inv.start, H⟩ ?_
  clear H
  rintro i w ⟨i0, i1, m, I, H⟩
  unfold F5_l1
  split
  · rename_i hc
    have hc : i < L.length ∧ i < 40 := by simp at hc; omega
    have e1 : IntKind.i64.wrap (i + 1) = i + 1 := wrap_i64 (by omega) (by omega)
    have hx : L[i.toNat]? = some L[i.toNat] := List.getElem?_eq_getElem (by omega)
    generalize L[i.toNat] = o at hx
    obtain ⟨p, hp⟩ := k.tail.ix (sz := 4) (i := i) H i0 hc.1
    refine ex_i p hp ?_
    refine ex_i o (k.tail.rd (fun _ => rfl) hp hx H) ?_
    refine cl_mono (does_B (o := o) (by omega) I.pre.N (by have := I.hw; omega) (hR o (List.mem_of_getElem? hx)) H) ?_
    rintro q w3 ⟨_, _, H⟩
    have H := H.drop.drop
    have I2 := I.act (o := o) (fun _ => trivial) (by omega)
    generalize (act m o).1 = m2 at H I2
    obtain ⟨oH, oW⟩ := tbl_ord H
    refine lp_i (fun (j : Int) w => 0 ≤ j ∧ j ≤ i + 1 ∧ St W (tbl b m2 (2 * i.toNat + 2) :: [old W]) w) (fun j => (i + 1 - j).toNat) ⟨Int.le_refl 0, by omega, H⟩ ?_
    clear H
    rintro j w ⟨j0, j1, H⟩
    unfold F5_l2
    split
    · rename_i hcj
      have hcj : j ≤ i := by simpa using hcj
      have e2 : IntKind.i64.wrap (j + 1) = j + 1 := wrap_i64 (by omega) (by omega)
      have hy : L[j.toNat]? = some (L[j.toNat]'(by omega)) := List.getElem?_eq_getElem (by omega)
      generalize L[j.toNat]'(by omega) = o2 at hy
      refine dr_st H fun w3 H => ?_
      obtain ⟨p2, hp2⟩ := k.tail.ix (sz := 4) (i := j) H j0 (by omega)
      refine ex_i p2 hp2 ?_
      refine ex_i p2 hp2 ?_
      refine ex_i o2.Key (k.tail.fld (fun _ => rfl) hp2 hy rfl H) ?_
      refine ex_i o2.Key (k.tail.fld (fun _ => rfl) hp2 hy rfl H) ?_
      refine cl_mono (holds_B (k := o2.Key) (by omega) H) ?_
      intro r22 w4 H
      have H := row_stay H
      refine ⟨k.tail.tail.fld (fun _ => rfl) hp2 hy rfl H, ?_⟩
      refine cl_mono (waits_B (k := o2.Key) (by omega) (H.front 1)) ?_
      intro r25 w5 H
      have H := row_stay H
      refine ⟨k.tail.tail.tail.fld (fun _ => rfl) hp2 hy rfl H, ?_⟩
      have H : St W (tbl b m2 (2 * i.toNat + 2) :: ro T53 r25 (of m2.W o2.Key) :: ro T53 r22 (of m2.H o2.Key) :: [old W]) w5 := H.front 1
      have lw := ro_len (H.front 1)
      have lh := ro_len (H.front 2)
      have hpw := of_lt (k := o2.Key) oW
      have hlw : (of m2.W o2.Key).length ≤ 1000 := Nat.le_trans of_len2 (by have := I2.hw; omega)
      have hlh : (of m2.H o2.Key).length ≤ 1000 := Nat.le_trans of_len2 (by have := I2.hw; omega)
      -- what is known of a waiting one
      have young : ∀ x ∈ of m2.W o2.Key, ∀ y ∈ of m2.H o2.Key, (y.Write = true ∨ x.Write = true) → ¬ y.Tx > x.Tx := by
        intro x hx y hy hw hgt
        obtain ⟨x', a1, a2, a3, a4⟩ := of_mem hx
        obtain ⟨y', b1, b2, b3, b4⟩ := of_mem hy
        have := I2.pre.young x' a1 y' b1 (by rw [b2, a2]) (tog_false.2 ⟨by rw [b3, a3]; omega, by rw [b4, a4]; exact hw⟩)
        rw [b3, a3] at this; omega
      have elder : ∀ x ∈ of m2.W o2.Key, (∃ y ∈ of m2.H o2.Key, y.Tx < x.Tx ∧ (y.Write = true ∨ x.Write = true)) ∨ ∃ y ∈ of m2.W o2.Key, y.Tx < x.Tx ∧ (y.Write = true ∨ x.Write = true) := by
        intro x hx
        obtain ⟨x', a1, a2, a3, a4⟩ := of_mem hx
        rcases may_no.1 (I2.blk x' a1) with ⟨y, b1, b2, b3⟩ | ⟨y, b1, b2, b3, b4⟩
        · have h5 := I2.pre.young x' a1 y b1 b2 b3
          have h6 := (tog_false.1 b3).2
          refine .inl ⟨_, of_has b1 (b2.trans a2), by simp only; omega, ?_⟩
          rw [← a4]; exact h6
        · have h6 := (tog_false.1 b4).2
          refine .inr ⟨_, of_has b1 (b2.trans a2), by simp only; omega, ?_⟩
          rw [← a4]; exact h6
      have alive : ∀ x ∈ of m2.W o2.Key, (m2.D.any fun d => d == x.Tx) = false := by
        intro x hx
        obtain ⟨x', a1, a2, a3, a4⟩ := of_mem hx
        rw [List.any_eq_false]
        intro d hd e
        have e : d = x.Tx := by simpa using e
        exact I2.pre.nW x' a1 (by rw [a3, ← e]; exact hd)
      generalize of m2.W o2.Key = ww at H lw hpw hlw young elder alive
      generalize of m2.H o2.Key = hh at H lh hlh young elder
      have kw : ∀ A, Know (A :: ro T53 r25 ww :: ro T53 r22 hh :: [old W]) (RoP T53 r25 ww) := fun A => (Know.here (m := RoP.mono)).tail
      have kh : ∀ A, Know (A :: ro T53 r25 ww :: ro T53 r22 hh :: [old W]) (RoP T53 r22 hh) := fun A => (Know.here (m := RoP.mono)).tail.tail
      refine lp_i (fun (a : Int) w => 0 ≤ a ∧ a ≤ ww.length ∧ St W (tbl b m2 (2 * i.toNat + 2) :: ro T53 r25 ww :: ro T53 r22 hh :: [old W]) w) (fun a => (ww.length - a).toNat) ⟨Int.le_refl 0, by omega, H⟩ ?_
      clear H
      rintro a w ⟨a0, a1, H⟩
      unfold F5_l3
      split
      · rename_i hca
        have hca : a < ww.length := by simp at hca; omega
        have e3 : IntKind.i64.wrap (a + 1) = a + 1 := wrap_i64 (by omega) (by omega)
        have hz : ww[a.toNat]? = some ww[a.toNat] := List.getElem?_eq_getElem (by omega)
        generalize ww[a.toNat] = x at hz
        have hxm := List.mem_of_getElem? hz
        obtain ⟨c, hcx⟩ := (kw _).ix (sz := 2) (i := a) H a0 hca
        refine lp_i (fun (s : Bool × Int) w => 0 ≤ s.2 ∧ s.2 ≤ hh.length ∧ s.1 = ((hh.take s.2.toNat).any fun y => decide (y.Tx < x.Tx) && (y.Write || x.Write)) ∧ St W (tbl b m2 (2 * i.toNat + 2) :: ro T53 r25 ww :: ro T53 r22 hh :: [old W]) w) (fun s => (hh.length - s.2).toNat) ⟨Int.le_refl 0, by simp only; omega, rfl, H⟩ ?_
        clear H
        rintro ⟨eld, bb⟩ w ⟨b0, b1, hel, H⟩
        simp only at b0 b1 hel ⊢
        unfold F5_l4
        split
        · rename_i hcb
          have hcb : bb < hh.length := by simp at hcb; omega
          have e4 : IntKind.i64.wrap (bb + 1) = bb + 1 := wrap_i64 (by omega) (by omega)
          have hv : hh[bb.toNat]? = some hh[bb.toNat] := List.getElem?_eq_getElem (by omega)
          generalize hh[bb.toNat] = y at hv
          have hym := List.mem_of_getElem? hv
          obtain ⟨d, hdx⟩ := (kh _).ix (sz := 2) (i := bb) H b0 hcb
          refine dr_st H fun w6 H => ?_
          refine ex_i d (fun _ => hdx) ?_
          refine ex_i c (fun _ => hcx) ?_
          refine ex_i y.Tx (fun _ => (kh _).fld (fun _ => rfl) hdx hv rfl H) ?_
          refine ex_i x.Tx (fun _ => (kw _).fld (fun _ => rfl) hcx hz rfl H) ?_
          refine ex_i d (fun _ => hdx) ?_
          refine ex_i y.Write (fun _ => (kh _).fld (fun _ => rfl) hdx hv rfl H) ?_
          refine ex_i c (fun _ => hcx) ?_
          refine ex_i x.Write (fun _ => (kw _).fld (fun _ => rfl) hcx hz rfl H) ?_
          refine dr_st H fun w7 H => ?_
          refine ex_i d hdx ?_
          refine ex_i c hcx ?_
          refine ex_i y.Tx ((kh _).fld (fun _ => rfl) hdx hv rfl H) ?_
          refine ex_i x.Tx ((kw _).fld (fun _ => rfl) hcx hz rfl H) ?_
          refine ex_i d (fun _ => hdx) ?_
          refine ex_i y.Write (fun _ => (kh _).fld (fun _ => rfl) hdx hv rfl H) ?_
          refine ex_i c (fun _ => hcx) ?_
          refine ex_i x.Write (fun _ => (kw _).fld (fun _ => rfl) hcx hz rfl H) ?_
          rw [if_neg (by
            intro h
            simp only [Bool.and_eq_true, decide_eq_true_eq, Bool.or_eq_true] at h
            exact young x hxm y hym h.2 h.1), e4]
          refine ⟨⟨by simp only; omega, by simp only; omega, ?_, H⟩, by simp only; omega⟩
          simp only
          rw [show (bb + 1).toNat = bb.toNat + 1 from by omega, any_take hv, ← hel]
        · rename_i hcb
          have hcb : bb = hh.length := by simp at hcb; omega
          subst hcb
          have et : hh.take ((hh.length : Int)).toNat = hh := by simp
          rw [et] at hel
          clear b0 b1 et hcb
          refine lp_i (fun (s : Bool × Int) w => 0 ≤ s.2 ∧ s.2 ≤ a ∧ s.1 = (eld || (ww.take s.2.toNat).any fun y => y.Write || x.Write) ∧ St W (tbl b m2 (2 * i.toNat + 2) :: ro T53 r25 ww :: ro T53 r22 hh :: [old W]) w) (fun s => (a - s.2).toNat) ⟨Int.le_refl 0, by simp only; omega, by simp, H⟩ ?_
          clear H
          rintro ⟨eld2, bb⟩ w ⟨b0, b1, hel2, H⟩
          simp only at b0 b1 hel2 ⊢
          unfold F5_l5
          split
          · rename_i hcb
            have hcb : bb < a := by simpa using hcb
            have e4 : IntKind.i64.wrap (bb + 1) = bb + 1 := wrap_i64 (by omega) (by omega)
            have hv : ww[bb.toNat]? = some ww[bb.toNat] := List.getElem?_eq_getElem (by omega)
            generalize ww[bb.toNat] = y at hv
            obtain ⟨d, hdx⟩ := (kw _).ix (sz := 2) (i := bb) H b0 (by omega)
            refine ex_i d (fun _ => hdx) ?_
            refine ex_i y.Write (fun _ => (kw _).fld (fun _ => rfl) hdx hv rfl H) ?_
            refine ex_i c (fun _ => hcx) ?_
            refine ex_i x.Write (fun _ => (kw _).fld (fun _ => rfl) hcx hz rfl H) ?_
            rw [e4]
            refine ⟨⟨by simp only; omega, by simp only; omega, ?_, H⟩, by simp only; omega⟩
            simp only
            rw [show (bb + 1).toNat = bb.toNat + 1 from by omega, any_take hv, hel2]
            simp only [Bool.or_assoc]
          · rename_i hcb
            have hcb : bb = a := by simp at hcb; omega
            subst hcb
            have ht : eld2 = true := by
              rw [hel2, Bool.or_eq_true]
              rcases elder x hxm with ⟨y, h1, h2, h3⟩ | ⟨y, h1, h2, h3⟩
              · left
                rw [hel, List.any_eq_true]
                exact ⟨y, h1, by simp [h2]; exact h3⟩
              · right
                rw [List.any_eq_true]
                obtain ⟨n, hn, e⟩ := List.getElem_of_mem h1
                have hyn : ww[n]? = some y := by rw [List.getElem?_eq_getElem hn, e]
                have hlt : n < bb.toNat := by
                  rcases Nat.lt_trichotomy n bb.toNat with h | h | h
                  · exact h
                  · rw [h, hz] at hyn; cases hyn; omega
                  · have := pw_at hpw hz hyn h; omega
                refine ⟨y, ?_, by simpa using h3⟩
                have : (ww.take bb.toNat)[n]? = some y := by rw [List.getElem?_take_of_lt hlt]; exact hyn
                exact List.mem_of_getElem? this
            rw [ht, if_neg (by decide)]
            refine ex_i c hcx ?_
            refine ex_i x.Tx ((kw _).fld (fun _ => rfl) hcx hz rfl H) ?_
            refine cl_mono (dead_B (tx := x.Tx) H) ?_
            rintro dd w8 ⟨hd, H⟩
            rw [alive x hxm] at hd
            subst hd
            unfold F5_j6
            rw [if_neg (by decide), e3]
            exact ⟨⟨by omega, by omega, H⟩, by omega⟩
      · rw [e2]
        exact ⟨⟨by omega, by omega, ((H.front 1).drop.front 1).drop⟩, by omega⟩
    · rw [e1]
      refine ⟨⟨by omega, by omega, m2, ?_, ?_⟩, by omega⟩
      · rw [show (i + 1).toNat = i.toNat + 1 from by omega]; exact I2
      · rw [show 2 * (i + 1).toNat = 2 * i.toNat + 2 from by omega]; exact H
  · exact ⟨rfl, H.drop.below⟩
end
end Go.Proofs.Ytojcgejjdfcaaaa
