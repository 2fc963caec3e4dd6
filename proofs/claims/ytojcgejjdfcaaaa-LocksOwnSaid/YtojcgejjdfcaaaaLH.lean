/- Contracts of the table of locks: give. -/
import Derived.Test.YtojcgejjdfcaaaaLG
namespace Go.Proofs.Ytojcgejjdfcaaaa.Locks
open Go Go.Proofs.Ytojcgejjdfcaaaa.Cf
set_option linter.unusedVariables false
set_option linter.unusedSimpArgs false
set_option maxRecDepth 100000
set_option maxHeartbeats 2000000
section
variable {W w : World} {l l' : List Assn} {α : Type} {T : Ty α}
theorem int_eq : ∀ {L M : List Int}, L.Pairwise (fun x y => x < y) → M.Pairwise (fun x y => x < y) → (∀ x, x ∈ L ↔ x ∈ M) → L = M
  | [], [], _, _, _ => rfl
  | [], y :: M, _, _, h => absurd ((h y).2 (List.mem_cons_self ..)) (by simp)
  | x :: L, [], _, _, h => absurd ((h x).1 (List.mem_cons_self ..)) (by simp)
  | x :: L, y :: M, hL, hM, h => by
    have hL' := List.pairwise_cons.1 hL
    have hM' := List.pairwise_cons.1 hM
    have e : x = y := by
      rcases List.mem_cons.1 ((h x).1 (List.mem_cons_self ..)) with e | e
      · exact e
      · rcases List.mem_cons.1 ((h y).2 (List.mem_cons_self ..)) with e2 | e2
        · exact e2.symm
        · have := hL'.1 y e2; have := hM'.1 x e; omega
    subst e
    have := int_eq hL'.2 hM'.2 fun z => ⟨fun hz => by
      rcases List.mem_cons.1 ((h z).1 (List.mem_cons_of_mem _ hz)) with e | e
      · have := hL'.1 z hz; omega
      · exact e, fun hz => by
      rcases List.mem_cons.1 ((h z).2 (List.mem_cons_of_mem _ hz)) with e | e
      · have := hM'.1 z hz; omega
      · exact e⟩
    rw [this]
theorem give_sub : ∀ (P : List S79) (m : Md), ((give P m).1.W).Sublist m.W
  | [], m => List.Sublist.refl _
  | x :: P, m => by
    simp only [give]
    split
    · exact (give_sub P (grant m x)).trans List.filter_sublist
    · exact give_sub P m
theorem give_keep : ∀ (P : List S79) (m : Md) (y : S79), y ∈ m.W → (∀ x ∈ P, y.Tx ≠ x.Tx) → y ∈ (give P m).1.W
  | [], m, y, h, _ => h
  | x :: P, m, y, h, hn => by
    have h2 := fun z hz => hn z (List.mem_cons_of_mem _ hz)
    simp only [give]
    split
    · exact give_keep P (grant m x) y (mem_wo.2 ⟨h, hn x (List.mem_cons_self ..)⟩) h2
    · exact give_keep P m y h h2
theorem Know.fix {b : Nat} {v : Value} {x : α} {t : TypeId} (k : Know l fun I => I b = some (.cells [v].toArray t)) (H : St W l w) (hx : T.cells x = [v]) : RdAt T ⟨b, 0, none⟩ w x := by
  obtain ⟨I, hI, h⟩ := k.everI H
  exact rd_fix (hI _ _ h) hx
theorem del_ptrs {l1 l2 : List (Int × LkP)} {k : Int} {L : LkP} (h : ((l1 ++ (k, L) :: l2).map (·.1)).Nodup) : del k (ptrs (l1 ++ (k, L) :: l2)) = ptrs (l1 ++ l2) := by
  induction l1 with
  | nil => simp [ptrs, del]
  | cons e l1 ih =>
    obtain ⟨a, A⟩ := e
    have h' := List.nodup_cons.1 h
    have hne : (k == a) = false := by
      have : a ≠ k := fun e => h'.1 (by rw [e]; simp)
      simpa using fun e => this e.symm
    have ih := ih h'.2
    unfold ptrs at ih ⊢
    simp only [List.cons_append, List.map_cons, del, hne, Bool.false_eq_true, if_false, ih]
/-- The waiting rows of the first keys. -/
def upto (m : Md) (ks : List Int) : List S79 := m.W.filter fun y => ks.contains y.Key
def ofKey (m : Md) (k : Int) : List S79 := m.W.filter fun y => y.Key == k
theorem upto_step {m : Md} {ks : List Int} {i : Nat} {k : Int} (oW : Ord m.W) (hk : ks.Pairwise fun x y => x < y) (hx : ks[i]? = some k) : upto m (ks.take (i + 1)) = upto m (ks.take i) ++ ofKey m k := by
  obtain ⟨hi, rfl⟩ := List.getElem?_eq_some_iff.1 hx
  have ht : ks.take (i + 1) = ks.take i ++ [ks[i]] := List.take_succ_eq_append_getElem hi
  have hlt : ∀ y ∈ ks.take i, y < ks[i] := by
    have : (ks.take (i + 1)).Pairwise fun x y => x < y := hk.sublist (List.take_sublist _ _)
    rw [ht] at this
    intro y hy
    exact (List.pairwise_append.1 this).2.2 y hy _ (List.mem_singleton.2 rfl)
  refine ord_eq (ord_filter oW) (List.pairwise_append.2 ⟨ord_filter oW, ord_filter oW, fun a ha b hb => ?_⟩) fun x => ?_
  · have h1 := (List.mem_filter.1 ha).2
    have h2 := (List.mem_filter.1 hb).2
    have h3 := hlt a.Key (by simpa using h1)
    have h4 : b.Key = ks[i] := by simpa using h2
    rw [ltr_iff]; omega
  · unfold upto ofKey
    rw [List.mem_append, List.mem_filter, List.mem_filter, List.mem_filter, ht]
    simp only [List.contains_eq_mem, List.mem_append, List.mem_singleton, decide_eq_true_eq, beq_iff_eq]
    constructor
    · rintro ⟨h1, h2 | h2⟩
      · exact .inl ⟨h1, h2⟩
      · exact .inr ⟨h1, h2⟩
    · rintro (⟨h1, h2⟩ | ⟨h1, h2⟩)
      · exact ⟨h1, .inl h2⟩
      · exact ⟨h1, .inr h2⟩
theorem opened {t : TbP} {l1 l2 : List (Int × LkP)} {k : Int} {L : LkP} (h : t.locks = l1 ++ (k, L) :: l2) (H : St W (tabA t :: l) w) :
    St W (cel L.b (T67.cells ⟨some L.h, some L.w⟩) 68 :: mapE tBool .i64 L.h L.hs :: mapE tBool .i64 L.w L.ws :: bigL (l1 ++ l2) :: cel t.b (T61.cells ⟨some t.ml, some t.mw, some t.md⟩) 62 :: mapE tPtr .i64 t.ml (ptrs t.locks) :: mapE (tInt .i64) .i64 t.mw t.waits :: mapE T77 .i64 t.md t.dead :: l) w := by
  have H := (tab_open H).front 4
  rw [h] at H
  rw [h]
  exact lock_open (big_get H)
theorem closed {t : TbP} {l1 l2 : List (Int × LkP)} {k : Int} {L : LkP} (h : t.locks = l1 ++ (k, L) :: l2)
    (H : St W (cel L.b (T67.cells ⟨some L.h, some L.w⟩) 68 :: mapE tBool .i64 L.h L.hs :: mapE tBool .i64 L.w L.ws :: bigL (l1 ++ l2) :: cel t.b (T61.cells ⟨some t.ml, some t.mw, some t.md⟩) 62 :: mapE tPtr .i64 t.ml (ptrs t.locks) :: mapE (tInt .i64) .i64 t.mw t.waits :: mapE T77 .i64 t.md t.dead :: l) w) : St W (tabA t :: l) w := by
  have H := big_put (e := (k, L)) (lock_shut H)
  rw [← h] at H
  exact tab_shut (H.ord [1, 2, 3, 4, 0])
theorem give_T {t : TbP} {m : Md} {n : Nat} (hn : n ≤ 1000) (r : Rel t m n) (hN : (m.W.map (·.Tx)).Nodup) (hWl : m.W.length ≤ 1000) (H : St W (tabA t :: l) w) :
    cl Try.prog 29 [.pointer (some ⟨t.b, 0, none⟩)] tSlc w fun s w' => ∃ t', t'.b = t.b ∧ Rel t' (give m.W m).1 n ∧ St W (row T55 56 2 s (give m.W m).2 :: tabA t' :: l) w' := by
  refine F29_ok ?_
  unfold F29
  have H := tab_open H
  refine nc_st rfl ?_
  refine ld_st (x := some t.ml) 0 H rfl rfl rfl ?_
  refine F40_ok ?_
  unfold F40
  refine nw_st H fun bm w1 H => ?_
  have hkr : ∀ p ∈ ptrs t.locks, -9223372036854775808 ≤ p.1 ∧ p.1 ≤ 9223372036854775807 := by
    intro p hp
    obtain ⟨e, he, rfl⟩ := List.mem_map.1 hp
    have := r.keys e he
    simp only; omega
  have hpl : (ptrs t.locks).length = t.locks.length := by unfold ptrs; rw [List.length_map]
  have H := H.ord [0, 2]
  refine cl_mono (sorted_keysB hkr (by have := r.len; omega) H) ?_
  rintro r7 w2 ⟨ks0, hks, H⟩
  have hpk : (ptrs t.locks).map (·.1) = t.locks.map (·.1) := by unfold ptrs; rw [List.map_map]; rfl
  have hq : (ks0.mergeSort fun x y => decide (x ≤ y)) = sortI (t.locks.map (·.1)) := by rw [← hpk]; exact sortI_perm hks
  rw [hq] at H
  have hkl := sortI_lt r.kd
  have hkm : ∀ k, k ∈ sortI (t.locks.map (·.1)) ↔ ∃ L, (k, L) ∈ t.locks := by
    intro k
    rw [(sortI_p _).mem_iff, List.mem_map]
    constructor
    · rintro ⟨⟨a, L⟩, h1, h2⟩; exact ⟨L, by rw [← h2]; exact h1⟩
    · rintro ⟨L, h⟩; exact ⟨_, h, rfl⟩
  have hkn : (sortI (t.locks.map (·.1))).length ≤ n := by rw [(sortI_p _).length_eq, List.length_map]; exact r.len
  generalize sortI (t.locks.map (·.1)) = ks at H hkl hkm hkn
  have H := row_stay H
  -- ro r7, cel bm, mapE ml, cel t.b, mapE mw, mapE md, bigL
  have H := ((H.front 1).drop).ord [2, 1, 3, 4, 5]
  have H := row_nil T55 56 2 ((tab_shut H).front 1)
  have H : St W (row T55 56 2 nilS ([] : List S55) :: ro (tInt .i64) r7 ks :: tabA t :: l) w2 := H
  have lr7 : r7.len = ks.length := ro_len (H.front 1)
  have hWk : ∀ y ∈ m.W, y.Key ∈ ks := fun y hy => by
    obtain ⟨L, h1, _⟩ := (r.W y).1 hy
    exact (hkm _).2 ⟨L, h1⟩
  have hg0 : give (upto m (ks.take ((0 : Int)).toNat)) m = (m, []) := by
    have : upto m (ks.take ((0 : Int)).toNat) = [] := by unfold upto; simp
    rw [this]; rfl
  refine lp_i (fun (s : Slc × Int) w => 0 ≤ s.2 ∧ s.2 ≤ ks.length ∧ ∃ t', t'.b = t.b ∧ Rel t' (give (upto m (ks.take s.2.toNat)) m).1 n ∧ (∀ k ∈ ks.drop s.2.toNat, ∃ L, (k, L) ∈ t'.locks) ∧ St W (row T55 56 2 s.1 (give (upto m (ks.take s.2.toNat)) m).2 :: ro (tInt .i64) r7 ks :: tabA t' :: l) w) (fun s => (ks.length - s.2).toNat)
    ⟨Int.le_refl 0, by simp only; omega, t, rfl, by rw [hg0]; exact r, fun k hk => (hkm k).1 (by simpa using hk), by rw [hg0]; exact H⟩ ?_
  clear H hq
  rintro ⟨out, i⟩ w ⟨i0, i1, t', hb, rel, hrest, H⟩
  simp only at i0 i1 rel hrest H ⊢
  unfold F29_l1
  split
  · rename_i hc
    have hc : i < ks.length := by simp at hc; omega
    have e1 : IntKind.i64.wrap (i + 1) = i + 1 := wrap_i64 (by omega) (by omega)
    have hx : ks[i.toNat]? = some ks[i.toNat] := List.getElem?_eq_getElem (by omega)
    have hdr : ks.drop i.toNat = ks[i.toNat] :: ks.drop (i.toNat + 1) := List.drop_eq_getElem_cons (by omega)
    generalize ks[i.toNat] = k at hx hdr
    have hstep := upto_step r.oW hkl hx
    have hklt : ∀ k' ∈ ks.drop (i.toNat + 1), k < k' := by
      have : (ks.drop i.toNat).Pairwise fun x y => x < y := hkl.sublist (List.drop_sublist _ _)
      rw [hdr] at this
      exact (List.pairwise_cons.1 this).1
    obtain ⟨L, hL⟩ := hrest k (by rw [hdr]; exact List.mem_cons_self ..)
    obtain ⟨l1, l2, hsp⟩ := List.append_of_mem hL
    have hlook : t'.locks.lookup k = some L := mem_look rel.kd hL
    obtain ⟨a, ha⟩ := ro_ix (sz := 1) (i := i) (H.front 1) i0 hc
    refine ex_i a ha ?_
    refine ex_i k (rd_ro (T := tInt .i64) (fun _ => rfl) ha hx (H.front 1)) ?_
    have H := opened hsp (H.front 2)
    rw [hb] at H
    refine ld_st (x := some t'.ml) 4 H rfl rfl rfl ?_
    refine mget_st 5 H rfl rfl ?_
    rw [lookup_ptrs, hlook]
    refine nc_st (a := ⟨L.b, 0, none⟩) (by simp) ?_
    refine ld_st (x := some L.w) 0 H rfl rfl rfl ?_
    refine F27_ok ?_
    unfold F27
    refine nw_st H fun bm2 w3 H => ?_
    refine cl_mono (sorted_keys (rel.rW _ hL) (by have := rel.sz _ hL; simp only at this ⊢; omega) (H.ord [0, 3])) ?_
    rintro r23 w4 ⟨ts0, hts, H⟩
    have hts : (ts0.mergeSort fun x y => decide (x ≤ y)) = sortI (L.ws.map (·.1)) := sortI_perm hts
    rw [hts] at H
    have hsub := give_sub (upto m (ks.take i.toNat)) m
    have hqmem : ∀ y, y ∈ ofKey m k ↔ y ∈ (give (upto m (ks.take i.toNat)) m).1.W ∧ y.Key = k := by
      intro y
      unfold ofKey
      rw [List.mem_filter]
      constructor
      · rintro ⟨h1, h2⟩
        have h2 : y.Key = k := by simpa using h2
        refine ⟨give_keep _ m y h1 fun x hx' e => ?_, h2⟩
        obtain ⟨h3, h4⟩ := List.mem_filter.1 hx'
        have := nodup_inj hN y h1 x h3 e
        subst this
        have h4 : y.Key ∈ ks.take i.toNat := by simpa using h4
        rw [h2] at h4
        have hp : (ks.take i.toNat ++ ks.drop i.toNat).Pairwise fun x y => x < y := by rw [List.take_append_drop]; exact hkl
        have := (List.pairwise_append.1 hp).2.2 k h4 k (by rw [hdr]; exact List.mem_cons_self ..)
        omega
      · rintro ⟨h1, h2⟩
        exact ⟨hsub.subset h1, by simpa using h2⟩
    have htx : sortI (L.ws.map (·.1)) = (ofKey m k).map (·.Tx) := by
      refine int_eq (sortI_lt (rel.vd _ hL)) ?_ fun x => ?_
      · have : (ofKey m k).Pairwise fun a b => a.Tx < b.Tx := by
          refine List.Pairwise.imp_of_mem ?_ (ord_filter (p := fun y => y.Key == k) r.oW)
          intro a b ha hb' h
          have h1 : a.Key = k := by simpa using (List.mem_filter.1 ha).2
          have h2 : b.Key = k := by simpa using (List.mem_filter.1 hb').2
          have := ltr_iff.1 h; omega
        exact List.Pairwise.map _ (fun _ _ h => h) this
      · rw [(sortI_p _).mem_iff, List.mem_map, List.mem_map]
        constructor
        · rintro ⟨p, hp, rfl⟩
          exact ⟨⟨p.1, k, p.2⟩, (hqmem _).2 ⟨(rel.atW hsp).2 hp, rfl⟩, rfl⟩
        · rintro ⟨y, hy, rfl⟩
          obtain ⟨h1, h2⟩ := (hqmem y).1 hy
          exact ⟨(y.Tx, y.Write), (rel.atW hsp).1 (by rw [← row_form h2]; exact h1), rfl⟩
    rw [htx] at H
    have hqN : ((ofKey m k).map (·.Tx)).Nodup := hN.sublist (List.filter_sublist.map _)
    have hqW : ∀ y ∈ ofKey m k, y ∈ m.W ∧ y.Key = k := fun y hy => by
      obtain ⟨h1, h2⟩ := List.mem_filter.1 hy
      exact ⟨h1, by simpa using h2⟩
    have hql : (ofKey m k).length ≤ 1000 := Nat.le_trans (List.length_filter_le _ _) hWl
    have hul : (upto m (ks.take i.toNat)).length ≤ 1000 := Nat.le_trans (List.length_filter_le _ _) hWl
    have hqp : ∀ y ∈ ofKey m k, ∀ x ∈ upto m (ks.take i.toNat), y.Tx ≠ x.Tx := by
      intro y hy x hx' e
      obtain ⟨h3, h4⟩ := List.mem_filter.1 hx'
      have := nodup_inj hN y (hqW y hy).1 x h3 e
      subst this
      have h4 : y.Key ∈ ks.take i.toNat := by simpa using h4
      rw [(hqW y hy).2] at h4
      have hp : (ks.take i.toNat ++ ks.drop i.toNat).Pairwise fun x y => x < y := by rw [List.take_append_drop]; exact hkl
      have := (List.pairwise_append.1 hp).2.2 k h4 k (by rw [hdr]; exact List.mem_cons_self ..)
      omega
    generalize ofKey m k = q at H hstep hqN hqW hql hqp hqmem htx
    have H := row_stay H
    -- ro r23, cel bm2, mapE w, cel L.b, mapE h, bigL, cel t.b, mapE ml, mapE mw, mapE md, row out, ro r7
    have H := ((H.front 1).drop).ord [2, 3, 1, 4, 5, 6, 7, 8]
    have H := closed hsp (by rw [hb]; exact H)
    have H : St W (row T55 56 2 out (give (upto m (ks.take i.toNat)) m).2 :: ro (tInt .i64) r7 ks :: ro (tInt .i64) r23 (q.map (·.Tx)) :: tabA t' :: l) w4 := H.ord [2, 3, 1]
    have lr23 : r23.len = q.length := by have := ro_len (H.front 2); rwa [List.length_map] at this
    refine lp_i (fun (s : Slc × Int) w => 0 ≤ s.2 ∧ s.2 ≤ q.length ∧ ∃ t2 L2 a1 a2, t2.b = t.b ∧ t2.locks = a1 ++ (k, L2) :: a2 ∧ L2.b = L.b ∧ Rel t2 (give (upto m (ks.take i.toNat) ++ q.take s.2.toNat) m).1 n ∧ (∀ k' ∈ ks.drop (i.toNat + 1), ∃ L', (k', L') ∈ t2.locks) ∧
        St W (row T55 56 2 s.1 (give (upto m (ks.take i.toNat) ++ q.take s.2.toNat) m).2 :: ro (tInt .i64) r7 ks :: ro (tInt .i64) r23 (q.map (·.Tx)) :: tabA t2 :: l) w) (fun s => (q.length - s.2).toNat)
      ⟨Int.le_refl 0, by simp only; omega, t', L, l1, l2, hb, hsp, rfl, by simpa using rel, fun k' hk' => hrest k' (by rw [hdr]; exact List.mem_cons_of_mem _ hk'), by simpa using H⟩ ?_
    clear H rel hrest hL hlook hqmem htx hsub hsp hb
    rintro ⟨out, j⟩ w ⟨j0, j1, t2, L2, a1, a2, hb, hsp, hLb, rel, hrest, H⟩
    simp only at j0 j1 rel H ⊢
    have hmem : (k, L2) ∈ t2.locks := by rw [hsp]; simp
    have hlook : t2.locks.lookup k = some L2 := mem_look rel.kd hmem
    unfold F29_l3
    split
    · rename_i hcj
      have hcj : j < q.length := by simp at hcj; omega
      have e2 : IntKind.i64.wrap (j + 1) = j + 1 := wrap_i64 (by omega) (by omega)
      have hy : q[j.toNat]? = some q[j.toNat] := List.getElem?_eq_getElem (by omega)
      have hyt : q.take (j.toNat + 1) = q.take j.toNat ++ [q[j.toNat]] := List.take_succ_eq_append_getElem (by omega)
      generalize q[j.toNat] = x at hy hyt
      have hxq := List.mem_of_getElem? hy
      obtain ⟨hxW, hxk⟩ := hqW x hxq
      have hgt : give (upto m (ks.take i.toNat) ++ q.take (j.toNat + 1)) m = if may (give (upto m (ks.take i.toNat) ++ q.take j.toNat) m).1 x = true then (grant (give (upto m (ks.take i.toNat) ++ q.take j.toNat) m).1 x, (give (upto m (ks.take i.toNat) ++ q.take j.toNat) m).2 ++ [⟨x.Tx, x.Key⟩]) else give (upto m (ks.take i.toNat) ++ q.take j.toNat) m := by
        rw [hyt, ← List.append_assoc, give_append]
        simp only [give]
        by_cases c : may (give (upto m (ks.take i.toNat) ++ q.take j.toNat) m).1 x = true
        · rw [if_pos c, if_pos c]
        · rw [if_neg c, if_neg c, List.append_nil]
      have hxm : x ∈ (give (upto m (ks.take i.toNat) ++ q.take j.toNat) m).1.W := by
        refine give_keep _ m x hxW fun z hz e => ?_
        rcases List.mem_append.1 hz with hz | hz
        · exact hqp x hxq z hz e
        · have hz2 : z ∈ q := List.mem_of_mem_take hz
          have := nodup_inj hqN x hxq z hz2 e
          subst this
          have hnd : ((q.take j.toNat ++ [x]).map (·.Tx)).Nodup := by rw [← hyt]; exact hqN.sublist ((List.take_sublist _ _).map _)
          rw [List.map_append] at hnd
          exact (List.nodup_append.1 hnd).2.2 x.Tx (List.mem_map.2 ⟨x, hz, rfl⟩) x.Tx (List.mem_singleton.2 rfl) rfl
      have hNm : ((give (upto m (ks.take i.toNat) ++ q.take j.toNat) m).1.W.map (·.Tx)).Nodup := hN.sublist ((give_sub _ m).map _)
      have hol : (give (upto m (ks.take i.toNat) ++ q.take j.toNat) m).2.length ≤ 2000 := by
        have h1 := (give_lens (upto m (ks.take i.toNat) ++ q.take j.toNat) m).2.2
        have h2 : (q.take j.toNat).length ≤ q.length := List.length_take_le' _ _
        rw [List.length_append] at h1; omega
      generalize give (upto m (ks.take i.toNat) ++ q.take j.toNat) m = G at rel H hgt hxm hNm hol
      obtain ⟨M, outs⟩ := G
      simp only at rel H hgt hxm hNm hol
      have hxw : (x.Tx, x.Write) ∈ L2.ws := (rel.atW hsp).1 (by rw [← row_form hxk]; exact hxm)
      have hxl : L2.ws.lookup x.Tx = some x.Write := mem_look (rel.vd _ hmem) hxw
      have hmq : (q.map (·.Tx))[j.toNat]? = some x.Tx := by rw [List.getElem?_map, hy]; rfl
      obtain ⟨p, hp⟩ := ro_ix (sz := 1) (i := j) (H.front 2) j0 (by rw [List.length_map]; exact hcj)
      refine ex_i p hp ?_
      refine ex_i x.Tx (rd_ro (T := tInt .i64) (fun _ => rfl) hp hmq (H.front 2)) ?_
      have H := opened hsp (H.front 3)
      rw [hb, hLb] at H
      refine nw_st H fun b32 w5 H => ?_
      refine st_st (x := x.Tx) 0 H rfl rfl (Nat.le_of_ble_eq_true rfl) fun w6 H => ?_
      have H : St W (cel b32 [.int .i64 x.Tx] 3 :: _) w6 := H
      have H := St.stay H
      refine dr_st H fun w7 H => ?_
      refine ld_st (x := some L2.w) 1 H rfl rfl rfl ?_
      refine ex_i x.Tx (Know.fix (T := tInt .i64) (Know.here (m := fun h k => h _ _ k)) H rfl) ?_
      refine mget_st 3 H rfl rfl ?_
      rw [hxl]
      refine ex_i x.Tx (Know.fix (T := tInt .i64) (Know.here (m := fun h k => h _ _ k)) H rfl) ?_
      refine cl_mono (against_spec (tx := x.Tx) (write := x.Write) H) ?_
      intro fn w8 H
      refine nw_st H fun b42 w9 H => ?_
      refine st_st (x := fn) 0 H rfl rfl (Nat.le_of_ble_eq_true rfl) fun w10 H => ?_
      have H : St W (cel b42 [fn.enc] 70 :: _) w10 := H
      have H := St.stay H
      have H : St W (ever (fun I => I b42 = some (.cells [fn.enc].toArray 70)) (fun h k => h _ _ k) :: ever (AgP fn x.Tx x.Write) AgP.mono :: ever (fun I => I b32 = some (.cells [.int .i64 x.Tx].toArray 3)) (fun h k => h _ _ k) :: cel L.b (T67.cells ⟨some L2.h, some L2.w⟩) 68 :: mapE tBool .i64 L2.h L2.hs :: mapE tBool .i64 L2.w L2.ws :: bigL (a1 ++ a2) :: cel t.b (T61.cells ⟨some t2.ml, some t2.mw, some t2.md⟩) 62 :: mapE tPtr .i64 t2.ml (ptrs t2.locks) :: mapE (tInt .i64) .i64 t2.mw t2.waits :: mapE T77 .i64 t2.md t2.dead :: row T55 56 2 out outs :: ro (tInt .i64) r7 ks :: ro (tInt .i64) r23 (q.map (·.Tx)) :: l) w10 := H
      refine dr_st H fun w11 H => ?_
      refine ld_st (x := some L2.h) 3 H rfl rfl rfl ?_
      refine ex_i fn (Know.fix (T := tFun) (Know.here (m := fun h k => h _ _ k)) H rfl) ?_
      -- what the round ends with
      have fin : ∀ (g : Bool) (w : World), g = !may M x → St W (ever (fun I => I b42 = some (.cells [fn.enc].toArray 70)) (fun h k => h _ _ k) :: ever (AgP fn x.Tx x.Write) AgP.mono :: ever (fun I => I b32 = some (.cells [.int .i64 x.Tx].toArray 3)) (fun h k => h _ _ k) :: cel L.b (T67.cells ⟨some L2.h, some L2.w⟩) 68 :: mapE tBool .i64 L2.h L2.hs :: mapE tBool .i64 L2.w L2.ws :: bigL (a1 ++ a2) :: cel t.b (T61.cells ⟨some t2.ml, some t2.mw, some t2.md⟩) 62 :: mapE tPtr .i64 t2.ml (ptrs t2.locks) :: mapE (tInt .i64) .i64 t2.mw t2.waits :: mapE T77 .i64 t2.md t2.dead :: row T55 56 2 out outs :: ro (tInt .i64) r7 ks :: ro (tInt .i64) r23 (q.map (·.Tx)) :: l) w →
          ∀ R, F29_j5 ⟨t.b, 0, none⟩ k ⟨L.b, 0, none⟩ out j ⟨b32, 0, none⟩ (some x.Write) g w (fun s' w' => (0 ≤ s'.2 ∧ s'.2 ≤ q.length ∧ ∃ t2 L2 a1 a2, t2.b = t.b ∧ t2.locks = a1 ++ (k, L2) :: a2 ∧ L2.b = L.b ∧ Rel t2 (give (upto m (ks.take i.toNat) ++ q.take s'.2.toNat) m).1 n ∧ (∀ k' ∈ ks.drop (i.toNat + 1), ∃ L', (k', L') ∈ t2.locks) ∧
              St W (row T55 56 2 s'.1 (give (upto m (ks.take i.toNat) ++ q.take s'.2.toNat) m).2 :: ro (tInt .i64) r7 ks :: ro (tInt .i64) r23 (q.map (·.Tx)) :: tabA t2 :: l) w') ∧ (q.length - s'.2).toNat < (q.length - j).toNat) R := by
        intro g w hg H R
        unfold F29_j5
        split
        · rename_i hgt2
          have hm : may M x = false := by rw [hgt2] at hg; simpa using hg.symm
          rw [if_neg (by rw [hm]; decide)] at hgt
          unfold F29_j4
          rw [e2]
          refine ⟨⟨by simp only; omega, by simp only; omega, t2, L2, a1, a2, hb, hsp, hLb, ?_, hrest, ?_⟩, by simp only; omega⟩
          · simp only; rw [show (j + 1).toNat = j.toNat + 1 from by omega, hgt]; exact rel
          · simp only; rw [show (j + 1).toNat = j.toNat + 1 from by omega, hgt]
            have H := H.drop.drop.drop
            have H := closed hsp (by rw [hb, hLb]; exact H)
            exact H.ord [1, 2, 3]
        · rename_i hgf
          have hm : may M x = true := by
            have : g = false := by simpa using hgf
            rw [this] at hg; simpa using hg.symm
          rw [if_pos hm] at hgt
          refine dr_st H fun w12 H => ?_
          refine ld_st (x := some L2.h) 3 H rfl rfl rfl ?_
          refine ex_i x.Tx (Know.fix (T := tInt .i64) (Know.tail (Know.tail (Know.here (m := fun h k => h _ _ k)))) H rfl) ?_
          refine ld_st (x := some L2.h) 3 H rfl rfl rfl ?_
          refine ex_i x.Tx (Know.fix (T := tInt .i64) (Know.tail (Know.tail (Know.here (m := fun h k => h _ _ k)))) H rfl) ?_
          refine mget_st 4 H rfl rfl ?_
          refine mput_st 4 H rfl rfl fun w13 H => ?_
          refine dr_st H fun w14 H => ?_
          refine ld_st (x := some L2.w) 4 H rfl rfl rfl ?_
          refine ex_i x.Tx (Know.fix (T := tInt .i64) (Know.tail (Know.tail (Know.tail (Know.here (m := fun h k => h _ _ k))))) H rfl) ?_
          refine mdel_st 5 H rfl rfl fun w15 H => ?_
          refine dr_st H fun w16 H => ?_
          refine ld_st (x := some t2.mw) 7 H rfl rfl rfl ?_
          refine ex_i x.Tx (Know.fix (T := tInt .i64) (Know.tail (Know.tail (Know.tail (Know.tail (Know.here (m := fun h k => h _ _ k)))))) H rfl) ?_
          refine mdel_st 9 H rfl rfl fun w17 H => ?_
          -- mapE mw, mapE w, mapE h, ever, ever, ever, cel L.b, bigL, cel t.b, mapE ml, mapE md, row out, ro, ro
          refine ex_i x.Tx (Know.fix (T := tInt .i64) (Know.tail (Know.tail (Know.tail (Know.tail (Know.tail (Know.here (m := fun h k => h _ _ k))))))) H rfl) ?_
          refine apl_row (fun _ => rfl) 11 H rfl (by simp only [List.length_singleton]; omega) fun ro2 w18 H => ?_
          -- row out, mapE mw, mapE w, mapE h, ever, ever, ever, cel L.b, bigL, cel t.b, mapE ml, mapE md, ro, ro
          unfold F29_j4
          rw [e2]
          have H := H.ord [7, 3, 2, 8, 9, 10, 1, 11, 0, 12, 13]
          have H := (((H.front 11).drop.front 11).drop.front 11).drop
          have hpt : ptrs t2.locks = ptrs (grantT t2 a1 a2 k L2 x).locks := by
            rw [hsp]; unfold grantT ptrs
            simp
          rw [hpt] at H
          have hsp2 : (grantT t2 a1 a2 k L2 x).locks = a1 ++ (k, { L2 with hs := ups x.Tx ((L2.hs.lookup x.Tx).getD false || x.Write) L2.hs, ws := del x.Tx L2.ws }) :: a2 := rfl
          refine ⟨⟨by simp only; omega, by simp only; omega, grantT t2 a1 a2 k L2 x, _, a1, a2, hb, hsp2, hLb, ?_, ?_, ?_⟩, by simp only; omega⟩
          · simp only; rw [show (j + 1).toNat = j.toNat + 1 from by omega, hgt]
            exact rel.grant hsp hxk hxm hNm
          · intro k' hk'
            obtain ⟨L', h'⟩ := hrest k' hk'
            have := hklt k' hk'
            exact ⟨L', (turned_mem rel.kd hsp).2 (.inr ⟨by omega, h'⟩)⟩
          · simp only; rw [show (j + 1).toNat = j.toNat + 1 from by omega, hgt]
            have H := closed hsp2 (by rw [show (grantT t2 a1 a2 k L2 x).b = t.b from hb, show ({ L2 with hs := ups x.Tx ((L2.hs.lookup x.Tx).getD false || x.Write) L2.hs, ws := del x.Tx L2.ws } : LkP).b = L.b from hLb]; exact H)
            rw [hxk]
            exact H.ord [1, 2, 3]
      have hcH := rel.confH hsp hxk
      have hcW := rel.confW hsp hxk
      have kAg : ∀ A, Know (A :: ever (AgP fn x.Tx x.Write) AgP.mono :: ever (fun I => I b32 = some (.cells [.int .i64 x.Tx].toArray 3)) (fun h k => h _ _ k) :: cel L.b (T67.cells ⟨some L2.h, some L2.w⟩) 68 :: mapE tBool .i64 L2.w L2.ws :: bigL (a1 ++ a2) :: cel t.b (T61.cells ⟨some t2.ml, some t2.mw, some t2.md⟩) 62 :: mapE tPtr .i64 t2.ml (ptrs t2.locks) :: mapE (tInt .i64) .i64 t2.mw t2.waits :: mapE T77 .i64 t2.md t2.dead :: row T55 56 2 out outs :: ro (tInt .i64) r7 ks :: ro (tInt .i64) r23 (q.map (·.Tx)) :: l) (AgP fn x.Tx x.Write) := fun _ => (Know.here (m := AgP.mono)).tail
      refine cl_mono (any_spec (pr := fun o b => ag x.Tx x.Write o b) (fun l' w o b H => no_spec ((kAg _).app l') H o b) (H.front 4)) ?_
      rintro g w12 ⟨hg, H⟩
      have H := H.ord [1, 2, 3, 4]
      split
      · rename_i hgt2
        refine fin true w12 ?_ H _
        unfold may
        rw [hg, hcH] at hgt2
        simp only [Bool.not_eq_true'] at hgt2
        rw [hgt2]; rfl
      · rename_i hgf
        refine ld_st (x := some L2.w) 3 H rfl rfl rfl ?_
        have kAg2 : ∀ A, Know (A :: ever (AgP fn x.Tx x.Write) AgP.mono :: ever (fun I => I b32 = some (.cells [.int .i64 x.Tx].toArray 3)) (fun h k => h _ _ k) :: cel L.b (T67.cells ⟨some L2.h, some L2.w⟩) 68 :: mapE tBool .i64 L2.h L2.hs :: bigL (a1 ++ a2) :: cel t.b (T61.cells ⟨some t2.ml, some t2.mw, some t2.md⟩) 62 :: mapE tPtr .i64 t2.ml (ptrs t2.locks) :: mapE (tInt .i64) .i64 t2.mw t2.waits :: mapE T77 .i64 t2.md t2.dead :: row T55 56 2 out outs :: ro (tInt .i64) r7 ks :: ro (tInt .i64) r23 (q.map (·.Tx)) :: l) (AgP fn x.Tx x.Write) := fun _ => (Know.here (m := AgP.mono)).tail
        have kEl : Know (ever (fun I => I b42 = some (.cells [fn.enc].toArray 70)) (fun h k => h _ _ k) :: ever (AgP fn x.Tx x.Write) AgP.mono :: ever (fun I => I b32 = some (.cells [.int .i64 x.Tx].toArray 3)) (fun h k => h _ _ k) :: cel L.b (T67.cells ⟨some L2.h, some L2.w⟩) 68 :: mapE tBool .i64 L2.h L2.hs :: bigL (a1 ++ a2) :: cel t.b (T61.cells ⟨some t2.ml, some t2.mw, some t2.md⟩) 62 :: mapE tPtr .i64 t2.ml (ptrs t2.locks) :: mapE (tInt .i64) .i64 t2.mw t2.waits :: mapE T77 .i64 t2.md t2.dead :: row T55 56 2 out outs :: ro (tInt .i64) r7 ks :: ro (tInt .i64) r23 (q.map (·.Tx)) :: l)
            (ElP (Fv.mk (.func 41) (List.toArray []) (List.toArray [.pointer (some ⟨b32, 0, none⟩), .pointer (some ⟨b42, 0, none⟩)])) x.Tx fn) := fun I h hl =>
          ⟨b32, b42, rfl, (Know.tail (Know.tail (Know.here (m := fun h k => h _ _ k)))) I h hl, Know.here (m := fun h k => h _ _ k) I h hl⟩
        refine cl_mono (any_spec (pr := fun o b => decide (o < x.Tx) && ag x.Tx x.Write o b) (fun l' w o b H => elder_spec (kEl.app l') ((kAg2 _).app l') H o b) (H.front 5)) ?_
        rintro g2 w13 ⟨hg2, H⟩
        have H := H.ord [1, 2, 3, 4, 5]
        refine ⟨rdat_cel tMap (H.front 3) rfl rfl, ?_⟩
        refine ⟨Know.fix (T := tFun) (Know.here (m := fun h k => h _ _ k)) H rfl, ?_⟩
        refine fin g2 w13 ?_ H _
        unfold may
        have hgf : g = false := by simpa using hgf
        rw [hg, hcH] at hgf
        rw [hg2, hcW]
        have : (M.H.all fun y => !(y.Key == x.Key) || tog y x) = true := by simpa using hgf
        rw [this, Bool.true_and]
    · rename_i hcj
      have hcj : j = q.length := by simp at hcj; omega
      subst hcj
      have et : q.take ((q.length : Int)).toNat = q := by simp
      rw [et, ← hstep] at rel H
      clear j0 j1 et
      have H := opened hsp (H.front 3)
      rw [hb, hLb] at H
      refine dr_st H fun w5 H => ?_
      refine ld_st (x := some L2.h) 0 H rfl rfl rfl ?_
      refine mlen_st 1 H rfl rfl ?_
      refine ld_st (x := some L2.w) 0 H rfl rfl rfl ?_
      refine mlen_st 2 H rfl rfl ?_
      have hsz := rel.sz _ hmem
      simp only at hsz
      have ew : IntKind.i64.wrap ((L2.hs.length : Int) + (L2.ws.length : Int)) = L2.hs.length + L2.ws.length := wrap_i64 (by omega) (by omega)
      rw [ew]
      split
      · rename_i hz
        have hz : L2.hs.length = 0 ∧ L2.ws.length = 0 := by simp at hz; omega
        have h1 := List.eq_nil_of_length_eq_zero hz.1
        have h2 := List.eq_nil_of_length_eq_zero hz.2
        refine ld_st (x := some t2.ml) 4 H rfl rfl rfl ?_
        refine mdel_st 5 H rfl rfl fun w6 H => ?_
        have hkd := rel.kd
        rw [hsp] at hkd
        rw [hsp, del_ptrs hkd] at H
        -- mapE ml, cel L.b, mapE h, mapE w, bigL, cel t.b, mapE mw, mapE md, row, ro, ro
        unfold F29_j2
        rw [e1]
        have H := H.ord [5, 0, 6, 7, 4, 8, 9]
        have H := ((((H.front 7).drop.front 7).drop.front 7).drop.front 7).drop
        have H : St W (cel t2.b (T61.cells ⟨some t2.ml, some t2.mw, some t2.md⟩) 62 :: mapE tPtr .i64 t2.ml (ptrs (a1 ++ a2)) :: mapE (tInt .i64) .i64 t2.mw t2.waits :: mapE T77 .i64 t2.md t2.dead :: bigL (a1 ++ a2) :: row T55 56 2 out (give (upto m (ks.take (i.toNat + 1))) m).2 :: ro (tInt .i64) r7 ks :: l) w6 := by rw [hb]; exact H
        refine ⟨⟨by simp only; omega, by simp only; omega, { t2 with locks := a1 ++ a2 }, hb, ?_, ?_, ?_⟩, by simp only; omega⟩
        · simp only; rw [show (i + 1).toNat = i.toNat + 1 from by omega]
          exact rel.drop hsp h1 h2
        · simp only; rw [show (i + 1).toNat = i.toNat + 1 from by omega]
          intro k' hk'
          obtain ⟨L', h'⟩ := hrest k' hk'
          have := hklt k' hk'
          rcases (locks_mem rel.kd hsp).1 h' with ⟨h3, _⟩ | ⟨_, h3⟩
          · omega
          · exact ⟨L', h3⟩
        · simp only; rw [show (i + 1).toNat = i.toNat + 1 from by omega]
          exact (tab_shut (t := { t2 with locks := a1 ++ a2 }) H).ord [1, 2]
      · unfold F29_j2
        rw [e1]
        have H := closed hsp (by rw [hb, hLb]; exact H)
        refine ⟨⟨by simp only; omega, by simp only; omega, t2, hb, ?_, ?_, ?_⟩, by simp only; omega⟩
        · simp only; rw [show (i + 1).toNat = i.toNat + 1 from by omega]; exact rel
        · simp only; rw [show (i + 1).toNat = i.toNat + 1 from by omega]; exact hrest
        · simp only; rw [show (i + 1).toNat = i.toNat + 1 from by omega]
          exact ((H.front 3).drop).ord [1, 2]
  · rename_i hc
    have hc : i = ks.length := by simp at hc; omega
    subst hc
    have et : upto m (ks.take ((ks.length : Int)).toNat) = m.W := by
      have : ks.take ((ks.length : Int)).toNat = ks := by simp
      rw [this]
      unfold upto
      refine List.filter_eq_self.2 fun y hy => ?_
      simpa using hWk y hy
    rw [et] at rel H
    have H := tab_open (H.front 2)
    rw [hb] at H
    refine ld_st (x := some t'.ml) 0 H rfl rfl rfl ?_
    refine mlen_st 1 H rfl rfl ?_
    unfold F29_j6
    split
    · rename_i hz
      have hz : t'.locks = [] := by
        apply List.eq_nil_of_length_eq_zero
        have : (ptrs t'.locks).length = t'.locks.length := by unfold ptrs; rw [List.length_map]
        simp at hz; rw [hz] at this; simpa [ptrs] using this.symm
      refine ld_st (x := some t'.mw) 0 H rfl rfl rfl ?_
      refine mclr_st 2 H rfl rfl fun w3 H => ?_
      have hw : t'.waits = [] := by
        cases hww : t'.waits with
        | nil => rfl
        | cons p r' =>
          obtain ⟨y, hy, _⟩ := (rel.ws p.1 p.2).1 (by rw [hww]; exact List.mem_cons_self ..)
          obtain ⟨L, h1, _⟩ := (rel.W y).1 hy
          rw [hz] at h1; cases h1
      -- mapE mw, cel, mapE ml, mapE md, bigL, row, ro
      have H := H.ord [1, 2, 0, 3, 4]
      rw [← hw, ← hb] at H
      refine ⟨t', hb, rel, ?_⟩
      exact (((tab_shut H).front 2).drop).front 1
    · refine ⟨t', hb, rel, ?_⟩
      rw [← hb] at H
      exact (((tab_shut H).front 2).drop).front 1
end
end Go.Proofs.Ytojcgejjdfcaaaa.Locks
