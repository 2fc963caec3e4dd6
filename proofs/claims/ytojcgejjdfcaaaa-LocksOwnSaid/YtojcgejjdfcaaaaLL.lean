/- Contracts at a table's own address; the law's own functions does and awake. -/
import Derived.Test.YtojcgejjdfcaaaaLJ
import Derived.Test.YtojcgejjdfcaaaaLK
namespace Go.Proofs.Ytojcgejjdfcaaaa.Locks
open Go Go.Proofs.Ytojcgejjdfcaaaa.Cf
set_option linter.unusedVariables false
set_option linter.unusedSimpArgs false
set_option maxRecDepth 100000
set_option maxHeartbeats 2000000
section
variable {W w : World} {l l' : List Assn}
theorem map_inj53 {q : List S79} {f : Int → S53} (h : ∀ y ∈ q, f y.Tx = ⟨y.Tx, y.Write⟩) : (q.map (·.Tx)).map f = q.map fun y => (⟨y.Tx, y.Write⟩ : S53) := by
  rw [List.map_map]
  exact List.map_congr_left h
theorem Rel.toldH {t : TbP} {m : Md} {n : Nat} (r : Rel t m n) (k : Int) : Locks.toldH t k = of m.H k := by
  unfold Locks.toldH of
  cases hl : t.locks.lookup k with
  | none =>
    symm
    have : (m.H.filter fun y => y.Key == k) = [] := by
      rw [List.filter_eq_nil_iff]
      intro y hy h
      obtain ⟨L, h1, _⟩ := (r.H y).1 hy
      have h : y.Key = k := by simpa using h
      rw [h] at h1
      rw [mem_look r.kd h1] at hl; cases hl
    rw [this]; rfl
  | some L =>
    obtain ⟨l1, l2, h⟩ := lookup_split hl
    have hmem := look_mem hl
    have hd := r.hd _ hmem
    show told L.hs = _
    unfold told
    have e : sortI (L.hs.map (·.1)) = (m.H.filter fun y => y.Key == k).map (·.Tx) := by
      refine int_eq (sortI_lt hd) ?_ fun x => ?_
      · have : (m.H.filter fun y => y.Key == k).Pairwise fun a b => a.Tx < b.Tx := by
          refine List.Pairwise.imp_of_mem ?_ (ord_filter (p := fun y => y.Key == k) r.oH)
          intro a b ha hb' h
          have h1 : a.Key = k := by simpa using (List.mem_filter.1 ha).2
          have h2 : b.Key = k := by simpa using (List.mem_filter.1 hb').2
          have := ltr_iff.1 h; omega
        exact List.Pairwise.map _ (fun _ _ h => h) this
      · rw [(sortI_p _).mem_iff, List.mem_map, List.mem_map]
        constructor
        · rintro ⟨p, hp, rfl⟩
          exact ⟨⟨p.1, k, p.2⟩, List.mem_filter.2 ⟨(r.atH h).2 hp, by simp⟩, rfl⟩
        · rintro ⟨y, hy, rfl⟩
          obtain ⟨h1, h2⟩ := List.mem_filter.1 hy
          have h2 : y.Key = k := by simpa using h2
          exact ⟨(y.Tx, y.Write), (r.atH h).1 (by rw [← row_form h2]; exact h1), rfl⟩
    rw [e]
    refine map_inj53 fun y hy => ?_
    obtain ⟨h1, h2⟩ := List.mem_filter.1 hy
    have h2 : y.Key = k := by simpa using h2
    rw [mem_look hd ((r.atH h).1 (by rw [← row_form h2]; exact h1))]; rfl
theorem Rel.toldW {t : TbP} {m : Md} {n : Nat} (r : Rel t m n) (k : Int) : Locks.toldW t k = of m.W k := by
  unfold Locks.toldW of
  cases hl : t.locks.lookup k with
  | none =>
    symm
    have : (m.W.filter fun y => y.Key == k) = [] := by
      rw [List.filter_eq_nil_iff]
      intro y hy h
      obtain ⟨L, h1, _⟩ := (r.W y).1 hy
      have h : y.Key = k := by simpa using h
      rw [h] at h1
      rw [mem_look r.kd h1] at hl; cases hl
    rw [this]; rfl
  | some L =>
    obtain ⟨l1, l2, h⟩ := lookup_split hl
    have hmem := look_mem hl
    have hd := r.vd _ hmem
    show told L.ws = _
    unfold told
    have e : sortI (L.ws.map (·.1)) = (m.W.filter fun y => y.Key == k).map (·.Tx) := by
      refine int_eq (sortI_lt hd) ?_ fun x => ?_
      · have : (m.W.filter fun y => y.Key == k).Pairwise fun a b => a.Tx < b.Tx := by
          refine List.Pairwise.imp_of_mem ?_ (ord_filter (p := fun y => y.Key == k) r.oW)
          intro a b ha hb' h
          have h1 : a.Key = k := by simpa using (List.mem_filter.1 ha).2
          have h2 : b.Key = k := by simpa using (List.mem_filter.1 hb').2
          have := ltr_iff.1 h; omega
        exact List.Pairwise.map _ (fun _ _ h => h) this
      · rw [(sortI_p _).mem_iff, List.mem_map, List.mem_map]
        constructor
        · rintro ⟨p, hp, rfl⟩
          exact ⟨⟨p.1, k, p.2⟩, List.mem_filter.2 ⟨(r.atW h).2 hp, by simp⟩, rfl⟩
        · rintro ⟨y, hy, rfl⟩
          obtain ⟨h1, h2⟩ := List.mem_filter.1 hy
          have h2 : y.Key = k := by simpa using h2
          exact ⟨(y.Tx, y.Write), (r.atW h).1 (by rw [← row_form h2]; exact h1), rfl⟩
    rw [e]
    refine map_inj53 fun y hy => ?_
    obtain ⟨h1, h2⟩ := List.mem_filter.1 hy
    have h2 : y.Key = k := by simpa using h2
    rw [mem_look hd ((r.atW h).1 (by rw [← row_form h2]; exact h1))]; rfl
/-- A table at an address, alike the document's. -/
def tbl (b : Nat) (m : Md) (n : Nat) : Assn := exA fun t : TbP => sepA [puA (t.b = b ∧ Rel t m n), tabA t]
theorem tbl_open {b : Nat} {m : Md} {n : Nat} (H : St W (tbl b m n :: l) w) : ∃ t : TbP, t.b = b ∧ Rel t m n ∧ St W (tabA t :: l) w := by
  obtain ⟨t, H⟩ := H.ex
  obtain ⟨⟨h1, h2⟩, H⟩ := St.pu (φ := t.b = b ∧ Rel t m n) H.open_
  exact ⟨t, h1, h2, H⟩
theorem tbl_shut {t : TbP} {b : Nat} {m : Md} {n : Nat} (h1 : t.b = b) (h2 : Rel t m n) (H : St W (tabA t :: l) w) : St W (tbl b m n :: l) w :=
  St.toEx t (St.shut (l' := [puA _, tabA t]) (St.toPu ⟨h1, h2⟩ H))
theorem new_B (H : St W l w) : cl Try.prog 9 [] tPtr w fun r w' => ∃ b, r = some ⟨b, 0, none⟩ ∧ St W (tbl b ⟨[], [], []⟩ 0 :: l) w' := by
  refine cl_mono (new_spec H) ?_
  rintro r w1 ⟨t, rfl, h1, h2, h3, H⟩
  refine ⟨t.b, rfl, tbl_shut rfl ⟨by simp [h1], by simp [h1], by simp [h1], by simp [h1], by simp [h1], by simp [h1], by simp [h1], by simp [h1], by simp [h2], by simp [h3], fun y => ?_, fun y => ?_, fun a b => ?_, fun tx => ?_, List.Pairwise.nil, List.Pairwise.nil⟩ H⟩
  · simp [h1]
  · simp [h1]
  · simp [h2]
  · simp [h3]
theorem dead_B {b n : Nat} {m : Md} {tx : Int} (H : St W (tbl b m n :: l) w) : cl Try.prog 18 [.pointer (some ⟨b, 0, none⟩), .int .i64 tx] tBool w fun r w' => r = m.D.any (· == tx) ∧ St W (tbl b m n :: l) w' := by
  obtain ⟨t, rfl, r, H⟩ := tbl_open H
  refine cl_mono (dead_spec (tx := tx) H) ?_
  rintro q w1 ⟨rfl, H⟩
  exact ⟨r.D tx, tbl_shut rfl r H⟩
theorem holds_B {b n : Nat} {m : Md} {k : Int} (hn : n ≤ 1000) (H : St W (tbl b m n :: l) w) : cl Try.prog 21 [.pointer (some ⟨b, 0, none⟩), .int .i64 k] tSlc w fun s w' => St W (row T53 54 2 s (of m.H k) :: tbl b m n :: l) w' := by
  obtain ⟨t, rfl, r, H⟩ := tbl_open H
  refine cl_mono (holds_of (k := k) (Nat.le_trans hn (by omega)) r.fit H) ?_
  intro s w1 H
  rw [r.toldH] at H
  exact (tbl_shut rfl r (H.front 1)).front 1
theorem waits_B {b n : Nat} {m : Md} {k : Int} (hn : n ≤ 1000) (H : St W (tbl b m n :: l) w) : cl Try.prog 22 [.pointer (some ⟨b, 0, none⟩), .int .i64 k] tSlc w fun s w' => St W (row T53 54 2 s (of m.W k) :: tbl b m n :: l) w' := by
  obtain ⟨t, rfl, r, H⟩ := tbl_open H
  refine cl_mono (waits_of (k := k) (Nat.le_trans hn (by omega)) r.fit H) ?_
  intro s w1 H
  rw [r.toldW] at H
  exact (tbl_shut rfl r (H.front 1)).front 1
theorem end_B {b n : Nat} {m : Md} {tx : Int} (hn : n ≤ 1000) (hN : (m.W.map (·.Tx)).Nodup) (hWl : m.W.length ≤ 1000) (H : St W (tbl b m n :: l) w) :
    cl Try.prog 15 [.pointer (some ⟨b, 0, none⟩), .int .i64 tx] (tTup2 tSlc (tInt .i64)) w fun q w' => q.2 = (end_ m tx).2.2 ∧ St W (row T55 56 2 q.1 (end_ m tx).2.1 :: tbl b (end_ m tx).1 n :: l) w' := by
  obtain ⟨t, rfl, r, H⟩ := tbl_open H
  refine cl_mono (end_T (tx := tx) hn r hN hWl H) ?_
  rintro q w1 ⟨t', h1, h2, h3, H⟩
  exact ⟨h2, (tbl_shut h1 h3 (H.front 1)).front 1⟩
theorem ask_B {b n : Nat} {m : Md} {x : S79} (hn : n ≤ 900) (hN : (m.W.map (·.Tx)).Nodup) (hWl : m.W.length ≤ 900) (hR : R64 x.Tx) (H : St W (tbl b m n :: l) w) :
    cl Try.prog 11 [.pointer (some ⟨b, 0, none⟩), .int .i64 x.Tx, .int .i64 x.Key, .bool x.Write] (tTup2 T33 (tInt .i64)) w fun q w' => q.2 = (ask m x).2.2 ∧ q.1.Granted = (ask m x).2.1.ok ∧
      St W (row (tInt .i64) 3 1 q.1.Wounded (ask m x).2.1.wo :: row T55 56 2 q.1.Woken (ask m x).2.1.wk :: tbl b (ask m x).1 (n + 2) :: l) w' := by
  obtain ⟨t, rfl, r, H⟩ := tbl_open H
  refine cl_mono (ask_T (x := x) hn r hN hWl hR H) ?_
  rintro q w1 ⟨t', h1, h2, h3, h4, H⟩
  exact ⟨h2, h3, (tbl_shut h1 h4 (H.front 2)).ord [1, 2]⟩
theorem tbl_mono {b : Nat} {m : Md} {n n' : Nat} (h : n ≤ n') (H : St W (tbl b m n :: l) w) : St W (tbl b m n' :: l) w := by
  obtain ⟨t, h1, h2, H⟩ := tbl_open H
  exact tbl_shut h1 (h2.mono h) H
theorem does_B {b n : Nat} {m : Md} {o : S30} (hn : n ≤ 900) (hN : (m.W.map (·.Tx)).Nodup) (hWl : m.W.length ≤ 900) (hR : R64 o.Tx) (H : St W (tbl b m n :: l) w) :
    cl Try.prog 20 [.pointer (some ⟨b, 0, none⟩), T30.enc o] (tTup2 T33 (tInt .i64)) w fun q w' => q.2 = (act m o).2.2 ∧ q.1.Granted = (act m o).2.1.ok ∧
      St W (row (tInt .i64) 3 1 q.1.Wounded (act m o).2.1.wo :: row T55 56 2 q.1.Woken (act m o).2.1.wk :: tbl b (act m o).1 (n + 2) :: l) w' := by
  refine F20_ok ?_
  unfold F20
  refine nw_st H fun b3 w1 H => ?_
  refine nw_st H fun b5 w2 H => ?_
  refine ld_st (x := o.Kind) 1 H rfl rfl rfl ?_
  by_cases c : o.Kind = 0
  · rw [if_pos (by simpa using c)]
    have e : act m o = ask m ⟨o.Tx, o.Key, o.Write⟩ := by unfold act; rw [if_pos c]
    rw [e]
    refine ld_st (x := o.Tx) 1 H rfl rfl rfl ?_
    refine ld_st (x := o.Key) 1 H rfl rfl rfl ?_
    refine ld_st (x := o.Write) 1 H rfl rfl rfl ?_
    refine cl_mono (ask_B (x := ⟨o.Tx, o.Key, o.Write⟩) hn hN hWl hR (H.front 2)) ?_
    rintro q w3 ⟨h1, h2, H⟩
    refine st_st (x := q.1) 3 H rfl rfl (Nat.le_of_ble_eq_true rfl) fun w4 H => ?_
    have H : St W (cel b5 (T33.cells q.1) 34 :: row (tInt .i64) 3 1 q.1.Wounded (ask m ⟨o.Tx, o.Key, o.Write⟩).2.1.wo :: row T55 56 2 q.1.Woken (ask m ⟨o.Tx, o.Key, o.Write⟩).2.1.wk :: tbl b (ask m ⟨o.Tx, o.Key, o.Write⟩).1 (n + 2) :: cel b3 (T30.cells o) 31 :: l) w4 := H
    refine ld_st (x := q.1) 0 H rfl rfl (at_all _) ?_
    exact ⟨h1, h2, ((H.drop.front 3).drop)⟩
  · rw [if_neg (by simpa using c)]
    have e : act m o = ((end_ m o.Tx).1, ⟨false, [], (end_ m o.Tx).2.1⟩, (end_ m o.Tx).2.2) := by unfold act; rw [if_neg c]
    rw [e]
    refine ld_st (x := o.Tx) 1 H rfl rfl rfl ?_
    refine cl_mono (end_B (tx := o.Tx) (by omega) hN (by omega) (H.front 2)) ?_
    rintro q w3 ⟨h1, H⟩
    refine st_st (x := (⟨false, nilS, q.1⟩ : S33)) 2 H rfl rfl (Nat.le_of_ble_eq_true rfl) fun w4 H => ?_
    have H : St W (cel b5 (T33.cells ⟨false, nilS, q.1⟩) 34 :: row T55 56 2 q.1 (end_ m o.Tx).2.1 :: tbl b (end_ m o.Tx).1 n :: cel b3 (T30.cells o) 31 :: l) w4 := H
    refine ld_st (x := (⟨false, nilS, q.1⟩ : S33)) 0 H rfl rfl (at_all _) ?_
    have H := (H.drop.front 2).drop
    exact ⟨h1, rfl, row_nil (tInt .i64) 3 1 ((tbl_mono (n' := n + 2) (by omega) (H.front 1)).front 1)⟩
theorem awake_B (H : St W l w) : cl Try.prog 10 [] tBool w fun r w' => r = true ∧ St W l w' := by
  have A1 : ask ⟨[], [], []⟩ ⟨2, 7, true⟩ = (⟨[⟨2, 7, true⟩], [], []⟩, ⟨true, [], []⟩, 0) := rfl
  have A2 : ask ⟨[⟨2, 7, true⟩], [], []⟩ ⟨3, 7, false⟩ = (⟨[⟨2, 7, true⟩], [⟨3, 7, false⟩], []⟩, ⟨false, [], []⟩, 0) := rfl
  have A3 : ask ⟨[⟨2, 7, true⟩], [⟨3, 7, false⟩], []⟩ ⟨1, 7, false⟩ = (⟨[⟨1, 7, false⟩, ⟨3, 7, false⟩], [], [2]⟩, ⟨true, [2], [⟨3, 7⟩]⟩, 0) := rfl
  have A4 : end_ ⟨[⟨1, 7, false⟩, ⟨3, 7, false⟩], [], [2]⟩ 2 = (⟨[⟨1, 7, false⟩, ⟨3, 7, false⟩], [], []⟩, [], 0) := rfl
  have A5 : ask ⟨[⟨1, 7, false⟩, ⟨3, 7, false⟩], [], []⟩ ⟨2, 7, true⟩ = (⟨[⟨1, 7, false⟩], [⟨2, 7, true⟩], [3]⟩, ⟨false, [3], []⟩, 0) := rfl
  have A6 : end_ ⟨[⟨1, 7, false⟩], [⟨2, 7, true⟩], [3]⟩ 1 = (⟨[⟨2, 7, true⟩], [], [3]⟩, [⟨2, 7⟩], 0) := rfl
  refine F10_ok ?_
  unfold F10
  refine cl_mono (new_B H) ?_
  rintro r w1 ⟨b, rfl, H⟩
  rw [if_neg (by simp)]
  refine cl_mono (ask_B (x := ⟨2, 7, true⟩) (by omega) (by simp) (by simp) (by simp [R64]) H) ?_
  rintro ⟨q1, e1⟩ w2 ⟨h1, g1, H⟩
  rw [A1] at h1 g1 H
  simp only at h1 g1 H
  have H := H.drop.drop
  refine nw_st H fun c1 w3 H => ?_
  refine st_st (x := q1) 0 H rfl rfl (Nat.le_of_ble_eq_true rfl) fun w4 H => ?_
  refine cl_mono (ask_B (x := ⟨3, 7, false⟩) (by omega) (by simp) (by simp) (by simp [R64]) (H.front 1)) ?_
  rintro ⟨q2, e2⟩ w5 ⟨h2, g2, H⟩
  rw [A2] at h2 g2 H
  simp only at h2 g2 H
  have H := H.drop.drop
  refine nw_st H fun c2 w6 H => ?_
  refine st_st (x := q2) 0 H rfl rfl (Nat.le_of_ble_eq_true rfl) fun w7 H => ?_
  refine cl_mono (ask_B (x := ⟨1, 7, false⟩) (by omega) (by simp) (by simp) (by simp [R64]) (H.front 1)) ?_
  rintro ⟨q3, e3⟩ w8 ⟨h3, g3, H⟩
  rw [A3] at h3 g3 H
  simp only at h3 g3 H
  have lw := row_len H
  have lk := row_len (H.front 1)
  have H := H.drop.drop
  refine nw_st H fun c3 w9 H => ?_
  refine st_st (x := q3) 0 H rfl rfl (Nat.le_of_ble_eq_true rfl) fun w10 H => ?_
  refine cl_mono (dead_B (tx := 2) (H.front 1)) ?_
  rintro d w11 ⟨hd, H⟩
  refine cl_mono (holds_B (k := 7) (by omega) H) ?_
  intro s w12 H
  have ls := row_len H
  have H := H.drop
  refine cl_mono (end_B (tx := 2) (by omega) (by simp) (by simp) H) ?_
  rintro ⟨q4, e4⟩ w13 ⟨h4, H⟩
  rw [A4] at h4 H
  simp only at h4 H
  have l4 := row_len H
  have H := H.drop
  refine cl_mono (ask_B (x := ⟨2, 7, true⟩) (by omega) (by simp) (by simp) (by simp [R64]) H) ?_
  rintro ⟨q5, e5⟩ w14 ⟨h5, g5, H⟩
  rw [A5] at h5 g5 H
  simp only at h5 g5 H
  have l5 := row_len H
  have H := H.drop.drop
  refine nw_st H fun c5 w15 H => ?_
  refine st_st (x := q5) 0 H rfl rfl (Nat.le_of_ble_eq_true rfl) fun w16 H => ?_
  refine cl_mono (end_B (tx := 1) (by omega) (by simp) (by simp) (H.front 1)) ?_
  rintro ⟨q6, e6⟩ w17 ⟨h6, H⟩
  rw [A6] at h6 H
  simp only at h6 H
  have l6 := row_len H
  have H := row_stay H
  have H : St W (ro T55 q6 [⟨2, 7⟩] :: tbl b ⟨[⟨2, 7, true⟩], [], [3]⟩ 8 :: cel c5 (T33.cells q5) 34 :: cel c3 (T33.cells q3) 34 :: cel c2 (T33.cells q2) 34 :: cel c1 (T33.cells q1) 34 :: l) w17 := H
  obtain ⟨a, ha⟩ := ro_ix (sz := 2) (i := 0) H (by decide) (by decide)
  refine ex_i q1.Granted (fun _ => rdat_cel tBool (H.front 5) rfl rfl) ?_
  refine ex_i q2.Granted (fun _ => rdat_cel tBool (H.front 4) rfl rfl) ?_
  refine ex_i q3.Granted (fun _ => rdat_cel tBool (H.front 3) rfl rfl) ?_
  refine ex_i q3.Wounded (fun _ => rdat_cel tSlc (H.front 3) rfl rfl) ?_
  refine ex_i q3.Woken (fun _ => rdat_cel tSlc (H.front 3) rfl rfl) ?_
  refine ex_i q5.Granted (fun _ => rdat_cel tBool (H.front 2) rfl rfl) ?_
  refine ex_i q5.Wounded (fun _ => rdat_cel tSlc (H.front 2) rfl rfl) ?_
  refine ex_i a (fun _ => ha) ?_
  refine ex_i (2 : Int) (fun _ => fld_ro (x := (⟨2, 7⟩ : S55)) (fun _ => rfl) ha rfl rfl H) ?_
  have hd : d = true := hd
  have ls : s.len = 2 := ls
  rw [if_pos (by rw [h1, g1, h2, g2, h3, g3, lw, lk, hd, ls, h4, l4, h5, g5, l5, h6, l6]; rfl)]
  refine cl_mono (waits_B (k := 7) (by omega) (H.front 1)) ?_
  intro s2 w18 H
  have ls2 : s2.len = 0 := row_len H
  unfold F10_j1
  refine ⟨by rw [ls2]; rfl, ?_⟩
  exact H.drop.drop.drop.drop.drop.drop.drop
end
end Go.Proofs.Ytojcgejjdfcaaaa.Locks
