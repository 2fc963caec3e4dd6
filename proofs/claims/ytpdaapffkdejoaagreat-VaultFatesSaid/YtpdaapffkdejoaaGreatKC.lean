/- The store in memory; contracts: New, Closed, Mark, in, is, Close, time, Last, full, Get. -/
import Derived.Test.YtpdaapffkdejoaaGreatKB
import Derived.Test.YtpdaapffkdejoaaGreatIt
namespace Go.Proofs.YtpdaapffkdejoaaGreat.Store
open Go Go.Proofs.YtpdaapffkdejoaaGreat.Cf
set_option linter.unusedVariables false
set_option linter.unusedSimpArgs false
set_option maxRecDepth 100000
theorem look_split {β : Type} {k : Int} {v : β} : ∀ {es : List (Int × β)}, es.lookup k = some v → ∃ l1 l2, es = l1 ++ (k, v) :: l2
  | [], h => by cases h
  | (a, b) :: es, h => by
    simp only [List.lookup] at h
    by_cases c : (k == a) = true
    · rw [c] at h
      have e : k = a := by simpa using c
      cases h; subst e
      exact ⟨[], es, rfl⟩
    · simp only [Bool.not_eq_true] at c
      rw [c] at h
      obtain ⟨l1, l2, e⟩ := look_split h
      exact ⟨(a, b) :: l1, l2, by rw [e]; rfl⟩
theorem look_mem {β : Type} {k : Int} {v : β} {es : List (Int × β)} (h : es.lookup k = some v) : (k, v) ∈ es := by
  obtain ⟨l1, l2, e⟩ := look_split h
  rw [e]; simp
theorem mem_look {β : Type} {k : Int} {v : β} : ∀ {es : List (Int × β)}, (es.map (·.1)).Nodup → (k, v) ∈ es → es.lookup k = some v
  | [], _, h => by cases h
  | (a, b) :: es, hn, h => by
    have hn' := List.nodup_cons.1 hn
    simp only [List.lookup]
    rcases List.mem_cons.1 h with e | h
    · cases e; simp
    · have : k ≠ a := fun e => hn'.1 (List.mem_map.2 ⟨(k, v), h, e⟩)
      rw [show (k == a) = false from by simpa using this]
      exact mem_look hn'.2 h
theorem ups_none {β : Type} {k : Int} {v : β} : ∀ {es : List (Int × β)}, es.lookup k = none → ups k v es = es ++ [(k, v)]
  | [], _ => rfl
  | (a, b) :: es, h => by
    simp only [List.lookup] at h
    by_cases c : (k == a) = true
    · rw [c] at h; cases h
    · simp only [Bool.not_eq_true] at c
      rw [c] at h
      simp only [ups, c]
      rw [ups_none h]; rfl
section
variable {W w : World} {l l' : List Assn}
structure StP where
  m : Nat
  chs : List (Int × ChP)
def ptrs (chs : List (Int × ChP)) : List (Int × Option Addr) := chs.map fun e => (e.1, some (⟨e.2.b, 0, none⟩ : Addr))
def bigF (g : Int → List S86) (chs : List (Int × ChP)) : Assn := sepA (chs.map fun e => chainA e.2 (g e.1))
structure Rel (t : StP) (M : Md) : Prop where
  keys : ∀ k, vs M.rows k ≠ [] ↔ k ∈ t.chs.map (·.1)
  marks : ∀ e ∈ t.chs, 0 ≤ e.2.mark ∧ e.2.mark ≤ M.mark
def sto (b : Nat) (M : Md) : Assn := exA fun t : StP => sepA [puA (Rel t M), cel b (T94.cells ⟨some t.m, M.closed, M.mark⟩) 95, mapE tPtr .i64 t.m (ptrs t.chs), bigF (vs M.rows) t.chs]
theorem sto_open {b : Nat} {M : Md} (H : St W (sto b M :: l) w) : ∃ t : StP, Rel t M ∧ (t.chs.map (·.1)).Nodup ∧ St W (cel b (T94.cells ⟨some t.m, M.closed, M.mark⟩) 95 :: mapE tPtr .i64 t.m (ptrs t.chs) :: bigF (vs M.rows) t.chs :: l) w := by
  obtain ⟨t, H⟩ := H.ex
  have H := H.open_
  obtain ⟨h, H⟩ := St.pu (φ := Rel t M) H
  refine ⟨t, h, ?_, H⟩
  have := mapE_nodup (H.front 1)
  have e : (ptrs t.chs).map (·.1) = t.chs.map (·.1) := by unfold ptrs; rw [List.map_map]; rfl
  rw [← e]; exact this
theorem sto_shut {b : Nat} {M : Md} {t : StP} (h : Rel t M) (H : St W (cel b (T94.cells ⟨some t.m, M.closed, M.mark⟩) 95 :: mapE tPtr .i64 t.m (ptrs t.chs) :: bigF (vs M.rows) t.chs :: l) w) : St W (sto b M :: l) w :=
  St.toEx t (St.shut (l' := [puA (Rel t M), cel b (T94.cells ⟨some t.m, M.closed, M.mark⟩) 95, mapE tPtr .i64 t.m (ptrs t.chs), bigF (vs M.rows) t.chs]) (St.toPu h H))
theorem lookup_ptrs (k : Int) : ∀ chs : List (Int × ChP), (ptrs chs).lookup k = (chs.lookup k).map fun C => some (⟨C.b, 0, none⟩ : Addr)
  | [] => rfl
  | (a, C) :: chs => by
    have ih := lookup_ptrs k chs
    unfold ptrs at ih ⊢
    simp only [List.map_cons, List.lookup]
    by_cases c : (k == a) = true
    · rw [c]; rfl
    · simp only [Bool.not_eq_true] at c
      rw [c]; exact ih
theorem big_congr {g g' : Int → List S86} {chs : List (Int × ChP)} (h : ∀ e ∈ chs, g e.1 = g' e.1) : bigF g chs = bigF g' chs := by
  unfold bigF; rw [List.map_congr_left fun e he => by rw [h e he]]
theorem big_get {g : Int → List S86} {l1 l2 : List (Int × ChP)} {e : Int × ChP} (H : St W (bigF g (l1 ++ e :: l2) :: l) w) : St W (chainA e.2 (g e.1) :: bigF g (l1 ++ l2) :: l) w := big_out (f := fun e : Int × ChP => chainA e.2 (g e.1)) H
theorem big_put {g : Int → List S86} {l1 l2 : List (Int × ChP)} {e : Int × ChP} (H : St W (chainA e.2 (g e.1) :: bigF g (l1 ++ l2) :: l) w) : St W (bigF g (l1 ++ e :: l2) :: l) w := big_in (f := fun e : Int × ChP => chainA e.2 (g e.1)) H
theorem big_set {g g' : Int → List S86} {l1 l2 : List (Int × ChP)} {k : Int} {C : ChP} {L : List S86} (hk : g' k = L) (ho : ∀ e ∈ l1 ++ l2, g e.1 = g' e.1) (H : St W (chainA C L :: bigF g (l1 ++ l2) :: l) w) : St W (bigF g' (l1 ++ (k, C) :: l2) :: l) w := by
  refine big_put (e := (k, C)) ?_
  rw [← big_congr ho]; rw [← hk] at H; exact H
theorem others {l1 l2 : List (Int × ChP)} {k : Int} {C : ChP} (hn : ((l1 ++ (k, C) :: l2).map (·.1)).Nodup) : ∀ e ∈ l1 ++ l2, e.1 ≠ k := by
  intro e he h
  rw [List.map_append, List.map_cons] at hn
  have h2 := (List.nodup_append.1 hn).2
  rcases List.mem_append.1 he with h3 | h3
  · exact h2.2 e.1 (List.mem_map.2 ⟨e, h3, rfl⟩) k (List.mem_cons_self ..) h
  · exact (List.nodup_cons.1 h2.1).1 (by rw [← h]; exact List.mem_map.2 ⟨e, h3, rfl⟩)
theorem Rel.none {t : StP} {M : Md} {k : Int} (h : Rel t M) (hl : t.chs.lookup k = .none) : vs M.rows k = [] := by
  by_cases e : vs M.rows k = []
  · exact e
  · exact absurd ((h.keys k).1 e) (lookup_none.1 hl)
theorem snew_spec (H : St W l w) : cl Tryz.prog 41 [] tPtr w fun r w' => ∃ b, r = some ⟨b, 0, none⟩ ∧ St W (sto b ⟨[], 0, 0⟩ :: l) w' := by
  refine F41_ok ?_
  unfold F41
  refine nwMap_st H fun m w1 H => ?_
  refine nw_st H fun b w2 H => ?_
  have H := mapE_new tPtr .i64 (H.front 1)
  have H : St W (sepA [] :: mapE tPtr .i64 m [] :: cel b (T94.cells ⟨some m, 0, 0⟩) 95 :: l) w2 := St.shut (l' := []) H
  exact ⟨b, rfl, sto_shut (t := ⟨m, []⟩) ⟨fun k => by simp [vs_nil], fun e h => by cases h⟩ (H.ord [2, 1, 0])⟩
theorem closed_spec {b : Nat} {M : Md} (H : St W (sto b M :: l) w) : cl Tryz.prog 26 [.pointer (some ⟨b, 0, none⟩)] (tInt .i64) w fun r w' => r = M.closed ∧ St W (sto b M :: l) w' := by
  refine F26_ok ?_
  unfold F26
  obtain ⟨t, h, hn, H⟩ := sto_open H
  refine nc_st rfl ?_
  refine ld_st (x := M.closed) 0 H rfl rfl rfl ?_
  exact ⟨rfl, sto_shut h H⟩
theorem mark_spec {b : Nat} {M : Md} (H : St W (sto b M :: l) w) : cl Tryz.prog 29 [.pointer (some ⟨b, 0, none⟩)] (tInt .i64) w fun r w' => r = M.mark ∧ St W (sto b M :: l) w' := by
  refine F29_ok ?_
  unfold F29
  obtain ⟨t, h, hn, H⟩ := sto_open H
  refine nc_st rfl ?_
  refine ld_st (x := M.mark) 0 H rfl rfl rfl ?_
  exact ⟨rfl, sto_shut h H⟩
theorem in_spec {t : Int} (H : St W l w) : cl Tryz.prog 56 [.int .i64 t] tBool w fun r w' => r = (decide (t ≥ 0) && decide (t ≤ 1125899906842624)) ∧ St W l w' := by
  refine F56_ok ?_
  unfold F56
  exact ⟨rfl, H⟩
theorem is_spec {k : Int} (H : St W l w) : cl Tryz.prog 62 [.int .i64 k] tBool w fun r w' => r = (decide (k ≥ 0) && decide (k < 8192)) ∧ St W l w' := by
  refine F62_ok ?_
  unfold F62
  exact ⟨rfl, H⟩
theorem close_spec {b : Nat} {M : Md} {t : Int} (H : St W (sto b M :: l) w) : cl Tryz.prog 37 [.pointer (some ⟨b, 0, none⟩), .int .i64 t] (tInt .i64) w fun r w' => r = closeE t ∧ St W (sto b (closeM M t) :: l) w' := by
  refine F37_ok ?_
  unfold F37
  refine cl_mono (in_spec H) ?_
  rintro r w1 ⟨rfl, H⟩
  unfold closeM closeE
  split
  · rename_i hc
    rw [if_pos (show t < 0 ∨ t > 1125899906842624 from by simp at hc; omega)]
    exact ⟨rfl, by rw [if_neg (by omega)]; exact H⟩
  · rename_i hc
    rw [if_neg (show ¬ (t < 0 ∨ t > 1125899906842624) from by simp at hc; omega), if_pos rfl]
    obtain ⟨p, h, hn, H⟩ := sto_open H
    refine nc_st rfl ?_
    refine ld_st (x := M.closed) 0 H rfl rfl rfl ?_
    refine st_st (x := max M.closed t) 0 H rfl rfl (Nat.le_of_ble_eq_true rfl) fun w2 H => ?_
    exact ⟨rfl, sto_shut (M := { M with closed := max M.closed t }) ⟨h.keys, h.marks⟩ H⟩
theorem time_spec {b : Nat} {M : Md} {t : Int} (H : St W (sto b M :: l) w) : cl Tryz.prog 47 [.pointer (some ⟨b, 0, none⟩), .int .i64 t] (tInt .i64) w fun r w' => r = timeM M t ∧ St W (sto b M :: l) w' := by
  refine F47_ok ?_
  unfold F47
  refine cl_mono (in_spec H) ?_
  rintro r w1 ⟨rfl, H⟩
  unfold timeM
  split
  · rename_i hc
    rw [if_pos (show t < 0 ∨ t > 1125899906842624 from by simp at hc; omega)]
    exact ⟨rfl, H⟩
  · rename_i hc
    rw [if_neg (show ¬ (t < 0 ∨ t > 1125899906842624) from by simp at hc; omega)]
    obtain ⟨p, h, hn, H⟩ := sto_open H
    refine nc_st rfl ?_
    refine ld_st (x := M.closed) 0 H rfl rfl rfl ?_
    split
    · rename_i hc
      rw [if_pos (by simpa using hc)]
      exact ⟨rfl, sto_shut h H⟩
    · rename_i hc
      rw [if_neg (by simpa using hc)]
      refine ld_st (x := M.mark) 0 H rfl rfl rfl ?_
      split
      · rename_i hc
        rw [if_pos (by simpa using hc)]
        exact ⟨rfl, sto_shut h H⟩
      · rename_i hc
        rw [if_neg (by simpa using hc)]
        exact ⟨rfl, sto_shut h H⟩
theorem slast_spec {b : Nat} {M : Md} {k : Int} (hI : Inv M) (H : St W (sto b M :: l) w) : cl Tryz.prog 42 [.pointer (some ⟨b, 0, none⟩), .int .i64 k] (tTup2 T86 tBool) w fun r w' => r = lastV (vs M.rows k) ∧ St W (sto b M :: l) w' := by
  refine F42_ok ?_
  unfold F42
  refine nw_st H fun b3 w1 H => ?_
  obtain ⟨t, h, hnd, H⟩ := sto_open (H.front 1)
  refine nc_st rfl ?_
  refine ld_st (x := some t.m) 0 H rfl rfl rfl ?_
  refine mget_st 1 H rfl rfl ?_
  rw [lookup_ptrs]
  cases hl : t.chs.lookup k with
  | none =>
    rw [if_pos (by simp)]
    refine vst_st (x := Z86) (y := (⟨0, 0⟩ : S86)) len87 3 H rfl fun w2 H => ?_
    refine vld_st (x := (⟨0, 0⟩ : S86)) 0 H rfl ?_
    exact ⟨by rw [h.none hl]; rfl, sto_shut h H.drop⟩
  | some C =>
    rw [if_neg (by simp)]
    obtain ⟨l1, l2, e⟩ := look_split hl
    have H := H.front 2
    rw [e] at H
    have H := big_get H
    refine cl_mono (chlast_spec (C := C) (Nat.le_trans (hI.cap _) (by omega)) H) ?_
    rintro r w2 ⟨rfl, H⟩
    have H := big_put (e := (k, C)) H
    rw [← e] at H
    show st T86 _ (lastV (vs M.rows k)).1 _ _
    generalize lastV (vs M.rows k) = q
    refine vst_st (x := Z86) (y := q.1) len87 3 H rfl fun w3 H => ?_
    refine vld_st (x := q.1) 0 H rfl ?_
    exact ⟨rfl, sto_shut h (H.drop.ord [1, 2, 0])⟩
theorem full_spec {b : Nat} {M : Md} {k : Int} (hI : Inv M) (H : St W (sto b M :: l) w) : cl Tryz.prog 66 [.pointer (some ⟨b, 0, none⟩), .int .i64 k] tBool w fun r w' => r = decide (10000 ≤ (vs M.rows k).length) ∧ St W (sto b M :: l) w' := by
  refine F66_ok ?_
  unfold F66
  obtain ⟨t, h, hnd, H⟩ := sto_open H
  refine nc_st rfl ?_
  refine ld_st (x := some t.m) 0 H rfl rfl rfl ?_
  refine mget_st 1 H rfl rfl ?_
  rw [lookup_ptrs]
  cases hl : t.chs.lookup k with
  | none =>
    rw [if_neg (by simp)]
    unfold F66_j1
    exact ⟨by rw [h.none hl]; simp, sto_shut h H⟩
  | some C =>
    rw [if_pos (by simp)]
    obtain ⟨l1, l2, e⟩ := look_split hl
    have H := H.front 2
    rw [e] at H
    have H := big_get H
    have hlen : (vs M.rows k).length ≤ 10000 := hI.cap k
    refine cl_mono (chlist_spec (C := C) (by show (vs M.rows k).length ≤ _; omega) H) ?_
    intro r w2 H
    have hr := row_len H
    have H := big_put (e := (k, C)) H.drop
    rw [← e] at H
    unfold F66_j1
    refine ⟨?_, sto_shut h (H.ord [1, 2, 0])⟩
    have hr : r.len = (vs M.rows k).length := hr
    rw [hr]
    rw [Bool.eq_iff_iff, decide_eq_true_eq]
    simp
    try omega
theorem get_spec {b : Nat} {M : Md} {k t : Int} (hI : Inv M) (H : St W (sto b M :: l) w) : cl Tryz.prog 45 [.pointer (some ⟨b, 0, none⟩), .int .i64 k, .int .i64 t] (tTup2 T86 (tInt .i64)) w fun r w' => r = getM M k t ∧ St W (sto b M :: l) w' := by
  refine F45_ok ?_
  unfold F45
  refine nw_st H fun b4 w1 H => ?_
  refine cl_mono (is_spec H) ?_
  rintro r w2 ⟨rfl, H⟩
  unfold getM
  split
  · rename_i hc
    rw [if_pos (show k < 0 ∨ k > 8191 from by simp at hc; omega)]
    refine vst_st (x := Z86) (y := (⟨0, 0⟩ : S86)) len87 0 H rfl fun w3 H => ?_
    refine vld_st (x := (⟨0, 0⟩ : S86)) 0 H rfl ?_
    exact ⟨rfl, H.drop⟩
  · rename_i hc
    rw [if_neg (show ¬ (k < 0 ∨ k > 8191) from by simp at hc; omega)]
    refine cl_mono (time_spec (t := t) (H.front 1)) ?_
    rintro r w3 ⟨rfl, H⟩
    have H := H.front 1
    split
    · rename_i hc
      have hc : timeM M t ≠ 0 := by simpa using hc
      rw [if_pos hc]
      refine vst_st (x := Z86) (y := (⟨0, 0⟩ : S86)) len87 0 H rfl fun w3 H => ?_
      refine vld_st (x := (⟨0, 0⟩ : S86)) 0 H rfl ?_
      exact ⟨rfl, H.drop⟩
    · rename_i hc
      have hc : timeM M t = 0 := by simpa using hc
      rw [if_neg (by omega)]
      have ht : 0 ≤ t ∧ t ≤ 1125899906842624 ∧ M.mark ≤ t := by
        unfold timeM at hc
        split at hc
        · cases hc
        · split at hc
          · cases hc
          · split at hc
            · cases hc
            · omega
      obtain ⟨p, h, hnd, H⟩ := sto_open (H.front 1)
      refine nc_st rfl ?_
      refine ld_st (x := some p.m) 0 H rfl rfl rfl ?_
      refine mget_st 1 H rfl rfl ?_
      rw [lookup_ptrs]
      cases hl : p.chs.lookup k with
      | none =>
        rw [if_pos (by simp)]
        refine vst_st (x := Z86) (y := (⟨0, 0⟩ : S86)) len87 3 H rfl fun w2 H => ?_
        refine vld_st (x := (⟨0, 0⟩ : S86)) 0 H rfl ?_
        exact ⟨by rw [h.none hl]; rfl, sto_shut h H.drop⟩
      | some C =>
        rw [if_neg (by simp)]
        obtain ⟨l1, l2, e⟩ := look_split hl
        have hmk := h.marks _ (look_mem hl)
        have H := H.front 2
        rw [e] at H
        have H := big_get H
        have hlen : (vs M.rows k).length ≤ 10000 := hI.cap k
        refine cl_mono (chget_spec (C := C) (at_ := t) (by show (vs M.rows k).length ≤ _; omega) (vs_rise hI.rise k) ht.1 ht.2.1 (by have := hmk.2; simp only at this; omega) H) ?_
        rintro r w4 ⟨rfl, H⟩
        have H := big_put (e := (k, C)) H
        rw [← e] at H
        show nw 87 T86 Z86 w4 _
        refine nw_st H fun b5 w5 H => ?_
        dsimp only
        cases hct : cnt (vs M.rows k) t with
        | none =>
          dsimp only
          refine vst_st (x := Z86) (y := (⟨0, 0⟩ : S86)) len87 0 H rfl fun w6 H => ?_
          rw [if_pos (by simp)]
          refine vst_st (x := Z86) (y := (⟨0, 0⟩ : S86)) len87 4 H rfl fun w7 H => ?_
          refine vld_st (x := (⟨0, 0⟩ : S86)) 0 H rfl ?_
          exact ⟨rfl, sto_shut h (H.drop.drop.ord [1, 2, 0])⟩
        | some v =>
          dsimp only
          refine vst_st (x := Z86) (y := v) len87 0 H rfl fun w6 H => ?_
          rw [if_neg (by simp)]
          refine vld_st (x := v) 0 H rfl ?_
          refine vst_st (x := Z86) (y := v) len87 4 H rfl fun w7 H => ?_
          refine vld_st (x := v) 0 H rfl ?_
          exact ⟨rfl, sto_shut h (H.drop.drop.ord [1, 2, 0])⟩
end
end Go.Proofs.YtpdaapffkdejoaaGreat.Store
