/- Contracts of the table of locks: list, Holds, Waits, free, elder. -/
import Derived.Test.YtojcgejjdfcaaaaLE
namespace Go.Proofs.Ytojcgejjdfcaaaa.Locks
open Go Go.Proofs.Ytojcgejjdfcaaaa.Cf
set_option linter.unusedVariables false
set_option linter.unusedSimpArgs false
set_option maxRecDepth 100000
section
variable {W w : World} {l l' : List Assn} {α : Type} {T : Ty α}
abbrev R64 (x : Int) : Prop := -9223372036854775808 ≤ x ∧ x ≤ 9223372036854775807
def sortI (L : List Int) : List Int := L.mergeSort fun x y => decide (x ≤ y)
theorem sortI_pw (L : List Int) : (sortI L).Pairwise fun x y => x ≤ y := by
  have h1 : (sortI L).Pairwise fun x y => decide (x ≤ y) = true :=
    List.pairwise_mergeSort (fun a b c h1 h2 => by simp at h1 h2 ⊢; omega) (fun a b => by simp; omega) L
  exact h1.imp fun h => by simpa using h
theorem sortI_p (L : List Int) : (sortI L).Perm L := List.mergeSort_perm L _
theorem sortI_perm {L M : List Int} (h : L.Perm M) : sortI L = sortI M :=
  List.Perm.eq_of_pairwise (fun a b _ _ h1 h2 => by omega) (sortI_pw L) (sortI_pw M) ((sortI_p L).trans (h.trans (sortI_p M).symm))
theorem sortI_lt {L : List Int} (h : L.Nodup) : (sortI L).Pairwise fun x y => x < y :=
  ((sortI_pw L).and ((sortI_p L).nodup_iff.2 h)).imp fun {a b} h => by
    have h1 := h.1
    have h2 : a ≠ b := h.2
    omega
def told (es : List (Int × Bool)) : List S53 := (sortI (es.map (·.1))).map fun k => ⟨k, (es.lookup k).getD false⟩
theorem list_spec {m : Nat} {es : List (Int × Bool)} (hr : ∀ p ∈ es, R64 p.1) (hm : es.length ≤ 100000) (H : St W (mapE tBool .i64 m es :: l) w) :
    cl Try.prog 35 [.map (some m)] tSlc w fun s w' => St W (row T53 54 2 s (told es) :: mapE tBool .i64 m es :: l) w' := by
  refine F35_ok ?_
  unfold F35
  refine F27_ok ?_
  unfold F27
  refine nw_st H fun bm w1 H => ?_
  refine cl_mono (sorted_keys hr (by omega) H) ?_
  rintro s w2 ⟨ks, hp, H⟩
  have hs := row_len H
  have hl : ks.length = es.length := by have := hp.length_eq; simpa using this
  rw [List.length_mergeSort] at hs
  have hq : (ks.mergeSort fun x y => decide (x ≤ y)) = sortI (es.map (·.1)) := sortI_perm hp
  rw [hq] at H
  unfold told
  have hql : (sortI (es.map (·.1))).length = es.length := by rw [(sortI_p _).length_eq, List.length_map]
  generalize sortI (es.map (·.1)) = q at *
  have H := row_nil T53 54 2 H
  refine lp_i (fun p w => 0 ≤ p.2 ∧ p.2 ≤ q.length ∧ St W (row T53 54 2 p.1 ((q.take p.2.toNat).map fun k => (⟨k, (es.lookup k).getD false⟩ : S53)) :: row (tInt .i64) 3 1 s q :: cel bm [.map (some m)] 66 :: mapE tBool .i64 m es :: l) w) (fun p => (q.length - p.2).toNat)
    ⟨Int.le_refl 0, by simp only; omega, H⟩ ?_
  rintro ⟨out, i⟩ w ⟨h0, h1, H⟩
  simp only at h0 h1
  simp only
  unfold F35_l1
  split
  · rename_i hc
    have hc : i < q.length := by simp at hc; omega
    have e1 : IntKind.i64.wrap (i + 1) = i + 1 := wrap_i64 (by omega) (by omega)
    have hx : q[i.toNat]? = some q[i.toNat] := List.getElem?_eq_getElem (by omega)
    obtain ⟨a, ha⟩ := row_ix (sz := 1) (i := i) (H.front 1) h0 hc
    refine ex_i a ha ?_
    refine ex_i q[i.toNat] (rd_row (fun _ => rfl) ha hx (H.front 1)) ?_
    refine mget_st 3 H rfl rfl ?_
    refine apl_row (fun _ => rfl) 0 H rfl (by simp only [List.length_map, List.length_take, List.length_singleton]; omega) fun r w3 H => ?_
    rw [e1]
    refine ⟨⟨by simp only; omega, by simp only; omega, ?_⟩, by simp only; omega⟩
    simp only
    rw [show (i + 1).toNat = i.toNat + 1 from by omega, List.take_succ_eq_append_getElem (by omega), List.map_append]
    exact H
  · rename_i hc
    have hc : i = q.length := by simp at hc; omega
    subst hc
    have e : q.take ((q.length : Int)).toNat = q := by simp
    rw [e] at H
    exact (H.ord [1, 2]).drop.drop
/-- Sizes and numbers within a table in memory. -/
structure Fit (t : TbP) (n : Nat) : Prop where
  locks : t.locks.length ≤ n
  keys : ∀ e ∈ t.locks, 0 ≤ e.1 ∧ e.1 < 8192
  hs : ∀ e ∈ t.locks, e.2.hs.length ≤ n ∧ (∀ p ∈ e.2.hs, R64 p.1)
  ws : ∀ e ∈ t.locks, e.2.ws.length ≤ n ∧ (∀ p ∈ e.2.ws, R64 p.1)
def toldH (t : TbP) (k : Int) : List S53 := match t.locks.lookup k with
  | none => []
  | some L => told L.hs
def toldW (t : TbP) (k : Int) : List S53 := match t.locks.lookup k with
  | none => []
  | some L => told L.ws
theorem holds_of {t : TbP} {k : Int} {n : Nat} (hn : n ≤ 100000) (hf : Fit t n) (H : St W (tabA t :: l) w) : cl Try.prog 21 [.pointer (some ⟨t.b, 0, none⟩), .int .i64 k] tSlc w fun s w' => St W (row T53 54 2 s (toldH t k) :: tabA t :: l) w' := by
  refine F21_ok ?_
  unfold F21
  have H := tab_open H
  refine nc_st rfl ?_
  refine ld_st (x := some t.ml) 0 H rfl rfl rfl ?_
  refine mget_st 1 H rfl rfl ?_
  rw [lookup_ptrs]
  unfold toldH
  cases hl : t.locks.lookup k with
  | none =>
    rw [if_neg (by simp)]
    exact row_nil T53 54 2 (tab_shut H)
  | some L =>
    rw [if_pos (by simp)]
    refine nc_st (a := ⟨L.b, 0, none⟩) (by simp) ?_
    obtain ⟨l1, l2, e⟩ := lookup_split hl
    have hmem := look_mem hl
    have H4 := H.front 4
    rw [e] at H4
    have H4 := lock_open (big_get H4)
    refine ld_st (x := some L.h) 0 H4 rfl rfl rfl ?_
    refine cl_mono (list_spec (hf.hs _ hmem).2 (Nat.le_trans (hf.hs _ hmem).1 hn) (H4.front 1)) ?_
    intro s w1 H
    have H := lock_shut ((H.front 2).ord [0, 2, 3])
    have H : St W (bigL t.locks :: row T53 54 2 s (told L.hs) :: cel t.b (T61.cells ⟨some t.ml, some t.mw, some t.md⟩) 62 :: mapE tPtr .i64 t.ml (ptrs t.locks) :: mapE (tInt .i64) .i64 t.mw t.waits :: mapE T77 .i64 t.md t.dead :: l) w1 := by
      rw [e]; exact big_put (e := (k, L)) (H.ord [0, 2])
    exact (tab_shut (H.ord [2, 3, 4, 5, 0])).front 1
theorem waits_of {t : TbP} {k : Int} {n : Nat} (hn : n ≤ 100000) (hf : Fit t n) (H : St W (tabA t :: l) w) : cl Try.prog 22 [.pointer (some ⟨t.b, 0, none⟩), .int .i64 k] tSlc w fun s w' => St W (row T53 54 2 s (toldW t k) :: tabA t :: l) w' := by
  refine F22_ok ?_
  unfold F22
  have H := tab_open H
  refine nc_st rfl ?_
  refine ld_st (x := some t.ml) 0 H rfl rfl rfl ?_
  refine mget_st 1 H rfl rfl ?_
  rw [lookup_ptrs]
  unfold toldW
  cases hl : t.locks.lookup k with
  | none =>
    rw [if_neg (by simp)]
    exact row_nil T53 54 2 (tab_shut H)
  | some L =>
    rw [if_pos (by simp)]
    refine nc_st (a := ⟨L.b, 0, none⟩) (by simp) ?_
    obtain ⟨l1, l2, e⟩ := lookup_split hl
    have hmem := look_mem hl
    have H4 := H.front 4
    rw [e] at H4
    have H4 := lock_open (big_get H4)
    refine ld_st (x := some L.w) 0 H4 rfl rfl rfl ?_
    refine cl_mono (list_spec (hf.ws _ hmem).2 (Nat.le_trans (hf.ws _ hmem).1 hn) (H4.front 2)) ?_
    intro s w1 H
    -- row, mapE w, cel, mapE h, bigL ..
    have H := lock_shut (H.ord [2, 3, 1])
    have H : St W (bigL t.locks :: row T53 54 2 s (told L.ws) :: cel t.b (T61.cells ⟨some t.ml, some t.mw, some t.md⟩) 62 :: mapE tPtr .i64 t.ml (ptrs t.locks) :: mapE (tInt .i64) .i64 t.mw t.waits :: mapE T77 .i64 t.md t.dead :: l) w1 := by
      rw [e]; exact big_put (e := (k, L)) (H.ord [0, 2])
    exact (tab_shut (H.ord [2, 3, 4, 5, 0])).front 1
def frL (tx : Int) (L : LkP) : LkP := { L with hs := del tx L.hs, ws := del tx L.ws }
def freeT (tx : Int) (t : TbP) : TbP := { t with locks := t.locks.map (fun e => (e.1, frL tx e.2)), waits := del tx t.waits }
def gone (tx : Int) (left : List (Int × Option Addr)) (e : Int × LkP) : Int × LkP := if left.any (fun q => q.1 == e.1) = true then e else (e.1, frL tx e.2)
theorem free_spec {t : TbP} {tx : Int} (H : St W (tabA t :: l) w) : cl Try.prog 28 [.pointer (some ⟨t.b, 0, none⟩), .int .i64 tx] tUnit w fun _ w' => St W (tabA (freeT tx t) :: l) w' := by
  refine F28_ok ?_
  unfold F28
  have H := tab_open H
  refine nc_st rfl ?_
  refine ld_st (x := some t.ml) 0 H rfl rfl rfl ?_
  have hdup := mapE_nodup (H.front 1)
  refine rng_st 1 H rfl rfl fun it w1 H => ?_
  have hstart : t.locks.map (gone tx (ptrs t.locks)) = t.locks := by
    conv => rhs; rw [← List.map_id t.locks]
    refine List.map_congr_left fun e he => ?_
    unfold gone
    have : (ptrs t.locks).any (fun q => q.1 == e.1) = true := List.any_eq_true.2 ⟨(e.1, some (⟨e.2.b, 0, none⟩ : Addr)), List.mem_map.2 ⟨e, he, rfl⟩, by simp⟩
    rw [if_pos this]; rfl
  have hkd : (t.locks.map (·.1)).Nodup := by
    have : (ptrs t.locks).map (·.1) = t.locks.map (·.1) := by unfold ptrs; rw [List.map_map]; rfl
    rw [← this]; exact hdup
  have H : St W (ranging tPtr .i64 t.ml it (ptrs t.locks) (ptrs t.locks) none :: bigL (t.locks.map (gone tx (ptrs t.locks))) :: cel t.b (T61.cells ⟨some t.ml, some t.mw, some t.md⟩) 62 :: mapE (tInt .i64) .i64 t.mw t.waits :: mapE T77 .i64 t.md t.dead :: l) w1 := by
    rw [hstart]; exact H.ord [0, 4]
  refine lp_n (fun n _ w => ∃ left cur, n = left.length ∧ (∀ p ∈ left, p ∈ ptrs t.locks) ∧ St W (ranging tPtr .i64 t.ml it (ptrs t.locks) left cur :: bigL (t.locks.map (gone tx left)) :: cel t.b (T61.cells ⟨some t.ml, some t.mw, some t.md⟩) 62 :: mapE (tInt .i64) .i64 t.mw t.waits :: mapE T77 .i64 t.md t.dead :: l) w) _ ⟨_, none, rfl, fun _ h => h, H⟩ ?_
  clear H hstart
  rintro n _ w ⟨left, cur, rfl, h1, H⟩ K hK
  unfold F28_l1
  refine nxt_st 0 H rfl rfl (fun he H => ?_) fun p hp w2 H => ?_
  · rw [if_neg (by simp)]
    refine ld_st (x := some t.mw) 2 H rfl rfl rfl ?_
    refine mdel_st 3 H rfl rfl fun w3 H => ?_
    have hend : t.locks.map (gone tx left) = t.locks.map (fun e => (e.1, frL tx e.2)) := by
      refine List.map_congr_left fun e _ => ?_
      unfold gone; rw [he, if_neg (by simp)]
    rw [hend] at H
    have H := ranging_done (H.front 1)
    have hpt : ptrs (t.locks.map (fun e => (e.1, frL tx e.2))) = ptrs t.locks := by unfold ptrs; rw [List.map_map]; rfl
    -- mapE ml, mapE mw, bigL, cel, mapE md
    have H := H.ord [3, 0, 1, 4, 2]
    rw [← hpt] at H
    exact tab_shut (t := freeT tx t) H
  · rw [if_pos (by simp)]
    refine ent_st 0 H rfl rfl ?_
    obtain ⟨e, he, rfl⟩ := List.mem_map.1 (h1 p hp)
    refine nc_st (a := ⟨e.2.b, 0, none⟩) rfl ?_
    obtain ⟨l1, l2, hsp⟩ := List.append_of_mem he
    have hother : ∀ e' ∈ l1 ++ l2, gone tx (left.filter fun q => q.1 != e.1) e' = gone tx left e' := by
      intro e' he'
      have hne : e'.1 ≠ e.1 := by
        rw [hsp, List.map_append, List.map_cons] at hkd
        intro h
        have h2 := (List.nodup_append.1 hkd).2
        rcases List.mem_append.1 he' with h3 | h3
        · exact h2.2 e'.1 (List.mem_map.2 ⟨e', h3, rfl⟩) e.1 (List.mem_cons_self ..) h
        · exact (List.nodup_cons.1 h2.1).1 (by rw [← h]; exact List.mem_map.2 ⟨e', h3, rfl⟩)
      unfold gone
      have : (left.filter fun q => q.1 != e.1).any (fun q => q.1 == e'.1) = left.any (fun q => q.1 == e'.1) := by
        rw [List.any_filter]
        congr 1
        funext q
        by_cases c : q.1 = e'.1
        · simp [c, hne]
        · simp [c]
      rw [this]
    have hself : gone tx left e = e := by
      unfold gone; rw [if_pos (List.any_eq_true.2 ⟨_, hp, by simp⟩)]
    have hself2 : gone tx (left.filter fun q => q.1 != e.1) e = (e.1, frL tx e.2) := by
      unfold gone
      rw [if_neg]
      rw [List.any_filter, List.any_eq_true]
      rintro ⟨q, _, h⟩
      simp at h
    have em : t.locks.map (gone tx left) = l1.map (gone tx left) ++ e :: l2.map (gone tx left) := by rw [hsp, List.map_append, List.map_cons, hself]
    have em2 : t.locks.map (gone tx (left.filter fun q => q.1 != e.1)) = l1.map (gone tx left) ++ (e.1, frL tx e.2) :: l2.map (gone tx left) := by
      rw [hsp, List.map_append, List.map_cons, hself2]
      rw [List.map_congr_left fun e' h => hother e' (List.mem_append_left _ h), List.map_congr_left fun e' h => hother e' (List.mem_append_right _ h)]
    have H := H.front 1
    rw [em] at H
    have H := lock_open (big_get H)
    refine ld_st (x := some e.2.h) 0 H rfl rfl rfl ?_
    refine mdel_st 1 H rfl rfl fun w3 H => ?_
    refine ld_st (x := some e.2.w) 1 H rfl rfl rfl ?_
    refine mdel_st 2 H rfl rfl fun w4 H => ?_
    -- mapE w, mapE h, cel, bigL, ranging
    have H := lock_shut (L := frL tx e.2) (H.ord [2, 1, 0])
    have H := big_put (e := (e.1, frL tx e.2)) H
    rw [← em2] at H
    exact hK _ _ _ (flt_lt hp) ⟨_, _, rfl, fun q hq => h1 q (List.mem_filter.1 hq).1, H.front 1⟩
/-- Is one an elder one that doesn't go together with a transaction? -/
def ElP (r : Fv) (tx : Int) (fn : Fv) (I : PMap) : Prop := ∃ a b, r = Fv.mk (.func 41) (List.toArray []) (List.toArray [.pointer (some ⟨a, 0, none⟩), .pointer (some ⟨b, 0, none⟩)]) ∧ I a = some (.cells [.int .i64 tx].toArray 3) ∧ I b = some (.cells [fn.enc].toArray 70)
theorem elder_spec {r fn : Fv} {tx : Int} {write : Bool} (k : Know l (ElP r tx fn)) (k2 : Know l (AgP fn tx write)) (H : St W l w) (other : Int) (writes : Bool) : clv Try.prog r [.int .i64 other, .bool writes] tBool w fun q w' => q = (decide (other < tx) && ag tx write other writes) ∧ St W l w' := by
  obtain ⟨I, hI, a, b, rfl, ha, hb⟩ := k.everI H
  refine ⟨41, [.pointer (some ⟨a, 0, none⟩), .pointer (some ⟨b, 0, none⟩)], rfl, ent41, ?_⟩
  refine F41_ok ?_
  unfold F41
  refine ex_i tx (rd_fix (T := tInt .i64) (hI _ _ ha) rfl) ?_
  split
  · rename_i hc
    refine ex_i fn (rd_fix (T := tFun) (hI _ _ hb) rfl) ?_
    obtain ⟨g, c, hfv, hen, h⟩ := no_spec k2 H other writes
    refine ⟨g, c, hfv, hen, cl_mono h ?_⟩
    rintro q w1 ⟨rfl, H⟩
    unfold F41_j1
    exact ⟨by rw [hc]; rfl, H⟩
  · rename_i hc
    unfold F41_j1
    exact ⟨by simp only [Bool.not_eq_true] at hc; rw [hc]; rfl, H⟩
end
end Go.Proofs.Ytojcgejjdfcaaaa.Locks
