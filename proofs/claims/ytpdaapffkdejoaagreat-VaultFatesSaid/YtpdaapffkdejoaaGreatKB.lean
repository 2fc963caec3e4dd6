/- Contracts of a chain of versions. -/
import Derived.Test.YtpdaapffkdejoaaGreatKA
import Derived.Test.YtpdaapffkdejoaaGreatSlJ
namespace Go.Proofs.YtpdaapffkdejoaaGreat.Store
open Go Go.Proofs.YtpdaapffkdejoaaGreat.Cf
set_option linter.unusedVariables false
set_option linter.unusedSimpArgs false
set_option maxRecDepth 100000
section
variable {W w : World} {l l' : List Assn}
/-- A chain in memory. -/
structure ChP where
  b : Nat
  s : Slc
  mark : Int
def chainA (C : ChP) (L : List S86) : Assn := sepA [cel C.b (T111.cells ⟨C.s, C.mark⟩) 112, row T86 87 2 C.s L]
theorem chain_open {C : ChP} {L : List S86} (H : St W (chainA C L :: l) w) : St W (cel C.b (T111.cells ⟨C.s, C.mark⟩) 112 :: row T86 87 2 C.s L :: l) w := H.open_
theorem chain_shut {C : ChP} {L : List S86} (H : St W (cel C.b (T111.cells ⟨C.s, C.mark⟩) 112 :: row T86 87 2 C.s L :: l) w) : St W (chainA C L :: l) w :=
  St.shut (l' := [cel C.b (T111.cells ⟨C.s, C.mark⟩) 112, row T86 87 2 C.s L]) H
theorem chnew_spec (H : St W l w) : cl Tryz.prog 51 [] tPtr w fun r w' => ∃ b, r = some ⟨b, 0, none⟩ ∧ St W (chainA ⟨b, nilS, 0⟩ [] :: l) w' := by
  refine F51_ok ?_
  unfold F51
  refine nw_st H fun b w1 H => ?_
  exact ⟨b, rfl, chain_shut ((row_nil T86 87 2 H).front 1)⟩
theorem chlast_spec {C : ChP} {L : List S86} (hm : L.length ≤ 1000000) (H : St W (chainA C L :: l) w) : cl Tryz.prog 61 [.pointer (some ⟨C.b, 0, none⟩)] (tTup2 T86 tBool) w fun r w' => r = lastV L ∧ St W (chainA C L :: l) w' := by
  refine F61_ok ?_
  unfold F61
  refine nw_st H fun b w1 H => ?_
  have H := chain_open (H.front 1)
  have hs := row_len (H.front 1)
  refine nc_st rfl ?_
  refine ld_st (x := C.s) 0 H rfl rfl rfl ?_
  split
  · rename_i hc
    have hc : L = [] := List.length_eq_zero_iff.1 (by simp at hc; omega)
    subst hc
    refine vst_st (x := Z86) (y := (⟨0, 0⟩ : S86)) len87 2 H rfl fun w2 H => ?_
    refine vld_st (x := (⟨0, 0⟩ : S86)) 0 H rfl ?_
    exact ⟨rfl, chain_shut H.drop⟩
  · rename_i hc
    have hc : 0 < L.length := by simp at hc; omega
    have e : IntKind.i64.wrap (((C.s.len : Int)) - 1) = (L.length : Int) - 1 := by rw [hs]; exact wrap_i64 (by omega) (by omega)
    refine dr_st H fun w2 H => ?_
    refine ld_st (x := C.s) 0 H rfl rfl rfl ?_
    refine ld_st (x := C.s) 0 H rfl rfl rfl ?_
    rw [e]
    obtain ⟨a, ha⟩ := row_ix (sz := 2) (i := (L.length : Int) - 1) (H.front 1) (by omega) (by omega)
    have hx : L[((L.length : Int) - 1).toNat]? = some L[((L.length : Int) - 1).toNat] := List.getElem?_eq_getElem (by omega)
    refine ex_i a ha ?_
    refine ex_i _ (rd_row (fun _ => rfl) ha hx (H.front 1)) ?_
    have hl : L.getLast? = some L[((L.length : Int) - 1).toNat] := by rw [← hx, List.getLast?_eq_getElem?]; congr 1; omega
    generalize L[((L.length : Int) - 1).toNat] = x at hl
    refine vst_st (x := Z86) (y := x) len87 2 H rfl fun w3 H => ?_
    refine vld_st (x := x) 0 H rfl ?_
    refine ⟨?_, chain_shut H.drop⟩
    unfold lastV; rw [hl]; rfl
theorem chlist_spec {C : ChP} {L : List S86} (hm : L.length ≤ 1000000) (H : St W (chainA C L :: l) w) : cl Tryz.prog 77 [.pointer (some ⟨C.b, 0, none⟩)] tSlc w fun r w' => St W (row T86 87 2 r L :: chainA C L :: l) w' := by
  refine F77_ok ?_
  unfold F77
  have H := chain_open H
  have hs := row_len (H.front 1)
  refine nc_st rfl ?_
  refine ld_st (x := C.s) 0 H rfl rfl rfl ?_
  rw [hs]
  refine mkS_st (sz := 2) (by omega) (by omega) (by omega) H fun b w1 H => ?_
  refine ld_st (x := C.s) 1 H rfl rfl rfl ?_
  refine cpy_st (fun _ => rfl) H (RdO_row (H.front 2)) (by simp) fun w2 H => ?_
  exact (chain_shut ((H.front 1).ord [0, 2])).front 1
/-- sort.Search at what is told by a rising predicate. -/
theorem search_spec {n : Int} {fv : Fv} {pr : Int → Bool} (h0 : 0 ≤ n) (h1 : n ≤ 1000000) (hfv : ∀ (w : World) (i : Int), 0 ≤ i → i < n → St W l w → clv Tryz.prog fv [.int .i64 i] tBool w fun r w' => r = pr i ∧ St W l w')
    (hmono : ∀ i j, 0 ≤ i → i ≤ j → j < n → pr i = true → pr j = true) (H : St W l w) :
    cl Tryz.prog 75 [.int .i64 n, fv.enc] (tInt .i64) w fun r w' => 0 ≤ r ∧ r ≤ n ∧ (∀ i, 0 ≤ i → i < r → pr i = false) ∧ (∀ i, r ≤ i → i < n → pr i = true) ∧ St W l w' := by
  refine F75_ok ?_
  unfold F75
  refine lp_i (fun p w => 0 ≤ p.1 ∧ p.1 ≤ p.2 ∧ p.2 ≤ n ∧ (∀ i, 0 ≤ i → i < p.1 → pr i = false) ∧ (∀ i, p.2 ≤ i → i < n → pr i = true) ∧ St W l w) (fun p => (p.2 - p.1).toNat)
    ⟨Int.le_refl 0, h0, Int.le_refl _, fun i h1 h2 => by simp only at h2; omega, fun i h1 h2 => by simp only at h1; omega, H⟩ ?_
  rintro ⟨i, j⟩ w ⟨a0, a1, a2, a3, a4, H⟩
  simp only at a0 a1 a2 a3 a4
  simp only
  unfold F75_l1
  split
  · rename_i hc
    have hc : i < j := by simpa using hc
    have e0 : IntKind.i64.wrap (i + j) = i + j := wrap_i64 (by omega) (by omega)
    have e1 : IntKind.u64.wrap (i + j) = i + j := by
      unfold IntKind.wrap
      simp [IntKind.bits, IntKind.signed]
      omega
    have e2 : Int.fdiv (i + j) (2 ^ (min ((1 : Int)).toNat IntKind.u64.bits)) = (i + j) / 2 := by
      have : (2 : Int) ^ (min ((1 : Int)).toNat IntKind.u64.bits) = 2 := rfl
      rw [this, Int.fdiv_eq_ediv_of_nonneg _ (by omega)]
    rw [e0, e1, e2]
    refine ex_i ((i + j) / 2) ⟨by omega, rfl⟩ ?_
    have e3 : IntKind.i64.wrap ((i + j) / 2) = (i + j) / 2 := wrap_i64 (by omega) (by omega)
    have e4 : IntKind.i64.wrap ((i + j) / 2 + 1) = (i + j) / 2 + 1 := wrap_i64 (by omega) (by omega)
    rw [e3, e4]
    obtain ⟨g, c, hg, hen, h⟩ := hfv w ((i + j) / 2) (by omega) (by omega) H
    refine ⟨g, c, hg, hen, cl_mono h ?_⟩
    rintro r w1 ⟨rfl, H⟩
    show if (!pr ((i + j) / 2)) = true then _ else _
    split
    · rename_i hr
      have hr : pr ((i + j) / 2) = false := by simpa using hr
      refine ⟨⟨by simp only; omega, by simp only; omega, a2, fun x h1 h2 => ?_, a4, H⟩, by simp only; omega⟩
      simp only at h2
      cases hp : pr x with
      | false => rfl
      | true => rw [hmono x ((i + j) / 2) h1 (by omega) (by omega) hp] at hr; cases hr
    · rename_i hr
      have hr : pr ((i + j) / 2) = true := by simpa using hr
      refine ⟨⟨a0, by simp only; omega, by simp only; omega, a3, fun x h1 h2 => ?_, H⟩, by simp only; omega⟩
      simp only at h1
      exact hmono ((i + j) / 2) x (by omega) (by omega) h2 hr
  · rename_i hc
    have hc : i = j := by simp at hc; omega
    subst hc
    exact ⟨a0, a2, a3, a4, H⟩
theorem place_spec {C : ChP} {L : List S86} {at_ : Int} (hm : L.length ≤ 1000000) (hr : Rise L) (H : St W (chainA C L :: l) w) : cl Tryz.prog 65 [.pointer (some ⟨C.b, 0, none⟩), .int .i64 at_] (tInt .i64) w fun r w' => ∃ j : Nat, r = j ∧ Place L at_ j ∧ St W (chainA C L :: l) w' := by
  refine F65_ok ?_
  unfold F65
  refine nw_st H fun b1 w1 H => ?_
  refine nw_st H fun b2 w2 H => ?_
  have H := chain_open (H.front 2)
  have hs := row_len (H.front 1)
  refine ld_st (x := some ⟨C.b, 0, none⟩) 3 H rfl rfl rfl ?_
  refine nc_st rfl ?_
  refine ld_st (x := C.s) 0 H rfl rfl rfl ?_
  rw [hs]
  refine cl_mono (search_spec (pr := fun i => match L[i.toNat]? with | some v => decide (v.T_ > at_) | none => false) (by omega) (by omega) ?_ ?_ H) ?_
  · intro w i h0 h1 H
    refine ⟨76, [.pointer (some ⟨b1, 0, none⟩), .pointer (some ⟨b2, 0, none⟩)], rfl, ent76, ?_⟩
    refine F76_ok ?_
    unfold F76
    refine dr_st H fun w3 H => ?_
    refine ld_st (x := some ⟨C.b, 0, none⟩) 3 H rfl rfl rfl ?_
    refine nc_st rfl ?_
    refine ld_st (x := C.s) 0 H rfl rfl rfl ?_
    obtain ⟨a, ha⟩ := row_ix (sz := 2) (i := i) (H.front 1) h0 (by omega)
    have hx : L[i.toNat]? = some L[i.toNat] := List.getElem?_eq_getElem (by omega)
    refine ex_i a ha ?_
    refine ex_i L[i.toNat].T_ (fld_row (fun _ => rfl) ha hx rfl (H.front 1)) ?_
    refine ld_st (x := at_) 2 H rfl rfl rfl ?_
    refine ⟨?_, H⟩
    rw [hx]
  · intro i j h0 h1 h2 h3
    have hx : L[i.toNat]? = some L[i.toNat] := List.getElem?_eq_getElem (by omega)
    have hy : L[j.toNat]? = some L[j.toNat] := List.getElem?_eq_getElem (by omega)
    simp only [hx, hy, decide_eq_true_eq] at h3 ⊢
    rcases Int.lt_or_eq_of_le h1 with h | h
    · have := List.pairwise_iff_getElem.1 hr i.toNat j.toNat (by omega) (by omega) (by omega)
      omega
    · subst h; exact h3
  · rintro r w3 ⟨r0, r1, r2, r3, H⟩
    refine ⟨r.toNat, by omega, ⟨by omega, ?_, ?_⟩, ?_⟩
    · intro v hv
      obtain ⟨i, hi, rfl⟩ := List.mem_take_iff_getElem.1 hv
      have := r2 i (by omega) (by omega)
      rw [show ((i : Int)).toNat = i from rfl, List.getElem?_eq_getElem (by omega)] at this
      simp at this; omega
    · intro v hv
      obtain ⟨i, hi, rfl⟩ := List.mem_drop_iff_getElem.1 hv
      have := r3 (r + i) (by omega) (by omega)
      rw [show (r + (i : Int)).toNat = r.toNat + i from by omega, List.getElem?_eq_getElem (by omega)] at this
      simp at this; omega
    · exact chain_shut ((H.ord [3, 2]).drop.drop)
theorem chget_spec {C : ChP} {L : List S86} {at_ : Int} (hm : L.length ≤ 1000000) (hr : Rise L) (h0 : 0 ≤ at_) (h1 : at_ ≤ 1125899906842624) (h2 : C.mark ≤ at_) (H : St W (chainA C L :: l) w) :
    cl Tryz.prog 49 [.pointer (some ⟨C.b, 0, none⟩), .int .i64 at_] (tTup2 T86 (tInt .i64)) w fun r w' => r = (match cnt L at_ with | none => ((⟨0, 0⟩ : S86), (114 : Int)) | some v => (v, 0)) ∧ St W (chainA C L :: l) w' := by
  refine F49_ok ?_
  unfold F49
  refine nw_st H fun b w1 H => ?_
  rw [if_neg (by simp; omega)]
  have H := chain_open (H.front 1)
  have hs := row_len (H.front 1)
  refine nc_st rfl ?_
  refine ld_st (x := C.mark) 0 H rfl rfl rfl ?_
  rw [if_neg (by simp; omega)]
  refine cl_mono (place_spec (at_ := at_) hm hr (chain_shut H)) ?_
  rintro r w2 ⟨j, rfl, hp, H⟩
  have H := chain_open H
  cases j with
  | zero =>
    rw [if_pos (by simp)]
    refine vst_st (x := Z86) (y := (⟨0, 0⟩ : S86)) len87 2 H rfl fun w3 H => ?_
    refine vld_st (x := (⟨0, 0⟩ : S86)) 0 H rfl ?_
    refine ⟨?_, chain_shut H.drop⟩
    rw [hp.cnt0]
  | succ j =>
    rw [if_neg (by simp; omega)]
    have hle := hp.le
    refine ld_st (x := C.s) 0 H rfl rfl rfl ?_
    have e : IntKind.i64.wrap (((j + 1 : Nat) : Int) - 1) = j := by rw [show ((j + 1 : Nat) : Int) - 1 = j from by omega]; exact wrap_i64 (by omega) (by omega)
    rw [e]
    obtain ⟨a, ha⟩ := row_ix (sz := 2) (i := (j : Int)) (H.front 1) (by omega) (by omega)
    have hx : L[((j : Int)).toNat]? = some L[j] := List.getElem?_eq_getElem (by omega)
    refine ex_i a ha ?_
    refine ex_i _ (rd_row (fun _ => rfl) ha hx (H.front 1)) ?_
    have hc : cnt L at_ = some L[j] := by rw [hp.cnt]; exact hx
    generalize L[j] = x at hc
    refine vst_st (x := Z86) (y := x) len87 2 H rfl fun w3 H => ?_
    refine vld_st (x := x) 0 H rfl ?_
    refine ⟨?_, chain_shut H.drop⟩
    rw [hc]
theorem chput_spec {C : ChP} {L : List S86} {t v : Int} (hm : L.length < 10000) (h0 : 1 ≤ t) (h1 : t ≤ 1125899906842624) (h2 : C.mark < t) (h3 : (lastV L).1.T_ < t) (H : St W (chainA C L :: l) w) :
    cl Tryz.prog 52 [.pointer (some ⟨C.b, 0, none⟩), .int .i64 t, .int .i64 v] (tInt .i64) w fun r w' => ∃ s, St W (chainA ⟨C.b, s, C.mark⟩ (L ++ [⟨t, v⟩]) :: l) w' := by
  refine F52_ok ?_
  unfold F52
  rw [if_neg (by simp; omega)]
  refine cl_mono (chlast_spec (by omega) H) ?_
  rintro r w1 ⟨rfl, H⟩
  refine nw_st H fun b w2 H => ?_
  generalize lastV L = q at *
  refine vst_st (x := Z86) (y := q.1) len87 0 H rfl fun w3 H => ?_
  refine ex_i q.1.T_ (fun _ => rdat_cel (tInt .i64) H rfl rfl) ?_
  have H := chain_open (H.front 1)
  have hs := row_len (H.front 1)
  refine ex_i (⟨C.b, 0, none⟩ : Addr) (fun _ => rfl) ?_
  refine ex_i C.mark (fun _ => rdat_cel (tInt .i64) H rfl rfl) ?_
  rw [if_neg (by simp; omega)]
  refine nc_st rfl ?_
  refine ld_st (x := C.s) 0 H rfl rfl rfl ?_
  rw [if_neg (by simp; omega)]
  refine ld_st (x := C.s) 0 H rfl rfl rfl ?_
  refine apl_row (fun _ => rfl) 1 H rfl (by simp; omega) fun s w4 H => ?_
  refine st_st (x := s) 1 H rfl rfl (Nat.le_of_ble_eq_true rfl) fun w5 H => ?_
  exact ⟨s, chain_shut (C := ⟨C.b, s, C.mark⟩) ((H.front 2).drop)⟩
theorem chprune_spec {C : ChP} {L : List S86} {mark : Int} (hm : L.length ≤ 1000000) (hr : Rise L) (h0 : 0 ≤ mark) (h1 : mark ≤ 1125899906842624) (h2 : C.mark ≤ mark) (H : St W (chainA C L :: l) w) :
    cl Tryz.prog 63 [.pointer (some ⟨C.b, 0, none⟩), .int .i64 mark] (tInt .i64) w fun r w' => ∃ s, St W (chainA ⟨C.b, s, mark⟩ (keepV mark L) :: l) w' := by
  refine F63_ok ?_
  unfold F63
  rw [if_neg (by simp; omega)]
  have H := chain_open H
  have hs := row_len (H.front 1)
  refine nc_st rfl ?_
  refine ld_st (x := C.mark) 0 H rfl rfl rfl ?_
  rw [show max C.mark mark = mark from by omega]
  refine st_st (x := mark) 0 H rfl rfl (Nat.le_of_ble_eq_true rfl) fun w1 H => ?_
  have H := chain_shut (C := ⟨C.b, C.s, mark⟩) H
  have H := chain_open H
  refine ld_st (x := mark) 0 H rfl rfl rfl ?_
  refine cl_mono (place_spec (C := ⟨C.b, C.s, mark⟩) (at_ := mark) hm hr (chain_shut H)) ?_
  rintro r w2 ⟨j, rfl, hp, H⟩
  have H := chain_open H
  have hle := hp.le
  refine ld_st (x := C.s) 0 H rfl rfl rfl ?_
  have e : max (IntKind.i64.wrap ((j : Int) - 1)) 0 = ((j - 1 : Nat) : Int) := by rw [wrap_i64 (by omega) (by omega)]; omega
  rw [e, hp.keep]
  have e2 : IntKind.i64.wrap ((C.s.len : Int) - ((j - 1 : Nat) : Int)) = ((L.length - (j - 1) : Nat) : Int) := by rw [hs, wrap_i64 (by omega) (by omega)]; omega
  rw [e2]
  refine mkS_st (sz := 2) (by omega) (by omega) (by omega) H fun b w3 H => ?_
  refine ld_st (x := C.s) 1 H rfl rfl rfl ?_
  have hcap : C.s.len ≤ C.s.cap := row_cap (H.front 2)
  refine sub_st (by omega) (by omega) (by omega) (by omega) fun s1 hs1 => ?_
  have hnew := rdS_sub (fun _ => rfl) hs1 (H.front 2)
  refine cpy_st (fun _ => rfl) H hnew (by simp) fun w4 H => ?_
  refine sub_st (by omega) (by omega) (by omega) (by simp) fun s2 hs2 => ?_
  have e3 : s2 = ⟨some ⟨b, 0, none⟩, L.length - (j - 1), L.length - (j - 1)⟩ := by
    obtain ⟨_, _, _, _, h⟩ := hs2
    rw [h]
    simp only [Int.toNat_natCast]
    congr 1
    split
    · rfl
    · rw [Option.map_some, show ((0 : Int).toNat * 2) = 0 from rfl, add_at]
  rw [e3]
  simp only [Int.toNat_natCast] at H
  refine st_st (x := (⟨some ⟨b, 0, none⟩, L.length - (j - 1), L.length - (j - 1)⟩ : Slc)) 1 H rfl rfl (Nat.le_of_ble_eq_true rfl) fun w5 H => ?_
  have H : St W (chainA ⟨C.b, ⟨some ⟨b, 0, none⟩, L.length - (j - 1), L.length - (j - 1)⟩, mark⟩ (L.drop (j - 1)) :: row T86 87 2 C.s L :: l) w5 := chain_shut H
  exact ⟨_, (H.front 1).drop⟩
end
end Go.Proofs.YtpdaapffkdejoaaGreat.Store
