/- Own texts of this claim, part 3: short, merged. -/
import Derived.Laws.BitsLemmas
import Derived.Test.YtpdaapffkdejoaaGreatRows
import Derived.OpenShut
import Derived.ShutString
import Derived.ChangeOld
import Derived.Laws.Cover2
import Derived.Test.YtpdaapffkdejoaaGreatZ2
namespace Go.Proofs.YtpdaapffkdejoaaGreat.Store
open Go Go.Proofs.YtpdaapffkdejoaaGreat.Cf
set_option linter.unusedVariables false
set_option linter.unusedSimpArgs false
set_option maxRecDepth 100000
section
variable {W w : World} {l l' : List Assn}
structure ChP where
  b : Nat
  s : Slc
  mark : Int
def chainA (C : ChP) (L : List S86) : Assn := sepA [cel C.b (T111.cells ⟨C.s, C.mark⟩) 112, row T86 87 2 C.s L]
theorem chain_open {C : ChP} {L : List S86} (H : St W (chainA C L :: l) w) : St W (cel C.b (T111.cells ⟨C.s, C.mark⟩) 112 :: row T86 87 2 C.s L :: l) w := H.open_
theorem chain_shut {C : ChP} {L : List S86} (H : St W (cel C.b (T111.cells ⟨C.s, C.mark⟩) 112 :: row T86 87 2 C.s L :: l) w) : St W (chainA C L :: l) w :=
  St.shut (l' := [cel C.b (T111.cells ⟨C.s, C.mark⟩) 112, row T86 87 2 C.s L]) H
theorem chnew_spec (H : St W l w) : cl Tryz.prog 51 [] tPtr w fun r w' => ∃ b, r = some ⟨b, 0, none⟩ ∧ St W (chainA ⟨b, nilS, 0⟩ [] :: l) w' := by
  refine F51_ok ?_
  unfold F51
  refine nw_st H fun b w1 H => ?_
  exact ⟨b, rfl, chain_shut ((row_nil T86 87 2 H).front 1)⟩
theorem chlast_spec {C : ChP} {L : List S86} (hm : L.length ≤ 1000000) (H : St W (chainA C L :: l) w) : cl Tryz.prog 61 [.pointer (some ⟨C.b, 0, none⟩)] (tTup2 T86 tBool) w fun r w' => r = lastV L ∧ St W (chainA C L :: l) w' := by
  refine F61_ok ?_
  unfold F61
  refine nw_st H fun b w1 H => ?_
  have H := chain_open (H.front 1)
  have hs := row_len (H.front 1)
  refine nc_st rfl ?_
  refine ld_st (x := C.s) 0 H rfl rfl rfl ?_
  split
  · rename_i hc
    have hc : L = [] := List.length_eq_zero_iff.1 (by simp at hc; omega)
    subst hc
    refine vst_st (x := Z86) (y := (⟨0, 0⟩ : S86)) len87 2 H rfl fun w2 H => ?_
    refine vld_st (x := (⟨0, 0⟩ : S86)) 0 H rfl ?_
    exact ⟨rfl, chain_shut H.drop⟩
  · rename_i hc
    have hc : 0 < L.length := by simp at hc; omega
    have e : IntKind.i64.wrap (((C.s.len : Int)) - 1) = (L.length : Int) - 1 := by rw [hs]; exact wrap_i64 (by omega) (by omega)
    refine dr_st H fun w2 H => ?_
    refine ld_st (x := C.s) 0 H rfl rfl rfl ?_
    refine ld_st (x := C.s) 0 H rfl rfl rfl ?_
    rw [e]
    obtain ⟨a, ha⟩ := row_ix (sz := 2) (i := (L.length : Int) - 1) (H.front 1) (by omega) (by omega)
    have hx : L[((L.length : Int) - 1).toNat]? = some L[((L.length : Int) - 1).toNat] := List.getElem?_eq_getElem (by omega)
    refine ex_i a ha ?_
    refine ex_i _ (rd_row (fun _ => rfl) ha hx (H.front 1)) ?_
    have hl : L.getLast? = some L[((L.length : Int) - 1).toNat] := by rw [← hx, List.getLast?_eq_getElem?]; congr 1; omega
    generalize L[((L.length : Int) - 1).toNat] = x at hl
    refine vst_st (x := Z86) (y := x) len87 2 H rfl fun w3 H => ?_
    refine vld_st (x := x) 0 H rfl ?_
    refine ⟨?_, chain_shut H.drop⟩
    unfold lastV; rw [hl]; rfl
theorem chlist_spec {C : ChP} {L : List S86} (hm : L.length ≤ 1000000) (H : St W (chainA C L :: l) w) : cl Tryz.prog 77 [.pointer (some ⟨C.b, 0, none⟩)] tSlc w fun r w' => St W (row T86 87 2 r L :: chainA C L :: l) w' := by
  refine F77_ok ?_
  unfold F77
  have H := chain_open H
  have hs := row_len (H.front 1)
  refine nc_st rfl ?_
  refine ld_st (x := C.s) 0 H rfl rfl rfl ?_
  rw [hs]
  refine mkS_st (sz := 2) (by omega) (by omega) (by omega) H fun b w1 H => ?_
  refine ld_st (x := C.s) 1 H rfl rfl rfl ?_
  refine cpy_st (fun _ => rfl) H (RdO_row (H.front 2)) (by simp) fun w2 H => ?_
  exact (chain_shut ((H.front 1).ord [0, 2])).front 1
theorem search_spec {n : Int} {fv : Fv} {pr : Int → Bool} (h0 : 0 ≤ n) (h1 : n ≤ 1000000) (hfv : ∀ (w : World) (i : Int), 0 ≤ i → i < n → St W l w → clv Tryz.prog fv [.int .i64 i] tBool w fun r w' => r = pr i ∧ St W l w')
    (hmono : ∀ i j, 0 ≤ i → i ≤ j → j < n → pr i = true → pr j = true) (H : St W l w) :
    cl Tryz.prog 75 [.int .i64 n, fv.enc] (tInt .i64) w fun r w' => 0 ≤ r ∧ r ≤ n ∧ (∀ i, 0 ≤ i → i < r → pr i = false) ∧ (∀ i, r ≤ i → i < n → pr i = true) ∧ St W l w' := by
  refine F75_ok ?_
  unfold F75
  refine lp_i (fun p w => 0 ≤ p.1 ∧ p.1 ≤ p.2 ∧ p.2 ≤ n ∧ (∀ i, 0 ≤ i → i < p.1 → pr i = false) ∧ (∀ i, p.2 ≤ i → i < n → pr i = true) ∧ St W l w) (fun p => (p.2 - p.1).toNat)
    ⟨Int.le_refl 0, h0, Int.le_refl _, fun i h1 h2 => by simp only at h2; omega, fun i h1 h2 => by simp only at h1; omega, H⟩ ?_
  rintro ⟨i, j⟩ w ⟨a0, a1, a2, a3, a4, H⟩
  simp only at a0 a1 a2 a3 a4
  simp only
  unfold F75_l1
  split
  · rename_i hc
    have hc : i < j := by simpa using hc
    have e0 : IntKind.i64.wrap (i + j) = i + j := wrap_i64 (by omega) (by omega)
    have e1 : IntKind.u64.wrap (i + j) = i + j := by
      unfold IntKind.wrap
      simp [IntKind.bits, IntKind.signed]
      omega
    have e2 : Int.fdiv (i + j) (2 ^ (min ((1 : Int)).toNat IntKind.u64.bits)) = (i + j) / 2 := by
      have : (2 : Int) ^ (min ((1 : Int)).toNat IntKind.u64.bits) = 2 := rfl
      rw [this, Int.fdiv_eq_ediv_of_nonneg _ (by omega)]
    rw [e0, e1, e2]
    refine ex_i ((i + j) / 2) ⟨by omega, rfl⟩ ?_
    have e3 : IntKind.i64.wrap ((i + j) / 2) = (i + j) / 2 := wrap_i64 (by omega) (by omega)
    have e4 : IntKind.i64.wrap ((i + j) / 2 + 1) = (i + j) / 2 + 1 := wrap_i64 (by omega) (by omega)
    rw [e3, e4]
    obtain ⟨g, c, hg, hen, h⟩ := hfv w ((i + j) / 2) (by omega) (by omega) H
    refine ⟨g, c, hg, hen, cl_mono h ?_⟩
    rintro r w1 ⟨rfl, H⟩
    show if (!pr ((i + j) / 2)) = true then _ else _
    split
    · rename_i hr
      have hr : pr ((i + j) / 2) = false := by simpa using hr
      refine ⟨⟨by simp only; omega, by simp only; omega, a2, fun x h1 h2 => ?_, a4, H⟩, by simp only; omega⟩
      simp only at h2
      cases hp : pr x with
      | false => rfl
      | true => rw [hmono x ((i + j) / 2) h1 (by omega) (by omega) hp] at hr; cases hr
    · rename_i hr
      have hr : pr ((i + j) / 2) = true := by simpa using hr
      refine ⟨⟨a0, by simp only; omega, by simp only; omega, a3, fun x h1 h2 => ?_, H⟩, by simp only; omega⟩
      simp only at h1
      exact hmono ((i + j) / 2) x (by omega) (by omega) h2 hr
  · rename_i hc
    have hc : i = j := by simp at hc; omega
    subst hc
    exact ⟨a0, a2, a3, a4, H⟩
theorem place_spec {C : ChP} {L : List S86} {at_ : Int} (hm : L.length ≤ 1000000) (hr : Rise L) (H : St W (chainA C L :: l) w) : cl Tryz.prog 65 [.pointer (some ⟨C.b, 0, none⟩), .int .i64 at_] (tInt .i64) w fun r w' => ∃ j : Nat, r = j ∧ Place L at_ j ∧ St W (chainA C L :: l) w' := by
  refine F65_ok ?_
  unfold F65
  refine nw_st H fun b1 w1 H => ?_
  refine nw_st H fun b2 w2 H => ?_
  have H := chain_open (H.front 2)
  have hs := row_len (H.front 1)
  refine ld_st (x := some ⟨C.b, 0, none⟩) 3 H rfl rfl rfl ?_
  refine nc_st rfl ?_
  refine ld_st (x := C.s) 0 H rfl rfl rfl ?_
  rw [hs]
  refine cl_mono (search_spec (pr := fun i => match L[i.toNat]? with | some v => decide (v.T_ > at_) | none => false) (by omega) (by omega) ?_ ?_ H) ?_
  · intro w i h0 h1 H
    refine ⟨76, [.pointer (some ⟨b1, 0, none⟩), .pointer (some ⟨b2, 0, none⟩)], rfl, ent76, ?_⟩
    refine F76_ok ?_
    unfold F76
    refine dr_st H fun w3 H => ?_
    refine ld_st (x := some ⟨C.b, 0, none⟩) 3 H rfl rfl rfl ?_
    refine nc_st rfl ?_
    refine ld_st (x := C.s) 0 H rfl rfl rfl ?_
    obtain ⟨a, ha⟩ := row_ix (sz := 2) (i := i) (H.front 1) h0 (by omega)
    have hx : L[i.toNat]? = some L[i.toNat] := List.getElem?_eq_getElem (by omega)
    refine ex_i a ha ?_
    refine ex_i L[i.toNat].T_ (fld_row (fun _ => rfl) ha hx rfl (H.front 1)) ?_
    refine ld_st (x := at_) 2 H rfl rfl rfl ?_
    refine ⟨?_, H⟩
    rw [hx]
  · intro i j h0 h1 h2 h3
    have hx : L[i.toNat]? = some L[i.toNat] := List.getElem?_eq_getElem (by omega)
    have hy : L[j.toNat]? = some L[j.toNat] := List.getElem?_eq_getElem (by omega)
    simp only [hx, hy, decide_eq_true_eq] at h3 ⊢
    rcases Int.lt_or_eq_of_le h1 with h | h
    · have := List.pairwise_iff_getElem.1 hr i.toNat j.toNat (by omega) (by omega) (by omega)
      omega
    · subst h; exact h3
  · rintro r w3 ⟨r0, r1, r2, r3, H⟩
    refine ⟨r.toNat, by omega, ⟨by omega, ?_, ?_⟩, ?_⟩
    · intro v hv
      obtain ⟨i, hi, rfl⟩ := List.mem_take_iff_getElem.1 hv
      have := r2 i (by omega) (by omega)
      rw [show ((i : Int)).toNat = i from rfl, List.getElem?_eq_getElem (by omega)] at this
      simp at this; omega
    · intro v hv
      obtain ⟨i, hi, rfl⟩ := List.mem_drop_iff_getElem.1 hv
      have := r3 (r + i) (by omega) (by omega)
      rw [show (r + (i : Int)).toNat = r.toNat + i from by omega, List.getElem?_eq_getElem (by omega)] at this
      simp at this; omega
    · exact chain_shut ((H.ord [3, 2]).drop.drop)
theorem chget_spec {C : ChP} {L : List S86} {at_ : Int} (hm : L.length ≤ 1000000) (hr : Rise L) (h0 : 0 ≤ at_) (h1 : at_ ≤ 1125899906842624) (h2 : C.mark ≤ at_) (H : St W (chainA C L :: l) w) :
    cl Tryz.prog 49 [.pointer (some ⟨C.b, 0, none⟩), .int .i64 at_] (tTup2 T86 (tInt .i64)) w fun r w' => r = (match cnt L at_ with | none => ((⟨0, 0⟩ : S86), (114 : Int)) | some v => (v, 0)) ∧ St W (chainA C L :: l) w' := by
  refine F49_ok ?_
  unfold F49
  refine nw_st H fun b w1 H => ?_
  rw [if_neg (by simp; omega)]
  have H := chain_open (H.front 1)
  have hs := row_len (H.front 1)
  refine nc_st rfl ?_
  refine ld_st (x := C.mark) 0 H rfl rfl rfl ?_
  rw [if_neg (by simp; omega)]
  refine cl_mono (place_spec (at_ := at_) hm hr (chain_shut H)) ?_
  rintro r w2 ⟨j, rfl, hp, H⟩
  have H := chain_open H
  cases j with
  | zero =>
    rw [if_pos (by simp)]
    refine vst_st (x := Z86) (y := (⟨0, 0⟩ : S86)) len87 2 H rfl fun w3 H => ?_
    refine vld_st (x := (⟨0, 0⟩ : S86)) 0 H rfl ?_
    refine ⟨?_, chain_shut H.drop⟩
    rw [hp.cnt0]
  | succ j =>
    rw [if_neg (by simp; omega)]
    have hle := hp.le
    refine ld_st (x := C.s) 0 H rfl rfl rfl ?_
    have e : IntKind.i64.wrap (((j + 1 : Nat) : Int) - 1) = j := by rw [show ((j + 1 : Nat) : Int) - 1 = j from by omega]; exact wrap_i64 (by omega) (by omega)
    rw [e]
    obtain ⟨a, ha⟩ := row_ix (sz := 2) (i := (j : Int)) (H.front 1) (by omega) (by omega)
    have hx : L[((j : Int)).toNat]? = some L[j] := List.getElem?_eq_getElem (by omega)
    refine ex_i a ha ?_
    refine ex_i _ (rd_row (fun _ => rfl) ha hx (H.front 1)) ?_
    have hc : cnt L at_ = some L[j] := by rw [hp.cnt]; exact hx
    generalize L[j] = x at hc
    refine vst_st (x := Z86) (y := x) len87 2 H rfl fun w3 H => ?_
    refine vld_st (x := x) 0 H rfl ?_
    refine ⟨?_, chain_shut H.drop⟩
    rw [hc]
theorem chput_spec {C : ChP} {L : List S86} {t v : Int} (hm : L.length < 10000) (h0 : 1 ≤ t) (h1 : t ≤ 1125899906842624) (h2 : C.mark < t) (h3 : (lastV L).1.T_ < t) (H : St W (chainA C L :: l) w) :
    cl Tryz.prog 52 [.pointer (some ⟨C.b, 0, none⟩), .int .i64 t, .int .i64 v] (tInt .i64) w fun r w' => ∃ s, St W (chainA ⟨C.b, s, C.mark⟩ (L ++ [⟨t, v⟩]) :: l) w' := by
  refine F52_ok ?_
  unfold F52
  rw [if_neg (by simp; omega)]
  refine cl_mono (chlast_spec (by omega) H) ?_
  rintro r w1 ⟨rfl, H⟩
  refine nw_st H fun b w2 H => ?_
  generalize lastV L = q at *
  refine vst_st (x := Z86) (y := q.1) len87 0 H rfl fun w3 H => ?_
  refine ex_i q.1.T_ (fun _ => rdat_cel (tInt .i64) H rfl rfl) ?_
  have H := chain_open (H.front 1)
  have hs := row_len (H.front 1)
  refine ex_i (⟨C.b, 0, none⟩ : Addr) (fun _ => rfl) ?_
  refine ex_i C.mark (fun _ => rdat_cel (tInt .i64) H rfl rfl) ?_
  rw [if_neg (by simp; omega)]
  refine nc_st rfl ?_
  refine ld_st (x := C.s) 0 H rfl rfl rfl ?_
  rw [if_neg (by simp; omega)]
  refine ld_st (x := C.s) 0 H rfl rfl rfl ?_
  refine apl_row (fun _ => rfl) 1 H rfl (by simp; omega) fun s w4 H => ?_
  refine st_st (x := s) 1 H rfl rfl (Nat.le_of_ble_eq_true rfl) fun w5 H => ?_
  exact ⟨s, chain_shut (C := ⟨C.b, s, C.mark⟩) ((H.front 2).drop)⟩
theorem chprune_spec {C : ChP} {L : List S86} {mark : Int} (hm : L.length ≤ 1000000) (hr : Rise L) (h0 : 0 ≤ mark) (h1 : mark ≤ 1125899906842624) (h2 : C.mark ≤ mark) (H : St W (chainA C L :: l) w) :
    cl Tryz.prog 63 [.pointer (some ⟨C.b, 0, none⟩), .int .i64 mark] (tInt .i64) w fun r w' => ∃ s, St W (chainA ⟨C.b, s, mark⟩ (keepV mark L) :: l) w' := by
  refine F63_ok ?_
  unfold F63
  rw [if_neg (by simp; omega)]
  have H := chain_open H
  have hs := row_len (H.front 1)
  refine nc_st rfl ?_
  refine ld_st (x := C.mark) 0 H rfl rfl rfl ?_
  rw [show max C.mark mark = mark from by omega]
  refine st_st (x := mark) 0 H rfl rfl (Nat.le_of_ble_eq_true rfl) fun w1 H => ?_
  have H := chain_shut (C := ⟨C.b, C.s, mark⟩) H
  have H := chain_open H
  refine ld_st (x := mark) 0 H rfl rfl rfl ?_
  refine cl_mono (place_spec (C := ⟨C.b, C.s, mark⟩) (at_ := mark) hm hr (chain_shut H)) ?_
  rintro r w2 ⟨j, rfl, hp, H⟩
  have H := chain_open H
  have hle := hp.le
  refine ld_st (x := C.s) 0 H rfl rfl rfl ?_
  have e : max (IntKind.i64.wrap ((j : Int) - 1)) 0 = ((j - 1 : Nat) : Int) := by rw [wrap_i64 (by omega) (by omega)]; omega
  rw [e, hp.keep]
  have e2 : IntKind.i64.wrap ((C.s.len : Int) - ((j - 1 : Nat) : Int)) = ((L.length - (j - 1) : Nat) : Int) := by rw [hs, wrap_i64 (by omega) (by omega)]; omega
  rw [e2]
  refine mkS_st (sz := 2) (by omega) (by omega) (by omega) H fun b w3 H => ?_
  refine ld_st (x := C.s) 1 H rfl rfl rfl ?_
  have hcap : C.s.len ≤ C.s.cap := row_cap (H.front 2)
  refine sub_st (by omega) (by omega) (by omega) (by omega) fun s1 hs1 => ?_
  have hnew := rdS_sub (fun _ => rfl) hs1 (H.front 2)
  refine cpy_st (fun _ => rfl) H hnew (by simp) fun w4 H => ?_
  refine sub_st (by omega) (by omega) (by omega) (by simp) fun s2 hs2 => ?_
  have e3 : s2 = ⟨some ⟨b, 0, none⟩, L.length - (j - 1), L.length - (j - 1)⟩ := by
    obtain ⟨_, _, _, _, h⟩ := hs2
    rw [h]
    simp only [Int.toNat_natCast]
    congr 1
    split
    · rfl
    · rw [Option.map_some, show ((0 : Int).toNat * 2) = 0 from rfl, add_at]
  rw [e3]
  simp only [Int.toNat_natCast] at H
  refine st_st (x := (⟨some ⟨b, 0, none⟩, L.length - (j - 1), L.length - (j - 1)⟩ : Slc)) 1 H rfl rfl (Nat.le_of_ble_eq_true rfl) fun w5 H => ?_
  have H : St W (chainA ⟨C.b, ⟨some ⟨b, 0, none⟩, L.length - (j - 1), L.length - (j - 1)⟩, mark⟩ (L.drop (j - 1)) :: row T86 87 2 C.s L :: l) w5 := chain_shut H
  exact ⟨_, (H.front 1).drop⟩
end
end Go.Proofs.YtpdaapffkdejoaaGreat.Store
namespace Go.Proofs.YtpdaapffkdejoaaGreat.Cf
set_option linter.unusedSimpArgs false
set_option linter.unusedVariables false
open Go Go.RowKit
theorem wr_u64 (n : Int) : IntKind.u64.wrap n = n % 18446744073709551616 := by simp [IntKind.wrap, IntKind.bits, IntKind.signed]
theorem wid_u64 (n : Int) (h0 : 0 ≤ n) (h1 : n < 2 ^ 64) : IntKind.u64.wrap n = n := by rw [wr_u64]; omega
theorem ofInt_nat (a : Nat) (h : a < 18446744073709551616) : (BitVec.ofInt 64 (a : Int)).toNat = a := by
  rw [BitVec.ofInt_natCast, BitVec.toNat_ofNat]; exact Nat.mod_eq_of_lt (by omega)
theorem xorm_u64 {x : Int} (h0 : 0 ≤ x) (h1 : x < 18446744073709551616) : bits .xor .u64 x 18446744073709551615 = 18446744073709551615 - x := by
  obtain ⟨a, rfl⟩ := Int.eq_ofNat_of_zero_le h0
  show IntKind.u64.wrap ((BitVec.ofInt 64 (a : Int) ^^^ BitVec.ofInt 64 18446744073709551615).toNat : Int) = _
  have e : BitVec.ofInt 64 18446744073709551615 = BitVec.allOnes 64 := by decide
  rw [e, BitVec.xor_allOnes, BitVec.toNat_not, ofInt_nat a (by omega), wr_u64]; omega
section
variable {W w w' : World} {l l' : List Assn} {α : Type} {T : Ty α} {t e : TypeId}
theorem lp_p {σ : Type} {body : σ → World → (σ → World → Prop) → Prop} {s : σ} {w : World} (I : σ → World → Prop) (μ : σ → Nat) (h0 : I s w)
    (h : ∀ s w, I s w → ∀ K : σ → World → Prop, (∀ s' w', I s' w' → μ s' < μ s → K s' w') → body s w K) : lp body s w :=
  lp_i I μ h0 fun s w hI => h s w hI _ fun s' w' h1 h2 => ⟨h1, h2⟩
end
end Go.Proofs.YtpdaapffkdejoaaGreat.Cf
namespace Go.Proofs.YtpdaapffkdejoaaGreat.Num
open Go Go.Proofs.YtpdaapffkdejoaaGreat.Cf
set_option linter.unusedVariables false
set_option linter.unusedSimpArgs false
set_option maxRecDepth 100000
theorem f64 : FloatKind.f64.format = Ieee.double := rfl
def mant (f : Nat) : Nat := if f < 4503599627370496 then f else 4503599627370496 + f % 4503599627370496
def expo (f : Nat) : Nat := if f < 4503599627370496 then 0 else f / 4503599627370496 - 1
theorem sw : Ieee.double.signWeight = 9223372036854775808 := by decide
theorem bn : Ieee.double.binade = 4503599627370496 := by decide
theorem ir : Ieee.double.infRung = 9218868437227405312 := by decide
theorem lp_ : Ieee.double.leastPlace = -1074 := by decide
theorem fb_ : Ieee.double.fractionBits = 52 := rfl
theorem read_fin {f : Nat} (h : f < 9218868437227405312) : Ieee.double.read f = .number false (mant f) (-1074 + (expo f : Nat)) := by
  have e1 : (f / 9223372036854775808 % 2 == 1) = false := by rw [Nat.div_eq_of_lt (by omega)]; rfl
  have e2 : f % 9223372036854775808 = f := Nat.mod_eq_of_lt (by omega)
  unfold Ieee.Format.read mant expo
  simp only [sw, bn, ir, lp_, e1, e2]
  by_cases c : f < 4503599627370496
  · simp only [if_pos c]; rfl
  · simp only [if_neg c, if_pos h]
theorem read_neg {f : Nat} (h1 : 9223372036854775808 < f) (h2 : f < 18446744073709551616) : (∃ m i, 1 ≤ m ∧ Ieee.double.read f = .number true m i) ∨ Ieee.double.read f = .infinity true ∨ ∃ t, Ieee.double.read f = .nan true t := by
  have e1 : (f / 9223372036854775808 % 2 == 1) = true := by
    have : f / 9223372036854775808 = 1 := by omega
    rw [this]; rfl
  unfold Ieee.Format.read
  simp only [sw, bn, ir, lp_, e1]
  by_cases c1 : f % 9223372036854775808 < 4503599627370496
  · simp only [if_pos c1]
    exact .inl ⟨_, _, by omega, rfl⟩
  · simp only [if_neg c1]
    by_cases c2 : f % 9223372036854775808 < 9218868437227405312
    · simp only [if_pos c2]
      exact .inl ⟨_, _, by omega, rfl⟩
    · simp only [if_neg c2]
      by_cases c3 : f % 9223372036854775808 = 9218868437227405312
      · simp only [if_pos c3]
        exact .inr (.inl (by trivial))
      · simp only [if_neg c3]
        exact .inr (.inr ⟨_, rfl⟩)
theorem read_pos {f : Nat} (h : f < 9223372036854775808) : (∃ m i, Ieee.double.read f = .number false m i) ∨ Ieee.double.read f = .infinity false ∨ ∃ t, Ieee.double.read f = .nan false t := by
  have e1 : (f / 9223372036854775808 % 2 == 1) = false := by
    have : f / 9223372036854775808 = 0 := by omega
    rw [this]; rfl
  unfold Ieee.Format.read
  simp only [sw, bn, ir, lp_, e1]
  by_cases c1 : f % 9223372036854775808 < 4503599627370496
  · simp only [if_pos c1]
    exact .inl ⟨_, _, rfl⟩
  · simp only [if_neg c1]
    by_cases c2 : f % 9223372036854775808 < 9218868437227405312
    · simp only [if_pos c2]
      exact .inl ⟨_, _, rfl⟩
    · simp only [if_neg c2]
      by_cases c3 : f % 9223372036854775808 = 9218868437227405312
      · simp only [if_pos c3]
        exact .inr (.inl (by trivial))
      · simp only [if_neg c3]
        exact .inr (.inr ⟨_, rfl⟩)
theorem cmp_lt {a b : Int} (h : a < b) : compare a b = .lt := Std.compare_eq_lt.2 h
theorem cmp_gt {a b : Int} (h : b < a) : compare a b = .gt := Std.compare_eq_gt.2 h
theorem cmp_ge {a b : Int} (h : b ≤ a) : compare a b ≠ .lt := fun e => by
  have := Std.compare_eq_lt.1 e
  omega
theorem sg_neg {m k : Nat} (h : 1 ≤ m) : Ieee.signed true m k < 0 := by
  unfold Ieee.signed
  rw [if_pos rfl, Nat.shiftLeft_eq]
  have : 1 ≤ m * 2 ^ k := Nat.le_trans h (Nat.le_mul_of_pos_right _ (Nat.two_pow_pos k))
  omega
theorem sg_pos {m k : Nat} : 0 ≤ Ieee.signed false m k := by
  unfold Ieee.signed
  rw [if_neg (by simp)]
  exact Int.natCast_nonneg _
theorem sg_eq (m k : Nat) : Ieee.signed false m k = ((m * 2 ^ k : Nat) : Int) := by
  unfold Ieee.signed
  rw [if_neg (by simp), Nat.shiftLeft_eq]
theorem sg_pos1 {m k : Nat} (h : 1 ≤ m) : 0 < Ieee.signed false m k := by
  rw [sg_eq]
  have : 1 ≤ m * 2 ^ k := Nat.le_trans h (Nat.le_mul_of_pos_right _ (Nat.two_pow_pos k))
  omega
theorem mant_pos {f : Nat} (h : 0 < f) : 1 ≤ mant f := by unfold mant; split <;> omega
theorem read_zero : Ieee.double.read 0 = .number false 0 (-1074) := by rw [read_fin (by omega)]; rfl
theorem lss0_pos {f : Nat} (h : f < 9223372036854775808) : fcmp .lss f 0 = false := by
  unfold fcmp
  rw [f64]
  simp only [Ieee.Format.order, read_zero]
  rcases read_pos h with ⟨m, i, e⟩ | e | ⟨t, e⟩
  · rw [e]
    simp only [Ieee.Datum.order]
    have : Ieee.signed false 0 (-1074 - min i (-1074)).toNat = 0 := by rw [sg_eq]; simp
    rw [this]
    have hc := cmp_ge (sg_pos (m := m) (k := (i - min i (-1074)).toNat))
    cases hh : compare (Ieee.signed false m (i - min i (-1074)).toNat) 0 with
    | lt => exact absurd hh hc
    | eq => rfl
    | gt => rfl
  · rw [e]; rfl
  · rw [e]; rfl
theorem lss0_neg {f : Nat} (h1 : 9223372036854775808 < f) (h2 : f < 18446744073709551616) (hn : fcmp .neq f f = false) : fcmp .lss f 0 = true := by
  unfold fcmp at *
  rw [f64] at *
  simp only [Ieee.Format.order, read_zero] at *
  rcases read_neg h1 h2 with ⟨m, i, hm, e⟩ | e | ⟨t, e⟩
  · rw [e]
    simp only [Ieee.Datum.order]
    have : Ieee.signed false 0 (-1074 - min i (-1074)).toNat = 0 := by rw [sg_eq]; simp
    rw [this, cmp_lt (sg_neg hm)]
    rfl
  · rw [e]; rfl
  · rw [e] at hn
    cases hn
theorem eql0 {f : Nat} (h0 : 0 < f) (h : f < 9218868437227405312) : fcmp .eql f 0 = false := by
  unfold fcmp
  rw [f64]
  simp only [Ieee.Format.order, read_zero, read_fin h, Ieee.Datum.order]
  have : Ieee.signed false 0 (-1074 - min (-1074 + (expo f : Int)) (-1074)).toNat = 0 := by rw [sg_eq]; simp
  rw [this, cmp_gt (sg_pos1 (mant_pos h0))]
  rfl
theorem read_max : Ieee.double.read 9218868437227405311 = .number false 9007199254740991 971 := by rw [read_fin (by omega)]; rfl
theorem max_fin {f : Nat} (h : f ≤ 4611686018427387904) : fcmp .gtr f 9218868437227405311 = false := by
  unfold fcmp
  rw [f64]
  simp only [Ieee.Format.order, read_max, read_fin (show f < 9218868437227405312 by omega), Ieee.Datum.order]
  have he : expo f ≤ 1023 := by unfold expo; split <;> omega
  have hm : mant f < 9007199254740992 := by unfold mant; split <;> omega
  have hmin : min (-1074 + (expo f : Int)) 971 = -1074 + (expo f : Int) := by omega
  rw [hmin, sg_eq, sg_eq]
  have e1 : (-1074 + (expo f : Int) - (-1074 + (expo f : Int))).toNat = 0 := by omega
  obtain ⟨k, hk⟩ : ∃ k, (971 - (-1074 + (expo f : Int))).toNat = k + 1 := ⟨(970 - (-1074 + (expo f : Int))).toNat, by omega⟩
  rw [e1, hk]
  have h2 : 1 ≤ 2 ^ k := Nat.two_pow_pos k
  have h3 : 9007199254740991 * 2 ^ (k + 1) = 9007199254740991 * 2 * 2 ^ k := by rw [Nat.pow_succ]; omega
  have h4 : 9007199254740991 * 2 * 1 ≤ 9007199254740991 * 2 * 2 ^ k := Nat.mul_le_mul_left _ h2
  rw [cmp_lt (by rw [h3]; omega)]
  rfl
theorem lss_sub {f : Nat} (h : f < 4503599627370496) : fcmp .lss f 4503599627370496 = true := by
  have e1 : Ieee.double.read 4503599627370496 = .number false 4503599627370496 (-1074) := by rw [read_fin (by omega)]; rfl
  have e2 : mant f = f := by unfold mant; rw [if_pos h]
  have e3 : expo f = 0 := by unfold expo; rw [if_pos h]
  unfold fcmp
  rw [f64]
  simp only [Ieee.Format.order, e1, read_fin (show f < 9218868437227405312 by omega), Ieee.Datum.order, e2, e3, sg_eq]
  rw [cmp_lt (by simp; omega)]
  rfl
theorem lss_nor {f : Nat} (h0 : 4503599627370496 ≤ f) (h : f < 9218868437227405312) : fcmp .lss f 4503599627370496 = false := by
  have e1 : Ieee.double.read 4503599627370496 = .number false 4503599627370496 (-1074) := by rw [read_fin (by omega)]; rfl
  have e2 : 4503599627370496 ≤ mant f := by unfold mant; rw [if_neg (by omega)]; omega
  unfold fcmp
  rw [f64]
  simp only [Ieee.Format.order, e1, read_fin h, Ieee.Datum.order, sg_eq]
  have hmin : min (-1074 + (expo f : Int)) (-1074) = -1074 := by omega
  rw [hmin]
  have h1 : 4503599627370496 * 2 ^ (-1074 - -1074 : Int).toNat ≤ mant f * 2 ^ (-1074 + (expo f : Int) - -1074).toNat := by
    have : (-1074 - -1074 : Int).toNat = 0 := by decide
    rw [this]
    exact Nat.mul_le_mul e2 (Nat.two_pow_pos _)
  have hc := cmp_ge (Int.ofNat_le.2 h1)
  cases hh : compare ((mant f * 2 ^ (-1074 + (expo f : Int) - -1074).toNat : Nat) : Int) ((4503599627370496 * 2 ^ (-1074 - -1074 : Int).toNat : Nat) : Int) with
  | lt => exact absurd hh hc
  | eq => rfl
  | gt => rfl
theorem cut_exact {n k q : Nat} (h : n = q * 2 ^ k) (hk : k ≤ n.log2 + 2) (neg : Bool) : Ieee.Toward.even.cut neg n k = q := by
  unfold Ieee.Toward.cut
  simp only [Nat.min_eq_left hk, Nat.shiftLeft_eq, Nat.one_mul]
  have hp := Nat.two_pow_pos k
  have e1 : n / 2 ^ k = q := by rw [h]; exact Nat.mul_div_cancel _ hp
  have e2 : n % 2 ^ k = 0 := by rw [h]; exact Nat.mul_mod_left _ _
  rw [e1, e2]
  have e3 : (decide (2 ^ k < 2 * 0) || (2 ^ k == 2 * 0) && q % 2 == 1) = false := by
    have : (2 ^ k == 2 * 0) = false := by
      rw [beq_eq_false_iff_ne]
      omega
    rw [this]
    simp
  rw [e3]
  rfl
theorem mul_one {F : Nat} (h : F < 4503599627370496) : FArith .mul 4607182418800017408 (1075 * 4503599627370496 + F) (1075 * 4503599627370496 + F) := by
  have e1 : Ieee.double.read 4607182418800017408 = .number false 4503599627370496 (-52) := by rw [read_fin (by omega)]; rfl
  have e2 : Ieee.double.read (1075 * 4503599627370496 + F) = .number false (4503599627370496 + F) 0 := by
    rw [read_fin (by omega)]
    have c1 : mant (1075 * 4503599627370496 + F) = 4503599627370496 + F := by unfold mant; rw [if_neg (by omega)]; omega
    have c2 : expo (1075 * 4503599627370496 + F) = 1074 := by unfold expo; rw [if_neg (by omega)]; omega
    rw [c1, c2]; rfl
  unfold FArith floatBits
  rw [f64]
  simp only [Ieee.Format.mul, e1, e2, Ieee.Datum.product, Option.map_some, Ieee.Format.write]
  congr 1
  unfold Ieee.Format.nearest
  have hne : ¬ 4503599627370496 * (4503599627370496 + F) = 0 := by omega
  have hlog : (4503599627370496 * (4503599627370496 + F)).log2 = 104 := by
    rw [Nat.log2_eq_iff hne]
    omega
  rw [if_neg hne]
  simp only [hlog, fb_, lp_, bn, ir]
  have hlast : max ((-52 : Int) + 0 + ((104 : Nat) : Int) - ((52 : Nat) : Int)) (-1074) = 0 := by decide
  rw [hlast]
  have hs1 : ((-52 : Int) + 0 - 0).toNat = 0 := by decide
  have hs2 : ((0 : Int) - (-52 + 0)).toNat = 52 := by decide
  have hs3 : ((0 : Int) - -1074).toNat = 1074 := by decide
  rw [hs1, hs2, hs3, Nat.shiftLeft_zero]
  rw [cut_exact (q := 4503599627370496 + F) (by omega) (by rw [hlog]; omega)]
  show min _ _ = _
  omega
theorem to_int {F : Nat} (h : F < 4503599627370496) : F2I .i64 (1075 * 4503599627370496 + F) ((4503599627370496 + F : Nat) : Int) := by
  have e2 : Ieee.double.read (1075 * 4503599627370496 + F) = .number false (4503599627370496 + F) 0 := by
    rw [read_fin (by omega)]
    have c1 : mant (1075 * 4503599627370496 + F) = 4503599627370496 + F := by unfold mant; rw [if_neg (by omega)]; omega
    have c2 : expo (1075 * 4503599627370496 + F) = 1074 := by unfold expo; rw [if_neg (by omega)]; omega
    rw [c1, c2]; rfl
  unfold F2I floatToIntVal FloatKind.decode
  rw [f64, e2]
  have hcut : Ieee.Toward.zero.cut false ((4503599627370496 + F) <<< (0 : Int).toNat) (-(0 : Int)).toNat = 4503599627370496 + F := by
    unfold Ieee.Toward.cut
    simp
  simp only [Ieee.Datum.toInt, Ieee.Datum.integral, hcut, sg_eq]
  have m1 : IntKind.i64.min = -9223372036854775808 := rfl
  have m2 : IntKind.i64.max = 9223372036854775807 := rfl
  rw [m1, m2]
  simp
  omega
theorem to_int0 : F2I .i64 0 0 ∧ F2I .i64 9223372036854775808 0 := by
  refine ⟨?_, ?_⟩
  · unfold F2I; rfl
  · unfold F2I; rfl
theorem sub_log {f k : Nat} (h0 : 0 < f) (h : f < 2 ^ 52) (hk : f.log2 = k) : k < 52 ∧ (f * 2 ^ 52).log2 = k + 52 ∧ 2 ^ 52 ≤ f * 2 ^ (52 - k) ∧ f * 2 ^ (52 - k) < 2 * 2 ^ 52 ∧ f * 2 ^ 52 = f * 2 ^ (52 - k) * 2 ^ k := by
  have hlog := (Nat.log2_eq_iff (Nat.ne_of_gt h0)).1 hk
  have hk52 : k < 52 := by
    apply Classical.byContradiction
    intro hc
    have h1 : 2 ^ 52 ≤ 2 ^ k := Nat.pow_le_pow_right (Nat.zero_lt_succ 1) (Nat.le_of_not_lt hc)
    exact absurd (Nat.lt_of_lt_of_le h h1) (Nat.not_lt_of_le hlog.1)
  obtain ⟨j, hj⟩ : ∃ j, j + k = 52 := ⟨52 - k, by omega⟩
  have hjk : 52 - k = j := by omega
  have hp : (2 : Nat) ^ 52 = 2 ^ j * 2 ^ k := by rw [← Nat.pow_add, hj]
  rw [hjk]
  generalize (2 : Nat) ^ 52 = N at *
  have hN : 0 < N := by rw [hp]; exact Nat.mul_pos (Nat.two_pow_pos _) (Nat.two_pow_pos _)
  refine ⟨hk52, ?_, ?_, ?_, ?_⟩
  · rw [Nat.log2_eq_iff (Nat.ne_of_gt (Nat.mul_pos h0 hN))]
    have e3 : (2 : Nat) ^ (k + 52) = 2 ^ k * N := by rw [hp, Nat.mul_comm (2 ^ j), ← Nat.mul_assoc, ← Nat.pow_add, ← Nat.pow_add]; congr 1; omega
    have e4 : (2 : Nat) ^ (k + 52 + 1) = 2 ^ (k + 1) * N := by rw [Nat.pow_succ, e3, Nat.pow_succ, Nat.mul_assoc, Nat.mul_assoc, Nat.mul_comm N]
    rw [e3, e4]
    exact ⟨Nat.mul_le_mul_right _ hlog.1, Nat.mul_lt_mul_of_pos_right hlog.2 hN⟩
  · have := Nat.mul_le_mul_right (2 ^ j) hlog.1
    rw [Nat.mul_comm (2 ^ k), ← hp] at this
    exact this
  · have := Nat.mul_lt_mul_of_pos_right hlog.2 (Nat.two_pow_pos j)
    have e5 : (2 : Nat) ^ (k + 1) * 2 ^ j = 2 * N := by rw [hp, Nat.pow_succ, Nat.mul_comm (2 ^ j), Nat.mul_comm (2 ^ k) 2, Nat.mul_assoc]
    rw [e5] at this
    exact this
  · rw [hp, Nat.mul_assoc]
theorem and_not {x m M : Nat} (hx : x < 18446744073709551616) (hm : (~~~ BitVec.ofNat 64 m) = BitVec.ofNat 64 M) (hM : M < 18446744073709551616) : bits .andNot .u64 (x : Int) (m : Int) = ((x &&& M : Nat) : Int) := by
  have hlt : x &&& M < 18446744073709551616 := Nat.lt_of_le_of_lt Nat.and_le_left hx
  simp only [bits, BitVec.ofInt_natCast]
  have : (BitVec.ofNat IntKind.u64.bits x &&& ~~~ BitVec.ofNat IntKind.u64.bits m).toNat = x &&& M := by
    show (BitVec.ofNat 64 x &&& ~~~ BitVec.ofNat 64 m).toNat = x &&& M
    rw [hm, BitVec.toNat_and, BitVec.toNat_ofNat, BitVec.toNat_ofNat, Nat.mod_eq_of_lt hx, Nat.mod_eq_of_lt hM]
  rw [this]
  exact wid_u64 _ (by omega) (by omega)
theorem abs_bits {x : Nat} (hx : x < 18446744073709551616) : bits .andNot .u64 (x : Int) 9223372036854775808 = ((x % 9223372036854775808 : Nat) : Int) := by
  have := and_not (m := 9223372036854775808) (M := 9223372036854775807) hx (by decide) (by omega)
  rw [show ((9223372036854775808 : Nat) : Int) = 9223372036854775808 from rfl] at this
  rw [this]
  have e : x &&& 9223372036854775807 = x % 2 ^ 63 := Nat.and_two_pow_sub_one_eq_mod x 63
  rw [e]
theorem frac_bits {x : Nat} (hx : x < 9223372036854775808) : bits .andNot .u64 (x : Int) 9218868437227405312 = ((x % 4503599627370496 : Nat) : Int) := by
  have := and_not (m := 9218868437227405312) (M := 9227875636482146303) (show x < 18446744073709551616 by omega) (by decide) (by omega)
  rw [show ((9218868437227405312 : Nat) : Int) = 9218868437227405312 from rfl] at this
  rw [this]
  have e0 : x &&& 9223372036854775807 = x % 2 ^ 63 := Nat.and_two_pow_sub_one_eq_mod x 63
  have e1 : x = x &&& 9223372036854775807 := by rw [e0]; omega
  have e2 : x &&& 9227875636482146303 = x &&& 4503599627370495 := by
    conv => lhs; rw [e1]
    rw [Nat.and_assoc]
    rfl
  have e3 : x &&& 4503599627370495 = x % 2 ^ 52 := Nat.and_two_pow_sub_one_eq_mod x 52
  rw [e2, e3]
theorem or_hi {E F : Nat} (hE : E < 2048) (hF : F < 4503599627370496) : bits .or .u64 (F : Int) ((E * 4503599627370496 : Nat) : Int) = ((E * 4503599627370496 + F : Nat) : Int) := by
  have h1 := (bits_nat .u64 64 (by decide) wid_u64 F (E * 4503599627370496) (by omega) (by omega)).2
  have h2 := (bits_nat .u64 64 (by decide) wid_u64 (E * 4503599627370496) F (by omega) (by omega)).2
  rw [h1, Nat.or_comm, ← h2]
  rw [bits_join .u64 64 (by decide) wid_u64 52 _ _ (by omega) (by omega) (by omega) (by omega) (by omega) (by omega)]
  omega
theorem and2047 {x : Int} (h0 : 0 ≤ x) (h1 : x < 2048) : bits .and .u64 x 2047 = x ∧ bits .and .i64 x 2047 = x := by
  constructor
  · have := bits_mask .u64 64 (by decide) wid_u64 11 (by decide) x h0 (by omega)
    rw [show (2 : Int) ^ 11 - 1 = 2047 from rfl] at this
    rw [this]; omega
  · have := bits_mask .i64 63 (by decide) (fun n h0 h1 => wrap_i64 (by omega) (by omega)) 11 (by decide) x h0 (by omega)
    rw [show (2 : Int) ^ 11 - 1 = 2047 from rfl] at this
    rw [this]; omega
end Go.Proofs.YtpdaapffkdejoaaGreat.Num
namespace Go.Proofs.YtpdaapffkdejoaaGreat.Num
open Go Go.Proofs.YtpdaapffkdejoaaGreat.Cf
set_option linter.unusedVariables false
set_option linter.unusedSimpArgs false
set_option maxRecDepth 100000
theorem mul_sub {f : Nat} (h0 : 0 < f) (h : f < 4503599627370496) : ∃ z, FArith .mul f 4841369599423283200 z ∧ 4503599627370496 ≤ z ∧ z < 60 * 4503599627370496 := by
  have e1 : Ieee.double.read 4841369599423283200 = .number false 4503599627370496 0 := by rw [read_fin (by omega)]; rfl
  have e2 : Ieee.double.read f = .number false f (-1074) := by
    rw [read_fin (by omega)]
    have c1 : mant f = f := by unfold mant; rw [if_pos h]
    have c2 : expo f = 0 := by unfold expo; rw [if_pos h]
    rw [c1, c2]; rfl
  have hp1 : (2 : Nat) ^ 52 = 4503599627370496 := by decide
  obtain ⟨k, hk⟩ : ∃ k, f.log2 = k := ⟨_, rfl⟩
  obtain ⟨hk52, hlog2, hq1, hq2, hx⟩ := sub_log h0 (by rw [hp1]; exact h) hk
  rw [hp1] at hlog2 hq1 hq2 hx
  generalize f * 2 ^ (52 - k) = q at *
  have hne : ¬ f * 4503599627370496 = 0 := by omega
  refine ⟨k * 4503599627370496 + q, ?_, by omega, by omega⟩
  unfold FArith floatBits
  rw [f64]
  simp only [Ieee.Format.mul, e1, e2, Ieee.Datum.product, Option.map_some, Ieee.Format.write]
  congr 1
  unfold Ieee.Format.nearest
  rw [if_neg hne]
  simp only [hlog2, fb_, lp_, bn, ir]
  have hlast : max ((-1074 : Int) + 0 + ((k + 52 : Nat) : Int) - ((52 : Nat) : Int)) (-1074) = -1074 + (k : Int) := by omega
  rw [hlast]
  have hs1 : ((-1074 : Int) + 0 - (-1074 + (k : Int))).toNat = 0 := by omega
  have hs2 : ((-1074 + (k : Int)) - (-1074 + 0)).toNat = k := by omega
  have hs3 : ((-1074 + (k : Int)) - -1074).toNat = k := by omega
  rw [hs1, hs2, hs3, Nat.shiftLeft_zero]
  rw [cut_exact (q := q) hx (by rw [hlog2]; omega)]
  unfold Ieee.Format.word
  rw [if_neg (by simp)]
  exact Nat.min_eq_left (by omega)
end Go.Proofs.YtpdaapffkdejoaaGreat.Num
namespace Go.Proofs.YtpdaapffkdejoaaGreat.Num
open Go Go.Proofs.YtpdaapffkdejoaaGreat.Cf
set_option linter.unusedVariables false
set_option linter.unusedSimpArgs false
set_option maxRecDepth 100000
theorem ord_self (d : Ieee.Datum) : d.order d = if d.isNaN then none else some .eq := by
  have c1 : ∀ x : Int, compare x x = .eq := fun x => Std.ReflCmp.compare_self
  have c2 : ∀ x : Nat, compare x x = .eq := fun x => Std.ReflCmp.compare_self
  cases d with
  | nan s t => rfl
  | infinity s => simp only [Ieee.Datum.order, c2]; rfl
  | number s m i => simp only [Ieee.Datum.order, c1]; rfl
theorem neq_fin {f : Nat} (h : f < 9218868437227405312) : fcmp .neq f f = false := by
  unfold fcmp
  rw [f64]
  simp only [Ieee.Format.order, ord_self, read_fin h]
  rfl
def rateOk (f : Nat) : Prop := f = 9223372036854775808 ∨ f ≤ 4607182418800017408
section
variable {W w : World} {l l' : List Assn}
theorem abs_spec {f : Nat} (hf : f < 18446744073709551616) (H : St W l w) : cl Tryz.prog 95 [.float .f64 f] tFlt w fun r w' => r = f % 9223372036854775808 ∧ St W l w' := by
  refine F95_ok ?_
  unfold F95
  rw [abs_bits hf, Int.toNat_natCast]
  exact ⟨rfl, H⟩
theorem isnan_spec {f : Nat} (H : St W l w) : cl Tryz.prog 108 [.float .f64 f] tBool w fun r w' => r = fcmp .neq f f ∧ St W l w' := by
  refine F108_ok ?_
  unfold F108
  exact ⟨rfl, H⟩
theorem inf_spec {f : Nat} {s : Int} (hf : f < 18446744073709551616) (H : St W l w) : cl Tryz.prog 73 [.float .f64 f, .int .i64 s] tBool w fun r w' => r = fcmp .gtr (if s = 0 then f % 9223372036854775808 else if s < 0 then Op.negFloat .f64 f else f) 9218868437227405311 ∧ St W l w' := by
  refine F73_ok ?_
  unfold F73 F73_j1
  by_cases c : s = 0
  · rw [if_pos (by simp [c]), if_pos c]
    refine cl_mono (abs_spec hf H) ?_
    rintro r w ⟨rfl, H⟩
    exact ⟨rfl, H⟩
  · rw [if_neg (by simpa using c), if_neg c]
    by_cases d : s < 0
    · rw [if_pos (by simpa using d), if_pos d]
      exact ⟨rfl, H⟩
    · rw [if_neg (by simpa using d), if_neg d]
      exact ⟨rfl, H⟩
theorem norm_spec {f : Nat} (h0 : 0 < f) (h : f < 9218868437227405312) (H : St W l w) : cl Tryz.prog 109 [.float .f64 f] (tTup2 tFlt (tInt .i64)) w fun r w' => (4503599627370496 ≤ f → r = (f, 0)) ∧ (f < 4503599627370496 → r.2 = -52 ∧ 4503599627370496 ≤ r.1 ∧ r.1 < 60 * 4503599627370496) ∧ St W l w' := by
  refine F109_ok ?_
  unfold F109
  refine cl_mono (abs_spec (by omega) H) ?_
  rintro r w ⟨rfl, H⟩
  rw [Nat.mod_eq_of_lt (by omega)]
  by_cases c : f < 4503599627370496
  · rw [if_pos (lss_sub c)]
    obtain ⟨z, hz, h1, h2⟩ := mul_sub h0 c
    refine ex_i z hz ?_
    exact ⟨fun h => by omega, fun _ => ⟨rfl, h1, h2⟩, H⟩
  · rw [if_neg (by rw [lss_nor (by omega) h]; simp)]
    exact ⟨fun _ => rfl, fun h => absurd h c, H⟩
theorem frexp0_spec {f : Nat} (h : f = 0 ∨ f = 9223372036854775808) (H : St W l w) : cl Tryz.prog 103 [.float .f64 f] (tTup2 tFlt (tInt .i64)) w fun r w' => r = (f, 0) ∧ St W l w' := by
  refine F103_ok ?_
  unfold F103
  rw [if_pos (by rcases h with rfl | rfl <;> rfl)]
  exact ⟨rfl, H⟩
theorem ldexp0_spec {f : Nat} {e : Int} (h : f = 0 ∨ f = 9223372036854775808) (H : St W l w) : cl Tryz.prog 105 [.float .f64 f, .int .i64 e] tFlt w fun r w' => r = f ∧ St W l w' := by
  refine F105_ok ?_
  unfold F105
  rw [if_pos (by rcases h with rfl | rfl <;> rfl)]
  exact ⟨rfl, H⟩
theorem shr52 (z : Nat) : Int.fdiv (z : Int) (2 ^ (min ((52 : Int)).toNat IntKind.u64.bits)) = ((z / 4503599627370496 : Nat) : Int) := by
  have : (2 : Int) ^ (min ((52 : Int)).toNat IntKind.u64.bits) = 4503599627370496 := by decide
  rw [this, Int.fdiv_eq_ediv_of_nonneg _ (by omega)]
  omega
theorem frexp_spec {f : Nat} (h0 : 0 < f) (h : f ≤ 4607182418800017408) (H : St W l w) : cl Tryz.prog 103 [.float .f64 f] (tTup2 tFlt (tInt .i64)) w fun r w' => (∃ (F : Nat) (e : Int), r = (1022 * 4503599627370496 + F, e) ∧ F < 4503599627370496 ∧ (4503599627370496 ≤ f → F = f % 4503599627370496 ∧ e = (f / 4503599627370496 : Nat) - 1022) ∧ (f < 4503599627370496 → -1100 ≤ e ∧ e ≤ -1000)) ∧ St W l w' := by
  refine F103_ok ?_
  unfold F103
  rw [if_neg (by rw [eql0 h0 (by omega)]; simp)]
  refine cl_mono (inf_spec (s := 0) (by omega) H) ?_
  rintro r w ⟨rfl, H⟩
  rw [if_pos rfl, Nat.mod_eq_of_lt (by omega), max_fin (by omega), if_neg (by simp)]
  refine cl_mono (isnan_spec H) ?_
  rintro r w ⟨rfl, H⟩
  rw [neq_fin (by omega)]
  unfold F103_j1
  rw [if_neg (by simp)]
  refine cl_mono (norm_spec h0 (by omega) H) ?_
  rintro ⟨z, e⟩ w ⟨h1, h2, H⟩
  have hz : z < 9223372036854775808 := by
    by_cases c : f < 4503599627370496
    · have := (h2 c).2.2
      simp only at this
      omega
    · have := h1 (by omega)
      cases this
      omega
  have hE : z / 4503599627370496 < 2048 := by omega
  dsimp only
  rw [shr52 z]
  refine ex_i ((z / 4503599627370496 : Nat) : Int) ⟨by omega, rfl⟩ ?_
  rw [(and2047 (x := ((z / 4503599627370496 : Nat) : Int)) (by omega) (by omega)).1, frac_bits hz]
  have hor := or_hi (E := 1022) (F := z % 4503599627370496) (by omega) (by omega)
  rw [show ((1022 * 4503599627370496 : Nat) : Int) = 4602678819172646912 from rfl] at hor
  rw [hor]
  have w1 : IntKind.i64.wrap ((z / 4503599627370496 : Nat) : Int) = ((z / 4503599627370496 : Nat) : Int) := wrap_i64 (by omega) (by omega)
  have w2 : IntKind.i64.wrap (((z / 4503599627370496 : Nat) : Int) - 1023) = ((z / 4503599627370496 : Nat) : Int) - 1023 := wrap_i64 (by omega) (by omega)
  have w3 : IntKind.i64.wrap (((z / 4503599627370496 : Nat) : Int) - 1023 + 1) = ((z / 4503599627370496 : Nat) : Int) - 1022 := by rw [wrap_i64 (by omega) (by omega)]; omega
  rw [w1, w2, w3]
  have he : e = 0 ∨ e = -52 := by
    by_cases c : f < 4503599627370496
    · exact .inr (h2 c).1
    · have := h1 (by omega)
      cases this
      exact .inl rfl
  have w4 : IntKind.i64.wrap (e + (((z / 4503599627370496 : Nat) : Int) - 1022)) = e + (((z / 4503599627370496 : Nat) : Int) - 1022) := wrap_i64 (by omega) (by omega)
  rw [w4]
  refine ⟨⟨z % 4503599627370496, _, by rw [Int.toNat_natCast], by omega, fun hn => ?_, fun hn => ?_⟩, H⟩
  · have := h1 hn
    cases this
    exact ⟨rfl, by omega⟩
  · obtain ⟨a, b, c⟩ := h2 hn
    simp only at a b c
    omega
theorem ldexp_spec {F : Nat} (h : F < 4503599627370496) (H : St W l w) : cl Tryz.prog 105 [.float .f64 (1022 * 4503599627370496 + F), .int .i64 53] tFlt w fun r w' => r = 1075 * 4503599627370496 + F ∧ St W l w' := by
  refine F105_ok ?_
  unfold F105
  rw [if_neg (by rw [eql0 (by omega) (by omega)]; simp)]
  refine cl_mono (inf_spec (s := 0) (by omega) H) ?_
  rintro r w ⟨rfl, H⟩
  rw [if_pos rfl, Nat.mod_eq_of_lt (by omega), max_fin (by omega), if_neg (by simp)]
  refine cl_mono (isnan_spec H) ?_
  rintro r w ⟨rfl, H⟩
  rw [neq_fin (by omega)]
  unfold F105_j1
  rw [if_neg (by simp)]
  refine cl_mono (norm_spec (by omega) (by omega) H) ?_
  rintro ⟨z, e⟩ w ⟨h1, _, H⟩
  have := h1 (by omega)
  cases this
  dsimp only
  rw [shr52 (1022 * 4503599627370496 + F)]
  refine ex_i ((1022 : Nat) : Int) ⟨by omega, by congr 1; omega⟩ ?_
  have w1 : IntKind.i64.wrap (((1022 : Nat) : Int)) = 1022 := by decide
  rw [w1, (and2047 (x := 1022) (by omega) (by omega)).2]
  have w2 : IntKind.i64.wrap (IntKind.i64.wrap (53 + 0) + IntKind.i64.wrap (1022 - 1023)) = 52 := by decide
  rw [w2, if_neg (by decide), if_neg (by decide), if_neg (by decide)]
  unfold F105_j2
  have w3 : IntKind.u64.wrap ((IntKind.u64.wrap (IntKind.i64.wrap (52 + 1023))) * 2 ^ (min ((52 : Int)).toNat IntKind.u64.bits)) = 4841369599423283200 := by decide
  rw [w3]
  refine ex_i 4841369599423283200 ⟨by omega, rfl⟩ ?_
  dsimp only
  rw [frac_bits (show 1022 * 4503599627370496 + F < 9223372036854775808 by omega)]
  have e1 : (1022 * 4503599627370496 + F) % 4503599627370496 = F := by omega
  rw [e1]
  have hor := or_hi (E := 1075) (F := F) (by omega) h
  rw [show ((1075 * 4503599627370496 : Nat) : Int) = 4841369599423283200 from rfl] at hor
  rw [hor, Int.toNat_natCast]
  refine ex_i (1075 * 4503599627370496 + F) (mul_one h) ?_
  exact ⟨rfl, H⟩
end
end Go.Proofs.YtpdaapffkdejoaaGreat.Num
namespace Go.Proofs.YtpdaapffkdejoaaGreat.Num
open Go Go.Proofs.YtpdaapffkdejoaaGreat.Cf
set_option linter.unusedVariables false
set_option linter.unusedSimpArgs false
set_option maxRecDepth 100000
theorem negf {f : Nat} (h : f < 9223372036854775808) : Op.negFloat .f64 f = 9223372036854775808 + f := by
  have e : (2 : Nat) ^ (FloatKind.f64.format.exponentBits + FloatKind.f64.format.fractionBits) = 2 ^ 63 := rfl
  unfold Op.negFloat
  rw [e]
  have hf : f < 2 ^ 63 := h
  have e2 : 9223372036854775808 + f = 2 ^ 63 * 1 + f := by omega
  rw [e2]
  apply Nat.eq_of_testBit_eq
  intro j
  rw [Nat.testBit_xor, Nat.testBit_two_pow_mul_add 1 hf, Nat.testBit_two_pow]
  by_cases c : j < 63
  · rw [if_pos c]
    have : decide (63 = j) = false := by simp; omega
    rw [this]; simp
  · rw [if_neg c]
    have : f.testBit j = false := Nat.testBit_lt_two_pow (Nat.lt_of_lt_of_le hf (Nat.pow_le_pow_right (by omega) (by omega)))
    rw [this]
    by_cases d : 63 = j
    · subst d; rfl
    · have h1 : decide (63 = j) = false := by simpa using d
      rw [h1]
      have h2 : Nat.testBit 1 (j - 63) = false := Nat.testBit_lt_two_pow (Nat.one_lt_two_pow (by omega))
      rw [h2]; rfl
theorem read_minus {f : Nat} (h1 : 9223372036854775808 ≤ f) (h2 : f < 18446744073709551616) : (∃ m i, Ieee.double.read f = .number true m i) ∨ Ieee.double.read f = .infinity true ∨ ∃ t, Ieee.double.read f = .nan true t := by
  by_cases c : f = 9223372036854775808
  · subst c
    exact .inl ⟨_, _, rfl⟩
  · rcases read_neg (show 9223372036854775808 < f by omega) h2 with ⟨m, i, _, e⟩ | h
    · exact .inl ⟨m, i, e⟩
    · exact .inr h
theorem max_minus {f : Nat} (h1 : 9223372036854775808 ≤ f) (h2 : f < 18446744073709551616) : fcmp .gtr f 9218868437227405311 = false := by
  unfold fcmp
  rw [f64]
  simp only [Ieee.Format.order, read_max]
  rcases read_minus h1 h2 with ⟨m, i, e⟩ | e | ⟨t, e⟩
  · rw [e]
    simp only [Ieee.Datum.order]
    have hs : Ieee.signed true m (i - min i 971).toNat ≤ 0 := by
      unfold Ieee.signed
      rw [if_pos rfl]
      have := Int.natCast_nonneg (m <<< (i - min i 971).toNat)
      omega
    rw [cmp_lt (Int.lt_of_le_of_lt hs (sg_pos1 (by omega)))]
    rfl
  · rw [e]; rfl
  · rw [e]; rfl
section
variable {W w : World} {l l' : List Assn}
theorem class_spec {f : Nat} (hf : f < 18446744073709551616) (H : St W l w) : cl Tryz.prog 59 [.float .f64 f] (tInt .i64) w fun r w' => (rateOk f → 3 ≤ r ∧ r ≤ 5) ∧ (9223372036854775808 < f → r < 3) ∧ (3 ≤ r → fcmp .neq f f = false) ∧ St W l w' := by
  refine F59_ok ?_
  unfold F59
  by_cases hn : fcmp .neq f f = true
  · rw [if_pos hn]
    refine ⟨fun h => ?_, fun _ => by omega, fun h => by omega, H⟩
    exfalso
    rcases h with rfl | h
    · exact absurd hn (by decide)
    · rw [neq_fin (by omega)] at hn
      cases hn
  · rw [if_neg hn]
    have hn : fcmp .neq f f = false := by simpa using hn
    by_cases c0 : f = 0
    · rw [if_pos (by simp [c0])]
      exact ⟨fun _ => by omega, fun h => by omega, fun _ => hn, H⟩
    · rw [if_neg (by simpa using c0)]
      by_cases c1 : f = 9223372036854775808
      · rw [if_pos (by simp [c1])]
        exact ⟨fun _ => by omega, fun h => by omega, fun _ => hn, H⟩
      · rw [if_neg (by simp; omega)]
        refine cl_mono (inf_spec (s := -1) hf H) ?_
        rintro r w ⟨hr, H⟩
        rw [if_neg (by omega), if_pos (by omega)] at hr
        subst hr
        by_cases hp : f < 9223372036854775808
        · rw [negf hp, max_minus (by omega) (by omega), if_neg (by simp)]
          refine cl_mono (inf_spec (s := 1) hf H) ?_
          rintro r w ⟨hr, H⟩
          rw [if_neg (by omega), if_neg (by omega)] at hr
          subst hr
          by_cases hm : fcmp .gtr f 9218868437227405311 = true
          · rw [if_pos hm]
            refine ⟨fun h => ?_, fun h => by omega, fun _ => hn, H⟩
            exfalso
            rcases h with rfl | h
            · omega
            · rw [max_fin (by omega)] at hm
              cases hm
          · rw [if_neg hm, if_neg (by rw [lss0_pos hp]; simp)]
            exact ⟨fun _ => by omega, fun h => by omega, fun _ => hn, H⟩
        · split
          · exact ⟨fun h => by rcases h with h | h <;> omega, fun _ => by omega, fun h => by omega, H⟩
          · refine cl_mono (inf_spec (s := 1) hf H) ?_
            rintro r w ⟨hr, H⟩
            rw [if_neg (by omega), if_neg (by omega)] at hr
            subst hr
            rw [max_minus (by omega) hf, if_neg (by simp), if_pos (lss0_neg (by omega) hf hn)]
            exact ⟨fun h => by rcases h with h | h <;> omega, fun _ => by omega, fun h => by omega, H⟩
def keyF (f : Nat) : Int := if f < 9223372036854775808 then (f : Int) + 9223372036854775808 else 18446744073709551615 - f
theorem key_spec {f : Nat} (hf : f < 18446744073709551616) (hn : fcmp .neq f f = false) (H : St W l w) : cl Tryz.prog 74 [.float .f64 f] (tInt .u64) w fun r w' => r = keyF f ∧ St W l w' := by
  have e63 : (2 : Int) ^ (min ((63 : Int)).toNat IntKind.u64.bits) = 9223372036854775808 := by decide
  refine F74_ok ?_
  unfold F74 keyF
  rw [if_neg (by rw [hn]; simp), e63, Int.fdiv_eq_ediv_of_nonneg _ (by omega)]
  refine ex_i _ ⟨by omega, rfl⟩ ?_
  by_cases c : f < 9223372036854775808
  · rw [if_neg (by simp; omega), if_pos c]
    have := bits_join .u64 64 (by decide) wid_u64 63 9223372036854775808 (f : Int) (by omega) (by omega) (by omega) (by omega) (by omega) (by omega)
    have h2 := (bits_nat .u64 64 (by decide) wid_u64 f 9223372036854775808 (by omega) (by omega)).2
    have h3 := (bits_nat .u64 64 (by decide) wid_u64 9223372036854775808 f (by omega) (by omega)).2
    have e1 : ((9223372036854775808 : Nat) : Int) = 9223372036854775808 := rfl
    rw [e1] at h2 h3
    rw [h2, Nat.or_comm, ← h3, this]
    exact ⟨by omega, H⟩
  · rw [if_pos (by simp; omega), if_neg c]
    have hx : bits .xor .u64 IntKind.u64.max (f : Int) = bits .xor .u64 (f : Int) IntKind.u64.max := by
      simp only [bits, BitVec.xor_comm]
    have h1 : bits .xor .u64 (f : Int) 18446744073709551615 = 18446744073709551615 - (f : Int) := xorm_u64 (by omega) (by omega)
    have h2 : IntKind.u64.max = 18446744073709551615 := rfl
    rw [hx, h2, h1]
    exact ⟨rfl, H⟩
theorem cmp_spec {f g : Nat} (hf : f < 18446744073709551616) (hg : g < 18446744073709551616) (hn : fcmp .neq f f = false) (hm : fcmp .neq g g = false) (H : St W l w) : cl Tryz.prog 60 [.float .f64 f, .float .f64 g] (tInt .i64) w fun r w' => (0 < r ↔ keyF g < keyF f) ∧ St W l w' := by
  refine F60_ok ?_
  unfold F60
  refine cl_mono (key_spec hf hn H) ?_
  rintro r w ⟨rfl, H⟩
  refine cl_mono (key_spec hg hm H) ?_
  rintro r w ⟨rfl, H⟩
  by_cases c : keyF f < keyF g
  · rw [if_pos (by simpa using c)]
    exact ⟨by omega, H⟩
  · rw [if_neg (by simpa using c)]
    by_cases d : keyF g < keyF f
    · rw [if_pos (by simpa using d)]
      exact ⟨by omega, H⟩
    · rw [if_neg (by simpa using d)]
      exact ⟨by omega, H⟩
theorem rate_spec {f : Nat} (hf : f < 18446744073709551616) (H : St W l w) : cl Tryz.prog 40 [.float .f64 f] (tInt .i64) w fun r w' => (r = 0 ↔ rateOk f) ∧ (r ≠ 0 → r = 43) ∧ St W l w' := by
  refine F40_ok ?_
  unfold F40 F40_j1
  refine cl_mono (class_spec hf H) ?_
  rintro r w ⟨h1, h2, h3, H⟩
  by_cases c : r < 3
  · rw [if_pos (by simpa using c), if_pos rfl]
    exact ⟨⟨fun h => by omega, fun h => by have := h1 h; omega⟩, fun _ => rfl, H⟩
  · rw [if_neg (by simpa using c)]
    have hle : f ≤ 9223372036854775808 := by
      apply Classical.byContradiction
      intro hc
      have := h2 (by omega)
      omega
    refine cl_mono (cmp_spec hf (by omega) (h3 (by omega)) (by decide) H) ?_
    rintro q w ⟨hq, H⟩
    have e1 : keyF 4607182418800017408 = 4607182418800017408 + 9223372036854775808 := rfl
    rw [e1] at hq
    by_cases d : 0 < q
    · rw [if_pos (by simpa using d)]
      have := hq.1 d
      refine ⟨⟨fun h => by omega, fun h => ?_⟩, fun _ => rfl, H⟩
      exfalso
      unfold keyF at this
      rcases h with rfl | h
      · rw [if_neg (by omega)] at this
        omega
      · rw [if_pos (by omega)] at this
        omega
    · rw [if_neg (by simpa using d)]
      refine ⟨⟨fun _ => ?_, fun _ => rfl⟩, fun h => absurd rfl h, H⟩
      by_cases c0 : f = 9223372036854775808
      · exact .inl c0
      · right
        have : ¬ (4607182418800017408 + 9223372036854775808 : Int) < keyF f := fun h => d (hq.2 h)
        unfold keyF at this
        rw [if_pos (by omega)] at this
        omega
theorem check_spec {n : Int} (H : St W l w) : cl Tryz.prog 44 [.int .i64 n] (tInt .i64) w fun r w' => r = (if 0 ≤ n ∧ n ≤ 1000000000000000 then 0 else 40) ∧ St W l w' := by
  refine F44_ok ?_
  unfold F44
  by_cases c : 0 ≤ n ∧ n ≤ 1000000000000000
  · rw [if_neg (by simp; omega), if_pos c]
    exact ⟨rfl, H⟩
  · rw [if_pos (by simp; omega), if_neg c]
    exact ⟨rfl, H⟩
end
end Go.Proofs.YtpdaapffkdejoaaGreat.Num
namespace Go.Proofs.YtpdaapffkdejoaaGreat.Num
open Go Go.Proofs.YtpdaapffkdejoaaGreat.Cf
set_option linter.unusedVariables false
set_option linter.unusedSimpArgs false
set_option maxRecDepth 100000
def feeF (n : Int) (f : Nat) : Int := if f < 4503599627370496 ∨ f = 9223372036854775808 then 0 else ((n.toNat * (4503599627370496 + f % 4503599627370496) / 2 ^ (1075 - f / 4503599627370496) : Nat) : Int)
theorem div52 (N k : Nat) (h : 52 ≤ k) : N / 2 ^ k ≤ N / 4503599627370496 := by
  have hp : (2 : Nat) ^ 52 = 4503599627370496 := by decide
  rw [← hp]
  exact Nat.div_le_div_left (Nat.pow_le_pow_right (by omega) h) (Nat.two_pow_pos _)
theorem feeF_le {n : Int} {f : Nat} (h0 : 0 ≤ n) (h1 : n ≤ 1000000000000000) (h : rateOk f) : 0 ≤ feeF n f ∧ feeF n f ≤ 2 * n := by
  unfold feeF
  split
  · omega
  · rename_i hc
    have hf : f ≤ 4607182418800017408 := by
      rcases h with h | h
      · omega
      · exact h
    have hd := div52 (n.toNat * (4503599627370496 + f % 4503599627370496)) (1075 - f / 4503599627370496) (by omega)
    have hm : n.toNat * (4503599627370496 + f % 4503599627370496) ≤ n.toNat * (2 * 4503599627370496) := Nat.mul_le_mul_left _ (by omega)
    refine ⟨Int.natCast_nonneg _, ?_⟩
    generalize n.toNat * (4503599627370496 + f % 4503599627370496) / 2 ^ (1075 - f / 4503599627370496) = Q at *
    generalize n.toNat * (4503599627370496 + f % 4503599627370496) = X at *
    omega
section
variable {W w : World} {l l' : List Assn}
theorem fdivN (x : Nat) (k : Nat) (hk : k ≤ 64) (b : Int) (hb : b = (k : Int)) : Int.fdiv (x : Int) (2 ^ (min b.toNat IntKind.u64.bits)) = ((x / 2 ^ k : Nat) : Int) := by
  subst hb
  have e : min ((k : Int)).toNat IntKind.u64.bits = k := by
    rw [Int.toNat_natCast]
    exact Nat.min_eq_left hk
  rw [e, Int.fdiv_eq_ediv_of_nonneg _ (Int.le_of_lt (Int.pow_pos (by omega)))]
  rw [Int.natCast_ediv]
  congr 1
theorem size_spec {n : Int} (h0 : 0 ≤ n) (h1 : n ≤ 9223372036854775807) (H : St W l w) : cl Tryz.prog 92 [.int .i64 n] (tInt .u64) w fun r w' => r = n ∧ St W l w' := by
  refine F92_ok ?_
  unfold F92
  rw [if_neg (by simp; omega)]
  exact ⟨wid_u64 n h0 (by omega), H⟩
theorem signed_spec {n : Int} (h0 : 0 ≤ n) (h1 : n < 9223372036854775808) (H : St W l w) : cl Tryz.prog 93 [.bool false, .int .u64 n] (tTup2 (tInt .i64) (tInt .i64)) w fun r w' => r = (n, 0) ∧ St W l w' := by
  refine F93_ok ?_
  unfold F93
  rw [if_neg (by simp), if_pos (by simp; omega), wrap_i64 (by omega) (by omega)]
  exact ⟨rfl, H⟩
theorem mul64_spec {x y : Nat} (hx : x < 18446744073709551616) (hy : y < 18446744073709551616) (H : St W l w) : cl Tryz.prog 91 [.int .u64 (x : Int), .int .u64 (y : Int)] (tTup2 (tInt .u64) (tInt .u64)) w fun r w' => r = (((x * y / 18446744073709551616 : Nat) : Int), ((x * y % 18446744073709551616 : Nat) : Int)) ∧ St W l w' := by
  refine F91_ok ?_
  unfold F91
  have p32 : (2 : Nat) ^ 32 = 4294967296 := by decide
  have m32 : ∀ z : Nat, z < 18446744073709551616 → bits .and .u64 (z : Int) 4294967295 = ((z % 4294967296 : Nat) : Int) := by
    intro z hz
    have := bits_mask .u64 64 (by decide) wid_u64 32 (by decide) (z : Int) (by omega) (by omega)
    rw [show (2 : Int) ^ 32 - 1 = 4294967295 from rfl] at this
    rw [this]
    omega
  have s32 : ∀ z : Nat, Int.fdiv (z : Int) (2 ^ (min ((32 : Int)).toNat IntKind.u64.bits)) = ((z / 4294967296 : Nat) : Int) := by
    intro z
    rw [fdivN z 32 (by omega) 32 rfl, p32]
  have wn : ∀ z : Nat, z < 18446744073709551616 → IntKind.u64.wrap (z : Int) = (z : Int) := fun z hz => wid_u64 _ (by omega) (by omega)
  rw [m32 x hx, m32 y hy]
  obtain ⟨x1, hx1⟩ : ∃ z, x / 4294967296 = z := ⟨_, rfl⟩
  obtain ⟨x0, hx0⟩ : ∃ z, x % 4294967296 = z := ⟨_, rfl⟩
  obtain ⟨y1, hy1⟩ : ∃ z, y / 4294967296 = z := ⟨_, rfl⟩
  obtain ⟨y0, hy0⟩ : ∃ z, y % 4294967296 = z := ⟨_, rfl⟩
  have bx1 : x1 ≤ 4294967295 := by omega
  have bx0 : x0 ≤ 4294967295 := by omega
  have by1 : y1 ≤ 4294967295 := by omega
  have by0 : y0 ≤ 4294967295 := by omega
  have hx2 : x = x1 * 4294967296 + x0 := by omega
  have hy2 : y = y1 * 4294967296 + y0 := by omega
  refine ex_i (x1 : Int) ⟨by omega, by rw [s32 x, hx1]⟩ ?_
  refine ex_i (y1 : Int) ⟨by omega, by rw [s32 y, hy1]⟩ ?_
  rw [hx0, hy0]
  have b00 : x0 * y0 ≤ 4294967295 * 4294967295 := Nat.mul_le_mul bx0 by0
  have b01 : x0 * y1 ≤ 4294967295 * 4294967295 := Nat.mul_le_mul bx0 by1
  have b10 : x1 * y0 ≤ 4294967295 * 4294967295 := Nat.mul_le_mul bx1 by0
  have b11 : x1 * y1 ≤ 4294967295 * 4294967295 := Nat.mul_le_mul bx1 by1
  have hxy : x * y = x1 * y1 * 18446744073709551616 + (x1 * y0 + x0 * y1) * 4294967296 + x0 * y0 := by
    rw [hx2, hy2, Nat.add_mul, Nat.mul_add, Nat.mul_add]
    have e1 : x1 * 4294967296 * (y1 * 4294967296) = x1 * y1 * 18446744073709551616 := by rw [Nat.mul_mul_mul_comm]
    have e2 : x1 * 4294967296 * y0 = x1 * y0 * 4294967296 := by rw [Nat.mul_assoc, Nat.mul_comm 4294967296, ← Nat.mul_assoc]
    have e3 : x0 * (y1 * 4294967296) = x0 * y1 * 4294967296 := by rw [Nat.mul_assoc]
    rw [e1, e2, e3, Nat.add_mul]
    omega
  have c00 : ((x0 : Int) * (y0 : Int)) = ((x0 * y0 : Nat) : Int) := by rw [Int.natCast_mul]
  have c01 : ((x0 : Int) * (y1 : Int)) = ((x0 * y1 : Nat) : Int) := by rw [Int.natCast_mul]
  have c10 : ((x1 : Int) * (y0 : Int)) = ((x1 * y0 : Nat) : Int) := by rw [Int.natCast_mul]
  have c11 : ((x1 : Int) * (y1 : Int)) = ((x1 * y1 : Nat) : Int) := by rw [Int.natCast_mul]
  have cxy : ((x : Int) * (y : Int)) = ((x * y : Nat) : Int) := by rw [Int.natCast_mul]
  rw [c00, c01, c10, c11, cxy]
  generalize x0 * y0 = d at *
  generalize x0 * y1 = c at *
  generalize x1 * y0 = b at *
  generalize x1 * y1 = a at *
  generalize x * y = N at *
  rw [wn d (by omega), wn b (by omega), wn c (by omega), wn a (by omega)]
  refine ex_i ((d / 4294967296 : Nat) : Int) ⟨by omega, (s32 d).symm⟩ ?_
  have e1 : (b : Int) + ((d / 4294967296 : Nat) : Int) = ((b + d / 4294967296 : Nat) : Int) := by omega
  rw [e1, wn _ (by omega), m32 _ (by omega)]
  refine ex_i (((b + d / 4294967296) / 4294967296 : Nat) : Int) ⟨by omega, (s32 _).symm⟩ ?_
  have e2 : (((b + d / 4294967296) % 4294967296 : Nat) : Int) + (c : Int) = (((b + d / 4294967296) % 4294967296 + c : Nat) : Int) := by omega
  rw [e2, wn _ (by omega)]
  refine ex_i ((((b + d / 4294967296) % 4294967296 + c) / 4294967296 : Nat) : Int) ⟨by omega, (s32 _).symm⟩ ?_
  have e3 : (a : Int) + (((b + d / 4294967296) / 4294967296 : Nat) : Int) = ((a + (b + d / 4294967296) / 4294967296 : Nat) : Int) := by omega
  rw [e3, wn _ (by omega)]
  have e4 : ((a + (b + d / 4294967296) / 4294967296 : Nat) : Int) + ((((b + d / 4294967296) % 4294967296 + c) / 4294967296 : Nat) : Int) = ((a + (b + d / 4294967296) / 4294967296 + ((b + d / 4294967296) % 4294967296 + c) / 4294967296 : Nat) : Int) := by omega
  rw [e4, wn _ (by omega)]
  have e5 : IntKind.u64.wrap (N : Int) = ((N % 18446744073709551616 : Nat) : Int) := by rw [wr_u64]; omega
  rw [e5]
  refine ⟨?_, H⟩
  have e6 : a + (b + d / 4294967296) / 4294967296 + ((b + d / 4294967296) % 4294967296 + c) / 4294967296 = N / 18446744073709551616 := by omega
  rw [e6]
theorem down_spec {N k : Nat} (hN : N < 2 ^ 104) (hk : 52 ≤ k) (hk2 : k ≤ 4000) (H : St W l w) : cl Tryz.prog 94 [.int .u64 ((N / 18446744073709551616 : Nat) : Int), .int .u64 ((N % 18446744073709551616 : Nat) : Int), .int .u64 (k : Int)] (tTup3 (tInt .u64) tBool tBool) w fun r w' => r.1 = ((N / 2 ^ k : Nat) : Int) ∧ r.2.2 = true ∧ St W l w' := by
  have p64 : (2 : Nat) ^ 64 = 18446744073709551616 := by decide
  have p104 : (2 : Nat) ^ 104 = 18446744073709551616 * 1099511627776 := by decide
  refine F94_ok ?_
  unfold F94
  by_cases c1 : 128 ≤ k
  · rw [if_pos (by simp; omega)]
    have : N / 2 ^ k = 0 := Nat.div_eq_of_lt (Nat.lt_of_lt_of_le hN (Nat.pow_le_pow_right (by omega) (by omega)))
    rw [this]
    exact ⟨rfl, rfl, H⟩
  · rw [if_neg (by simp; omega)]
    by_cases c2 : 64 < k
    · rw [if_pos (by simp; omega)]
      have w1 : IntKind.u64.wrap ((k : Int) - 64) = ((k - 64 : Nat) : Int) := by rw [wid_u64 _ (by omega) (by omega)]; omega
      have w2 : IntKind.u64.wrap ((128 : Int) - (k : Int)) = ((128 - k : Nat) : Int) := by rw [wid_u64 _ (by omega) (by omega)]; omega
      rw [w1, w2]
      refine ex_i _ ⟨by omega, (fdivN (N / 18446744073709551616) (k - 64) (by omega) _ rfl).symm⟩ ?_
      refine ex_i _ ⟨by omega, rfl⟩ ?_
      refine ⟨?_, rfl, H⟩
      have : 2 ^ k = 18446744073709551616 * 2 ^ (k - 64) := by rw [← p64, ← Nat.pow_add]; congr 1; omega
      simp only
      rw [this, Nat.div_div_eq_div_mul]
    · rw [if_neg (by simp; omega)]
      by_cases c3 : k = 64
      · subst c3
        rw [if_pos (by simp)]
        exact ⟨by rw [p64], rfl, H⟩
      · rw [if_neg (by simp; omega)]
        have w1 : IntKind.u64.wrap ((64 : Int) - (k : Int)) = ((64 - k : Nat) : Int) := by rw [wid_u64 _ (by omega) (by omega)]; omega
        rw [w1]
        obtain ⟨j, hj⟩ : ∃ j, j + k = 64 := ⟨64 - k, by omega⟩
        have hjk : 64 - k = j := by omega
        rw [hjk]
        have hpj : (2 : Nat) ^ j * 2 ^ k = 18446744073709551616 := by rw [← Nat.pow_add, hj, p64]
        have hk52 : 4503599627370496 ≤ 2 ^ k := by
          have : (2 : Nat) ^ 52 = 4503599627370496 := by decide
          rw [← this]
          exact Nat.pow_le_pow_right (by omega) hk
        have hj12 : 2 ^ j ≤ 4096 := by
          have : (2 : Nat) ^ 12 = 4096 := by decide
          rw [← this]
          exact Nat.pow_le_pow_right (by omega) (by omega)
        have hhi : N / 18446744073709551616 < 1099511627776 := by
          rw [p104] at hN
          exact Nat.div_lt_of_lt_mul hN
        have hlo : N % 18446744073709551616 < 18446744073709551616 := Nat.mod_lt _ (by omega)
        have hNN : N = N / 18446744073709551616 * 18446744073709551616 + N % 18446744073709551616 := by omega
        have hdiv : N / 2 ^ k = N / 18446744073709551616 * 2 ^ j + N % 18446744073709551616 / 2 ^ k := by
          conv => lhs; rw [hNN, ← hpj, ← Nat.mul_assoc]
          rw [hpj, Nat.add_comm, Nat.add_mul_div_right _ _ (Nat.two_pow_pos k), Nat.add_comm]
        generalize N / 18446744073709551616 = hi at *
        generalize N % 18446744073709551616 = lo at *
        have hlk : lo / 2 ^ k < 2 ^ j := Nat.div_lt_of_lt_mul (by rw [Nat.mul_comm, hpj]; exact hlo)
        have hij : hi * 2 ^ j ≤ 1099511627776 * 4096 := Nat.mul_le_mul (by omega) hj12
        refine ex_i _ ⟨by omega, (fdivN lo k (by omega) _ rfl).symm⟩ ?_
        have e1 : IntKind.u64.wrap ((hi : Int) * 2 ^ (min ((j : Int)).toNat IntKind.u64.bits)) = ((hi * 2 ^ j : Nat) : Int) := by
          have : min ((j : Int)).toNat IntKind.u64.bits = j := by
            rw [Int.toNat_natCast]
            exact Nat.min_eq_left (by show j ≤ 64; omega)
          rw [this]
          have c : (hi : Int) * 2 ^ j = ((hi * 2 ^ j : Nat) : Int) := by rw [Int.natCast_mul]; congr 1
          rw [c]
          exact wid_u64 _ (by omega) (by omega)
        refine ex_i _ ⟨by omega, rfl⟩ ?_
        rw [e1]
        refine ex_i _ ⟨by omega, rfl⟩ ?_
        refine ex_i _ ⟨by omega, (fdivN hi k (by omega) _ rfl).symm⟩ ?_
        have h0 : hi / 2 ^ k = 0 := Nat.div_eq_of_lt (by omega)
        rw [h0]
        refine ⟨?_, rfl, H⟩
        simp only
        rw [hdiv]
        have hor := (bits_nat .u64 64 (by decide) wid_u64 (lo / 2 ^ k) (hi * 2 ^ j) (by omega) (by omega)).2
        rw [hor, Nat.or_comm, Nat.mul_comm hi, ← Nat.two_pow_add_eq_or_of_lt hlk]
theorem mfrexp_spec {f : Nat} {K : Nat × Int → World → Prop} (h : cl Tryz.prog 103 [.float .f64 f] (tTup2 tFlt (tInt .i64)) w K) : cl Tryz.prog 89 [.float .f64 f] (tTup2 tFlt (tInt .i64)) w K := by
  refine F89_ok ?_
  unfold F89
  exact h
theorem mldexp_spec {f : Nat} {e : Int} {K : Nat → World → Prop} (h : cl Tryz.prog 105 [.float .f64 f, .int .i64 e] tFlt w K) : cl Tryz.prog 90 [.float .f64 f, .int .i64 e] tFlt w K := by
  refine F90_ok ?_
  unfold F90
  exact h
theorem times_spec {n : Int} {f : Nat} (h0 : 0 ≤ n) (h1 : n ≤ 1000000000000000) (hf : rateOk f) (H : St W l w) : cl Tryz.prog 71 [.int .i64 n, .float .f64 f] (tTup2 (tInt .i64) (tInt .i64)) w fun r w' => r = (feeF n f, 0) ∧ St W l w' := by
  have hf64 : f < 18446744073709551616 := by rcases hf with h | h <;> omega
  obtain ⟨k, rfl⟩ : ∃ k : Nat, n = (k : Int) := ⟨n.toNat, by omega⟩
  refine F71_ok ?_
  unfold F71
  refine cl_mono (class_spec hf64 H) ?_
  rintro c w ⟨hc, _, _, H⟩
  have hc := hc hf
  rw [if_neg (by simp; omega), if_neg (by simp; omega)]
  have e6 : (c == 6) = false := by rw [beq_eq_false_iff_ne]; omega
  rw [e6]
  unfold F71_j1
  rw [if_neg (by simp)]
  by_cases hz : f = 0 ∨ f = 9223372036854775808
  · refine mfrexp_spec (cl_mono (frexp0_spec hz H) ?_)
    rintro r w ⟨rfl, H⟩
    refine mldexp_spec (cl_mono (ldexp0_spec (e := 53) hz H) ?_)
    rintro r w ⟨rfl, H⟩
    refine ex_i 0 (by rcases hz with h | h <;> subst h; exact to_int0.1; exact to_int0.2) ?_
    refine cl_mono (size_spec h0 (by omega) H) ?_
    rintro r w ⟨rfl, H⟩
    refine cl_mono (size_spec (n := 0) (by omega) (by omega) H) ?_
    rintro r w ⟨rfl, H⟩
    refine cl_mono (mul64_spec (x := k) (y := 0) (by omega) (by omega) H) ?_
    rintro r w ⟨rfl, H⟩
    rw [if_pos (by simp)]
    have : feeF k r = 0 := by
      unfold feeF
      rw [if_pos (by omega)]
    rw [this]
    exact ⟨rfl, H⟩
  · have hle : 0 < f ∧ f ≤ 4607182418800017408 := by rcases hf with h | h <;> omega
    refine mfrexp_spec (cl_mono (frexp_spec hle.1 hle.2 H) ?_)
    rintro r w ⟨⟨F, e, rfl, hF, hn, hs⟩, H⟩
    refine mldexp_spec (cl_mono (ldexp_spec hF H) ?_)
    rintro r w ⟨rfl, H⟩
    refine ex_i _ (to_int hF) ?_
    refine cl_mono (size_spec h0 (by omega) H) ?_
    rintro r w ⟨rfl, H⟩
    refine cl_mono (size_spec (n := ((4503599627370496 + F : Nat) : Int)) (by omega) (by omega) H) ?_
    rintro r w ⟨rfl, H⟩
    refine cl_mono (mul64_spec (x := k) (y := 4503599627370496 + F) (by omega) (by omega) H) ?_
    rintro r w ⟨rfl, H⟩
    have hX : k * (4503599627370496 + F) ≤ 1000000000000000 * 9007199254740992 := Nat.mul_le_mul (by omega) (by omega)
    have p104 : (2 : Nat) ^ 104 = 18446744073709551616 * 1099511627776 := by decide
    have he : e ≤ 1 ∧ -1100 ≤ e ∧ (f < 4503599627370496 → e ≤ -1000) := by
      by_cases c : f < 4503599627370496
      · have := hs c
        omega
      · have := (hn (by omega)).2
        omega
    have w1 : IntKind.i64.wrap (e - 53) = e - 53 := wrap_i64 (by omega) (by omega)
    have w2 : IntKind.u64.wrap (IntKind.i64.wrap (0 - (e - 53))) = ((53 - e).toNat : Nat) := by rw [wrap_i64 (by omega) (by omega), wid_u64 _ (by omega) (by omega)]; omega
    dsimp only
    rw [w1, w2]
    have hfee : feeF k f = ((k * (4503599627370496 + F) / 2 ^ (53 - e).toNat : Nat) : Int) := by
      unfold feeF
      by_cases c : f < 4503599627370496
      · rw [if_pos (.inl c)]
        have hk : 104 ≤ (53 - e).toNat := by have := he.2.2 c; omega
        have hp : 2 ^ 104 ≤ 2 ^ (53 - e).toNat := Nat.pow_le_pow_right (by omega) hk
        rw [Nat.div_eq_of_lt (Nat.lt_of_lt_of_le (by rw [p104]; omega) hp)]
        rfl
      · rw [if_neg (by omega)]
        obtain ⟨a, b⟩ := hn (by omega)
        have : (53 - e).toNat = 1075 - f / 4503599627370496 := by omega
        rw [this, Int.toNat_natCast, a]
    rw [hfee]
    have hq := div52 (k * (4503599627370496 + F)) (53 - e).toNat (by omega)
    by_cases hx : k * (4503599627370496 + F) = 0
    · rw [if_pos (by rw [hx]; simp), hx]
      exact ⟨by simp, H⟩
    · generalize k * (4503599627370496 + F) = X at *
      rw [if_neg (by simp; omega), if_neg (by simp; omega)]
      refine cl_mono (down_spec (N := X) (k := (53 - e).toNat) (by rw [p104]; omega) (by omega) (by omega) H) ?_
      rintro ⟨q, rest, fits⟩ w ⟨h1, h2, H⟩
      simp only at h1 h2
      subst h1; subst h2
      have e1 : decide ((k : Int) < 0) = false := by simp
      have e2 : decide (((4503599627370496 + F : Nat) : Int) < 0) = false := by rw [decide_eq_false_iff_not]; omega
      rw [e1, e2]
      rw [if_neg (by simp), if_neg (by simp)]
      unfold F71_j3
      rw [e1, e2]
      generalize X / 2 ^ (53 - e).toNat = Q at *
      refine cl_mono (signed_spec (n := ((Q : Nat) : Int)) (by omega) (by omega) H) ?_
      rintro r w ⟨rfl, H⟩
      exact ⟨rfl, H⟩
theorem fee_spec {n : Int} {f : Nat} (h0 : 0 ≤ n) (h1 : n ≤ 1000000000000000) (hf : rateOk f) (H : St W l w) : cl Tryz.prog 58 [.int .i64 n, .float .f64 f] (tTup2 (tInt .i64) (tInt .i64)) w fun r w' => r = (feeF n f, 0) ∧ St W l w' := by
  have hf64 : f < 18446744073709551616 := by rcases hf with h | h <;> omega
  refine F58_ok ?_
  unfold F58
  refine cl_mono (check_spec H) ?_
  rintro r w ⟨rfl, H⟩
  rw [if_pos (⟨h0, h1⟩ : 0 ≤ n ∧ n ≤ 1000000000000000), if_neg (by simp)]
  refine cl_mono (rate_spec hf64 H) ?_
  rintro r w ⟨h2, _, H⟩
  have := h2.2 hf
  subst this
  rw [if_neg (by simp)]
  refine cl_mono (times_spec h0 h1 hf H) ?_
  rintro r w ⟨rfl, H⟩
  exact ⟨rfl, H⟩
def okAm (n : Int) : Prop := 0 ≤ n ∧ n ≤ 1000000000000000
theorem total_spec {a b : Int} {s : Slc} (k : See 1 l (tInt .i64) s [a, b]) (H : St W l w) : cl Tryz.prog 70 [tSlc.enc s] (tTup2 (tInt .i64) (tInt .i64)) w fun r w' => (r.2 = 0 ↔ okAm a ∧ okAm b ∧ a + b ≤ 1000000000000000) ∧ (r.2 = 0 → r.1 = a + b) ∧ St W l w' := by
  have hs := k.len H
  simp only [List.length_cons, List.length_nil] at hs
  refine F70_ok ?_
  unfold F70
  refine lp_p (fun p w => (p = (0, 0) ∨ (okAm a ∧ p = (a, 1)) ∨ (okAm a ∧ okAm b ∧ p = (a + b, 2))) ∧ St W l w) (fun p => (2 - p.2).toNat) ⟨.inl rfl, H⟩ ?_
  clear H
  rintro ⟨sum, i⟩ w ⟨hi, H⟩ K hK
  unfold F70_l1 F70_j2
  simp only
  rw [hs]
  have step : ∀ (x : Int) (j : Nat), i = (j : Int) → j < 2 → ([a, b] : List Int)[j]? = some x → sum ≤ 1000000000000000 → (okAm x → ((sum + x, i + 1) = (0, 0) ∨ (okAm a ∧ (sum + x, i + 1) = (a, 1)) ∨ (okAm a ∧ okAm b ∧ (sum + x, i + 1) = (a + b, 2))) ∧ -1000000000000000000 ≤ sum) → (¬ okAm x → ¬ (okAm a ∧ okAm b ∧ a + b ≤ 1000000000000000)) →
      if decide (i < ((0 + 1 + 1 : Nat) : Int)) = true then
        ex (IxA s 1 i) fun a8 => ex (RdAt (tInt .i64) a8 w) fun x9 => cl Tryz.prog 44 [.int .i64 (x9)] (tInt .i64) w fun r11 w10 =>
          if (r11 != (0 : Int)) = true then (((0 : Int), (40 : Int)).2 = 0 ↔ okAm a ∧ okAm b ∧ a + b ≤ 1000000000000000) ∧ (((0 : Int), (40 : Int)).2 = 0 → ((0 : Int), (40 : Int)).1 = a + b) ∧ St W l w10
          else if (decide (sum ≤ (1000000000000000 : Int))) = true then K (IntKind.i64.wrap (sum + x9), IntKind.i64.wrap (i + (1 : Int))) w10 else K (sum, IntKind.i64.wrap (i + (1 : Int))) w10
      else cl Tryz.prog 44 [.int .i64 sum] (tInt .i64) w fun r15 w14 => if (r15 != (0 : Int)) = true then (((0 : Int), (40 : Int)).2 = 0 ↔ okAm a ∧ okAm b ∧ a + b ≤ 1000000000000000) ∧ (((0 : Int), (40 : Int)).2 = 0 → ((0 : Int), (40 : Int)).1 = a + b) ∧ St W l w14 else ((sum, (0 : Int)).2 = 0 ↔ okAm a ∧ okAm b ∧ a + b ≤ 1000000000000000) ∧ ((sum, (0 : Int)).2 = 0 → (sum, (0 : Int)).1 = a + b) ∧ St W l w14 := by
    intro x j hij hj hx hsum ok no
    rw [if_pos (by simp; omega)]
    obtain ⟨c, hc⟩ := k.ix (i := i) H (by omega) (by simp; omega)
    refine ex_i c hc ?_
    refine ex_i x (k.rd hc (by rw [hij, Int.toNat_natCast]; exact hx) H) ?_
    refine cl_mono (check_spec H) ?_
    rintro r w ⟨rfl, H⟩
    by_cases hok : 0 ≤ x ∧ x ≤ 1000000000000000
    · rw [if_pos hok, if_neg (by simp), if_pos (by simpa using hsum)]
      obtain ⟨h1, h2⟩ := ok hok
      rw [wrap_i64 (x := sum + x) (by omega) (by omega), wrap_i64 (x := i + 1) (by omega) (by omega)]
      exact hK _ _ ⟨h1, H⟩ (by simp only; omega)
    · rw [if_neg hok, if_pos (by simp)]
      exact ⟨⟨fun h => by simp at h, fun h => absurd h (no hok)⟩, fun h => by simp at h, H⟩
  rcases hi with hi | ⟨ha, hi⟩ | ⟨ha, hb, hi⟩
  · cases hi
    exact step a 0 rfl (by omega) rfl (by omega) (fun h => ⟨.inr (.inl ⟨h, by simp⟩), by omega⟩) fun h hh => h hh.1
  · cases hi
    exact step b 1 rfl (by omega) rfl ha.2 (fun h => ⟨.inr (.inr ⟨ha, h, by trivial⟩), by have := ha.1; omega⟩) fun h hh => h hh.2.1
  · cases hi
    rw [if_neg (by simp)]
    refine cl_mono (check_spec H) ?_
    rintro r w ⟨rfl, H⟩
    have h1 := ha.1
    have h2 := hb.1
    by_cases hok : a + b ≤ 1000000000000000
    · have e : (if 0 ≤ a + b ∧ a + b ≤ 1000000000000000 then (0 : Int) else 40) = 0 := if_pos ⟨by omega, hok⟩
      rw [e, if_neg (by simp)]
      exact ⟨⟨fun _ => ⟨ha, hb, hok⟩, fun _ => by trivial⟩, fun _ => rfl, H⟩
    · have e : (if 0 ≤ a + b ∧ a + b ≤ 1000000000000000 then (0 : Int) else 40) = 40 := if_neg (fun h => hok h.2)
      rw [e, if_pos (by simp)]
      exact ⟨⟨fun h => by simp at h, fun h => absurd h.2.2 hok⟩, fun h => by simp at h, H⟩
theorem add_spec {a b : Int} (H : St W l w) : cl Tryz.prog 57 [.int .i64 a, .int .i64 b] (tTup2 (tInt .i64) (tInt .i64)) w fun r w' => (r.2 = 0 ↔ okAm a ∧ okAm b ∧ a + b ≤ 1000000000000000) ∧ (r.2 = 0 → r.1 = a + b) ∧ St W l w' := by
  refine F57_ok ?_
  unfold F57
  refine nwS_st H fun b3 w H => ?_
  have H := row_new (sz := 1) (m := 2) rfl H
  refine cl_mono (total_spec (a := a) (b := b) (See.row (fun _ => rfl) 0 rfl) H) ?_
  rintro r w ⟨h1, h2, H⟩
  exact ⟨h1, h2, H.drop⟩
end
end Go.Proofs.YtpdaapffkdejoaaGreat.Num
namespace Go.Proofs.YtpdaapffkdejoaaGreat
open Go Go.Proofs.YtpdaapffkdejoaaGreat.Cf
set_option linter.unusedVariables false
set_option linter.unusedSimpArgs false
set_option maxRecDepth 100000
theorem ownNone : ownKnob Tryz.prog.godebug = none := by kernel_rfl
theorem laidOutYes : laidOutB Tryz.prog = true := by kernel_rfl
section
variable {H : Type} {enc : TypeId × Value → H} {W : World} {base : Nat} {spare : Nat → Bool} {held : Bool}
def G22 (W : World) (x : Nat) : Prop := x < 18446744073709551616
theorem opn22 : Opn enc Tryz.prog W base spare held 22 tFlt (G22 W) := opn_flt Tryz.underlying22
def G3 (W : World) (x : Int) : Prop := IntKind.i64.min ≤ x ∧ x ≤ IntKind.i64.max
theorem opn3 : Opn enc Tryz.prog W base spare held 3 (tInt .i64) (G3 W) := opn_int Tryz.underlying3
def G2 (W : World) (x : Int) : Prop := IntKind.i64.min ≤ x ∧ x ≤ IntKind.i64.max
theorem opn2 : Opn enc Tryz.prog W base spare held 2 (tInt .i64) (G2 W) := opn_int Tryz.underlying2
def G4 (W : World) (x : Bool) : Prop := True
theorem opn4 : Opn enc Tryz.prog W base spare held 4 tBool (G4 W) := opn_bool Tryz.underlying4
def G42 (W : World) (x : S41) : Prop := G3 W x.Kind ∧ G3 W x.ID ∧ G3 W x.Account ∧ G2 W x.T_ ∧ G2 W x.N ∧ G4 W x.Pays
theorem opn42 : Opn enc Tryz.prog W base spare held 42 T41 (G42 W) := by
  refine opn_agg Tryz.underlying42 (show Tryz.prog.cellsOf 42 = 6 by kernel_rfl) fun cs hl hf => ?_
  obtain ⟨m0, x0, h0⟩ := hf 0 0 3 1 ⟨_, rfl, rfl, rfl⟩ (by kernel_rfl)
  obtain ⟨y0, e0, g0⟩ := opn3 _ _ _ h0
  obtain ⟨m1, x1, h1⟩ := hf 1 1 3 1 ⟨_, rfl, rfl, rfl⟩ (by kernel_rfl)
  obtain ⟨y1, e1, g1⟩ := opn3 _ _ _ h1
  obtain ⟨m2, x2, h2⟩ := hf 2 2 3 1 ⟨_, rfl, rfl, rfl⟩ (by kernel_rfl)
  obtain ⟨y2, e2, g2⟩ := opn3 _ _ _ h2
  obtain ⟨m3, x3, h3⟩ := hf 3 3 2 1 ⟨_, rfl, rfl, rfl⟩ (by kernel_rfl)
  obtain ⟨y3, e3, g3⟩ := opn2 _ _ _ h3
  obtain ⟨m4, x4, h4⟩ := hf 4 4 2 1 ⟨_, rfl, rfl, rfl⟩ (by kernel_rfl)
  obtain ⟨y4, e4, g4⟩ := opn2 _ _ _ h4
  obtain ⟨m5, x5, h5⟩ := hf 5 5 4 1 ⟨_, rfl, rfl, rfl⟩ (by kernel_rfl)
  obtain ⟨y5, e5, g5⟩ := opn4 _ _ _ h5
  exact ⟨⟨y0, y1, y2, y3, y4, y5⟩, dj (o := 0) (k := 1) e0 (dj (o := 1) (k := 1) e1 (dj (o := 2) (k := 1) e2 (dj (o := 3) (k := 1) e3 (dj (o := 4) (k := 1) e4 (dj (o := 5) (k := 1) e5 (dend hl)))))), g0, g1, g2, g3, g4, g5⟩
def G23 (W : World) (s : Slc) : Prop := (s.len ≤ s.cap ∧ s.cap ≤ 9223372036854775807) ∧ ∃ xs, (∀ x ∈ xs, G42 W x) ∧ RoP T41 s xs fun b => W.heap[b]?
theorem opn23 : Opn enc Tryz.prog W base spare held 23 tSlc (G23 W) := opn_slice Tryz.underlying23 (show Tryz.prog.cellsOf 42 = 6 by kernel_rfl) (by decide) (fun _ => rfl) opn42
end
end Go.Proofs.YtpdaapffkdejoaaGreat
namespace Go.Proofs.YtpdaapffkdejoaaGreat.Cf
open Go
set_option maxRecDepth 100000
set_option maxHeartbeats 1000000
set_option linter.unusedVariables false
set_option linter.unusedSimpArgs false
def F5_l3 (a4 : Addr) (r7 : (Option Addr)) (r13 : Slc) (i_14 : Int) (a19 : Addr) (k_27 : Int) (w28 : World) (K16 : Int → World → Prop) (K29 : Int → World → Prop) (R : Bool → World → Prop) : Prop :=
  if (decide (k_27 < i_14)) = true then (
    dr w28 fun w30 =>
    ex (IxA r13 6 k_27) fun a31 =>
    ex (RdAt (tInt .i64) ((a31.add 0).add 1) w30) fun x32 =>
    ex (RdAt (tInt .i64) ((a19.add 0).add 1) w30) fun x33 =>
    if (x32 == x33) = true then (
      R false w30
    ) else (
      K29 ((IntKind.i64.wrap (k_27 + (1 : Int)))) w30
    )
  ) else (
    ex (RdAt (tInt .i64) (a19.add 4) w28) fun x35 =>
    cl Tryz.prog 19 [.pointer (r7), .int .i64 (x35)] (tInt .i64) w28 fun r37 w36 =>
    if (r37 != (160 : Int)) = true then (
      R false w36
    ) else (
      ex (RdAt T41 a4 w36) fun x38 =>
      cl Tryz.prog 20 [T41.enc (x38)] T52 w36 fun r40 w39 =>
      nw 53 T52 Z52 w39 fun a41 w42 =>
      st T52 a41 r40 w42 fun w43 =>
      ex (RdAt (tInt .i64) ((a19.add 0).add 1) w43) fun x44 =>
      st (tInt .i64) (a41.add 1) x44 w43 fun w45 =>
      ex (RdAt (tInt .i64) (a4.add 3) w45) fun x46 =>
      ex (RdAt T52 a41 w45) fun x47 =>
      cl Tryz.prog 21 [.pointer (r7), .int .i64 (x46), T52.enc (x47)] (tInt .i64) w45 fun r49 w48 =>
      if (r49 == (0 : Int)) = true then (
        R false w48
      ) else (
        K16 ((IntKind.i64.wrap (i_14 + (1 : Int)))) w48
      )
    )
  )
def F5_j2 (a4 : Addr) (r7 : (Option Addr)) (r13 : Slc) (i_14 : Int) (a19 : Addr) (t_25 : Bool) (w26 : World) (K16 : Int → World → Prop) (R : Bool → World → Prop) : Prop :=
  if t_25 = true then (
    R false w26
  ) else (
    lp (fun (s : Int) w K => F5_l3 a4 r7 r13 i_14 a19 s w K16 K R) ((0 : Int)) w26
  )
def F5_l1 (a4 : Addr) (r7 : (Option Addr)) (r13 : Slc) (i_14 : Int) (w15 : World) (K16 : Int → World → Prop) (R : Bool → World → Prop) : Prop :=
  if (decide (i_14 < (r13.len : Int))) = true then (
    ex (IxA r13 6 i_14) fun a17 =>
    ex (RdAt T54 a17 w15) fun x18 =>
    nw 55 T54 Z54 w15 fun a19 w20 =>
    st T54 a19 x18 w20 fun w21 =>
    ex (RdAt (tInt .i64) ((a19.add 0).add 0) w21) fun x22 =>
    cl Tryz.prog 14 [.pointer (r7), .int .i64 (x22)] (tTup2 (tInt .i64) (tInt .i64)) w21 fun r24 w23 =>
    dr w23 fun w54 =>
    ex (fun x => (!(r24.1 != (1 : Int))) = true → (RdAt (tInt .i64) (a19.add 4) w54) x) fun x55 =>
    if ((r24.1 != (1 : Int)) || (r24.2 != x55)) = true then (
      if true = true then (
        F5_j2 a4 r7 r13 i_14 a19 true w54 K16 R
      ) else (
        ex (RdAt (tInt .i64) (a19.add 4) w54) fun x58 =>
        cl Tryz.prog 18 [.pointer (r7)] (tInt .i64) w54 fun r60 w59 =>
        kp ((fun x => (!(r24.1 != (1 : Int))) = true → (RdAt (tInt .i64) (a19.add 4) w59) x) x55) <|
        kp ((RdAt (tInt .i64) (a19.add 4) w59) x58) <|
        ex (fun x => ((!(decide (x58 > r60))) && (decide (i_14 > (0 : Int)))) = true → (IxA r13 6 (IntKind.i64.wrap (i_14 - (1 : Int)))) x) fun a63 =>
        ex (fun x => ((!(decide (x58 > r60))) && (decide (i_14 > (0 : Int)))) = true → (RdAt (tInt .i64) ((a63.add 0).add 0) w59) x) fun x64 =>
        ex (fun x => ((!(decide (x58 > r60))) && (decide (i_14 > (0 : Int)))) = true → (RdAt (tInt .i64) ((a19.add 0).add 0) w59) x) fun x65 =>
        F5_j2 a4 r7 r13 i_14 a19 ((decide (x58 > r60)) || ((decide (i_14 > (0 : Int))) && (decide (x64 ≥ x65)))) w59 K16 R
      )
    ) else (
      ex (NC r7) fun a66 =>
      ex (RdAt (tInt .i64) (a19.add 4) w54) fun x67 =>
      ex (RdAt T29 (a66.add 0) w54) fun x68 =>
      cl Tryz.prog 9 [T29.enc (x68)] (tInt .i64) w54 fun r70 w69 =>
      kp ((fun x => (!(r24.1 != (1 : Int))) = true → (RdAt (tInt .i64) (a19.add 4) w69) x) x55) <|
      kp ((RdAt (tInt .i64) (a19.add 4) w69) x67) <|
      if (decide (x67 ≤ r70)) = true then (
        ex (fun x => ((!true) && (decide (i_14 > (0 : Int)))) = true → (IxA r13 6 (IntKind.i64.wrap (i_14 - (1 : Int)))) x) fun a74 =>
        ex (fun x => ((!true) && (decide (i_14 > (0 : Int)))) = true → (RdAt (tInt .i64) ((a74.add 0).add 0) w69) x) fun x75 =>
        ex (fun x => ((!true) && (decide (i_14 > (0 : Int)))) = true → (RdAt (tInt .i64) ((a19.add 0).add 0) w69) x) fun x76 =>
        F5_j2 a4 r7 r13 i_14 a19 (true || ((decide (i_14 > (0 : Int))) && (decide (x75 ≥ x76)))) w69 K16 R
      ) else (
        ex (RdAt (tInt .i64) (a19.add 4) w69) fun x77 =>
        cl Tryz.prog 18 [.pointer (r7)] (tInt .i64) w69 fun r79 w78 =>
        kp ((fun x => (!(r24.1 != (1 : Int))) = true → (RdAt (tInt .i64) (a19.add 4) w78) x) x55) <|
        kp ((RdAt (tInt .i64) (a19.add 4) w78) x67) <|
        kp ((RdAt T29 (a66.add 0) w78) x68) <|
        kp ((RdAt (tInt .i64) (a19.add 4) w78) x77) <|
        ex (fun x => ((!(decide (x77 > r79))) && (decide (i_14 > (0 : Int)))) = true → (IxA r13 6 (IntKind.i64.wrap (i_14 - (1 : Int)))) x) fun a84 =>
        ex (fun x => ((!(decide (x77 > r79))) && (decide (i_14 > (0 : Int)))) = true → (RdAt (tInt .i64) ((a84.add 0).add 0) w78) x) fun x85 =>
        ex (fun x => ((!(decide (x77 > r79))) && (decide (i_14 > (0 : Int)))) = true → (RdAt (tInt .i64) ((a19.add 0).add 0) w78) x) fun x86 =>
        F5_j2 a4 r7 r13 i_14 a19 ((decide (x77 > r79)) || ((decide (i_14 > (0 : Int))) && (decide (x85 ≥ x86)))) w78 K16 R
      )
    )
  ) else (
    R true w15
  )
def F5 (rate_1 : Nat) (l_2 : Slc) (o_3 : S41) (w : World) (R : Bool → World → Prop) : Prop :=
  nw 42 T41 o_3 w fun a4 w5 =>
  cl Tryz.prog 7 [.float .f64 (rate_1), tSlc.enc (l_2)] tPtr w5 fun r7 w6 =>
  cl Tryz.prog 8 [] tBool w6 fun r9 w8 =>
  if ((!r9) || r7.isNone) = true then (
    cl Tryz.prog 8 [] tBool w8 fun r11 w10 =>
    R r11 w10
  ) else (
    cl Tryz.prog 17 [.pointer (r7)] tSlc w8 fun r13 w12 =>
    lp (fun (s : Int) w K => F5_l1 a4 r7 r13 s w K R) ((0 : Int)) w12
  )
end Go.Proofs.YtpdaapffkdejoaaGreat.Cf
namespace Go.Proofs.YtpdaapffkdejoaaGreat.Cf
open Go
set_option maxRecDepth 100000
set_option maxHeartbeats 1000000
set_option linter.unusedVariables false
set_option linter.unusedSimpArgs false
def F6_j2 (i_10 : Int) (sum_13 : Int) (w14 : World) (K12 : Int × Int → World → Prop) (R : Bool → World → Prop) : Prop :=
  K12 (sum_13, (IntKind.i64.wrap (i_10 + (1 : Int)))) w14
def F6_j5 (k_29 : Int) (sum_32 : Int) (w33 : World) (K31 : Int × Int → World → Prop) (R : Bool → World → Prop) : Prop :=
  K31 (sum_32, (IntKind.i64.wrap (k_29 + (1 : Int)))) w33
def F6_l4 (i_10 : Int) (a17 : Addr) (r21 : Slc) (sum_28 : Int) (k_29 : Int) (w30 : World) (K12 : Int × Int → World → Prop) (K31 : Int × Int → World → Prop) (R : Bool → World → Prop) : Prop :=
  if (decide (k_29 < (r21.len : Int))) = true then (
    dr w30 fun w34 =>
    ex (IxA r21 6 k_29) fun a35 =>
    ex (RdAt (tInt .i64) ((a35.add 0).add 0) w34) fun x36 =>
    ex (RdAt (tInt .i64) (a17.add 1) w34) fun x37 =>
    ex (fun x => (x36 == x37) = true → (IxA r21 6 k_29) x) fun a38 =>
    ex (fun x => (x36 == x37) = true → (RdAt tBool ((a38.add 0).add 3) w34) x) fun x39 =>
    if ((x36 == x37) && x39) = true then (
      ex (IxA r21 6 k_29) fun a40 =>
      ex (RdAt (tInt .i64) ((a40.add 0).add 2) w34) fun x41 =>
      F6_j5 k_29 (IntKind.i64.wrap (sum_28 - x41)) w34 K31 R
    ) else (
      dr w34 fun w42 =>
      ex (IxA r21 6 k_29) fun a43 =>
      ex (RdAt (tInt .i64) ((a43.add 0).add 0) w42) fun x44 =>
      ex (RdAt (tInt .i64) (a17.add 1) w42) fun x45 =>
      if (x44 == x45) = true then (
        ex (IxA r21 6 k_29) fun a46 =>
        ex (RdAt (tInt .i64) ((a46.add 0).add 2) w42) fun x47 =>
        F6_j5 k_29 (IntKind.i64.wrap (sum_28 + x47)) w42 K31 R
      ) else (
        F6_j5 k_29 sum_28 w42 K31 R
      )
    )
  ) else (
    F6_j2 i_10 sum_28 w30 K12 R
  )
def F6_j3 (i_10 : Int) (a17 : Addr) (r21 : Slc) (sum_25 : Int) (w26 : World) (K12 : Int × Int → World → Prop) (R : Bool → World → Prop) : Prop :=
  ex (RdAt (tInt .i64) (a17.add 0) w26) fun x27 =>
  if (x27 != (2 : Int)) = true then (
    F6_j2 i_10 sum_25 w26 K12 R
  ) else (
    lp (fun (s : Int × Int) w K => F6_l4 i_10 a17 r21 s.1 s.2 w K12 K R) (sum_25, (0 : Int)) w26
  )
def F6_l7 (sum_9 : Int) (r73 : (Slc × Int)) (n_74 : Int) (i_75 : Int) (w76 : World) (K77 : Int × Int → World → Prop) (R : Bool → World → Prop) : Prop :=
  if (decide (i_75 < (r73.1.len : Int))) = true then (
    ex (IxA r73.1 2 i_75) fun a78 =>
    ex (RdAt (tInt .i64) (a78.add 1) w76) fun x79 =>
    if (decide (x79 < (0 : Int))) = true then (
      R false w76
    ) else (
      ex (IxA r73.1 2 i_75) fun a80 =>
      ex (RdAt (tInt .i64) (a80.add 1) w76) fun x81 =>
      K77 ((IntKind.i64.wrap (n_74 + x81)), (IntKind.i64.wrap (i_75 + (1 : Int)))) w76
    )
  ) else (
    R ((r73.2 == (0 : Int)) && (n_74 == sum_9)) w76
  )
def F6_l6 (r4 : ((Option Addr) × Int)) (sum_9 : Int) (r57 : Slc) (t_58 : Int) (w59 : World) (K60 : Int → World → Prop) (R : Bool → World → Prop) : Prop :=
  if (decide (t_58 < (r57.len : Int))) = true then (
    ex (IxA r57 6 t_58) fun a61 =>
    ex (RdAt T54 a61 w59) fun x62 =>
    nw 55 T54 Z54 w59 fun a63 w64 =>
    st T54 a63 x62 w64 fun w65 =>
    ex (RdAt (tInt .i64) ((a63.add 0).add 0) w65) fun x66 =>
    cl Tryz.prog 16 [.pointer (r4.1), .int .i64 (x66)] (tInt .i64) w65 fun r68 w67 =>
    if (r68 != (0 : Int)) = true then (
      R false w67
    ) else (
      K60 ((IntKind.i64.wrap (t_58 + (1 : Int)))) w67
    )
  ) else (
    cl Tryz.prog 19 [.pointer (r4.1), .int .i64 ((1125899906842624 : Int))] (tInt .i64) w59 fun r71 w70 =>
    if (r71 != (0 : Int)) = true then (
      R false w70
    ) else (
      cl Tryz.prog 10 [.pointer (r4.1), .int .i64 ((1125899906842624 : Int))] (tTup2 tSlc (tInt .i64)) w70 fun r73 w72 =>
      lp (fun (s : Int × Int) w K => F6_l7 sum_9 r73 s.1 s.2 w K R) ((0 : Int), (0 : Int)) w72
    )
  )
def F6_l1 (l_2 : Slc) (r4 : ((Option Addr) × Int)) (sum_9 : Int) (i_10 : Int) (w11 : World) (K12 : Int × Int → World → Prop) (R : Bool → World → Prop) : Prop :=
  if ((decide (i_10 < (l_2.len : Int))) && (decide (i_10 < (40 : Int)))) = true then (
    ex (IxA l_2 6 i_10) fun a15 =>
    ex (RdAt T41 a15 w11) fun x16 =>
    nw 42 T41 Z41 w11 fun a17 w18 =>
    st T41 a17 x16 w18 fun w19 =>
    cl Tryz.prog 17 [.pointer (r4.1)] tSlc w19 fun r21 w20 =>
    ex (RdAt T41 a17 w20) fun x22 =>
    cl Tryz.prog 11 [.pointer (r4.1), T41.enc (x22)] (tInt .i64) w20 fun r24 w23 =>
    if (r24 != (0 : Int)) = true then (
      F6_j2 i_10 sum_9 w23 K12 R
    ) else (
      ex (RdAt (tInt .i64) (a17.add 0) w23) fun x52 =>
      if (x52 == (0 : Int)) = true then (
        ex (RdAt (tInt .i64) (a17.add 4) w23) fun x53 =>
        F6_j3 i_10 a17 r21 (IntKind.i64.wrap (sum_9 + x53)) w23 K12 R
      ) else (
        F6_j3 i_10 a17 r21 sum_9 w23 K12 R
      )
    )
  ) else (
    cl Tryz.prog 17 [.pointer (r4.1)] tSlc w11 fun r57 w56 =>
    lp (fun (s : Int) w K => F6_l6 r4 sum_9 r57 s w K R) ((0 : Int)) w56
  )
def F6 (rate_1 : Nat) (l_2 : Slc) (w : World) (R : Bool → World → Prop) : Prop :=
  cl Tryz.prog 22 [.float .f64 (rate_1)] (tTup2 tPtr (tInt .i64)) w fun r4 w3 =>
  cl Tryz.prog 8 [] tBool w3 fun r6 w5 =>
  if (((!r6) || (r4.2 != (0 : Int))) || r4.1.isNone) = true then (
    cl Tryz.prog 8 [] tBool w5 fun r8 w7 =>
    R r8 w7
  ) else (
    lp (fun (s : Int × Int) w K => F6_l1 l_2 r4 s.1 s.2 w K R) ((0 : Int), (0 : Int)) w5
  )
theorem F6_ok {rate_1 : Nat} {l_2 : Slc} {w : World} {R : Bool → World → Prop} (h : F6 rate_1 l_2 w R) : cl Tryz.prog 6 [.float .f64 (rate_1), tSlc.enc (l_2)] tBool w R := by
  unfold F6 at h
  refine calls_start 162 Tryz.func6 rfl rfl (Nat.le_of_ble_eq_true rfl) ?_
  refine wp_seq ?_
  refine wp_text [0] rfl ?_
  refine rv 4 rfl rfl rfl (q_assign (v := .bool (false)) rfl rfl) ?_
  refine ro_nil ?_
  refine wp_seq ?_
  refine wp_text [0, 1, 2, 3, 4, 5, 6] rfl ?_
  refine rv 20 rfl rfl rfl (q_move (v := .float .f64 (rate_1)) rfl rfl) ?_
  refine ro_wp rfl (.free rfl) (wp_cl (d := (some 21)) rfl (q_call (k := 22) (l := [.float .f64 (rate_1)]) rfl ent22 rfl) h ?_)
  intro r4 w3 h
  refine rv 19 rfl rfl rfl (q_move (v := (tTup2 tPtr (tInt .i64)).enc (r4)) rfl rfl) ?_
  refine rv 22 rfl rfl rfl (q_extract (vs := #[.pointer (r4.1), .int .i64 (r4.2)]) (v := .pointer (r4.1)) rfl rfl rfl) ?_
  refine rv 23 rfl rfl rfl (q_extract (vs := #[.pointer (r4.1), .int .i64 (r4.2)]) (v := .int .i64 (r4.2)) rfl rfl rfl) ?_
  refine rv 5 rfl rfl rfl (q_assign (v := .pointer (r4.1)) rfl rfl) ?_
  refine rv 6 rfl rfl rfl (q_assign (v := .int .i64 (r4.2)) rfl rfl) ?_
  refine ro_nil ?_
  refine wp_seq ?_
  refine wp_seq ?_
  refine wp_text [0, 1, 2, 3, 4, 5, 6, 7, 8, 9] rfl ?_
  refine ro_wp rfl (.free rfl) (wp_cl (d := (some 24)) rfl (q_call (k := 8) (l := []) rfl ent8 rfl) h ?_)
  intro r6 w5 h
  refine rv 25 rfl rfl rfl (q_not (b := r6) rfl rfl) ?_
  refine rv 26 rfl rfl rfl (q_move (v := .bool ((!r6))) rfl rfl) ?_
  refine ro_gval (g := (!(!r6))) (d := (some 27)) rfl (.no 2 26 true (!r6) rfl rfl rfl rfl) rfl (fun hg => q_move (v := .int .i64 (r4.2)) rfl rfl) ?_
  refine ro_gval (g := (!(!r6))) (d := (some 28)) rfl (.no 2 26 true (!r6) rfl rfl rfl rfl) rfl (fun hg => q_neq (k := .i64) (a := r4.2) (b := (0 : Int)) rfl (gvb_yes hg) rfl) ?_
  refine rv 29 rfl rfl rfl (q_pickGF (a := (!r6)) (c := (r4.2 != (0 : Int))) rfl rfl rfl rfl) ?_
  refine rv 30 rfl rfl rfl (q_move (v := .bool (((!r6) || (r4.2 != (0 : Int))))) rfl rfl) ?_
  refine ro_gval (g := (!((!r6) || (r4.2 != (0 : Int))))) (d := (some 31)) rfl (.no 6 30 true ((!r6) || (r4.2 != (0 : Int))) rfl rfl rfl rfl) rfl (fun hg => q_move (v := .pointer (r4.1)) rfl rfl) ?_
  refine ro_gval (g := (!((!r6) || (r4.2 != (0 : Int))))) (d := (some 32)) rfl (.no 6 30 true ((!r6) || (r4.2 != (0 : Int))) rfl rfl rfl rfl) rfl (fun hg => q_eqP0 (a := r4.1) rfl Tryz.underlying24 (gvb_yes hg) rfl) ?_
  refine rv 33 rfl rfl rfl (q_pickGF (a := ((!r6) || (r4.2 != (0 : Int)))) (c := r4.1.isNone) rfl rfl rfl rfl) ?_
  refine ro_nil ?_
  refine wp_if (b := (((!r6) || (r4.2 != (0 : Int))) || r4.1.isNone)) rfl h (fun hb87 h => ?_) (fun hb87 h => ?_)
  · refine wp_seq ?_
    refine wp_text [0, 1] rfl ?_
    refine ro_wp rfl (.free rfl) (wp_cl (d := (some 34)) rfl (q_call (k := 8) (l := []) rfl ent8 rfl) h ?_)
    intro r8 w7 h
    refine rv 4 rfl rfl rfl (q_assign (v := .bool (r8)) rfl rfl) ?_
    refine ro_nil ?_
    refine wp_ret ?_
    exact ret_ok rfl (.cons (.tmp (v := .bool (r8)) rfl) .nil) ⟨r8, rfl, h⟩
  · refine wp_skip ?_
    refine wp_seq ?_
    refine wp_text [0] rfl ?_
    refine rv 7 rfl rfl rfl (q_assign (v := .int .i64 ((0 : Int))) rfl rfl) ?_
    refine ro_nil ?_
    refine wp_seq ?_
    refine wp_seq ?_
    refine wp_text [0] rfl ?_
    refine rv 8 rfl rfl rfl (q_assign (v := .int .i64 ((0 : Int))) rfl rfl) ?_
    refine ro_nil ?_
    refine wp_block ?_
    refine loop_at (σ := Int × Int) (fr := fun g (s : Int × Int) => upd (upd (upd (upd (g) 1 (tSlc.enc (l_2))) 5 (.pointer (r4.1))) 7 (.int .i64 (s.1))) 8 (.int .i64 (s.2))) (s0 := ((0 : Int), (0 : Int))) (upd_step (upd_step (upd_step (upd_step rfl rfl) rfl) rfl) rfl) h ?_
    rintro ⟨sum_9, i_10⟩ g w11 K12 h
    unfold F6_l1 at h
    refine wp_seq ?_
    refine wp_seq ?_
    refine wp_text [0, 1, 2, 3, 4, 5, 6, 7] rfl ?_
    refine rv 35 rfl rfl rfl (q_move (v := .int .i64 (i_10)) rfl rfl) ?_
    refine rv 36 rfl rfl rfl (q_move (v := tSlc.enc (l_2)) rfl rfl) ?_
    refine rv 37 rfl rfl rfl (q_len (s := l_2) rfl Tryz.underlying23 rfl) ?_
    refine rv 38 rfl rfl rfl (q_lss (a := i_10) (b := (l_2.len : Int)) rfl rfl rfl) ?_
    refine rv 39 rfl rfl rfl (q_move (v := .bool ((decide (i_10 < (l_2.len : Int))))) rfl rfl) ?_
    refine ro_gval (g := (decide (i_10 < (l_2.len : Int)))) (d := (some 40)) rfl (.yes 4 39 true (decide (i_10 < (l_2.len : Int))) rfl rfl rfl rfl) rfl (fun hg => q_move (v := .int .i64 (i_10)) rfl rfl) ?_
    refine ro_gval (g := (decide (i_10 < (l_2.len : Int)))) (d := (some 41)) rfl (.yes 4 39 true (decide (i_10 < (l_2.len : Int))) rfl rfl rfl rfl) rfl (fun hg => q_lss (k := .i64) (a := i_10) (b := (40 : Int)) rfl (gvb_yes hg) rfl) ?_
    refine rv 42 rfl rfl rfl (q_pickGT (a := (decide (i_10 < (l_2.len : Int)))) (b := (decide (i_10 < (40 : Int)))) rfl rfl rfl rfl) ?_
    refine ro_nil ?_
    refine wp_if (b := ((decide (i_10 < (l_2.len : Int))) && (decide (i_10 < (40 : Int))))) rfl h (fun hb86 h => ?_) (fun hb86 h => ?_)
    · refine wp_skip ?_
      refine seq_join (σ := Int) (J := fun (s : Int) w => F6_j2 i_10 s w K12 R) (fr := fun g (s : Int) => upd (upd (upd (upd (g) 1 (tSlc.enc (l_2))) 5 (.pointer (r4.1))) 8 (.int .i64 (i_10))) 7 (.int .i64 (s))) ?_ ?_
      · rintro sum_13 g w14 h
        unfold F6_j2 at h
        refine wp_text [0, 1, 2] rfl ?_
        refine rv 43 rfl rfl rfl (q_move (v := .int .i64 (i_10)) rfl rfl) ?_
        refine rv 44 rfl rfl rfl (q_add (a := i_10) (b := (1 : Int)) rfl rfl rfl) ?_
        refine rv 8 rfl rfl rfl (q_assign (v := .int .i64 ((IntKind.i64.wrap (i_10 + (1 : Int))))) rfl rfl) ?_
        refine ro_nil ?_
        exact ⟨(sum_13, (IntKind.i64.wrap (i_10 + (1 : Int)))), _, arr (upd_step (upd_step (upd_step (upd_step rfl rfl) rfl) rfl) rfl), h⟩
      · refine wp_block ?_
        refine wp_seq ?_
        refine wp_text [0, 1, 2, 3, 4, 5] rfl ?_
        refine rv 45 rfl rfl rfl (q_move (v := tSlc.enc (l_2)) rfl rfl) ?_
        refine rv 46 rfl rfl rfl (q_move (v := .int .i64 (i_10)) rfl rfl) ?_
        obtain ⟨a15, ha15, h⟩ := h
        refine rv 47 rfl rfl rfl (q_indexAddr (s := l_2) (k := .i64) (i := i_10) rfl Tryz.underlying23 ok42 rfl rfl ha15) ?_
        obtain ⟨x16, hx16, h⟩ := h
        refine rv 48 rfl rfl rfl (q_load (T := T41) (u := x16) (a := a15) rfl ok42 rfl hx16) ?_
        obtain ⟨a17, w18, ha17, hw18, h⟩ := nw_open h
        refine rv 9 rfl rfl rfl (q_alloc (u := Z41) rfl ok42 inf42 ha17 hw18) ?_
        obtain ⟨w19, hw19, hrw19, h⟩ := st_open h
        refine ro_skip (d := none) rfl (.free rfl) rfl (q_store (T := T41) (u := x16) (a := a17) rfl ok42 rfl rfl hrw19 hw19) ?_
        refine ro_nil ?_
        refine wp_seq ?_
        refine wp_text [0, 1, 2] rfl ?_
        refine rv 49 rfl rfl rfl (q_move (v := .pointer (r4.1)) rfl rfl) ?_
        refine ro_wp rfl (.free rfl) (wp_cl (d := (some 50)) rfl (q_call (k := 17) (l := [.pointer (r4.1)]) rfl ent17 rfl) h ?_)
        intro r21 w20 h
        refine rv 10 rfl rfl rfl (q_assign (v := tSlc.enc (r21)) rfl rfl) ?_
        refine ro_nil ?_
        refine wp_seq ?_
        refine wp_text [0, 1, 2, 3] rfl ?_
        refine rv 51 rfl rfl rfl (q_move (v := .pointer (r4.1)) rfl rfl) ?_
        obtain ⟨x22, hx22, h⟩ := h
        refine rv 52 rfl rfl rfl (q_load (T := T41) (u := x22) (a := a17) rfl ok42 rfl hx22) ?_
        refine ro_wp rfl (.free rfl) (wp_cl (d := (some 53)) rfl (q_call (k := 11) (l := [.pointer (r4.1), T41.enc (x22)]) rfl ent11 rfl) h ?_)
        intro r24 w23 h
        refine rv 11 rfl rfl rfl (q_assign (v := .int .i64 (r24)) rfl rfl) ?_
        refine ro_nil ?_
        refine wp_seq ?_
        refine wp_seq ?_
        refine wp_text [0, 1] rfl ?_
        refine rv 54 rfl rfl rfl (q_move (v := .int .i64 (r24)) rfl rfl) ?_
        refine rv 55 rfl rfl rfl (q_neq (a := r24) (b := (0 : Int)) rfl rfl rfl) ?_
        refine ro_nil ?_
        refine wp_if (b := (r24 != (0 : Int))) rfl h (fun hb55 h => ?_) (fun hb55 h => ?_)
        · refine wp_exit ?_
          exact ⟨(sum_9), _, arr (upd_step (upd_step (upd_step (upd_step rfl rfl) rfl) rfl) rfl), h⟩
        · refine wp_skip ?_
          refine seq_join (σ := Int) (J := fun (s : Int) w => F6_j3 i_10 a17 r21 s w K12 R) (fr := fun g (s : Int) => upd (upd (upd (upd (upd (upd (g) 1 (tSlc.enc (l_2))) 5 (.pointer (r4.1))) 8 (.int .i64 (i_10))) 9 (.pointer (some a17))) 10 (tSlc.enc (r21))) 7 (.int .i64 (s))) ?_ ?_
          · rintro sum_25 g w26 h
            unfold F6_j3 at h
            refine wp_seq ?_
            refine wp_seq ?_
            refine wp_text [0, 1, 2] rfl ?_
            refine rv 63 rfl rfl rfl (q_fieldAddr (a := a17) (off := 0) rfl Tryz.underlying42 rfl rfl ok3 (by decide) rfl) ?_
            obtain ⟨x27, hx27, h⟩ := h
            refine rv 64 rfl rfl rfl (q_load (T := (tInt .i64)) (u := x27) (a := (a17.add 0)) rfl ok3 rfl hx27) ?_
            refine rv 65 rfl rfl rfl (q_neq (a := x27) (b := (2 : Int)) rfl rfl rfl) ?_
            refine ro_nil ?_
            refine wp_if (b := (x27 != (2 : Int))) rfl h (fun hb51 h => ?_) (fun hb51 h => ?_)
            · refine wp_exit ?_
              exact ⟨(sum_25), _, arr (upd_step (upd_step (upd_step (upd_step rfl rfl) rfl) rfl) rfl), h⟩
            · refine wp_skip ?_
              refine wp_seq ?_
              refine wp_text [0] rfl ?_
              refine rv 12 rfl rfl rfl (q_assign (v := .int .i64 ((0 : Int))) rfl rfl) ?_
              refine ro_nil ?_
              refine wp_block ?_
              refine loop_at (σ := Int × Int) (fr := fun g (s : Int × Int) => upd (upd (upd (upd (upd (upd (upd (g) 1 (tSlc.enc (l_2))) 5 (.pointer (r4.1))) 8 (.int .i64 (i_10))) 9 (.pointer (some a17))) 10 (tSlc.enc (r21))) 7 (.int .i64 (s.1))) 12 (.int .i64 (s.2))) (s0 := (sum_25, (0 : Int))) (upd_step (upd_step (upd_step (upd_step (upd_step (upd_step (upd_step rfl rfl) rfl) rfl) rfl) rfl) rfl) rfl) h ?_
              rintro ⟨sum_28, k_29⟩ g w30 K31 h
              unfold F6_l4 at h
              refine wp_seq ?_
              refine wp_seq ?_
              refine wp_text [0, 1, 2, 3] rfl ?_
              refine rv 66 rfl rfl rfl (q_move (v := .int .i64 (k_29)) rfl rfl) ?_
              refine rv 67 rfl rfl rfl (q_move (v := tSlc.enc (r21)) rfl rfl) ?_
              refine rv 68 rfl rfl rfl (q_len (s := r21) rfl Tryz.underlying50 rfl) ?_
              refine rv 69 rfl rfl rfl (q_lss (a := k_29) (b := (r21.len : Int)) rfl rfl rfl) ?_
              refine ro_nil ?_
              refine wp_if (b := (decide (k_29 < (r21.len : Int)))) rfl h (fun hb50 h => ?_) (fun hb50 h => ?_)
              · refine wp_skip ?_
                refine seq_join (σ := Int) (J := fun (s : Int) w => F6_j5 k_29 s w K31 R) (fr := fun g (s : Int) => upd (upd (upd (upd (upd (upd (upd (g) 1 (tSlc.enc (l_2))) 5 (.pointer (r4.1))) 8 (.int .i64 (i_10))) 9 (.pointer (some a17))) 10 (tSlc.enc (r21))) 12 (.int .i64 (k_29))) 7 (.int .i64 (s))) ?_ ?_
                · rintro sum_32 g w33 h
                  unfold F6_j5 at h
                  refine wp_text [0, 1, 2] rfl ?_
                  refine rv 70 rfl rfl rfl (q_move (v := .int .i64 (k_29)) rfl rfl) ?_
                  refine rv 71 rfl rfl rfl (q_add (a := k_29) (b := (1 : Int)) rfl rfl rfl) ?_
                  refine rv 12 rfl rfl rfl (q_assign (v := .int .i64 ((IntKind.i64.wrap (k_29 + (1 : Int))))) rfl rfl) ?_
                  refine ro_nil ?_
                  exact ⟨(sum_32, (IntKind.i64.wrap (k_29 + (1 : Int)))), _, arr (upd_step (upd_step (upd_step (upd_step (upd_step (upd_step (upd_step rfl rfl) rfl) rfl) rfl) rfl) rfl) rfl), h⟩
                · refine wp_block ?_
                  refine wp_seq ?_
                  obtain ⟨w34, hw34, h⟩ := dr_open h
                  refine wp_drawn 17 mixed rfl (by kernel_rfl) (by intro c a d v w h; cases d <;> exact h) hw34 (fun hD => ?_)
                  refine rp 0 72 hD rfl rfl rfl (fun _ => q_move (v := tSlc.enc (r21)) rfl rfl) ?_
                  refine rp 1 73 hD rfl rfl rfl (fun _ => q_move (v := .int .i64 (k_29)) rfl rfl) ?_
                  obtain ⟨a35, ha35, h⟩ := h
                  refine rp 2 74 hD rfl rfl rfl (fun _ => q_indexAddr (s := r21) (k := .i64) (i := k_29) rfl Tryz.underlying50 ok55 rfl rfl ha35) ?_
                  refine rp 3 75 hD rfl rfl rfl (fun _ => q_fieldAddr (a := a35) (off := 0) rfl Tryz.underlying55 rfl rfl ok53 (by decide) rfl) ?_
                  refine rp 4 76 hD rfl rfl rfl (fun _ => q_fieldAddr (a := (a35.add 0)) (off := 0) rfl Tryz.underlying53 rfl rfl ok3 (by decide) rfl) ?_
                  refine rp 6 78 hD rfl rfl rfl (fun _ => q_fieldAddr (a := a17) (off := 1) rfl Tryz.underlying42 rfl rfl ok3 (by decide) rfl) ?_
                  obtain ⟨x36, hx36, h⟩ := h
                  refine rd_read (i := 5) (d := (some 77)) (fun W => (RdAt (tInt .i64) ((a35.add 0).add 0) W) x36) hD (by kernel_rfl) (by kernel_rfl) rfl (.free rfl) rfl (fun W hr => q_load (T := (tInt .i64)) (u := x36) (a := ((a35.add 0).add 0)) rfl ok3 rfl hr) hx36 ?_
                  obtain ⟨x37, hx37, h⟩ := h
                  refine rd_read (i := 7) (d := (some 79)) (fun W => (RdAt (tInt .i64) (a17.add 1) W) x37) hD (by kernel_rfl) (by kernel_rfl) rfl (.free rfl) rfl (fun W hr => q_load (T := (tInt .i64)) (u := x37) (a := (a17.add 1)) rfl ok3 rfl hr) hx37 ?_
                  refine rp 8 80 hD rfl rfl rfl (fun _ => q_eql (a := x36) (b := x37) rfl rfl rfl) ?_
                  refine rp 9 81 hD rfl rfl rfl (fun _ => q_move (v := .bool ((x36 == x37))) rfl rfl) ?_
                  refine rd_gpure (i := 10) (g := (x36 == x37)) (d := (some 82)) hD (by kernel_rfl) (by kernel_rfl) rfl (.yes 9 81 true (x36 == x37) rfl rfl rfl rfl) rfl (fun hg _ => q_move (v := tSlc.enc (r21)) rfl rfl) ?_
                  refine rd_gpure (i := 11) (g := (x36 == x37)) (d := (some 83)) hD (by kernel_rfl) (by kernel_rfl) rfl (.yes 9 81 true (x36 == x37) rfl rfl rfl rfl) rfl (fun hg _ => q_move (v := .int .i64 (k_29)) rfl rfl) ?_
                  obtain ⟨a38, ha38, h⟩ := h
                  refine rd_gpure (i := 12) (g := (x36 == x37)) (d := (some 84)) hD (by kernel_rfl) (by kernel_rfl) rfl (.yes 9 81 true (x36 == x37) rfl rfl rfl rfl) rfl (fun hg _ => q_indexAddr (s := r21) (k := .i64) (i := k_29) rfl Tryz.underlying50 ok55 (gvb_yes hg) (gvb_yes hg) (ha38 hg)) ?_
                  refine rd_gpure (i := 13) (g := (x36 == x37)) (d := (some 85)) hD (by kernel_rfl) (by kernel_rfl) rfl (.yes 9 81 true (x36 == x37) rfl rfl rfl rfl) rfl (fun hg _ => q_fieldAddr (a := a38) (off := 0) rfl Tryz.underlying55 rfl rfl ok53 (by decide) (gvb_yes hg)) ?_
                  refine rd_gpure (i := 14) (g := (x36 == x37)) (d := (some 86)) hD (by kernel_rfl) (by kernel_rfl) rfl (.yes 9 81 true (x36 == x37) rfl rfl rfl rfl) rfl (fun hg _ => q_fieldAddr (a := (a38.add 0)) (off := 3) rfl Tryz.underlying53 rfl rfl ok4 (by decide) (gvb_yes hg)) ?_
                  obtain ⟨x39, hx39, h⟩ := h
                  refine rd_gread (i := 15) (g := (x36 == x37)) (d := (some 87)) (fun W => (RdAt tBool ((a38.add 0).add 3) W) x39) hD (by kernel_rfl) (by kernel_rfl) rfl (.yes 9 81 true (x36 == x37) rfl rfl rfl rfl) rfl (fun hg W hr => q_load (T := tBool) (u := x39) (a := ((a38.add 0).add 3)) rfl ok4 (gvb_yes hg) hr) hx39 ?_
                  refine rp 16 88 hD rfl rfl rfl (fun _ => q_pickGT (a := (x36 == x37)) (b := x39) rfl rfl rfl rfl) ?_
                  refine rd_nil (by kernel_rfl) ?_
                  refine wp_if (b := ((x36 == x37) && x39)) rfl h (fun hb49 h => ?_) (fun hb49 h => ?_)
                  · refine wp_text [0, 1, 2, 3, 4, 5, 6, 7, 8] rfl ?_
                    refine rv 89 rfl rfl rfl (q_move (v := .int .i64 (sum_28)) rfl rfl) ?_
                    refine rv 90 rfl rfl rfl (q_move (v := tSlc.enc (r21)) rfl rfl) ?_
                    refine rv 91 rfl rfl rfl (q_move (v := .int .i64 (k_29)) rfl rfl) ?_
                    obtain ⟨a40, ha40, h⟩ := h
                    refine rv 92 rfl rfl rfl (q_indexAddr (s := r21) (k := .i64) (i := k_29) rfl Tryz.underlying50 ok55 rfl rfl ha40) ?_
                    refine rv 93 rfl rfl rfl (q_fieldAddr (a := a40) (off := 0) rfl Tryz.underlying55 rfl rfl ok53 (by decide) rfl) ?_
                    refine rv 94 rfl rfl rfl (q_fieldAddr (a := (a40.add 0)) (off := 2) rfl Tryz.underlying53 rfl rfl ok2 (by decide) rfl) ?_
                    obtain ⟨x41, hx41, h⟩ := h
                    refine rv 95 rfl rfl rfl (q_load (T := (tInt .i64)) (u := x41) (a := ((a40.add 0).add 2)) rfl ok2 rfl hx41) ?_
                    refine rv 96 rfl rfl rfl (q_sub (a := sum_28) (b := x41) rfl rfl rfl) ?_
                    refine rv 7 rfl rfl rfl (q_assign (v := .int .i64 ((IntKind.i64.wrap (sum_28 - x41)))) rfl rfl) ?_
                    refine ro_nil ?_
                    exact ⟨((IntKind.i64.wrap (sum_28 - x41))), _, arr (upd_step (upd_step (upd_step (upd_step (upd_step (upd_step (upd_step rfl rfl) rfl) rfl) rfl) rfl) rfl) rfl), h⟩
                  · refine wp_seq ?_
                    obtain ⟨w42, hw42, h⟩ := dr_open h
                    refine wp_drawn 9 mixed rfl (by kernel_rfl) (by intro c a d v w h; cases d <;> exact h) hw42 (fun hD => ?_)
                    refine rp 0 97 hD rfl rfl rfl (fun _ => q_move (v := tSlc.enc (r21)) rfl rfl) ?_
                    refine rp 1 98 hD rfl rfl rfl (fun _ => q_move (v := .int .i64 (k_29)) rfl rfl) ?_
                    obtain ⟨a43, ha43, h⟩ := h
                    refine rp 2 99 hD rfl rfl rfl (fun _ => q_indexAddr (s := r21) (k := .i64) (i := k_29) rfl Tryz.underlying50 ok55 rfl rfl ha43) ?_
                    refine rp 3 100 hD rfl rfl rfl (fun _ => q_fieldAddr (a := a43) (off := 0) rfl Tryz.underlying55 rfl rfl ok53 (by decide) rfl) ?_
                    refine rp 4 101 hD rfl rfl rfl (fun _ => q_fieldAddr (a := (a43.add 0)) (off := 0) rfl Tryz.underlying53 rfl rfl ok3 (by decide) rfl) ?_
                    refine rp 6 103 hD rfl rfl rfl (fun _ => q_fieldAddr (a := a17) (off := 1) rfl Tryz.underlying42 rfl rfl ok3 (by decide) rfl) ?_
                    obtain ⟨x44, hx44, h⟩ := h
                    refine rd_read (i := 5) (d := (some 102)) (fun W => (RdAt (tInt .i64) ((a43.add 0).add 0) W) x44) hD (by kernel_rfl) (by kernel_rfl) rfl (.free rfl) rfl (fun W hr => q_load (T := (tInt .i64)) (u := x44) (a := ((a43.add 0).add 0)) rfl ok3 rfl hr) hx44 ?_
                    obtain ⟨x45, hx45, h⟩ := h
                    refine rd_read (i := 7) (d := (some 104)) (fun W => (RdAt (tInt .i64) (a17.add 1) W) x45) hD (by kernel_rfl) (by kernel_rfl) rfl (.free rfl) rfl (fun W hr => q_load (T := (tInt .i64)) (u := x45) (a := (a17.add 1)) rfl ok3 rfl hr) hx45 ?_
                    refine rp 8 105 hD rfl rfl rfl (fun _ => q_eql (a := x44) (b := x45) rfl rfl rfl) ?_
                    refine rd_nil (by kernel_rfl) ?_
                    refine wp_if (b := (x44 == x45)) rfl h (fun hb48 h => ?_) (fun hb48 h => ?_)
                    · refine wp_text [0, 1, 2, 3, 4, 5, 6, 7, 8] rfl ?_
                      refine rv 106 rfl rfl rfl (q_move (v := .int .i64 (sum_28)) rfl rfl) ?_
                      refine rv 107 rfl rfl rfl (q_move (v := tSlc.enc (r21)) rfl rfl) ?_
                      refine rv 108 rfl rfl rfl (q_move (v := .int .i64 (k_29)) rfl rfl) ?_
                      obtain ⟨a46, ha46, h⟩ := h
                      refine rv 109 rfl rfl rfl (q_indexAddr (s := r21) (k := .i64) (i := k_29) rfl Tryz.underlying50 ok55 rfl rfl ha46) ?_
                      refine rv 110 rfl rfl rfl (q_fieldAddr (a := a46) (off := 0) rfl Tryz.underlying55 rfl rfl ok53 (by decide) rfl) ?_
                      refine rv 111 rfl rfl rfl (q_fieldAddr (a := (a46.add 0)) (off := 2) rfl Tryz.underlying53 rfl rfl ok2 (by decide) rfl) ?_
                      obtain ⟨x47, hx47, h⟩ := h
                      refine rv 112 rfl rfl rfl (q_load (T := (tInt .i64)) (u := x47) (a := ((a46.add 0).add 2)) rfl ok2 rfl hx47) ?_
                      refine rv 113 rfl rfl rfl (q_add (a := sum_28) (b := x47) rfl rfl rfl) ?_
                      refine rv 7 rfl rfl rfl (q_assign (v := .int .i64 ((IntKind.i64.wrap (sum_28 + x47)))) rfl rfl) ?_
                      refine ro_nil ?_
                      exact ⟨((IntKind.i64.wrap (sum_28 + x47))), _, arr (upd_step (upd_step (upd_step (upd_step (upd_step (upd_step (upd_step rfl rfl) rfl) rfl) rfl) rfl) rfl) rfl), h⟩
                    · refine wp_skip ?_
                      exact ⟨(sum_28), _, arr (upd_step (upd_step (upd_step (upd_step (upd_step (upd_step (upd_step rfl rfl) rfl) rfl) rfl) rfl) rfl) rfl), h⟩
              · refine wp_exit ?_
                exact ⟨(sum_28), _, arr (upd_step (upd_step (upd_step (upd_step rfl rfl) rfl) rfl) rfl), h⟩
          · refine wp_seq ?_
            refine wp_text [0, 1, 2] rfl ?_
            refine rv 56 rfl rfl rfl (q_fieldAddr (a := a17) (off := 0) rfl Tryz.underlying42 rfl rfl ok3 (by decide) rfl) ?_
            obtain ⟨x52, hx52, h⟩ := h
            refine rv 57 rfl rfl rfl (q_load (T := (tInt .i64)) (u := x52) (a := (a17.add 0)) rfl ok3 rfl hx52) ?_
            refine rv 58 rfl rfl rfl (q_eql (a := x52) (b := (0 : Int)) rfl rfl rfl) ?_
            refine ro_nil ?_
            refine wp_if (b := (x52 == (0 : Int))) rfl h (fun hb54 h => ?_) (fun hb54 h => ?_)
            · refine wp_text [0, 1, 2, 3, 4] rfl ?_
              refine rv 59 rfl rfl rfl (q_move (v := .int .i64 (sum_9)) rfl rfl) ?_
              refine rv 60 rfl rfl rfl (q_fieldAddr (a := a17) (off := 4) rfl Tryz.underlying42 rfl rfl ok2 (by decide) rfl) ?_
              obtain ⟨x53, hx53, h⟩ := h
              refine rv 61 rfl rfl rfl (q_load (T := (tInt .i64)) (u := x53) (a := (a17.add 4)) rfl ok2 rfl hx53) ?_
              refine rv 62 rfl rfl rfl (q_add (a := sum_9) (b := x53) rfl rfl rfl) ?_
              refine rv 7 rfl rfl rfl (q_assign (v := .int .i64 ((IntKind.i64.wrap (sum_9 + x53)))) rfl rfl) ?_
              refine ro_nil ?_
              exact ⟨((IntKind.i64.wrap (sum_9 + x53))), _, arr (upd_step (upd_step (upd_step (upd_step (upd_step (upd_step rfl rfl) rfl) rfl) rfl) rfl) rfl), h⟩
            · refine wp_skip ?_
              exact ⟨(sum_9), _, arr (upd_step (upd_step (upd_step (upd_step (upd_step (upd_step rfl rfl) rfl) rfl) rfl) rfl) rfl), h⟩
    · refine wp_exit ?_
      refine wp_seq ?_
      refine wp_seq ?_
      refine wp_text [0, 1, 2, 3] rfl ?_
      refine rv 114 rfl rfl rfl (q_move (v := .pointer (r4.1)) rfl rfl) ?_
      refine ro_wp rfl (.free rfl) (wp_cl (d := (some 115)) rfl (q_call (k := 17) (l := [.pointer (r4.1)]) rfl ent17 rfl) h ?_)
      intro r57 w56 h
      refine rv 116 rfl rfl rfl (q_len (s := r57) rfl Tryz.underlying50 rfl) ?_
      refine rv 117 rfl rfl rfl (q_move (v := .int .i64 ((0 : Int))) rfl rfl) ?_
      refine ro_nil ?_
      refine wp_block ?_
      refine loop_at (σ := Int) (fr := fun g (s : Int) => upd (upd (upd (upd (upd (g) 5 (.pointer (r4.1))) 7 (.int .i64 (sum_9))) 115 (tSlc.enc (r57))) 116 (.int .i64 ((r57.len : Int)))) 117 (.int .i64 (s))) (s0 := ((0 : Int))) (upd_step (upd_step (upd_step (upd_step (upd_step rfl rfl) rfl) rfl) rfl) rfl) h ?_
      rintro t_58 g w59 K60 h
      unfold F6_l6 at h
      refine wp_seq ?_
      refine wp_text [0] rfl ?_
      refine rv 118 rfl rfl rfl (q_lss (a := t_58) (b := (r57.len : Int)) rfl rfl rfl) ?_
      refine ro_nil ?_
      refine wp_seq ?_
      refine wp_if (b := (decide (t_58 < (r57.len : Int)))) rfl h (fun hb85 h => ?_) (fun hb85 h => ?_)
      · refine wp_skip ?_
        refine wp_seq ?_
        refine wp_block ?_
        refine wp_seq ?_
        refine wp_text [0, 1, 2, 3] rfl ?_
        obtain ⟨a61, ha61, h⟩ := h
        refine rv 119 rfl rfl rfl (q_indexAddr (s := r57) (k := .i64) (i := t_58) rfl Tryz.underlying50 ok55 rfl rfl ha61) ?_
        obtain ⟨x62, hx62, h⟩ := h
        refine rv 120 rfl rfl rfl (q_load (T := T54) (u := x62) (a := a61) rfl ok55 rfl hx62) ?_
        obtain ⟨a63, w64, ha63, hw64, h⟩ := nw_open h
        refine rv 14 rfl rfl rfl (q_alloc (u := Z54) rfl ok55 inf55 ha63 hw64) ?_
        obtain ⟨w65, hw65, hrw65, h⟩ := st_open h
        refine ro_skip (d := none) rfl (.free rfl) rfl (q_store (T := T54) (u := x62) (a := a63) rfl ok55 rfl rfl hrw65 hw65) ?_
        refine ro_nil ?_
        refine wp_seq ?_
        refine wp_text [0, 1, 2, 3, 4, 5] rfl ?_
        refine rv 121 rfl rfl rfl (q_move (v := .pointer (r4.1)) rfl rfl) ?_
        refine rv 122 rfl rfl rfl (q_fieldAddr (a := a63) (off := 0) rfl Tryz.underlying55 rfl rfl ok53 (by decide) rfl) ?_
        refine rv 123 rfl rfl rfl (q_fieldAddr (a := (a63.add 0)) (off := 0) rfl Tryz.underlying53 rfl rfl ok3 (by decide) rfl) ?_
        obtain ⟨x66, hx66, h⟩ := h
        refine rv 124 rfl rfl rfl (q_load (T := (tInt .i64)) (u := x66) (a := ((a63.add 0).add 0)) rfl ok3 rfl hx66) ?_
        refine ro_wp rfl (.free rfl) (wp_cl (d := (some 125)) rfl (q_call (k := 16) (l := [.pointer (r4.1), .int .i64 (x66)]) rfl ent16 rfl) h ?_)
        intro r68 w67 h
        refine rv 126 rfl rfl rfl (q_neq (a := r68) (b := (0 : Int)) rfl rfl rfl) ?_
        refine ro_nil ?_
        refine wp_if (b := (r68 != (0 : Int))) rfl h (fun hb69 h => ?_) (fun hb69 h => ?_)
        · refine wp_seq ?_
          refine wp_text [0] rfl ?_
          refine rv 4 rfl rfl rfl (q_assign (v := .bool (false)) rfl rfl) ?_
          refine ro_nil ?_
          refine wp_ret ?_
          exact ret_ok rfl (.cons (.tmp (v := .bool (false)) rfl) .nil) ⟨false, rfl, h⟩
        · refine wp_skip ?_
          refine wp_text [0, 1] rfl ?_
          refine rv 127 rfl rfl rfl (q_add (a := t_58) (b := (1 : Int)) rfl rfl rfl) ?_
          refine rv 117 rfl rfl rfl (q_move (v := .int .i64 ((IntKind.i64.wrap (t_58 + (1 : Int))))) rfl rfl) ?_
          refine ro_nil ?_
          exact ⟨((IntKind.i64.wrap (t_58 + (1 : Int)))), _, arr (upd_step (upd_step (upd_step (upd_step (upd_step rfl rfl) rfl) rfl) rfl) rfl), h⟩
      · refine wp_exit ?_
        refine wp_seq ?_
        refine wp_seq ?_
        refine wp_text [0, 1, 2] rfl ?_
        refine rv 128 rfl rfl rfl (q_move (v := .pointer (r4.1)) rfl rfl) ?_
        refine ro_wp rfl (.free rfl) (wp_cl (d := (some 129)) rfl (q_call (k := 19) (l := [.pointer (r4.1), .int .i64 ((1125899906842624 : Int))]) rfl ent19 rfl) h ?_)
        intro r71 w70 h
        refine rv 130 rfl rfl rfl (q_neq (a := r71) (b := (0 : Int)) rfl rfl rfl) ?_
        refine ro_nil ?_
        refine wp_if (b := (r71 != (0 : Int))) rfl h (fun hb84 h => ?_) (fun hb84 h => ?_)
        · refine wp_seq ?_
          refine wp_text [0] rfl ?_
          refine rv 4 rfl rfl rfl (q_assign (v := .bool (false)) rfl rfl) ?_
          refine ro_nil ?_
          refine wp_ret ?_
          exact ret_ok rfl (.cons (.tmp (v := .bool (false)) rfl) .nil) ⟨false, rfl, h⟩
        · refine wp_skip ?_
          refine wp_seq ?_
          refine wp_text [0, 1, 2, 3, 4, 5, 6] rfl ?_
          refine rv 132 rfl rfl rfl (q_move (v := .pointer (r4.1)) rfl rfl) ?_
          refine ro_wp rfl (.free rfl) (wp_cl (d := (some 133)) rfl (q_call (k := 10) (l := [.pointer (r4.1), .int .i64 ((1125899906842624 : Int))]) rfl ent10 rfl) h ?_)
          intro r73 w72 h
          refine rv 131 rfl rfl rfl (q_move (v := (tTup2 tSlc (tInt .i64)).enc (r73)) rfl rfl) ?_
          refine rv 134 rfl rfl rfl (q_extract (vs := #[tSlc.enc (r73.1), .int .i64 (r73.2)]) (v := tSlc.enc (r73.1)) rfl rfl rfl) ?_
          refine rv 135 rfl rfl rfl (q_extract (vs := #[tSlc.enc (r73.1), .int .i64 (r73.2)]) (v := .int .i64 (r73.2)) rfl rfl rfl) ?_
          refine rv 15 rfl rfl rfl (q_assign (v := tSlc.enc (r73.1)) rfl rfl) ?_
          refine rv 16 rfl rfl rfl (q_assign (v := .int .i64 (r73.2)) rfl rfl) ?_
          refine ro_nil ?_
          refine wp_seq ?_
          refine wp_text [0] rfl ?_
          refine rv 17 rfl rfl rfl (q_assign (v := .int .i64 ((0 : Int))) rfl rfl) ?_
          refine ro_nil ?_
          refine wp_seq ?_
          refine wp_seq ?_
          refine wp_text [0] rfl ?_
          refine rv 18 rfl rfl rfl (q_assign (v := .int .i64 ((0 : Int))) rfl rfl) ?_
          refine ro_nil ?_
          refine wp_block ?_
          refine loop_at (σ := Int × Int) (fr := fun g (s : Int × Int) => upd (upd (upd (upd (upd (g) 7 (.int .i64 (sum_9))) 15 (tSlc.enc (r73.1))) 16 (.int .i64 (r73.2))) 17 (.int .i64 (s.1))) 18 (.int .i64 (s.2))) (s0 := ((0 : Int), (0 : Int))) (upd_step (upd_step (upd_step (upd_step (upd_step rfl rfl) rfl) rfl) rfl) rfl) h ?_
          rintro ⟨n_74, i_75⟩ g w76 K77 h
          unfold F6_l7 at h
          refine wp_seq ?_
          refine wp_seq ?_
          refine wp_text [0, 1, 2, 3] rfl ?_
          refine rv 136 rfl rfl rfl (q_move (v := .int .i64 (i_75)) rfl rfl) ?_
          refine rv 137 rfl rfl rfl (q_move (v := tSlc.enc (r73.1)) rfl rfl) ?_
          refine rv 138 rfl rfl rfl (q_len (s := r73.1) rfl Tryz.underlying36 rfl) ?_
          refine rv 139 rfl rfl rfl (q_lss (a := i_75) (b := (r73.1.len : Int)) rfl rfl rfl) ?_
          refine ro_nil ?_
          refine wp_if (b := (decide (i_75 < (r73.1.len : Int)))) rfl h (fun hb83 h => ?_) (fun hb83 h => ?_)
          · refine wp_skip ?_
            refine wp_seq ?_
            refine wp_block ?_
            refine wp_seq ?_
            refine wp_seq ?_
            refine wp_text [0, 1, 2, 3, 4, 5] rfl ?_
            refine rv 142 rfl rfl rfl (q_move (v := tSlc.enc (r73.1)) rfl rfl) ?_
            refine rv 143 rfl rfl rfl (q_move (v := .int .i64 (i_75)) rfl rfl) ?_
            obtain ⟨a78, ha78, h⟩ := h
            refine rv 144 rfl rfl rfl (q_indexAddr (s := r73.1) (k := .i64) (i := i_75) rfl Tryz.underlying36 ok63 rfl rfl ha78) ?_
            refine rv 145 rfl rfl rfl (q_fieldAddr (a := a78) (off := 1) rfl Tryz.underlying63 rfl rfl ok2 (by decide) rfl) ?_
            obtain ⟨x79, hx79, h⟩ := h
            refine rv 146 rfl rfl rfl (q_load (T := (tInt .i64)) (u := x79) (a := (a78.add 1)) rfl ok2 rfl hx79) ?_
            refine rv 147 rfl rfl rfl (q_lss (a := x79) (b := (0 : Int)) rfl rfl rfl) ?_
            refine ro_nil ?_
            refine wp_if (b := (decide (x79 < (0 : Int)))) rfl h (fun hb82 h => ?_) (fun hb82 h => ?_)
            · refine wp_seq ?_
              refine wp_text [0] rfl ?_
              refine rv 4 rfl rfl rfl (q_assign (v := .bool (false)) rfl rfl) ?_
              refine ro_nil ?_
              refine wp_ret ?_
              exact ret_ok rfl (.cons (.tmp (v := .bool (false)) rfl) .nil) ⟨false, rfl, h⟩
            · refine wp_skip ?_
              refine wp_text [0, 1, 2, 3, 4, 5, 6, 7] rfl ?_
              refine rv 148 rfl rfl rfl (q_move (v := .int .i64 (n_74)) rfl rfl) ?_
              refine rv 149 rfl rfl rfl (q_move (v := tSlc.enc (r73.1)) rfl rfl) ?_
              refine rv 150 rfl rfl rfl (q_move (v := .int .i64 (i_75)) rfl rfl) ?_
              obtain ⟨a80, ha80, h⟩ := h
              refine rv 151 rfl rfl rfl (q_indexAddr (s := r73.1) (k := .i64) (i := i_75) rfl Tryz.underlying36 ok63 rfl rfl ha80) ?_
              refine rv 152 rfl rfl rfl (q_fieldAddr (a := a80) (off := 1) rfl Tryz.underlying63 rfl rfl ok2 (by decide) rfl) ?_
              obtain ⟨x81, hx81, h⟩ := h
              refine rv 153 rfl rfl rfl (q_load (T := (tInt .i64)) (u := x81) (a := (a80.add 1)) rfl ok2 rfl hx81) ?_
              refine rv 154 rfl rfl rfl (q_add (a := n_74) (b := x81) rfl rfl rfl) ?_
              refine rv 17 rfl rfl rfl (q_assign (v := .int .i64 ((IntKind.i64.wrap (n_74 + x81)))) rfl rfl) ?_
              refine ro_nil ?_
              refine wp_text [0, 1, 2] rfl ?_
              refine rv 140 rfl rfl rfl (q_move (v := .int .i64 (i_75)) rfl rfl) ?_
              refine rv 141 rfl rfl rfl (q_add (a := i_75) (b := (1 : Int)) rfl rfl rfl) ?_
              refine rv 18 rfl rfl rfl (q_assign (v := .int .i64 ((IntKind.i64.wrap (i_75 + (1 : Int))))) rfl rfl) ?_
              refine ro_nil ?_
              exact ⟨((IntKind.i64.wrap (n_74 + x81)), (IntKind.i64.wrap (i_75 + (1 : Int)))), _, arr (upd_step (upd_step (upd_step (upd_step (upd_step rfl rfl) rfl) rfl) rfl) rfl), h⟩
          · refine wp_exit ?_
            refine wp_seq ?_
            refine wp_text [0, 1, 2, 3, 4, 5, 6, 7] rfl ?_
            refine rv 155 rfl rfl rfl (q_move (v := .int .i64 (r73.2)) rfl rfl) ?_
            refine rv 156 rfl rfl rfl (q_eql (a := r73.2) (b := (0 : Int)) rfl rfl rfl) ?_
            refine rv 157 rfl rfl rfl (q_move (v := .bool ((r73.2 == (0 : Int)))) rfl rfl) ?_
            refine ro_gval (g := (r73.2 == (0 : Int))) (d := (some 158)) rfl (.yes 2 157 true (r73.2 == (0 : Int)) rfl rfl rfl rfl) rfl (fun hg => q_move (v := .int .i64 (n_74)) rfl rfl) ?_
            refine ro_gval (g := (r73.2 == (0 : Int))) (d := (some 159)) rfl (.yes 2 157 true (r73.2 == (0 : Int)) rfl rfl rfl rfl) rfl (fun hg => q_move (v := .int .i64 (sum_9)) rfl rfl) ?_
            refine ro_gval (g := (r73.2 == (0 : Int))) (d := (some 160)) rfl (.yes 2 157 true (r73.2 == (0 : Int)) rfl rfl rfl rfl) rfl (fun hg => q_eql (k := .i64) (a := n_74) (b := sum_9) rfl (gvb_yes hg) (gvb_yes hg)) ?_
            refine rv 161 rfl rfl rfl (q_pickGT (a := (r73.2 == (0 : Int))) (b := (n_74 == sum_9)) rfl rfl rfl rfl) ?_
            refine rv 4 rfl rfl rfl (q_assign (v := .bool (((r73.2 == (0 : Int)) && (n_74 == sum_9)))) rfl rfl) ?_
            refine ro_nil ?_
            refine wp_ret ?_
            exact ret_ok rfl (.cons (.tmp (v := .bool (((r73.2 == (0 : Int)) && (n_74 == sum_9)))) rfl) .nil) ⟨((r73.2 == (0 : Int)) && (n_74 == sum_9)), rfl, h⟩
end Go.Proofs.YtpdaapffkdejoaaGreat.Cf
