/- Values written one behind the other: contracts. -/
import Derived.Test.YtjkmeooncmhonaaXB
namespace Go.Proofs.Ytjkmeooncmhonaa.Wire
open Go Go.Proofs.Ytjkmeooncmhonaa.Cf
set_option linter.unusedVariables false
set_option linter.unusedSimpArgs false
set_option maxRecDepth 100000
def encs (vs : List Val) : List UInt8 := vs.flatMap enc1
def bad : List Val → Int
  | [] => 0
  | v :: vs => if okV v ≠ 0 then okV v else bad vs
def packE (vs : List Val) : Int := if 1000 < vs.length then 20 else bad vs
theorem encs_app (l m : List Val) : encs (l ++ m) = encs l ++ encs m := by simp [encs]
theorem encs_len : ∀ {vs : List Val}, (∀ v ∈ vs, In v) → (∀ v ∈ vs, okV v = 0) → (encs vs).length ≤ 1011 * vs.length
  | [], _, _ => by simp [encs]
  | v :: vs, hi, h => by
    have h1 := enc1_len (hi v (by simp)) (h v (by simp))
    have h2 := encs_len (vs := vs) (fun x hx => hi x (by simp [hx])) (fun x hx => h x (by simp [hx]))
    simp only [encs, List.flatMap_cons, List.length_append, List.length_cons] at *
    omega
theorem bad_app {l m : List Val} (h : ∀ v ∈ l, okV v = 0) : bad (l ++ m) = bad m := by
  induction l with
  | nil => rfl
  | cons v l ih =>
    have h1 := h v (by simp)
    simp only [List.cons_append, bad, h1]
    rw [if_neg (by simp)]
    exact ih fun x hx => h x (by simp [hx])
theorem bad_ok {vs : List Val} (h : bad vs = 0) : ∀ v ∈ vs, okV v = 0 := by
  induction vs with
  | nil => simp
  | cons v vs ih =>
    unfold bad at h
    split at h
    · rename_i h1; exact absurd h h1
    · rename_i h1
      intro x hx
      rcases List.mem_cons.1 hx with rfl | hx
      · exact Classical.not_not.1 h1
      · exact ih h x hx
theorem bad_of {vs : List Val} (h : ∀ v ∈ vs, okV v = 0) : bad vs = 0 := by
  have := bad_app (l := vs) (m := []) h
  rw [List.append_nil] at this
  exact this
theorem pack_ok {vs : List Val} (h : packE vs = 0) : vs.length ≤ 1000 ∧ ∀ v ∈ vs, okV v = 0 := by
  unfold packE at h
  split at h
  · simp at h
  · exact ⟨by omega, bad_ok h⟩
theorem fdiv_nat (n m : Nat) : Int.fdiv (n : Int) (2 ^ m) = ((n / 2 ^ m : Nat) : Int) := by
  rw [Int.fdiv_eq_ediv_of_nonneg _ (by exact_mod_cast Nat.zero_le _)]; push_cast; rfl
section
variable {W w : World} {l l' : List Assn}
theorem zig_put {x : Int} (h0 : -9223372036854775808 ≤ x) (h1 : x ≤ 9223372036854775807) :
    bits .xor .u64 (IntKind.u64.wrap ((IntKind.u64.wrap x) * 2 ^ (min ((1 : Int)).toNat IntKind.u64.bits))) (IntKind.u64.wrap (Int.fdiv x (2 ^ (min ((63 : Int)).toNat IntKind.i64.bits)))) = ((zig x : Nat) : Int) := by
  have m1 : min ((1 : Int)).toNat IntKind.u64.bits = 1 := rfl
  have m2 : min ((63 : Int)).toNat IntKind.i64.bits = 63 := rfl
  rw [m1, m2, Int.fdiv_eq_ediv_of_nonneg _ (by decide), wr_u64, wr_u64, wr_u64]
  unfold zig
  by_cases h : x < 0
  · rw [if_pos h]
    have e : x / 2 ^ 63 % 18446744073709551616 = 18446744073709551615 := by omega
    rw [e, xorm_u64 (by omega) (by omega)]
    omega
  · rw [if_neg h]
    have e : x / 2 ^ 63 % 18446744073709551616 = 0 := by omega
    rw [e, xor0_u64 (by omega) (by omega)]
    omega
theorem put_spec {v : Val} {s : Slc} {xs : List Int} (hI : In v) (hv : okV v = 0) (hb : xs.length ≤ 90000000) (i : Nat) (H : St W l w) (hi : front i l = row (tInt .u8) 5 1 s xs :: l') :
    cl Try.prog 53 [tSlc.enc s, TV.enc v] tSlc w fun r w' => St W (row (tInt .u8) 5 1 r (xs ++ B (enc1 v)) :: l') w' := by
  have H : St W (row (tInt .u8) 5 1 s xs :: l') w := hi ▸ H.front i
  clear hi
  have hk := okV_kind hv
  have hk1 : 1 ≤ v.Kind ∧ v.Kind ≤ 4 := by omega
  refine F53_ok ?_
  unfold F53
  refine nw_st H fun b w H => ?_
  refine ld_st (x := v.Kind) 0 H rfl rfl rfl ?_
  have e0 : IntKind.u8.wrap v.Kind = ((UInt8.ofNat v.Kind.toNat).toNat : Int) := u8w (by omega)
  rw [e0]
  refine apl_row (fun _ => rfl) 1 H rfl (by simp; omega) fun r w H => ?_
  refine ld_st (x := v.Kind) 1 H rfl rfl rfl ?_
  have H1 : St W (row (tInt .u8) 5 1 r (xs ++ B [UInt8.ofNat v.Kind.toNat]) :: cel b (TV.cells v) 91 :: l') w := H
  clear H e0
  have hfin : ∀ (q : Slc) (w : World) (ys : List UInt8), enc1 v = UInt8.ofNat v.Kind.toNat :: ys → ∀ {l : List Assn}, St W (row (tInt .u8) 5 1 q (xs ++ B [UInt8.ofNat v.Kind.toNat] ++ B ys) :: l) w → St W (row (tInt .u8) 5 1 q (xs ++ B (enc1 v)) :: l) w := by
    intro q w ys he l H
    rw [he]
    rw [List.append_assoc, ← B_app] at H
    exact H
  have hxl : (xs ++ B [UInt8.ofNat v.Kind.toNat]).length ≤ 100000000 := by simp [B_len]; omega
  split
  · rename_i h
    have h : v.Kind = 1 := by simpa using h
    refine ld_st (x := v.U) 1 H1 rfl rfl rfl ?_
    have e : v.U = ((v.U.toNat : Nat) : Int) := by have := hI.u0; omega
    rw [e]
    refine cl_mono (num_spec (by have := hI.u1; omega) hxl 0 H1 rfl) ?_
    intro q w H
    exact hfin q w (num v.U.toNat) (by simp [enc1, h]) (H.front 1).drop |> fun H => H
  · rename_i h
    have h1 : ¬ v.Kind = 1 := by simpa using h
    split
    · rename_i h
      have h : v.Kind = 2 := by simpa using h
      refine ld_st (x := v.I) 1 H1 rfl rfl rfl ?_
      refine shift_i (by omega) ?_
      refine ld_st (x := v.I) 1 H1 rfl rfl rfl ?_
      refine shift_i (by omega) ?_
      rw [zig_put hI.i0 hI.i1]
      refine cl_mono (num_spec (zig_lt hI.i0 hI.i1) hxl 0 H1 rfl) ?_
      intro q w H
      have H := hfin q w (num (zig v.I)) (by simp [enc1, h]) H
      exact ((H.front 1).drop)
    · rename_i h
      have h2 : ¬ v.Kind = 2 := by simpa using h
      split
      · rename_i h
        have h : v.Kind = 3 := by simpa using h
        refine ld_st (x := v.F) 1 H1 rfl rfl rfl ?_
        refine cl_mono (bits_spec H1) ?_
        rintro q w ⟨rfl, H⟩
        have hn : fb v.F < 18446744073709551616 := fb_lt hI.f
        have hfin2 : ∀ (q : Slc) (w : World) {l : List Assn}, St W (row (tInt .u8) 5 1 q (xs ++ B [UInt8.ofNat v.Kind.toNat] ++ B (be 8 (fb v.F))) :: l) w → St W (row (tInt .u8) 5 1 q (xs ++ B (enc1 v)) :: l) w := fun q w => hfin q w (be 8 (fb v.F)) (by simp [enc1, h])
        clear hfin H1
        generalize fb v.F = n at hn hfin2
        refine lp_p (fun p w => ∃ (j : Nat) (ys : List UInt8), j ≤ 8 ∧ p.2 = 56 - 8 * (j : Int) ∧ ys.length = j ∧ be 8 n = ys ++ be (8 - j) n ∧ St W (row (tInt .u8) 5 1 p.1 (xs ++ B [UInt8.ofNat v.Kind.toNat] ++ B ys) :: cel b (TV.cells v) 91 :: l') w) (fun p => (p.2 + 8).toNat)
          ⟨0, [], by omega, by omega, rfl, rfl, by simpa [B] using H⟩ ?_
        clear H
        rintro ⟨q, i⟩ w ⟨j, ys, hj, hi, hyl, he, H⟩ K hK
        simp only at hi H
        subst hi
        unfold F53_l1
        split
        · rename_i hc
          have hc : j ≤ 7 := by simp at hc; omega
          refine shift_i (by rw [wr_u64]; omega) ?_
          have m1 : min (IntKind.u64.wrap (56 - 8 * (j : Int))).toNat IntKind.u64.bits = 8 * (7 - j) := by
            have : IntKind.u64.bits = 64 := rfl
            rw [wr_u64, this]; omega
          have p1 : (2 : Nat) ^ (8 * (7 - j)) = 256 ^ (7 - j) := by rw [Nat.pow_mul]
          have e1 : IntKind.u8.wrap (Int.fdiv (n : Int) (2 ^ (min (IntKind.u64.wrap (56 - 8 * (j : Int))).toNat IntKind.u64.bits))) = ((UInt8.ofNat (n / 256 ^ (7 - j) % 256)).toNat : Int) := by
            rw [m1, fdiv_nat, p1, wr_u8]; simp
          rw [e1]
          refine apl_row (fun _ => rfl) 0 H rfl (by simp [B_len]; omega) fun r w H => ?_
          refine hK _ _ ⟨j + 1, ys ++ [UInt8.ofNat (n / 256 ^ (7 - j) % 256)], by omega, by simp only; rw [wr_i64]; omega, by simp [hyl], ?_, ?_⟩ (by simp only; rw [wr_i64]; omega)
          · rw [he, show 8 - j = (7 - j) + 1 from by omega, show 8 - (j + 1) = 7 - j from by omega]
            simp [be]
          · rw [B_app, ← List.append_assoc]; exact H
        · rename_i hc
          have hc : j = 8 := by simp at hc; omega
          subst hc
          have e : be 8 n = ys := by rw [he]; simp [be]
          rw [← e] at H
          have H := hfin2 q w H
          exact ((H.front 1).drop)
      · rename_i h
        have h3 : ¬ v.Kind = 3 := by simpa using h
        have h4 : v.Kind = 4 := by omega
        have hl : v.S.length ≤ 1000 := by
          rcases hk with h | h | h | h
          · exact absurd h.1 h1
          · exact absurd h.1 h2
          · exact absurd h.1 h3
          · exact h.2.2.2.2
        refine dr_st H1 fun w H => ?_
        refine ld_st (x := v.S) 1 H rfl rfl rfl ?_
        refine ld_st (x := v.S) 1 H rfl rfl rfl ?_
        have e : IntKind.u64.wrap (v.S.length : Int) = ((v.S.length : Nat) : Int) := by rw [wr_u64]; omega
        rw [e]
        refine cl_mono (num_spec (by omega) hxl 0 H rfl) ?_
        intro q w H
        refine ⟨rdat_cel tStr (H.front 1) rfl rfl, rdat_cel tStr (H.front 1) rfl rfl, ?_⟩
        have hn := num_len0 (n := v.S.length) (by omega)
        refine apS_row 0 H rfl (by simp [B_len]; omega) fun q w H => ?_
        refine ⟨rdat_cel tStr (H.front 1) rfl rfl, ?_⟩
        rw [List.append_assoc, ← B_app] at H
        have H := hfin q w (num v.S.length ++ v.S) (by simp [enc1, h4]) H
        exact ((H.front 1).drop)
theorem pack_spec {s : Slc} {vs : List Val} (hI : ∀ v ∈ vs, In v) (hn : vs.length ≤ 9000000000) (k : See 5 l TV s vs) (H : St W l w) :
    cl Try.prog 40 [tSlc.enc s] (tTup2 tSlc (tInt .i64)) w fun r w' => r.2 = packE vs ∧ (packE vs = 0 → St W (row (tInt .u8) 5 1 r.1 (B (encs vs)) :: l) w') ∧ (packE vs ≠ 0 → r.1 = nilS) ∧ St W l w' := by
  have hs := k.len H
  refine F40_ok ?_
  unfold F40
  rw [hs]
  split
  · rename_i hc
    have hc : 1000 < vs.length := by simp at hc; omega
    have e : packE vs = 20 := if_pos hc
    refine ⟨e.symm, ?_, fun _ => rfl, H⟩
    intro h; rw [e] at h; cases h
  · rename_i hc
    have hc : vs.length ≤ 1000 := by simp at hc; omega
    have e : packE vs = bad vs := if_neg (by omega)
    rw [e]
    refine lp_p (fun p w => 0 ≤ p.2 ∧ p.2 ≤ vs.length ∧ (∀ v ∈ vs.take p.2.toNat, okV v = 0) ∧ St W (row (tInt .u8) 5 1 p.1 (B (encs (vs.take p.2.toNat))) :: l) w) (fun p => (vs.length - p.2).toNat)
      ⟨Int.le_refl 0, by simp only; omega, by simp, row_nil (tInt .u8) 5 1 H⟩ ?_
    clear H
    rintro ⟨b, i⟩ w ⟨h0, h1, hok, H⟩ K hK
    simp only at h0 h1 hok H
    unfold F40_l1
    rw [hs]
    split
    · rename_i hi
      have hi : i < vs.length := by simpa using hi
      have hx : vs[i.toNat]? = some vs[i.toNat] := List.getElem?_eq_getElem (by omega)
      have hm : vs[i.toNat] ∈ vs := List.getElem_mem _
      have ht : vs.take (i.toNat + 1) = vs.take i.toNat ++ [vs[i.toNat]] := by rw [List.take_succ_eq_append_getElem (by omega)]
      have hd : vs = vs.take i.toNat ++ vs[i.toNat] :: vs.drop (i.toNat + 1) := by
        conv => lhs; rw [← List.take_append_drop i.toNat vs]
        rw [List.drop_eq_getElem_cons (by omega)]
      have hbd : okV vs[i.toNat] ≠ 0 → bad vs = okV vs[i.toNat] := by
        intro h
        have hd2 := congrArg bad hd
        rw [hd2, bad_app hok]
        simp only [bad]
        exact if_pos h
      generalize vs[i.toNat] = v at hx hm ht hbd
      have hel := encs_len (vs := vs.take i.toNat) (fun x hx => hI x (List.mem_of_mem_take hx)) hok
      rw [List.length_take] at hel
      obtain ⟨a, ha⟩ := k.tail.ix (i := i) H h0 hi
      refine ex_i a ha ?_
      refine ex_i v (k.tail.rd ha hx H) ?_
      refine nw_st H fun b8 w H => ?_
      refine vst_st (x := Z90) (y := v) lenV 0 H rfl fun w H => ?_
      refine vld_st (x := v) 0 H rfl ?_
      refine cl_mono (valid_spec H) ?_
      rintro r w ⟨rfl, H⟩
      split
      · rename_i hne
        have hne : okV v ≠ 0 := by simpa using hne
        have hb := hbd hne
        exact ⟨hb.symm, fun h => absurd (hb ▸ h) hne, fun _ => rfl, H.drop.drop⟩
      · rename_i hne
        have hv : okV v = 0 := by simpa using hne
        refine vld_st (x := v) 0 H rfl ?_
        refine cl_mono (put_spec (hI v hm) hv (by rw [B_len]; omega) 1 H rfl) ?_
        intro q w H
        have e1 : IntKind.i64.wrap (i + 1) = i + 1 := wrap_i64 (by omega) (by omega)
        rw [e1]
        have e2 : (i + 1).toNat = i.toNat + 1 := by omega
        refine hK _ _ ⟨by simp only; omega, by simp only; omega, ?_, ?_⟩ (by simp only; omega)
        · simp only [e2, ht]
          intro x hx
          rcases List.mem_append.1 hx with hx | hx
          · exact hok x hx
          · rw [List.mem_singleton.1 hx]; exact hv
        · simp only [e2, ht]
          rw [encs_app, B_app]
          have e3 : encs [v] = enc1 v := by simp [encs]
          rw [e3]
          exact ((H.front 1).drop)
    · rename_i hi
      have hi : i = vs.length := by simp at hi; omega
      subst hi
      have e3 : vs.take ((vs.length : Int)).toNat = vs := by simp
      rw [e3] at hok H
      have hb := bad_of hok
      exact ⟨hb.symm, fun _ => H, fun h => absurd hb h, H.drop⟩
end
end Go.Proofs.Ytjkmeooncmhonaa.Wire
