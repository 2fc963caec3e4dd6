/- The document's writers; values compared; lists that aren't too long: contracts. -/
import Derived.Test.YtjhenlajkhckfaaWC
namespace Go.Proofs.Ytjhenlajkhckfaa.Wire
open Go Go.Proofs.Ytjhenlajkhckfaa.Cf
set_option linter.unusedVariables false
set_option linter.unusedSimpArgs false
set_option maxRecDepth 100000
def same (a b : Val) : Bool := (((a.Kind == b.Kind && a.U == b.U) && a.I == b.I) && a.S == b.S) && (fb a.F == fb b.F)
instance : BEq Val := ⟨fun a b => decide (a.Kind = b.Kind ∧ a.U = b.U ∧ a.I = b.I ∧ a.F = b.F ∧ a.S = b.S)⟩
instance : LawfulBEq Val where
  eq_of_beq {a b} h := by
    have h : decide (a.Kind = b.Kind ∧ a.U = b.U ∧ a.I = b.I ∧ a.F = b.F ∧ a.S = b.S) = true := h
    obtain ⟨h1, h2, h3, h4, h5⟩ := of_decide_eq_true h
    cases a; cases b; simp_all
  rfl {a} := by
    show decide (a.Kind = a.Kind ∧ a.U = a.U ∧ a.I = a.I ∧ a.F = a.F ∧ a.S = a.S) = true
    simp
def all (l m : List Val) : Bool := l.map canon == m.map canon
theorem same_iff {a b : Val} : same a b = true ↔ canon a = canon b := by
  unfold same canon
  constructor
  · intro h
    simp only [Bool.and_eq_true, beq_iff_eq] at h
    obtain ⟨⟨⟨⟨h1, h2⟩, h3⟩, h4⟩, h5⟩ := h
    simp only [h1, h2, h3, h4, h5]
  · intro h
    have h1 := congrArg S35.Kind h
    have h2 := congrArg S35.U h
    have h3 := congrArg S35.I h
    have h4 := congrArg S35.S h
    have h5 := congrArg S35.F h
    simp only at h1 h2 h3 h4 h5
    simp [h1, h2, h3, h4, h5]
section
variable {W w : World} {l l' : List Assn}
theorem rbits2_spec {f : Nat} (H : St W l w) : cl Try.prog 26 [.float .f64 f] (tInt .u64) w fun r w' => r = (fb f : Nat) ∧ St W l w' := rbits_spec H
theorem eight_spec {n : Nat} (hn : n < 18446744073709551616) (H : St W l w) : cl Try.prog 30 [.int .u64 n] tStr w fun r w' => r = be 8 n ∧ St W l w' := by
  refine F30_ok ?_
  unfold F30
  refine lp_p (fun p w => ∃ j : Nat, j ≤ 8 ∧ p.2.2 = (j : Int) ∧ p.1 = ((n / 256 ^ j : Nat) : Int) ∧ p.2.1 = be j n ∧ St W l w) (fun p => (8 - p.2.2).toNat) ⟨0, by omega, rfl, by simp, rfl, H⟩ ?_
  clear H
  rintro ⟨m, s, i⟩ w ⟨j, hj, hi, hm, hs, H⟩ K hK
  simp only at hi hm hs
  subst hi; subst hm; subst hs
  unfold F30_l1
  have hle : n / 256 ^ j ≤ n := Nat.div_le_self _ _
  split
  · rename_i hc
    have hc : j < 8 := by simp at hc; omega
    have e1 : ∀ q : Nat, Int.tmod (q : Int) 256 = ((q % 256 : Nat) : Int) := fun q => by rw [Int.tmod_eq_emod_of_nonneg (by omega)]; omega
    have e2 : ∀ q : Nat, Int.tdiv (q : Int) 256 = ((q / 256 : Nat) : Int) := fun q => by rw [Int.tdiv_eq_ediv_of_nonneg (by omega)]; omega
    have e3 : n / 256 ^ (j + 1) = n / 256 ^ j / 256 := by rw [Nat.pow_succ, Nat.div_div_eq_div_mul]
    have e4 : be (j + 1) n = UInt8.ofNat (n / 256 ^ j % 256) :: be j n := rfl
    rw [e1, e2]
    refine nwS_st H fun b w H => ?_
    have H := row_new (sz := 1) (m := 1) rfl H
    rw [u8w rfl] at H
    refine b2s_st (r := [UInt8.ofNat (n / 256 ^ j % 256)]) (RdO_row H) ?_
    refine cat_i (by simp [be_len]; omega) ?_
    refine hK _ _ ⟨j + 1, by omega, by simp only; rw [wr_i64]; omega, ?_, rfl, H.drop⟩ (by simp only; rw [wr_i64]; omega)
    simp only
    rw [e3, wr_u64]
    generalize n / 256 ^ j = q at hle
    omega
  · rename_i hc
    have hc : j = 8 := by simp at hc; omega
    subst hc
    exact ⟨rfl, H⟩
theorem one_spec {v : Val} (hI : In v) (hv : okV v = 0) (H : St W l w) : cl Try.prog 21 [TV.enc v] tStr w fun r w' => r = enc1 v ∧ St W l w' := by
  have hk := okV_kind hv
  refine F21_ok ?_
  unfold F21
  refine nw_st H fun b w H => ?_
  refine ld_st (x := v.Kind) 0 H rfl rfl rfl ?_
  refine nwS_st H fun b5 w H => ?_
  have H := row_new (sz := 1) (m := 1) rfl H
  have e0 : IntKind.u8.wrap v.Kind = ((UInt8.ofNat v.Kind.toNat).toNat : Int) := u8w (by omega)
  rw [e0] at H
  refine b2s_st (r := [UInt8.ofNat v.Kind.toNat]) (RdO_row H) ?_
  have H := H.drop
  refine ld_st (x := v.Kind) 0 H rfl rfl rfl ?_
  split
  · rename_i h
    have h : v.Kind = 1 := by simpa using h
    refine ld_st (x := v.U) 0 H rfl rfl rfl ?_
    have e : v.U = ((v.U.toNat : Nat) : Int) := by have := hI.u0; omega
    have hu : v.U.toNat < 18446744073709551616 := by have := hI.u1; have := hI.u0; omega
    have hl := num_len0 hu
    rw [e]
    refine cl_mono (rnum_spec hu H) ?_
    rintro r w ⟨rfl, H⟩
    refine cat_i (by simp; omega) ?_
    exact ⟨by simp [enc1, h], H.drop⟩
  · rename_i h
    have h1 : ¬ v.Kind = 1 := by simpa using h
    split
    · rename_i h
      have h : v.Kind = 2 := by simpa using h
      have i0 := hI.i0
      have i1 := hI.i1
      have hz := zig_lt i0 i1
      have hl := num_len0 hz
      refine ld_st (x := v.I) 0 H rfl rfl rfl ?_
      split
      · rename_i hc
        have hc : v.I < 0 := by simpa using hc
        refine ld_st (x := v.I) 0 H rfl rfl rfl ?_
        have e : IntKind.u64.wrap (IntKind.u64.wrap (2 * IntKind.u64.wrap (IntKind.i64.wrap (0 - IntKind.i64.wrap (v.I + 1)))) + 1) = ((zig v.I : Nat) : Int) := by
          have e1 : IntKind.i64.wrap (v.I + 1) = v.I + 1 := wrap_i64 (by omega) (by omega)
          have e2 : IntKind.i64.wrap (0 - (v.I + 1)) = 0 - (v.I + 1) := wrap_i64 (by omega) (by omega)
          rw [e1, e2, wr_u64, wr_u64, wr_u64]
          unfold zig
          rw [if_pos hc]; omega
        rw [e]
        refine cl_mono (rnum_spec hz H) ?_
        rintro r w ⟨rfl, H⟩
        refine cat_i (by simp; omega) ?_
        exact ⟨by simp [enc1, h], H.drop⟩
      · rename_i hc
        have hc : ¬ v.I < 0 := by simpa using hc
        refine ld_st (x := v.I) 0 H rfl rfl rfl ?_
        have e : IntKind.u64.wrap (2 * IntKind.u64.wrap v.I) = ((zig v.I : Nat) : Int) := by
          rw [wr_u64, wr_u64]
          unfold zig
          rw [if_neg hc]; omega
        rw [e]
        refine cl_mono (rnum_spec hz H) ?_
        rintro r w ⟨rfl, H⟩
        refine cat_i (by simp; omega) ?_
        exact ⟨by simp [enc1, h], H.drop⟩
    · rename_i h
      have h2 : ¬ v.Kind = 2 := by simpa using h
      split
      · rename_i h
        have h : v.Kind = 3 := by simpa using h
        refine ld_st (x := v.F) 0 H rfl rfl rfl ?_
        refine cl_mono (rbits_spec H) ?_
        rintro r w ⟨rfl, H⟩
        refine cl_mono (eight_spec (fb_lt hI.f) H) ?_
        rintro r w ⟨rfl, H⟩
        refine cat_i (by simp [be_len]) ?_
        exact ⟨by simp [enc1, h], H.drop⟩
      · rename_i h
        have h3 : ¬ v.Kind = 3 := by simpa using h
        have h4 : v.Kind = 4 := by omega
        have hl : v.S.length ≤ 1000 := by
          rcases hk with h | h | h | h
          · exact absurd h.1 h1
          · exact absurd h.1 h2
          · exact absurd h.1 h3
          · exact h.2.2.2.2
        refine dr_st H fun w H => ?_
        refine ld_st (x := v.S) 0 H rfl rfl rfl ?_
        refine ld_st (x := v.S) 0 H rfl rfl rfl ?_
        have e : IntKind.u64.wrap (v.S.length : Int) = ((v.S.length : Nat) : Int) := by rw [wr_u64]; omega
        rw [e]
        have hn := num_len0 (n := v.S.length) (by omega)
        refine cl_mono (rnum_spec (by omega) H) ?_
        rintro r w ⟨rfl, H⟩
        refine ⟨rdat_cel tStr H rfl rfl, rdat_cel tStr H rfl rfl, ?_⟩
        refine cat_i (by simp; omega) ?_
        refine cat_i (by simp; omega) ?_
        exact ⟨by simp [enc1, h4], H.drop⟩
theorem rpack_spec {s : Slc} {vs : List Val} (hI : ∀ v ∈ vs, In v) (hn : vs.length ≤ 9000000000) (k : See 5 l TV s vs) (H : St W l w) :
    cl Try.prog 14 [tSlc.enc s] (tTup2 tStr (tInt .i64)) w fun r w' => r.2 = packE vs ∧ r.1 = (if packE vs = 0 then encs vs else []) ∧ St W l w' := by
  have hs := k.len H
  refine F14_ok ?_
  unfold F14
  rw [hs]
  split
  · rename_i hc
    have hc : 1000 < vs.length := by simp at hc; omega
    have e : packE vs = 20 := if_pos hc
    exact ⟨e.symm, by rw [e]; rfl, H⟩
  · rename_i hc
    have hc : vs.length ≤ 1000 := by simp at hc; omega
    have e : packE vs = bad vs := if_neg (by omega)
    rw [e]
    refine lp_p (fun p w => 0 ≤ p.2 ∧ p.2 ≤ vs.length ∧ (∀ v ∈ vs.take p.2.toNat, okV v = 0) ∧ p.1 = encs (vs.take p.2.toNat) ∧ St W l w) (fun p => (vs.length - p.2).toNat)
      ⟨Int.le_refl 0, by simp only; omega, by simp, by simp [encs], H⟩ ?_
    clear H
    rintro ⟨b, i⟩ w ⟨h0, h1, hok, hb0, H⟩ K hK
    simp only at h0 h1 hok hb0
    subst hb0
    unfold F14_l1
    rw [hs]
    split
    · rename_i hi
      have hi : i < vs.length := by simpa using hi
      have hx : vs[i.toNat]? = some vs[i.toNat] := List.getElem?_eq_getElem (by omega)
      have hm : vs[i.toNat] ∈ vs := List.getElem_mem _
      have ht : vs.take (i.toNat + 1) = vs.take i.toNat ++ [vs[i.toNat]] := by rw [List.take_succ_eq_append_getElem (by omega)]
      have hd : vs = vs.take i.toNat ++ vs[i.toNat] :: vs.drop (i.toNat + 1) := by
        conv => lhs; rw [← List.take_append_drop i.toNat vs]
        rw [List.drop_eq_getElem_cons (by omega)]
      have hbd : okV vs[i.toNat] ≠ 0 → bad vs = okV vs[i.toNat] := by
        intro h
        have hd2 := congrArg bad hd
        rw [hd2, bad_app hok]
        simp only [bad]
        exact if_pos h
      generalize vs[i.toNat] = v at hx hm ht hbd
      have hel := encs_len (vs := vs.take i.toNat) (fun x hx => hI x (List.mem_of_mem_take hx)) hok
      rw [List.length_take] at hel
      obtain ⟨a, ha⟩ := k.ix (i := i) H h0 hi
      refine ex_i a ha ?_
      refine ex_i v (k.rd ha hx H) ?_
      refine cl_mono (rvalid_spec H) ?_
      rintro r w ⟨rfl, H⟩
      split
      · rename_i hne
        have hne : okV v ≠ 0 := by simpa using hne
        have hb := hbd hne
        refine ⟨hb.symm, ?_, H⟩
        rw [hb, if_neg hne]
      · rename_i hne
        have hv : okV v = 0 := by simpa using hne
        refine ex_i a ha ?_
        refine ex_i v (k.rd ha hx H) ?_
        refine cl_mono (one_spec (hI v hm) hv H) ?_
        rintro q w ⟨rfl, H⟩
        have hle := enc1_len (hI v hm) hv
        refine cat_i (by simp only; omega) ?_
        have e1 : IntKind.i64.wrap (i + 1) = i + 1 := wrap_i64 (by omega) (by omega)
        rw [e1]
        have e2 : (i + 1).toNat = i.toNat + 1 := by omega
        refine hK _ _ ⟨by simp only; omega, by simp only; omega, ?_, ?_, H⟩ (by simp only; omega)
        · simp only [e2, ht]
          intro x hx
          rcases List.mem_append.1 hx with hx | hx
          · exact hok x hx
          · rw [List.mem_singleton.1 hx]; exact hv
        · simp only [e2, ht]
          rw [encs_app]
          simp [encs]
    · rename_i hi
      have hi : i = vs.length := by simp at hi; omega
      subst hi
      have e3 : vs.take ((vs.length : Int)).toNat = vs := by simp
      rw [e3] at hok ⊢
      have hb := bad_of hok
      exact ⟨hb.symm, by rw [hb, if_pos rfl], H⟩
theorem same_spec {a b : Val} (H : St W l w) : cl Try.prog 19 [TV.enc a, TV.enc b] tBool w fun r w' => r = same a b ∧ St W l w' := by
  refine F19_ok ?_
  unfold F19 F19_j1
  refine nw_st H fun b3 w H => ?_
  refine nw_st H fun b5 w H => ?_
  refine dr_st H fun w H => ?_
  have r0 : ∀ {w : World}, St W (cel b5 (TV.cells b) 36 :: cel b3 (TV.cells a) 36 :: l) w → RdAt (tInt .i64) ((⟨b3, 0, none⟩ : Addr).add 0) w a.Kind ∧ RdAt (tInt .i64) ((⟨b5, 0, none⟩ : Addr).add 0) w b.Kind ∧ RdAt (tInt .u64) ((⟨b3, 0, none⟩ : Addr).add 1) w a.U ∧ RdAt (tInt .u64) ((⟨b5, 0, none⟩ : Addr).add 1) w b.U ∧ RdAt (tInt .i64) ((⟨b3, 0, none⟩ : Addr).add 2) w a.I ∧ RdAt (tInt .i64) ((⟨b5, 0, none⟩ : Addr).add 2) w b.I ∧ RdAt tStr ((⟨b3, 0, none⟩ : Addr).add 4) w a.S ∧ RdAt tStr ((⟨b5, 0, none⟩ : Addr).add 4) w b.S ∧ RdAt tFlt ((⟨b3, 0, none⟩ : Addr).add 3) w a.F ∧ RdAt tFlt ((⟨b5, 0, none⟩ : Addr).add 3) w b.F := fun H =>
    ⟨rdat_cel (tInt .i64) (H.front 1) rfl rfl, rdat_cel (tInt .i64) H rfl rfl, rdat_cel (tInt .u64) (H.front 1) rfl rfl, rdat_cel (tInt .u64) H rfl rfl, rdat_cel (tInt .i64) (H.front 1) rfl rfl, rdat_cel (tInt .i64) H rfl rfl,
      rdat_cel tStr (H.front 1) rfl rfl, rdat_cel tStr H rfl rfl, rdat_cel tFlt (H.front 1) rfl rfl, rdat_cel tFlt H rfl rfl⟩
  obtain ⟨q1, q2, q3, q4, q5, q6, q7, q8, q9, q10⟩ := r0 H
  refine ex_i a.Kind q1 ?_
  refine ex_i b.Kind q2 ?_
  refine ex_i a.U (fun _ => q3) ?_
  refine ex_i b.U (fun _ => q4) ?_
  refine ex_i a.I (fun _ => q5) ?_
  refine ex_i b.I (fun _ => q6) ?_
  refine ex_i a.S (fun _ => q7) ?_
  refine ex_i b.S (fun _ => q8) ?_
  unfold same
  split
  · rename_i h
    rw [h]
    refine ex_i a.F q9 ?_
    refine ex_i b.F q10 ?_
    clear q1 q2 q3 q4 q5 q6 q7 q8 q9 q10
    refine cl_mono (rbits_spec H) ?_
    rintro r w ⟨rfl, H⟩
    obtain ⟨q1, q2, q3, q4, q5, q6, q7, q8, q9, q10⟩ := r0 H
    refine ⟨q1, q2, fun _ => q3, fun _ => q4, fun _ => q5, fun _ => q6, fun _ => q7, fun _ => q8, q10, ?_⟩
    clear q1 q2 q3 q4 q5 q6 q7 q8 q9 q10
    refine cl_mono (rbits_spec H) ?_
    rintro r w ⟨rfl, H⟩
    obtain ⟨q1, q2, q3, q4, q5, q6, q7, q8, q9, q10⟩ := r0 H
    refine ⟨q1, q2, fun _ => q3, fun _ => q4, fun _ => q5, fun _ => q6, fun _ => q7, fun _ => q8, q9, ?_⟩
    refine ⟨?_, H.drop.drop⟩
    rw [Bool.true_and, Bool.eq_iff_iff, beq_iff_eq, beq_iff_eq]
    omega
  · rename_i h
    have h : (((a.Kind == b.Kind && a.U == b.U) && a.I == b.I) && a.S == b.S) = false := by simpa using h
    rw [h]
    exact ⟨rfl, H.drop.drop⟩
theorem all_spec {s t : Slc} {us vs : List Val} (hn : us.length ≤ 9000000000) (k1 : See 5 l TV s us) (k2 : See 5 l TV t vs) (H : St W l w) :
    cl Try.prog 15 [tSlc.enc s, tSlc.enc t] tBool w fun r w' => r = all us vs ∧ St W l w' := by
  have h1 := k1.len H
  have h2 := k2.len H
  refine F15_ok ?_
  unfold F15
  rw [h1, h2]
  split
  · rename_i hc
    refine ⟨?_, H⟩
    symm
    unfold all
    rw [beq_eq_false_iff_ne]
    intro e
    have := congrArg List.length e
    simp at this hc
    omega
  · rename_i hc
    have hc : us.length = vs.length := by simp at hc; omega
    refine lp_p (fun i w => 0 ≤ i ∧ i ≤ us.length ∧ (us.take i.toNat).map canon = (vs.take i.toNat).map canon ∧ St W l w) (fun i => (us.length - i).toNat) ⟨Int.le_refl 0, by omega, by simp, H⟩ ?_
    clear H
    rintro i w ⟨i0, i1, he, H⟩ K hK
    unfold F15_l1
    rw [h1]
    split
    · rename_i hi
      have hi : i < us.length := by simpa using hi
      have hx : us[i.toNat]? = some us[i.toNat] := List.getElem?_eq_getElem (by omega)
      have hy : vs[i.toNat]? = some vs[i.toNat] := List.getElem?_eq_getElem (by omega)
      have tx : us.take (i.toNat + 1) = us.take i.toNat ++ [us[i.toNat]] := by rw [List.take_succ_eq_append_getElem (by omega)]
      have ty : vs.take (i.toNat + 1) = vs.take i.toNat ++ [vs[i.toNat]] := by rw [List.take_succ_eq_append_getElem (by omega)]
      generalize us[i.toNat] = u at hx tx
      generalize vs[i.toNat] = v at hy ty
      refine dr_st H fun w H => ?_
      obtain ⟨a, ha⟩ := k1.ix (i := i) H i0 hi
      obtain ⟨b, hb⟩ := k2.ix (i := i) H i0 (by omega)
      refine ex_i a ha ?_
      refine ex_i b hb ?_
      refine ex_i u (k1.rd ha hx H) ?_
      refine ex_i v (k2.rd hb hy H) ?_
      refine cl_mono (same_spec H) ?_
      rintro r w ⟨rfl, H⟩
      split
      · rename_i hn
        have hn : ¬ canon u = canon v := by
          intro e
          have := same_iff.2 e
          rw [this] at hn; simp at hn
        refine ⟨?_, H⟩
        symm
        unfold all
        rw [beq_eq_false_iff_ne]
        intro e
        have e1 := congrArg (fun l => l[i.toNat]?) e
        simp only [List.getElem?_map, hx, hy, Option.map_some, Option.some.injEq] at e1
        exact hn e1
      · rename_i hn
        have hn : canon u = canon v := same_iff.1 (by simpa using hn)
        have e1 : IntKind.i64.wrap (i + 1) = i + 1 := wrap_i64 (by omega) (by omega)
        rw [e1]
        have e2 : (i + 1).toNat = i.toNat + 1 := by omega
        refine hK _ _ ⟨by omega, by omega, ?_, H⟩ (by omega)
        rw [e2, tx, ty, List.map_append, List.map_append, he]
        simp [hn]
    · rename_i hi
      have hi : i = us.length := by simp at hi; omega
      subst hi
      refine ⟨?_, H⟩
      symm
      unfold all
      rw [beq_iff_eq]
      have e1 : us.take ((us.length : Int)).toNat = us := by simp
      have e2 : vs.take ((us.length : Int)).toNat = vs := by rw [hc]; simp
      rw [e1, e2] at he
      exact he
theorem few_spec {s : Slc} {vs : List Val} (hn : vs.length ≤ 9223372036854775807) (k : See 5 l TV s vs) (H : St W l w) :
    cl Try.prog 11 [tSlc.enc s] tBool w fun r w' => (r = true → vs.length ≤ 2000) ∧ St W l w' := by
  have hs := k.len H
  refine F11_ok ?_
  unfold F11
  rw [hs]
  split
  · exact ⟨nofun, H⟩
  · rename_i hc
    have hc : vs.length ≤ 2000 := by simp at hc; omega
    refine lp_p (fun i w => 0 ≤ i ∧ i ≤ vs.length ∧ St W l w) (fun i => (vs.length - i).toNat) ⟨Int.le_refl 0, by omega, H⟩ ?_
    clear H
    rintro i w ⟨i0, i1, H⟩ K hK
    unfold F11_l1
    rw [hs]
    split
    · rename_i hi
      have hi : i < vs.length := by simpa using hi
      have hx : vs[i.toNat]? = some vs[i.toNat] := List.getElem?_eq_getElem (by omega)
      generalize vs[i.toNat] = u at hx
      obtain ⟨a, ha⟩ := k.ix (i := i) H i0 hi
      refine ex_i a ha ?_
      refine ex_i u.S (k.fld ha hx rfl H) ?_
      split
      · exact ⟨nofun, H⟩
      · have e1 : IntKind.i64.wrap (i + 1) = i + 1 := wrap_i64 (by omega) (by omega)
        rw [e1]
        exact hK _ _ ⟨by omega, by omega, H⟩ (by omega)
    · exact ⟨fun _ => hc, H⟩
end
end Go.Proofs.Ytjhenlajkhckfaa.Wire
