/- How values are written: contracts of the package's writers and of the document's. -/
import Derived.Test.YtjhenlajkhckfaaWA
import Derived.Test.YtjhenlajkhckfaaSlL
namespace Go.Proofs.Ytjhenlajkhckfaa.Wire
open Go Go.Proofs.Ytjhenlajkhckfaa.Cf
set_option linter.unusedVariables false
set_option linter.unusedSimpArgs false
set_option maxRecDepth 100000
section
variable {W w : World} {l l' : List Assn}
abbrev TV := T35
theorem lenV : ∀ x, (TV.cells x).length = 5 := fun _ => rfl
theorem B_of {n : Int} {c : UInt8} (h : n = c.toNat) : [n] = B [c] := by simp [B, h]
theorem u8_of {n : Int} {m : Nat} (h0 : 0 ≤ n) (h : n.toNat % 256 = m % 256) : n % 256 = ((UInt8.ofNat m).toNat : Int) := by simp; omega
theorem ord_self (d : Ieee.Datum) : d.order d = if d.isNaN then none else some .eq := by
  have c1 : ∀ x : Int, compare x x = .eq := fun x => Std.ReflCmp.compare_self
  have c2 : ∀ x : Nat, compare x x = .eq := fun x => Std.ReflCmp.compare_self
  cases d with
  | nan s t => rfl
  | infinity s => simp only [Ieee.Datum.order, c2]; rfl
  | number s m i => simp only [Ieee.Datum.order, c1]; rfl
theorem nan_cmp {f : Nat} : fcmp .neq f f = isNaN f := by
  have hs : FloatKind.f64.format.signWeight = 9223372036854775808 := by decide
  have hr : FloatKind.f64.format.infRung = 9218868437227405312 := by decide
  have hb : FloatKind.f64.format.binade = 4503599627370496 := by decide
  have e : 2 * f % 18446744073709551616 = 2 * (f % 9223372036854775808) := by omega
  unfold fcmp isNaN
  simp only [Ieee.Format.order, ord_self]
  rw [e]
  have h2 : (FloatKind.f64.format.read f).isNaN = decide (18437736874454810624 < 2 * (f % 9223372036854775808)) := by
    simp only [Ieee.Format.read, hs, hr, hb]
    by_cases h1 : f % 9223372036854775808 < 4503599627370496
    · rw [if_pos h1]
      show false = _
      symm; rw [decide_eq_false_iff_not]; omega
    · rw [if_neg h1]
      by_cases h2 : f % 9223372036854775808 < 9218868437227405312
      · rw [if_pos h2]
        show false = _
        symm; rw [decide_eq_false_iff_not]; omega
      · rw [if_neg h2]
        by_cases h3 : f % 9223372036854775808 = 9218868437227405312
        · rw [if_pos h3]
          show false = _
          symm; rw [decide_eq_false_iff_not]; omega
        · rw [if_neg h3]
          show true = _
          symm; rw [decide_eq_true_iff]; omega
  rw [h2]
  cases decide (18437736874454810624 < 2 * (f % 9223372036854775808)) <;> rfl
theorem none_spec {f : Nat} (H : St W l w) : cl Try.prog 35 [.float .f64 f] tBool w fun r w' => r = isNaN f ∧ St W l w' := by
  refine F35_ok ?_
  unfold F35
  refine shift_i (by omega) ?_
  refine ⟨?_, H⟩
  have e : min (Int.toNat 1) IntKind.u64.bits = 1 := rfl
  rw [e, wr_u64]
  unfold isNaN
  simp only [decide_eq_decide]
  omega
theorem rbits_spec {f : Nat} (H : St W l w) : cl Try.prog 26 [.float .f64 f] (tInt .u64) w fun r w' => r = (fb f : Nat) ∧ St W l w' := by
  refine F26_ok ?_
  unfold F26
  refine cl_mono (none_spec H) ?_
  rintro r w ⟨rfl, H⟩
  unfold fb
  split
  · exact ⟨rfl, H⟩
  · exact ⟨rfl, H⟩
theorem inf_spec {f : Nat} {s : Int} (H : St W l w) : cl Try.prog 39 [.float .f64 f, .int .i64 s] tBool w fun _ w' => St W l w' := by
  refine F39_ok ?_
  unfold F39 F39_j1
  split
  · refine F40_ok ?_
    unfold F40
    exact H
  · split
    · exact H
    · exact H
theorem class_spec {f : Nat} (H : St W l w) : cl Try.prog 36 [.float .f64 f] (tInt .i64) w fun r w' => (r == 0) = isNaN f ∧ St W l w' := by
  refine F36_ok ?_
  unfold F36
  rw [nan_cmp]
  split
  · rename_i h; exact ⟨by rw [h]; rfl, H⟩
  · rename_i h
    have h : isNaN f = false := by simpa using h
    rw [h]
    split
    · exact ⟨rfl, H⟩
    · split
      · exact ⟨rfl, H⟩
      · refine cl_mono (inf_spec H) ?_
        intro r w H
        split
        · exact ⟨rfl, H⟩
        · refine cl_mono (inf_spec H) ?_
          intro r w H
          split
          · exact ⟨rfl, H⟩
          · split
            · exact ⟨rfl, H⟩
            · exact ⟨rfl, H⟩
theorem bits_spec {f : Nat} (H : St W l w) : cl Try.prog 28 [.float .f64 f] (tInt .u64) w fun r w' => r = (fb f : Nat) ∧ St W l w' := by
  refine F28_ok ?_
  unfold F28
  refine cl_mono (class_spec H) ?_
  rintro r w ⟨hr, H⟩
  rw [hr]
  unfold fb
  split
  · refine F37_ok ?_
    unfold F37
    rw [if_pos (by rfl)]
    exact ⟨rfl, H⟩
  · exact ⟨rfl, H⟩
theorem plain_spec {v : Val} (H : St W l w) : cl Try.prog 22 [TV.enc v] tBool w fun r w' => r = plainB v ∧ St W l w' := by
  refine F22_ok ?_
  unfold F22
  refine nw_st H fun b w H => ?_
  refine dr_st H fun w H => ?_
  refine ld_st (x := v.U) 0 H rfl rfl rfl ?_
  refine ld_st (x := v.I) 0 H rfl rfl rfl ?_
  refine ld_st (x := v.F) 0 H rfl rfl rfl ?_
  refine ld_st (x := v.S) 0 H rfl rfl rfl ?_
  refine ld_st (x := v.Kind) 0 H rfl rfl rfl ?_
  have hf : ((v.F : Int) == 0) = (v.F == 0) := by rw [Bool.eq_iff_iff]; simp
  rw [hf]
  have H := H.drop
  by_cases h1 : v.Kind = 1
  · simp only [h1, beq_self_eq_true, if_true, plainB]; exact ⟨trivial, H⟩
  · have e1 : (v.Kind == 1) = false := by simpa using h1
    by_cases h2 : v.Kind = 2
    · simp only [h2, plainB, show ((2 : Int) == 1) = false from rfl, show ¬ (2 : Int) = 1 from by decide, beq_self_eq_true, if_true, if_false, Bool.false_eq_true]; exact ⟨trivial, H⟩
    · have e2 : (v.Kind == 2) = false := by simpa using h2
      by_cases h3 : v.Kind = 3
      · simp only [h3, plainB, show ((3 : Int) == 1) = false from rfl, show ((3 : Int) == 2) = false from rfl, show ¬ (3 : Int) = 1 from by decide, show ¬ (3 : Int) = 2 from by decide, beq_self_eq_true, if_true, if_false, Bool.false_eq_true]; exact ⟨trivial, H⟩
      · have e3 : (v.Kind == 3) = false := by simpa using h3
        by_cases h4 : v.Kind = 4
        · simp only [h4, plainB, show ((4 : Int) == 1) = false from rfl, show ((4 : Int) == 2) = false from rfl, show ((4 : Int) == 3) = false from rfl, show ¬ (4 : Int) = 1 from by decide, show ¬ (4 : Int) = 2 from by decide, show ¬ (4 : Int) = 3 from by decide, beq_self_eq_true, if_true, if_false, Bool.false_eq_true]; exact ⟨trivial, H⟩
        · have e4 : (v.Kind == 4) = false := by simpa using h4
          simp only [e1, e2, e3, e4, h1, h2, h3, h4, plainB, if_false, Bool.false_eq_true]; exact ⟨trivial, H⟩
theorem valid_spec {v : Val} (H : St W l w) : cl Try.prog 16 [TV.enc v] (tInt .i64) w fun r w' => r = okV v ∧ St W l w' := by
  refine F16_ok ?_
  unfold F16
  refine nw_st H fun b w H => ?_
  refine vld_st (x := v) 0 H rfl ?_
  refine cl_mono (plain_spec H) ?_
  rintro r w ⟨rfl, H⟩
  unfold okV
  split
  · rename_i h; rw [if_pos (by simpa using h)]; exact ⟨rfl, H.drop⟩
  · rename_i h
    rw [if_neg (by simpa using h)]
    refine ld_st (x := v.S) 0 H rfl rfl rfl ?_
    split
    · rename_i h; rw [if_pos (by simp at h; omega)]; exact ⟨rfl, H.drop⟩
    · rename_i h; rw [if_neg (by simp at h; omega)]; exact ⟨rfl, H.drop⟩
theorem rvalid_spec {v : Val} (H : St W l w) : cl Try.prog 17 [TV.enc v] (tInt .i64) w fun r w' => r = okV v ∧ St W l w' := by
  refine F17_ok ?_
  unfold F17
  refine nw_st H fun b w H => ?_
  refine ld_st (x := v.Kind) 0 H rfl rfl rfl ?_
  refine nw_st H fun b5 w H => ?_
  refine vst_st (x := Z35) (y := (⟨v.Kind, 0, 0, 0, []⟩ : Val)) lenV 0 H rfl fun w H => ?_
  refine ld_st (x := v.Kind) 1 H rfl rfl rfl ?_
  have j1 : ∀ (o : Val) (w : World), St W (cel b5 (TV.cells o) 36 :: cel b (TV.cells v) 36 :: l) w →
      (((!(o.U == v.U) || !(o.I == v.I)) || !(o.S == v.S)) || (!(v.Kind == 3) && !(v.F == 0))) = !plainB v →
      F17_j1 ⟨b, 0, none⟩ ⟨b5, 0, none⟩ w fun r w' => r = okV v ∧ St W l w' := by
    intro o w H hp
    unfold F17_j1
    refine ld_st (x := o.U) 0 H rfl rfl rfl ?_
    refine ld_st (x := v.U) 1 H rfl rfl rfl ?_
    refine ex_i o.I (fun _ => rdat_cel (tInt .i64) H rfl rfl) ?_
    refine ex_i v.I (fun _ => rdat_cel (tInt .i64) (H.front 1) rfl rfl) ?_
    refine ex_i o.S (fun _ => rdat_cel tStr H rfl rfl) ?_
    refine ex_i v.S (fun _ => rdat_cel tStr (H.front 1) rfl rfl) ?_
    refine ex_i v.Kind (fun _ => rdat_cel (tInt .i64) (H.front 1) rfl rfl) ?_
    refine ex_i v.F (fun _ => rdat_cel tFlt (H.front 1) rfl rfl) ?_
    have hf : ((v.F : Int) != 0) = !(v.F == 0) := by rw [Bool.eq_iff_iff]; simp
    have e : ((((o.U != v.U) || (o.I != v.I)) || (!(o.S == v.S))) || ((v.Kind != 3) && ((v.F : Int) != 0))) = !plainB v := by rw [hf, ← hp]; rfl
    rw [e]
    unfold okV
    split
    · rename_i h; rw [if_pos (by simpa using h)]; exact ⟨rfl, H.drop.drop⟩
    · rename_i h
      rw [if_neg (by simpa using h)]
      refine ld_st (x := v.S) 1 H rfl rfl rfl ?_
      split
      · rename_i h; rw [if_pos (by simp at h; omega)]; exact ⟨rfl, H.drop.drop⟩
      · rename_i h; rw [if_neg (by simp at h; omega)]; exact ⟨rfl, H.drop.drop⟩
  have ej : ∀ a b c d : Bool, (((!a || !b) || !c) || (!d && false)) = !((a && b) && c) := by decide
  split
  · rename_i h
    have h : v.Kind = 1 := by simpa using h
    refine ld_st (x := v.U) 1 H rfl rfl rfl ?_
    refine st_st (x := v.U) 0 H rfl rfl (Nat.le_of_ble_eq_true rfl) fun w H => ?_
    refine j1 ⟨v.Kind, v.U, 0, 0, []⟩ w H ?_
    have e1 : ((0 : Int) == v.I) = (v.I == 0) := BEq.comm
    have e2 : (([] : List UInt8) == v.S) = (v.S == []) := BEq.comm
    have e3 : ((1 : Int) == 3) = false := rfl
    simp only [plainB, h, if_true, e1, e2, e3]
    cases (v.I == 0) <;> cases (v.S == []) <;> cases (v.F == 0) <;> simp
  · rename_i h1
    have h1 : ¬ v.Kind = 1 := by simpa using h1
    split
    · rename_i h
      have h : v.Kind = 2 := by simpa using h
      refine ld_st (x := v.I) 1 H rfl rfl rfl ?_
      refine st_st (x := v.I) 0 H rfl rfl (Nat.le_of_ble_eq_true rfl) fun w H => ?_
      refine j1 ⟨v.Kind, 0, v.I, 0, []⟩ w H ?_
      have e1 : ((0 : Int) == v.U) = (v.U == 0) := BEq.comm
      have e2 : (([] : List UInt8) == v.S) = (v.S == []) := BEq.comm
      have e3 : ((2 : Int) == 3) = false := rfl
      simp only [plainB, h, if_true, e1, e2, e3, show ¬ (2 : Int) = 1 from by decide, if_false]
      cases (v.U == 0) <;> cases (v.S == []) <;> cases (v.F == 0) <;> simp
    · rename_i h2
      have h2 : ¬ v.Kind = 2 := by simpa using h2
      split
      · rename_i h
        have h : v.Kind = 3 := by simpa using h
        refine ld_st (x := v.F) 1 H rfl rfl rfl ?_
        refine st_st (x := v.F) 0 H rfl rfl (Nat.le_of_ble_eq_true rfl) fun w H => ?_
        refine j1 ⟨v.Kind, 0, 0, v.F, []⟩ w H ?_
        have e0 : ((0 : Int) == v.U) = (v.U == 0) := BEq.comm
        have e1 : ((0 : Int) == v.I) = (v.I == 0) := BEq.comm
        have e2 : (([] : List UInt8) == v.S) = (v.S == []) := BEq.comm
        have e3 : ((3 : Int) == 3) = true := rfl
        simp only [plainB, h, if_true, e0, e1, e2, e3, show ¬ (3 : Int) = 1 from by decide, show ¬ (3 : Int) = 2 from by decide, if_false]
        cases (v.U == 0) <;> cases (v.I == 0) <;> cases (v.S == []) <;> cases (v.F == 0) <;> simp
      · rename_i h3
        have h3 : ¬ v.Kind = 3 := by simpa using h3
        split
        · rename_i h
          have h : v.Kind = 4 := by simpa using h
          refine ld_st (x := v.S) 1 H rfl rfl rfl ?_
          refine st_st (x := v.S) 0 H rfl rfl (Nat.le_of_ble_eq_true rfl) fun w H => ?_
          refine j1 ⟨v.Kind, 0, 0, 0, v.S⟩ w H ?_
          have e0 : ((0 : Int) == v.U) = (v.U == 0) := BEq.comm
          have e1 : ((0 : Int) == v.I) = (v.I == 0) := BEq.comm
          have e3 : ((4 : Int) == 3) = false := rfl
          simp only [plainB, h, if_true, e0, e1, e3, show ¬ (4 : Int) = 1 from by decide, show ¬ (4 : Int) = 2 from by decide, show ¬ (4 : Int) = 3 from by decide, if_false]
          cases (v.U == 0) <;> cases (v.I == 0) <;> cases (v.F == 0) <;> simp
        · rename_i h4
          have h4 : ¬ v.Kind = 4 := by simpa using h4
          have : okV v = 21 := by simp [okV, plainB, h1, h2, h3, h4]
          exact ⟨this.symm, H.drop.drop⟩
/-! ### numbers -/
theorem u8w {n : Int} {m : Nat} (h : n = m) : IntKind.u8.wrap n = ((UInt8.ofNat m).toNat : Int) := by rw [wr_u8, h]; simp
theorem num_spec {n : Nat} {s : Slc} {xs : List Int} (hn : n < 18446744073709551616) (hb : xs.length ≤ 100000000) (i : Nat) (H : St W l w) (hi : front i l = row (tInt .u8) 5 1 s xs :: l') :
    cl Try.prog 27 [tSlc.enc s, .int .u64 n] tSlc w fun r w' => St W (row (tInt .u8) 5 1 r (xs ++ B (num n)) :: l') w' := by
  have H : St W (row (tInt .u8) 5 1 s xs :: l') w := hi ▸ H.front i
  refine F27_ok ?_
  unfold F27
  refine lp_p (fun p w => ∃ (m : Nat) (ys : List UInt8), p.2 = m ∧ m < 18446744073709551616 ∧ m ≤ n ∧ num n = ys ++ num m ∧ St W (row (tInt .u8) 5 1 p.1 (xs ++ B ys) :: l') w) (fun p => p.2.toNat)
    ⟨n, [], rfl, hn, Nat.le_refl n, rfl, by simpa [B] using H⟩ ?_
  clear H hi
  rintro ⟨b, m⟩ w ⟨m, ys, rfl, hm, hmn, he, H⟩ K hK
  have hl : ys.length ≤ 10 := by
    have := congrArg List.length he
    rw [List.length_append] at this
    have := num_len0 hn
    omega
  unfold F27_l1
  split
  · rename_i hc
    have hc : 128 ≤ m := by simp at hc; omega
    have e1 : bits .or .u8 (IntKind.u8.wrap (m : Int)) 128 = ((UInt8.ofNat (128 + m % 128)).toNat : Int) := by
      rw [wr_u8, or128 (by omega) (by omega), u8_toNat (by omega)]; omega
    simp only [e1]
    refine apl_row (fun _ => rfl) 0 H rfl (by simp [B_len]; omega) fun r w H => ?_
    refine shift_i (by omega) ?_
    have e2 : Int.fdiv (m : Int) (2 ^ (min (Int.toNat 7) IntKind.u64.bits)) = ((m / 128 : Nat) : Int) := by
      have : min (Int.toNat 7) IntKind.u64.bits = 7 := rfl
      rw [this, Int.fdiv_eq_ediv_of_nonneg _ (by decide)]
      omega
    rw [e2]
    refine hK _ _ ⟨m / 128, ys ++ [UInt8.ofNat (128 + m % 128)], rfl, by omega, by omega, by rw [he, num_ge hc]; simp, ?_⟩ (by simp only; omega)
    rw [B_app, ← List.append_assoc]; exact H
  · rename_i hc
    have hc : m < 128 := by simp at hc; omega
    rw [u8w rfl]
    refine apl_row (fun _ => rfl) 0 H rfl (by simp [B_len]; omega) fun r w H => ?_
    rw [he, num_lt hc, B_app, ← List.append_assoc]; exact H
theorem rnum_spec : ∀ {n : Nat} {l : List Assn} {w : World}, n < 18446744073709551616 → St W l w → cl Try.prog 29 [.int .u64 n] tStr w fun r w' => r = num n ∧ St W l w' := by
  intro n
  induction n using Nat.strongRecOn with
  | _ n ih =>
    intro l w hn H
    refine F29_ok ?_
    unfold F29 F29_j1
    split
    · rename_i hc
      have hc : n < 128 := by simp at hc; omega
      refine nwS_st H fun b w H => ?_
      have H := row_new (sz := 1) (m := 1) rfl H
      rw [u8w rfl] at H
      refine b2s_st (r := [UInt8.ofNat n]) (RdO_row H) ?_
      exact ⟨(num_lt hc).symm, H.drop⟩
    · rename_i hc
      have hc : 128 ≤ n := by simp at hc; omega
      have e1 : Int.tdiv (n : Int) 128 = ((n / 128 : Nat) : Int) := by rw [Int.tdiv_eq_ediv_of_nonneg (by omega)]; omega
      have e2 : Int.tmod (n : Int) 128 = ((n % 128 : Nat) : Int) := by rw [Int.tmod_eq_emod_of_nonneg (by omega)]; omega
      have e3 : IntKind.u64.wrap ((n / 128 : Nat) : Int) = ((n / 128 : Nat) : Int) := by rw [wr_u64]; omega
      have e4 : IntKind.u8.wrap (IntKind.u64.wrap (128 + ((n % 128 : Nat) : Int))) = ((UInt8.ofNat (128 + n % 128)).toNat : Int) := by
        refine u8w ?_
        rw [wr_u64]; omega
      rw [e1, e2, e3, e4]
      have hl := num_len0 (n := n / 128) (by omega)
      refine dr_st H fun w H => ⟨?_, ?_⟩
      · refine nwS_st H fun b w H => ?_
        have H := row_new (sz := 1) (m := 1) rfl H
        refine b2s_st (r := [UInt8.ofNat (128 + n % 128)]) (RdO_row H) ?_
        refine cl_mono (ih (n / 128) (by omega) (by omega) H) ?_
        rintro r w ⟨rfl, H⟩
        refine ⟨RdO_row H, ?_⟩
        refine cat_i (by simp; omega) ?_
        exact ⟨by rw [num_ge hc]; rfl, H.drop⟩
      · refine cl_mono (ih (n / 128) (by omega) (by omega) H) ?_
        rintro r w ⟨rfl, H⟩
        refine nwS_st H fun b w H => ?_
        have H := row_new (sz := 1) (m := 1) rfl H
        refine b2s_st (r := [UInt8.ofNat (128 + n % 128)]) (RdO_row H) ?_
        refine cat_i (by simp; omega) ?_
        exact ⟨by rw [num_ge hc]; rfl, H.drop⟩
end
end Go.Proofs.Ytjhenlajkhckfaa.Wire
