/- How values are written: contracts of the package's writers and of the document's. -/
import Derived.Test.YtjkmeooncmhonaaXA
import Derived.Test.YtjkmeooncmhonaaSlL
namespace Go.Proofs.Ytjkmeooncmhonaa.Wire
open Go Go.Proofs.Ytjkmeooncmhonaa.Cf
set_option linter.unusedVariables false
set_option linter.unusedSimpArgs false
set_option maxRecDepth 100000
section
variable {W w : World} {l l' : List Assn}
abbrev TV := T90
theorem lenV : ∀ x, (TV.cells x).length = 5 := fun _ => rfl
theorem B_of {n : Int} {c : UInt8} (h : n = c.toNat) : [n] = B [c] := by simp [B, h]
theorem u8_of {n : Int} {m : Nat} (h0 : 0 ≤ n) (h : n.toNat % 256 = m % 256) : n % 256 = ((UInt8.ofNat m).toNat : Int) := by simp; omega
theorem ord_self (d : Ieee.Datum) : d.order d = if d.isNaN then none else some .eq := by
  have c1 : ∀ x : Int, compare x x = .eq := fun x => Std.ReflCmp.compare_self
  have c2 : ∀ x : Nat, compare x x = .eq := fun x => Std.ReflCmp.compare_self
  cases d with
  | nan s t => rfl
  | infinity s => simp only [Ieee.Datum.order, c2]; rfl
  | number s m i => simp only [Ieee.Datum.order, c1]; rfl
theorem nan_cmp {f : Nat} : fcmp .neq f f = isNaN f := by
  have hs : FloatKind.f64.format.signWeight = 9223372036854775808 := by decide
  have hr : FloatKind.f64.format.infRung = 9218868437227405312 := by decide
  have hb : FloatKind.f64.format.binade = 4503599627370496 := by decide
  have e : 2 * f % 18446744073709551616 = 2 * (f % 9223372036854775808) := by omega
  unfold fcmp isNaN
  simp only [Ieee.Format.order, ord_self]
  rw [e]
  have h2 : (FloatKind.f64.format.read f).isNaN = decide (18437736874454810624 < 2 * (f % 9223372036854775808)) := by
    simp only [Ieee.Format.read, hs, hr, hb]
    by_cases h1 : f % 9223372036854775808 < 4503599627370496
    · rw [if_pos h1]
      show false = _
      symm; rw [decide_eq_false_iff_not]; omega
    · rw [if_neg h1]
      by_cases h2 : f % 9223372036854775808 < 9218868437227405312
      · rw [if_pos h2]
        show false = _
        symm; rw [decide_eq_false_iff_not]; omega
      · rw [if_neg h2]
        by_cases h3 : f % 9223372036854775808 = 9218868437227405312
        · rw [if_pos h3]
          show false = _
          symm; rw [decide_eq_false_iff_not]; omega
        · rw [if_neg h3]
          show true = _
          symm; rw [decide_eq_true_iff]; omega
  rw [h2]
  cases decide (18437736874454810624 < 2 * (f % 9223372036854775808)) <;> rfl
theorem inf_spec {f : Nat} {s : Int} (H : St W l w) : cl Try.prog 92 [.float .f64 f, .int .i64 s] tBool w fun _ w' => St W l w' := by
  refine F92_ok ?_
  unfold F92 F92_j1
  split
  · refine F94_ok ?_
    unfold F94
    exact H
  · split
    · exact H
    · exact H
theorem class_spec {f : Nat} (H : St W l w) : cl Try.prog 84 [.float .f64 f] (tInt .i64) w fun r w' => (r == 0) = isNaN f ∧ St W l w' := by
  refine F84_ok ?_
  unfold F84
  rw [nan_cmp]
  split
  · rename_i h; exact ⟨by rw [h]; rfl, H⟩
  · rename_i h
    have h : isNaN f = false := by simpa using h
    rw [h]
    split
    · exact ⟨rfl, H⟩
    · split
      · exact ⟨rfl, H⟩
      · refine cl_mono (inf_spec H) ?_
        intro r w H
        split
        · exact ⟨rfl, H⟩
        · refine cl_mono (inf_spec H) ?_
          intro r w H
          split
          · exact ⟨rfl, H⟩
          · split
            · exact ⟨rfl, H⟩
            · exact ⟨rfl, H⟩
theorem bits_spec {f : Nat} (H : St W l w) : cl Try.prog 67 [.float .f64 f] (tInt .u64) w fun r w' => r = (fb f : Nat) ∧ St W l w' := by
  refine F67_ok ?_
  unfold F67
  refine cl_mono (class_spec H) ?_
  rintro r w ⟨hr, H⟩
  rw [hr]
  unfold fb
  split
  · refine F85_ok ?_
    unfold F85
    rw [if_pos (by rfl)]
    exact ⟨rfl, H⟩
  · exact ⟨rfl, H⟩
theorem plain_spec {v : Val} (H : St W l w) : cl Try.prog 65 [TV.enc v] tBool w fun r w' => r = plainB v ∧ St W l w' := by
  refine F65_ok ?_
  unfold F65
  refine nw_st H fun b w H => ?_
  refine dr_st H fun w H => ?_
  refine ld_st (x := v.U) 0 H rfl rfl rfl ?_
  refine ld_st (x := v.I) 0 H rfl rfl rfl ?_
  refine ld_st (x := v.F) 0 H rfl rfl rfl ?_
  refine ld_st (x := v.S) 0 H rfl rfl rfl ?_
  refine ld_st (x := v.Kind) 0 H rfl rfl rfl ?_
  have hf : ((v.F : Int) == 0) = (v.F == 0) := by rw [Bool.eq_iff_iff]; simp
  rw [hf]
  have H := H.drop
  by_cases h1 : v.Kind = 1
  · simp only [h1, beq_self_eq_true, if_true, plainB]; exact ⟨trivial, H⟩
  · have e1 : (v.Kind == 1) = false := by simpa using h1
    by_cases h2 : v.Kind = 2
    · simp only [h2, plainB, show ((2 : Int) == 1) = false from rfl, show ¬ (2 : Int) = 1 from by decide, beq_self_eq_true, if_true, if_false, Bool.false_eq_true]; exact ⟨trivial, H⟩
    · have e2 : (v.Kind == 2) = false := by simpa using h2
      by_cases h3 : v.Kind = 3
      · simp only [h3, plainB, show ((3 : Int) == 1) = false from rfl, show ((3 : Int) == 2) = false from rfl, show ¬ (3 : Int) = 1 from by decide, show ¬ (3 : Int) = 2 from by decide, beq_self_eq_true, if_true, if_false, Bool.false_eq_true]; exact ⟨trivial, H⟩
      · have e3 : (v.Kind == 3) = false := by simpa using h3
        by_cases h4 : v.Kind = 4
        · simp only [h4, plainB, show ((4 : Int) == 1) = false from rfl, show ((4 : Int) == 2) = false from rfl, show ((4 : Int) == 3) = false from rfl, show ¬ (4 : Int) = 1 from by decide, show ¬ (4 : Int) = 2 from by decide, show ¬ (4 : Int) = 3 from by decide, beq_self_eq_true, if_true, if_false, Bool.false_eq_true]; exact ⟨trivial, H⟩
        · have e4 : (v.Kind == 4) = false := by simpa using h4
          simp only [e1, e2, e3, e4, h1, h2, h3, h4, plainB, if_false, Bool.false_eq_true]; exact ⟨trivial, H⟩
theorem valid_spec {v : Val} (H : St W l w) : cl Try.prog 52 [TV.enc v] (tInt .i64) w fun r w' => r = okV v ∧ St W l w' := by
  refine F52_ok ?_
  unfold F52
  refine nw_st H fun b w H => ?_
  refine vld_st (x := v) 0 H rfl ?_
  refine cl_mono (plain_spec H) ?_
  rintro r w ⟨rfl, H⟩
  unfold okV
  split
  · rename_i h; rw [if_pos (by simpa using h)]; exact ⟨rfl, H.drop⟩
  · rename_i h
    rw [if_neg (by simpa using h)]
    refine ld_st (x := v.S) 0 H rfl rfl rfl ?_
    split
    · rename_i h; rw [if_pos (by simp at h; omega)]; exact ⟨rfl, H.drop⟩
    · rename_i h; rw [if_neg (by simp at h; omega)]; exact ⟨rfl, H.drop⟩
/-! ### numbers -/
theorem u8w {n : Int} {m : Nat} (h : n = m) : IntKind.u8.wrap n = ((UInt8.ofNat m).toNat : Int) := by rw [wr_u8, h]; simp
theorem num_spec {n : Nat} {s : Slc} {xs : List Int} (hn : n < 18446744073709551616) (hb : xs.length ≤ 100000000) (i : Nat) (H : St W l w) (hi : front i l = row (tInt .u8) 5 1 s xs :: l') :
    cl Try.prog 66 [tSlc.enc s, .int .u64 n] tSlc w fun r w' => St W (row (tInt .u8) 5 1 r (xs ++ B (num n)) :: l') w' := by
  have H : St W (row (tInt .u8) 5 1 s xs :: l') w := hi ▸ H.front i
  refine F66_ok ?_
  unfold F66
  refine lp_p (fun p w => ∃ (m : Nat) (ys : List UInt8), p.2 = m ∧ m < 18446744073709551616 ∧ m ≤ n ∧ num n = ys ++ num m ∧ St W (row (tInt .u8) 5 1 p.1 (xs ++ B ys) :: l') w) (fun p => p.2.toNat)
    ⟨n, [], rfl, hn, Nat.le_refl n, rfl, by simpa [B] using H⟩ ?_
  clear H hi
  rintro ⟨b, m⟩ w ⟨m, ys, rfl, hm, hmn, he, H⟩ K hK
  have hl : ys.length ≤ 10 := by
    have := congrArg List.length he
    rw [List.length_append] at this
    have := num_len0 hn
    omega
  unfold F66_l1
  split
  · rename_i hc
    have hc : 128 ≤ m := by simp at hc; omega
    have e1 : bits .or .u8 (IntKind.u8.wrap (m : Int)) 128 = ((UInt8.ofNat (128 + m % 128)).toNat : Int) := by
      rw [wr_u8, or128 (by omega) (by omega), u8_toNat (by omega)]; omega
    simp only [e1]
    refine apl_row (fun _ => rfl) 0 H rfl (by simp [B_len]; omega) fun r w H => ?_
    refine shift_i (by omega) ?_
    have e2 : Int.fdiv (m : Int) (2 ^ (min (Int.toNat 7) IntKind.u64.bits)) = ((m / 128 : Nat) : Int) := by
      have : min (Int.toNat 7) IntKind.u64.bits = 7 := rfl
      rw [this, Int.fdiv_eq_ediv_of_nonneg _ (by decide)]
      omega
    rw [e2]
    refine hK _ _ ⟨m / 128, ys ++ [UInt8.ofNat (128 + m % 128)], rfl, by omega, by omega, by rw [he, num_ge hc]; simp, ?_⟩ (by simp only; omega)
    rw [B_app, ← List.append_assoc]; exact H
  · rename_i hc
    have hc : m < 128 := by simp at hc; omega
    rw [u8w rfl]
    refine apl_row (fun _ => rfl) 0 H rfl (by simp [B_len]; omega) fun r w H => ?_
    rw [he, num_lt hc, B_app, ← List.append_assoc]; exact H
end
end Go.Proofs.Ytjkmeooncmhonaa.Wire
