/- Rates: contracts of num's Class, Key, Cmp and of amount's Rate. -/
import Derived.Test.YtpdaapffkdejoaaGreatNC
namespace Go.Proofs.YtpdaapffkdejoaaGreat.Num
open Go Go.Proofs.YtpdaapffkdejoaaGreat.Cf
set_option linter.unusedVariables false
set_option linter.unusedSimpArgs false
set_option maxRecDepth 100000
theorem negf {f : Nat} (h : f < 9223372036854775808) : Op.negFloat .f64 f = 9223372036854775808 + f := by
  have e : (2 : Nat) ^ (FloatKind.f64.format.exponentBits + FloatKind.f64.format.fractionBits) = 2 ^ 63 := rfl
  unfold Op.negFloat
  rw [e]
  have hf : f < 2 ^ 63 := h
  have e2 : 9223372036854775808 + f = 2 ^ 63 * 1 + f := by omega
  rw [e2]
  apply Nat.eq_of_testBit_eq
  intro j
  rw [Nat.testBit_xor, Nat.testBit_two_pow_mul_add 1 hf, Nat.testBit_two_pow]
  by_cases c : j < 63
  · rw [if_pos c]
    have : decide (63 = j) = false := by simp; omega
    rw [this]; simp
  · rw [if_neg c]
    have : f.testBit j = false := Nat.testBit_lt_two_pow (Nat.lt_of_lt_of_le hf (Nat.pow_le_pow_right (by omega) (by omega)))
    rw [this]
    by_cases d : 63 = j
    · subst d; rfl
    · have h1 : decide (63 = j) = false := by simpa using d
      rw [h1]
      have h2 : Nat.testBit 1 (j - 63) = false := Nat.testBit_lt_two_pow (Nat.one_lt_two_pow (by omega))
      rw [h2]; rfl
theorem read_minus {f : Nat} (h1 : 9223372036854775808 ≤ f) (h2 : f < 18446744073709551616) : (∃ m i, Ieee.double.read f = .number true m i) ∨ Ieee.double.read f = .infinity true ∨ ∃ t, Ieee.double.read f = .nan true t := by
  by_cases c : f = 9223372036854775808
  · subst c
    exact .inl ⟨_, _, rfl⟩
  · rcases read_neg (show 9223372036854775808 < f by omega) h2 with ⟨m, i, _, e⟩ | h
    · exact .inl ⟨m, i, e⟩
    · exact .inr h
theorem max_minus {f : Nat} (h1 : 9223372036854775808 ≤ f) (h2 : f < 18446744073709551616) : fcmp .gtr f 9218868437227405311 = false := by
  unfold fcmp
  rw [f64]
  simp only [Ieee.Format.order, read_max]
  rcases read_minus h1 h2 with ⟨m, i, e⟩ | e | ⟨t, e⟩
  · rw [e]
    simp only [Ieee.Datum.order]
    have hs : Ieee.signed true m (i - min i 971).toNat ≤ 0 := by
      unfold Ieee.signed
      rw [if_pos rfl]
      have := Int.natCast_nonneg (m <<< (i - min i 971).toNat)
      omega
    rw [cmp_lt (Int.lt_of_le_of_lt hs (sg_pos1 (by omega)))]
    rfl
  · rw [e]; rfl
  · rw [e]; rfl
section
variable {W w : World} {l l' : List Assn}
/-- Classes: what of them is asked here. -/
theorem class_spec {f : Nat} (hf : f < 18446744073709551616) (H : St W l w) : cl Tryz.prog 59 [.float .f64 f] (tInt .i64) w fun r w' => (rateOk f → 3 ≤ r ∧ r ≤ 5) ∧ (9223372036854775808 < f → r < 3) ∧ (3 ≤ r → fcmp .neq f f = false) ∧ St W l w' := by
  refine F59_ok ?_
  unfold F59
  by_cases hn : fcmp .neq f f = true
  · rw [if_pos hn]
    refine ⟨fun h => ?_, fun _ => by omega, fun h => by omega, H⟩
    exfalso
    rcases h with rfl | h
    · exact absurd hn (by decide)
    · rw [neq_fin (by omega)] at hn
      cases hn
  · rw [if_neg hn]
    have hn : fcmp .neq f f = false := by simpa using hn
    by_cases c0 : f = 0
    · rw [if_pos (by simp [c0])]
      exact ⟨fun _ => by omega, fun h => by omega, fun _ => hn, H⟩
    · rw [if_neg (by simpa using c0)]
      by_cases c1 : f = 9223372036854775808
      · rw [if_pos (by simp [c1])]
        exact ⟨fun _ => by omega, fun h => by omega, fun _ => hn, H⟩
      · rw [if_neg (by simp; omega)]
        refine cl_mono (inf_spec (s := -1) hf H) ?_
        rintro r w ⟨hr, H⟩
        rw [if_neg (by omega), if_pos (by omega)] at hr
        subst hr
        by_cases hp : f < 9223372036854775808
        · rw [negf hp, max_minus (by omega) (by omega), if_neg (by simp)]
          refine cl_mono (inf_spec (s := 1) hf H) ?_
          rintro r w ⟨hr, H⟩
          rw [if_neg (by omega), if_neg (by omega)] at hr
          subst hr
          by_cases hm : fcmp .gtr f 9218868437227405311 = true
          · rw [if_pos hm]
            refine ⟨fun h => ?_, fun h => by omega, fun _ => hn, H⟩
            exfalso
            rcases h with rfl | h
            · omega
            · rw [max_fin (by omega)] at hm
              cases hm
          · rw [if_neg hm, if_neg (by rw [lss0_pos hp]; simp)]
            exact ⟨fun _ => by omega, fun h => by omega, fun _ => hn, H⟩
        · split
          · exact ⟨fun h => by rcases h with h | h <;> omega, fun _ => by omega, fun h => by omega, H⟩
          · refine cl_mono (inf_spec (s := 1) hf H) ?_
            rintro r w ⟨hr, H⟩
            rw [if_neg (by omega), if_neg (by omega)] at hr
            subst hr
            rw [max_minus (by omega) hf, if_neg (by simp), if_pos (lss0_neg (by omega) hf hn)]
            exact ⟨fun h => by rcases h with h | h <;> omega, fun _ => by omega, fun h => by omega, H⟩
def keyF (f : Nat) : Int := if f < 9223372036854775808 then (f : Int) + 9223372036854775808 else 18446744073709551615 - f
theorem key_spec {f : Nat} (hf : f < 18446744073709551616) (hn : fcmp .neq f f = false) (H : St W l w) : cl Tryz.prog 74 [.float .f64 f] (tInt .u64) w fun r w' => r = keyF f ∧ St W l w' := by
  have e63 : (2 : Int) ^ (min ((63 : Int)).toNat IntKind.u64.bits) = 9223372036854775808 := by decide
  refine F74_ok ?_
  unfold F74 keyF
  rw [if_neg (by rw [hn]; simp), e63, Int.fdiv_eq_ediv_of_nonneg _ (by omega)]
  refine ex_i _ ⟨by omega, rfl⟩ ?_
  by_cases c : f < 9223372036854775808
  · rw [if_neg (by simp; omega), if_pos c]
    have := bits_join .u64 64 (by decide) wid_u64 63 9223372036854775808 (f : Int) (by omega) (by omega) (by omega) (by omega) (by omega) (by omega)
    have h2 := (bits_nat .u64 64 (by decide) wid_u64 f 9223372036854775808 (by omega) (by omega)).2
    have h3 := (bits_nat .u64 64 (by decide) wid_u64 9223372036854775808 f (by omega) (by omega)).2
    have e1 : ((9223372036854775808 : Nat) : Int) = 9223372036854775808 := rfl
    rw [e1] at h2 h3
    rw [h2, Nat.or_comm, ← h3, this]
    exact ⟨by omega, H⟩
  · rw [if_pos (by simp; omega), if_neg c]
    have hx : bits .xor .u64 IntKind.u64.max (f : Int) = bits .xor .u64 (f : Int) IntKind.u64.max := by
      simp only [bits, BitVec.xor_comm]
    have h1 : bits .xor .u64 (f : Int) 18446744073709551615 = 18446744073709551615 - (f : Int) := xorm_u64 (by omega) (by omega)
    have h2 : IntKind.u64.max = 18446744073709551615 := rfl
    rw [hx, h2, h1]
    exact ⟨rfl, H⟩
theorem cmp_spec {f g : Nat} (hf : f < 18446744073709551616) (hg : g < 18446744073709551616) (hn : fcmp .neq f f = false) (hm : fcmp .neq g g = false) (H : St W l w) : cl Tryz.prog 60 [.float .f64 f, .float .f64 g] (tInt .i64) w fun r w' => (0 < r ↔ keyF g < keyF f) ∧ St W l w' := by
  refine F60_ok ?_
  unfold F60
  refine cl_mono (key_spec hf hn H) ?_
  rintro r w ⟨rfl, H⟩
  refine cl_mono (key_spec hg hm H) ?_
  rintro r w ⟨rfl, H⟩
  by_cases c : keyF f < keyF g
  · rw [if_pos (by simpa using c)]
    exact ⟨by omega, H⟩
  · rw [if_neg (by simpa using c)]
    by_cases d : keyF g < keyF f
    · rw [if_pos (by simpa using d)]
      exact ⟨by omega, H⟩
    · rw [if_neg (by simpa using d)]
      exact ⟨by omega, H⟩
theorem rate_spec {f : Nat} (hf : f < 18446744073709551616) (H : St W l w) : cl Tryz.prog 40 [.float .f64 f] (tInt .i64) w fun r w' => (r = 0 ↔ rateOk f) ∧ (r ≠ 0 → r = 43) ∧ St W l w' := by
  refine F40_ok ?_
  unfold F40 F40_j1
  refine cl_mono (class_spec hf H) ?_
  rintro r w ⟨h1, h2, h3, H⟩
  by_cases c : r < 3
  · rw [if_pos (by simpa using c), if_pos rfl]
    exact ⟨⟨fun h => by omega, fun h => by have := h1 h; omega⟩, fun _ => rfl, H⟩
  · rw [if_neg (by simpa using c)]
    have hle : f ≤ 9223372036854775808 := by
      apply Classical.byContradiction
      intro hc
      have := h2 (by omega)
      omega
    refine cl_mono (cmp_spec hf (by omega) (h3 (by omega)) (by decide) H) ?_
    rintro q w ⟨hq, H⟩
    have e1 : keyF 4607182418800017408 = 4607182418800017408 + 9223372036854775808 := rfl
    rw [e1] at hq
    by_cases d : 0 < q
    · rw [if_pos (by simpa using d)]
      have := hq.1 d
      refine ⟨⟨fun h => by omega, fun h => ?_⟩, fun _ => rfl, H⟩
      exfalso
      unfold keyF at this
      rcases h with rfl | h
      · rw [if_neg (by omega)] at this
        omega
      · rw [if_pos (by omega)] at this
        omega
    · rw [if_neg (by simpa using d)]
      refine ⟨⟨fun _ => ?_, fun _ => rfl⟩, fun h => absurd rfl h, H⟩
      by_cases c0 : f = 9223372036854775808
      · exact .inl c0
      · right
        have : ¬ (4607182418800017408 + 9223372036854775808 : Int) < keyF f := fun h => d (hq.2 h)
        unfold keyF at this
        rw [if_pos (by omega)] at this
        omega
theorem check_spec {n : Int} (H : St W l w) : cl Tryz.prog 44 [.int .i64 n] (tInt .i64) w fun r w' => r = (if 0 ≤ n ∧ n ≤ 1000000000000000 then 0 else 40) ∧ St W l w' := by
  refine F44_ok ?_
  unfold F44
  by_cases c : 0 ≤ n ∧ n ≤ 1000000000000000
  · rw [if_neg (by simp; omega), if_pos c]
    exact ⟨rfl, H⟩
  · rw [if_pos (by simp; omega), if_neg c]
    exact ⟨rfl, H⟩
end
end Go.Proofs.YtpdaapffkdejoaaGreat.Num
