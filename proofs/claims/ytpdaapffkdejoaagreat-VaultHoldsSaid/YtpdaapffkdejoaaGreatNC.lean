/- Floats: contracts of math's Frexp and Ldexp, of classes, keys and rates. -/
import Derived.Test.YtpdaapffkdejoaaGreatNB
namespace Go.Proofs.YtpdaapffkdejoaaGreat.Num
open Go Go.Proofs.YtpdaapffkdejoaaGreat.Cf
set_option linter.unusedVariables false
set_option linter.unusedSimpArgs false
set_option maxRecDepth 100000
theorem ord_self (d : Ieee.Datum) : d.order d = if d.isNaN then none else some .eq := by
  have c1 : ∀ x : Int, compare x x = .eq := fun x => Std.ReflCmp.compare_self
  have c2 : ∀ x : Nat, compare x x = .eq := fun x => Std.ReflCmp.compare_self
  cases d with
  | nan s t => rfl
  | infinity s => simp only [Ieee.Datum.order, c2]; rfl
  | number s m i => simp only [Ieee.Datum.order, c1]; rfl
theorem neq_fin {f : Nat} (h : f < 9218868437227405312) : fcmp .neq f f = false := by
  unfold fcmp
  rw [f64]
  simp only [Ieee.Format.order, ord_self, read_fin h]
  rfl
def rateOk (f : Nat) : Prop := f = 9223372036854775808 ∨ f ≤ 4607182418800017408
section
variable {W w : World} {l l' : List Assn}
theorem abs_spec {f : Nat} (hf : f < 18446744073709551616) (H : St W l w) : cl Tryz.prog 95 [.float .f64 f] tFlt w fun r w' => r = f % 9223372036854775808 ∧ St W l w' := by
  refine F95_ok ?_
  unfold F95
  rw [abs_bits hf, Int.toNat_natCast]
  exact ⟨rfl, H⟩
theorem isnan_spec {f : Nat} (H : St W l w) : cl Tryz.prog 108 [.float .f64 f] tBool w fun r w' => r = fcmp .neq f f ∧ St W l w' := by
  refine F108_ok ?_
  unfold F108
  exact ⟨rfl, H⟩
theorem inf_spec {f : Nat} {s : Int} (hf : f < 18446744073709551616) (H : St W l w) : cl Tryz.prog 73 [.float .f64 f, .int .i64 s] tBool w fun r w' => r = fcmp .gtr (if s = 0 then f % 9223372036854775808 else if s < 0 then Op.negFloat .f64 f else f) 9218868437227405311 ∧ St W l w' := by
  refine F73_ok ?_
  unfold F73 F73_j1
  by_cases c : s = 0
  · rw [if_pos (by simp [c]), if_pos c]
    refine cl_mono (abs_spec hf H) ?_
    rintro r w ⟨rfl, H⟩
    exact ⟨rfl, H⟩
  · rw [if_neg (by simpa using c), if_neg c]
    by_cases d : s < 0
    · rw [if_pos (by simpa using d), if_pos d]
      exact ⟨rfl, H⟩
    · rw [if_neg (by simpa using d), if_neg d]
      exact ⟨rfl, H⟩
theorem norm_spec {f : Nat} (h0 : 0 < f) (h : f < 9218868437227405312) (H : St W l w) : cl Tryz.prog 109 [.float .f64 f] (tTup2 tFlt (tInt .i64)) w fun r w' => (4503599627370496 ≤ f → r = (f, 0)) ∧ (f < 4503599627370496 → r.2 = -52 ∧ 4503599627370496 ≤ r.1 ∧ r.1 < 60 * 4503599627370496) ∧ St W l w' := by
  refine F109_ok ?_
  unfold F109
  refine cl_mono (abs_spec (by omega) H) ?_
  rintro r w ⟨rfl, H⟩
  rw [Nat.mod_eq_of_lt (by omega)]
  by_cases c : f < 4503599627370496
  · rw [if_pos (lss_sub c)]
    obtain ⟨z, hz, h1, h2⟩ := mul_sub h0 c
    refine ex_i z hz ?_
    exact ⟨fun h => by omega, fun _ => ⟨rfl, h1, h2⟩, H⟩
  · rw [if_neg (by rw [lss_nor (by omega) h]; simp)]
    exact ⟨fun _ => rfl, fun h => absurd h c, H⟩
theorem frexp0_spec {f : Nat} (h : f = 0 ∨ f = 9223372036854775808) (H : St W l w) : cl Tryz.prog 103 [.float .f64 f] (tTup2 tFlt (tInt .i64)) w fun r w' => r = (f, 0) ∧ St W l w' := by
  refine F103_ok ?_
  unfold F103
  rw [if_pos (by rcases h with rfl | rfl <;> rfl)]
  exact ⟨rfl, H⟩
theorem ldexp0_spec {f : Nat} {e : Int} (h : f = 0 ∨ f = 9223372036854775808) (H : St W l w) : cl Tryz.prog 105 [.float .f64 f, .int .i64 e] tFlt w fun r w' => r = f ∧ St W l w' := by
  refine F105_ok ?_
  unfold F105
  rw [if_pos (by rcases h with rfl | rfl <;> rfl)]
  exact ⟨rfl, H⟩
theorem shr52 (z : Nat) : Int.fdiv (z : Int) (2 ^ (min ((52 : Int)).toNat IntKind.u64.bits)) = ((z / 4503599627370496 : Nat) : Int) := by
  have : (2 : Int) ^ (min ((52 : Int)).toNat IntKind.u64.bits) = 4503599627370496 := by decide
  rw [this, Int.fdiv_eq_ediv_of_nonneg _ (by omega)]
  omega
theorem frexp_spec {f : Nat} (h0 : 0 < f) (h : f ≤ 4607182418800017408) (H : St W l w) : cl Tryz.prog 103 [.float .f64 f] (tTup2 tFlt (tInt .i64)) w fun r w' => (∃ (F : Nat) (e : Int), r = (1022 * 4503599627370496 + F, e) ∧ F < 4503599627370496 ∧ (4503599627370496 ≤ f → F = f % 4503599627370496 ∧ e = (f / 4503599627370496 : Nat) - 1022) ∧ (f < 4503599627370496 → -1100 ≤ e ∧ e ≤ -1000)) ∧ St W l w' := by
  refine F103_ok ?_
  unfold F103
  rw [if_neg (by rw [eql0 h0 (by omega)]; simp)]
  refine cl_mono (inf_spec (s := 0) (by omega) H) ?_
  rintro r w ⟨rfl, H⟩
  rw [if_pos rfl, Nat.mod_eq_of_lt (by omega), max_fin (by omega), if_neg (by simp)]
  refine cl_mono (isnan_spec H) ?_
  rintro r w ⟨rfl, H⟩
  rw [neq_fin (by omega)]
  unfold F103_j1
  rw [if_neg (by simp)]
  refine cl_mono (norm_spec h0 (by omega) H) ?_
  rintro ⟨z, e⟩ w ⟨h1, h2, H⟩
  have hz : z < 9223372036854775808 := by
    by_cases c : f < 4503599627370496
    · have := (h2 c).2.2
      simp only at this
      omega
    · have := h1 (by omega)
      cases this
      omega
  have hE : z / 4503599627370496 < 2048 := by omega
  dsimp only
  rw [shr52 z]
  refine ex_i ((z / 4503599627370496 : Nat) : Int) ⟨by omega, rfl⟩ ?_
  rw [(and2047 (x := ((z / 4503599627370496 : Nat) : Int)) (by omega) (by omega)).1, frac_bits hz]
  have hor := or_hi (E := 1022) (F := z % 4503599627370496) (by omega) (by omega)
  rw [show ((1022 * 4503599627370496 : Nat) : Int) = 4602678819172646912 from rfl] at hor
  rw [hor]
  have w1 : IntKind.i64.wrap ((z / 4503599627370496 : Nat) : Int) = ((z / 4503599627370496 : Nat) : Int) := wrap_i64 (by omega) (by omega)
  have w2 : IntKind.i64.wrap (((z / 4503599627370496 : Nat) : Int) - 1023) = ((z / 4503599627370496 : Nat) : Int) - 1023 := wrap_i64 (by omega) (by omega)
  have w3 : IntKind.i64.wrap (((z / 4503599627370496 : Nat) : Int) - 1023 + 1) = ((z / 4503599627370496 : Nat) : Int) - 1022 := by rw [wrap_i64 (by omega) (by omega)]; omega
  rw [w1, w2, w3]
  have he : e = 0 ∨ e = -52 := by
    by_cases c : f < 4503599627370496
    · exact .inr (h2 c).1
    · have := h1 (by omega)
      cases this
      exact .inl rfl
  have w4 : IntKind.i64.wrap (e + (((z / 4503599627370496 : Nat) : Int) - 1022)) = e + (((z / 4503599627370496 : Nat) : Int) - 1022) := wrap_i64 (by omega) (by omega)
  rw [w4]
  refine ⟨⟨z % 4503599627370496, _, by rw [Int.toNat_natCast], by omega, fun hn => ?_, fun hn => ?_⟩, H⟩
  · have := h1 hn
    cases this
    exact ⟨rfl, by omega⟩
  · obtain ⟨a, b, c⟩ := h2 hn
    simp only at a b c
    omega
theorem ldexp_spec {F : Nat} (h : F < 4503599627370496) (H : St W l w) : cl Tryz.prog 105 [.float .f64 (1022 * 4503599627370496 + F), .int .i64 53] tFlt w fun r w' => r = 1075 * 4503599627370496 + F ∧ St W l w' := by
  refine F105_ok ?_
  unfold F105
  rw [if_neg (by rw [eql0 (by omega) (by omega)]; simp)]
  refine cl_mono (inf_spec (s := 0) (by omega) H) ?_
  rintro r w ⟨rfl, H⟩
  rw [if_pos rfl, Nat.mod_eq_of_lt (by omega), max_fin (by omega), if_neg (by simp)]
  refine cl_mono (isnan_spec H) ?_
  rintro r w ⟨rfl, H⟩
  rw [neq_fin (by omega)]
  unfold F105_j1
  rw [if_neg (by simp)]
  refine cl_mono (norm_spec (by omega) (by omega) H) ?_
  rintro ⟨z, e⟩ w ⟨h1, _, H⟩
  have := h1 (by omega)
  cases this
  dsimp only
  rw [shr52 (1022 * 4503599627370496 + F)]
  refine ex_i ((1022 : Nat) : Int) ⟨by omega, by congr 1; omega⟩ ?_
  have w1 : IntKind.i64.wrap (((1022 : Nat) : Int)) = 1022 := by decide
  rw [w1, (and2047 (x := 1022) (by omega) (by omega)).2]
  have w2 : IntKind.i64.wrap (IntKind.i64.wrap (53 + 0) + IntKind.i64.wrap (1022 - 1023)) = 52 := by decide
  rw [w2, if_neg (by decide), if_neg (by decide), if_neg (by decide)]
  unfold F105_j2
  have w3 : IntKind.u64.wrap ((IntKind.u64.wrap (IntKind.i64.wrap (52 + 1023))) * 2 ^ (min ((52 : Int)).toNat IntKind.u64.bits)) = 4841369599423283200 := by decide
  rw [w3]
  refine ex_i 4841369599423283200 ⟨by omega, rfl⟩ ?_
  dsimp only
  rw [frac_bits (show 1022 * 4503599627370496 + F < 9223372036854775808 by omega)]
  have e1 : (1022 * 4503599627370496 + F) % 4503599627370496 = F := by omega
  rw [e1]
  have hor := or_hi (E := 1075) (F := F) (by omega) h
  rw [show ((1075 * 4503599627370496 : Nat) : Int) = 4841369599423283200 from rfl] at hor
  rw [hor, Int.toNat_natCast]
  refine ex_i (1075 * 4503599627370496 + F) (mul_one h) ?_
  exact ⟨rfl, H⟩
end
end Go.Proofs.YtpdaapffkdejoaaGreat.Num
