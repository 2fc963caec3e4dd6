/- The product that makes a float normal. -/
import Derived.Test.YtpdaapffkdejoaaGreatNA
namespace Go.Proofs.YtpdaapffkdejoaaGreat.Num
open Go Go.Proofs.YtpdaapffkdejoaaGreat.Cf
set_option linter.unusedVariables false
set_option linter.unusedSimpArgs false
set_option maxRecDepth 100000
/-- What is made normal. -/
theorem mul_sub {f : Nat} (h0 : 0 < f) (h : f < 4503599627370496) : ∃ z, FArith .mul f 4841369599423283200 z ∧ 4503599627370496 ≤ z ∧ z < 60 * 4503599627370496 := by
  have e1 : Ieee.double.read 4841369599423283200 = .number false 4503599627370496 0 := by rw [read_fin (by omega)]; rfl
  have e2 : Ieee.double.read f = .number false f (-1074) := by
    rw [read_fin (by omega)]
    have c1 : mant f = f := by unfold mant; rw [if_pos h]
    have c2 : expo f = 0 := by unfold expo; rw [if_pos h]
    rw [c1, c2]; rfl
  have hp1 : (2 : Nat) ^ 52 = 4503599627370496 := by decide
  obtain ⟨k, hk⟩ : ∃ k, f.log2 = k := ⟨_, rfl⟩
  obtain ⟨hk52, hlog2, hq1, hq2, hx⟩ := sub_log h0 (by rw [hp1]; exact h) hk
  rw [hp1] at hlog2 hq1 hq2 hx
  generalize f * 2 ^ (52 - k) = q at *
  have hne : ¬ f * 4503599627370496 = 0 := by omega
  refine ⟨k * 4503599627370496 + q, ?_, by omega, by omega⟩
  unfold FArith floatBits
  rw [f64]
  simp only [Ieee.Format.mul, e1, e2, Ieee.Datum.product, Option.map_some, Ieee.Format.write]
  congr 1
  unfold Ieee.Format.nearest
  rw [if_neg hne]
  simp only [hlog2, fb_, lp_, bn, ir]
  have hlast : max ((-1074 : Int) + 0 + ((k + 52 : Nat) : Int) - ((52 : Nat) : Int)) (-1074) = -1074 + (k : Int) := by omega
  rw [hlast]
  have hs1 : ((-1074 : Int) + 0 - (-1074 + (k : Int))).toNat = 0 := by omega
  have hs2 : ((-1074 + (k : Int)) - (-1074 + 0)).toNat = k := by omega
  have hs3 : ((-1074 + (k : Int)) - -1074).toNat = k := by omega
  rw [hs1, hs2, hs3, Nat.shiftLeft_zero]
  rw [cut_exact (q := q) hx (by rw [hlog2]; omega)]
  unfold Ieee.Format.word
  rw [if_neg (by simp)]
  exact Nat.min_eq_left (by omega)
end Go.Proofs.YtpdaapffkdejoaaGreat.Num
