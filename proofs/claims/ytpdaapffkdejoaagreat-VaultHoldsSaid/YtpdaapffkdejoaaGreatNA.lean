/- Floats that are no less than nought and at most one: how they are read, and what is made of them. -/
import Derived.Test.YtpdaapffkdejoaaGreatSlL
import Derived.Test.YtpdaapffkdejoaaGreatFs
namespace Go.Proofs.YtpdaapffkdejoaaGreat.Num
open Go Go.Proofs.YtpdaapffkdejoaaGreat.Cf
set_option linter.unusedVariables false
set_option linter.unusedSimpArgs false
set_option maxRecDepth 100000
theorem f64 : FloatKind.f64.format = Ieee.double := rfl
def mant (f : Nat) : Nat := if f < 4503599627370496 then f else 4503599627370496 + f % 4503599627370496
def expo (f : Nat) : Nat := if f < 4503599627370496 then 0 else f / 4503599627370496 - 1
theorem sw : Ieee.double.signWeight = 9223372036854775808 := by decide
theorem bn : Ieee.double.binade = 4503599627370496 := by decide
theorem ir : Ieee.double.infRung = 9218868437227405312 := by decide
theorem lp_ : Ieee.double.leastPlace = -1074 := by decide
theorem fb_ : Ieee.double.fractionBits = 52 := rfl
theorem read_fin {f : Nat} (h : f < 9218868437227405312) : Ieee.double.read f = .number false (mant f) (-1074 + (expo f : Nat)) := by
  have e1 : (f / 9223372036854775808 % 2 == 1) = false := by rw [Nat.div_eq_of_lt (by omega)]; rfl
  have e2 : f % 9223372036854775808 = f := Nat.mod_eq_of_lt (by omega)
  unfold Ieee.Format.read mant expo
  simp only [sw, bn, ir, lp_, e1, e2]
  by_cases c : f < 4503599627370496
  · simp only [if_pos c]; rfl
  · simp only [if_neg c, if_pos h]
/-- What is below nought. -/
theorem read_neg {f : Nat} (h1 : 9223372036854775808 < f) (h2 : f < 18446744073709551616) : (∃ m i, 1 ≤ m ∧ Ieee.double.read f = .number true m i) ∨ Ieee.double.read f = .infinity true ∨ ∃ t, Ieee.double.read f = .nan true t := by
  have e1 : (f / 9223372036854775808 % 2 == 1) = true := by
    have : f / 9223372036854775808 = 1 := by omega
    rw [this]; rfl
  unfold Ieee.Format.read
  simp only [sw, bn, ir, lp_, e1]
  by_cases c1 : f % 9223372036854775808 < 4503599627370496
  · simp only [if_pos c1]
    exact .inl ⟨_, _, by omega, rfl⟩
  · simp only [if_neg c1]
    by_cases c2 : f % 9223372036854775808 < 9218868437227405312
    · simp only [if_pos c2]
      exact .inl ⟨_, _, by omega, rfl⟩
    · simp only [if_neg c2]
      by_cases c3 : f % 9223372036854775808 = 9218868437227405312
      · simp only [if_pos c3]
        exact .inr (.inl (by trivial))
      · simp only [if_neg c3]
        exact .inr (.inr ⟨_, rfl⟩)
theorem read_pos {f : Nat} (h : f < 9223372036854775808) : (∃ m i, Ieee.double.read f = .number false m i) ∨ Ieee.double.read f = .infinity false ∨ ∃ t, Ieee.double.read f = .nan false t := by
  have e1 : (f / 9223372036854775808 % 2 == 1) = false := by
    have : f / 9223372036854775808 = 0 := by omega
    rw [this]; rfl
  unfold Ieee.Format.read
  simp only [sw, bn, ir, lp_, e1]
  by_cases c1 : f % 9223372036854775808 < 4503599627370496
  · simp only [if_pos c1]
    exact .inl ⟨_, _, rfl⟩
  · simp only [if_neg c1]
    by_cases c2 : f % 9223372036854775808 < 9218868437227405312
    · simp only [if_pos c2]
      exact .inl ⟨_, _, rfl⟩
    · simp only [if_neg c2]
      by_cases c3 : f % 9223372036854775808 = 9218868437227405312
      · simp only [if_pos c3]
        exact .inr (.inl (by trivial))
      · simp only [if_neg c3]
        exact .inr (.inr ⟨_, rfl⟩)
theorem cmp_lt {a b : Int} (h : a < b) : compare a b = .lt := Std.compare_eq_lt.2 h
theorem cmp_gt {a b : Int} (h : b < a) : compare a b = .gt := Std.compare_eq_gt.2 h
theorem cmp_ge {a b : Int} (h : b ≤ a) : compare a b ≠ .lt := fun e => by
  have := Std.compare_eq_lt.1 e
  omega
theorem sg_neg {m k : Nat} (h : 1 ≤ m) : Ieee.signed true m k < 0 := by
  unfold Ieee.signed
  rw [if_pos rfl, Nat.shiftLeft_eq]
  have : 1 ≤ m * 2 ^ k := Nat.le_trans h (Nat.le_mul_of_pos_right _ (Nat.two_pow_pos k))
  omega
theorem sg_pos {m k : Nat} : 0 ≤ Ieee.signed false m k := by
  unfold Ieee.signed
  rw [if_neg (by simp)]
  exact Int.natCast_nonneg _
theorem sg_eq (m k : Nat) : Ieee.signed false m k = ((m * 2 ^ k : Nat) : Int) := by
  unfold Ieee.signed
  rw [if_neg (by simp), Nat.shiftLeft_eq]
theorem sg_pos1 {m k : Nat} (h : 1 ≤ m) : 0 < Ieee.signed false m k := by
  rw [sg_eq]
  have : 1 ≤ m * 2 ^ k := Nat.le_trans h (Nat.le_mul_of_pos_right _ (Nat.two_pow_pos k))
  omega
theorem mant_pos {f : Nat} (h : 0 < f) : 1 ≤ mant f := by unfold mant; split <;> omega
theorem read_zero : Ieee.double.read 0 = .number false 0 (-1074) := by rw [read_fin (by omega)]; rfl
/-! ### comparisons -/
theorem lss0_pos {f : Nat} (h : f < 9223372036854775808) : fcmp .lss f 0 = false := by
  unfold fcmp
  rw [f64]
  simp only [Ieee.Format.order, read_zero]
  rcases read_pos h with ⟨m, i, e⟩ | e | ⟨t, e⟩
  · rw [e]
    simp only [Ieee.Datum.order]
    have : Ieee.signed false 0 (-1074 - min i (-1074)).toNat = 0 := by rw [sg_eq]; simp
    rw [this]
    have hc := cmp_ge (sg_pos (m := m) (k := (i - min i (-1074)).toNat))
    cases hh : compare (Ieee.signed false m (i - min i (-1074)).toNat) 0 with
    | lt => exact absurd hh hc
    | eq => rfl
    | gt => rfl
  · rw [e]; rfl
  · rw [e]; rfl
theorem lss0_neg {f : Nat} (h1 : 9223372036854775808 < f) (h2 : f < 18446744073709551616) (hn : fcmp .neq f f = false) : fcmp .lss f 0 = true := by
  unfold fcmp at *
  rw [f64] at *
  simp only [Ieee.Format.order, read_zero] at *
  rcases read_neg h1 h2 with ⟨m, i, hm, e⟩ | e | ⟨t, e⟩
  · rw [e]
    simp only [Ieee.Datum.order]
    have : Ieee.signed false 0 (-1074 - min i (-1074)).toNat = 0 := by rw [sg_eq]; simp
    rw [this, cmp_lt (sg_neg hm)]
    rfl
  · rw [e]; rfl
  · rw [e] at hn
    cases hn
theorem eql0 {f : Nat} (h0 : 0 < f) (h : f < 9218868437227405312) : fcmp .eql f 0 = false := by
  unfold fcmp
  rw [f64]
  simp only [Ieee.Format.order, read_zero, read_fin h, Ieee.Datum.order]
  have : Ieee.signed false 0 (-1074 - min (-1074 + (expo f : Int)) (-1074)).toNat = 0 := by rw [sg_eq]; simp
  rw [this, cmp_gt (sg_pos1 (mant_pos h0))]
  rfl
theorem read_max : Ieee.double.read 9218868437227405311 = .number false 9007199254740991 971 := by rw [read_fin (by omega)]; rfl
theorem max_neg {f : Nat} (h1 : 9223372036854775808 < f) (h2 : f < 18446744073709551616) : fcmp .gtr f 9218868437227405311 = false := by
  unfold fcmp
  rw [f64]
  simp only [Ieee.Format.order, read_max]
  rcases read_neg h1 h2 with ⟨m, i, hm, e⟩ | e | ⟨t, e⟩
  · rw [e]
    simp only [Ieee.Datum.order]
    rw [cmp_lt (Int.lt_of_lt_of_le (sg_neg hm) sg_pos)]
    rfl
  · rw [e]; rfl
  · rw [e]; rfl
theorem max_fin {f : Nat} (h : f ≤ 4611686018427387904) : fcmp .gtr f 9218868437227405311 = false := by
  unfold fcmp
  rw [f64]
  simp only [Ieee.Format.order, read_max, read_fin (show f < 9218868437227405312 by omega), Ieee.Datum.order]
  have he : expo f ≤ 1023 := by unfold expo; split <;> omega
  have hm : mant f < 9007199254740992 := by unfold mant; split <;> omega
  have hmin : min (-1074 + (expo f : Int)) 971 = -1074 + (expo f : Int) := by omega
  rw [hmin, sg_eq, sg_eq]
  have e1 : (-1074 + (expo f : Int) - (-1074 + (expo f : Int))).toNat = 0 := by omega
  obtain ⟨k, hk⟩ : ∃ k, (971 - (-1074 + (expo f : Int))).toNat = k + 1 := ⟨(970 - (-1074 + (expo f : Int))).toNat, by omega⟩
  rw [e1, hk]
  have h2 : 1 ≤ 2 ^ k := Nat.two_pow_pos k
  have h3 : 9007199254740991 * 2 ^ (k + 1) = 9007199254740991 * 2 * 2 ^ k := by rw [Nat.pow_succ]; omega
  have h4 : 9007199254740991 * 2 * 1 ≤ 9007199254740991 * 2 * 2 ^ k := Nat.mul_le_mul_left _ h2
  rw [cmp_lt (by rw [h3]; omega)]
  rfl
/-- Below the least one that is normal. -/
theorem lss_sub {f : Nat} (h : f < 4503599627370496) : fcmp .lss f 4503599627370496 = true := by
  have e1 : Ieee.double.read 4503599627370496 = .number false 4503599627370496 (-1074) := by rw [read_fin (by omega)]; rfl
  have e2 : mant f = f := by unfold mant; rw [if_pos h]
  have e3 : expo f = 0 := by unfold expo; rw [if_pos h]
  unfold fcmp
  rw [f64]
  simp only [Ieee.Format.order, e1, read_fin (show f < 9218868437227405312 by omega), Ieee.Datum.order, e2, e3, sg_eq]
  rw [cmp_lt (by simp; omega)]
  rfl
theorem lss_nor {f : Nat} (h0 : 4503599627370496 ≤ f) (h : f < 9218868437227405312) : fcmp .lss f 4503599627370496 = false := by
  have e1 : Ieee.double.read 4503599627370496 = .number false 4503599627370496 (-1074) := by rw [read_fin (by omega)]; rfl
  have e2 : 4503599627370496 ≤ mant f := by unfold mant; rw [if_neg (by omega)]; omega
  unfold fcmp
  rw [f64]
  simp only [Ieee.Format.order, e1, read_fin h, Ieee.Datum.order, sg_eq]
  have hmin : min (-1074 + (expo f : Int)) (-1074) = -1074 := by omega
  rw [hmin]
  have h1 : 4503599627370496 * 2 ^ (-1074 - -1074 : Int).toNat ≤ mant f * 2 ^ (-1074 + (expo f : Int) - -1074).toNat := by
    have : (-1074 - -1074 : Int).toNat = 0 := by decide
    rw [this]
    exact Nat.mul_le_mul e2 (Nat.two_pow_pos _)
  have hc := cmp_ge (Int.ofNat_le.2 h1)
  cases hh : compare ((mant f * 2 ^ (-1074 + (expo f : Int) - -1074).toNat : Nat) : Int) ((4503599627370496 * 2 ^ (-1074 - -1074 : Int).toNat : Nat) : Int) with
  | lt => exact absurd hh hc
  | eq => rfl
  | gt => rfl
/-! ### products -/
theorem cut_exact {n k q : Nat} (h : n = q * 2 ^ k) (hk : k ≤ n.log2 + 2) (neg : Bool) : Ieee.Toward.even.cut neg n k = q := by
  unfold Ieee.Toward.cut
  simp only [Nat.min_eq_left hk, Nat.shiftLeft_eq, Nat.one_mul]
  have hp := Nat.two_pow_pos k
  have e1 : n / 2 ^ k = q := by rw [h]; exact Nat.mul_div_cancel _ hp
  have e2 : n % 2 ^ k = 0 := by rw [h]; exact Nat.mul_mod_left _ _
  rw [e1, e2]
  have e3 : (decide (2 ^ k < 2 * 0) || (2 ^ k == 2 * 0) && q % 2 == 1) = false := by
    have : (2 ^ k == 2 * 0) = false := by
      rw [beq_eq_false_iff_ne]
      omega
    rw [this]
    simp
  rw [e3]
  rfl
theorem mul_one {F : Nat} (h : F < 4503599627370496) : FArith .mul 4607182418800017408 (1075 * 4503599627370496 + F) (1075 * 4503599627370496 + F) := by
  have e1 : Ieee.double.read 4607182418800017408 = .number false 4503599627370496 (-52) := by rw [read_fin (by omega)]; rfl
  have e2 : Ieee.double.read (1075 * 4503599627370496 + F) = .number false (4503599627370496 + F) 0 := by
    rw [read_fin (by omega)]
    have c1 : mant (1075 * 4503599627370496 + F) = 4503599627370496 + F := by unfold mant; rw [if_neg (by omega)]; omega
    have c2 : expo (1075 * 4503599627370496 + F) = 1074 := by unfold expo; rw [if_neg (by omega)]; omega
    rw [c1, c2]; rfl
  unfold FArith floatBits
  rw [f64]
  simp only [Ieee.Format.mul, e1, e2, Ieee.Datum.product, Option.map_some, Ieee.Format.write]
  congr 1
  unfold Ieee.Format.nearest
  have hne : ¬ 4503599627370496 * (4503599627370496 + F) = 0 := by omega
  have hlog : (4503599627370496 * (4503599627370496 + F)).log2 = 104 := by
    rw [Nat.log2_eq_iff hne]
    omega
  rw [if_neg hne]
  simp only [hlog, fb_, lp_, bn, ir]
  have hlast : max ((-52 : Int) + 0 + ((104 : Nat) : Int) - ((52 : Nat) : Int)) (-1074) = 0 := by decide
  rw [hlast]
  have hs1 : ((-52 : Int) + 0 - 0).toNat = 0 := by decide
  have hs2 : ((0 : Int) - (-52 + 0)).toNat = 52 := by decide
  have hs3 : ((0 : Int) - -1074).toNat = 1074 := by decide
  rw [hs1, hs2, hs3, Nat.shiftLeft_zero]
  rw [cut_exact (q := 4503599627370496 + F) (by omega) (by rw [hlog]; omega)]
  show min _ _ = _
  omega
theorem to_int {F : Nat} (h : F < 4503599627370496) : F2I .i64 (1075 * 4503599627370496 + F) ((4503599627370496 + F : Nat) : Int) := by
  have e2 : Ieee.double.read (1075 * 4503599627370496 + F) = .number false (4503599627370496 + F) 0 := by
    rw [read_fin (by omega)]
    have c1 : mant (1075 * 4503599627370496 + F) = 4503599627370496 + F := by unfold mant; rw [if_neg (by omega)]; omega
    have c2 : expo (1075 * 4503599627370496 + F) = 1074 := by unfold expo; rw [if_neg (by omega)]; omega
    rw [c1, c2]; rfl
  unfold F2I floatToIntVal FloatKind.decode
  rw [f64, e2]
  have hcut : Ieee.Toward.zero.cut false ((4503599627370496 + F) <<< (0 : Int).toNat) (-(0 : Int)).toNat = 4503599627370496 + F := by
    unfold Ieee.Toward.cut
    simp
  simp only [Ieee.Datum.toInt, Ieee.Datum.integral, hcut, sg_eq]
  have m1 : IntKind.i64.min = -9223372036854775808 := rfl
  have m2 : IntKind.i64.max = 9223372036854775807 := rfl
  rw [m1, m2]
  simp
  omega
theorem to_int0 : F2I .i64 0 0 ∧ F2I .i64 9223372036854775808 0 := by
  refine ⟨?_, ?_⟩
  · unfold F2I; rfl
  · unfold F2I; rfl
theorem sub_log {f k : Nat} (h0 : 0 < f) (h : f < 2 ^ 52) (hk : f.log2 = k) : k < 52 ∧ (f * 2 ^ 52).log2 = k + 52 ∧ 2 ^ 52 ≤ f * 2 ^ (52 - k) ∧ f * 2 ^ (52 - k) < 2 * 2 ^ 52 ∧ f * 2 ^ 52 = f * 2 ^ (52 - k) * 2 ^ k := by
  have hlog := (Nat.log2_eq_iff (Nat.ne_of_gt h0)).1 hk
  have hk52 : k < 52 := by
    apply Classical.byContradiction
    intro hc
    have h1 : 2 ^ 52 ≤ 2 ^ k := Nat.pow_le_pow_right (Nat.zero_lt_succ 1) (Nat.le_of_not_lt hc)
    exact absurd (Nat.lt_of_lt_of_le h h1) (Nat.not_lt_of_le hlog.1)
  obtain ⟨j, hj⟩ : ∃ j, j + k = 52 := ⟨52 - k, by omega⟩
  have hjk : 52 - k = j := by omega
  have hp : (2 : Nat) ^ 52 = 2 ^ j * 2 ^ k := by rw [← Nat.pow_add, hj]
  rw [hjk]
  generalize (2 : Nat) ^ 52 = N at *
  have hN : 0 < N := by rw [hp]; exact Nat.mul_pos (Nat.two_pow_pos _) (Nat.two_pow_pos _)
  refine ⟨hk52, ?_, ?_, ?_, ?_⟩
  · rw [Nat.log2_eq_iff (Nat.ne_of_gt (Nat.mul_pos h0 hN))]
    have e3 : (2 : Nat) ^ (k + 52) = 2 ^ k * N := by rw [hp, Nat.mul_comm (2 ^ j), ← Nat.mul_assoc, ← Nat.pow_add, ← Nat.pow_add]; congr 1; omega
    have e4 : (2 : Nat) ^ (k + 52 + 1) = 2 ^ (k + 1) * N := by rw [Nat.pow_succ, e3, Nat.pow_succ, Nat.mul_assoc, Nat.mul_assoc, Nat.mul_comm N]
    rw [e3, e4]
    exact ⟨Nat.mul_le_mul_right _ hlog.1, Nat.mul_lt_mul_of_pos_right hlog.2 hN⟩
  · have := Nat.mul_le_mul_right (2 ^ j) hlog.1
    rw [Nat.mul_comm (2 ^ k), ← hp] at this
    exact this
  · have := Nat.mul_lt_mul_of_pos_right hlog.2 (Nat.two_pow_pos j)
    have e5 : (2 : Nat) ^ (k + 1) * 2 ^ j = 2 * N := by rw [hp, Nat.pow_succ, Nat.mul_comm (2 ^ j), Nat.mul_comm (2 ^ k) 2, Nat.mul_assoc]
    rw [e5] at this
    exact this
  · rw [hp, Nat.mul_assoc]
/-! ### bits -/
theorem and_not {x m M : Nat} (hx : x < 18446744073709551616) (hm : (~~~ BitVec.ofNat 64 m) = BitVec.ofNat 64 M) (hM : M < 18446744073709551616) : bits .andNot .u64 (x : Int) (m : Int) = ((x &&& M : Nat) : Int) := by
  have hlt : x &&& M < 18446744073709551616 := Nat.lt_of_le_of_lt Nat.and_le_left hx
  simp only [bits, BitVec.ofInt_natCast]
  have : (BitVec.ofNat IntKind.u64.bits x &&& ~~~ BitVec.ofNat IntKind.u64.bits m).toNat = x &&& M := by
    show (BitVec.ofNat 64 x &&& ~~~ BitVec.ofNat 64 m).toNat = x &&& M
    rw [hm, BitVec.toNat_and, BitVec.toNat_ofNat, BitVec.toNat_ofNat, Nat.mod_eq_of_lt hx, Nat.mod_eq_of_lt hM]
  rw [this]
  exact wid_u64 _ (by omega) (by omega)
theorem abs_bits {x : Nat} (hx : x < 18446744073709551616) : bits .andNot .u64 (x : Int) 9223372036854775808 = ((x % 9223372036854775808 : Nat) : Int) := by
  have := and_not (m := 9223372036854775808) (M := 9223372036854775807) hx (by decide) (by omega)
  rw [show ((9223372036854775808 : Nat) : Int) = 9223372036854775808 from rfl] at this
  rw [this]
  have e : x &&& 9223372036854775807 = x % 2 ^ 63 := Nat.and_two_pow_sub_one_eq_mod x 63
  rw [e]
theorem frac_bits {x : Nat} (hx : x < 9223372036854775808) : bits .andNot .u64 (x : Int) 9218868437227405312 = ((x % 4503599627370496 : Nat) : Int) := by
  have := and_not (m := 9218868437227405312) (M := 9227875636482146303) (show x < 18446744073709551616 by omega) (by decide) (by omega)
  rw [show ((9218868437227405312 : Nat) : Int) = 9218868437227405312 from rfl] at this
  rw [this]
  have e0 : x &&& 9223372036854775807 = x % 2 ^ 63 := Nat.and_two_pow_sub_one_eq_mod x 63
  have e1 : x = x &&& 9223372036854775807 := by rw [e0]; omega
  have e2 : x &&& 9227875636482146303 = x &&& 4503599627370495 := by
    conv => lhs; rw [e1]
    rw [Nat.and_assoc]
    rfl
  have e3 : x &&& 4503599627370495 = x % 2 ^ 52 := Nat.and_two_pow_sub_one_eq_mod x 52
  rw [e2, e3]
theorem or_hi {E F : Nat} (hE : E < 2048) (hF : F < 4503599627370496) : bits .or .u64 (F : Int) ((E * 4503599627370496 : Nat) : Int) = ((E * 4503599627370496 + F : Nat) : Int) := by
  have h1 := (bits_nat .u64 64 (by decide) wid_u64 F (E * 4503599627370496) (by omega) (by omega)).2
  have h2 := (bits_nat .u64 64 (by decide) wid_u64 (E * 4503599627370496) F (by omega) (by omega)).2
  rw [h1, Nat.or_comm, ← h2]
  rw [bits_join .u64 64 (by decide) wid_u64 52 _ _ (by omega) (by omega) (by omega) (by omega) (by omega) (by omega)]
  omega
theorem and2047 {x : Int} (h0 : 0 ≤ x) (h1 : x < 2048) : bits .and .u64 x 2047 = x ∧ bits .and .i64 x 2047 = x := by
  constructor
  · have := bits_mask .u64 64 (by decide) wid_u64 11 (by decide) x h0 (by omega)
    rw [show (2 : Int) ^ 11 - 1 = 2047 from rfl] at this
    rw [this]; omega
  · have := bits_mask .i64 63 (by decide) (fun n h0 h1 => wrap_i64 (by omega) (by omega)) 11 (by decide) x h0 (by omega)
    rw [show (2 : Int) ^ 11 - 1 = 2047 from rfl] at this
    rw [this]; omega
end Go.Proofs.YtpdaapffkdejoaaGreat.Num
