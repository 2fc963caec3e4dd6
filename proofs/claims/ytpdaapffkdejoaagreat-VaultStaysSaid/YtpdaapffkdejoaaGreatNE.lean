/- Fees: contracts of num's Times and of amount. -/
import Derived.Test.YtpdaapffkdejoaaGreatND
namespace Go.Proofs.YtpdaapffkdejoaaGreat.Num
open Go Go.Proofs.YtpdaapffkdejoaaGreat.Cf
set_option linter.unusedVariables false
set_option linter.unusedSimpArgs false
set_option maxRecDepth 100000
/-- So much of an amount by a rate. -/
def feeF (n : Int) (f : Nat) : Int := if f < 4503599627370496 ∨ f = 9223372036854775808 then 0 else ((n.toNat * (4503599627370496 + f % 4503599627370496) / 2 ^ (1075 - f / 4503599627370496) : Nat) : Int)
theorem div52 (N k : Nat) (h : 52 ≤ k) : N / 2 ^ k ≤ N / 4503599627370496 := by
  have hp : (2 : Nat) ^ 52 = 4503599627370496 := by decide
  rw [← hp]
  exact Nat.div_le_div_left (Nat.pow_le_pow_right (by omega) h) (Nat.two_pow_pos _)
theorem feeF_le {n : Int} {f : Nat} (h0 : 0 ≤ n) (h1 : n ≤ 1000000000000000) (h : rateOk f) : 0 ≤ feeF n f ∧ feeF n f ≤ 2 * n := by
  unfold feeF
  split
  · omega
  · rename_i hc
    have hf : f ≤ 4607182418800017408 := by
      rcases h with h | h
      · omega
      · exact h
    have hd := div52 (n.toNat * (4503599627370496 + f % 4503599627370496)) (1075 - f / 4503599627370496) (by omega)
    have hm : n.toNat * (4503599627370496 + f % 4503599627370496) ≤ n.toNat * (2 * 4503599627370496) := Nat.mul_le_mul_left _ (by omega)
    refine ⟨Int.natCast_nonneg _, ?_⟩
    generalize n.toNat * (4503599627370496 + f % 4503599627370496) / 2 ^ (1075 - f / 4503599627370496) = Q at *
    generalize n.toNat * (4503599627370496 + f % 4503599627370496) = X at *
    omega
section
variable {W w : World} {l l' : List Assn}
theorem fdivN (x : Nat) (k : Nat) (hk : k ≤ 64) (b : Int) (hb : b = (k : Int)) : Int.fdiv (x : Int) (2 ^ (min b.toNat IntKind.u64.bits)) = ((x / 2 ^ k : Nat) : Int) := by
  subst hb
  have e : min ((k : Int)).toNat IntKind.u64.bits = k := by
    rw [Int.toNat_natCast]
    exact Nat.min_eq_left hk
  rw [e, Int.fdiv_eq_ediv_of_nonneg _ (Int.le_of_lt (Int.pow_pos (by omega)))]
  rw [Int.natCast_ediv]
  congr 1
theorem size_spec {n : Int} (h0 : 0 ≤ n) (h1 : n ≤ 9223372036854775807) (H : St W l w) : cl Tryz.prog 92 [.int .i64 n] (tInt .u64) w fun r w' => r = n ∧ St W l w' := by
  refine F92_ok ?_
  unfold F92
  rw [if_neg (by simp; omega)]
  exact ⟨wid_u64 n h0 (by omega), H⟩
theorem signed_spec {n : Int} (h0 : 0 ≤ n) (h1 : n < 9223372036854775808) (H : St W l w) : cl Tryz.prog 93 [.bool false, .int .u64 n] (tTup2 (tInt .i64) (tInt .i64)) w fun r w' => r = (n, 0) ∧ St W l w' := by
  refine F93_ok ?_
  unfold F93
  rw [if_neg (by simp), if_pos (by simp; omega), wrap_i64 (by omega) (by omega)]
  exact ⟨rfl, H⟩
theorem mul64_spec {x y : Nat} (hx : x < 18446744073709551616) (hy : y < 18446744073709551616) (H : St W l w) : cl Tryz.prog 91 [.int .u64 (x : Int), .int .u64 (y : Int)] (tTup2 (tInt .u64) (tInt .u64)) w fun r w' => r = (((x * y / 18446744073709551616 : Nat) : Int), ((x * y % 18446744073709551616 : Nat) : Int)) ∧ St W l w' := by
  refine F91_ok ?_
  unfold F91
  have p32 : (2 : Nat) ^ 32 = 4294967296 := by decide
  have m32 : ∀ z : Nat, z < 18446744073709551616 → bits .and .u64 (z : Int) 4294967295 = ((z % 4294967296 : Nat) : Int) := by
    intro z hz
    have := bits_mask .u64 64 (by decide) wid_u64 32 (by decide) (z : Int) (by omega) (by omega)
    rw [show (2 : Int) ^ 32 - 1 = 4294967295 from rfl] at this
    rw [this]
    omega
  have s32 : ∀ z : Nat, Int.fdiv (z : Int) (2 ^ (min ((32 : Int)).toNat IntKind.u64.bits)) = ((z / 4294967296 : Nat) : Int) := by
    intro z
    rw [fdivN z 32 (by omega) 32 rfl, p32]
  have wn : ∀ z : Nat, z < 18446744073709551616 → IntKind.u64.wrap (z : Int) = (z : Int) := fun z hz => wid_u64 _ (by omega) (by omega)
  rw [m32 x hx, m32 y hy]
  obtain ⟨x1, hx1⟩ : ∃ z, x / 4294967296 = z := ⟨_, rfl⟩
  obtain ⟨x0, hx0⟩ : ∃ z, x % 4294967296 = z := ⟨_, rfl⟩
  obtain ⟨y1, hy1⟩ : ∃ z, y / 4294967296 = z := ⟨_, rfl⟩
  obtain ⟨y0, hy0⟩ : ∃ z, y % 4294967296 = z := ⟨_, rfl⟩
  have bx1 : x1 ≤ 4294967295 := by omega
  have bx0 : x0 ≤ 4294967295 := by omega
  have by1 : y1 ≤ 4294967295 := by omega
  have by0 : y0 ≤ 4294967295 := by omega
  have hx2 : x = x1 * 4294967296 + x0 := by omega
  have hy2 : y = y1 * 4294967296 + y0 := by omega
  refine ex_i (x1 : Int) ⟨by omega, by rw [s32 x, hx1]⟩ ?_
  refine ex_i (y1 : Int) ⟨by omega, by rw [s32 y, hy1]⟩ ?_
  rw [hx0, hy0]
  have b00 : x0 * y0 ≤ 4294967295 * 4294967295 := Nat.mul_le_mul bx0 by0
  have b01 : x0 * y1 ≤ 4294967295 * 4294967295 := Nat.mul_le_mul bx0 by1
  have b10 : x1 * y0 ≤ 4294967295 * 4294967295 := Nat.mul_le_mul bx1 by0
  have b11 : x1 * y1 ≤ 4294967295 * 4294967295 := Nat.mul_le_mul bx1 by1
  have hxy : x * y = x1 * y1 * 18446744073709551616 + (x1 * y0 + x0 * y1) * 4294967296 + x0 * y0 := by
    rw [hx2, hy2, Nat.add_mul, Nat.mul_add, Nat.mul_add]
    have e1 : x1 * 4294967296 * (y1 * 4294967296) = x1 * y1 * 18446744073709551616 := by rw [Nat.mul_mul_mul_comm]
    have e2 : x1 * 4294967296 * y0 = x1 * y0 * 4294967296 := by rw [Nat.mul_assoc, Nat.mul_comm 4294967296, ← Nat.mul_assoc]
    have e3 : x0 * (y1 * 4294967296) = x0 * y1 * 4294967296 := by rw [Nat.mul_assoc]
    rw [e1, e2, e3, Nat.add_mul]
    omega
  have c00 : ((x0 : Int) * (y0 : Int)) = ((x0 * y0 : Nat) : Int) := by rw [Int.natCast_mul]
  have c01 : ((x0 : Int) * (y1 : Int)) = ((x0 * y1 : Nat) : Int) := by rw [Int.natCast_mul]
  have c10 : ((x1 : Int) * (y0 : Int)) = ((x1 * y0 : Nat) : Int) := by rw [Int.natCast_mul]
  have c11 : ((x1 : Int) * (y1 : Int)) = ((x1 * y1 : Nat) : Int) := by rw [Int.natCast_mul]
  have cxy : ((x : Int) * (y : Int)) = ((x * y : Nat) : Int) := by rw [Int.natCast_mul]
  rw [c00, c01, c10, c11, cxy]
  generalize x0 * y0 = d at *
  generalize x0 * y1 = c at *
  generalize x1 * y0 = b at *
  generalize x1 * y1 = a at *
  generalize x * y = N at *
  rw [wn d (by omega), wn b (by omega), wn c (by omega), wn a (by omega)]
  refine ex_i ((d / 4294967296 : Nat) : Int) ⟨by omega, (s32 d).symm⟩ ?_
  have e1 : (b : Int) + ((d / 4294967296 : Nat) : Int) = ((b + d / 4294967296 : Nat) : Int) := by omega
  rw [e1, wn _ (by omega), m32 _ (by omega)]
  refine ex_i (((b + d / 4294967296) / 4294967296 : Nat) : Int) ⟨by omega, (s32 _).symm⟩ ?_
  have e2 : (((b + d / 4294967296) % 4294967296 : Nat) : Int) + (c : Int) = (((b + d / 4294967296) % 4294967296 + c : Nat) : Int) := by omega
  rw [e2, wn _ (by omega)]
  refine ex_i ((((b + d / 4294967296) % 4294967296 + c) / 4294967296 : Nat) : Int) ⟨by omega, (s32 _).symm⟩ ?_
  have e3 : (a : Int) + (((b + d / 4294967296) / 4294967296 : Nat) : Int) = ((a + (b + d / 4294967296) / 4294967296 : Nat) : Int) := by omega
  rw [e3, wn _ (by omega)]
  have e4 : ((a + (b + d / 4294967296) / 4294967296 : Nat) : Int) + ((((b + d / 4294967296) % 4294967296 + c) / 4294967296 : Nat) : Int) = ((a + (b + d / 4294967296) / 4294967296 + ((b + d / 4294967296) % 4294967296 + c) / 4294967296 : Nat) : Int) := by omega
  rw [e4, wn _ (by omega)]
  have e5 : IntKind.u64.wrap (N : Int) = ((N % 18446744073709551616 : Nat) : Int) := by rw [wr_u64]; omega
  rw [e5]
  refine ⟨?_, H⟩
  have e6 : a + (b + d / 4294967296) / 4294967296 + ((b + d / 4294967296) % 4294967296 + c) / 4294967296 = N / 18446744073709551616 := by omega
  rw [e6]
theorem down_spec {N k : Nat} (hN : N < 2 ^ 104) (hk : 52 ≤ k) (hk2 : k ≤ 4000) (H : St W l w) : cl Tryz.prog 94 [.int .u64 ((N / 18446744073709551616 : Nat) : Int), .int .u64 ((N % 18446744073709551616 : Nat) : Int), .int .u64 (k : Int)] (tTup3 (tInt .u64) tBool tBool) w fun r w' => r.1 = ((N / 2 ^ k : Nat) : Int) ∧ r.2.2 = true ∧ St W l w' := by
  have p64 : (2 : Nat) ^ 64 = 18446744073709551616 := by decide
  have p104 : (2 : Nat) ^ 104 = 18446744073709551616 * 1099511627776 := by decide
  refine F94_ok ?_
  unfold F94
  by_cases c1 : 128 ≤ k
  · rw [if_pos (by simp; omega)]
    have : N / 2 ^ k = 0 := Nat.div_eq_of_lt (Nat.lt_of_lt_of_le hN (Nat.pow_le_pow_right (by omega) (by omega)))
    rw [this]
    exact ⟨rfl, rfl, H⟩
  · rw [if_neg (by simp; omega)]
    by_cases c2 : 64 < k
    · rw [if_pos (by simp; omega)]
      have w1 : IntKind.u64.wrap ((k : Int) - 64) = ((k - 64 : Nat) : Int) := by rw [wid_u64 _ (by omega) (by omega)]; omega
      have w2 : IntKind.u64.wrap ((128 : Int) - (k : Int)) = ((128 - k : Nat) : Int) := by rw [wid_u64 _ (by omega) (by omega)]; omega
      rw [w1, w2]
      refine ex_i _ ⟨by omega, (fdivN (N / 18446744073709551616) (k - 64) (by omega) _ rfl).symm⟩ ?_
      refine ex_i _ ⟨by omega, rfl⟩ ?_
      refine ⟨?_, rfl, H⟩
      have : 2 ^ k = 18446744073709551616 * 2 ^ (k - 64) := by rw [← p64, ← Nat.pow_add]; congr 1; omega
      simp only
      rw [this, Nat.div_div_eq_div_mul]
    · rw [if_neg (by simp; omega)]
      by_cases c3 : k = 64
      · subst c3
        rw [if_pos (by simp)]
        exact ⟨by rw [p64], rfl, H⟩
      · rw [if_neg (by simp; omega)]
        have w1 : IntKind.u64.wrap ((64 : Int) - (k : Int)) = ((64 - k : Nat) : Int) := by rw [wid_u64 _ (by omega) (by omega)]; omega
        rw [w1]
        obtain ⟨j, hj⟩ : ∃ j, j + k = 64 := ⟨64 - k, by omega⟩
        have hjk : 64 - k = j := by omega
        rw [hjk]
        have hpj : (2 : Nat) ^ j * 2 ^ k = 18446744073709551616 := by rw [← Nat.pow_add, hj, p64]
        have hk52 : 4503599627370496 ≤ 2 ^ k := by
          have : (2 : Nat) ^ 52 = 4503599627370496 := by decide
          rw [← this]
          exact Nat.pow_le_pow_right (by omega) hk
        have hj12 : 2 ^ j ≤ 4096 := by
          have : (2 : Nat) ^ 12 = 4096 := by decide
          rw [← this]
          exact Nat.pow_le_pow_right (by omega) (by omega)
        have hhi : N / 18446744073709551616 < 1099511627776 := by
          rw [p104] at hN
          exact Nat.div_lt_of_lt_mul hN
        have hlo : N % 18446744073709551616 < 18446744073709551616 := Nat.mod_lt _ (by omega)
        have hNN : N = N / 18446744073709551616 * 18446744073709551616 + N % 18446744073709551616 := by omega
        have hdiv : N / 2 ^ k = N / 18446744073709551616 * 2 ^ j + N % 18446744073709551616 / 2 ^ k := by
          conv => lhs; rw [hNN, ← hpj, ← Nat.mul_assoc]
          rw [hpj, Nat.add_comm, Nat.add_mul_div_right _ _ (Nat.two_pow_pos k), Nat.add_comm]
        generalize N / 18446744073709551616 = hi at *
        generalize N % 18446744073709551616 = lo at *
        have hlk : lo / 2 ^ k < 2 ^ j := Nat.div_lt_of_lt_mul (by rw [Nat.mul_comm, hpj]; exact hlo)
        have hij : hi * 2 ^ j ≤ 1099511627776 * 4096 := Nat.mul_le_mul (by omega) hj12
        refine ex_i _ ⟨by omega, (fdivN lo k (by omega) _ rfl).symm⟩ ?_
        have e1 : IntKind.u64.wrap ((hi : Int) * 2 ^ (min ((j : Int)).toNat IntKind.u64.bits)) = ((hi * 2 ^ j : Nat) : Int) := by
          have : min ((j : Int)).toNat IntKind.u64.bits = j := by
            rw [Int.toNat_natCast]
            exact Nat.min_eq_left (by show j ≤ 64; omega)
          rw [this]
          have c : (hi : Int) * 2 ^ j = ((hi * 2 ^ j : Nat) : Int) := by rw [Int.natCast_mul]; congr 1
          rw [c]
          exact wid_u64 _ (by omega) (by omega)
        refine ex_i _ ⟨by omega, rfl⟩ ?_
        rw [e1]
        refine ex_i _ ⟨by omega, rfl⟩ ?_
        refine ex_i _ ⟨by omega, (fdivN hi k (by omega) _ rfl).symm⟩ ?_
        have h0 : hi / 2 ^ k = 0 := Nat.div_eq_of_lt (by omega)
        rw [h0]
        refine ⟨?_, rfl, H⟩
        simp only
        rw [hdiv]
        have hor := (bits_nat .u64 64 (by decide) wid_u64 (lo / 2 ^ k) (hi * 2 ^ j) (by omega) (by omega)).2
        rw [hor, Nat.or_comm, Nat.mul_comm hi, ← Nat.two_pow_add_eq_or_of_lt hlk]
theorem mfrexp_spec {f : Nat} {K : Nat × Int → World → Prop} (h : cl Tryz.prog 103 [.float .f64 f] (tTup2 tFlt (tInt .i64)) w K) : cl Tryz.prog 89 [.float .f64 f] (tTup2 tFlt (tInt .i64)) w K := by
  refine F89_ok ?_
  unfold F89
  exact h
theorem mldexp_spec {f : Nat} {e : Int} {K : Nat → World → Prop} (h : cl Tryz.prog 105 [.float .f64 f, .int .i64 e] tFlt w K) : cl Tryz.prog 90 [.float .f64 f, .int .i64 e] tFlt w K := by
  refine F90_ok ?_
  unfold F90
  exact h
theorem times_spec {n : Int} {f : Nat} (h0 : 0 ≤ n) (h1 : n ≤ 1000000000000000) (hf : rateOk f) (H : St W l w) : cl Tryz.prog 71 [.int .i64 n, .float .f64 f] (tTup2 (tInt .i64) (tInt .i64)) w fun r w' => r = (feeF n f, 0) ∧ St W l w' := by
  have hf64 : f < 18446744073709551616 := by rcases hf with h | h <;> omega
  obtain ⟨k, rfl⟩ : ∃ k : Nat, n = (k : Int) := ⟨n.toNat, by omega⟩
  refine F71_ok ?_
  unfold F71
  refine cl_mono (class_spec hf64 H) ?_
  rintro c w ⟨hc, _, _, H⟩
  have hc := hc hf
  rw [if_neg (by simp; omega), if_neg (by simp; omega)]
  have e6 : (c == 6) = false := by rw [beq_eq_false_iff_ne]; omega
  rw [e6]
  unfold F71_j1
  rw [if_neg (by simp)]
  by_cases hz : f = 0 ∨ f = 9223372036854775808
  · refine mfrexp_spec (cl_mono (frexp0_spec hz H) ?_)
    rintro r w ⟨rfl, H⟩
    refine mldexp_spec (cl_mono (ldexp0_spec (e := 53) hz H) ?_)
    rintro r w ⟨rfl, H⟩
    refine ex_i 0 (by rcases hz with h | h <;> subst h; exact to_int0.1; exact to_int0.2) ?_
    refine cl_mono (size_spec h0 (by omega) H) ?_
    rintro r w ⟨rfl, H⟩
    refine cl_mono (size_spec (n := 0) (by omega) (by omega) H) ?_
    rintro r w ⟨rfl, H⟩
    refine cl_mono (mul64_spec (x := k) (y := 0) (by omega) (by omega) H) ?_
    rintro r w ⟨rfl, H⟩
    rw [if_pos (by simp)]
    have : feeF k r = 0 := by
      unfold feeF
      rw [if_pos (by omega)]
    rw [this]
    exact ⟨rfl, H⟩
  · have hle : 0 < f ∧ f ≤ 4607182418800017408 := by rcases hf with h | h <;> omega
    refine mfrexp_spec (cl_mono (frexp_spec hle.1 hle.2 H) ?_)
    rintro r w ⟨⟨F, e, rfl, hF, hn, hs⟩, H⟩
    refine mldexp_spec (cl_mono (ldexp_spec hF H) ?_)
    rintro r w ⟨rfl, H⟩
    refine ex_i _ (to_int hF) ?_
    refine cl_mono (size_spec h0 (by omega) H) ?_
    rintro r w ⟨rfl, H⟩
    refine cl_mono (size_spec (n := ((4503599627370496 + F : Nat) : Int)) (by omega) (by omega) H) ?_
    rintro r w ⟨rfl, H⟩
    refine cl_mono (mul64_spec (x := k) (y := 4503599627370496 + F) (by omega) (by omega) H) ?_
    rintro r w ⟨rfl, H⟩
    have hX : k * (4503599627370496 + F) ≤ 1000000000000000 * 9007199254740992 := Nat.mul_le_mul (by omega) (by omega)
    have p104 : (2 : Nat) ^ 104 = 18446744073709551616 * 1099511627776 := by decide
    have he : e ≤ 1 ∧ -1100 ≤ e ∧ (f < 4503599627370496 → e ≤ -1000) := by
      by_cases c : f < 4503599627370496
      · have := hs c
        omega
      · have := (hn (by omega)).2
        omega
    have w1 : IntKind.i64.wrap (e - 53) = e - 53 := wrap_i64 (by omega) (by omega)
    have w2 : IntKind.u64.wrap (IntKind.i64.wrap (0 - (e - 53))) = ((53 - e).toNat : Nat) := by rw [wrap_i64 (by omega) (by omega), wid_u64 _ (by omega) (by omega)]; omega
    dsimp only
    rw [w1, w2]
    have hfee : feeF k f = ((k * (4503599627370496 + F) / 2 ^ (53 - e).toNat : Nat) : Int) := by
      unfold feeF
      by_cases c : f < 4503599627370496
      · rw [if_pos (.inl c)]
        have hk : 104 ≤ (53 - e).toNat := by have := he.2.2 c; omega
        have hp : 2 ^ 104 ≤ 2 ^ (53 - e).toNat := Nat.pow_le_pow_right (by omega) hk
        rw [Nat.div_eq_of_lt (Nat.lt_of_lt_of_le (by rw [p104]; omega) hp)]
        rfl
      · rw [if_neg (by omega)]
        obtain ⟨a, b⟩ := hn (by omega)
        have : (53 - e).toNat = 1075 - f / 4503599627370496 := by omega
        rw [this, Int.toNat_natCast, a]
    rw [hfee]
    have hq := div52 (k * (4503599627370496 + F)) (53 - e).toNat (by omega)
    by_cases hx : k * (4503599627370496 + F) = 0
    · rw [if_pos (by rw [hx]; simp), hx]
      exact ⟨by simp, H⟩
    · generalize k * (4503599627370496 + F) = X at *
      rw [if_neg (by simp; omega), if_neg (by simp; omega)]
      refine cl_mono (down_spec (N := X) (k := (53 - e).toNat) (by rw [p104]; omega) (by omega) (by omega) H) ?_
      rintro ⟨q, rest, fits⟩ w ⟨h1, h2, H⟩
      simp only at h1 h2
      subst h1; subst h2
      have e1 : decide ((k : Int) < 0) = false := by simp
      have e2 : decide (((4503599627370496 + F : Nat) : Int) < 0) = false := by rw [decide_eq_false_iff_not]; omega
      rw [e1, e2]
      rw [if_neg (by simp), if_neg (by simp)]
      unfold F71_j3
      rw [e1, e2]
      generalize X / 2 ^ (53 - e).toNat = Q at *
      refine cl_mono (signed_spec (n := ((Q : Nat) : Int)) (by omega) (by omega) H) ?_
      rintro r w ⟨rfl, H⟩
      exact ⟨rfl, H⟩
theorem fee_spec {n : Int} {f : Nat} (h0 : 0 ≤ n) (h1 : n ≤ 1000000000000000) (hf : rateOk f) (H : St W l w) : cl Tryz.prog 58 [.int .i64 n, .float .f64 f] (tTup2 (tInt .i64) (tInt .i64)) w fun r w' => r = (feeF n f, 0) ∧ St W l w' := by
  have hf64 : f < 18446744073709551616 := by rcases hf with h | h <;> omega
  refine F58_ok ?_
  unfold F58
  refine cl_mono (check_spec H) ?_
  rintro r w ⟨rfl, H⟩
  rw [if_pos (⟨h0, h1⟩ : 0 ≤ n ∧ n ≤ 1000000000000000), if_neg (by simp)]
  refine cl_mono (rate_spec hf64 H) ?_
  rintro r w ⟨h2, _, H⟩
  have := h2.2 hf
  subst this
  rw [if_neg (by simp)]
  refine cl_mono (times_spec h0 h1 hf H) ?_
  rintro r w ⟨rfl, H⟩
  exact ⟨rfl, H⟩
def okAm (n : Int) : Prop := 0 ≤ n ∧ n ≤ 1000000000000000
theorem total_spec {a b : Int} {s : Slc} (k : See 1 l (tInt .i64) s [a, b]) (H : St W l w) : cl Tryz.prog 70 [tSlc.enc s] (tTup2 (tInt .i64) (tInt .i64)) w fun r w' => (r.2 = 0 ↔ okAm a ∧ okAm b ∧ a + b ≤ 1000000000000000) ∧ (r.2 = 0 → r.1 = a + b) ∧ St W l w' := by
  have hs := k.len H
  simp only [List.length_cons, List.length_nil] at hs
  refine F70_ok ?_
  unfold F70
  refine lp_p (fun p w => (p = (0, 0) ∨ (okAm a ∧ p = (a, 1)) ∨ (okAm a ∧ okAm b ∧ p = (a + b, 2))) ∧ St W l w) (fun p => (2 - p.2).toNat) ⟨.inl rfl, H⟩ ?_
  clear H
  rintro ⟨sum, i⟩ w ⟨hi, H⟩ K hK
  unfold F70_l1 F70_j2
  simp only
  rw [hs]
  have step : ∀ (x : Int) (j : Nat), i = (j : Int) → j < 2 → ([a, b] : List Int)[j]? = some x → sum ≤ 1000000000000000 → (okAm x → ((sum + x, i + 1) = (0, 0) ∨ (okAm a ∧ (sum + x, i + 1) = (a, 1)) ∨ (okAm a ∧ okAm b ∧ (sum + x, i + 1) = (a + b, 2))) ∧ -1000000000000000000 ≤ sum) → (¬ okAm x → ¬ (okAm a ∧ okAm b ∧ a + b ≤ 1000000000000000)) →
      if decide (i < ((0 + 1 + 1 : Nat) : Int)) = true then
        ex (IxA s 1 i) fun a8 => ex (RdAt (tInt .i64) a8 w) fun x9 => cl Tryz.prog 44 [.int .i64 (x9)] (tInt .i64) w fun r11 w10 =>
          if (r11 != (0 : Int)) = true then (((0 : Int), (40 : Int)).2 = 0 ↔ okAm a ∧ okAm b ∧ a + b ≤ 1000000000000000) ∧ (((0 : Int), (40 : Int)).2 = 0 → ((0 : Int), (40 : Int)).1 = a + b) ∧ St W l w10
          else if (decide (sum ≤ (1000000000000000 : Int))) = true then K (IntKind.i64.wrap (sum + x9), IntKind.i64.wrap (i + (1 : Int))) w10 else K (sum, IntKind.i64.wrap (i + (1 : Int))) w10
      else cl Tryz.prog 44 [.int .i64 sum] (tInt .i64) w fun r15 w14 => if (r15 != (0 : Int)) = true then (((0 : Int), (40 : Int)).2 = 0 ↔ okAm a ∧ okAm b ∧ a + b ≤ 1000000000000000) ∧ (((0 : Int), (40 : Int)).2 = 0 → ((0 : Int), (40 : Int)).1 = a + b) ∧ St W l w14 else ((sum, (0 : Int)).2 = 0 ↔ okAm a ∧ okAm b ∧ a + b ≤ 1000000000000000) ∧ ((sum, (0 : Int)).2 = 0 → (sum, (0 : Int)).1 = a + b) ∧ St W l w14 := by
    intro x j hij hj hx hsum ok no
    rw [if_pos (by simp; omega)]
    obtain ⟨c, hc⟩ := k.ix (i := i) H (by omega) (by simp; omega)
    refine ex_i c hc ?_
    refine ex_i x (k.rd hc (by rw [hij, Int.toNat_natCast]; exact hx) H) ?_
    refine cl_mono (check_spec H) ?_
    rintro r w ⟨rfl, H⟩
    by_cases hok : 0 ≤ x ∧ x ≤ 1000000000000000
    · rw [if_pos hok, if_neg (by simp), if_pos (by simpa using hsum)]
      obtain ⟨h1, h2⟩ := ok hok
      rw [wrap_i64 (x := sum + x) (by omega) (by omega), wrap_i64 (x := i + 1) (by omega) (by omega)]
      exact hK _ _ ⟨h1, H⟩ (by simp only; omega)
    · rw [if_neg hok, if_pos (by simp)]
      exact ⟨⟨fun h => by simp at h, fun h => absurd h (no hok)⟩, fun h => by simp at h, H⟩
  rcases hi with hi | ⟨ha, hi⟩ | ⟨ha, hb, hi⟩
  · cases hi
    exact step a 0 rfl (by omega) rfl (by omega) (fun h => ⟨.inr (.inl ⟨h, by simp⟩), by omega⟩) fun h hh => h hh.1
  · cases hi
    exact step b 1 rfl (by omega) rfl ha.2 (fun h => ⟨.inr (.inr ⟨ha, h, by trivial⟩), by have := ha.1; omega⟩) fun h hh => h hh.2.1
  · cases hi
    rw [if_neg (by simp)]
    refine cl_mono (check_spec H) ?_
    rintro r w ⟨rfl, H⟩
    have h1 := ha.1
    have h2 := hb.1
    by_cases hok : a + b ≤ 1000000000000000
    · have e : (if 0 ≤ a + b ∧ a + b ≤ 1000000000000000 then (0 : Int) else 40) = 0 := if_pos ⟨by omega, hok⟩
      rw [e, if_neg (by simp)]
      exact ⟨⟨fun _ => ⟨ha, hb, hok⟩, fun _ => by trivial⟩, fun _ => rfl, H⟩
    · have e : (if 0 ≤ a + b ∧ a + b ≤ 1000000000000000 then (0 : Int) else 40) = 40 := if_neg (fun h => hok h.2)
      rw [e, if_pos (by simp)]
      exact ⟨⟨fun h => by simp at h, fun h => absurd h.2.2 hok⟩, fun h => by simp at h, H⟩
theorem add_spec {a b : Int} (H : St W l w) : cl Tryz.prog 57 [.int .i64 a, .int .i64 b] (tTup2 (tInt .i64) (tInt .i64)) w fun r w' => (r.2 = 0 ↔ okAm a ∧ okAm b ∧ a + b ≤ 1000000000000000) ∧ (r.2 = 0 → r.1 = a + b) ∧ St W l w' := by
  refine F57_ok ?_
  unfold F57
  refine nwS_st H fun b3 w H => ?_
  have H := row_new (sz := 1) (m := 2) rfl H
  refine cl_mono (total_spec (a := a) (b := b) (See.row (fun _ => rfl) 0 rfl) H) ?_
  rintro r w ⟨h1, h2, H⟩
  exact ⟨h1, h2, H.drop⟩
end
end Go.Proofs.YtpdaapffkdejoaaGreat.Num
