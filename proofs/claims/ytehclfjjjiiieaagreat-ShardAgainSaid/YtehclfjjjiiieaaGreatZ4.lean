/- Own texts of this claim, part 4: short, merged. -/
import Derived.Test.YtehclfjjjiiieaaGreatRows
import Derived.OpenShut
import Derived.ShutString
import Derived.ChangeOld
import Derived.Laws.Cover2
import Derived.Test.YtehclfjjjiiieaaGreatZ3
namespace Go.Proofs.YtehclfjjjiiieaaGreat.Num
open Go Go.Proofs.YtehclfjjjiiieaaGreat.Cf
set_option linter.unusedVariables false
set_option linter.unusedSimpArgs false
set_option maxRecDepth 100000
def feeF (n : Int) (f : Nat) : Int := if f < 4503599627370496 ∨ f = 9223372036854775808 then 0 else ((n.toNat * (4503599627370496 + f % 4503599627370496) / 2 ^ (1075 - f / 4503599627370496) : Nat) : Int)
theorem div52 (N k : Nat) (h : 52 ≤ k) : N / 2 ^ k ≤ N / 4503599627370496 := by
 have hp : (2 : Nat) ^ 52 = 4503599627370496 := by decide
 rw [← hp]
 exact Nat.div_le_div_left (Nat.pow_le_pow_right (by omega) h) (Nat.two_pow_pos _)
theorem feeF_le {n : Int} {f : Nat} (h0 : 0 ≤ n) (h1 : n ≤ 1000000000000000) (h : rateOk f) : 0 ≤ feeF n f ∧ feeF n f ≤ 2 * n := by
 unfold feeF
 split
 ·omega
 ·rename_i hc
  have hf : f ≤ 4607182418800017408 := by
   rcases h with h | h
   ·omega
   ·exact h
  have hd := div52 (n.toNat * (4503599627370496 + f % 4503599627370496)) (1075 - f / 4503599627370496) (by omega)
  have hm : n.toNat * (4503599627370496 + f % 4503599627370496) ≤ n.toNat * (2 * 4503599627370496) := Nat.mul_le_mul_left _ (by omega)
  refine ⟨Int.natCast_nonneg _, ?_⟩
  generalize n.toNat * (4503599627370496 + f % 4503599627370496) / 2 ^ (1075 - f / 4503599627370496) = Q at *
  generalize n.toNat * (4503599627370496 + f % 4503599627370496) = X at *
  omega
section
variable {W w : World} {l l' : List Assn}
theorem fdivN (x : Nat) (k : Nat) (hk : k ≤ 64) (b : Int) (hb : b = (k : Int)) : Int.fdiv (x : Int) (2 ^ (min b.toNat IntKind.u64.bits)) = ((x / 2 ^ k : Nat) : Int) := by
 subst hb
 have e : min ((k : Int)).toNat IntKind.u64.bits = k := by
  rw [Int.toNat_natCast]
  exact Nat.min_eq_left hk
 rw [e, Int.fdiv_eq_ediv_of_nonneg _ (Int.le_of_lt (Int.pow_pos (by omega)))]
 rw [Int.natCast_ediv]
 congr 1
theorem size_spec {n : Int} (h0 : 0 ≤ n) (h1 : n ≤ 9223372036854775807) (H : St W l w) : cl Tryz.prog 157 [.int .i64 n] (tInt .u64) w fun r w' => r = n ∧ St W l w' := by
 refine F157_ok ?_
 unfold F157
 rw [if_neg (by simp; omega)]
 exact ⟨wid_u64 n h0 (by omega), H⟩
theorem signed_spec {n : Int} (h0 : 0 ≤ n) (h1 : n < 9223372036854775808) (H : St W l w) : cl Tryz.prog 158 [.bool false, .int .u64 n] (tTup2 (tInt .i64) (tInt .i64)) w fun r w' => r = (n, 0) ∧ St W l w' := by
 refine F158_ok ?_
 unfold F158
 rw [if_neg (by simp), if_pos (by simp; omega), wrap_i64 (by omega) (by omega)]
 exact ⟨rfl, H⟩
theorem mul64_spec {x y : Nat} (hx : x < 18446744073709551616) (hy : y < 18446744073709551616) (H : St W l w) : cl Tryz.prog 156 [.int .u64 (x : Int), .int .u64 (y : Int)] (tTup2 (tInt .u64) (tInt .u64)) w fun r w' => r = (((x * y / 18446744073709551616 : Nat) : Int), ((x * y % 18446744073709551616 : Nat) : Int)) ∧ St W l w' := by
 refine F156_ok ?_
 unfold F156
 have p32 : (2 : Nat) ^ 32 = 4294967296 := by decide
 have m32 : ∀ z : Nat, z < 18446744073709551616 → bits .and .u64 (z : Int) 4294967295 = ((z % 4294967296 : Nat) : Int) := by
  intro z hz
  have := bits_mask .u64 64 (by decide) wid_u64 32 (by decide) (z : Int) (by omega) (by omega)
  rw [show (2 : Int) ^ 32 - 1 = 4294967295 from rfl] at this
  rw [this]
  omega
 have s32 : ∀ z : Nat, Int.fdiv (z : Int) (2 ^ (min ((32 : Int)).toNat IntKind.u64.bits)) = ((z / 4294967296 : Nat) : Int) := by
  intro z
  rw [fdivN z 32 (by omega) 32 rfl, p32]
 have wn : ∀ z : Nat, z < 18446744073709551616 → IntKind.u64.wrap (z : Int) = (z : Int) := fun z hz => wid_u64 _ (by omega) (by omega)
 rw [m32 x hx, m32 y hy]
 obtain ⟨x1, hx1⟩ : ∃ z, x / 4294967296 = z := ⟨_, rfl⟩
 obtain ⟨x0, hx0⟩ : ∃ z, x % 4294967296 = z := ⟨_, rfl⟩
 obtain ⟨y1, hy1⟩ : ∃ z, y / 4294967296 = z := ⟨_, rfl⟩
 obtain ⟨y0, hy0⟩ : ∃ z, y % 4294967296 = z := ⟨_, rfl⟩
 have bx1 : x1 ≤ 4294967295 := by omega
 have bx0 : x0 ≤ 4294967295 := by omega
 have by1 : y1 ≤ 4294967295 := by omega
 have by0 : y0 ≤ 4294967295 := by omega
 have hx2 : x = x1 * 4294967296 + x0 := by omega
 have hy2 : y = y1 * 4294967296 + y0 := by omega
 refine ex_i (x1 : Int) ⟨by omega, by rw [s32 x, hx1]⟩ ?_
 refine ex_i (y1 : Int) ⟨by omega, by rw [s32 y, hy1]⟩ ?_
 rw [hx0, hy0]
 have b00 : x0 * y0 ≤ 4294967295 * 4294967295 := Nat.mul_le_mul bx0 by0
 have b01 : x0 * y1 ≤ 4294967295 * 4294967295 := Nat.mul_le_mul bx0 by1
 have b10 : x1 * y0 ≤ 4294967295 * 4294967295 := Nat.mul_le_mul bx1 by0
 have b11 : x1 * y1 ≤ 4294967295 * 4294967295 := Nat.mul_le_mul bx1 by1
 have hxy : x * y = x1 * y1 * 18446744073709551616 + (x1 * y0 + x0 * y1) * 4294967296 + x0 * y0 := by
  rw [hx2, hy2, Nat.add_mul, Nat.mul_add, Nat.mul_add]
  have e1 : x1 * 4294967296 * (y1 * 4294967296) = x1 * y1 * 18446744073709551616 := by rw [Nat.mul_mul_mul_comm]
  have e2 : x1 * 4294967296 * y0 = x1 * y0 * 4294967296 := by rw [Nat.mul_assoc, Nat.mul_comm 4294967296, ← Nat.mul_assoc]
  have e3 : x0 * (y1 * 4294967296) = x0 * y1 * 4294967296 := by rw [Nat.mul_assoc]
  rw [e1, e2, e3, Nat.add_mul]
  omega
 have c00 : ((x0 : Int) * (y0 : Int)) = ((x0 * y0 : Nat) : Int) := by rw [Int.natCast_mul]
 have c01 : ((x0 : Int) * (y1 : Int)) = ((x0 * y1 : Nat) : Int) := by rw [Int.natCast_mul]
 have c10 : ((x1 : Int) * (y0 : Int)) = ((x1 * y0 : Nat) : Int) := by rw [Int.natCast_mul]
 have c11 : ((x1 : Int) * (y1 : Int)) = ((x1 * y1 : Nat) : Int) := by rw [Int.natCast_mul]
 have cxy : ((x : Int) * (y : Int)) = ((x * y : Nat) : Int) := by rw [Int.natCast_mul]
 rw [c00, c01, c10, c11, cxy]
 generalize x0 * y0 = d at *
 generalize x0 * y1 = c at *
 generalize x1 * y0 = b at *
 generalize x1 * y1 = a at *
 generalize x * y = N at *
 rw [wn d (by omega), wn b (by omega), wn c (by omega), wn a (by omega)]
 refine ex_i ((d / 4294967296 : Nat) : Int) ⟨by omega, (s32 d).symm⟩ ?_
 have e1 : (b : Int) + ((d / 4294967296 : Nat) : Int) = ((b + d / 4294967296 : Nat) : Int) := by omega
 rw [e1, wn _ (by omega), m32 _ (by omega)]
 refine ex_i (((b + d / 4294967296) / 4294967296 : Nat) : Int) ⟨by omega, (s32 _).symm⟩ ?_
 have e2 : (((b + d / 4294967296) % 4294967296 : Nat) : Int) + (c : Int) = (((b + d / 4294967296) % 4294967296 + c : Nat) : Int) := by omega
 rw [e2, wn _ (by omega)]
 refine ex_i ((((b + d / 4294967296) % 4294967296 + c) / 4294967296 : Nat) : Int) ⟨by omega, (s32 _).symm⟩ ?_
 have e3 : (a : Int) + (((b + d / 4294967296) / 4294967296 : Nat) : Int) = ((a + (b + d / 4294967296) / 4294967296 : Nat) : Int) := by omega
 rw [e3, wn _ (by omega)]
 have e4 : ((a + (b + d / 4294967296) / 4294967296 : Nat) : Int) + ((((b + d / 4294967296) % 4294967296 + c) / 4294967296 : Nat) : Int) = ((a + (b + d / 4294967296) / 4294967296 + ((b + d / 4294967296) % 4294967296 + c) / 4294967296 : Nat) : Int) := by omega
 rw [e4, wn _ (by omega)]
 have e5 : IntKind.u64.wrap (N : Int) = ((N % 18446744073709551616 : Nat) : Int) := by rw [wr_u64]; omega
 rw [e5]
 refine ⟨?_, H⟩
 have e6 : a + (b + d / 4294967296) / 4294967296 + ((b + d / 4294967296) % 4294967296 + c) / 4294967296 = N / 18446744073709551616 := by omega
 rw [e6]
theorem down_spec {N k : Nat} (hN : N < 2 ^ 104) (hk : 52 ≤ k) (hk2 : k ≤ 4000) (H : St W l w) : cl Tryz.prog 159 [.int .u64 ((N / 18446744073709551616 : Nat) : Int), .int .u64 ((N % 18446744073709551616 : Nat) : Int), .int .u64 (k : Int)] (tTup3 (tInt .u64) tBool tBool) w fun r w' => r.1 = ((N / 2 ^ k : Nat) : Int) ∧ r.2.2 = true ∧ St W l w' := by
 have p64 : (2 : Nat) ^ 64 = 18446744073709551616 := by decide
 have p104 : (2 : Nat) ^ 104 = 18446744073709551616 * 1099511627776 := by decide
 refine F159_ok ?_
 unfold F159
 by_cases c1 : 128 ≤ k
 ·rw [if_pos (by simp; omega)]
  have : N / 2 ^ k = 0 := Nat.div_eq_of_lt (Nat.lt_of_lt_of_le hN (Nat.pow_le_pow_right (by omega) (by omega)))
  rw [this]
  exact ⟨rfl, rfl, H⟩
 ·rw [if_neg (by simp; omega)]
  by_cases c2 : 64 < k
  ·rw [if_pos (by simp; omega)]
   have w1 : IntKind.u64.wrap ((k : Int) - 64) = ((k - 64 : Nat) : Int) := by rw [wid_u64 _ (by omega) (by omega)]; omega
   have w2 : IntKind.u64.wrap ((128 : Int) - (k : Int)) = ((128 - k : Nat) : Int) := by rw [wid_u64 _ (by omega) (by omega)]; omega
   rw [w1, w2]
   refine ex_i _ ⟨by omega, (fdivN (N / 18446744073709551616) (k - 64) (by omega) _ rfl).symm⟩ ?_
   refine ex_i _ ⟨by omega, rfl⟩ ?_
   refine ⟨?_, rfl, H⟩
   have : 2 ^ k = 18446744073709551616 * 2 ^ (k - 64) := by rw [← p64, ← Nat.pow_add]; congr 1; omega
   simp only
   rw [this, Nat.div_div_eq_div_mul]
  ·rw [if_neg (by simp; omega)]
   by_cases c3 : k = 64
   ·subst c3
    rw [if_pos (by simp)]
    exact ⟨by rw [p64], rfl, H⟩
   ·rw [if_neg (by simp; omega)]
    have w1 : IntKind.u64.wrap ((64 : Int) - (k : Int)) = ((64 - k : Nat) : Int) := by rw [wid_u64 _ (by omega) (by omega)]; omega
    rw [w1]
    obtain ⟨j, hj⟩ : ∃ j, j + k = 64 := ⟨64 - k, by omega⟩
    have hjk : 64 - k = j := by omega
    rw [hjk]
    have hpj : (2 : Nat) ^ j * 2 ^ k = 18446744073709551616 := by rw [← Nat.pow_add, hj, p64]
    have hk52 : 4503599627370496 ≤ 2 ^ k := by
     have : (2 : Nat) ^ 52 = 4503599627370496 := by decide
     rw [← this]
     exact Nat.pow_le_pow_right (by omega) hk
    have hj12 : 2 ^ j ≤ 4096 := by
     have : (2 : Nat) ^ 12 = 4096 := by decide
     rw [← this]
     exact Nat.pow_le_pow_right (by omega) (by omega)
    have hhi : N / 18446744073709551616 < 1099511627776 := by
     rw [p104] at hN
     exact Nat.div_lt_of_lt_mul hN
    have hlo : N % 18446744073709551616 < 18446744073709551616 := Nat.mod_lt _ (by omega)
    have hNN : N = N / 18446744073709551616 * 18446744073709551616 + N % 18446744073709551616 := by omega
    have hdiv : N / 2 ^ k = N / 18446744073709551616 * 2 ^ j + N % 18446744073709551616 / 2 ^ k := by
     conv => lhs; rw [hNN, ← hpj, ← Nat.mul_assoc]
     rw [hpj, Nat.add_comm, Nat.add_mul_div_right _ _ (Nat.two_pow_pos k), Nat.add_comm]
    generalize N / 18446744073709551616 = hi at *
    generalize N % 18446744073709551616 = lo at *
    have hlk : lo / 2 ^ k < 2 ^ j := Nat.div_lt_of_lt_mul (by rw [Nat.mul_comm, hpj]; exact hlo)
    have hij : hi * 2 ^ j ≤ 1099511627776 * 4096 := Nat.mul_le_mul (by omega) hj12
    refine ex_i _ ⟨by omega, (fdivN lo k (by omega) _ rfl).symm⟩ ?_
    have e1 : IntKind.u64.wrap ((hi : Int) * 2 ^ (min ((j : Int)).toNat IntKind.u64.bits)) = ((hi * 2 ^ j : Nat) : Int) := by
     have : min ((j : Int)).toNat IntKind.u64.bits = j := by
      rw [Int.toNat_natCast]
      exact Nat.min_eq_left (by show j ≤ 64; omega)
     rw [this]
     have c : (hi : Int) * 2 ^ j = ((hi * 2 ^ j : Nat) : Int) := by rw [Int.natCast_mul]; congr 1
     rw [c]
     exact wid_u64 _ (by omega) (by omega)
    refine ex_i _ ⟨by omega, rfl⟩ ?_
    rw [e1]
    refine ex_i _ ⟨by omega, rfl⟩ ?_
    refine ex_i _ ⟨by omega, (fdivN hi k (by omega) _ rfl).symm⟩ ?_
    have h0 : hi / 2 ^ k = 0 := Nat.div_eq_of_lt (by omega)
    rw [h0]
    refine ⟨?_, rfl, H⟩
    simp only
    rw [hdiv]
    have hor := (bits_nat .u64 64 (by decide) wid_u64 (lo / 2 ^ k) (hi * 2 ^ j) (by omega) (by omega)).2
    rw [hor, Nat.or_comm, Nat.mul_comm hi, ← Nat.two_pow_add_eq_or_of_lt hlk]
theorem mfrexp_spec {f : Nat} {K : Nat × Int → World → Prop} (h : cl Tryz.prog 167 [.float .f64 f] (tTup2 tFlt (tInt .i64)) w K) : cl Tryz.prog 154 [.float .f64 f] (tTup2 tFlt (tInt .i64)) w K := by
 refine F154_ok ?_
 unfold F154
 exact h
theorem mldexp_spec {f : Nat} {e : Int} {K : Nat → World → Prop} (h : cl Tryz.prog 169 [.float .f64 f, .int .i64 e] tFlt w K) : cl Tryz.prog 155 [.float .f64 f, .int .i64 e] tFlt w K := by
 refine F155_ok ?_
 unfold F155
 exact h
theorem times_spec {n : Int} {f : Nat} (h0 : 0 ≤ n) (h1 : n ≤ 1000000000000000) (hf : rateOk f) (H : St W l w) : cl Tryz.prog 139 [.int .i64 n, .float .f64 f] (tTup2 (tInt .i64) (tInt .i64)) w fun r w' => r = (feeF n f, 0) ∧ St W l w' := by
 have hf64 : f < 18446744073709551616 := by rcases hf with h | h <;> omega
 obtain ⟨k, rfl⟩ : ∃ k : Nat, n = (k : Int) := ⟨n.toNat, by omega⟩
 refine F139_ok ?_
 unfold F139
 refine cl_mono (class_spec hf64 H) ?_
 rintro c w ⟨hc, _, _, H⟩
 have hc := hc hf
 rw [if_neg (by simp; omega), if_neg (by simp; omega)]
 have e6 : (c == 6) = false := by rw [beq_eq_false_iff_ne]; omega
 rw [e6]
 unfold F139_j1
 rw [if_neg (by simp)]
 by_cases hz : f = 0 ∨ f = 9223372036854775808
 ·refine mfrexp_spec (cl_mono (frexp0_spec hz H) ?_)
  rintro r w ⟨rfl, H⟩
  refine mldexp_spec (cl_mono (ldexp0_spec (e := 53) hz H) ?_)
  rintro r w ⟨rfl, H⟩
  refine ex_i 0 (by rcases hz with h | h <;> subst h; exact to_int0.1; exact to_int0.2) ?_
  refine cl_mono (size_spec h0 (by omega) H) ?_
  rintro r w ⟨rfl, H⟩
  refine cl_mono (size_spec (n := 0) (by omega) (by omega) H) ?_
  rintro r w ⟨rfl, H⟩
  refine cl_mono (mul64_spec (x := k) (y := 0) (by omega) (by omega) H) ?_
  rintro r w ⟨rfl, H⟩
  rw [if_pos (by simp)]
  have : feeF k r = 0 := by
   unfold feeF
   rw [if_pos (by omega)]
  rw [this]
  exact ⟨rfl, H⟩
 ·have hle : 0 < f ∧ f ≤ 4607182418800017408 := by rcases hf with h | h <;> omega
  refine mfrexp_spec (cl_mono (frexp_spec hle.1 hle.2 H) ?_)
  rintro r w ⟨⟨F, e, rfl, hF, hn, hs⟩, H⟩
  refine mldexp_spec (cl_mono (ldexp_spec hF H) ?_)
  rintro r w ⟨rfl, H⟩
  refine ex_i _ (to_int hF) ?_
  refine cl_mono (size_spec h0 (by omega) H) ?_
  rintro r w ⟨rfl, H⟩
  refine cl_mono (size_spec (n := ((4503599627370496 + F : Nat) : Int)) (by omega) (by omega) H) ?_
  rintro r w ⟨rfl, H⟩
  refine cl_mono (mul64_spec (x := k) (y := 4503599627370496 + F) (by omega) (by omega) H) ?_
  rintro r w ⟨rfl, H⟩
  have hX : k * (4503599627370496 + F) ≤ 1000000000000000 * 9007199254740992 := Nat.mul_le_mul (by omega) (by omega)
  have p104 : (2 : Nat) ^ 104 = 18446744073709551616 * 1099511627776 := by decide
  have he : e ≤ 1 ∧ -1100 ≤ e ∧ (f < 4503599627370496 → e ≤ -1000) := by
   by_cases c : f < 4503599627370496
   ·have := hs c
    omega
   ·have := (hn (by omega)).2
    omega
  have w1 : IntKind.i64.wrap (e - 53) = e - 53 := wrap_i64 (by omega) (by omega)
  have w2 : IntKind.u64.wrap (IntKind.i64.wrap (0 - (e - 53))) = ((53 - e).toNat : Nat) := by rw [wrap_i64 (by omega) (by omega), wid_u64 _ (by omega) (by omega)]; omega
  dsimp only
  rw [w1, w2]
  have hfee : feeF k f = ((k * (4503599627370496 + F) / 2 ^ (53 - e).toNat : Nat) : Int) := by
   unfold feeF
   by_cases c : f < 4503599627370496
   ·rw [if_pos (.inl c)]
    have hk : 104 ≤ (53 - e).toNat := by have := he.2.2 c; omega
    have hp : 2 ^ 104 ≤ 2 ^ (53 - e).toNat := Nat.pow_le_pow_right (by omega) hk
    rw [Nat.div_eq_of_lt (Nat.lt_of_lt_of_le (by rw [p104]; omega) hp)]
    rfl
   ·rw [if_neg (by omega)]
    obtain ⟨a, b⟩ := hn (by omega)
    have : (53 - e).toNat = 1075 - f / 4503599627370496 := by omega
    rw [this, Int.toNat_natCast, a]
  rw [hfee]
  have hq := div52 (k * (4503599627370496 + F)) (53 - e).toNat (by omega)
  by_cases hx : k * (4503599627370496 + F) = 0
  ·rw [if_pos (by rw [hx]; simp), hx]
   exact ⟨by simp, H⟩
  ·generalize k * (4503599627370496 + F) = X at *
   rw [if_neg (by simp; omega), if_neg (by simp; omega)]
   refine cl_mono (down_spec (N := X) (k := (53 - e).toNat) (by rw [p104]; omega) (by omega) (by omega) H) ?_
   rintro ⟨q, rest, fits⟩ w ⟨h1, h2, H⟩
   simp only at h1 h2
   subst h1; subst h2
   have e1 : decide ((k : Int) < 0) = false := by simp
   have e2 : decide (((4503599627370496 + F : Nat) : Int) < 0) = false := by rw [decide_eq_false_iff_not]; omega
   rw [e1, e2]
   rw [if_neg (by simp), if_neg (by simp)]
   unfold F139_j3
   rw [e1, e2]
   generalize X / 2 ^ (53 - e).toNat = Q at *
   refine cl_mono (signed_spec (n := ((Q : Nat) : Int)) (by omega) (by omega) H) ?_
   rintro r w ⟨rfl, H⟩
   exact ⟨rfl, H⟩
theorem fee_spec {n : Int} {f : Nat} (h0 : 0 ≤ n) (h1 : n ≤ 1000000000000000) (hf : rateOk f) (H : St W l w) : cl Tryz.prog 123 [.int .i64 n, .float .f64 f] (tTup2 (tInt .i64) (tInt .i64)) w fun r w' => r = (feeF n f, 0) ∧ St W l w' := by
 have hf64 : f < 18446744073709551616 := by rcases hf with h | h <;> omega
 refine F123_ok ?_
 unfold F123
 refine cl_mono (check_spec H) ?_
 rintro r w ⟨rfl, H⟩
 rw [if_pos (⟨h0, h1⟩ : 0 ≤ n ∧ n ≤ 1000000000000000), if_neg (by simp)]
 refine cl_mono (rate_spec hf64 H) ?_
 rintro r w ⟨h2, _, H⟩
 have := h2.2 hf
 subst this
 rw [if_neg (by simp)]
 refine cl_mono (times_spec h0 h1 hf H) ?_
 rintro r w ⟨rfl, H⟩
 exact ⟨rfl, H⟩
def okAm (n : Int) : Prop := 0 ≤ n ∧ n ≤ 1000000000000000
theorem total_spec {a b : Int} {s : Slc} (k : See 1 l (tInt .i64) s [a, b]) (H : St W l w) : cl Tryz.prog 138 [tSlc.enc s] (tTup2 (tInt .i64) (tInt .i64)) w fun r w' => (r.2 = 0 ↔ okAm a ∧ okAm b ∧ a + b ≤ 1000000000000000) ∧ (r.2 = 0 → r.1 = a + b) ∧ St W l w' := by
 have hs := k.len H
 simp only [List.length_cons, List.length_nil] at hs
 refine F138_ok ?_
 unfold F138
 refine lp_p (fun p w => (p = (0, 0) ∨ (okAm a ∧ p = (a, 1)) ∨ (okAm a ∧ okAm b ∧ p = (a + b, 2))) ∧ St W l w) (fun p => (2 - p.2).toNat) ⟨.inl rfl, H⟩ ?_
 clear H
 rintro ⟨sum, i⟩ w ⟨hi, H⟩ K hK
 unfold F138_l1 F138_j2
 simp only
 rw [hs]
 have step : ∀ (x : Int) (j : Nat), i = (j : Int) → j < 2 → ([a, b] : List Int)[j]? = some x → sum ≤ 1000000000000000 → (okAm x → ((sum + x, i + 1) = (0, 0) ∨ (okAm a ∧ (sum + x, i + 1) = (a, 1)) ∨ (okAm a ∧ okAm b ∧ (sum + x, i + 1) = (a + b, 2))) ∧ -1000000000000000000 ≤ sum) → (¬ okAm x → ¬ (okAm a ∧ okAm b ∧ a + b ≤ 1000000000000000)) →
   if decide (i < ((0 + 1 + 1 : Nat) : Int)) = true then
    ex (IxA s 1 i) fun a8 => ex (RdAt (tInt .i64) a8 w) fun x9 => cl Tryz.prog 54 [.int .i64 (x9)] (tInt .i64) w fun r11 w10 =>
     if (r11 != (0 : Int)) = true then (((0 : Int), (40 : Int)).2 = 0 ↔ okAm a ∧ okAm b ∧ a + b ≤ 1000000000000000) ∧ (((0 : Int), (40 : Int)).2 = 0 → ((0 : Int), (40 : Int)).1 = a + b) ∧ St W l w10
     else if (decide (sum ≤ (1000000000000000 : Int))) = true then K (IntKind.i64.wrap (sum + x9), IntKind.i64.wrap (i + (1 : Int))) w10 else K (sum, IntKind.i64.wrap (i + (1 : Int))) w10
   else cl Tryz.prog 54 [.int .i64 sum] (tInt .i64) w fun r15 w14 => if (r15 != (0 : Int)) = true then (((0 : Int), (40 : Int)).2 = 0 ↔ okAm a ∧ okAm b ∧ a + b ≤ 1000000000000000) ∧ (((0 : Int), (40 : Int)).2 = 0 → ((0 : Int), (40 : Int)).1 = a + b) ∧ St W l w14 else ((sum, (0 : Int)).2 = 0 ↔ okAm a ∧ okAm b ∧ a + b ≤ 1000000000000000) ∧ ((sum, (0 : Int)).2 = 0 → (sum, (0 : Int)).1 = a + b) ∧ St W l w14 := by
  intro x j hij hj hx hsum ok no
  rw [if_pos (by simp; omega)]
  obtain ⟨c, hc⟩ := k.ix (i := i) H (by omega) (by simp; omega)
  refine ex_i c hc ?_
  refine ex_i x (k.rd hc (by rw [hij, Int.toNat_natCast]; exact hx) H) ?_
  refine cl_mono (check_spec H) ?_
  rintro r w ⟨rfl, H⟩
  by_cases hok : 0 ≤ x ∧ x ≤ 1000000000000000
  ·rw [if_pos hok, if_neg (by simp), if_pos (by simpa using hsum)]
   obtain ⟨h1, h2⟩ := ok hok
   rw [wrap_i64 (x := sum + x) (by omega) (by omega), wrap_i64 (x := i + 1) (by omega) (by omega)]
   exact hK _ _ ⟨h1, H⟩ (by simp only; omega)
  ·rw [if_neg hok, if_pos (by simp)]
   exact ⟨⟨fun h => by simp at h, fun h => absurd h (no hok)⟩, fun h => by simp at h, H⟩
 rcases hi with hi | ⟨ha, hi⟩ | ⟨ha, hb, hi⟩
 ·cases hi
  exact step a 0 rfl (by omega) rfl (by omega) (fun h => ⟨.inr (.inl ⟨h, by simp⟩), by omega⟩) fun h hh => h hh.1
 ·cases hi
  exact step b 1 rfl (by omega) rfl ha.2 (fun h => ⟨.inr (.inr ⟨ha, h, by trivial⟩), by have := ha.1; omega⟩) fun h hh => h hh.2.1
 ·cases hi
  rw [if_neg (by simp)]
  refine cl_mono (check_spec H) ?_
  rintro r w ⟨rfl, H⟩
  have h1 := ha.1
  have h2 := hb.1
  by_cases hok : a + b ≤ 1000000000000000
  ·have e : (if 0 ≤ a + b ∧ a + b ≤ 1000000000000000 then (0 : Int) else 40) = 0 := if_pos ⟨by omega, hok⟩
   rw [e, if_neg (by simp)]
   exact ⟨⟨fun _ => ⟨ha, hb, hok⟩, fun _ => by trivial⟩, fun _ => rfl, H⟩
  ·have e : (if 0 ≤ a + b ∧ a + b ≤ 1000000000000000 then (0 : Int) else 40) = 40 := if_neg (fun h => hok h.2)
   rw [e, if_pos (by simp)]
   exact ⟨⟨fun h => by simp at h, fun h => absurd h.2.2 hok⟩, fun h => by simp at h, H⟩
theorem add_spec {a b : Int} (H : St W l w) : cl Tryz.prog 122 [.int .i64 a, .int .i64 b] (tTup2 (tInt .i64) (tInt .i64)) w fun r w' => (r.2 = 0 ↔ okAm a ∧ okAm b ∧ a + b ≤ 1000000000000000) ∧ (r.2 = 0 → r.1 = a + b) ∧ St W l w' := by
 refine F122_ok ?_
 unfold F122
 refine nwS_st H fun b3 w H => ?_
 have H := row_new (sz := 1) (m := 2) rfl H
 refine cl_mono (total_spec (a := a) (b := b) (See.row (fun _ => rfl) 0 rfl) H) ?_
 rintro r w ⟨h1, h2, H⟩
 exact ⟨h1, h2, H.drop⟩
end
end Go.Proofs.YtehclfjjjiiieaaGreat.Num
namespace Go.Proofs.YtehclfjjjiiieaaGreat.Disk
open Go Go.Proofs.YtehclfjjjiiieaaGreat.Cf Go.Proofs.YtehclfjjjiiieaaGreat.Wire
set_option linter.unusedVariables false
set_option linter.unusedSimpArgs false
set_option maxRecDepth 100000
def turn (c : Int) : Int := bits .xor .u32 (Int.fdiv c (2 ^ (min ((1 : Int)).toNat IntKind.u32.bits))) (bits .and .u32 (IntKind.u32.wrap (0 - (bits .and .u32 c (1 : Int)))) (3988292384 : Int))
def turns : Nat → Int → Int
 | 0, c => c
 | n + 1, c => turns n (turn c)
def onn (c : Int) : List UInt8 → Int
 | [] => c
 | x :: xs => onn (turns 8 (bits .xor .u32 c (IntKind.u32.wrap (x.toNat : Int)))) xs
def sum2 (a b : List UInt8) : Int := bits .xor .u32 IntKind.u32.max (onn (onn 4294967295 a) b)
def summ (a b : List UInt8) : Nat := (sum2 a b).toNat
theorem bits_u32 (op : BinOp) (a b : Int) : 0 ≤ bits op .u32 a b ∧ bits op .u32 a b < 4294967296 := by
 have h : ∀ n : Int, 0 ≤ IntKind.u32.wrap n ∧ IntKind.u32.wrap n < 4294967296 := by
  intro n
  have : IntKind.u32.wrap n = n % 4294967296 := by simp [IntKind.wrap, IntKind.bits, IntKind.signed]
  rw [this]; omega
 exact h _
theorem turns_u32 : ∀ (n : Nat) (c : Int), 0 ≤ c → c < 4294967296 → 0 ≤ turns n c ∧ turns n c < 4294967296
 | 0, c, h0, h1 => ⟨h0, h1⟩
 | n + 1, c, _, _ => turns_u32 n (turn c) (bits_u32 _ _ _).1 (bits_u32 _ _ _).2
theorem onn_u32 : ∀ (bs : List UInt8) (c : Int), 0 ≤ c → c < 4294967296 → 0 ≤ onn c bs ∧ onn c bs < 4294967296
 | [], c, h0, h1 => ⟨h0, h1⟩
 | x :: xs, c, h0, h1 => by
  have h := turns_u32 8 (bits .xor .u32 c (IntKind.u32.wrap (x.toNat : Int))) (bits_u32 _ _ _).1 (bits_u32 _ _ _).2
  exact onn_u32 xs _ h.1 h.2
theorem summ_cast (a b : List UInt8) : ((summ a b : Nat) : Int) = sum2 a b := by
 have := (bits_u32 .xor IntKind.u32.max (onn (onn 4294967295 a) b)).1
 unfold summ
 exact Int.toNat_of_nonneg this
theorem summ_lt (a b : List UInt8) : summ a b < 4294967296 := by
 have := (bits_u32 .xor IntKind.u32.max (onn (onn 4294967295 a) b)).2
 have h := summ_cast a b
 unfold sum2 at h
 omega
def frm (x : List UInt8) : List UInt8 := be 4 x.length ++ (be 4 (summ (be 4 x.length) x) ++ x)
def frms (l : List (List UInt8)) : List UInt8 := l.flatMap frm
theorem frm_len (x : List UInt8) : (frm x).length = 8 + x.length := by simp [frm, be_len]; omega
theorem frms_app (l m : List (List UInt8)) : frms (l ++ m) = frms l ++ frms m := by simp [frms]
def rd4 : List UInt8 → Nat
 | a :: b :: c :: d :: _ => ((a.toNat * 256 + b.toNat) * 256 + c.toNat) * 256 + d.toNat
 | _ => 0
theorem rd4_be {n : Nat} (h : n < 4294967296) (rest : List UInt8) : rd4 (be 4 n ++ rest) = n := by
 have h0 : (UInt8.ofNat (n / 256 ^ 3 % 256)).toNat = n / 16777216 % 256 := by rw [u8_toNat (by omega)]
 have h1 : (UInt8.ofNat (n / 256 ^ 2 % 256)).toNat = n / 65536 % 256 := by rw [u8_toNat (by omega)]
 have h2 : (UInt8.ofNat (n / 256 ^ 1 % 256)).toNat = n / 256 % 256 := by rw [u8_toNat (by omega)]
 have h3 : (UInt8.ofNat (n / 256 ^ 0 % 256)).toNat = n % 256 := by rw [u8_toNat (by omega)]; simp
 simp only [be, List.cons_append, rd4, h0, h1, h2, h3]
 omega
def opn (bs : List UInt8) : Except Int (List UInt8 × Nat) :=
 if bs.length < 8 then .error 31 else if 65536 < rd4 bs then .error 30 else if bs.length - 8 < rd4 bs then .error 31
 else if summ (bs.take 4) ((bs.drop 8).take (rd4 bs)) ≠ rd4 (bs.drop 4) then .error 32 else .ok ((bs.drop 8).take (rd4 bs), 8 + rd4 bs)
theorem opn_frm {x : List UInt8} (h : x.length ≤ 65536) (rest : List UInt8) : opn (frm x ++ rest) = .ok (x, 8 + x.length) := by
 have e : frm x ++ rest = be 4 x.length ++ (be 4 (summ (be 4 x.length) x) ++ (x ++ rest)) := by simp [frm]
 have r1 : rd4 (frm x ++ rest) = x.length := by rw [e]; exact rd4_be (by omega) _
 have d4 : (frm x ++ rest).drop 4 = be 4 (summ (be 4 x.length) x) ++ (x ++ rest) := by
  rw [e]; exact List.drop_left' (be_len 4 _)
 have t4 : (frm x ++ rest).take 4 = be 4 x.length := by rw [e]; exact List.take_left' (be_len 4 _)
 have d8 : (frm x ++ rest).drop 8 = x ++ rest := by
  have : (frm x ++ rest).drop 8 = ((frm x ++ rest).drop 4).drop 4 := by rw [List.drop_drop]
  rw [this, d4]; exact List.drop_left' (be_len 4 _)
 have hl : (frm x ++ rest).length = 8 + x.length + rest.length := by rw [List.length_append, frm_len]
 unfold opn
 rw [r1, d4, t4, d8, rd4_be (summ_lt _ _), hl, List.take_left]
 rw [if_neg (by omega), if_neg (by omega), if_neg (by omega), if_neg (by simp)]
theorem opn_cut {x p q : List UInt8} (h : x.length ≤ 65536) (he : frm x = p ++ q) (hq : q ≠ []) : ∃ e, opn p = .error e := by
 have hl := congrArg List.length he
 rw [frm_len, List.length_append] at hl
 have hq0 : q.length ≠ 0 := fun e => hq (List.eq_nil_of_length_eq_zero e)
 unfold opn
 by_cases c : p.length < 8
 ·exact ⟨31, if_pos c⟩
 ·have ht : p.take 4 = be 4 x.length := by
   have := congrArg (List.take 4) he
   rw [List.take_append_of_le_length (by omega)] at this
   rw [← this, frm]; exact List.take_left' (be_len 4 _)
  have hp : p = be 4 x.length ++ p.drop 4 := by rw [← ht, List.take_append_drop]
  have r1 : rd4 p = x.length := by rw [hp]; exact rd4_be (by omega) _
  rw [r1, if_neg c, if_neg (by omega), if_pos (by omega)]
  exact ⟨31, rfl⟩
theorem opn_ok {bs x : List UInt8} {n : Nat} (h : opn bs = .ok (x, n)) : n ≤ bs.length ∧ 8 ≤ n ∧ n = 8 + x.length ∧ x.length ≤ 65536 := by
 unfold opn at h
 split at h
 ·cases h
 ·split at h
  ·cases h
  ·split at h
   ·cases h
   ·split at h
    ·cases h
    ·simp only [Except.ok.injEq, Prod.mk.injEq] at h
     obtain ⟨h1, h2⟩ := h
     have : x.length = rd4 bs := by rw [← h1, List.length_take, List.length_drop]; omega
     omega
def scanF : Nat → List UInt8 → List (List UInt8) → Nat → List (List UInt8) × Nat
 | 0, _, l, a => (l, a)
 | f + 1, bs, l, a => match opn bs with
  | .error _ => (l, a)
  | .ok (x, n) => scanF f (bs.drop n) (l ++ [x]) (a + n)
def scan (bs : List UInt8) : List (List UInt8) × Nat := scanF (bs.length + 1) bs [] 0
def Small (l : List (List UInt8)) : Prop := ∀ x ∈ l, x.length ≤ 65536
theorem scanF_frms : ∀ {l : List (List UInt8)} {f a : Nat} {p : List UInt8} {m : List (List UInt8)}, Small l → (∃ e, opn p = .error e) → l.length < f → scanF f (frms l ++ p) m a = (m ++ l, a + (frms l).length)
 | [], f, a, p, m, _, ⟨e, he⟩, hf => by
  obtain ⟨g, rfl⟩ : ∃ g, f = g + 1 := ⟨f - 1, by simp at hf; omega⟩
  simp [frms, scanF, he]
 | x :: l, f, a, p, m, hs, hp, hf => by
  obtain ⟨g, rfl⟩ : ∃ g, f = g + 1 := ⟨f - 1, by simp at hf; omega⟩
  have hx : x.length ≤ 65536 := hs x (by simp)
  have e : frms (x :: l) ++ p = frm x ++ (frms l ++ p) := by simp [frms]
  simp only [scanF]
  rw [e, opn_frm hx]
  simp only
  rw [show (frm x ++ (frms l ++ p)).drop (8 + x.length) = frms l ++ p from List.drop_left' (frm_len x)]
  rw [scanF_frms (fun y hy => hs y (by simp [hy])) hp (by simp at hf; omega)]
  have e2 : (frms (x :: l)).length = 8 + x.length + (frms l).length := by
   have : frms (x :: l) = frm x ++ frms l := by simp [frms]
   rw [this, List.length_append, frm_len]
  rw [e2]
  simp; omega
theorem frms_ge : ∀ l : List (List UInt8), l.length ≤ (frms l).length
 | [] => by simp
 | x :: l => by
  have := frms_ge l
  have e : frms (x :: l) = frm x ++ frms l := by simp [frms]
  rw [e, List.length_append, frm_len]
  simp; omega
theorem scan_frms {l : List (List UInt8)} {p : List UInt8} (hs : Small l) (hp : ∃ e, opn p = .error e) : scan (frms l ++ p) = (l, (frms l).length) := by
 unfold scan
 rw [scanF_frms hs hp (by have := frms_ge l; rw [List.length_append]; omega)]
 simp
theorem frms_cut : ∀ (l : List (List UInt8)) (n : Nat), Small l → n ≤ (frms l).length → ∃ i p, i ≤ l.length ∧ (frms l).take n = frms (l.take i) ++ p ∧ (∃ e, opn p = .error e) ∧ ∀ k, (frms (l.take k)).length ≤ n → k ≤ l.length → k ≤ i
 | [], n, _, h => ⟨0, [], by simp, by simp [frms], ⟨31, rfl⟩, fun k _ h => by simpa using h⟩
 | x :: l, n, hs, h => by
  have e : frms (x :: l) = frm x ++ frms l := by simp [frms]
  have hx : x.length ≤ 65536 := hs x (by simp)
  rw [e, List.length_append] at h
  rw [e]
  by_cases c : n < (frm x).length
  ·refine ⟨0, (frm x).take n, by simp, ?_, ?_, ?_⟩
   ·rw [List.take_append_of_le_length (by omega)]; simp [frms]
   ·refine opn_cut hx (List.take_append_drop n _).symm ?_
    intro h0
    have := congrArg List.length h0
    rw [List.length_drop] at this
    simp at this; omega
   ·intro k hk hkl
    cases k with
    | zero => omega
    | succ k =>
     have e2 : frms ((x :: l).take (k + 1)) = frm x ++ frms (l.take k) := by simp [frms]
     rw [e2, List.length_append] at hk
     omega
  ·obtain ⟨i, p, h1, h2, h3, h4⟩ := frms_cut l (n - (frm x).length) (fun y hy => hs y (by simp [hy])) (by omega)
   refine ⟨i + 1, p, by simp; omega, ?_, h3, ?_⟩
   ·rw [List.take_append, List.take_of_length_le (by omega), h2]; simp [frms]
   ·intro k hk hkl
    cases k with
    | zero => omega
    | succ k =>
     have e2 : frms ((x :: l).take (k + 1)) = frm x ++ frms (l.take k) := by simp [frms]
     rw [e2, List.length_append] at hk
     have := h4 k (by omega) (by simpa using hkl)
     omega
end Go.Proofs.YtehclfjjjiiieaaGreat.Disk
namespace Go.Proofs.YtehclfjjjiiieaaGreat.Disk
open Go Go.Proofs.YtehclfjjjiiieaaGreat.Cf Go.Proofs.YtehclfjjjiiieaaGreat.Wire
set_option linter.unusedVariables false
set_option linter.unusedSimpArgs false
set_option maxRecDepth 100000
theorem wr_u32 (n : Int) : IntKind.u32.wrap n = n % 4294967296 := by simp [IntKind.wrap, IntKind.bits, IntKind.signed]
theorem wid_u32 (n : Int) (h0 : 0 ≤ n) (h1 : n < 2 ^ 32) : IntKind.u32.wrap n = n := by rw [wr_u32]; omega
section
variable {W w : World} {l l' : List Assn} {s : Slc} {bs : List UInt8}
theorem mkS0_st {α : Type} {T : Ty α} {t : TypeId} {sz by_ : Nat} {c : Int} {z : α} {K : Slc → World → Prop} (hl : ∀ x, (T.cells x).length = sz) (h0 : 0 ≤ c) (h1 : (by_ : Int) * c ≤ 281474976710656) (h2 : c ≤ 9223372036854775807) (H : St W l w)
  (hk : ∀ r w', St W (row T t sz r [] :: l) w' → K r w') : mkS t T by_ z 0 c w K :=
 ⟨Int.le_refl _, h0, h1, h2, hk _ _ (row_shut (rest := (List.replicate c.toNat z).flatMap T.cells) rfl rfl (by simp) (by rw [flat_len hl]; simp) (H.alloc _))⟩
theorem onn_spec {c : Int} (h0 : 0 ≤ c) (h1 : c < 4294967296) (hn : bs.length ≤ 9223372036854775806) (k : See 1 l (tInt .u8) s (B bs)) (H : St W l w) :
  cl Tryz.prog 132 [.int .u32 c, tSlc.enc s] (tInt .u32) w fun r w' => r = onn c bs ∧ St W l w' := by
 have hs := k.len H
 rw [B_len] at hs
 refine F132_ok ?_
 unfold F132
 refine lp_p (fun p w => 0 ≤ p.2 ∧ p.2 ≤ bs.length ∧ onn c bs = onn p.1 (bs.drop p.2.toNat) ∧ St W l w) (fun p => (bs.length - p.2).toNat) ⟨Int.le_refl 0, by simp only; omega, rfl, H⟩ ?_
 clear H
 rintro ⟨d, i⟩ w ⟨i0, i1, he, H⟩ K hK
 simp only at i0 i1 he
 unfold F132_l1
 rw [hs]
 split
 ·rename_i hi
  have hi : i < bs.length := by simpa using hi
  have hd : bs.drop i.toNat = bs[i.toNat] :: bs.drop (i.toNat + 1) := List.drop_eq_getElem_cons (by omega)
  have hx : (B bs)[i.toNat]? = some (bs[i.toNat].toNat : Int) := by
   simp only [B, List.getElem?_map, List.getElem?_eq_getElem (show i.toNat < bs.length by omega), Option.map_some]
  rw [hd] at he
  generalize bs[i.toNat] = x at hx he
  obtain ⟨a, ha⟩ := k.ix (i := i) H i0 (by rw [B_len]; omega)
  refine ex_i a ha ?_
  refine ex_i (x.toNat : Int) (k.rd ha hx H) ?_
  refine lp_p (fun p w => ∃ j : Nat, j ≤ 8 ∧ p.2 = (j : Int) ∧ turns (8 - j) p.1 = turns 8 (bits .xor .u32 d (IntKind.u32.wrap (x.toNat : Int))) ∧ St W l w) (fun p => (8 - p.2).toNat) ⟨0, by omega, rfl, rfl, H⟩ ?_
  clear H
  rintro ⟨q, j⟩ w ⟨j, hj, rfl, hq, H⟩ K2 hK2
  unfold F132_l2
  split
  ·rename_i hc
   have hc : j < 8 := by simp at hc; omega
   refine shift_i (by omega) ?_
   have hj2 : 8 - j = (8 - (j + 1)) + 1 := by omega
   rw [hj2] at hq
   have hq : turns (8 - (j + 1)) (turn q) = turns 8 (bits .xor .u32 d (IntKind.u32.wrap (x.toNat : Int))) := hq
   unfold turn at hq
   have e8 : IntKind.i64.wrap ((j : Int) + 1) = ((j + 1 : Nat) : Int) := by rw [wr_i64]; omega
   rw [e8]
   generalize turns 8 (bits .xor .u32 d (IntKind.u32.wrap (x.toNat : Int))) = z at hq hK2
   generalize (bits .xor .u32 (Int.fdiv q (2 ^ (min ((1 : Int)).toNat IntKind.u32.bits))) (bits .and .u32 (IntKind.u32.wrap (0 - (bits .and .u32 q (1 : Int)))) (3988292384 : Int))) = y at hq ⊢
   exact hK2 _ _ ⟨j + 1, by omega, rfl, hq, H⟩ (by simp only; omega)
  ·rename_i hc
   have hc : j = 8 := by simp at hc; omega
   subst hc
   have e1 : IntKind.i64.wrap (i + 1) = i + 1 := wrap_i64 (by omega) (by omega)
   rw [e1]
   rw [Nat.sub_self] at hq
   have hq : q = turns 8 (bits .xor .u32 d (IntKind.u32.wrap (x.toNat : Int))) := hq
   refine hK _ _ ⟨by simp only; omega, by simp only; omega, ?_, H⟩ (by simp only; omega)
   simp only
   have e2 : (i + 1).toNat = i.toNat + 1 := by omega
   rw [he, e2, hq, onn]
 ·rename_i hi
  have hi : i = bs.length := by simp at hi; omega
  subst hi
  refine ⟨?_, H⟩
  rw [he]; simp [onn]
theorem both_spec {s1 s2 : Slc} {b1 b2 : List UInt8} (hn1 : b1.length ≤ 9223372036854775806) (hn2 : b2.length ≤ 9223372036854775806) (k1 : See 1 l (tInt .u8) s1 (B b1)) (k2 : See 1 l (tInt .u8) s2 (B b2)) (H : St W l w) :
  cl Tryz.prog 114 [tSlc.enc s1, tSlc.enc s2] (tInt .u32) w fun r w' => r = (summ b1 b2 : Nat) ∧ St W l w' := by
 refine F114_ok ?_
 unfold F114
 refine cl_mono (onn_spec (by decide) (by decide) hn1 k1 H) ?_
 rintro r w ⟨rfl, H⟩
 have h := onn_u32 b1 4294967295 (by decide) (by decide)
 refine cl_mono (onn_spec h.1 h.2 hn2 k2 H) ?_
 rintro r w ⟨rfl, H⟩
 exact ⟨(summ_cast b1 b2).symm, H⟩
theorem four_spec {n : Nat} {xs : List Int} (hn : n < 4294967296) (hb : xs.length ≤ 100000000) (i : Nat) (H : St W l w) (hi : front i l = row (tInt .u8) 5 1 s xs :: l') :
  cl Tryz.prog 113 [tSlc.enc s, .int .u32 n] tSlc w fun r w' => St W (row (tInt .u8) 5 1 r (xs ++ B (be 4 n)) :: l') w' := by
 refine F113_ok ?_
 unfold F113
 refine shift_i (by omega) ?_
 refine shift_i (by omega) ?_
 refine shift_i (by omega) ?_
 have m1 : min ((24 : Int)).toNat IntKind.u32.bits = 24 := rfl
 have m2 : min ((16 : Int)).toNat IntKind.u32.bits = 16 := rfl
 have m3 : min ((8 : Int)).toNat IntKind.u32.bits = 8 := rfl
 rw [m1, m2, m3, fdiv_nat, fdiv_nat, fdiv_nat, u8w rfl, u8w rfl, u8w rfl, u8w rfl]
 have e : ∀ m : Nat, (UInt8.ofNat m) = UInt8.ofNat (m % 256) := fun m => UInt8.toNat_inj.1 (by simp)
 have hb4 : [((UInt8.ofNat (n / 2 ^ 24)).toNat : Int), (UInt8.ofNat (n / 2 ^ 16)).toNat, (UInt8.ofNat (n / 2 ^ 8)).toNat, (UInt8.ofNat n).toNat] = B (be 4 n) := by
  rw [e (n / 2 ^ 24), e (n / 2 ^ 16), e (n / 2 ^ 8), e n]
  simp [B, be]
 rw [hb4]
 refine apl_row (fun _ => rfl) i H hi (by rw [B_len, be_len]; omega) fun r w H => H
theorem read_spec (hn : bs.length ≤ 9223372036854775806) (h4 : 4 ≤ bs.length) (k : See 1 l (tInt .u8) s (B bs)) (H : St W l w) :
  cl Tryz.prog 131 [tSlc.enc s] (tInt .u32) w fun r w' => r = (rd4 bs : Nat) ∧ St W l w' := by
 refine F131_ok ?_
 unfold F131
 obtain ⟨c0, c1, c2, c3, rest, rfl⟩ : ∃ c0 c1 c2 c3 rest, bs = c0 :: c1 :: c2 :: c3 :: rest := by
  rcases bs with _ | ⟨c0, _ | ⟨c1, _ | ⟨c2, _ | ⟨c3, rest⟩⟩⟩⟩
  ·simp at h4
  ·simp at h4
  ·simp at h4
  ·simp at h4
  ·exact ⟨c0, c1, c2, c3, rest, rfl⟩
 refine dr_st H fun w H => ?_
 obtain ⟨a0, h0⟩ := k.ix (i := 0) H (by omega) (by rw [B_len]; omega)
 obtain ⟨a1, h1⟩ := k.ix (i := 1) H (by omega) (by rw [B_len]; omega)
 obtain ⟨a2, h2⟩ := k.ix (i := 2) H (by omega) (by rw [B_len]; omega)
 obtain ⟨a3, h3⟩ := k.ix (i := 3) H (by omega) (by rw [B_len]; omega)
 refine ex_i a0 h0 ?_
 refine ex_i a1 h1 ?_
 refine ex_i a2 h2 ?_
 refine ex_i a3 h3 ?_
 refine ex_i (c0.toNat : Int) (k.rd h0 (by simp [B]) H) ?_
 refine shift_i (by omega) ?_
 refine ex_i (c1.toNat : Int) (k.rd h1 (by simp [B]) H) ?_
 refine shift_i (by omega) ?_
 refine ex_i (c2.toNat : Int) (k.rd h2 (by simp [B]) H) ?_
 refine shift_i (by omega) ?_
 refine ex_i (c3.toNat : Int) (k.rd h3 (by simp [B]) H) ?_
 refine ⟨?_, H⟩
 have g0 := c0.toNat_lt
 have g1 := c1.toNat_lt
 have g2 := c2.toNat_lt
 have g3 := c3.toNat_lt
 have m1 : min ((24 : Int)).toNat IntKind.u32.bits = 24 := rfl
 have m2 : min ((16 : Int)).toNat IntKind.u32.bits = 16 := rfl
 have m3 : min ((8 : Int)).toNat IntKind.u32.bits = 8 := rfl
 rw [m1, m2, m3]
 have e0 : IntKind.u32.wrap (IntKind.u32.wrap (c0.toNat : Int) * 2 ^ 24) = (c0.toNat : Int) * 16777216 := by rw [wr_u32, wr_u32]; omega
 have e1 : IntKind.u32.wrap (IntKind.u32.wrap (c1.toNat : Int) * 2 ^ 16) = (c1.toNat : Int) * 65536 := by rw [wr_u32, wr_u32]; omega
 have e2 : IntKind.u32.wrap (IntKind.u32.wrap (c2.toNat : Int) * 2 ^ 8) = (c2.toNat : Int) * 256 := by rw [wr_u32, wr_u32]; omega
 have e3 : IntKind.u32.wrap (c3.toNat : Int) = (c3.toNat : Int) := by rw [wr_u32]; omega
 rw [e0, e1, e2, e3]
 rw [bits_join .u32 32 (by decide) wid_u32 24 ((c0.toNat : Int) * 16777216) ((c1.toNat : Int) * 65536) (by omega) (by omega) (by omega) (by omega) (by omega) (by omega)]
 rw [bits_join .u32 32 (by decide) wid_u32 16 ((c0.toNat : Int) * 16777216 + (c1.toNat : Int) * 65536) ((c2.toNat : Int) * 256) (by omega) (by omega) (by omega) (by omega) (by omega) (by omega)]
 rw [bits_join .u32 32 (by decide) wid_u32 8 ((c0.toNat : Int) * 16777216 + (c1.toNat : Int) * 65536 + (c2.toNat : Int) * 256) (c3.toNat : Int) (by omega) (by omega) (by omega) (by omega) (by omega) (by omega)]
 simp only [rd4]
 omega
theorem seal_spec (hn : bs.length ≤ 9223372036854775806) (k : See 1 l (tInt .u8) s (B bs)) (H : St W l w) :
  cl Tryz.prog 72 [tSlc.enc s] (tTup2 tSlc (tInt .i64)) w fun r w' => (65536 < bs.length → r = (nilS, 30) ∧ St W l w') ∧ (bs.length ≤ 65536 → r.2 = 0 ∧ St W (row (tInt .u8) 5 1 r.1 (B (frm bs)) :: l) w') := by
 have hs := k.len H
 rw [B_len] at hs
 refine F72_ok ?_
 unfold F72
 rw [hs]
 split
 ·rename_i hc
  have hc : 65536 < bs.length := by simp at hc; omega
  exact ⟨fun _ => ⟨rfl, H⟩, fun h => by omega⟩
 ·rename_i hc
  have hc : bs.length ≤ 65536 := by simp at hc; omega
  have e1 : IntKind.i64.wrap (8 + (bs.length : Int)) = 8 + (bs.length : Int) := wrap_i64 (by omega) (by omega)
  rw [e1]
  refine mkS0_st (sz := 1) (fun _ => rfl) (by omega) (by omega) (by omega) H fun r w H => ?_
  have e2 : IntKind.u32.wrap (bs.length : Int) = ((bs.length : Nat) : Int) := by rw [wr_u32]; omega
  rw [e2]
  refine cl_mono (four_spec (by omega) (by simp) 0 H rfl) ?_
  intro r w H
  rw [List.nil_append] at H
  refine cl_mono (both_spec (by rw [be_len]; omega) hn (See.row (fun _ => rfl) 0 rfl) k.tail H) ?_
  rintro q w ⟨rfl, H⟩
  refine cl_mono (four_spec (summ_lt _ _) (by rw [B_len, be_len]; omega) 0 H rfl) ?_
  intro r w H
  rw [← B_app] at H
  refine apd_row (fun _ => rfl) 0 H rfl (k.tail.rdS H) (by simp [B_len, be_len]; omega) fun r w H => ?_
  rw [← B_app, List.append_assoc] at H
  exact ⟨fun h => by omega, fun _ => ⟨rfl, H⟩⟩
theorem B_take (bs : List UInt8) (n : Nat) : B (bs.take n) = (B bs).take n := by simp [B, List.map_take]
theorem B_drop (bs : List UInt8) (n : Nat) : B (bs.drop n) = (B bs).drop n := by simp [B, List.map_drop]
theorem open_spec (hcap : s.len ≤ s.cap) (hn : bs.length ≤ 9223372036854775806) (k : Know l (RoP (tInt .u8) s (B bs))) (H : St W l w) :
  cl Tryz.prog 108 [tSlc.enc s] (tTup3 tSlc (tInt .i64) (tInt .i64)) w fun r w' => match opn bs with
   | .error e => r.2.2 = e ∧ e ≠ 0 ∧ St W l w'
   | .ok (x, n) => r.2.2 = 0 ∧ r.2.1 = (n : Nat) ∧ r.1.len ≤ r.1.cap ∧ St W (ro (tInt .u8) r.1 (B x) :: l) w' := by
 have hs := k.len H
 rw [B_len] at hs
 have ks : See 1 l (tInt .u8) s (B bs) := See.ro (fun _ => rfl) k
 refine F108_ok ?_
 unfold F108 opn
 rw [hs]
 by_cases hc : bs.length < 8
 ·rw [if_pos (show decide ((bs.length : Int) < 8) = true by simp; omega), if_pos hc]
  exact ⟨rfl, by decide, H⟩
 ·rw [if_neg (show ¬ decide ((bs.length : Int) < 8) = true by simp; omega), if_neg hc]
  have hc : 8 ≤ bs.length := by omega
  refine cl_mono (read_spec hn (by omega) ks H) ?_
  rintro r w ⟨rfl, H⟩
  have hr4 : rd4 bs < 4294967296 := by
   obtain ⟨c0, c1, c2, c3, rest, rfl⟩ : ∃ c0 c1 c2 c3 rest, bs = c0 :: c1 :: c2 :: c3 :: rest := by
    rcases bs with _ | ⟨c0, _ | ⟨c1, _ | ⟨c2, _ | ⟨c3, rest⟩⟩⟩⟩
    ·simp at hc
    ·simp at hc
    ·simp at hc
    ·simp at hc
    ·exact ⟨c0, c1, c2, c3, rest, rfl⟩
   have g0 := c0.toNat_lt
   have g1 := c1.toNat_lt
   have g2 := c2.toNat_lt
   have g3 := c3.toNat_lt
   simp only [rd4]; omega
  generalize rd4 bs = n at hr4
  have e1 : IntKind.i64.wrap (n : Int) = (n : Int) := wrap_i64 (by omega) (by omega)
  have e2 : IntKind.i64.wrap ((bs.length : Int) - 8) = (bs.length : Int) - 8 := wrap_i64 (by omega) (by omega)
  rw [e1, e2]
  by_cases h1 : 65536 < n
  ·rw [if_pos (show decide ((n : Int) > 65536) = true by simp; omega), if_pos h1]
   exact ⟨rfl, by decide, H⟩
  ·rw [if_neg (show ¬ decide ((n : Int) > 65536) = true by simp; omega), if_neg h1]
   by_cases h2 : bs.length - 8 < n
   ·rw [if_pos (show decide ((n : Int) > (bs.length : Int) - 8) = true by simp; omega), if_pos h2]
    exact ⟨rfl, by decide, H⟩
   ·rw [if_neg (show ¬ decide ((n : Int) > (bs.length : Int) - 8) = true by simp; omega), if_neg h2]
    have e3 : IntKind.i64.wrap (8 + (n : Int)) = 8 + (n : Int) := wrap_i64 (by omega) (by omega)
    rw [e3]
    refine dr_st H fun w H => ?_
    refine sub_st (by omega) (by omega) (by omega) (by omega) fun s5 h5 => ?_
    refine sub_st (by omega) (by omega) (by omega) (by omega) fun s6 h6 => ?_
    refine sub_st (by omega) (by omega) (by omega) (by omega) fun s7 h7 => ?_
    have k5 := k.sub (fun _ => rfl) h5 (by rw [B_len]; omega)
    have k6 := k.sub (fun _ => rfl) h6 (by rw [B_len]; omega)
    have k7 := k.sub (fun _ => rfl) h7 (by rw [B_len]; omega)
    have b5 : ((B bs).take ((4 : Int)).toNat).drop ((0 : Int)).toNat = B (bs.take 4) := by rw [B_take]; rfl
    have b6 : ((B bs).take (8 + (n : Int)).toNat).drop ((8 : Int)).toNat = B ((bs.drop 8).take n) := by
     have : (8 + (n : Int)).toNat = 8 + n := by omega
     rw [this, B_take, B_drop, List.take_drop]; rfl
    have b7 : ((B bs).take (bs.length : Int).toNat).drop ((4 : Int)).toNat = B (bs.drop 4) := by
     rw [B_drop, List.take_of_length_le (by rw [B_len]; omega)]; rfl
    rw [b5] at k5
    rw [b6] at k6
    rw [b7] at k7
    refine cl_mono (both_spec (by simp; omega) (by simp; omega) (See.ro (fun _ => rfl) k5) (See.ro (fun _ => rfl) k6) H) ?_
    rintro r w ⟨rfl, H⟩
    refine cl_mono (read_spec (by simp; omega) (by simp; omega) (See.ro (fun _ => rfl) k7) H) ?_
    rintro r w ⟨rfl, H⟩
    by_cases hq : summ (bs.take 4) ((bs.drop 8).take n) ≠ rd4 (bs.drop 4)
    ·rw [if_pos (by simp; omega), if_pos hq]
     exact ⟨rfl, by decide, H⟩
    ·rw [if_neg (by simp at hq ⊢; omega), if_neg hq]
     refine nwS_st H fun b w H => ?_
     have H := row_new (sz := 1) (m := 0) rfl H
     refine sub_st (by omega) (by omega) (by omega) (by omega) fun s14 h14 => ?_
     have k14 := k.sub (fun _ => rfl) h14 (by rw [B_len]; omega)
     rw [b6] at k14
     refine apd_row (fun _ => rfl) 0 H rfl (k14.tail.rdS H) (by simp [B_len]; omega) fun r w H => ?_
     rw [List.nil_append] at H
     have hxl : ((bs.drop 8).take n).length = n := by rw [List.length_take, List.length_drop]; omega
     have hrl := row_len H
     have hrc := row_cap H
     rw [B_len, hxl] at hrl
     refine sub_st (by omega) (by omega) (by omega) (by omega) fun s17 h17 => ?_
     obtain ⟨h18, H⟩ := row_cut3 (fun _ => rfl) h17 (by rw [B_len, hxl]; omega) H
     have e9 : (B ((bs.drop 8).take n)).take (n : Int).toNat = B ((bs.drop 8).take n) := List.take_of_length_le (by rw [B_len, hxl]; omega)
     rw [e9] at H
     exact ⟨rfl, by simp, by rw [h18]; exact Nat.le_refl _, row_stay H⟩
end
end Go.Proofs.YtehclfjjjiiieaaGreat.Disk
namespace Go.Proofs.YtehclfjjjiiieaaGreat.Disk
open Go Go.Proofs.YtehclfjjjiiieaaGreat.Cf Go.Proofs.YtehclfjjjiiieaaGreat.Wire
set_option linter.unusedVariables false
set_option linter.unusedSimpArgs false
set_option maxRecDepth 100000
abbrev SL := S92
abbrev TL := T92
abbrev TD := T76
structure Log where
 b : List UInt8
 sure : Nat
structure Dk where
 logs : List Log
 acts : Int
 down : Bool
 armed : Int
 keep : List Int
structure Dk.Ok (D : Dk) : Prop where
 len : D.logs.length ≤ 16
 log : ∀ g ∈ D.logs, g.sure ≤ g.b.length ∧ g.b.length ≤ 4194304
def kept (keep : List Int) (i : Nat) (g : Log) : Nat := g.sure + match keep[i]? with
 | none => 0
 | some k => (min (max k 0) ((g.b.length : Int) - g.sure)).toNat
def cutL (keep : List Int) (i : Nat) (g : Log) : Log := ⟨g.b.take (kept keep i g), kept keep i g⟩
def crash (keep : List Int) (D : Dk) : Dk := if D.down then D else { D with down := true, armed := 0, logs := D.logs.mapIdx (cutL keep) }
def actD (D : Dk) (n size : Int) (f : Log → Log) : Dk × Int :=
 if ¬ (0 ≤ n ∧ n < D.logs.length) then (D, 70) else if D.down then (D, 71) else if 4194304 < size then (D, 72)
 else if D.armed = 1 then (crash D.keep D, 71)
 else ({ D with armed := if 1 < D.armed then IntKind.i64.wrap (D.armed - 1) else D.armed, acts := IntKind.i64.wrap (D.acts + 1), logs := D.logs.modify n.toNat f }, 0)
theorem kept_le {keep : List Int} {i : Nat} {g : Log} (h : g.sure ≤ g.b.length) : g.sure ≤ kept keep i g ∧ kept keep i g ≤ g.b.length := by
 unfold kept
 cases keep[i]? with
 | none => simp only; omega
 | some k => simp only; omega
theorem crash_ok {keep : List Int} {D : Dk} (h : D.Ok) : (crash keep D).Ok := by
 unfold crash
 split
 ·exact h
 ·refine ⟨by simpa using h.len, fun g hg => ?_⟩
  simp only [List.mem_mapIdx] at hg
  obtain ⟨i, hi, rfl⟩ := hg
  have h1 := h.log D.logs[i] (List.getElem_mem _)
  have h2 := kept_le (keep := keep) (i := i) h1.1
  simp only [cutL, List.length_take]
  omega
theorem actD_ok {D : Dk} {n size : Int} {f : Log → Log} (h : D.Ok) (hf : size ≤ 4194304 → ∀ g, D.logs[n.toNat]? = some g → (f g).sure ≤ (f g).b.length ∧ (f g).b.length ≤ 4194304) : (actD D n size f).1.Ok := by
 unfold actD
 split
 ·exact h
 ·split
  ·exact h
  ·split
   ·exact h
   ·rename_i hs
    split
    ·exact crash_ok h
    ·refine ⟨by simpa using h.len, fun g hg => ?_⟩
     simp only at hg
     obtain ⟨i, hi, rfl⟩ := List.getElem_of_mem hg
     rw [List.getElem_modify]
     split
     ·rename_i hin
      subst hin
      have hil : n.toNat < D.logs.length := by simpa using hi
      exact hf (by omega) _ (List.getElem?_eq_getElem hil)
     ·exact h.log _ (List.getElem_mem _)
section
variable {W w : World} {l l' : List Assn}
def lrow (p : Slc × Log) : Assn := row (tInt .u8) 5 1 p.1 (B p.2.b)
def lval (p : Slc × Log) : SL := ⟨p.1, p.2.sure⟩
def dskA (d : Nat) (D : Dk) : Assn := exA fun s : Slc => exA fun P : List (Slc × Log) => exA fun kp : Slc => sepA [puA (P.map Prod.snd = D.logs), cel d (TD.cells ⟨s, D.acts, D.down, D.armed, kp⟩) 77, row TL 93 2 s (P.map lval), sepA (P.map lrow), row (tInt .i64) 3 1 kp D.keep]
theorem dsk_open {d : Nat} {D : Dk} (H : St W (dskA d D :: l) w) : ∃ (s : Slc) (P : List (Slc × Log)) (kp : Slc), P.map Prod.snd = D.logs ∧ St W (cel d (TD.cells ⟨s, D.acts, D.down, D.armed, kp⟩) 77 :: row TL 93 2 s (P.map lval) :: sepA (P.map lrow) :: row (tInt .i64) 3 1 kp D.keep :: l) w := by
 obtain ⟨s, H⟩ := H.ex
 obtain ⟨P, H⟩ := H.ex
 obtain ⟨kp, H⟩ := H.ex
 have H := H.open_
 obtain ⟨h, H⟩ := St.pu (φ := P.map Prod.snd = D.logs) H
 exact ⟨s, P, kp, h, H⟩
theorem dsk_shut {d : Nat} {D : Dk} {s kp : Slc} {P : List (Slc × Log)} (h : P.map Prod.snd = D.logs) (H : St W (cel d (TD.cells ⟨s, D.acts, D.down, D.armed, kp⟩) 77 :: row TL 93 2 s (P.map lval) :: sepA (P.map lrow) :: row (tInt .i64) 3 1 kp D.keep :: l) w) : St W (dskA d D :: l) w :=
 St.toEx s (St.toEx P (St.toEx kp (St.shut (l' := [puA _, _, _, _, _]) (St.toPu h H))))
theorem split_at {α : Type} {P : List α} {i : Nat} {p : α} (h : P[i]? = some p) : ∃ P1 P2, P = P1 ++ p :: P2 ∧ P1.length = i := by
 have hi := (List.getElem?_eq_some_iff.1 h).1
 refine ⟨P.take i, P.drop (i + 1), ?_, by rw [List.length_take]; omega⟩
 have := (List.getElem?_eq_some_iff.1 h).2
 rw [← this, ← List.drop_eq_getElem_cons hi, List.take_append_drop]
theorem new_spec {n : Int} (h0 : 1 ≤ n) (h1 : n ≤ 16) (H : St W l w) : cl Tryz.prog 12 [.int .i64 n] (tTup2 tPtr (tInt .i64)) w fun r w' => r.2 = 0 ∧ ∃ d, r.1 = some ⟨d, 0, none⟩ ∧ St W (dskA d ⟨List.replicate n.toNat ⟨[], 0⟩, 0, false, 0, []⟩ :: l) w' := by
 refine F12_ok ?_
 unfold F12
 rw [if_neg (by simp; omega)]
 refine mkS_st (sz := 2) (by omega) (by omega) (by omega) H fun b w H => ?_
 refine nw_st H fun d w H => ?_
 refine ⟨rfl, d, rfl, ?_⟩
 refine dsk_shut (s := ⟨some ⟨b, 0, none⟩, n.toNat, n.toNat⟩) (P := List.replicate n.toNat (nilS, ⟨[], 0⟩)) (kp := nilS) (by simp) ?_
 have hm : (List.replicate n.toNat (nilS, (⟨[], 0⟩ : Log))).map lval = List.replicate n.toNat (⟨nilS, 0⟩ : SL) := by simp [lval]
 rw [hm]
 have hn : ∀ (m : Nat) {l : List Assn}, St W l w → St W (sepA ((List.replicate m (nilS, (⟨[], 0⟩ : Log))).map lrow) :: l) w := by
  intro m
  induction m with
  | zero => intro l H; exact St.shut (l' := []) H
  | succ m ih =>
   intro l H
   have h2 : (List.replicate (m + 1) (nilS, (⟨[], 0⟩ : Log))).map lrow = lrow (nilS, ⟨[], 0⟩) :: (List.replicate m (nilS, (⟨[], 0⟩ : Log))).map lrow := by rw [List.replicate_succ, List.map_cons]
   rw [h2]
   have H := row_nil (tInt .u8) 5 1 (ih H)
   exact St.shut (l' := lrow (nilS, ⟨[], 0⟩) :: _) ((H.front 1).open_ |> fun H => H.perm (by
    simp only [List.cons_append]
    exact List.perm_middle))
 have H := hn n.toNat (row_nil (tInt .i64) 3 1 H)
 exact H.ord [2, 3, 0, 1]
theorem has_spec {d : Nat} {D : Dk} {n : Int} (H : St W (dskA d D :: l) w) : cl Tryz.prog 107 [.pointer (some ⟨d, 0, none⟩), .int .i64 n] tBool w fun r w' => r = decide (0 ≤ n ∧ n < D.logs.length) ∧ St W (dskA d D :: l) w' := by
 obtain ⟨s, P, kp, hP, H⟩ := dsk_open H
 refine F107_ok ?_
 unfold F107
 have hs := row_len (H.front 1)
 rw [List.length_map] at hs
 have hl : P.length = D.logs.length := by rw [← hP, List.length_map]
 refine ex_i ⟨d, 0, none⟩ (fun _ => rfl) ?_
 refine ex_i s (fun _ => rdat_cel tSlc H rfl rfl) ?_
 refine ⟨?_, dsk_shut hP H⟩
 rw [hs, hl, Bool.eq_iff_iff, Bool.and_eq_true, decide_eq_true_eq, decide_eq_true_eq, decide_eq_true_eq]
theorem log_out {P : List (Slc × Log)} {i : Nat} {p : Slc × Log} (h : P[i]? = some p) (H : St W (sepA (P.map lrow) :: l) w) : St W (lrow p :: exA (fun P1 : List (Slc × Log) => exA fun P2 : List (Slc × Log) => sepA [puA (P = P1 ++ p :: P2 ∧ P1.length = i), sepA ((P1 ++ P2).map lrow)]) :: l) w := by
 obtain ⟨P1, P2, h1, h2⟩ := split_at h
 subst h1
 have H := big_out H
 have H := H.front 1
 have H := St.toPu (φ := P1 ++ p :: P2 = P1 ++ p :: P2 ∧ P1.length = i) ⟨rfl, h2⟩ H
 have H := St.shut (l' := [puA _, sepA _]) H
 exact (St.toEx (f := fun P1' : List (Slc × Log) => exA fun P2' : List (Slc × Log) => sepA [puA (P1 ++ p :: P2 = P1' ++ p :: P2' ∧ P1'.length = i), sepA ((P1' ++ P2').map lrow)]) P1 (St.toEx (f := fun P2' : List (Slc × Log) => sepA [puA (P1 ++ p :: P2 = P1 ++ p :: P2' ∧ P1.length = i), sepA ((P1 ++ P2').map lrow)]) P2 H)).front 1
theorem log_in {P : List (Slc × Log)} {i : Nat} {p q : Slc × Log} (H : St W (lrow q :: exA (fun P1 : List (Slc × Log) => exA fun P2 : List (Slc × Log) => sepA [puA (P = P1 ++ p :: P2 ∧ P1.length = i), sepA ((P1 ++ P2).map lrow)]) :: l) w) : St W (sepA ((P.set i q).map lrow) :: l) w := by
 have H := H.front 1
 obtain ⟨P1, H⟩ := H.ex
 obtain ⟨P2, H⟩ := H.ex
 have H := H.open_
 obtain ⟨⟨h1, h2⟩, H2⟩ := St.pu (φ := P = P1 ++ p :: P2 ∧ P1.length = i) H
 clear H
 subst h1; subst h2
 have e : (P1 ++ p :: P2).set P1.length q = P1 ++ q :: P2 := by
  rw [List.set_append_right _ _ (Nat.le_refl _)]; simp
 rw [e]
 exact big_in (H2.front 1)
theorem lrow_cap {p : Slc × Log} (H : St W (lrow p :: l) w) : p.1.len = p.2.b.length ∧ p.1.len ≤ p.1.cap := by
 have h1 := row_len H
 rw [B_len] at h1
 exact ⟨h1, row_cap H⟩
theorem stepTo_zero (keep : List Int) (L : List Log) : (L.mapIdx fun j g => if j < 0 then cutL keep j g else g) = L := by
 apply List.ext_getElem?
 intro j
 rw [List.getElem?_mapIdx]
 cases L[j]? <;> simp
theorem stepTo_all (keep : List Int) (L : List Log) : (L.mapIdx fun j g => if j < L.length then cutL keep j g else g) = L.mapIdx (cutL keep) := by
 apply List.ext_getElem?
 intro j
 rw [List.getElem?_mapIdx, List.getElem?_mapIdx]
 cases h : L[j]? with
 | none => rfl
 | some g =>
  have := (List.getElem?_eq_some_iff.1 h).1
  simp [this]
theorem stepTo_succ {keep : List Int} {L : List Log} {i : Nat} {g : Log} (h : L[i]? = some g) : (L.mapIdx fun j g => if j < i + 1 then cutL keep j g else g) = (L.mapIdx fun j g => if j < i then cutL keep j g else g).set i (cutL keep i g) := by
 apply List.ext_getElem?
 intro j
 have hi := (List.getElem?_eq_some_iff.1 h).1
 rw [List.getElem?_mapIdx, List.getElem?_set, List.length_mapIdx, List.getElem?_mapIdx]
 by_cases e : i = j
 ·subst e
  rw [if_pos rfl, if_pos hi, h]; simp
 ·rw [if_neg e]
  cases hj : L[j]? with
  | none => rfl
  | some g' =>
   simp only [Option.map_some]
   by_cases c : j < i
   ·rw [if_pos c, if_pos (by omega)]
   ·rw [if_neg c, if_neg (by omega)]
theorem crash_core {d : Nat} {s kp ks : Slc} {P : List (Slc × Log)} {acts armed : Int} {keep : List Int} (hok : ∀ p ∈ P, p.2.sure ≤ p.2.b.length ∧ p.2.b.length ≤ 4194304) (hp : P.length ≤ 16) (k : See 1 l (tInt .i64) ks keep)
  (H : St W (cel d (TD.cells ⟨s, acts, false, armed, kp⟩) 77 :: row TL 93 2 s (P.map lval) :: sepA (P.map lrow) :: l) w) :
  cl Tryz.prog 16 [.pointer (some ⟨d, 0, none⟩), tSlc.enc ks] tUnit w fun _ w' => ∃ P' : List (Slc × Log), P'.map Prod.snd = (P.map Prod.snd).mapIdx (cutL keep) ∧ St W (cel d (TD.cells ⟨s, acts, true, 0, kp⟩) 77 :: row TL 93 2 s (P'.map lval) :: sepA (P'.map lrow) :: l) w' := by
 have hkl := k.tail.tail.tail.len H
 refine F16_ok ?_
 unfold F16
 refine nc_st rfl ?_
 refine ld_st (x := false) 0 H rfl rfl rfl ?_
 rw [if_neg (by simp)]
 refine st_st (x := true) 0 H rfl rfl (Nat.le_of_ble_eq_true rfl) fun w H => ?_
 refine st_st (x := (0 : Int)) 0 H rfl rfl (Nat.le_of_ble_eq_true rfl) fun w H => ?_
 refine ld_st (x := s) 0 H rfl rfl rfl ?_
 have hs := row_len (H.front 1)
 rw [List.length_map] at hs
 refine lp_p (fun i w => ∃ (j : Nat) (Q : List (Slc × Log)), i = (j : Int) ∧ j ≤ P.length ∧ Q.map Prod.snd = ((P.map Prod.snd).mapIdx fun m g => if m < j then cutL keep m g else g) ∧ St W (cel d (TD.cells ⟨s, acts, true, 0, kp⟩) 77 :: row TL 93 2 s (Q.map lval) :: sepA (Q.map lrow) :: l) w) (fun i => (P.length - i).toNat)
  ⟨0, P, rfl, by omega, (stepTo_zero _ _).symm, H⟩ ?_
 clear H
 rintro i w ⟨j, Q, rfl, hj, hQ, H⟩ K hK
 have hQl : Q.length = P.length := by
  have := congrArg List.length hQ
  simpa using this
 unfold F16_l1
 rw [hs]
 split
 ·rename_i hi
  have hi : j < P.length := by simpa using hi
  refine ld_st (x := s) 0 H rfl rfl rfl ?_
  obtain ⟨a, ha⟩ := row_ix (i := (j : Int)) (H.front 1) (by omega) (by simp; omega)
  refine ex_i a ha ?_
  have hg0 : P[j]? = some P[j] := List.getElem?_eq_getElem hi
  have hq0 : Q[j]? = some Q[j] := List.getElem?_eq_getElem (by omega)
  have hmem : P[j] ∈ P := List.getElem_mem _
  have hsame : Q[j].2 = P[j].2 := by
   have := congrArg (fun l => l[j]?) hQ
   simp only [List.getElem?_map, hq0, List.getElem?_mapIdx, hg0, Option.map_some] at this
   simpa using this
  have hokj := hok _ hmem
  have hqq : (Q.map lval)[((j : Int)).toNat]? = some (lval Q[j]) := by simp [hq0]
  have hstep := stepTo_succ (keep := keep) (L := P.map Prod.snd) (i := j) (g := P[j].2) (by simp [hg0])
  generalize P[j] = p at hg0 hmem hsame hokj hstep
  generalize Q[j] = q at hq0 hqq hsame
  obtain ⟨qs, qg⟩ := q
  obtain ⟨ps, pg⟩ := p
  simp only at hsame hokj hstep
  subst hsame
  have H1 := log_out hq0 (H.front 2)
  have hc := lrow_cap H1
  simp only at hc
  refine ex_i (qg.sure : Int) ?_ ?_
  ·exact fld_row (U := tInt .i64) (fun _ => rfl) ha hqq rfl (H.front 1)
  have fin : ∀ (w : World) (n : Int), n = (kept keep j qg : Nat) → St W (cel d (TD.cells ⟨s, acts, true, 0, kp⟩) 77 :: row TL 93 2 s (Q.map lval) :: sepA (Q.map lrow) :: l) w → F16_j2 (j : Int) a n w K fun _ w' => ∃ P' : List (Slc × Log), P'.map Prod.snd = (P.map Prod.snd).mapIdx (cutL keep) ∧ St W (cel d (TD.cells ⟨s, acts, true, 0, kp⟩) 77 :: row TL 93 2 s (P'.map lval) :: sepA (P'.map lrow) :: l) w' := by
   intro w n hn H
   subst hn
   have hk := kept_le (keep := keep) (i := j) hokj.1
   unfold F16_j2
   refine ex_i qs (fld_row (U := tSlc) (fun _ => rfl) ha hqq rfl (H.front 1)) ?_
   refine sub_st (by omega) (by omega) (by omega) (by omega) fun r hr => ?_
   have H := log_out hq0 (H.front 2)
   obtain ⟨hr2, H⟩ := row_cut3 (fun _ => rfl) hr (by rw [B_len]; exact Int.ofNat_le.2 hk.2) H
   refine stf_row (x := lval (qs, qg)) (y := (⟨r, qg.sure⟩ : SL)) (o := 0) (U := tSlc) (z := r) (fun _ => rfl) ha hqq rfl (Nat.le_of_ble_eq_true rfl) (H.front 3) fun w H => ?_
   refine stf_row (x := (⟨r, qg.sure⟩ : SL)) (y := (⟨r, (kept keep j qg : Nat)⟩ : SL)) (o := 1) (U := tInt .i64) (z := ((kept keep j qg : Nat) : Int)) (fun _ => rfl) ha (List.getElem?_set_self (by rw [List.length_map, Int.toNat_natCast]; omega)) rfl (Nat.le_of_ble_eq_true rfl) H fun w H => ?_
   have e1 : IntKind.i64.wrap ((j : Int) + 1) = ((j + 1 : Nat) : Int) := by rw [wr_i64]; omega
   rw [e1]
   have hb : (B qg.b).take ((kept keep j qg : Nat) : Int).toNat = B (cutL keep j qg).b := by
    rw [Int.toNat_natCast]; exact (B_take _ _).symm
   rw [hb] at H
   have H := log_in (q := (r, cutL keep j qg)) (H.ord [1, 2])
   refine hK _ _ ⟨j + 1, Q.set j (r, cutL keep j qg), rfl, by omega, ?_, ?_⟩ (by omega)
   ·rw [List.map_set, hQ, hstep]
   ·have e2 : (((Q.map lval).set ((j : Int)).toNat (⟨r, qg.sure⟩ : SL)).set ((j : Int)).toNat (⟨r, (kept keep j qg : Nat)⟩ : SL)) = (Q.set j (r, cutL keep j qg)).map lval := by
     rw [List.set_set, List.map_set, Int.toNat_natCast]; rfl
    rw [e2] at H
    exact H.ord [2, 1, 0]
  rw [hkl]
  split
  ·rename_i hlt
   have hlt : j < keep.length := by simpa using hlt
   have hkx : keep[((j : Int)).toNat]? = some keep[j] := by rw [Int.toNat_natCast]; exact List.getElem?_eq_getElem hlt
   have hkk : keep[j]? = some keep[j] := List.getElem?_eq_getElem hlt
   generalize keep[j] = kj at hkx hkk
   refine dr_st H fun w H => ?_
   obtain ⟨ka, hka⟩ := k.tail.tail.tail.ix (i := (j : Int)) H (by omega) (by omega)
   refine ex_i ka hka ?_
   refine ex_i kj (k.tail.tail.tail.rd hka hkx H) ?_
   refine ex_i qs (fld_row (U := tSlc) (fun _ => rfl) ha hqq rfl (H.front 1)) ?_
   refine ex_i (qg.sure : Int) (fld_row (U := tInt .i64) (fun _ => rfl) ha hqq rfl (H.front 1)) ?_
   refine fin _ _ ?_ H
   have hkept : kept keep j qg = qg.sure + (min (max kj 0) ((qg.b.length : Int) - qg.sure)).toNat := by unfold kept; rw [hkk]
   rw [hc.1, wrap_i64 (x := (qg.b.length : Int) - (qg.sure : Int)) (by omega) (by omega), hkept, wrap_i64 (by omega) (by omega)]
   omega
  ·rename_i hlt
   have hlt : keep.length ≤ j := by simp at hlt; omega
   refine fin _ _ ?_ H
   have hkept : kept keep j qg = qg.sure := by
    unfold kept; rw [List.getElem?_eq_none hlt]; rfl
   rw [hkept]
 ·rename_i hi
  have hi : j = P.length := by simp at hi; omega
  subst hi
  refine ⟨Q, ?_, H⟩
  rw [hQ]
  have := stepTo_all keep (P.map Prod.snd)
  rw [List.length_map] at this
  exact this
theorem crash_spec {d : Nat} {D : Dk} {ks : Slc} {keep : List Int} (hok : D.Ok) (k : See 1 l (tInt .i64) ks keep) (H : St W (dskA d D :: l) w) :
  cl Tryz.prog 16 [.pointer (some ⟨d, 0, none⟩), tSlc.enc ks] tUnit w fun _ w' => St W (dskA d (crash keep D) :: l) w' := by
 obtain ⟨s, P, kp, hP, H⟩ := dsk_open H
 by_cases hd : D.down = true
 ·refine F16_ok ?_
  unfold F16 crash
  rw [if_pos hd]
  refine nc_st rfl ?_
  refine ld_st (x := D.down) 0 H rfl rfl rfl ?_
  rw [if_pos hd]
  exact dsk_shut hP H
 ·have hdf : D.down = false := by simpa using hd
  rw [hdf] at H
  have hl : P.length = D.logs.length := by rw [← hP, List.length_map]
  refine cl_mono (crash_core (fun p hp => hok.log p.2 (by rw [← hP]; exact List.mem_map_of_mem hp)) (by rw [hl]; exact hok.len) k.tail H) ?_
  rintro r w ⟨P', hP', H⟩
  rw [hP] at hP'
  unfold crash
  rw [if_neg hd]
  exact dsk_shut (D := { D with down := true, armed := 0, logs := D.logs.mapIdx (cutL keep) }) hP' H
end
end Go.Proofs.YtehclfjjjiiieaaGreat.Disk
namespace Go.Proofs.YtehclfjjjiiieaaGreat.Disk
open Go Go.Proofs.YtehclfjjjiiieaaGreat.Cf Go.Proofs.YtehclfjjjiiieaaGreat.Wire
set_option linter.unusedVariables false
set_option linter.unusedSimpArgs false
set_option maxRecDepth 100000
section
variable {W w : World} {l l' : List Assn}
theorem clv_mono {α : Type} {P : Program} {T : Ty α} {fv : Fv} {args : List Value} {K K' : α → World → Prop} (h : clv P fv args T w K) (hk : ∀ r w', K r w' → K' r w') : clv P fv args T w K' := by
 obtain ⟨k, c, h1, h2, h3⟩ := h
 exact ⟨k, c, h1, h2, cl_mono h3 hk⟩
theorem modify_set {L : List Log} {i : Nat} {g : Log} {f : Log → Log} (h : L[i]? = some g) : L.modify i f = L.set i (f g) := by
 apply List.ext_getElem?
 intro j
 rw [List.getElem?_modify, List.getElem?_set]
 by_cases e : i = j
 ·subst e
  have hh := List.getElem?_eq_some_iff.1 h
  rw [if_pos rfl, if_pos hh.1, h]
  simp
 ·simp [e]
theorem act_spec {d : Nat} {D : Dk} {n size : Int} {fv : Fv} {f : Log → Log} (hok : D.Ok) (H : St W (dskA d D :: l) w)
  (hdo : ∀ (s q : Slc) (g : Log) (xs : List SL) (a : Addr) (l0 : List Assn) (w : World), size ≤ 4194304 → D.logs[n.toNat]? = some g → xs[n.toNat]? = some ⟨q, g.sure⟩ → IxA s 2 n a → St W (row TL 93 2 s xs :: lrow (q, g) :: (l0 ++ l)) w →
   clv Tryz.prog fv [.pointer (some a)] tUnit w fun _ w' => ∃ q' : Slc, St W (row TL 93 2 s (xs.set n.toNat ⟨q', (f g).sure⟩) :: lrow (q', f g) :: (l0 ++ l)) w') :
  cl Tryz.prog 74 [.pointer (some ⟨d, 0, none⟩), .int .i64 n, .int .i64 size, fv.enc] (tInt .i64) w fun r w' => r = (actD D n size f).2 ∧ St W (dskA d (actD D n size f).1 :: l) w' := by
 refine F74_ok ?_
 unfold F74 actD
 refine cl_mono (has_spec H) ?_
 rintro r w ⟨rfl, H⟩
 by_cases hh : 0 ≤ n ∧ n < D.logs.length
 ·rw [decide_eq_true hh, if_neg (by simp), if_neg (not_not_intro hh)]
  refine nc_st rfl ?_
  obtain ⟨s, P, kp, hP, H⟩ := dsk_open H
  refine ld_st (x := D.down) 0 H rfl rfl rfl ?_
  by_cases hd : D.down = true
  ·rw [if_pos hd, if_pos hd]
   exact ⟨rfl, dsk_shut hP H⟩
  ·rw [if_neg hd, if_neg hd]
   have hdf : D.down = false := by simpa using hd
   by_cases hs : 4194304 < size
   ·rw [if_pos (by simp; omega), if_pos hs]
    exact ⟨rfl, dsk_shut hP H⟩
   ·rw [if_neg (by simp; omega), if_neg hs]
    refine ld_st (x := D.armed) 0 H rfl rfl rfl ?_
    have hl : P.length = D.logs.length := by rw [← hP, List.length_map]
    by_cases ha : D.armed = 1
    ·rw [if_pos (by simp [ha]), if_pos ha]
     refine ld_st (x := kp) 0 H rfl rfl rfl ?_
     rw [hdf] at H
     refine cl_mono (crash_core (fun p hp => hok.log p.2 (by rw [← hP]; exact List.mem_map_of_mem hp)) (by rw [hl]; exact hok.len) (See.row (fun _ => rfl) 0 rfl) H) ?_
     rintro r w ⟨P', hP', H⟩
     rw [hP] at hP'
     refine ⟨rfl, ?_⟩
     unfold crash
     rw [if_neg hd]
     exact dsk_shut (D := { D with down := true, armed := 0, logs := D.logs.mapIdx (cutL D.keep) }) hP' H
    ·rw [if_neg (by simpa using ha), if_neg ha]
     have j1 : ∀ (arm : Int) (w : World), arm = (if 1 < D.armed then IntKind.i64.wrap (D.armed - 1) else D.armed) → St W (cel d (TD.cells ⟨s, D.acts, D.down, arm, kp⟩) 77 :: row TL 93 2 s (P.map lval) :: sepA (P.map lrow) :: row (tInt .i64) 3 1 kp D.keep :: l) w →
       F74_j1 (some ⟨d, 0, none⟩) n fv w fun r w' => r = 0 ∧ St W (dskA d { D with armed := if 1 < D.armed then IntKind.i64.wrap (D.armed - 1) else D.armed, acts := IntKind.i64.wrap (D.acts + 1), logs := D.logs.modify n.toNat f } :: l) w' := by
      intro arm w harm H
      unfold F74_j1
      refine nc_st rfl ?_
      refine ld_st (x := D.acts) 0 H rfl rfl rfl ?_
      refine st_st (x := IntKind.i64.wrap (D.acts + 1)) 0 H rfl rfl (Nat.le_of_ble_eq_true rfl) fun w H => ?_
      refine ld_st (x := s) 0 H rfl rfl rfl ?_
      obtain ⟨a, hia⟩ := row_ix (i := n) (H.front 1) hh.1 (by rw [List.length_map, hl]; exact hh.2)
      refine ex_i a hia ?_
      have hq0 : P[n.toNat]? = some P[n.toNat] := List.getElem?_eq_getElem (by omega)
      have hg : D.logs[n.toNat]? = some (P[n.toNat]).2 := by rw [← hP, List.getElem?_map, hq0]; rfl
      generalize P[n.toNat] = p at hq0 hg
      obtain ⟨q, g⟩ := p
      simp only at hg
      have H := log_out hq0 (H.front 2)
      refine clv_mono (hdo s q g (P.map lval) a [_, _, _] w (by omega) hg (by rw [List.getElem?_map, hq0]; rfl) hia (H.ord [3, 0])) ?_
      rintro r w ⟨q', H⟩
      have H := log_in (q := (q', f g)) (H.ord [1, 2])
      refine ⟨rfl, ?_⟩
      refine dsk_shut (s := s) (kp := kp) (P := P.set n.toNat (q', f g)) ?_ ?_
      ·simp only
       rw [List.map_set, hP, modify_set hg]
      ·simp only
       rw [← harm, List.map_set]
       exact H.ord [2, 1, 0]
     by_cases hb : 1 < D.armed
     ·refine ld_st (x := D.armed) 0 H rfl rfl rfl ?_
      rw [if_pos (by simpa using hb)]
      refine ld_st (x := D.armed) 0 H rfl rfl rfl ?_
      refine st_st (x := IntKind.i64.wrap (D.armed - 1)) 0 H rfl rfl (Nat.le_of_ble_eq_true rfl) fun w H => ?_
      exact j1 (IntKind.i64.wrap (D.armed - 1)) w (by rw [if_pos hb]) H
     ·refine ld_st (x := D.armed) 0 H rfl rfl rfl ?_
      rw [if_neg (by simpa using hb)]
      exact j1 D.armed w (by rw [if_neg hb]) H
 ·rw [decide_eq_false hh, if_pos (by simp), if_pos hh]
  exact ⟨rfl, H⟩
def sizeOf (D : Dk) (n : Int) : Nat := if 0 ≤ n then match D.logs[n.toNat]? with
 | some g => g.b.length
 | none => 0
 else 0
def appendD (D : Dk) (n : Int) (bs : List UInt8) : Dk × Int := actD D n ((bs.length + sizeOf D n : Nat) : Int) fun g => ⟨g.b ++ bs, g.sure⟩
def syncD (D : Dk) (n : Int) : Dk × Int := actD D n 0 fun g => ⟨g.b, g.b.length⟩
def swapD (D : Dk) (n : Int) (bs : List UInt8) : Dk × Int := actD D n (bs.length : Int) fun _ => ⟨bs, bs.length⟩
theorem append_spec {d : Nat} {D : Dk} {n : Int} {b : Slc} {bs : List UInt8} (hok : D.Ok) (hn : bs.length ≤ 4000000000000000000) (k : See 1 l (tInt .u8) b (B bs)) (H : St W (dskA d D :: l) w) :
  cl Tryz.prog 73 [.pointer (some ⟨d, 0, none⟩), .int .i64 n, tSlc.enc b] (tInt .i64) w fun r w' => r = (appendD D n bs).2 ∧ St W (dskA d (appendD D n bs).1 :: l) w' := by
 have hbl := k.tail.len H
 rw [B_len] at hbl
 refine F73_ok ?_
 unfold F73
 refine nw_st H fun b4 w H => ?_
 refine ld_st (x := b) 0 H rfl rfl rfl ?_
 have j1 : ∀ (z : Int) (w : World), z = ((bs.length + sizeOf D n : Nat) : Int) → St W (cel b4 (tSlc.cells b) 25 :: dskA d D :: l) w → F73_j1 (some ⟨d, 0, none⟩) n ⟨b4, 0, none⟩ z w fun r w' => r = (appendD D n bs).2 ∧ St W (dskA d (appendD D n bs).1 :: l) w' := by
  intro z w hz H
  subst hz
  unfold F73_j1
  refine cl_mono (act_spec (f := fun g => ⟨g.b ++ bs, g.sure⟩) hok (H.front 1) ?_) ?_
  ·intro s q g xs a l0 w hsz hg hx ha H
   refine ⟨115, [.pointer (some ⟨b4, 0, none⟩)], rfl, ent115, ?_⟩
   refine F115_ok ?_
   unfold F115
   refine dr_st H fun w H => ?_
   refine nc_st rfl ?_
   refine ex_i q (fld_row (U := tSlc) (fun _ => rfl) ha hx rfl H) ?_
   have H := (H.perm (show (row TL 93 2 s xs :: lrow (q, g) :: (l0 ++ (cel b4 (tSlc.cells b) 25 :: l))).Perm (cel b4 (tSlc.cells b) 25 :: row TL 93 2 s xs :: lrow (q, g) :: (l0 ++ l)) from by
    have h1 := (List.perm_middle (a := cel b4 (tSlc.cells b) 25) (l₁ := row TL 93 2 s xs :: lrow (q, g) :: l0) (l₂ := l))
    simpa using h1))
   refine ld_st (x := b) 0 H rfl rfl rfl ?_
   have hkk : See 1 (cel b4 (tSlc.cells b) 25 :: row TL 93 2 s xs :: lrow (q, g) :: (l0 ++ l)) (tInt .u8) b (B bs) := ((k.app l0).tail.tail.tail)
   have hgl := (hok.log g (List.mem_of_getElem? hg)).2
   refine apd_row (fun _ => rfl) 2 H rfl (hkk.rdS H) (by rw [B_len, B_len]; simp only; omega) fun r w H => ?_
   refine stf_row (x := (⟨q, g.sure⟩ : SL)) (y := (⟨r, g.sure⟩ : SL)) (o := 0) (U := tSlc) (z := r) (fun _ => rfl) ha hx rfl (Nat.le_of_ble_eq_true rfl) (H.front 2) fun w H => ?_
   refine ⟨r, ?_⟩
   rw [← B_app] at H
   refine H.perm ?_
   refine List.Perm.cons _ (List.Perm.cons _ ?_)
   exact List.perm_middle.symm
  ·rintro r w ⟨rfl, H⟩
   exact ⟨rfl, (H.front 1).drop⟩
 refine cl_mono (has_spec (H.front 1)) ?_
 rintro r w ⟨rfl, H⟩
 by_cases hh : 0 ≤ n ∧ n < D.logs.length
 ·rw [decide_eq_true hh, if_pos rfl]
  refine nc_st rfl ?_
  obtain ⟨s, P, kp, hP, H⟩ := dsk_open H
  have hl : P.length = D.logs.length := by rw [← hP, List.length_map]
  refine ld_st (x := s) 0 H rfl rfl rfl ?_
  obtain ⟨a, hia⟩ := row_ix (i := n) (H.front 1) hh.1 (by rw [List.length_map, hl]; exact hh.2)
  refine ex_i a hia ?_
  have hq0 : P[n.toNat]? = some P[n.toNat] := List.getElem?_eq_getElem (by omega)
  have hg : D.logs[n.toNat]? = some (P[n.toNat]).2 := by rw [← hP, List.getElem?_map, hq0]; rfl
  generalize P[n.toNat] = p at hq0 hg
  have hc := lrow_cap (log_out hq0 (H.front 2))
  obtain ⟨q, g⟩ := p
  simp only at hg hc
  have hgl := (hok.log g (List.mem_of_getElem? hg)).2
  refine ex_i q (fld_row (x := lval (q, g)) (U := tSlc) (fun _ => rfl) hia (by rw [List.getElem?_map, hq0]; rfl) rfl (H.front 1)) ?_
  refine j1 _ w ?_ ((dsk_shut hP H).front 1)
  have e : sizeOf D n = g.b.length := by unfold sizeOf; rw [if_pos hh.1, hg]
  rw [e, hbl, hc.1, wrap_i64 (by omega) (by omega)]
  omega
 ·rw [decide_eq_false hh, if_neg (by simp)]
  refine j1 _ w ?_ (H.front 1)
  have e : sizeOf D n = 0 := by
   unfold sizeOf
   by_cases h0 : 0 ≤ n
   ·rw [if_pos h0, List.getElem?_eq_none (by omega)]
   ·rw [if_neg h0]
  rw [e, hbl]; rfl
theorem sync_spec {d : Nat} {D : Dk} {n : Int} (hok : D.Ok) (H : St W (dskA d D :: l) w) :
  cl Tryz.prog 38 [.pointer (some ⟨d, 0, none⟩), .int .i64 n] (tInt .i64) w fun r w' => r = (syncD D n).2 ∧ St W (dskA d (syncD D n).1 :: l) w' := by
 refine F38_ok ?_
 unfold F38
 refine cl_mono (act_spec (f := fun g => ⟨g.b, g.b.length⟩) hok H ?_) ?_
 ·intro s q g xs a l0 w hsz hg hx ha H
  refine ⟨75, [], rfl, ent75, ?_⟩
  refine F75_ok ?_
  unfold F75
  refine nc_st rfl ?_
  refine ex_i q (fld_row (U := tSlc) (fun _ => rfl) ha hx rfl H) ?_
  have hc := lrow_cap (H.front 1)
  simp only at hc
  rw [hc.1]
  refine stf_row (x := (⟨q, g.sure⟩ : SL)) (y := (⟨q, (g.b.length : Nat)⟩ : SL)) (o := 1) (U := tInt .i64) (z := ((g.b.length : Nat) : Int)) (fun _ => rfl) ha hx rfl (Nat.le_of_ble_eq_true rfl) H fun w H => ?_
  exact ⟨q, H⟩
 ·rintro r w ⟨rfl, H⟩
  exact ⟨rfl, H⟩
theorem swap_spec {d : Nat} {D : Dk} {n : Int} {b : Slc} {bs : List UInt8} (hok : D.Ok) (hn : bs.length ≤ 4000000000000000000) (k : See 1 l (tInt .u8) b (B bs)) (H : St W (dskA d D :: l) w) :
  cl Tryz.prog 68 [.pointer (some ⟨d, 0, none⟩), .int .i64 n, tSlc.enc b] (tInt .i64) w fun r w' => r = (swapD D n bs).2 ∧ St W (dskA d (swapD D n bs).1 :: l) w' := by
 have hbl := k.tail.len H
 rw [B_len] at hbl
 refine F68_ok ?_
 unfold F68
 refine nw_st H fun b4 w H => ?_
 refine ld_st (x := b) 0 H rfl rfl rfl ?_
 rw [hbl]
 refine cl_mono (act_spec (f := fun _ => ⟨bs, bs.length⟩) hok (H.front 1) ?_) ?_
 ·intro s q g xs a l0 w hsz hg hx ha H
  refine ⟨109, [.pointer (some ⟨b4, 0, none⟩)], rfl, ent109, ?_⟩
  refine F109_ok ?_
  unfold F109
  have H := (H.perm (show (row TL 93 2 s xs :: lrow (q, g) :: (l0 ++ (cel b4 (tSlc.cells b) 25 :: l))).Perm (cel b4 (tSlc.cells b) 25 :: row TL 93 2 s xs :: lrow (q, g) :: (l0 ++ l)) from by
   have h1 := (List.perm_middle (a := cel b4 (tSlc.cells b) 25) (l₁ := row TL 93 2 s xs :: lrow (q, g) :: l0) (l₂ := l))
   simpa using h1))
  refine ld_st (x := b) 0 H rfl rfl rfl ?_
  rw [hbl]
  refine mkS_st (sz := 1) (by omega) (by omega) (by omega) H fun b5 w H => ?_
  refine nc_st rfl ?_
  refine stf_row (x := (⟨q, g.sure⟩ : SL)) (y := (⟨⟨some ⟨b5, 0, none⟩, bs.length, bs.length⟩, g.sure⟩ : SL)) (o := 0) (U := tSlc) (z := ⟨some ⟨b5, 0, none⟩, bs.length, bs.length⟩) (fun _ => rfl) ha hx rfl (Nat.le_of_ble_eq_true rfl) (H.front 2) fun w H => ?_
  refine dr_st H fun w H => ?_
  have hx2 : (xs.set n.toNat (⟨⟨some ⟨b5, 0, none⟩, bs.length, bs.length⟩, g.sure⟩ : SL))[n.toNat]? = some ⟨⟨some ⟨b5, 0, none⟩, bs.length, bs.length⟩, g.sure⟩ := List.getElem?_set_self (List.getElem?_eq_some_iff.1 hx).1
  refine ex_i ⟨some ⟨b5, 0, none⟩, bs.length, bs.length⟩ (fld_row (U := tSlc) (fun _ => rfl) ha hx2 rfl H) ?_
  refine ld_st (x := b) 2 H rfl rfl rfl ?_
  have hkk : See 1 (row (tInt .u8) 5 1 ⟨some ⟨b5, 0, none⟩, bs.length, bs.length⟩ (List.replicate bs.length 0) :: row TL 93 2 s (xs.set n.toNat (⟨⟨some ⟨b5, 0, none⟩, bs.length, bs.length⟩, g.sure⟩ : SL)) :: cel b4 (tSlc.cells b) 25 :: lrow (q, g) :: (l0 ++ l)) (tInt .u8) b (B bs) := ((k.app l0).tail.tail.tail.tail)
  refine cpy_st (xs := List.replicate bs.length 0) (fun _ => rfl) (H.front 1) (hkk.rdS (H.front 1)) (by rw [B_len, List.length_replicate]) fun w H => ?_
  rw [B_len]
  refine stf_row (x := (⟨⟨some ⟨b5, 0, none⟩, bs.length, bs.length⟩, g.sure⟩ : SL)) (y := (⟨⟨some ⟨b5, 0, none⟩, bs.length, bs.length⟩, (bs.length : Nat)⟩ : SL)) (o := 1) (U := tInt .i64) (z := ((bs.length : Nat) : Int)) (fun _ => rfl) ha hx2 rfl (Nat.le_of_ble_eq_true rfl) (H.front 1) fun w H => ?_
  refine ⟨⟨some ⟨b5, 0, none⟩, bs.length, bs.length⟩, ?_⟩
  rw [List.set_set] at H
  have H := (H.ord [3]).drop
  refine H.perm ?_
  refine List.Perm.cons _ (List.Perm.cons _ ?_)
  exact List.perm_middle.symm
 ·rintro r w ⟨rfl, H⟩
  exact ⟨rfl, (H.front 1).drop⟩
theorem readD_spec {d : Nat} {D : Dk} {n : Int} (hok : D.Ok) (H : St W (dskA d D :: l) w) :
  cl Tryz.prog 66 [.pointer (some ⟨d, 0, none⟩), .int .i64 n] (tTup2 tSlc (tInt .i64)) w fun r w' => (¬ (0 ≤ n ∧ n < D.logs.length) → r.2 = 70 ∧ St W (dskA d D :: l) w') ∧ ((0 ≤ n ∧ n < D.logs.length) → D.down = true → r.2 = 71 ∧ St W (dskA d D :: l) w') ∧
   ∀ g, 0 ≤ n → D.down = false → D.logs[n.toNat]? = some g → r.2 = 0 ∧ St W (row (tInt .u8) 5 1 r.1 (B g.b) :: dskA d D :: l) w' := by
 refine F66_ok ?_
 unfold F66
 refine cl_mono (has_spec H) ?_
 rintro r w ⟨rfl, H⟩
 by_cases hh : 0 ≤ n ∧ n < D.logs.length
 ·rw [decide_eq_true hh, if_neg (by simp)]
  refine nc_st rfl ?_
  obtain ⟨s, P, kp, hP, H⟩ := dsk_open H
  refine ld_st (x := D.down) 0 H rfl rfl rfl ?_
  by_cases hd : D.down = true
  ·rw [if_pos hd]
   exact ⟨fun h => absurd hh h, fun _ _ => ⟨rfl, dsk_shut hP H⟩, fun g _ h => by rw [hd] at h; cases h⟩
  ·rw [if_neg hd]
   have hl : P.length = D.logs.length := by rw [← hP, List.length_map]
   refine ld_st (x := s) 0 H rfl rfl rfl ?_
   obtain ⟨a, hia⟩ := row_ix (i := n) (H.front 1) hh.1 (by rw [List.length_map, hl]; exact hh.2)
   refine ex_i a hia ?_
   have hq0 : P[n.toNat]? = some P[n.toNat] := List.getElem?_eq_getElem (by omega)
   have hg : D.logs[n.toNat]? = some (P[n.toNat]).2 := by rw [← hP, List.getElem?_map, hq0]; rfl
   generalize P[n.toNat] = p at hq0 hg
   have hc := lrow_cap (log_out hq0 (H.front 2))
   obtain ⟨q, g⟩ := p
   simp only at hg hc
   have hgl := (hok.log g (List.mem_of_getElem? hg)).2
   have hx : (P.map lval)[n.toNat]? = some (lval (q, g)) := by rw [List.getElem?_map, hq0]; rfl
   refine ex_i q (fld_row (x := lval (q, g)) (U := tSlc) (fun _ => rfl) hia hx rfl (H.front 1)) ?_
   rw [hc.1]
   refine mkS_st (sz := 1) (by omega) (by omega) (by omega) H fun b w H => ?_
   refine ld_st (x := s) 1 H rfl rfl rfl ?_
   refine ex_i a hia ?_
   refine ex_i q (fld_row (x := lval (q, g)) (U := tSlc) (fun _ => rfl) hia hx rfl (H.front 2)) ?_
   have hr : RdS (tInt .u8) w q (B g.b) := RdO_row (log_out hq0 (H.front 3))
   refine cpy_st (xs := List.replicate ((g.b.length : Int)).toNat 0) (fun _ => rfl) H hr (by rw [B_len, List.length_replicate]; omega) fun w H => ?_
   refine ⟨fun h => absurd hh h, fun _ h => absurd h hd, fun g' _ _ hg' => ?_⟩
   rw [hg] at hg'
   cases hg'
   exact ⟨rfl, (dsk_shut hP (H.ord [1, 2, 3, 4])).front 1⟩
 ·rw [decide_eq_false hh, if_pos (by simp)]
  refine ⟨fun _ => ⟨rfl, H⟩, fun h => absurd h hh, fun g h0 _ hg => absurd ⟨h0, ?_⟩ hh⟩
  have := (List.getElem?_eq_some_iff.1 hg).1
  omega
theorem sureD_spec {d : Nat} {D : Dk} {n : Int} {g : Log} (h0 : 0 ≤ n) (hg : D.logs[n.toNat]? = some g) (H : St W (dskA d D :: l) w) :
  cl Tryz.prog 69 [.pointer (some ⟨d, 0, none⟩), .int .i64 n] (tInt .i64) w fun r w' => r = (g.sure : Nat) ∧ St W (dskA d D :: l) w' := by
 have hlt := (List.getElem?_eq_some_iff.1 hg).1
 refine F69_ok ?_
 unfold F69
 refine cl_mono (has_spec H) ?_
 rintro r w ⟨rfl, H⟩
 rw [decide_eq_true (by omega), if_neg (by simp)]
 refine nc_st rfl ?_
 obtain ⟨s, P, kp, hP, H⟩ := dsk_open H
 have hl : P.length = D.logs.length := by rw [← hP, List.length_map]
 refine ld_st (x := s) 0 H rfl rfl rfl ?_
 obtain ⟨a, hia⟩ := row_ix (i := n) (H.front 1) h0 (by rw [List.length_map, hl]; omega)
 refine ex_i a hia ?_
 have hq0 : P[n.toNat]? = some P[n.toNat] := List.getElem?_eq_getElem (by omega)
 have hg2 : D.logs[n.toNat]? = some (P[n.toNat]).2 := by rw [← hP, List.getElem?_map, hq0]; rfl
 generalize P[n.toNat] = p at hq0 hg2
 rw [hg] at hg2
 cases hg2
 refine ex_i (p.2.sure : Int) (fld_row (x := lval p) (U := tInt .i64) (fun _ => rfl) hia (by rw [List.getElem?_map, hq0]; rfl) rfl (H.front 1)) ?_
 exact ⟨rfl, dsk_shut hP H⟩
theorem up_spec {d : Nat} {D : Dk} (H : St W (dskA d D :: l) w) : cl Tryz.prog 17 [.pointer (some ⟨d, 0, none⟩)] tUnit w fun _ w' => St W (dskA d { D with down := false } :: l) w' := by
 refine F17_ok ?_
 unfold F17
 refine nc_st rfl ?_
 obtain ⟨s, P, kp, hP, H⟩ := dsk_open H
 refine st_st (x := false) 0 H rfl rfl (Nat.le_of_ble_eq_true rfl) fun w H => ?_
 exact dsk_shut (D := { D with down := false }) hP H
end
end Go.Proofs.YtehclfjjjiiieaaGreat.Disk
namespace Go.Proofs.YtehclfjjjiiieaaGreat.Disk
open Go Go.Proofs.YtehclfjjjiiieaaGreat.Cf Go.Proofs.YtehclfjjjiiieaaGreat.Wire
set_option linter.unusedVariables false
set_option linter.unusedSimpArgs false
set_option maxRecDepth 100000
abbrev TW := T87
section
variable {W w : World} {l l' : List Assn} {s : Slc} {bs : List UInt8}
def LoadsP (qs : List Slc) (xs : List (List UInt8)) (I : PMap) : Prop := qs.length = xs.length ∧ ∀ (i : Nat) (q : Slc) (x : List UInt8), qs[i]? = some q → xs[i]? = some x → q.len ≤ q.cap ∧ RoP (tInt .u8) q (B x) I
theorem LoadsP.mono {qs : List Slc} {xs : List (List UInt8)} {I I' : PMap} (h : PMap.le I I') : LoadsP qs xs I → LoadsP qs xs I' := fun ⟨h1, h2⟩ => ⟨h1, fun i q x hq hx => ⟨(h2 i q x hq hx).1, RoP.mono h (h2 i q x hq hx).2⟩⟩
def loadsA (qs : List Slc) (xs : List (List UInt8)) : Assn := ever (LoadsP qs xs) LoadsP.mono
theorem LoadsP.push {qs : List Slc} {xs : List (List UInt8)} {q : Slc} {x : List UInt8} {I : PMap} (h : LoadsP qs xs I) (hc : q.len ≤ q.cap) (hr : RoP (tInt .u8) q (B x) I) : LoadsP (qs ++ [q]) (xs ++ [x]) I := by
 refine ⟨by simp [h.1], fun i q' x' hq hx => ?_⟩
 by_cases c : i < qs.length
 ·rw [List.getElem?_append_left c] at hq
  rw [List.getElem?_append_left (by rw [← h.1]; exact c)] at hx
  exact h.2 i q' x' hq hx
 ·have hi : i = qs.length := by
   have := (List.getElem?_eq_some_iff.1 hq).1
   simp at this; omega
  subst hi
  rw [List.getElem?_append_right (Nat.le_refl _)] at hq
  rw [List.getElem?_append_right (by rw [h.1]; exact Nat.le_refl _), h.1] at hx
  simp at hq hx
  subst hq; subst hx
  exact ⟨hc, hr⟩
theorem scan_spec (hcap : s.len ≤ s.cap) (hn : bs.length ≤ 1000000000) (k : Know l (RoP (tInt .u8) s (B bs))) (H : St W l w) :
  cl Tryz.prog 67 [tSlc.enc s] (tTup2 tSlc (tInt .i64)) w fun r w' => r.2 = ((scan bs).2 : Nat) ∧ ∃ qs : List Slc, St W (row tSlc 25 1 r.1 qs :: loadsA qs (scan bs).1 :: l) w' := by
 have hs := k.len H
 rw [B_len] at hs
 refine F67_ok ?_
 unfold F67
 refine lp_n (fun m p w => ∃ (a f : Nat) (xs : List (List UInt8)) (qs : List Slc), m = bs.length - a ∧ p.2 = (a : Int) ∧ a ≤ bs.length ∧ bs.length - a < f ∧ xs.length ≤ a ∧ scan bs = scanF f (bs.drop a) xs a ∧ St W (row tSlc 25 1 p.1 qs :: loadsA qs xs :: l) w) bs.length
  ⟨0, bs.length + 1, [], [], by omega, rfl, by omega, by omega, by simp, rfl, row_nil tSlc 25 1 (H.know (m := LoadsP.mono) (fun _ _ _ => ⟨rfl, fun i q x hq => by simp at hq⟩))⟩ ?_
 clear H
 rintro m ⟨r, a⟩ w ⟨a, f, xs, qs, rfl, rfl, ha, hf, hxa, he, H⟩ K hK
 simp only at H
 unfold F67_l1
 rw [hs]
 refine sub_st (by omega) (by omega) (by omega) (by omega) fun s6 h6 => ?_
 have k6 := k.sub (fun _ => rfl) h6 (by rw [B_len]; omega)
 have b6 : ((B bs).take (bs.length : Int).toNat).drop ((a : Int)).toNat = B (bs.drop a) := by
  rw [B_drop, List.take_of_length_le (by rw [B_len]; omega)]; rfl
 rw [b6] at k6
 have hc6 : s6.len ≤ s6.cap := by
  obtain ⟨x1, x2, _⟩ := sub_at h6
  rw [x1, x2]; omega
 refine cl_mono (open_spec hc6 (by simp; omega) k6.tail.tail H) ?_
 rintro ⟨q, n, e⟩ w hres
 obtain ⟨g, rfl⟩ : ∃ g, f = g + 1 := ⟨f - 1, by omega⟩
 simp only [scanF] at he
 cases ho : opn (bs.drop a) with
 | error e' =>
  rw [ho] at hres he
  obtain ⟨h1, h2, H⟩ := hres
  simp only at h1 he
  subst h1
  rw [if_pos (by simpa using h2)]
  rw [he]
  exact ⟨rfl, qs, H⟩
 | ok p =>
  obtain ⟨x, n'⟩ := p
  rw [ho] at hres he
  obtain ⟨h1, h2, h3, H⟩ := hres
  simp only at h1 h2 h3 he H
  subst h1; subst h2
  rw [if_neg (by simp)]
  obtain ⟨g1, g2, g3, g4⟩ := opn_ok ho
  rw [List.length_drop] at g1
  have hql : qs.length = xs.length := by
   obtain ⟨I, _, hI⟩ := (Know.everI (Know.tail (Know.tail (Know.here (m := LoadsP.mono))))) H
   exact hI.1
  refine apl_row (fun _ => rfl) 1 H rfl (by simp; omega) fun r' w H => ?_
  have e1 : IntKind.i64.wrap ((a : Int) + (n' : Int)) = ((a + n' : Nat) : Int) := by rw [wrap_i64 (by omega) (by omega)]; omega
  rw [e1]
  have H2 := H.know (φ := LoadsP (qs ++ [q]) (xs ++ [x])) (m := LoadsP.mono) (by
   intro I h hh
   have p1 : LoadsP qs xs I := (Know.tail (Know.tail (Know.here (m := LoadsP.mono)))) I h hh
   have p2 : RoP (tInt .u8) q (B x) I := (Know.tail (Know.here (m := RoP.mono))) I h hh
   exact p1.push h3 p2)
  refine hK _ _ _ ?_ ⟨a + n', g, xs ++ [x], qs ++ [q], rfl, rfl, by omega, by omega, by simp; omega, by rw [he, List.drop_drop], ?_⟩
  ·omega
  ·exact (H2.ord [2, 3]).drop.drop.front 1
structure Wl where
 all : Int
 sure : Int
 log : Int
 dead : Bool
def walA (b d : Nat) (V : Wl) : Assn := cel b (TW.cells ⟨⟨V.all, V.sure⟩, some ⟨d, 0, none⟩, V.log, V.dead⟩) 88
def appW (D : Dk) (V : Wl) (x : List UInt8) : Dk × Wl × Int :=
 if V.dead then (D, V, 81) else if 65536 < x.length then (D, V, 30)
 else ((appendD D V.log (frm x)).1, { V with all := if (appendD D V.log (frm x)).2 = 0 then IntKind.i64.wrap (V.all + 1) else V.all, dead := V.dead || (appendD D V.log (frm x)).2 == 71 }, (appendD D V.log (frm x)).2)
def synW (D : Dk) (V : Wl) : Dk × Wl × Int :=
 if V.dead then (D, V, 81)
 else ((syncD D V.log).1, { V with sure := if (syncD D V.log).2 = 0 then V.all else V.sure, dead := V.dead || (syncD D V.log).2 == 71 }, (syncD D V.log).2)
theorem met_spec {b d : Nat} {V : Wl} {e : Int} (H : St W (walA b d V :: l) w) : cl Tryz.prog 37 [.pointer (some ⟨b, 0, none⟩), .int .i64 e] (tInt .i64) w fun r w' => r = e ∧ St W (walA b d { V with dead := V.dead || e == 71 } :: l) w' := by
 refine F37_ok ?_
 unfold F37
 refine nc_st rfl ?_
 refine ld_st (x := V.dead) 0 H rfl rfl rfl ?_
 refine st_st (x := V.dead || e == 71) 0 H rfl rfl (Nat.le_of_ble_eq_true rfl) fun w H => ?_
 exact ⟨rfl, H⟩
theorem appw_spec {b d : Nat} {D : Dk} {V : Wl} {q : Slc} {x : List UInt8} (hok : D.Ok) (hn : x.length ≤ 9223372036854775806) (k : See 1 l (tInt .u8) q (B x)) (H : St W (walA b d V :: dskA d D :: l) w) :
  cl Tryz.prog 36 [.pointer (some ⟨b, 0, none⟩), tSlc.enc q] (tInt .i64) w fun r w' => r = (appW D V x).2.2 ∧ St W (walA b d (appW D V x).2.1 :: dskA d (appW D V x).1 :: l) w' := by
 refine F36_ok ?_
 unfold F36 F36_j1 appW
 refine nc_st rfl ?_
 refine ld_st (x := V.dead) 0 H rfl rfl rfl ?_
 by_cases hd : V.dead = true
 ·rw [if_pos hd, if_pos hd]
  exact ⟨rfl, H⟩
 ·rw [if_neg hd, if_neg hd]
  refine cl_mono (seal_spec hn k.tail.tail H) ?_
  rintro ⟨r, e⟩ w ⟨h1, h2⟩
  by_cases hx : 65536 < x.length
  ·obtain ⟨h3, H⟩ := h1 hx
   cases h3
   rw [if_pos (by simp), if_pos hx]
   exact ⟨rfl, H⟩
  ·obtain ⟨h3, H⟩ := h2 (by omega)
   simp only at h3 H
   subst h3
   rw [if_neg (by simp), if_neg hx]
   refine dr_st H fun w H => ?_
   refine ld_st (x := some ⟨d, 0, none⟩) 1 H rfl rfl rfl ?_
   refine ld_st (x := V.log) 1 H rfl rfl rfl ?_
   refine cl_mono (append_spec hok (by rw [frm_len]; omega) (See.row (fun _ => rfl) 0 rfl) (H.front 2)) ?_
   rintro e w ⟨rfl, H⟩
   refine cl_mono (met_spec (H.front 2)) ?_
   rintro e w ⟨rfl, H⟩
   refine ⟨rdat_cel tPtr H rfl rfl, rdat_cel (tInt .i64) H rfl rfl, ?_⟩
   by_cases he : (appendD D V.log (frm x)).2 = 0
   ·rw [if_pos (by simp [he]), if_pos he]
    refine ld_st (x := V.all) 0 H rfl rfl rfl ?_
    refine st_st (x := IntKind.i64.wrap (V.all + 1)) 0 H rfl rfl (Nat.le_of_ble_eq_true rfl) fun w H => ?_
    exact ⟨rfl, (H.ord [2]).drop⟩
   ·rw [if_neg (by simp [he]), if_neg he]
    exact ⟨rfl, (H.ord [2]).drop⟩
theorem synw_spec {b d : Nat} {D : Dk} {V : Wl} (hok : D.Ok) (H : St W (walA b d V :: dskA d D :: l) w) :
  cl Tryz.prog 15 [.pointer (some ⟨b, 0, none⟩)] (tInt .i64) w fun r w' => r = (synW D V).2.2 ∧ St W (walA b d (synW D V).2.1 :: dskA d (synW D V).1 :: l) w' := by
 refine F15_ok ?_
 unfold F15 F15_j1 synW
 refine nc_st rfl ?_
 refine ld_st (x := V.dead) 0 H rfl rfl rfl ?_
 by_cases hd : V.dead = true
 ·rw [if_pos hd, if_pos hd]
  exact ⟨rfl, H⟩
 ·rw [if_neg hd, if_neg hd]
  refine dr_st H fun w H => ?_
  refine ld_st (x := some ⟨d, 0, none⟩) 0 H rfl rfl rfl ?_
  refine ld_st (x := V.log) 0 H rfl rfl rfl ?_
  refine cl_mono (sync_spec hok (H.front 1)) ?_
  rintro e w ⟨rfl, H⟩
  refine cl_mono (met_spec (H.front 1)) ?_
  rintro e w ⟨rfl, H⟩
  refine ⟨rdat_cel tPtr H rfl rfl, rdat_cel (tInt .i64) H rfl rfl, ?_⟩
  by_cases he : (syncD D V.log).2 = 0
  ·rw [if_pos (by simp [he]), if_pos he]
   refine ld_st (x := V.all) 0 H rfl rfl rfl ?_
   refine st_st (x := V.all) 0 H rfl rfl (Nat.le_of_ble_eq_true rfl) fun w H => ?_
   exact ⟨rfl, H⟩
  ·rw [if_neg (by simp [he]), if_neg he]
   exact ⟨rfl, H⟩
def mendD (D : Dk) (n : Int) (g : Log) : Dk × Int :=
 if (scan g.b).2 < g.b.length then swapD D n (g.b.take (scan g.b).2) else if g.sure < (scan g.b).2 then syncD D n else (D, 0)
theorem scan_le (bs : List UInt8) : (scan bs).2 ≤ bs.length := by
 have key : ∀ (f : Nat) (bs : List UInt8) (l : List (List UInt8)) (a : Nat), (scanF f bs l a).2 ≤ a + bs.length := by
  intro f
  induction f with
  | zero => intro bs l a; simp [scanF]
  | succ f ih =>
   intro bs l a
   simp only [scanF]
   cases ho : opn bs with
   | error e => simp
   | ok p =>
    obtain ⟨x, n⟩ := p
    have := ih (bs.drop n) (l ++ [x]) (a + n)
    have h := opn_ok ho
    rw [List.length_drop] at this
    simp only
    omega
 have := key (bs.length + 1) bs [] 0
 unfold scan; omega
theorem scan_count (bs : List UInt8) : (scan bs).1.length ≤ bs.length := by
 have key : ∀ (f : Nat) (bs : List UInt8) (l : List (List UInt8)) (a : Nat), (scanF f bs l a).1.length ≤ l.length + bs.length := by
  intro f
  induction f with
  | zero => intro bs l a; simp [scanF]
  | succ f ih =>
   intro bs l a
   simp only [scanF]
   cases ho : opn bs with
   | error e => simp
   | ok p =>
    obtain ⟨x, n⟩ := p
    have := ih (bs.drop n) (l ++ [x]) (a + n)
    have h := opn_ok ho
    rw [List.length_drop] at this
    simp only [List.length_append, List.length_cons, List.length_nil] at this
    simp only
    omega
 have := key (bs.length + 1) bs [] 0
 unfold scan; simpa using this
theorem openw_spec {d : Nat} {D : Dk} {n : Int} {g : Log} (hok : D.Ok) (h0 : 0 ≤ n) (hdn : D.down = false) (hg : D.logs[n.toNat]? = some g) (H : St W (dskA d D :: l) w) :
  cl Tryz.prog 33 [.pointer (some ⟨d, 0, none⟩), .int .i64 n] (tTup3 tPtr tSlc (tInt .i64)) w fun r w' => r.2.2 = (mendD D n g).2 ∧ ((mendD D n g).2 = 0 → ∃ (b : Nat) (qs : List Slc), r.1 = some ⟨b, 0, none⟩ ∧
   St W (walA b d ⟨(scan g.b).1.length, (scan g.b).1.length, n, false⟩ :: dskA d (mendD D n g).1 :: row tSlc 25 1 r.2.1 qs :: loadsA qs (scan g.b).1 :: l) w') ∧ ((mendD D n g).2 ≠ 0 → r.1 = none ∧ St W (dskA d (mendD D n g).1 :: l) w') := by
 have hlt := (List.getElem?_eq_some_iff.1 hg).1
 have hgl := hok.log g (List.mem_of_getElem? hg)
 refine F33_ok ?_
 unfold F33
 rw [if_neg (by simp)]
 refine cl_mono (readD_spec (n := n) hok H) ?_
 rintro ⟨r, e⟩ w ⟨_, _, h3⟩
 obtain ⟨h4, H⟩ := h3 g h0 hdn hg
 simp only at h4 H
 subst h4
 rw [if_neg (by simp)]
 have hrl := row_len H
 have hrc := row_cap H
 rw [B_len] at hrl
 have H := row_stay H
 have kr : Know [ro (tInt .u8) r (B g.b)] (RoP (tInt .u8) r (B g.b)) := Know.here (m := RoP.mono)
 refine cl_mono (scan_spec hrc (by omega) (Know.here (m := RoP.mono)) H) ?_
 rintro ⟨q, m⟩ w ⟨hm, qs, H⟩
 simp only at hm H
 subst hm
 have hsl := scan_le g.b
 rw [hrl]
 have j1 : ∀ (D' : Dk) (e : Int) (w : World), mendD D n g = (D', e) → St W (dskA d D' :: row tSlc 25 1 q qs :: loadsA qs (scan g.b).1 :: l) w → F33_j1 (some ⟨d, 0, none⟩) n (q, ((scan g.b).2 : Int)) e w fun r w' => r.2.2 = (mendD D n g).2 ∧ ((mendD D n g).2 = 0 → ∃ (b : Nat) (qs : List Slc), r.1 = some ⟨b, 0, none⟩ ∧
   St W (walA b d ⟨(scan g.b).1.length, (scan g.b).1.length, n, false⟩ :: dskA d (mendD D n g).1 :: row tSlc 25 1 r.2.1 qs :: loadsA qs (scan g.b).1 :: l) w') ∧ ((mendD D n g).2 ≠ 0 → r.1 = none ∧ St W (dskA d (mendD D n g).1 :: l) w') := by
  intro D' e w hme H
  rw [hme]
  unfold F33_j1
  by_cases he : e = 0
  ·subst he
   rw [if_neg (by simp)]
   have hql := row_len (H.front 1)
   have hqx : qs.length = (scan g.b).1.length := by
    obtain ⟨I, _, hI⟩ := (Know.everI (Know.tail (Know.tail (Know.here (m := LoadsP.mono))))) H
    exact hI.1
   simp only
   rw [hql, hqx]
   refine nw_st H fun b w H => ?_
   exact ⟨by trivial, fun _ => ⟨b, qs, rfl, H⟩, fun h => absurd rfl h⟩
  ·rw [if_pos (by simpa using he)]
   exact ⟨by trivial, fun h => absurd h he, fun _ => ⟨by trivial, ((H.ord [1, 2]).drop.drop)⟩⟩
 by_cases h1 : (scan g.b).2 < g.b.length
 ·rw [if_pos (by simp; omega)]
  dsimp only
  refine sub_st (by omega) (by omega) (by omega) (by omega) fun s12 h12 => ?_
  have k12 := (Know.tail (Know.tail (Know.here (m := RoP.mono)) : Know (loadsA qs (scan g.b).1 :: ro (tInt .u8) r (B g.b) :: dskA d D :: l) (RoP (tInt .u8) r (B g.b))) : Know (row tSlc 25 1 q qs :: loadsA qs (scan g.b).1 :: ro (tInt .u8) r (B g.b) :: dskA d D :: l) (RoP (tInt .u8) r (B g.b)))
  have H3 := H.ord [3, 2]
  have k13 : Know (ro (tInt .u8) r (B g.b) :: row tSlc 25 1 q qs :: loadsA qs (scan g.b).1 :: l) (RoP (tInt .u8) r (B g.b)) := Know.here (m := RoP.mono)
  have k14 := k13.sub (fun _ => rfl) h12 (by rw [B_len]; omega)
  have b12 : ((B g.b).take (((scan g.b).2 : Nat) : Int).toNat).drop ((0 : Int)).toNat = B (g.b.take (scan g.b).2) := by rw [B_take]; rfl
  rw [b12] at k14
  refine cl_mono (swap_spec (n := n) hok (by rw [List.length_take]; omega) (See.ro (fun _ => rfl) k14) H3) ?_
  rintro e w ⟨rfl, H⟩
  refine j1 _ _ w ?_ ((H.front 1).drop)
  unfold mendD
  rw [if_pos h1]
 ·rw [if_neg (by simp; omega)]
  refine cl_mono (sureD_spec h0 hg (H.ord [3, 2])) ?_
  rintro e w ⟨rfl, H⟩
  by_cases h2 : g.sure < (scan g.b).2
  ·rw [if_pos (by simp; omega)]
   refine cl_mono (sync_spec (n := n) hok H) ?_
   rintro e w ⟨rfl, H⟩
   refine j1 _ _ w ?_ ((H.front 1).drop)
   unfold mendD
   rw [if_neg h1, if_pos h2]
  ·rw [if_neg (by simp; omega)]
   refine j1 D 0 w ?_ ((H.front 1).drop)
   unfold mendD
   rw [if_neg h1, if_neg h2]
end
end Go.Proofs.YtehclfjjjiiieaaGreat.Disk
namespace Go.Proofs.YtehclfjjjiiieaaGreat.Disk
open Go Go.Proofs.YtehclfjjjiiieaaGreat.Cf Go.Proofs.YtehclfjjjiiieaaGreat.Wire
set_option linter.unusedVariables false
set_option linter.unusedSimpArgs false
set_option maxRecDepth 100000
section
variable {W w : World} {l l' : List Assn}
theorem acts_spec {d : Nat} {D : Dk} (H : St W (dskA d D :: l) w) : cl Tryz.prog 22 [.pointer (some ⟨d, 0, none⟩)] (tInt .i64) w fun r w' => r = D.acts ∧ St W (dskA d D :: l) w' := by
 refine F22_ok ?_
 unfold F22
 refine nc_st rfl ?_
 obtain ⟨q, P, kp, hP, H⟩ := dsk_open H
 refine ld_st (x := D.acts) 0 H rfl rfl rfl ?_
 exact ⟨rfl, dsk_shut hP H⟩
theorem wlen_spec {b d : Nat} {V : Wl} (H : St W (walA b d V :: l) w) : cl Tryz.prog 21 [.pointer (some ⟨b, 0, none⟩)] (tInt .i64) w fun r w' => r = V.all ∧ St W (walA b d V :: l) w' := by
 refine F21_ok ?_
 unfold F21
 refine nc_st rfl ?_
 refine ld_st (x := V.all) 0 H rfl rfl rfl ?_
 exact ⟨rfl, H⟩
theorem wsure_spec {b d : Nat} {V : Wl} (H : St W (walA b d V :: l) w) : cl Tryz.prog 23 [.pointer (some ⟨b, 0, none⟩)] (tInt .i64) w fun r w' => r = V.sure ∧ St W (walA b d V :: l) w' := by
 refine F23_ok ?_
 unfold F23
 refine nc_st rfl ?_
 refine ld_st (x := V.sure) 0 H rfl rfl rfl ?_
 exact ⟨rfl, H⟩
end
end Go.Proofs.YtehclfjjjiiieaaGreat.Disk
namespace Go.Proofs.YtehclfjjjiiieaaGreat
open Go Go.Proofs.YtehclfjjjiiieaaGreat.Cf
set_option linter.unusedVariables false
set_option linter.unusedSimpArgs false
set_option maxRecDepth 100000
theorem ownNone : ownKnob Tryz.prog.godebug = none := by kernel_rfl
theorem laidOutYes : laidOutB Tryz.prog = true := by kernel_rfl
section
variable {H : Type} {enc : TypeId × Value → H} {W : World} {base : Nat} {spare : Nat → Bool} {held : Bool}
def G3 (W : World) (x : Int) : Prop := IntKind.i64.min ≤ x ∧ x ≤ IntKind.i64.max
theorem opn3 : Opn enc Tryz.prog W base spare held 3 (tInt .i64) (G3 W) := opn_int Tryz.underlying3
def G2 (W : World) (x : Int) : Prop := IntKind.i64.min ≤ x ∧ x ≤ IntKind.i64.max
theorem opn2 : Opn enc Tryz.prog W base spare held 2 (tInt .i64) (G2 W) := opn_int Tryz.underlying2
def G4 (W : World) (x : Bool) : Prop := True
theorem opn4 : Opn enc Tryz.prog W base spare held 4 tBool (G4 W) := opn_bool Tryz.underlying4
def G23 (W : World) (x : S22) : Prop := G3 W x.Kind ∧ G2 W x.T_ ∧ G3 W x.ID ∧ G3 W x.Account ∧ G2 W x.N ∧ G4 W x.Pays
theorem opn23 : Opn enc Tryz.prog W base spare held 23 T22 (G23 W) := by
 refine opn_agg Tryz.underlying23 (show Tryz.prog.cellsOf 23 = 6 by kernel_rfl) fun cs hl hf => ?_
 obtain ⟨m0, x0, h0⟩ := hf 0 0 3 1 ⟨_, rfl, rfl, rfl⟩ (by kernel_rfl)
 obtain ⟨y0, e0, g0⟩ := opn3 _ _ _ h0
 obtain ⟨m1, x1, h1⟩ := hf 1 1 2 1 ⟨_, rfl, rfl, rfl⟩ (by kernel_rfl)
 obtain ⟨y1, e1, g1⟩ := opn2 _ _ _ h1
 obtain ⟨m2, x2, h2⟩ := hf 2 2 3 1 ⟨_, rfl, rfl, rfl⟩ (by kernel_rfl)
 obtain ⟨y2, e2, g2⟩ := opn3 _ _ _ h2
 obtain ⟨m3, x3, h3⟩ := hf 3 3 3 1 ⟨_, rfl, rfl, rfl⟩ (by kernel_rfl)
 obtain ⟨y3, e3, g3⟩ := opn3 _ _ _ h3
 obtain ⟨m4, x4, h4⟩ := hf 4 4 2 1 ⟨_, rfl, rfl, rfl⟩ (by kernel_rfl)
 obtain ⟨y4, e4, g4⟩ := opn2 _ _ _ h4
 obtain ⟨m5, x5, h5⟩ := hf 5 5 4 1 ⟨_, rfl, rfl, rfl⟩ (by kernel_rfl)
 obtain ⟨y5, e5, g5⟩ := opn4 _ _ _ h5
 exact ⟨⟨y0, y1, y2, y3, y4, y5⟩, dj (o := 0) (k := 1) e0 (dj (o := 1) (k := 1) e1 (dj (o := 2) (k := 1) e2 (dj (o := 3) (k := 1) e3 (dj (o := 4) (k := 1) e4 (dj (o := 5) (k := 1) e5 (dend hl)))))), g0, g1, g2, g3, g4, g5⟩
def G32 (W : World) (s : Slc) : Prop := (s.len ≤ s.cap ∧ s.cap ≤ 9223372036854775807) ∧ ∃ xs, (∀ x ∈ xs, G23 W x) ∧ RoP T22 s xs fun b => W.heap[b]?
theorem opn32 : Opn enc Tryz.prog W base spare held 32 tSlc (G32 W) := opn_slice Tryz.underlying32 (show Tryz.prog.cellsOf 23 = 6 by kernel_rfl) (by decide) (fun _ => rfl) opn23
def G40 (W : World) (x : Nat) : Prop := x < 18446744073709551616
theorem opn40 : Opn enc Tryz.prog W base spare held 40 tFlt (G40 W) := opn_flt Tryz.underlying40
end
end Go.Proofs.YtehclfjjjiiieaaGreat
namespace Go.Proofs.YtehclfjjjiiieaaGreat.Cf
open Go
set_option maxRecDepth 100000
set_option maxHeartbeats 1000000
set_option linter.unusedVariables false
set_option linter.unusedSimpArgs false
def F5_l3 (rate_1 : Nat) (l_2 : Slc) (more_3 : Slc) (r26 : ((Option Addr) × Int)) (i_32 : Int) (w33 : World) (K34 : Int → World → Prop) (R : Bool → World → Prop) : Prop :=
 if ((decide (i_32 < (more_3.len : Int))) && (decide (i_32 < (30 : Int)))) = true then (
  ex (IxA more_3 6 i_32) fun a35 =>
  ex (RdAt T22 a35 w33) fun x36 =>
  cl Tryz.prog 14 [.pointer (r26.1), T22.enc (x36)] (tInt .i64) w33 fun r38 w37 =>
  K34 ((IntKind.i64.wrap (i_32 + (1 : Int)))) w37
 ) else (
  dr w33 fun w39 =>
  ex (Sub l_2 6 0 (min (l_2.len : Int) (30 : Int)) ((l_2).cap : Int)) fun s40 =>
  ex (Sub more_3 6 0 (min (more_3.len : Int) (30 : Int)) ((more_3).cap : Int)) fun s41 =>
  nwS 23 T22 ([] : List S22) w39 fun a42 w43 =>
  apd 23 T22 6 48 (⟨some a42, 0, 0⟩ : Slc) s40 w43 fun r45 w44 =>
  apd 23 T22 6 48 r45 s41 w44 fun r47 w46 =>
  cl Tryz.prog 20 [tSlc.enc (r47), .float .f64 (rate_1)] tPtr w46 fun r49 w48 =>
  dr w48 fun w50 =>
  ex (Sub more_3 6 0 (min (more_3.len : Int) (30 : Int)) ((more_3).cap : Int)) fun s51 =>
  cl Tryz.prog 19 [.pointer (r26.1)] tPtr w50 fun r53 w52 =>
  cl Tryz.prog 18 [.pointer (r53), .pointer (r49), tSlc.enc (s51)] tBool w52 fun r55 w54 =>
  R r55 w54
 )
def F5_j2 (rate_1 : Nat) (l_2 : Slc) (more_3 : Slc) (r26 : ((Option Addr) × Int)) (t_27 : Bool) (w28 : World) (R : Bool → World → Prop) : Prop :=
 if t_27 = true then (
  R false w28
 ) else (
  ex (Sub l_2 6 0 (min (l_2.len : Int) (30 : Int)) ((l_2).cap : Int)) fun s29 =>
  cl Tryz.prog 20 [tSlc.enc (s29), .float .f64 (rate_1)] tPtr w28 fun r31 w30 =>
  if r31.isNone = true then (
   R false w30
  ) else (
   lp (fun (s : Int) w K => F5_l3 rate_1 l_2 more_3 r26 s w K R) ((0 : Int)) w30
  )
 )
def F5_l1 (rate_1 : Nat) (l_2 : Slc) (more_3 : Slc) (r5 : ((Option Addr) × Int)) (r7 : ((Option Addr) × Int)) (i_12 : Int) (w13 : World) (K14 : Int → World → Prop) (R : Bool → World → Prop) : Prop :=
 if ((decide (i_12 < (l_2.len : Int))) && (decide (i_12 < (30 : Int)))) = true then (
  ex (IxA l_2 6 i_12) fun a15 =>
  ex (RdAt T22 a15 w13) fun x16 =>
  cl Tryz.prog 14 [.pointer (r7.1), T22.enc (x16)] (tInt .i64) w13 fun r18 w17 =>
  K14 ((IntKind.i64.wrap (i_12 + (1 : Int)))) w17
 ) else (
  ex (NC r7.1) fun a19 =>
  ex (RdAt tPtr (a19.add 0) w13) fun x20 =>
  cl Tryz.prog 15 [.pointer (x20)] (tInt .i64) w13 fun r22 w21 =>
  if (r22 != (0 : Int)) = true then (
   R false w21
  ) else (
   cl Tryz.prog 22 [.pointer (r5.1)] (tInt .i64) w21 fun r24 w23 =>
   cl Tryz.prog 13 [.pointer (r5.1), .int .i64 ((0 : Int)), .float .f64 (rate_1)] (tTup2 tPtr (tInt .i64)) w23 fun r26 w25 =>
   dr w25 fun w59 =>
   if ((r26.2 != (0 : Int)) || r26.1.isNone) = true then (
    if true = true then (
     F5_j2 rate_1 l_2 more_3 r26 true w59 R
    ) else (
     ex (NC r26.1) fun a62 =>
     ex (RdAt tPtr (a62.add 0) w59) fun x63 =>
     ex (RdAt tPtr (a19.add 0) w59) fun x64 =>
     cl Tryz.prog 21 [.pointer (x63)] (tInt .i64) w59 fun r66 w65 =>
     kp ((RdAt tPtr (a19.add 0) w65) x64) <|
     cl Tryz.prog 21 [.pointer (x64)] (tInt .i64) w65 fun r69 w68 =>
     kp ((RdAt tPtr (a62.add 0) w68) x63) <|
     if (r66 != r69) = true then (
      F5_j2 rate_1 l_2 more_3 r26 true w68 R
     ) else (
      ex (Sub l_2 6 0 (min (l_2.len : Int) (30 : Int)) ((l_2).cap : Int)) fun s72 =>
      cl Tryz.prog 19 [.pointer (r7.1)] tPtr w68 fun r74 w73 =>
      kp ((RdAt tPtr (a62.add 0) w73) x63) <|
      kp ((RdAt tPtr (a19.add 0) w73) x64) <|
      cl Tryz.prog 19 [.pointer (r26.1)] tPtr w73 fun r78 w77 =>
      kp ((RdAt tPtr (a62.add 0) w77) x63) <|
      kp ((RdAt tPtr (a19.add 0) w77) x64) <|
      cl Tryz.prog 18 [.pointer (r74), .pointer (r78), tSlc.enc (s72)] tBool w77 fun r82 w81 =>
      kp ((RdAt tPtr (a62.add 0) w81) x63) <|
      kp ((RdAt tPtr (a19.add 0) w81) x64) <|
      F5_j2 rate_1 l_2 more_3 r26 (!r82) w81 R
     )
    )
   ) else (
    cl Tryz.prog 22 [.pointer (r5.1)] (tInt .i64) w59 fun r86 w85 =>
    if (r86 != r24) = true then (
     if true = true then (
      F5_j2 rate_1 l_2 more_3 r26 true w85 R
     ) else (
      ex (Sub l_2 6 0 (min (l_2.len : Int) (30 : Int)) ((l_2).cap : Int)) fun s89 =>
      cl Tryz.prog 19 [.pointer (r7.1)] tPtr w85 fun r91 w90 =>
      cl Tryz.prog 19 [.pointer (r26.1)] tPtr w90 fun r93 w92 =>
      cl Tryz.prog 18 [.pointer (r91), .pointer (r93), tSlc.enc (s89)] tBool w92 fun r95 w94 =>
      F5_j2 rate_1 l_2 more_3 r26 (!r95) w94 R
     )
    ) else (
     ex (NC r26.1) fun a96 =>
     ex (RdAt tPtr (a96.add 0) w85) fun x97 =>
     ex (RdAt tPtr (a19.add 0) w85) fun x98 =>
     cl Tryz.prog 21 [.pointer (x97)] (tInt .i64) w85 fun r100 w99 =>
     kp ((RdAt tPtr (a19.add 0) w99) x98) <|
     cl Tryz.prog 21 [.pointer (x98)] (tInt .i64) w99 fun r103 w102 =>
     kp ((RdAt tPtr (a96.add 0) w102) x97) <|
     if (r100 != r103) = true then (
      F5_j2 rate_1 l_2 more_3 r26 true w102 R
     ) else (
      ex (Sub l_2 6 0 (min (l_2.len : Int) (30 : Int)) ((l_2).cap : Int)) fun s106 =>
      cl Tryz.prog 19 [.pointer (r7.1)] tPtr w102 fun r108 w107 =>
      kp ((RdAt tPtr (a96.add 0) w107) x97) <|
      kp ((RdAt tPtr (a19.add 0) w107) x98) <|
      cl Tryz.prog 19 [.pointer (r26.1)] tPtr w107 fun r112 w111 =>
      kp ((RdAt tPtr (a96.add 0) w111) x97) <|
      kp ((RdAt tPtr (a19.add 0) w111) x98) <|
      cl Tryz.prog 18 [.pointer (r108), .pointer (r112), tSlc.enc (s106)] tBool w111 fun r116 w115 =>
      kp ((RdAt tPtr (a96.add 0) w115) x97) <|
      kp ((RdAt tPtr (a19.add 0) w115) x98) <|
      F5_j2 rate_1 l_2 more_3 r26 (!r116) w115 R
     )
    )
   )
  )
 )
def F5 (rate_1 : Nat) (l_2 : Slc) (more_3 : Slc) (w : World) (R : Bool → World → Prop) : Prop :=
 cl Tryz.prog 12 [.int .i64 ((1 : Int))] (tTup2 tPtr (tInt .i64)) w fun r5 w4 =>
 cl Tryz.prog 13 [.pointer (r5.1), .int .i64 ((0 : Int)), .float .f64 (rate_1)] (tTup2 tPtr (tInt .i64)) w4 fun r7 w6 =>
 cl Tryz.prog 7 [] tBool w6 fun r9 w8 =>
 if ((((!r9) || (r5.2 != (0 : Int))) || (r7.2 != (0 : Int))) || r7.1.isNone) = true then (
  cl Tryz.prog 7 [] tBool w8 fun r11 w10 =>
  R (r11 && (r7.2 == (190 : Int))) w10
 ) else (
  lp (fun (s : Int) w K => F5_l1 rate_1 l_2 more_3 r5 r7 s w K R) ((0 : Int)) w8
 )
theorem F5_ok {rate_1 : Nat} {l_2 : Slc} {more_3 : Slc} {w : World} {R : Bool → World → Prop} (h : F5 rate_1 l_2 more_3 w R) : cl Tryz.prog 5 [.float .f64 (rate_1), tSlc.enc (l_2), tSlc.enc (more_3)] tBool w R := by
 unfold F5 at h
 refine calls_start 164 Tryz.func5 rfl rfl (Nat.le_of_ble_eq_true rfl) <| wp_seq <| wp_text [0] rfl <| za 6 (.bool (false)) rfl rfl <| ro_nil <| wp_seq <| wp_text [0, 1, 2, 3, 4, 5] rfl <| zc ent12 rfl rfl h fun r5 w4 h => zm 18 ((tTup2 tPtr (tInt .i64)).enc (r5)) rfl rfl <| ze 20 (.pointer (r5.1)) rfl rfl rfl <| ze 21 (.int .i64 (r5.2)) rfl rfl rfl <| za 7 (.pointer (r5.1)) rfl rfl ?_
 refine za 8 (.int .i64 (r5.2)) rfl rfl <| ro_nil <| wp_seq <| wp_text [0, 1, 2, 3, 4, 5, 6, 7] rfl <| zm 23 (.pointer (r5.1)) rfl rfl <| zm 24 (.float .f64 (rate_1)) rfl rfl <| zc ent13 rfl rfl h fun r7 w6 h => zm 22 ((tTup2 tPtr (tInt .i64)).enc (r7)) rfl rfl <| ze 26 (.pointer (r7.1)) rfl rfl rfl <| ze 27 (.int .i64 (r7.2)) rfl rfl rfl <| za 9 (.pointer (r7.1)) rfl rfl <| za 10 (.int .i64 (r7.2)) rfl rfl ?_
 refine ro_nil <| wp_seq <| wp_seq <| wp_text [0, 1, 2, 3, 4, 5, 6, 7, 8, 9, 10, 11, 12, 13] rfl <| zc ent7 rfl rfl h fun r9 w8 h => rv 29 rfl rfl rfl (q_not (b := r9) rfl rfl) <| zm 30 (.bool ((!r9))) rfl rfl <| ro_gval (g := (!(!r9))) (d := (some 31)) rfl (.no 2 30 true (!r9) rfl rfl rfl rfl) rfl (fun hg => q_move (v := .int .i64 (r5.2)) rfl rfl) <| ro_gval (g := (!(!r9))) (d := (some 32)) rfl (.no 2 30 true (!r9) rfl rfl rfl rfl) rfl (fun hg => q_neq (k := .i64) (a := r5.2) (b := (0 : Int)) rfl (gvb_yes hg) rfl) <| rv 33 rfl rfl rfl (q_pickGF (a := (!r9)) (c := (r5.2 != (0 : Int))) rfl rfl rfl rfl) <| zm 34 (.bool (((!r9) || (r5.2 != (0 : Int))))) rfl rfl <| ro_gval (g := (!((!r9) || (r5.2 != (0 : Int))))) (d := (some 35)) rfl (.no 6 34 true ((!r9) || (r5.2 != (0 : Int))) rfl rfl rfl rfl) rfl (fun hg => q_move (v := .int .i64 (r7.2)) rfl rfl) ?_
 refine ro_gval (g := (!((!r9) || (r5.2 != (0 : Int))))) (d := (some 36)) rfl (.no 6 34 true ((!r9) || (r5.2 != (0 : Int))) rfl rfl rfl rfl) rfl (fun hg => q_neq (k := .i64) (a := r7.2) (b := (0 : Int)) rfl (gvb_yes hg) rfl) <| rv 37 rfl rfl rfl (q_pickGF (a := ((!r9) || (r5.2 != (0 : Int)))) (c := (r7.2 != (0 : Int))) rfl rfl rfl rfl) <| zm 38 (.bool ((((!r9) || (r5.2 != (0 : Int))) || (r7.2 != (0 : Int))))) rfl rfl <| ro_gval (g := (!(((!r9) || (r5.2 != (0 : Int))) || (r7.2 != (0 : Int))))) (d := (some 39)) rfl (.no 10 38 true (((!r9) || (r5.2 != (0 : Int))) || (r7.2 != (0 : Int))) rfl rfl rfl rfl) rfl (fun hg => q_move (v := .pointer (r7.1)) rfl rfl) <| ro_gval (g := (!(((!r9) || (r5.2 != (0 : Int))) || (r7.2 != (0 : Int))))) (d := (some 40)) rfl (.no 10 38 true (((!r9) || (r5.2 != (0 : Int))) || (r7.2 != (0 : Int))) rfl rfl rfl rfl) rfl (fun hg => q_eqP0 (a := r7.1) rfl Tryz.underlying37 (gvb_yes hg) rfl) <| rv 41 rfl rfl rfl (q_pickGF (a := (((!r9) || (r5.2 != (0 : Int))) || (r7.2 != (0 : Int)))) (c := r7.1.isNone) rfl rfl rfl rfl) <| ro_nil <| zi h rfl (fun _ h => ?_) fun _ h => ?_
 ·refine wp_seq <| wp_text [0, 1, 2, 3, 4, 5] rfl <| zc ent7 rfl rfl h fun r11 w10 h => zm 43 (.bool (r11)) rfl rfl <| ro_gval (g := r11) (d := (some 44)) rfl (.yes 1 43 true r11 rfl rfl rfl rfl) rfl (fun hg => q_move (v := .int .i64 (r7.2)) rfl rfl) <| ro_gval (g := r11) (d := (some 45)) rfl (.yes 1 43 true r11 rfl rfl rfl rfl) rfl (fun hg => q_eql (k := .i64) (a := r7.2) (b := (190 : Int)) rfl (gvb_yes hg) rfl) <| rv 46 rfl rfl rfl (q_pickGT (a := r11) (b := (r7.2 == (190 : Int))) rfl rfl rfl rfl) <| za 6 (.bool ((r11 && (r7.2 == (190 : Int))))) rfl rfl <| ro_nil <| wp_ret ?_
  exact zr1 h rfl rfl
 ·refine wp_skip <| wp_seq <| wp_seq <| wp_text [0] rfl <| za 11 (.int .i64 ((0 : Int))) rfl rfl <| ro_nil <| wp_block <| loop_at (σ := Int) (fr := fun g (s : Int) => upd (upd (upd (upd (upd (upd (g) 0 (.float .f64 (rate_1))) 1 (tSlc.enc (l_2))) 2 (tSlc.enc (more_3))) 7 (.pointer (r5.1))) 9 (.pointer (r7.1))) 11 (.int .i64 (s))) (s0 := ((0 : Int))) (upd_step (upd_step (upd_step (upd_step (upd_step (upd_step rfl rfl) rfl) rfl) rfl) rfl) rfl) h ?_
  rintro i_12 g w13 K14 h
  unfold F5_l1 at h
  refine wp_seq <| wp_seq <| wp_text [0, 1, 2, 3, 4, 5, 6, 7] rfl <| zm 47 (.int .i64 (i_12)) rfl rfl <| zm 48 (tSlc.enc (l_2)) rfl rfl <| rv 49 rfl rfl rfl (q_len (s := l_2) rfl Tryz.underlying32 rfl) <| rv 50 rfl rfl rfl (q_lss (a := i_12) (b := (l_2.len : Int)) rfl rfl rfl) <| zm 51 (.bool ((decide (i_12 < (l_2.len : Int))))) rfl rfl <| ro_gval (g := (decide (i_12 < (l_2.len : Int)))) (d := (some 52)) rfl (.yes 4 51 true (decide (i_12 < (l_2.len : Int))) rfl rfl rfl rfl) rfl (fun hg => q_move (v := .int .i64 (i_12)) rfl rfl) <| ro_gval (g := (decide (i_12 < (l_2.len : Int)))) (d := (some 53)) rfl (.yes 4 51 true (decide (i_12 < (l_2.len : Int))) rfl rfl rfl rfl) rfl (fun hg => q_lss (k := .i64) (a := i_12) (b := (30 : Int)) rfl (gvb_yes hg) rfl) <| rv 54 rfl rfl rfl (q_pickGT (a := (decide (i_12 < (l_2.len : Int)))) (b := (decide (i_12 < (30 : Int)))) rfl rfl rfl rfl) <| ro_nil ?_
  refine zi h rfl (fun _ h => ?_) fun _ h => ?_
  ·refine wp_skip <| wp_seq <| wp_block <| wp_text [0, 1, 2, 3, 4, 5] rfl <| zm 57 (.pointer (r7.1)) rfl rfl <| zm 58 (tSlc.enc (l_2)) rfl rfl <| zm 59 (.int .i64 (i_12)) rfl rfl ?_
   obtain ⟨a15, ha15, h⟩ := h
   refine rv 60 rfl rfl rfl (q_indexAddr (s := l_2) (k := .i64) (i := i_12) rfl Tryz.underlying32 ok23 rfl rfl ha15) ?_
   obtain ⟨x16, hx16, h⟩ := h
   refine zl 61 hx16 ok23 rfl rfl <| zc ent14 rfl rfl h fun r18 w17 h => ro_nil <| wp_text [0, 1, 2] rfl <| zm 55 (.int .i64 (i_12)) rfl rfl <| rv 56 rfl rfl rfl (q_add (a := i_12) (b := (1 : Int)) rfl rfl rfl) <| za 11 (.int .i64 ((IntKind.i64.wrap (i_12 + (1 : Int))))) rfl rfl <| ro_nil ?_
   exact ⟨((IntKind.i64.wrap (i_12 + (1 : Int)))), _, arr (upd_step (upd_step (upd_step (upd_step (upd_step (upd_step rfl rfl) rfl) rfl) rfl) rfl) rfl), h⟩
  ·refine wp_exit <| wp_seq <| wp_seq <| wp_text [0, 1, 2, 3, 4, 5] rfl <| zm 63 (.pointer (r7.1)) rfl rfl ?_
   obtain ⟨a19, ha19, h⟩ := h
   refine zn 64 ha19 rfl rfl <| zf 65 a19 0 Tryz.underlying46 ok43 rfl rfl rfl ?_
   obtain ⟨x20, hx20, h⟩ := h
   refine zl 66 hx20 ok43 rfl rfl <| zc ent15 rfl rfl h fun r22 w21 h => rv 68 rfl rfl rfl (q_neq (a := r22) (b := (0 : Int)) rfl rfl rfl) <| ro_nil <| zi h rfl (fun _ h => ?_) fun _ h => ?_
   ·refine wp_seq <| wp_text [0] rfl <| za 6 (.bool (false)) rfl rfl <| ro_nil <| wp_ret ?_
    exact zr1 h rfl rfl
   ·refine wp_skip <| wp_seq <| wp_text [0, 1, 2] rfl <| zm 69 (.pointer (r5.1)) rfl rfl <| zc ent22 rfl rfl h fun r24 w23 h => za 12 (.int .i64 (r24)) rfl rfl <| ro_nil <| wp_seq <| wp_text [0, 1, 2, 3, 4, 5, 6, 7] rfl <| zm 72 (.pointer (r5.1)) rfl rfl <| zm 73 (.float .f64 (rate_1)) rfl rfl <| zc ent13 rfl rfl h fun r26 w25 h => ?_
    refine zm 71 ((tTup2 tPtr (tInt .i64)).enc (r26)) rfl rfl <| ze 75 (.pointer (r26.1)) rfl rfl rfl <| ze 76 (.int .i64 (r26.2)) rfl rfl rfl <| za 13 (.pointer (r26.1)) rfl rfl <| za 14 (.int .i64 (r26.2)) rfl rfl <| ro_nil <| wp_seq <| seq_join (σ := Bool) (J := fun (s : Bool) w => F5_j2 rate_1 l_2 more_3 r26 s w R) (fr := fun g (s : Bool) => upd (upd (upd (upd (upd (g) 0 (.float .f64 (rate_1))) 1 (tSlc.enc (l_2))) 2 (tSlc.enc (more_3))) 13 (.pointer (r26.1))) 114 (.bool (s))) ?_ ?_
    ·rintro t_27 g w28 h
     unfold F5_j2 at h
     refine zi h rfl (fun _ h => ?_) fun _ h => ?_
     ·refine wp_seq <| wp_text [0] rfl <| za 6 (.bool (false)) rfl rfl <| ro_nil <| wp_ret ?_
      exact zr1 h rfl rfl
     ·refine wp_skip <| wp_seq <| wp_text [0, 1, 2, 3, 4, 5, 6, 7] rfl <| zm 115 (tSlc.enc (l_2)) rfl rfl <| zm 116 (tSlc.enc (l_2)) rfl rfl <| rv 117 rfl rfl rfl (q_len (s := l_2) rfl Tryz.underlying32 rfl) <| rv 118 rfl rfl rfl (q_min (a := (l_2.len : Int)) (b := (30 : Int)) rfl rfl rfl) ?_
      obtain ⟨s29, hs29, h⟩ := h
      refine rv 119 rfl rfl rfl (q_sliceH (s := l_2) (h := (min (l_2.len : Int) (30 : Int))) rfl Tryz.underlying32 ok23 rfl rfl hs29) <| zm 120 (.float .f64 (rate_1)) rfl rfl <| zc ent20 rfl rfl h fun r31 w30 h => za 15 (.pointer (r31)) rfl rfl <| ro_nil <| wp_seq <| wp_seq <| wp_text [0, 1] rfl <| zm 122 (.pointer (r31)) rfl rfl <| rv 123 rfl rfl rfl (q_eqP0 (a := r31) rfl Tryz.underlying44 rfl rfl) <| ro_nil <| zi h rfl (fun _ h => ?_) fun _ h => ?_
      ·refine wp_seq <| wp_text [0] rfl <| za 6 (.bool (false)) rfl rfl <| ro_nil <| wp_ret ?_
       exact zr1 h rfl rfl
      ·refine wp_skip <| wp_seq <| wp_seq <| wp_text [0] rfl <| za 16 (.int .i64 ((0 : Int))) rfl rfl <| ro_nil <| wp_block <| loop_at (σ := Int) (fr := fun g (s : Int) => upd (upd (upd (upd (upd (g) 0 (.float .f64 (rate_1))) 1 (tSlc.enc (l_2))) 2 (tSlc.enc (more_3))) 13 (.pointer (r26.1))) 16 (.int .i64 (s))) (s0 := ((0 : Int))) (upd_step (upd_step (upd_step (upd_step (upd_step rfl rfl) rfl) rfl) rfl) rfl) h ?_
       rintro i_32 g w33 K34 h
       unfold F5_l3 at h
       refine wp_seq <| wp_seq <| wp_text [0, 1, 2, 3, 4, 5, 6, 7] rfl <| zm 124 (.int .i64 (i_32)) rfl rfl <| zm 125 (tSlc.enc (more_3)) rfl rfl <| rv 126 rfl rfl rfl (q_len (s := more_3) rfl Tryz.underlying32 rfl) <| rv 127 rfl rfl rfl (q_lss (a := i_32) (b := (more_3.len : Int)) rfl rfl rfl) <| zm 128 (.bool ((decide (i_32 < (more_3.len : Int))))) rfl rfl <| ro_gval (g := (decide (i_32 < (more_3.len : Int)))) (d := (some 129)) rfl (.yes 4 128 true (decide (i_32 < (more_3.len : Int))) rfl rfl rfl rfl) rfl (fun hg => q_move (v := .int .i64 (i_32)) rfl rfl) <| ro_gval (g := (decide (i_32 < (more_3.len : Int)))) (d := (some 130)) rfl (.yes 4 128 true (decide (i_32 < (more_3.len : Int))) rfl rfl rfl rfl) rfl (fun hg => q_lss (k := .i64) (a := i_32) (b := (30 : Int)) rfl (gvb_yes hg) rfl) <| rv 131 rfl rfl rfl (q_pickGT (a := (decide (i_32 < (more_3.len : Int)))) (b := (decide (i_32 < (30 : Int)))) rfl rfl rfl rfl) <| ro_nil ?_
       refine zi h rfl (fun _ h => ?_) fun _ h => ?_
       ·refine wp_skip <| wp_seq <| wp_block <| wp_text [0, 1, 2, 3, 4, 5] rfl <| zm 134 (.pointer (r26.1)) rfl rfl <| zm 135 (tSlc.enc (more_3)) rfl rfl <| zm 136 (.int .i64 (i_32)) rfl rfl ?_
        obtain ⟨a35, ha35, h⟩ := h
        refine rv 137 rfl rfl rfl (q_indexAddr (s := more_3) (k := .i64) (i := i_32) rfl Tryz.underlying32 ok23 rfl rfl ha35) ?_
        obtain ⟨x36, hx36, h⟩ := h
        refine zl 138 hx36 ok23 rfl rfl <| zc ent14 rfl rfl h fun r38 w37 h => ro_nil <| wp_text [0, 1, 2] rfl <| zm 132 (.int .i64 (i_32)) rfl rfl <| rv 133 rfl rfl rfl (q_add (a := i_32) (b := (1 : Int)) rfl rfl rfl) <| za 16 (.int .i64 ((IntKind.i64.wrap (i_32 + (1 : Int))))) rfl rfl <| ro_nil ?_
        exact ⟨((IntKind.i64.wrap (i_32 + (1 : Int)))), _, arr (upd_step (upd_step (upd_step (upd_step (upd_step rfl rfl) rfl) rfl) rfl) rfl), h⟩
       ·refine wp_exit <| wp_seq ?_
        obtain ⟨w39, hw39, h⟩ := dr_open h
        refine wp_drawn 16 mixed rfl (by kernel_rfl) (by intro c a d v w h; cases d <;> exact h) hw39 (fun hD => ?_)
        refine ym 1 141 (tSlc.enc (l_2)) hD rfl rfl <| ym 2 142 (tSlc.enc (l_2)) hD rfl rfl <| rp 3 143 hD rfl rfl rfl (fun _ => q_len (s := l_2) rfl Tryz.underlying32 rfl) <| rp 4 144 hD rfl rfl rfl (fun _ => q_min (a := (l_2.len : Int)) (b := (30 : Int)) rfl rfl rfl) ?_
        obtain ⟨s40, hs40, h⟩ := h
        refine rp 5 145 hD rfl rfl rfl (fun _ => q_sliceH (s := l_2) (h := (min (l_2.len : Int) (30 : Int))) rfl Tryz.underlying32 ok23 rfl rfl hs40) <| ym 7 147 (tSlc.enc (more_3)) hD rfl rfl <| ym 8 148 (tSlc.enc (more_3)) hD rfl rfl <| rp 9 149 hD rfl rfl rfl (fun _ => q_len (s := more_3) rfl Tryz.underlying32 rfl) <| rp 10 150 hD rfl rfl rfl (fun _ => q_min (a := (more_3.len : Int)) (b := (30 : Int)) rfl rfl rfl) ?_
        obtain ⟨s41, hs41, h⟩ := h
        refine rp 11 151 hD rfl rfl rfl (fun _ => q_sliceH (s := more_3) (h := (min (more_3.len : Int) (30 : Int))) rfl Tryz.underlying32 ok23 rfl rfl hs41) <| ym 13 153 (.float .f64 (rate_1)) hD rfl rfl <| rd_one (i := 0) (by kernel_rfl) ?_
        obtain ⟨a42, w43, ha42, hw43, h⟩ := nwS_open h
        refine po_val (d := (some 140)) rfl (.free rfl) rfl (q_row0 (T := T22) rfl Tryz.underlying32 ok23 inf23 ha42 hw43) ⟨hk_nil, ?_⟩
        refine rd_one (i := 6) (by kernel_rfl) <| po_wp rfl (.free rfl) (wp_append (d := (some 146)) (T := T22) rfl rfl Tryz.underlying32 ⟨_, Tryz.underlying32⟩ ok23 inf23 rfl rfl (Nat.lt_of_lt_of_le Nat.zero_lt_one (Nat.le_of_ble_eq_true rfl)) rfl rfl h ?_)
        intro r45 w44 h
        refine ⟨hk_nil, ?_⟩
        refine rd_one (i := 12) (by kernel_rfl) <| po_wp rfl (.free rfl) (wp_append (d := (some 152)) (T := T22) rfl rfl Tryz.underlying32 ⟨_, Tryz.underlying32⟩ ok23 inf23 rfl rfl (Nat.lt_of_lt_of_le Nat.zero_lt_one (Nat.le_of_ble_eq_true rfl)) rfl rfl h ?_)
        intro r47 w46 h
        refine ⟨hk_nil, ?_⟩
        refine rd_one (i := 14) (by kernel_rfl) <| po_wp rfl (.free rfl) (wp_cl (d := (some 154)) rfl (q_call (k := 20) (l := [tSlc.enc (r47), .float .f64 (rate_1)]) rfl ent20 rfl) h ?_)
        intro r49 w48 h
        refine ⟨hk_nil, ?_⟩
        refine ya 15 17 (.pointer (r49)) hD rfl rfl <| rd_nil (by kernel_rfl) <| wp_seq ?_
        obtain ⟨w50, hw50, h⟩ := dr_open h
        refine wp_drawn 10 mixed rfl (by kernel_rfl) (by intro c a d v w h; cases d <;> exact h) hw50 (fun hD => ?_)
        refine ym 0 155 (.pointer (r26.1)) hD rfl rfl <| ym 2 157 (.pointer (r49)) hD rfl rfl <| ym 3 158 (tSlc.enc (more_3)) hD rfl rfl <| ym 4 159 (tSlc.enc (more_3)) hD rfl rfl <| rp 5 160 hD rfl rfl rfl (fun _ => q_len (s := more_3) rfl Tryz.underlying32 rfl) <| rp 6 161 hD rfl rfl rfl (fun _ => q_min (a := (more_3.len : Int)) (b := (30 : Int)) rfl rfl rfl) ?_
        obtain ⟨s51, hs51, h⟩ := h
        refine rp 7 162 hD rfl rfl rfl (fun _ => q_sliceH (s := more_3) (h := (min (more_3.len : Int) (30 : Int))) rfl Tryz.underlying32 ok23 rfl rfl hs51) <| rd_one (i := 1) (by kernel_rfl) <| po_wp rfl (.free rfl) (wp_cl (d := (some 156)) rfl (q_call (k := 19) (l := [.pointer (r26.1)]) rfl ent19 rfl) h ?_)
        intro r53 w52 h
        refine ⟨hk_nil, ?_⟩
        refine rd_one (i := 8) (by kernel_rfl) <| po_wp rfl (.free rfl) (wp_cl (d := (some 163)) rfl (q_call (k := 18) (l := [.pointer (r53), .pointer (r49), tSlc.enc (s51)]) rfl ent18 rfl) h ?_)
        intro r55 w54 h
        refine ⟨hk_nil, ?_⟩
        refine ya 9 6 (.bool (r55)) hD rfl rfl <| rd_nil (by kernel_rfl) <| wp_ret ?_
        exact zr1 h rfl rfl
    ·obtain ⟨w59, hw59, h⟩ := dr_open h
     refine wp_drawn 38 mixed rfl (by kernel_rfl) (by intro c a d v w h; cases d <;> exact h) hw59 (fun hD => ?_)
     refine ym 0 77 (.int .i64 (r26.2)) hD rfl rfl <| rp 1 78 hD rfl rfl rfl (fun _ => q_neq (a := r26.2) (b := (0 : Int)) rfl rfl rfl) <| ym 2 79 (.bool ((r26.2 != (0 : Int)))) hD rfl rfl <| rd_gpure (i := 3) (g := (!(r26.2 != (0 : Int)))) (d := (some 80)) hD (by kernel_rfl) (by kernel_rfl) rfl (.no 2 79 true (r26.2 != (0 : Int)) rfl rfl rfl rfl) rfl (fun hg _ => q_move (v := .pointer (r26.1)) rfl rfl) <| rd_gpure (i := 4) (g := (!(r26.2 != (0 : Int)))) (d := (some 81)) hD (by kernel_rfl) (by kernel_rfl) rfl (.no 2 79 true (r26.2 != (0 : Int)) rfl rfl rfl rfl) rfl (fun hg _ => q_eqP0 (a := r26.1) rfl Tryz.underlying37 (gvb_yes hg) rfl) <| rp 5 82 hD rfl rfl rfl (fun _ => q_pickGF (a := (r26.2 != (0 : Int))) (c := r26.1.isNone) rfl rfl rfl rfl) <| ym 6 83 (.bool (((r26.2 != (0 : Int)) || r26.1.isNone))) hD rfl rfl <| ro_if (b := ((r26.2 != (0 : Int)) || r26.1.isNone)) h (fun hb60 h => ?_) (fun hb60 h => ?_)
     ·refine yb 7 84 hD rfl (.by_ 6 false 83 ((r26.2 != (0 : Int)) || r26.1.isNone) rfl rfl rfl hb60) rfl <| yb 9 86 hD rfl (.by_ 6 false 83 ((r26.2 != (0 : Int)) || r26.1.isNone) rfl rfl rfl hb60) rfl <| rd_one (i := 8) (by kernel_rfl) <| po_bar (d := (some 85)) rfl (.by_ 6 false 83 ((r26.2 != (0 : Int)) || r26.1.isNone) rfl rfl rfl hb60) rfl ⟨fun _ _ _ h => h, ?_⟩
      refine yb 10 87 hD rfl (.by_ 6 false 83 ((r26.2 != (0 : Int)) || r26.1.isNone) rfl rfl rfl hb60) rfl <| rp 11 88 hD rfl rfl rfl (fun _ => q_pickT (v := .bool (true)) (b := ((r26.2 != (0 : Int)) || r26.1.isNone)) rfl rfl hb60 rfl) <| ym 12 89 (.bool (true)) hD rfl rfl <| ro_if (b := true) h (fun hb61 h => ?_) (fun hb61 h => ?_)
      ·refine yb 13 90 hD rfl (.by_ 12 false 89 true rfl rfl rfl hb61) rfl <| yb 14 91 hD rfl (.by_ 12 false 89 true rfl rfl rfl hb61) rfl <| yb 15 92 hD rfl (.by_ 12 false 89 true rfl rfl rfl hb61) rfl <| yb 18 95 hD rfl (.by_ 12 false 89 true rfl rfl rfl hb61) rfl <| yb 19 96 hD rfl (.by_ 12 false 89 true rfl rfl rfl hb61) rfl <| yb 20 97 hD rfl (.by_ 12 false 89 true rfl rfl rfl hb61) rfl <| yb 16 93 hD rfl (.by_ 12 false 89 true rfl rfl rfl hb61) rfl <| yb 21 98 hD rfl (.by_ 12 false 89 true rfl rfl rfl hb61) rfl <| rd_one (i := 17) (by kernel_rfl) <| po_bar (d := (some 94)) rfl (.by_ 12 false 89 true rfl rfl rfl hb61) rfl ⟨fun _ _ _ h => h, ?_⟩
       refine rd_one (i := 22) (by kernel_rfl) <| po_bar (d := (some 99)) rfl (.by_ 12 false 89 true rfl rfl rfl hb61) rfl ⟨fun _ _ _ h => h, ?_⟩
       refine yb 23 100 hD rfl (.by_ 12 false 89 true rfl rfl rfl hb61) rfl <| rp 24 101 hD rfl rfl rfl (fun _ => q_pickT (v := .bool (true)) (b := true) rfl rfl hb61 rfl) <| ym 25 102 (.bool (true)) hD rfl rfl <| yb 26 103 hD rfl (.by_ 25 false 102 true rfl rfl rfl hb61) rfl <| yb 28 105 hD rfl (.by_ 25 false 102 true rfl rfl rfl hb61) rfl <| yb 30 107 hD rfl (.by_ 25 false 102 true rfl rfl rfl hb61) rfl <| yb 31 108 hD rfl (.by_ 25 false 102 true rfl rfl rfl hb61) rfl <| yb 32 109 hD rfl (.by_ 25 false 102 true rfl rfl rfl hb61) rfl <| yb 33 110 hD rfl (.by_ 25 false 102 true rfl rfl rfl hb61) rfl <| yb 34 111 hD rfl (.by_ 25 false 102 true rfl rfl rfl hb61) rfl <| rd_one (i := 27) (by kernel_rfl) <| po_bar (d := (some 104)) rfl (.by_ 25 false 102 true rfl rfl rfl hb61) rfl ⟨fun _ _ _ h => h, ?_⟩
       refine rd_one (i := 29) (by kernel_rfl) <| po_bar (d := (some 106)) rfl (.by_ 25 false 102 true rfl rfl rfl hb61) rfl ⟨fun _ _ _ h => h, ?_⟩
       refine rd_one (i := 35) (by kernel_rfl) <| po_bar (d := (some 112)) rfl (.by_ 25 false 102 true rfl rfl rfl hb61) rfl ⟨fun _ _ _ h => h, ?_⟩
       refine yb 36 113 hD rfl (.by_ 25 false 102 true rfl rfl rfl hb61) rfl <| rp 37 114 hD rfl rfl rfl (fun _ => q_pickT (v := .bool (true)) (b := true) rfl rfl hb61 rfl) <| rd_nil (by kernel_rfl) ?_
       exact ⟨(true), _, arr (upd_step (upd_step (upd_step (upd_step (upd_step rfl rfl) rfl) rfl) rfl) rfl), h⟩
      ·refine rd_pure (i := 13) (d := (some 90)) hD (by kernel_rfl) (by kernel_rfl) rfl (.by_ 12 false 89 true rfl rfl rfl hb61) rfl (fun _ => q_move (v := .pointer (r26.1)) rfl rfl) ?_
       obtain ⟨a62, ha62, h⟩ := h
       refine rd_pure (i := 14) (d := (some 91)) hD (by kernel_rfl) (by kernel_rfl) rfl (.by_ 12 false 89 true rfl rfl rfl hb61) rfl (fun _ => q_nilCheck (a := a62) rfl (congrArg Value.pointer ha62)) <| rd_pure (i := 15) (d := (some 92)) hD (by kernel_rfl) (by kernel_rfl) rfl (.by_ 12 false 89 true rfl rfl rfl hb61) rfl (fun _ => q_fieldAddr (a := a62) (off := 0) rfl Tryz.underlying46 rfl rfl ok43 (by decide) rfl) <| rd_pure (i := 18) (d := (some 95)) hD (by kernel_rfl) (by kernel_rfl) rfl (.by_ 12 false 89 true rfl rfl rfl hb61) rfl (fun _ => q_move (v := .pointer (r7.1)) rfl rfl) <| rd_pure (i := 19) (d := (some 96)) hD (by kernel_rfl) (by kernel_rfl) rfl (.by_ 12 false 89 true rfl rfl rfl hb61) rfl (fun _ => q_nilCheck (a := a19) rfl (congrArg Value.pointer ha19)) <| rd_pure (i := 20) (d := (some 97)) hD (by kernel_rfl) (by kernel_rfl) rfl (.by_ 12 false 89 true rfl rfl rfl hb61) rfl (fun _ => q_fieldAddr (a := a19) (off := 0) rfl Tryz.underlying46 rfl rfl ok43 (by decide) rfl) ?_
       obtain ⟨x63, hx63, h⟩ := h
       refine rd_read (i := 16) (d := (some 93)) (fun W => (RdAt tPtr (a62.add 0) W) x63) hD (by kernel_rfl) (by kernel_rfl) rfl (.by_ 12 false 89 true rfl rfl rfl hb61) rfl (fun W hr => q_load (T := tPtr) (u := x63) (a := (a62.add 0)) rfl ok43 rfl hr) hx63 ?_
       obtain ⟨x64, hx64, h⟩ := h
       refine rd_read (i := 21) (d := (some 98)) (fun W => (RdAt tPtr (a19.add 0) W) x64) hD (by kernel_rfl) (by kernel_rfl) rfl (.by_ 12 false 89 true rfl rfl rfl hb61) rfl (fun W hr => q_load (T := tPtr) (u := x64) (a := (a19.add 0)) rfl ok43 rfl hr) hx64 <| rd_one (i := 17) (by kernel_rfl) <| po_wp rfl (.by_ 12 false 89 true rfl rfl rfl hb61) (wp_cl (d := (some 94)) rfl (q_call (k := 21) (l := [.pointer (x63)]) rfl ent21 rfl) h ?_)
       intro r66 w65 h
       obtain ⟨hk67, h⟩ := h
       refine ⟨(hk_keep (fun _ => hk67) (hk_wait (by kernel_rfl) hk_nil)), ?_⟩
       refine rd_one (i := 22) (by kernel_rfl) <| po_wp rfl (.by_ 12 false 89 true rfl rfl rfl hb61) (wp_cl (d := (some 99)) rfl (q_call (k := 21) (l := [.pointer (x64)]) rfl ent21 rfl) h ?_)
       intro r69 w68 h
       obtain ⟨hk70, h⟩ := h
       refine ⟨(hk_wait (by kernel_rfl) (hk_keep (fun _ => hk70) hk_nil)), ?_⟩
       refine rd_pure (i := 23) (d := (some 100)) hD (by kernel_rfl) (by kernel_rfl) rfl (.by_ 12 false 89 true rfl rfl rfl hb61) rfl (fun _ => q_neq (a := r66) (b := r69) rfl rfl rfl) <| rp 24 101 hD rfl rfl rfl (fun _ => q_pickF (v := .bool ((r66 != r69))) (b := true) rfl rfl hb61 rfl) <| ym 25 102 (.bool ((r66 != r69))) hD rfl rfl <| ro_if (b := (r66 != r69)) h (fun hb71 h => ?_) (fun hb71 h => ?_)
       ·refine yb 26 103 hD rfl (.by_ 25 false 102 (r66 != r69) rfl rfl rfl hb71) rfl <| yb 28 105 hD rfl (.by_ 25 false 102 (r66 != r69) rfl rfl rfl hb71) rfl <| yb 30 107 hD rfl (.by_ 25 false 102 (r66 != r69) rfl rfl rfl hb71) rfl <| yb 31 108 hD rfl (.by_ 25 false 102 (r66 != r69) rfl rfl rfl hb71) rfl <| yb 32 109 hD rfl (.by_ 25 false 102 (r66 != r69) rfl rfl rfl hb71) rfl <| yb 33 110 hD rfl (.by_ 25 false 102 (r66 != r69) rfl rfl rfl hb71) rfl <| yb 34 111 hD rfl (.by_ 25 false 102 (r66 != r69) rfl rfl rfl hb71) rfl <| rd_one (i := 27) (by kernel_rfl) <| po_bar (d := (some 104)) rfl (.by_ 25 false 102 (r66 != r69) rfl rfl rfl hb71) rfl ⟨fun _ _ _ h => h, ?_⟩
        refine rd_one (i := 29) (by kernel_rfl) <| po_bar (d := (some 106)) rfl (.by_ 25 false 102 (r66 != r69) rfl rfl rfl hb71) rfl ⟨fun _ _ _ h => h, ?_⟩
        refine rd_one (i := 35) (by kernel_rfl) <| po_bar (d := (some 112)) rfl (.by_ 25 false 102 (r66 != r69) rfl rfl rfl hb71) rfl ⟨fun _ _ _ h => h, ?_⟩
        refine yb 36 113 hD rfl (.by_ 25 false 102 (r66 != r69) rfl rfl rfl hb71) rfl <| rp 37 114 hD rfl rfl rfl (fun _ => q_pickT (v := .bool (true)) (b := (r66 != r69)) rfl rfl hb71 rfl) <| rd_nil (by kernel_rfl) ?_
        exact ⟨(true), _, arr (upd_step (upd_step (upd_step (upd_step (upd_step rfl rfl) rfl) rfl) rfl) rfl), h⟩
       ·refine rd_pure (i := 26) (d := (some 103)) hD (by kernel_rfl) (by kernel_rfl) rfl (.by_ 25 false 102 (r66 != r69) rfl rfl rfl hb71) rfl (fun _ => q_move (v := .pointer (r7.1)) rfl rfl) <| rd_pure (i := 28) (d := (some 105)) hD (by kernel_rfl) (by kernel_rfl) rfl (.by_ 25 false 102 (r66 != r69) rfl rfl rfl hb71) rfl (fun _ => q_move (v := .pointer (r26.1)) rfl rfl) <| rd_pure (i := 30) (d := (some 107)) hD (by kernel_rfl) (by kernel_rfl) rfl (.by_ 25 false 102 (r66 != r69) rfl rfl rfl hb71) rfl (fun _ => q_move (v := tSlc.enc (l_2)) rfl rfl) <| rd_pure (i := 31) (d := (some 108)) hD (by kernel_rfl) (by kernel_rfl) rfl (.by_ 25 false 102 (r66 != r69) rfl rfl rfl hb71) rfl (fun _ => q_move (v := tSlc.enc (l_2)) rfl rfl) <| rd_pure (i := 32) (d := (some 109)) hD (by kernel_rfl) (by kernel_rfl) rfl (.by_ 25 false 102 (r66 != r69) rfl rfl rfl hb71) rfl (fun _ => q_len (s := l_2) rfl Tryz.underlying32 rfl) <| rd_pure (i := 33) (d := (some 110)) hD (by kernel_rfl) (by kernel_rfl) rfl (.by_ 25 false 102 (r66 != r69) rfl rfl rfl hb71) rfl (fun _ => q_min (a := (l_2.len : Int)) (b := (30 : Int)) rfl rfl rfl) ?_
        obtain ⟨s72, hs72, h⟩ := h
        refine rd_pure (i := 34) (d := (some 111)) hD (by kernel_rfl) (by kernel_rfl) rfl (.by_ 25 false 102 (r66 != r69) rfl rfl rfl hb71) rfl (fun _ => q_sliceH (s := l_2) (h := (min (l_2.len : Int) (30 : Int))) rfl Tryz.underlying32 ok23 rfl rfl hs72) <| rd_one (i := 27) (by kernel_rfl) <| po_wp rfl (.by_ 25 false 102 (r66 != r69) rfl rfl rfl hb71) (wp_cl (d := (some 104)) rfl (q_call (k := 19) (l := [.pointer (r7.1)]) rfl ent19 rfl) h ?_)
        intro r74 w73 h
        obtain ⟨hk75, h⟩ := h
        obtain ⟨hk76, h⟩ := h
        refine ⟨(hk_keep (fun _ => hk76) (hk_keep (fun _ => hk75) hk_nil)), ?_⟩
        refine rd_one (i := 29) (by kernel_rfl) <| po_wp rfl (.by_ 25 false 102 (r66 != r69) rfl rfl rfl hb71) (wp_cl (d := (some 106)) rfl (q_call (k := 19) (l := [.pointer (r26.1)]) rfl ent19 rfl) h ?_)
        intro r78 w77 h
        obtain ⟨hk79, h⟩ := h
        obtain ⟨hk80, h⟩ := h
        refine ⟨(hk_keep (fun _ => hk80) (hk_keep (fun _ => hk79) hk_nil)), ?_⟩
        refine rd_one (i := 35) (by kernel_rfl) <| po_wp rfl (.by_ 25 false 102 (r66 != r69) rfl rfl rfl hb71) (wp_cl (d := (some 112)) rfl (q_call (k := 18) (l := [.pointer (r74), .pointer (r78), tSlc.enc (s72)]) rfl ent18 rfl) h ?_)
        intro r82 w81 h
        obtain ⟨hk83, h⟩ := h
        obtain ⟨hk84, h⟩ := h
        refine ⟨(hk_keep (fun _ => hk84) (hk_keep (fun _ => hk83) hk_nil)), ?_⟩
        refine rd_pure (i := 36) (d := (some 113)) hD (by kernel_rfl) (by kernel_rfl) rfl (.by_ 25 false 102 (r66 != r69) rfl rfl rfl hb71) rfl (fun _ => q_not (b := r82) rfl rfl) <| rp 37 114 hD rfl rfl rfl (fun _ => q_pickF (v := .bool ((!r82))) (b := (r66 != r69)) rfl rfl hb71 rfl) <| rd_nil (by kernel_rfl) ?_
        exact ⟨((!r82)), _, arr (upd_step (upd_step (upd_step (upd_step (upd_step rfl rfl) rfl) rfl) rfl) rfl), h⟩
     ·refine rd_pure (i := 7) (d := (some 84)) hD (by kernel_rfl) (by kernel_rfl) rfl (.by_ 6 false 83 ((r26.2 != (0 : Int)) || r26.1.isNone) rfl rfl rfl hb60) rfl (fun _ => q_move (v := .pointer (r5.1)) rfl rfl) <| rd_pure (i := 9) (d := (some 86)) hD (by kernel_rfl) (by kernel_rfl) rfl (.by_ 6 false 83 ((r26.2 != (0 : Int)) || r26.1.isNone) rfl rfl rfl hb60) rfl (fun _ => q_move (v := .int .i64 (r24)) rfl rfl) <| rd_one (i := 8) (by kernel_rfl) <| po_wp rfl (.by_ 6 false 83 ((r26.2 != (0 : Int)) || r26.1.isNone) rfl rfl rfl hb60) (wp_cl (d := (some 85)) rfl (q_call (k := 22) (l := [.pointer (r5.1)]) rfl ent22 rfl) h ?_)
      intro r86 w85 h
      refine ⟨hk_nil, ?_⟩
      refine rd_pure (i := 10) (d := (some 87)) hD (by kernel_rfl) (by kernel_rfl) rfl (.by_ 6 false 83 ((r26.2 != (0 : Int)) || r26.1.isNone) rfl rfl rfl hb60) rfl (fun _ => q_neq (a := r86) (b := r24) rfl rfl rfl) <| rp 11 88 hD rfl rfl rfl (fun _ => q_pickF (v := .bool ((r86 != r24))) (b := ((r26.2 != (0 : Int)) || r26.1.isNone)) rfl rfl hb60 rfl) <| ym 12 89 (.bool ((r86 != r24))) hD rfl rfl <| ro_if (b := (r86 != r24)) h (fun hb87 h => ?_) (fun hb87 h => ?_)
      ·refine yb 13 90 hD rfl (.by_ 12 false 89 (r86 != r24) rfl rfl rfl hb87) rfl <| yb 14 91 hD rfl (.by_ 12 false 89 (r86 != r24) rfl rfl rfl hb87) rfl <| yb 15 92 hD rfl (.by_ 12 false 89 (r86 != r24) rfl rfl rfl hb87) rfl <| yb 18 95 hD rfl (.by_ 12 false 89 (r86 != r24) rfl rfl rfl hb87) rfl <| yb 19 96 hD rfl (.by_ 12 false 89 (r86 != r24) rfl rfl rfl hb87) rfl <| yb 20 97 hD rfl (.by_ 12 false 89 (r86 != r24) rfl rfl rfl hb87) rfl <| yb 16 93 hD rfl (.by_ 12 false 89 (r86 != r24) rfl rfl rfl hb87) rfl <| yb 21 98 hD rfl (.by_ 12 false 89 (r86 != r24) rfl rfl rfl hb87) rfl <| rd_one (i := 17) (by kernel_rfl) <| po_bar (d := (some 94)) rfl (.by_ 12 false 89 (r86 != r24) rfl rfl rfl hb87) rfl ⟨fun _ _ _ h => h, ?_⟩
       refine rd_one (i := 22) (by kernel_rfl) <| po_bar (d := (some 99)) rfl (.by_ 12 false 89 (r86 != r24) rfl rfl rfl hb87) rfl ⟨fun _ _ _ h => h, ?_⟩
       refine yb 23 100 hD rfl (.by_ 12 false 89 (r86 != r24) rfl rfl rfl hb87) rfl <| rp 24 101 hD rfl rfl rfl (fun _ => q_pickT (v := .bool (true)) (b := (r86 != r24)) rfl rfl hb87 rfl) <| ym 25 102 (.bool (true)) hD rfl rfl <| ro_if (b := true) h (fun hb88 h => ?_) (fun hb88 h => ?_)
       ·refine yb 26 103 hD rfl (.by_ 25 false 102 true rfl rfl rfl hb88) rfl <| yb 28 105 hD rfl (.by_ 25 false 102 true rfl rfl rfl hb88) rfl <| yb 30 107 hD rfl (.by_ 25 false 102 true rfl rfl rfl hb88) rfl <| yb 31 108 hD rfl (.by_ 25 false 102 true rfl rfl rfl hb88) rfl <| yb 32 109 hD rfl (.by_ 25 false 102 true rfl rfl rfl hb88) rfl <| yb 33 110 hD rfl (.by_ 25 false 102 true rfl rfl rfl hb88) rfl <| yb 34 111 hD rfl (.by_ 25 false 102 true rfl rfl rfl hb88) rfl <| rd_one (i := 27) (by kernel_rfl) <| po_bar (d := (some 104)) rfl (.by_ 25 false 102 true rfl rfl rfl hb88) rfl ⟨fun _ _ _ h => h, ?_⟩
        refine rd_one (i := 29) (by kernel_rfl) <| po_bar (d := (some 106)) rfl (.by_ 25 false 102 true rfl rfl rfl hb88) rfl ⟨fun _ _ _ h => h, ?_⟩
        refine rd_one (i := 35) (by kernel_rfl) <| po_bar (d := (some 112)) rfl (.by_ 25 false 102 true rfl rfl rfl hb88) rfl ⟨fun _ _ _ h => h, ?_⟩
        refine yb 36 113 hD rfl (.by_ 25 false 102 true rfl rfl rfl hb88) rfl <| rp 37 114 hD rfl rfl rfl (fun _ => q_pickT (v := .bool (true)) (b := true) rfl rfl hb88 rfl) <| rd_nil (by kernel_rfl) ?_
        exact ⟨(true), _, arr (upd_step (upd_step (upd_step (upd_step (upd_step rfl rfl) rfl) rfl) rfl) rfl), h⟩
       ·refine rd_pure (i := 26) (d := (some 103)) hD (by kernel_rfl) (by kernel_rfl) rfl (.by_ 25 false 102 true rfl rfl rfl hb88) rfl (fun _ => q_move (v := .pointer (r7.1)) rfl rfl) <| rd_pure (i := 28) (d := (some 105)) hD (by kernel_rfl) (by kernel_rfl) rfl (.by_ 25 false 102 true rfl rfl rfl hb88) rfl (fun _ => q_move (v := .pointer (r26.1)) rfl rfl) <| rd_pure (i := 30) (d := (some 107)) hD (by kernel_rfl) (by kernel_rfl) rfl (.by_ 25 false 102 true rfl rfl rfl hb88) rfl (fun _ => q_move (v := tSlc.enc (l_2)) rfl rfl) <| rd_pure (i := 31) (d := (some 108)) hD (by kernel_rfl) (by kernel_rfl) rfl (.by_ 25 false 102 true rfl rfl rfl hb88) rfl (fun _ => q_move (v := tSlc.enc (l_2)) rfl rfl) <| rd_pure (i := 32) (d := (some 109)) hD (by kernel_rfl) (by kernel_rfl) rfl (.by_ 25 false 102 true rfl rfl rfl hb88) rfl (fun _ => q_len (s := l_2) rfl Tryz.underlying32 rfl) <| rd_pure (i := 33) (d := (some 110)) hD (by kernel_rfl) (by kernel_rfl) rfl (.by_ 25 false 102 true rfl rfl rfl hb88) rfl (fun _ => q_min (a := (l_2.len : Int)) (b := (30 : Int)) rfl rfl rfl) ?_
        obtain ⟨s89, hs89, h⟩ := h
        refine rd_pure (i := 34) (d := (some 111)) hD (by kernel_rfl) (by kernel_rfl) rfl (.by_ 25 false 102 true rfl rfl rfl hb88) rfl (fun _ => q_sliceH (s := l_2) (h := (min (l_2.len : Int) (30 : Int))) rfl Tryz.underlying32 ok23 rfl rfl hs89) <| rd_one (i := 27) (by kernel_rfl) <| po_wp rfl (.by_ 25 false 102 true rfl rfl rfl hb88) (wp_cl (d := (some 104)) rfl (q_call (k := 19) (l := [.pointer (r7.1)]) rfl ent19 rfl) h ?_)
        intro r91 w90 h
        refine ⟨hk_nil, ?_⟩
        refine rd_one (i := 29) (by kernel_rfl) <| po_wp rfl (.by_ 25 false 102 true rfl rfl rfl hb88) (wp_cl (d := (some 106)) rfl (q_call (k := 19) (l := [.pointer (r26.1)]) rfl ent19 rfl) h ?_)
        intro r93 w92 h
        refine ⟨hk_nil, ?_⟩
        refine rd_one (i := 35) (by kernel_rfl) <| po_wp rfl (.by_ 25 false 102 true rfl rfl rfl hb88) (wp_cl (d := (some 112)) rfl (q_call (k := 18) (l := [.pointer (r91), .pointer (r93), tSlc.enc (s89)]) rfl ent18 rfl) h ?_)
        intro r95 w94 h
        refine ⟨hk_nil, ?_⟩
        refine rd_pure (i := 36) (d := (some 113)) hD (by kernel_rfl) (by kernel_rfl) rfl (.by_ 25 false 102 true rfl rfl rfl hb88) rfl (fun _ => q_not (b := r95) rfl rfl) <| rp 37 114 hD rfl rfl rfl (fun _ => q_pickF (v := .bool ((!r95))) (b := true) rfl rfl hb88 rfl) <| rd_nil (by kernel_rfl) ?_
        exact ⟨((!r95)), _, arr (upd_step (upd_step (upd_step (upd_step (upd_step rfl rfl) rfl) rfl) rfl) rfl), h⟩
      ·refine rd_pure (i := 13) (d := (some 90)) hD (by kernel_rfl) (by kernel_rfl) rfl (.by_ 12 false 89 (r86 != r24) rfl rfl rfl hb87) rfl (fun _ => q_move (v := .pointer (r26.1)) rfl rfl) ?_
       obtain ⟨a96, ha96, h⟩ := h
       refine rd_pure (i := 14) (d := (some 91)) hD (by kernel_rfl) (by kernel_rfl) rfl (.by_ 12 false 89 (r86 != r24) rfl rfl rfl hb87) rfl (fun _ => q_nilCheck (a := a96) rfl (congrArg Value.pointer ha96)) <| rd_pure (i := 15) (d := (some 92)) hD (by kernel_rfl) (by kernel_rfl) rfl (.by_ 12 false 89 (r86 != r24) rfl rfl rfl hb87) rfl (fun _ => q_fieldAddr (a := a96) (off := 0) rfl Tryz.underlying46 rfl rfl ok43 (by decide) rfl) <| rd_pure (i := 18) (d := (some 95)) hD (by kernel_rfl) (by kernel_rfl) rfl (.by_ 12 false 89 (r86 != r24) rfl rfl rfl hb87) rfl (fun _ => q_move (v := .pointer (r7.1)) rfl rfl) <| rd_pure (i := 19) (d := (some 96)) hD (by kernel_rfl) (by kernel_rfl) rfl (.by_ 12 false 89 (r86 != r24) rfl rfl rfl hb87) rfl (fun _ => q_nilCheck (a := a19) rfl (congrArg Value.pointer ha19)) <| rd_pure (i := 20) (d := (some 97)) hD (by kernel_rfl) (by kernel_rfl) rfl (.by_ 12 false 89 (r86 != r24) rfl rfl rfl hb87) rfl (fun _ => q_fieldAddr (a := a19) (off := 0) rfl Tryz.underlying46 rfl rfl ok43 (by decide) rfl) ?_
       obtain ⟨x97, hx97, h⟩ := h
       refine rd_read (i := 16) (d := (some 93)) (fun W => (RdAt tPtr (a96.add 0) W) x97) hD (by kernel_rfl) (by kernel_rfl) rfl (.by_ 12 false 89 (r86 != r24) rfl rfl rfl hb87) rfl (fun W hr => q_load (T := tPtr) (u := x97) (a := (a96.add 0)) rfl ok43 rfl hr) hx97 ?_
       obtain ⟨x98, hx98, h⟩ := h
       refine rd_read (i := 21) (d := (some 98)) (fun W => (RdAt tPtr (a19.add 0) W) x98) hD (by kernel_rfl) (by kernel_rfl) rfl (.by_ 12 false 89 (r86 != r24) rfl rfl rfl hb87) rfl (fun W hr => q_load (T := tPtr) (u := x98) (a := (a19.add 0)) rfl ok43 rfl hr) hx98 <| rd_one (i := 17) (by kernel_rfl) <| po_wp rfl (.by_ 12 false 89 (r86 != r24) rfl rfl rfl hb87) (wp_cl (d := (some 94)) rfl (q_call (k := 21) (l := [.pointer (x97)]) rfl ent21 rfl) h ?_)
       intro r100 w99 h
       obtain ⟨hk101, h⟩ := h
       refine ⟨(hk_keep (fun _ => hk101) (hk_wait (by kernel_rfl) hk_nil)), ?_⟩
       refine rd_one (i := 22) (by kernel_rfl) <| po_wp rfl (.by_ 12 false 89 (r86 != r24) rfl rfl rfl hb87) (wp_cl (d := (some 99)) rfl (q_call (k := 21) (l := [.pointer (x98)]) rfl ent21 rfl) h ?_)
       intro r103 w102 h
       obtain ⟨hk104, h⟩ := h
       refine ⟨(hk_wait (by kernel_rfl) (hk_keep (fun _ => hk104) hk_nil)), ?_⟩
       refine rd_pure (i := 23) (d := (some 100)) hD (by kernel_rfl) (by kernel_rfl) rfl (.by_ 12 false 89 (r86 != r24) rfl rfl rfl hb87) rfl (fun _ => q_neq (a := r100) (b := r103) rfl rfl rfl) <| rp 24 101 hD rfl rfl rfl (fun _ => q_pickF (v := .bool ((r100 != r103))) (b := (r86 != r24)) rfl rfl hb87 rfl) <| ym 25 102 (.bool ((r100 != r103))) hD rfl rfl <| ro_if (b := (r100 != r103)) h (fun hb105 h => ?_) (fun hb105 h => ?_)
       ·refine yb 26 103 hD rfl (.by_ 25 false 102 (r100 != r103) rfl rfl rfl hb105) rfl <| yb 28 105 hD rfl (.by_ 25 false 102 (r100 != r103) rfl rfl rfl hb105) rfl <| yb 30 107 hD rfl (.by_ 25 false 102 (r100 != r103) rfl rfl rfl hb105) rfl <| yb 31 108 hD rfl (.by_ 25 false 102 (r100 != r103) rfl rfl rfl hb105) rfl <| yb 32 109 hD rfl (.by_ 25 false 102 (r100 != r103) rfl rfl rfl hb105) rfl <| yb 33 110 hD rfl (.by_ 25 false 102 (r100 != r103) rfl rfl rfl hb105) rfl <| yb 34 111 hD rfl (.by_ 25 false 102 (r100 != r103) rfl rfl rfl hb105) rfl <| rd_one (i := 27) (by kernel_rfl) <| po_bar (d := (some 104)) rfl (.by_ 25 false 102 (r100 != r103) rfl rfl rfl hb105) rfl ⟨fun _ _ _ h => h, ?_⟩
        refine rd_one (i := 29) (by kernel_rfl) <| po_bar (d := (some 106)) rfl (.by_ 25 false 102 (r100 != r103) rfl rfl rfl hb105) rfl ⟨fun _ _ _ h => h, ?_⟩
        refine rd_one (i := 35) (by kernel_rfl) <| po_bar (d := (some 112)) rfl (.by_ 25 false 102 (r100 != r103) rfl rfl rfl hb105) rfl ⟨fun _ _ _ h => h, ?_⟩
        refine yb 36 113 hD rfl (.by_ 25 false 102 (r100 != r103) rfl rfl rfl hb105) rfl <| rp 37 114 hD rfl rfl rfl (fun _ => q_pickT (v := .bool (true)) (b := (r100 != r103)) rfl rfl hb105 rfl) <| rd_nil (by kernel_rfl) ?_
        exact ⟨(true), _, arr (upd_step (upd_step (upd_step (upd_step (upd_step rfl rfl) rfl) rfl) rfl) rfl), h⟩
       ·refine rd_pure (i := 26) (d := (some 103)) hD (by kernel_rfl) (by kernel_rfl) rfl (.by_ 25 false 102 (r100 != r103) rfl rfl rfl hb105) rfl (fun _ => q_move (v := .pointer (r7.1)) rfl rfl) <| rd_pure (i := 28) (d := (some 105)) hD (by kernel_rfl) (by kernel_rfl) rfl (.by_ 25 false 102 (r100 != r103) rfl rfl rfl hb105) rfl (fun _ => q_move (v := .pointer (r26.1)) rfl rfl) <| rd_pure (i := 30) (d := (some 107)) hD (by kernel_rfl) (by kernel_rfl) rfl (.by_ 25 false 102 (r100 != r103) rfl rfl rfl hb105) rfl (fun _ => q_move (v := tSlc.enc (l_2)) rfl rfl) <| rd_pure (i := 31) (d := (some 108)) hD (by kernel_rfl) (by kernel_rfl) rfl (.by_ 25 false 102 (r100 != r103) rfl rfl rfl hb105) rfl (fun _ => q_move (v := tSlc.enc (l_2)) rfl rfl) <| rd_pure (i := 32) (d := (some 109)) hD (by kernel_rfl) (by kernel_rfl) rfl (.by_ 25 false 102 (r100 != r103) rfl rfl rfl hb105) rfl (fun _ => q_len (s := l_2) rfl Tryz.underlying32 rfl) <| rd_pure (i := 33) (d := (some 110)) hD (by kernel_rfl) (by kernel_rfl) rfl (.by_ 25 false 102 (r100 != r103) rfl rfl rfl hb105) rfl (fun _ => q_min (a := (l_2.len : Int)) (b := (30 : Int)) rfl rfl rfl) ?_
        obtain ⟨s106, hs106, h⟩ := h
        refine rd_pure (i := 34) (d := (some 111)) hD (by kernel_rfl) (by kernel_rfl) rfl (.by_ 25 false 102 (r100 != r103) rfl rfl rfl hb105) rfl (fun _ => q_sliceH (s := l_2) (h := (min (l_2.len : Int) (30 : Int))) rfl Tryz.underlying32 ok23 rfl rfl hs106) <| rd_one (i := 27) (by kernel_rfl) <| po_wp rfl (.by_ 25 false 102 (r100 != r103) rfl rfl rfl hb105) (wp_cl (d := (some 104)) rfl (q_call (k := 19) (l := [.pointer (r7.1)]) rfl ent19 rfl) h ?_)
        intro r108 w107 h
        obtain ⟨hk109, h⟩ := h
        obtain ⟨hk110, h⟩ := h
        refine ⟨(hk_keep (fun _ => hk110) (hk_keep (fun _ => hk109) hk_nil)), ?_⟩
        refine rd_one (i := 29) (by kernel_rfl) <| po_wp rfl (.by_ 25 false 102 (r100 != r103) rfl rfl rfl hb105) (wp_cl (d := (some 106)) rfl (q_call (k := 19) (l := [.pointer (r26.1)]) rfl ent19 rfl) h ?_)
        intro r112 w111 h
        obtain ⟨hk113, h⟩ := h
        obtain ⟨hk114, h⟩ := h
        refine ⟨(hk_keep (fun _ => hk114) (hk_keep (fun _ => hk113) hk_nil)), ?_⟩
        refine rd_one (i := 35) (by kernel_rfl) <| po_wp rfl (.by_ 25 false 102 (r100 != r103) rfl rfl rfl hb105) (wp_cl (d := (some 112)) rfl (q_call (k := 18) (l := [.pointer (r108), .pointer (r112), tSlc.enc (s106)]) rfl ent18 rfl) h ?_)
        intro r116 w115 h
        obtain ⟨hk117, h⟩ := h
        obtain ⟨hk118, h⟩ := h
        refine ⟨(hk_keep (fun _ => hk118) (hk_keep (fun _ => hk117) hk_nil)), ?_⟩
        refine rd_pure (i := 36) (d := (some 113)) hD (by kernel_rfl) (by kernel_rfl) rfl (.by_ 25 false 102 (r100 != r103) rfl rfl rfl hb105) rfl (fun _ => q_not (b := r116) rfl rfl) <| rp 37 114 hD rfl rfl rfl (fun _ => q_pickF (v := .bool ((!r116))) (b := (r100 != r103)) rfl rfl hb105 rfl) <| rd_nil (by kernel_rfl) ?_
        exact ⟨((!r116)), _, arr (upd_step (upd_step (upd_step (upd_step (upd_step rfl rfl) rfl) rfl) rfl) rfl), h⟩
end Go.Proofs.YtehclfjjjiiieaaGreat.Cf
