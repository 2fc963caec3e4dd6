/- Own texts of this claim, part 4: short, merged. -/
import Derived.Test.YtehclfjjjiiieaaGreatRows
import Derived.OpenShut
import Derived.ShutString
import Derived.ChangeOld
import Derived.Laws.Cover2
import Derived.Test.YtehclfjjjiiieaaGreatZ3
namespace Go.Proofs.YtehclfjjjiiieaaGreat.Num
open Go Go.Proofs.YtehclfjjjiiieaaGreat.Cf
set_option linter.unusedVariables false
set_option linter.unusedSimpArgs false
set_option maxRecDepth 100000
def feeF (n : Int) (f : Nat) : Int := if f < 4503599627370496 ∨ f = 9223372036854775808 then 0 else ((n.toNat * (4503599627370496 + f % 4503599627370496) / 2 ^ (1075 - f / 4503599627370496) : Nat) : Int)
theorem div52 (N k : Nat) (h : 52 ≤ k) : N / 2 ^ k ≤ N / 4503599627370496 := by
 have hp : (2 : Nat) ^ 52 = 4503599627370496 := by decide
 rw [← hp]
 exact Nat.div_le_div_left (Nat.pow_le_pow_right (by omega) h) (Nat.two_pow_pos _)
theorem feeF_le {n : Int} {f : Nat} (h0 : 0 ≤ n) (h1 : n ≤ 1000000000000000) (h : rateOk f) : 0 ≤ feeF n f ∧ feeF n f ≤ 2 * n := by
 unfold feeF
 split
 ·omega
 ·rename_i hc
  have hf : f ≤ 4607182418800017408 := by
   rcases h with h | h
   ·omega
   ·exact h
  have hd := div52 (n.toNat * (4503599627370496 + f % 4503599627370496)) (1075 - f / 4503599627370496) (by omega)
  have hm : n.toNat * (4503599627370496 + f % 4503599627370496) ≤ n.toNat * (2 * 4503599627370496) := Nat.mul_le_mul_left _ (by omega)
  refine ⟨Int.natCast_nonneg _, ?_⟩
  generalize n.toNat * (4503599627370496 + f % 4503599627370496) / 2 ^ (1075 - f / 4503599627370496) = Q at *
  generalize n.toNat * (4503599627370496 + f % 4503599627370496) = X at *
  omega
section
variable {W w : World} {l l' : List Assn}
theorem fdivN (x : Nat) (k : Nat) (hk : k ≤ 64) (b : Int) (hb : b = (k : Int)) : Int.fdiv (x : Int) (2 ^ (min b.toNat IntKind.u64.bits)) = ((x / 2 ^ k : Nat) : Int) := by
 subst hb
 have e : min ((k : Int)).toNat IntKind.u64.bits = k := by
  rw [Int.toNat_natCast]
  exact Nat.min_eq_left hk
 rw [e, Int.fdiv_eq_ediv_of_nonneg _ (Int.le_of_lt (Int.pow_pos (by omega)))]
 rw [Int.natCast_ediv]
 congr 1
theorem size_spec {n : Int} (h0 : 0 ≤ n) (h1 : n ≤ 9223372036854775807) (H : St W l w) : cl Tryz.prog 157 [.int .i64 n] (tInt .u64) w fun r w' => r = n ∧ St W l w' := by
 refine F157_ok ?_
 unfold F157
 rw [if_neg (by simp; omega)]
 exact ⟨wid_u64 n h0 (by omega), H⟩
theorem signed_spec {n : Int} (h0 : 0 ≤ n) (h1 : n < 9223372036854775808) (H : St W l w) : cl Tryz.prog 158 [.bool false, .int .u64 n] (tTup2 (tInt .i64) (tInt .i64)) w fun r w' => r = (n, 0) ∧ St W l w' := by
 refine F158_ok ?_
 unfold F158
 rw [if_neg (by simp), if_pos (by simp; omega), wrap_i64 (by omega) (by omega)]
 exact ⟨rfl, H⟩
theorem mul64_spec {x y : Nat} (hx : x < 18446744073709551616) (hy : y < 18446744073709551616) (H : St W l w) : cl Tryz.prog 156 [.int .u64 (x : Int), .int .u64 (y : Int)] (tTup2 (tInt .u64) (tInt .u64)) w fun r w' => r = (((x * y / 18446744073709551616 : Nat) : Int), ((x * y % 18446744073709551616 : Nat) : Int)) ∧ St W l w' := by
 refine F156_ok ?_
 unfold F156
 have p32 : (2 : Nat) ^ 32 = 4294967296 := by decide
 have m32 : ∀ z : Nat, z < 18446744073709551616 → bits .and .u64 (z : Int) 4294967295 = ((z % 4294967296 : Nat) : Int) := by
  intro z hz
  have := bits_mask .u64 64 (by decide) wid_u64 32 (by decide) (z : Int) (by omega) (by omega)
  rw [show (2 : Int) ^ 32 - 1 = 4294967295 from rfl] at this
  rw [this]
  omega
 have s32 : ∀ z : Nat, Int.fdiv (z : Int) (2 ^ (min ((32 : Int)).toNat IntKind.u64.bits)) = ((z / 4294967296 : Nat) : Int) := by
  intro z
  rw [fdivN z 32 (by omega) 32 rfl, p32]
 have wn : ∀ z : Nat, z < 18446744073709551616 → IntKind.u64.wrap (z : Int) = (z : Int) := fun z hz => wid_u64 _ (by omega) (by omega)
 rw [m32 x hx, m32 y hy]
 obtain ⟨x1, hx1⟩ : ∃ z, x / 4294967296 = z := ⟨_, rfl⟩
 obtain ⟨x0, hx0⟩ : ∃ z, x % 4294967296 = z := ⟨_, rfl⟩
 obtain ⟨y1, hy1⟩ : ∃ z, y / 4294967296 = z := ⟨_, rfl⟩
 obtain ⟨y0, hy0⟩ : ∃ z, y % 4294967296 = z := ⟨_, rfl⟩
 have bx1 : x1 ≤ 4294967295 := by omega
 have bx0 : x0 ≤ 4294967295 := by omega
 have by1 : y1 ≤ 4294967295 := by omega
 have by0 : y0 ≤ 4294967295 := by omega
 have hx2 : x = x1 * 4294967296 + x0 := by omega
 have hy2 : y = y1 * 4294967296 + y0 := by omega
 refine ex_i (x1 : Int) ⟨by omega, by rw [s32 x, hx1]⟩ ?_
 refine ex_i (y1 : Int) ⟨by omega, by rw [s32 y, hy1]⟩ ?_
 rw [hx0, hy0]
 have b00 : x0 * y0 ≤ 4294967295 * 4294967295 := Nat.mul_le_mul bx0 by0
 have b01 : x0 * y1 ≤ 4294967295 * 4294967295 := Nat.mul_le_mul bx0 by1
 have b10 : x1 * y0 ≤ 4294967295 * 4294967295 := Nat.mul_le_mul bx1 by0
 have b11 : x1 * y1 ≤ 4294967295 * 4294967295 := Nat.mul_le_mul bx1 by1
 have hxy : x * y = x1 * y1 * 18446744073709551616 + (x1 * y0 + x0 * y1) * 4294967296 + x0 * y0 := by
  rw [hx2, hy2, Nat.add_mul, Nat.mul_add, Nat.mul_add]
  have e1 : x1 * 4294967296 * (y1 * 4294967296) = x1 * y1 * 18446744073709551616 := by rw [Nat.mul_mul_mul_comm]
  have e2 : x1 * 4294967296 * y0 = x1 * y0 * 4294967296 := by rw [Nat.mul_assoc, Nat.mul_comm 4294967296, ← Nat.mul_assoc]
  have e3 : x0 * (y1 * 4294967296) = x0 * y1 * 4294967296 := by rw [Nat.mul_assoc]
  rw [e1, e2, e3, Nat.add_mul]
  omega
 have c00 : ((x0 : Int) * (y0 : Int)) = ((x0 * y0 : Nat) : Int) := by rw [Int.natCast_mul]
 have c01 : ((x0 : Int) * (y1 : Int)) = ((x0 * y1 : Nat) : Int) := by rw [Int.natCast_mul]
 have c10 : ((x1 : Int) * (y0 : Int)) = ((x1 * y0 : Nat) : Int) := by rw [Int.natCast_mul]
 have c11 : ((x1 : Int) * (y1 : Int)) = ((x1 * y1 : Nat) : Int) := by rw [Int.natCast_mul]
 have cxy : ((x : Int) * (y : Int)) = ((x * y : Nat) : Int) := by rw [Int.natCast_mul]
 rw [c00, c01, c10, c11, cxy]
 generalize x0 * y0 = d at *
 generalize x0 * y1 = c at *
 generalize x1 * y0 = b at *
 generalize x1 * y1 = a at *
 generalize x * y = N at *
 rw [wn d (by omega), wn b (by omega), wn c (by omega), wn a (by omega)]
 refine ex_i ((d / 4294967296 : Nat) : Int) ⟨by omega, (s32 d).symm⟩ ?_
 have e1 : (b : Int) + ((d / 4294967296 : Nat) : Int) = ((b + d / 4294967296 : Nat) : Int) := by omega
 rw [e1, wn _ (by omega), m32 _ (by omega)]
 refine ex_i (((b + d / 4294967296) / 4294967296 : Nat) : Int) ⟨by omega, (s32 _).symm⟩ ?_
 have e2 : (((b + d / 4294967296) % 4294967296 : Nat) : Int) + (c : Int) = (((b + d / 4294967296) % 4294967296 + c : Nat) : Int) := by omega
 rw [e2, wn _ (by omega)]
 refine ex_i ((((b + d / 4294967296) % 4294967296 + c) / 4294967296 : Nat) : Int) ⟨by omega, (s32 _).symm⟩ ?_
 have e3 : (a : Int) + (((b + d / 4294967296) / 4294967296 : Nat) : Int) = ((a + (b + d / 4294967296) / 4294967296 : Nat) : Int) := by omega
 rw [e3, wn _ (by omega)]
 have e4 : ((a + (b + d / 4294967296) / 4294967296 : Nat) : Int) + ((((b + d / 4294967296) % 4294967296 + c) / 4294967296 : Nat) : Int) = ((a + (b + d / 4294967296) / 4294967296 + ((b + d / 4294967296) % 4294967296 + c) / 4294967296 : Nat) : Int) := by omega
 rw [e4, wn _ (by omega)]
 have e5 : IntKind.u64.wrap (N : Int) = ((N % 18446744073709551616 : Nat) : Int) := by rw [wr_u64]; omega
 rw [e5]
 refine ⟨?_, H⟩
 have e6 : a + (b + d / 4294967296) / 4294967296 + ((b + d / 4294967296) % 4294967296 + c) / 4294967296 = N / 18446744073709551616 := by omega
 rw [e6]
theorem down_spec {N k : Nat} (hN : N < 2 ^ 104) (hk : 52 ≤ k) (hk2 : k ≤ 4000) (H : St W l w) : cl Tryz.prog 159 [.int .u64 ((N / 18446744073709551616 : Nat) : Int), .int .u64 ((N % 18446744073709551616 : Nat) : Int), .int .u64 (k : Int)] (tTup3 (tInt .u64) tBool tBool) w fun r w' => r.1 = ((N / 2 ^ k : Nat) : Int) ∧ r.2.2 = true ∧ St W l w' := by
 have p64 : (2 : Nat) ^ 64 = 18446744073709551616 := by decide
 have p104 : (2 : Nat) ^ 104 = 18446744073709551616 * 1099511627776 := by decide
 refine F159_ok ?_
 unfold F159
 by_cases c1 : 128 ≤ k
 ·rw [if_pos (by simp; omega)]
  have : N / 2 ^ k = 0 := Nat.div_eq_of_lt (Nat.lt_of_lt_of_le hN (Nat.pow_le_pow_right (by omega) (by omega)))
  rw [this]
  exact ⟨rfl, rfl, H⟩
 ·rw [if_neg (by simp; omega)]
  by_cases c2 : 64 < k
  ·rw [if_pos (by simp; omega)]
   have w1 : IntKind.u64.wrap ((k : Int) - 64) = ((k - 64 : Nat) : Int) := by rw [wid_u64 _ (by omega) (by omega)]; omega
   have w2 : IntKind.u64.wrap ((128 : Int) - (k : Int)) = ((128 - k : Nat) : Int) := by rw [wid_u64 _ (by omega) (by omega)]; omega
   rw [w1, w2]
   refine ex_i _ ⟨by omega, (fdivN (N / 18446744073709551616) (k - 64) (by omega) _ rfl).symm⟩ ?_
   refine ex_i _ ⟨by omega, rfl⟩ ?_
   refine ⟨?_, rfl, H⟩
   have : 2 ^ k = 18446744073709551616 * 2 ^ (k - 64) := by rw [← p64, ← Nat.pow_add]; congr 1; omega
   simp only
   rw [this, Nat.div_div_eq_div_mul]
  ·rw [if_neg (by simp; omega)]
   by_cases c3 : k = 64
   ·subst c3
    rw [if_pos (by simp)]
    exact ⟨by rw [p64], rfl, H⟩
   ·rw [if_neg (by simp; omega)]
    have w1 : IntKind.u64.wrap ((64 : Int) - (k : Int)) = ((64 - k : Nat) : Int) := by rw [wid_u64 _ (by omega) (by omega)]; omega
    rw [w1]
    obtain ⟨j, hj⟩ : ∃ j, j + k = 64 := ⟨64 - k, by omega⟩
    have hjk : 64 - k = j := by omega
    rw [hjk]
    have hpj : (2 : Nat) ^ j * 2 ^ k = 18446744073709551616 := by rw [← Nat.pow_add, hj, p64]
    have hk52 : 4503599627370496 ≤ 2 ^ k := by
     have : (2 : Nat) ^ 52 = 4503599627370496 := by decide
     rw [← this]
     exact Nat.pow_le_pow_right (by omega) hk
    have hj12 : 2 ^ j ≤ 4096 := by
     have : (2 : Nat) ^ 12 = 4096 := by decide
     rw [← this]
     exact Nat.pow_le_pow_right (by omega) (by omega)
    have hhi : N / 18446744073709551616 < 1099511627776 := by
     rw [p104] at hN
     exact Nat.div_lt_of_lt_mul hN
    have hlo : N % 18446744073709551616 < 18446744073709551616 := Nat.mod_lt _ (by omega)
    have hNN : N = N / 18446744073709551616 * 18446744073709551616 + N % 18446744073709551616 := by omega
    have hdiv : N / 2 ^ k = N / 18446744073709551616 * 2 ^ j + N % 18446744073709551616 / 2 ^ k := by
     conv => lhs; rw [hNN, ← hpj, ← Nat.mul_assoc]
     rw [hpj, Nat.add_comm, Nat.add_mul_div_right _ _ (Nat.two_pow_pos k), Nat.add_comm]
    generalize N / 18446744073709551616 = hi at *
    generalize N % 18446744073709551616 = lo at *
    have hlk : lo / 2 ^ k < 2 ^ j := Nat.div_lt_of_lt_mul (by rw [Nat.mul_comm, hpj]; exact hlo)
    have hij : hi * 2 ^ j ≤ 1099511627776 * 4096 := Nat.mul_le_mul (by omega) hj12
    refine ex_i _ ⟨by omega, (fdivN lo k (by omega) _ rfl).symm⟩ ?_
    have e1 : IntKind.u64.wrap ((hi : Int) * 2 ^ (min ((j : Int)).toNat IntKind.u64.bits)) = ((hi * 2 ^ j : Nat) : Int) := by
     have : min ((j : Int)).toNat IntKind.u64.bits = j := by
      rw [Int.toNat_natCast]
      exact Nat.min_eq_left (by show j ≤ 64; omega)
     rw [this]
     have c : (hi : Int) * 2 ^ j = ((hi * 2 ^ j : Nat) : Int) := by rw [Int.natCast_mul]; congr 1
     rw [c]
     exact wid_u64 _ (by omega) (by omega)
    refine ex_i _ ⟨by omega, rfl⟩ ?_
    rw [e1]
    refine ex_i _ ⟨by omega, rfl⟩ ?_
    refine ex_i _ ⟨by omega, (fdivN hi k (by omega) _ rfl).symm⟩ ?_
    have h0 : hi / 2 ^ k = 0 := Nat.div_eq_of_lt (by omega)
    rw [h0]
    refine ⟨?_, rfl, H⟩
    simp only
    rw [hdiv]
    have hor := (bits_nat .u64 64 (by decide) wid_u64 (lo / 2 ^ k) (hi * 2 ^ j) (by omega) (by omega)).2
    rw [hor, Nat.or_comm, Nat.mul_comm hi, ← Nat.two_pow_add_eq_or_of_lt hlk]
theorem mfrexp_spec {f : Nat} {K : Nat × Int → World → Prop} (h : cl Tryz.prog 167 [.float .f64 f] (tTup2 tFlt (tInt .i64)) w K) : cl Tryz.prog 154 [.float .f64 f] (tTup2 tFlt (tInt .i64)) w K := by
 refine F154_ok ?_
 unfold F154
 exact h
theorem mldexp_spec {f : Nat} {e : Int} {K : Nat → World → Prop} (h : cl Tryz.prog 169 [.float .f64 f, .int .i64 e] tFlt w K) : cl Tryz.prog 155 [.float .f64 f, .int .i64 e] tFlt w K := by
 refine F155_ok ?_
 unfold F155
 exact h
theorem times_spec {n : Int} {f : Nat} (h0 : 0 ≤ n) (h1 : n ≤ 1000000000000000) (hf : rateOk f) (H : St W l w) : cl Tryz.prog 139 [.int .i64 n, .float .f64 f] (tTup2 (tInt .i64) (tInt .i64)) w fun r w' => r = (feeF n f, 0) ∧ St W l w' := by
 have hf64 : f < 18446744073709551616 := by rcases hf with h | h <;> omega
 obtain ⟨k, rfl⟩ : ∃ k : Nat, n = (k : Int) := ⟨n.toNat, by omega⟩
 refine F139_ok ?_
 unfold F139
 refine cl_mono (class_spec hf64 H) ?_
 rintro c w ⟨hc, _, _, H⟩
 have hc := hc hf
 rw [if_neg (by simp; omega), if_neg (by simp; omega)]
 have e6 : (c == 6) = false := by rw [beq_eq_false_iff_ne]; omega
 rw [e6]
 unfold F139_j1
 rw [if_neg (by simp)]
 by_cases hz : f = 0 ∨ f = 9223372036854775808
 ·refine mfrexp_spec (cl_mono (frexp0_spec hz H) ?_)
  rintro r w ⟨rfl, H⟩
  refine mldexp_spec (cl_mono (ldexp0_spec (e := 53) hz H) ?_)
  rintro r w ⟨rfl, H⟩
  refine ex_i 0 (by rcases hz with h | h <;> subst h; exact to_int0.1; exact to_int0.2) ?_
  refine cl_mono (size_spec h0 (by omega) H) ?_
  rintro r w ⟨rfl, H⟩
  refine cl_mono (size_spec (n := 0) (by omega) (by omega) H) ?_
  rintro r w ⟨rfl, H⟩
  refine cl_mono (mul64_spec (x := k) (y := 0) (by omega) (by omega) H) ?_
  rintro r w ⟨rfl, H⟩
  rw [if_pos (by simp)]
  have : feeF k r = 0 := by
   unfold feeF
   rw [if_pos (by omega)]
  rw [this]
  exact ⟨rfl, H⟩
 ·have hle : 0 < f ∧ f ≤ 4607182418800017408 := by rcases hf with h | h <;> omega
  refine mfrexp_spec (cl_mono (frexp_spec hle.1 hle.2 H) ?_)
  rintro r w ⟨⟨F, e, rfl, hF, hn, hs⟩, H⟩
  refine mldexp_spec (cl_mono (ldexp_spec hF H) ?_)
  rintro r w ⟨rfl, H⟩
  refine ex_i _ (to_int hF) ?_
  refine cl_mono (size_spec h0 (by omega) H) ?_
  rintro r w ⟨rfl, H⟩
  refine cl_mono (size_spec (n := ((4503599627370496 + F : Nat) : Int)) (by omega) (by omega) H) ?_
  rintro r w ⟨rfl, H⟩
  refine cl_mono (mul64_spec (x := k) (y := 4503599627370496 + F) (by omega) (by omega) H) ?_
  rintro r w ⟨rfl, H⟩
  have hX : k * (4503599627370496 + F) ≤ 1000000000000000 * 9007199254740992 := Nat.mul_le_mul (by omega) (by omega)
  have p104 : (2 : Nat) ^ 104 = 18446744073709551616 * 1099511627776 := by decide
  have he : e ≤ 1 ∧ -1100 ≤ e ∧ (f < 4503599627370496 → e ≤ -1000) := by
   by_cases c : f < 4503599627370496
   ·have := hs c
    omega
   ·have := (hn (by omega)).2
    omega
  have w1 : IntKind.i64.wrap (e - 53) = e - 53 := wrap_i64 (by omega) (by omega)
  have w2 : IntKind.u64.wrap (IntKind.i64.wrap (0 - (e - 53))) = ((53 - e).toNat : Nat) := by rw [wrap_i64 (by omega) (by omega), wid_u64 _ (by omega) (by omega)]; omega
  dsimp only
  rw [w1, w2]
  have hfee : feeF k f = ((k * (4503599627370496 + F) / 2 ^ (53 - e).toNat : Nat) : Int) := by
   unfold feeF
   by_cases c : f < 4503599627370496
   ·rw [if_pos (.inl c)]
    have hk : 104 ≤ (53 - e).toNat := by have := he.2.2 c; omega
    have hp : 2 ^ 104 ≤ 2 ^ (53 - e).toNat := Nat.pow_le_pow_right (by omega) hk
    rw [Nat.div_eq_of_lt (Nat.lt_of_lt_of_le (by rw [p104]; omega) hp)]
    rfl
   ·rw [if_neg (by omega)]
    obtain ⟨a, b⟩ := hn (by omega)
    have : (53 - e).toNat = 1075 - f / 4503599627370496 := by omega
    rw [this, Int.toNat_natCast, a]
  rw [hfee]
  have hq := div52 (k * (4503599627370496 + F)) (53 - e).toNat (by omega)
  by_cases hx : k * (4503599627370496 + F) = 0
  ·rw [if_pos (by rw [hx]; simp), hx]
   exact ⟨by simp, H⟩
  ·generalize k * (4503599627370496 + F) = X at *
   rw [if_neg (by simp; omega), if_neg (by simp; omega)]
   refine cl_mono (down_spec (N := X) (k := (53 - e).toNat) (by rw [p104]; omega) (by omega) (by omega) H) ?_
   rintro ⟨q, rest, fits⟩ w ⟨h1, h2, H⟩
   simp only at h1 h2
   subst h1; subst h2
   have e1 : decide ((k : Int) < 0) = false := by simp
   have e2 : decide (((4503599627370496 + F : Nat) : Int) < 0) = false := by rw [decide_eq_false_iff_not]; omega
   rw [e1, e2]
   rw [if_neg (by simp), if_neg (by simp)]
   unfold F139_j3
   rw [e1, e2]
   generalize X / 2 ^ (53 - e).toNat = Q at *
   refine cl_mono (signed_spec (n := ((Q : Nat) : Int)) (by omega) (by omega) H) ?_
   rintro r w ⟨rfl, H⟩
   exact ⟨rfl, H⟩
theorem fee_spec {n : Int} {f : Nat} (h0 : 0 ≤ n) (h1 : n ≤ 1000000000000000) (hf : rateOk f) (H : St W l w) : cl Tryz.prog 123 [.int .i64 n, .float .f64 f] (tTup2 (tInt .i64) (tInt .i64)) w fun r w' => r = (feeF n f, 0) ∧ St W l w' := by
 have hf64 : f < 18446744073709551616 := by rcases hf with h | h <;> omega
 refine F123_ok ?_
 unfold F123
 refine cl_mono (check_spec H) ?_
 rintro r w ⟨rfl, H⟩
 rw [if_pos (⟨h0, h1⟩ : 0 ≤ n ∧ n ≤ 1000000000000000), if_neg (by simp)]
 refine cl_mono (rate_spec hf64 H) ?_
 rintro r w ⟨h2, _, H⟩
 have := h2.2 hf
 subst this
 rw [if_neg (by simp)]
 refine cl_mono (times_spec h0 h1 hf H) ?_
 rintro r w ⟨rfl, H⟩
 exact ⟨rfl, H⟩
def okAm (n : Int) : Prop := 0 ≤ n ∧ n ≤ 1000000000000000
theorem total_spec {a b : Int} {s : Slc} (k : See 1 l (tInt .i64) s [a, b]) (H : St W l w) : cl Tryz.prog 138 [tSlc.enc s] (tTup2 (tInt .i64) (tInt .i64)) w fun r w' => (r.2 = 0 ↔ okAm a ∧ okAm b ∧ a + b ≤ 1000000000000000) ∧ (r.2 = 0 → r.1 = a + b) ∧ St W l w' := by
 have hs := k.len H
 simp only [List.length_cons, List.length_nil] at hs
 refine F138_ok ?_
 unfold F138
 refine lp_p (fun p w => (p = (0, 0) ∨ (okAm a ∧ p = (a, 1)) ∨ (okAm a ∧ okAm b ∧ p = (a + b, 2))) ∧ St W l w) (fun p => (2 - p.2).toNat) ⟨.inl rfl, H⟩ ?_
 clear H
 rintro ⟨sum, i⟩ w ⟨hi, H⟩ K hK
 unfold F138_l1 F138_j2
 simp only
 rw [hs]
 have step : ∀ (x : Int) (j : Nat), i = (j : Int) → j < 2 → ([a, b] : List Int)[j]? = some x → sum ≤ 1000000000000000 → (okAm x → ((sum + x, i + 1) = (0, 0) ∨ (okAm a ∧ (sum + x, i + 1) = (a, 1)) ∨ (okAm a ∧ okAm b ∧ (sum + x, i + 1) = (a + b, 2))) ∧ -1000000000000000000 ≤ sum) → (¬ okAm x → ¬ (okAm a ∧ okAm b ∧ a + b ≤ 1000000000000000)) →
   if decide (i < ((0 + 1 + 1 : Nat) : Int)) = true then
    ex (IxA s 1 i) fun a8 => ex (RdAt (tInt .i64) a8 w) fun x9 => cl Tryz.prog 54 [.int .i64 (x9)] (tInt .i64) w fun r11 w10 =>
     if (r11 != (0 : Int)) = true then (((0 : Int), (40 : Int)).2 = 0 ↔ okAm a ∧ okAm b ∧ a + b ≤ 1000000000000000) ∧ (((0 : Int), (40 : Int)).2 = 0 → ((0 : Int), (40 : Int)).1 = a + b) ∧ St W l w10
     else if (decide (sum ≤ (1000000000000000 : Int))) = true then K (IntKind.i64.wrap (sum + x9), IntKind.i64.wrap (i + (1 : Int))) w10 else K (sum, IntKind.i64.wrap (i + (1 : Int))) w10
   else cl Tryz.prog 54 [.int .i64 sum] (tInt .i64) w fun r15 w14 => if (r15 != (0 : Int)) = true then (((0 : Int), (40 : Int)).2 = 0 ↔ okAm a ∧ okAm b ∧ a + b ≤ 1000000000000000) ∧ (((0 : Int), (40 : Int)).2 = 0 → ((0 : Int), (40 : Int)).1 = a + b) ∧ St W l w14 else ((sum, (0 : Int)).2 = 0 ↔ okAm a ∧ okAm b ∧ a + b ≤ 1000000000000000) ∧ ((sum, (0 : Int)).2 = 0 → (sum, (0 : Int)).1 = a + b) ∧ St W l w14 := by
  intro x j hij hj hx hsum ok no
  rw [if_pos (by simp; omega)]
  obtain ⟨c, hc⟩ := k.ix (i := i) H (by omega) (by simp; omega)
  refine ex_i c hc ?_
  refine ex_i x (k.rd hc (by rw [hij, Int.toNat_natCast]; exact hx) H) ?_
  refine cl_mono (check_spec H) ?_
  rintro r w ⟨rfl, H⟩
  by_cases hok : 0 ≤ x ∧ x ≤ 1000000000000000
  ·rw [if_pos hok, if_neg (by simp), if_pos (by simpa using hsum)]
   obtain ⟨h1, h2⟩ := ok hok
   rw [wrap_i64 (x := sum + x) (by omega) (by omega), wrap_i64 (x := i + 1) (by omega) (by omega)]
   exact hK _ _ ⟨h1, H⟩ (by simp only; omega)
  ·rw [if_neg hok, if_pos (by simp)]
   exact ⟨⟨fun h => by simp at h, fun h => absurd h (no hok)⟩, fun h => by simp at h, H⟩
 rcases hi with hi | ⟨ha, hi⟩ | ⟨ha, hb, hi⟩
 ·cases hi
  exact step a 0 rfl (by omega) rfl (by omega) (fun h => ⟨.inr (.inl ⟨h, by simp⟩), by omega⟩) fun h hh => h hh.1
 ·cases hi
  exact step b 1 rfl (by omega) rfl ha.2 (fun h => ⟨.inr (.inr ⟨ha, h, by trivial⟩), by have := ha.1; omega⟩) fun h hh => h hh.2.1
 ·cases hi
  rw [if_neg (by simp)]
  refine cl_mono (check_spec H) ?_
  rintro r w ⟨rfl, H⟩
  have h1 := ha.1
  have h2 := hb.1
  by_cases hok : a + b ≤ 1000000000000000
  ·have e : (if 0 ≤ a + b ∧ a + b ≤ 1000000000000000 then (0 : Int) else 40) = 0 := if_pos ⟨by omega, hok⟩
   rw [e, if_neg (by simp)]
   exact ⟨⟨fun _ => ⟨ha, hb, hok⟩, fun _ => by trivial⟩, fun _ => rfl, H⟩
  ·have e : (if 0 ≤ a + b ∧ a + b ≤ 1000000000000000 then (0 : Int) else 40) = 40 := if_neg (fun h => hok h.2)
   rw [e, if_pos (by simp)]
   exact ⟨⟨fun h => by simp at h, fun h => absurd h.2.2 hok⟩, fun h => by simp at h, H⟩
theorem add_spec {a b : Int} (H : St W l w) : cl Tryz.prog 122 [.int .i64 a, .int .i64 b] (tTup2 (tInt .i64) (tInt .i64)) w fun r w' => (r.2 = 0 ↔ okAm a ∧ okAm b ∧ a + b ≤ 1000000000000000) ∧ (r.2 = 0 → r.1 = a + b) ∧ St W l w' := by
 refine F122_ok ?_
 unfold F122
 refine nwS_st H fun b3 w H => ?_
 have H := row_new (sz := 1) (m := 2) rfl H
 refine cl_mono (total_spec (a := a) (b := b) (See.row (fun _ => rfl) 0 rfl) H) ?_
 rintro r w ⟨h1, h2, H⟩
 exact ⟨h1, h2, H.drop⟩
end
end Go.Proofs.YtehclfjjjiiieaaGreat.Num
namespace Go.Proofs.YtehclfjjjiiieaaGreat.Disk
open Go Go.Proofs.YtehclfjjjiiieaaGreat.Cf Go.Proofs.YtehclfjjjiiieaaGreat.Wire
set_option linter.unusedVariables false
set_option linter.unusedSimpArgs false
set_option maxRecDepth 100000
def turn (c : Int) : Int := bits .xor .u32 (Int.fdiv c (2 ^ (min ((1 : Int)).toNat IntKind.u32.bits))) (bits .and .u32 (IntKind.u32.wrap (0 - (bits .and .u32 c (1 : Int)))) (3988292384 : Int))
def turns : Nat → Int → Int
 | 0, c => c
 | n + 1, c => turns n (turn c)
def onn (c : Int) : List UInt8 → Int
 | [] => c
 | x :: xs => onn (turns 8 (bits .xor .u32 c (IntKind.u32.wrap (x.toNat : Int)))) xs
def sum2 (a b : List UInt8) : Int := bits .xor .u32 IntKind.u32.max (onn (onn 4294967295 a) b)
def summ (a b : List UInt8) : Nat := (sum2 a b).toNat
theorem bits_u32 (op : BinOp) (a b : Int) : 0 ≤ bits op .u32 a b ∧ bits op .u32 a b < 4294967296 := by
 have h : ∀ n : Int, 0 ≤ IntKind.u32.wrap n ∧ IntKind.u32.wrap n < 4294967296 := by
  intro n
  have : IntKind.u32.wrap n = n % 4294967296 := by simp [IntKind.wrap, IntKind.bits, IntKind.signed]
  rw [this]; omega
 exact h _
theorem turns_u32 : ∀ (n : Nat) (c : Int), 0 ≤ c → c < 4294967296 → 0 ≤ turns n c ∧ turns n c < 4294967296
 | 0, c, h0, h1 => ⟨h0, h1⟩
 | n + 1, c, _, _ => turns_u32 n (turn c) (bits_u32 _ _ _).1 (bits_u32 _ _ _).2
theorem onn_u32 : ∀ (bs : List UInt8) (c : Int), 0 ≤ c → c < 4294967296 → 0 ≤ onn c bs ∧ onn c bs < 4294967296
 | [], c, h0, h1 => ⟨h0, h1⟩
 | x :: xs, c, h0, h1 => by
  have h := turns_u32 8 (bits .xor .u32 c (IntKind.u32.wrap (x.toNat : Int))) (bits_u32 _ _ _).1 (bits_u32 _ _ _).2
  exact onn_u32 xs _ h.1 h.2
theorem summ_cast (a b : List UInt8) : ((summ a b : Nat) : Int) = sum2 a b := by
 have := (bits_u32 .xor IntKind.u32.max (onn (onn 4294967295 a) b)).1
 unfold summ
 exact Int.toNat_of_nonneg this
theorem summ_lt (a b : List UInt8) : summ a b < 4294967296 := by
 have := (bits_u32 .xor IntKind.u32.max (onn (onn 4294967295 a) b)).2
 have h := summ_cast a b
 unfold sum2 at h
 omega
def frm (x : List UInt8) : List UInt8 := be 4 x.length ++ (be 4 (summ (be 4 x.length) x) ++ x)
def frms (l : List (List UInt8)) : List UInt8 := l.flatMap frm
theorem frm_len (x : List UInt8) : (frm x).length = 8 + x.length := by simp [frm, be_len]; omega
theorem frms_app (l m : List (List UInt8)) : frms (l ++ m) = frms l ++ frms m := by simp [frms]
def rd4 : List UInt8 → Nat
 | a :: b :: c :: d :: _ => ((a.toNat * 256 + b.toNat) * 256 + c.toNat) * 256 + d.toNat
 | _ => 0
theorem rd4_be {n : Nat} (h : n < 4294967296) (rest : List UInt8) : rd4 (be 4 n ++ rest) = n := by
 have h0 : (UInt8.ofNat (n / 256 ^ 3 % 256)).toNat = n / 16777216 % 256 := by rw [u8_toNat (by omega)]
 have h1 : (UInt8.ofNat (n / 256 ^ 2 % 256)).toNat = n / 65536 % 256 := by rw [u8_toNat (by omega)]
 have h2 : (UInt8.ofNat (n / 256 ^ 1 % 256)).toNat = n / 256 % 256 := by rw [u8_toNat (by omega)]
 have h3 : (UInt8.ofNat (n / 256 ^ 0 % 256)).toNat = n % 256 := by rw [u8_toNat (by omega)]; simp
 simp only [be, List.cons_append, rd4, h0, h1, h2, h3]
 omega
def opn (bs : List UInt8) : Except Int (List UInt8 × Nat) :=
 if bs.length < 8 then .error 31 else if 65536 < rd4 bs then .error 30 else if bs.length - 8 < rd4 bs then .error 31
 else if summ (bs.take 4) ((bs.drop 8).take (rd4 bs)) ≠ rd4 (bs.drop 4) then .error 32 else .ok ((bs.drop 8).take (rd4 bs), 8 + rd4 bs)
theorem opn_frm {x : List UInt8} (h : x.length ≤ 65536) (rest : List UInt8) : opn (frm x ++ rest) = .ok (x, 8 + x.length) := by
 have e : frm x ++ rest = be 4 x.length ++ (be 4 (summ (be 4 x.length) x) ++ (x ++ rest)) := by simp [frm]
 have r1 : rd4 (frm x ++ rest) = x.length := by rw [e]; exact rd4_be (by omega) _
 have d4 : (frm x ++ rest).drop 4 = be 4 (summ (be 4 x.length) x) ++ (x ++ rest) := by
  rw [e]; exact List.drop_left' (be_len 4 _)
 have t4 : (frm x ++ rest).take 4 = be 4 x.length := by rw [e]; exact List.take_left' (be_len 4 _)
 have d8 : (frm x ++ rest).drop 8 = x ++ rest := by
  have : (frm x ++ rest).drop 8 = ((frm x ++ rest).drop 4).drop 4 := by rw [List.drop_drop]
  rw [this, d4]; exact List.drop_left' (be_len 4 _)
 have hl : (frm x ++ rest).length = 8 + x.length + rest.length := by rw [List.length_append, frm_len]
 unfold opn
 rw [r1, d4, t4, d8, rd4_be (summ_lt _ _), hl, List.take_left]
 rw [if_neg (by omega), if_neg (by omega), if_neg (by omega), if_neg (by simp)]
theorem opn_cut {x p q : List UInt8} (h : x.length ≤ 65536) (he : frm x = p ++ q) (hq : q ≠ []) : ∃ e, opn p = .error e := by
 have hl := congrArg List.length he
 rw [frm_len, List.length_append] at hl
 have hq0 : q.length ≠ 0 := fun e => hq (List.eq_nil_of_length_eq_zero e)
 unfold opn
 by_cases c : p.length < 8
 ·exact ⟨31, if_pos c⟩
 ·have ht : p.take 4 = be 4 x.length := by
   have := congrArg (List.take 4) he
   rw [List.take_append_of_le_length (by omega)] at this
   rw [← this, frm]; exact List.take_left' (be_len 4 _)
  have hp : p = be 4 x.length ++ p.drop 4 := by rw [← ht, List.take_append_drop]
  have r1 : rd4 p = x.length := by rw [hp]; exact rd4_be (by omega) _
  rw [r1, if_neg c, if_neg (by omega), if_pos (by omega)]
  exact ⟨31, rfl⟩
theorem opn_ok {bs x : List UInt8} {n : Nat} (h : opn bs = .ok (x, n)) : n ≤ bs.length ∧ 8 ≤ n ∧ n = 8 + x.length ∧ x.length ≤ 65536 := by
 unfold opn at h
 split at h
 ·cases h
 ·split at h
  ·cases h
  ·split at h
   ·cases h
   ·split at h
    ·cases h
    ·simp only [Except.ok.injEq, Prod.mk.injEq] at h
     obtain ⟨h1, h2⟩ := h
     have : x.length = rd4 bs := by rw [← h1, List.length_take, List.length_drop]; omega
     omega
def scanF : Nat → List UInt8 → List (List UInt8) → Nat → List (List UInt8) × Nat
 | 0, _, l, a => (l, a)
 | f + 1, bs, l, a => match opn bs with
  | .error _ => (l, a)
  | .ok (x, n) => scanF f (bs.drop n) (l ++ [x]) (a + n)
def scan (bs : List UInt8) : List (List UInt8) × Nat := scanF (bs.length + 1) bs [] 0
def Small (l : List (List UInt8)) : Prop := ∀ x ∈ l, x.length ≤ 65536
theorem scanF_frms : ∀ {l : List (List UInt8)} {f a : Nat} {p : List UInt8} {m : List (List UInt8)}, Small l → (∃ e, opn p = .error e) → l.length < f → scanF f (frms l ++ p) m a = (m ++ l, a + (frms l).length)
 | [], f, a, p, m, _, ⟨e, he⟩, hf => by
  obtain ⟨g, rfl⟩ : ∃ g, f = g + 1 := ⟨f - 1, by simp at hf; omega⟩
  simp [frms, scanF, he]
 | x :: l, f, a, p, m, hs, hp, hf => by
  obtain ⟨g, rfl⟩ : ∃ g, f = g + 1 := ⟨f - 1, by simp at hf; omega⟩
  have hx : x.length ≤ 65536 := hs x (by simp)
  have e : frms (x :: l) ++ p = frm x ++ (frms l ++ p) := by simp [frms]
  simp only [scanF]
  rw [e, opn_frm hx]
  simp only
  rw [show (frm x ++ (frms l ++ p)).drop (8 + x.length) = frms l ++ p from List.drop_left' (frm_len x)]
  rw [scanF_frms (fun y hy => hs y (by simp [hy])) hp (by simp at hf; omega)]
  have e2 : (frms (x :: l)).length = 8 + x.length + (frms l).length := by
   have : frms (x :: l) = frm x ++ frms l := by simp [frms]
   rw [this, List.length_append, frm_len]
  rw [e2]
  simp; omega
theorem frms_ge : ∀ l : List (List UInt8), l.length ≤ (frms l).length
 | [] => by simp
 | x :: l => by
  have := frms_ge l
  have e : frms (x :: l) = frm x ++ frms l := by simp [frms]
  rw [e, List.length_append, frm_len]
  simp; omega
theorem scan_frms {l : List (List UInt8)} {p : List UInt8} (hs : Small l) (hp : ∃ e, opn p = .error e) : scan (frms l ++ p) = (l, (frms l).length) := by
 unfold scan
 rw [scanF_frms hs hp (by have := frms_ge l; rw [List.length_append]; omega)]
 simp
theorem frms_cut : ∀ (l : List (List UInt8)) (n : Nat), Small l → n ≤ (frms l).length → ∃ i p, i ≤ l.length ∧ (frms l).take n = frms (l.take i) ++ p ∧ (∃ e, opn p = .error e) ∧ ∀ k, (frms (l.take k)).length ≤ n → k ≤ l.length → k ≤ i
 | [], n, _, h => ⟨0, [], by simp, by simp [frms], ⟨31, rfl⟩, fun k _ h => by simpa using h⟩
 | x :: l, n, hs, h => by
  have e : frms (x :: l) = frm x ++ frms l := by simp [frms]
  have hx : x.length ≤ 65536 := hs x (by simp)
  rw [e, List.length_append] at h
  rw [e]
  by_cases c : n < (frm x).length
  ·refine ⟨0, (frm x).take n, by simp, ?_, ?_, ?_⟩
   ·rw [List.take_append_of_le_length (by omega)]; simp [frms]
   ·refine opn_cut hx (List.take_append_drop n _).symm ?_
    intro h0
    have := congrArg List.length h0
    rw [List.length_drop] at this
    simp at this; omega
   ·intro k hk hkl
    cases k with
    | zero => omega
    | succ k =>
     have e2 : frms ((x :: l).take (k + 1)) = frm x ++ frms (l.take k) := by simp [frms]
     rw [e2, List.length_append] at hk
     omega
  ·obtain ⟨i, p, h1, h2, h3, h4⟩ := frms_cut l (n - (frm x).length) (fun y hy => hs y (by simp [hy])) (by omega)
   refine ⟨i + 1, p, by simp; omega, ?_, h3, ?_⟩
   ·rw [List.take_append, List.take_of_length_le (by omega), h2]; simp [frms]
   ·intro k hk hkl
    cases k with
    | zero => omega
    | succ k =>
     have e2 : frms ((x :: l).take (k + 1)) = frm x ++ frms (l.take k) := by simp [frms]
     rw [e2, List.length_append] at hk
     have := h4 k (by omega) (by simpa using hkl)
     omega
end Go.Proofs.YtehclfjjjiiieaaGreat.Disk
namespace Go.Proofs.YtehclfjjjiiieaaGreat.Disk
open Go Go.Proofs.YtehclfjjjiiieaaGreat.Cf Go.Proofs.YtehclfjjjiiieaaGreat.Wire
set_option linter.unusedVariables false
set_option linter.unusedSimpArgs false
set_option maxRecDepth 100000
theorem wr_u32 (n : Int) : IntKind.u32.wrap n = n % 4294967296 := by simp [IntKind.wrap, IntKind.bits, IntKind.signed]
theorem wid_u32 (n : Int) (h0 : 0 ≤ n) (h1 : n < 2 ^ 32) : IntKind.u32.wrap n = n := by rw [wr_u32]; omega
section
variable {W w : World} {l l' : List Assn} {s : Slc} {bs : List UInt8}
theorem mkS0_st {α : Type} {T : Ty α} {t : TypeId} {sz by_ : Nat} {c : Int} {z : α} {K : Slc → World → Prop} (hl : ∀ x, (T.cells x).length = sz) (h0 : 0 ≤ c) (h1 : (by_ : Int) * c ≤ 281474976710656) (h2 : c ≤ 9223372036854775807) (H : St W l w)
  (hk : ∀ r w', St W (row T t sz r [] :: l) w' → K r w') : mkS t T by_ z 0 c w K :=
 ⟨Int.le_refl _, h0, h1, h2, hk _ _ (row_shut (rest := (List.replicate c.toNat z).flatMap T.cells) rfl rfl (by simp) (by rw [flat_len hl]; simp) (H.alloc _))⟩
theorem onn_spec {c : Int} (h0 : 0 ≤ c) (h1 : c < 4294967296) (hn : bs.length ≤ 9223372036854775806) (k : See 1 l (tInt .u8) s (B bs)) (H : St W l w) :
  cl Tryz.prog 132 [.int .u32 c, tSlc.enc s] (tInt .u32) w fun r w' => r = onn c bs ∧ St W l w' := by
 have hs := k.len H
 rw [B_len] at hs
 refine F132_ok ?_
 unfold F132
 refine lp_p (fun p w => 0 ≤ p.2 ∧ p.2 ≤ bs.length ∧ onn c bs = onn p.1 (bs.drop p.2.toNat) ∧ St W l w) (fun p => (bs.length - p.2).toNat) ⟨Int.le_refl 0, by simp only; omega, rfl, H⟩ ?_
 clear H
 rintro ⟨d, i⟩ w ⟨i0, i1, he, H⟩ K hK
 simp only at i0 i1 he
 unfold F132_l1
 rw [hs]
 split
 ·rename_i hi
  have hi : i < bs.length := by simpa using hi
  have hd : bs.drop i.toNat = bs[i.toNat] :: bs.drop (i.toNat + 1) := List.drop_eq_getElem_cons (by omega)
  have hx : (B bs)[i.toNat]? = some (bs[i.toNat].toNat : Int) := by
   simp only [B, List.getElem?_map, List.getElem?_eq_getElem (show i.toNat < bs.length by omega), Option.map_some]
  rw [hd] at he
  generalize bs[i.toNat] = x at hx he
  obtain ⟨a, ha⟩ := k.ix (i := i) H i0 (by rw [B_len]; omega)
  refine ex_i a ha ?_
  refine ex_i (x.toNat : Int) (k.rd ha hx H) ?_
  refine lp_p (fun p w => ∃ j : Nat, j ≤ 8 ∧ p.2 = (j : Int) ∧ turns (8 - j) p.1 = turns 8 (bits .xor .u32 d (IntKind.u32.wrap (x.toNat : Int))) ∧ St W l w) (fun p => (8 - p.2).toNat) ⟨0, by omega, rfl, rfl, H⟩ ?_
  clear H
  rintro ⟨q, j⟩ w ⟨j, hj, rfl, hq, H⟩ K2 hK2
  unfold F132_l2
  split
  ·rename_i hc
   have hc : j < 8 := by simp at hc; omega
   refine shift_i (by omega) ?_
   have hj2 : 8 - j = (8 - (j + 1)) + 1 := by omega
   rw [hj2] at hq
   have hq : turns (8 - (j + 1)) (turn q) = turns 8 (bits .xor .u32 d (IntKind.u32.wrap (x.toNat : Int))) := hq
   unfold turn at hq
   have e8 : IntKind.i64.wrap ((j : Int) + 1) = ((j + 1 : Nat) : Int) := by rw [wr_i64]; omega
   rw [e8]
   generalize turns 8 (bits .xor .u32 d (IntKind.u32.wrap (x.toNat : Int))) = z at hq hK2
   generalize (bits .xor .u32 (Int.fdiv q (2 ^ (min ((1 : Int)).toNat IntKind.u32.bits))) (bits .and .u32 (IntKind.u32.wrap (0 - (bits .and .u32 q (1 : Int)))) (3988292384 : Int))) = y at hq ⊢
   exact hK2 _ _ ⟨j + 1, by omega, rfl, hq, H⟩ (by simp only; omega)
  ·rename_i hc
   have hc : j = 8 := by simp at hc; omega
   subst hc
   have e1 : IntKind.i64.wrap (i + 1) = i + 1 := wrap_i64 (by omega) (by omega)
   rw [e1]
   rw [Nat.sub_self] at hq
   have hq : q = turns 8 (bits .xor .u32 d (IntKind.u32.wrap (x.toNat : Int))) := hq
   refine hK _ _ ⟨by simp only; omega, by simp only; omega, ?_, H⟩ (by simp only; omega)
   simp only
   have e2 : (i + 1).toNat = i.toNat + 1 := by omega
   rw [he, e2, hq, onn]
 ·rename_i hi
  have hi : i = bs.length := by simp at hi; omega
  subst hi
  refine ⟨?_, H⟩
  rw [he]; simp [onn]
theorem both_spec {s1 s2 : Slc} {b1 b2 : List UInt8} (hn1 : b1.length ≤ 9223372036854775806) (hn2 : b2.length ≤ 9223372036854775806) (k1 : See 1 l (tInt .u8) s1 (B b1)) (k2 : See 1 l (tInt .u8) s2 (B b2)) (H : St W l w) :
  cl Tryz.prog 114 [tSlc.enc s1, tSlc.enc s2] (tInt .u32) w fun r w' => r = (summ b1 b2 : Nat) ∧ St W l w' := by
 refine F114_ok ?_
 unfold F114
 refine cl_mono (onn_spec (by decide) (by decide) hn1 k1 H) ?_
 rintro r w ⟨rfl, H⟩
 have h := onn_u32 b1 4294967295 (by decide) (by decide)
 refine cl_mono (onn_spec h.1 h.2 hn2 k2 H) ?_
 rintro r w ⟨rfl, H⟩
 exact ⟨(summ_cast b1 b2).symm, H⟩
theorem four_spec {n : Nat} {xs : List Int} (hn : n < 4294967296) (hb : xs.length ≤ 100000000) (i : Nat) (H : St W l w) (hi : front i l = row (tInt .u8) 5 1 s xs :: l') :
  cl Tryz.prog 113 [tSlc.enc s, .int .u32 n] tSlc w fun r w' => St W (row (tInt .u8) 5 1 r (xs ++ B (be 4 n)) :: l') w' := by
 refine F113_ok ?_
 unfold F113
 refine shift_i (by omega) ?_
 refine shift_i (by omega) ?_
 refine shift_i (by omega) ?_
 have m1 : min ((24 : Int)).toNat IntKind.u32.bits = 24 := rfl
 have m2 : min ((16 : Int)).toNat IntKind.u32.bits = 16 := rfl
 have m3 : min ((8 : Int)).toNat IntKind.u32.bits = 8 := rfl
 rw [m1, m2, m3, fdiv_nat, fdiv_nat, fdiv_nat, u8w rfl, u8w rfl, u8w rfl, u8w rfl]
 have e : ∀ m : Nat, (UInt8.ofNat m) = UInt8.ofNat (m % 256) := fun m => UInt8.toNat_inj.1 (by simp)
 have hb4 : [((UInt8.ofNat (n / 2 ^ 24)).toNat : Int), (UInt8.ofNat (n / 2 ^ 16)).toNat, (UInt8.ofNat (n / 2 ^ 8)).toNat, (UInt8.ofNat n).toNat] = B (be 4 n) := by
  rw [e (n / 2 ^ 24), e (n / 2 ^ 16), e (n / 2 ^ 8), e n]
  simp [B, be]
 rw [hb4]
 refine apl_row (fun _ => rfl) i H hi (by rw [B_len, be_len]; omega) fun r w H => H
theorem read_spec (hn : bs.length ≤ 9223372036854775806) (h4 : 4 ≤ bs.length) (k : See 1 l (tInt .u8) s (B bs)) (H : St W l w) :
  cl Tryz.prog 131 [tSlc.enc s] (tInt .u32) w fun r w' => r = (rd4 bs : Nat) ∧ St W l w' := by
 refine F131_ok ?_
 unfold F131
 obtain ⟨c0, c1, c2, c3, rest, rfl⟩ : ∃ c0 c1 c2 c3 rest, bs = c0 :: c1 :: c2 :: c3 :: rest := by
  rcases bs with _ | ⟨c0, _ | ⟨c1, _ | ⟨c2, _ | ⟨c3, rest⟩⟩⟩⟩
  ·simp at h4
  ·simp at h4
  ·simp at h4
  ·simp at h4
  ·exact ⟨c0, c1, c2, c3, rest, rfl⟩
 refine dr_st H fun w H => ?_
 obtain ⟨a0, h0⟩ := k.ix (i := 0) H (by omega) (by rw [B_len]; omega)
 obtain ⟨a1, h1⟩ := k.ix (i := 1) H (by omega) (by rw [B_len]; omega)
 obtain ⟨a2, h2⟩ := k.ix (i := 2) H (by omega) (by rw [B_len]; omega)
 obtain ⟨a3, h3⟩ := k.ix (i := 3) H (by omega) (by rw [B_len]; omega)
 refine ex_i a0 h0 ?_
 refine ex_i a1 h1 ?_
 refine ex_i a2 h2 ?_
 refine ex_i a3 h3 ?_
 refine ex_i (c0.toNat : Int) (k.rd h0 (by simp [B]) H) ?_
 refine shift_i (by omega) ?_
 refine ex_i (c1.toNat : Int) (k.rd h1 (by simp [B]) H) ?_
 refine shift_i (by omega) ?_
 refine ex_i (c2.toNat : Int) (k.rd h2 (by simp [B]) H) ?_
 refine shift_i (by omega) ?_
 refine ex_i (c3.toNat : Int) (k.rd h3 (by simp [B]) H) ?_
 refine ⟨?_, H⟩
 have g0 := c0.toNat_lt
 have g1 := c1.toNat_lt
 have g2 := c2.toNat_lt
 have g3 := c3.toNat_lt
 have m1 : min ((24 : Int)).toNat IntKind.u32.bits = 24 := rfl
 have m2 : min ((16 : Int)).toNat IntKind.u32.bits = 16 := rfl
 have m3 : min ((8 : Int)).toNat IntKind.u32.bits = 8 := rfl
 rw [m1, m2, m3]
 have e0 : IntKind.u32.wrap (IntKind.u32.wrap (c0.toNat : Int) * 2 ^ 24) = (c0.toNat : Int) * 16777216 := by rw [wr_u32, wr_u32]; omega
 have e1 : IntKind.u32.wrap (IntKind.u32.wrap (c1.toNat : Int) * 2 ^ 16) = (c1.toNat : Int) * 65536 := by rw [wr_u32, wr_u32]; omega
 have e2 : IntKind.u32.wrap (IntKind.u32.wrap (c2.toNat : Int) * 2 ^ 8) = (c2.toNat : Int) * 256 := by rw [wr_u32, wr_u32]; omega
 have e3 : IntKind.u32.wrap (c3.toNat : Int) = (c3.toNat : Int) := by rw [wr_u32]; omega
 rw [e0, e1, e2, e3]
 rw [bits_join .u32 32 (by decide) wid_u32 24 ((c0.toNat : Int) * 16777216) ((c1.toNat : Int) * 65536) (by omega) (by omega) (by omega) (by omega) (by omega) (by omega)]
 rw [bits_join .u32 32 (by decide) wid_u32 16 ((c0.toNat : Int) * 16777216 + (c1.toNat : Int) * 65536) ((c2.toNat : Int) * 256) (by omega) (by omega) (by omega) (by omega) (by omega) (by omega)]
 rw [bits_join .u32 32 (by decide) wid_u32 8 ((c0.toNat : Int) * 16777216 + (c1.toNat : Int) * 65536 + (c2.toNat : Int) * 256) (c3.toNat : Int) (by omega) (by omega) (by omega) (by omega) (by omega) (by omega)]
 simp only [rd4]
 omega
theorem seal_spec (hn : bs.length ≤ 9223372036854775806) (k : See 1 l (tInt .u8) s (B bs)) (H : St W l w) :
  cl Tryz.prog 72 [tSlc.enc s] (tTup2 tSlc (tInt .i64)) w fun r w' => (65536 < bs.length → r = (nilS, 30) ∧ St W l w') ∧ (bs.length ≤ 65536 → r.2 = 0 ∧ St W (row (tInt .u8) 5 1 r.1 (B (frm bs)) :: l) w') := by
 have hs := k.len H
 rw [B_len] at hs
 refine F72_ok ?_
 unfold F72
 rw [hs]
 split
 ·rename_i hc
  have hc : 65536 < bs.length := by simp at hc; omega
  exact ⟨fun _ => ⟨rfl, H⟩, fun h => by omega⟩
 ·rename_i hc
  have hc : bs.length ≤ 65536 := by simp at hc; omega
  have e1 : IntKind.i64.wrap (8 + (bs.length : Int)) = 8 + (bs.length : Int) := wrap_i64 (by omega) (by omega)
  rw [e1]
  refine mkS0_st (sz := 1) (fun _ => rfl) (by omega) (by omega) (by omega) H fun r w H => ?_
  have e2 : IntKind.u32.wrap (bs.length : Int) = ((bs.length : Nat) : Int) := by rw [wr_u32]; omega
  rw [e2]
  refine cl_mono (four_spec (by omega) (by simp) 0 H rfl) ?_
  intro r w H
  rw [List.nil_append] at H
  refine cl_mono (both_spec (by rw [be_len]; omega) hn (See.row (fun _ => rfl) 0 rfl) k.tail H) ?_
  rintro q w ⟨rfl, H⟩
  refine cl_mono (four_spec (summ_lt _ _) (by rw [B_len, be_len]; omega) 0 H rfl) ?_
  intro r w H
  rw [← B_app] at H
  refine apd_row (fun _ => rfl) 0 H rfl (k.tail.rdS H) (by simp [B_len, be_len]; omega) fun r w H => ?_
  rw [← B_app, List.append_assoc] at H
  exact ⟨fun h => by omega, fun _ => ⟨rfl, H⟩⟩
theorem B_take (bs : List UInt8) (n : Nat) : B (bs.take n) = (B bs).take n := by simp [B, List.map_take]
theorem B_drop (bs : List UInt8) (n : Nat) : B (bs.drop n) = (B bs).drop n := by simp [B, List.map_drop]
theorem open_spec (hcap : s.len ≤ s.cap) (hn : bs.length ≤ 9223372036854775806) (k : Know l (RoP (tInt .u8) s (B bs))) (H : St W l w) :
  cl Tryz.prog 108 [tSlc.enc s] (tTup3 tSlc (tInt .i64) (tInt .i64)) w fun r w' => match opn bs with
   | .error e => r.2.2 = e ∧ e ≠ 0 ∧ St W l w'
   | .ok (x, n) => r.2.2 = 0 ∧ r.2.1 = (n : Nat) ∧ r.1.len ≤ r.1.cap ∧ St W (ro (tInt .u8) r.1 (B x) :: l) w' := by
 have hs := k.len H
 rw [B_len] at hs
 have ks : See 1 l (tInt .u8) s (B bs) := See.ro (fun _ => rfl) k
 refine F108_ok ?_
 unfold F108 opn
 rw [hs]
 by_cases hc : bs.length < 8
 ·rw [if_pos (show decide ((bs.length : Int) < 8) = true by simp; omega), if_pos hc]
  exact ⟨rfl, by decide, H⟩
 ·rw [if_neg (show ¬ decide ((bs.length : Int) < 8) = true by simp; omega), if_neg hc]
  have hc : 8 ≤ bs.length := by omega
  refine cl_mono (read_spec hn (by omega) ks H) ?_
  rintro r w ⟨rfl, H⟩
  have hr4 : rd4 bs < 4294967296 := by
   obtain ⟨c0, c1, c2, c3, rest, rfl⟩ : ∃ c0 c1 c2 c3 rest, bs = c0 :: c1 :: c2 :: c3 :: rest := by
    rcases bs with _ | ⟨c0, _ | ⟨c1, _ | ⟨c2, _ | ⟨c3, rest⟩⟩⟩⟩
    ·simp at hc
    ·simp at hc
    ·simp at hc
    ·simp at hc
    ·exact ⟨c0, c1, c2, c3, rest, rfl⟩
   have g0 := c0.toNat_lt
   have g1 := c1.toNat_lt
   have g2 := c2.toNat_lt
   have g3 := c3.toNat_lt
   simp only [rd4]; omega
  generalize rd4 bs = n at hr4
  have e1 : IntKind.i64.wrap (n : Int) = (n : Int) := wrap_i64 (by omega) (by omega)
  have e2 : IntKind.i64.wrap ((bs.length : Int) - 8) = (bs.length : Int) - 8 := wrap_i64 (by omega) (by omega)
  rw [e1, e2]
  by_cases h1 : 65536 < n
  ·rw [if_pos (show decide ((n : Int) > 65536) = true by simp; omega), if_pos h1]
   exact ⟨rfl, by decide, H⟩
  ·rw [if_neg (show ¬ decide ((n : Int) > 65536) = true by simp; omega), if_neg h1]
   by_cases h2 : bs.length - 8 < n
   ·rw [if_pos (show decide ((n : Int) > (bs.length : Int) - 8) = true by simp; omega), if_pos h2]
    exact ⟨rfl, by decide, H⟩
   ·rw [if_neg (show ¬ decide ((n : Int) > (bs.length : Int) - 8) = true by simp; omega), if_neg h2]
    have e3 : IntKind.i64.wrap (8 + (n : Int)) = 8 + (n : Int) := wrap_i64 (by omega) (by omega)
    rw [e3]
    refine dr_st H fun w H => ?_
    refine sub_st (by omega) (by omega) (by omega) (by omega) fun s5 h5 => ?_
    refine sub_st (by omega) (by omega) (by omega) (by omega) fun s6 h6 => ?_
    refine sub_st (by omega) (by omega) (by omega) (by omega) fun s7 h7 => ?_
    have k5 := k.sub (fun _ => rfl) h5 (by rw [B_len]; omega)
    have k6 := k.sub (fun _ => rfl) h6 (by rw [B_len]; omega)
    have k7 := k.sub (fun _ => rfl) h7 (by rw [B_len]; omega)
    have b5 : ((B bs).take ((4 : Int)).toNat).drop ((0 : Int)).toNat = B (bs.take 4) := by rw [B_take]; rfl
    have b6 : ((B bs).take (8 + (n : Int)).toNat).drop ((8 : Int)).toNat = B ((bs.drop 8).take n) := by
     have : (8 + (n : Int)).toNat = 8 + n := by omega
     rw [this, B_take, B_drop, List.take_drop]; rfl
    have b7 : ((B bs).take (bs.length : Int).toNat).drop ((4 : Int)).toNat = B (bs.drop 4) := by
     rw [B_drop, List.take_of_length_le (by rw [B_len]; omega)]; rfl
    rw [b5] at k5
    rw [b6] at k6
    rw [b7] at k7
    refine cl_mono (both_spec (by simp; omega) (by simp; omega) (See.ro (fun _ => rfl) k5) (See.ro (fun _ => rfl) k6) H) ?_
    rintro r w ⟨rfl, H⟩
    refine cl_mono (read_spec (by simp; omega) (by simp; omega) (See.ro (fun _ => rfl) k7) H) ?_
    rintro r w ⟨rfl, H⟩
    by_cases hq : summ (bs.take 4) ((bs.drop 8).take n) ≠ rd4 (bs.drop 4)
    ·rw [if_pos (by simp; omega), if_pos hq]
     exact ⟨rfl, by decide, H⟩
    ·rw [if_neg (by simp at hq ⊢; omega), if_neg hq]
     refine nwS_st H fun b w H => ?_
     have H := row_new (sz := 1) (m := 0) rfl H
     refine sub_st (by omega) (by omega) (by omega) (by omega) fun s14 h14 => ?_
     have k14 := k.sub (fun _ => rfl) h14 (by rw [B_len]; omega)
     rw [b6] at k14
     refine apd_row (fun _ => rfl) 0 H rfl (k14.tail.rdS H) (by simp [B_len]; omega) fun r w H => ?_
     rw [List.nil_append] at H
     have hxl : ((bs.drop 8).take n).length = n := by rw [List.length_take, List.length_drop]; omega
     have hrl := row_len H
     have hrc := row_cap H
     rw [B_len, hxl] at hrl
     refine sub_st (by omega) (by omega) (by omega) (by omega) fun s17 h17 => ?_
     obtain ⟨h18, H⟩ := row_cut3 (fun _ => rfl) h17 (by rw [B_len, hxl]; omega) H
     have e9 : (B ((bs.drop 8).take n)).take (n : Int).toNat = B ((bs.drop 8).take n) := List.take_of_length_le (by rw [B_len, hxl]; omega)
     rw [e9] at H
     exact ⟨rfl, by simp, by rw [h18]; exact Nat.le_refl _, row_stay H⟩
end
end Go.Proofs.YtehclfjjjiiieaaGreat.Disk
namespace Go.Proofs.YtehclfjjjiiieaaGreat.Disk
open Go Go.Proofs.YtehclfjjjiiieaaGreat.Cf Go.Proofs.YtehclfjjjiiieaaGreat.Wire
set_option linter.unusedVariables false
set_option linter.unusedSimpArgs false
set_option maxRecDepth 100000
abbrev SL := S92
abbrev TL := T92
abbrev TD := T76
structure Log where
 b : List UInt8
 sure : Nat
structure Dk where
 logs : List Log
 acts : Int
 down : Bool
 armed : Int
 keep : List Int
structure Dk.Ok (D : Dk) : Prop where
 len : D.logs.length ≤ 16
 log : ∀ g ∈ D.logs, g.sure ≤ g.b.length ∧ g.b.length ≤ 4194304
def kept (keep : List Int) (i : Nat) (g : Log) : Nat := g.sure + match keep[i]? with
 | none => 0
 | some k => (min (max k 0) ((g.b.length : Int) - g.sure)).toNat
def cutL (keep : List Int) (i : Nat) (g : Log) : Log := ⟨g.b.take (kept keep i g), kept keep i g⟩
def crash (keep : List Int) (D : Dk) : Dk := if D.down then D else { D with down := true, armed := 0, logs := D.logs.mapIdx (cutL keep) }
def actD (D : Dk) (n size : Int) (f : Log → Log) : Dk × Int :=
 if ¬ (0 ≤ n ∧ n < D.logs.length) then (D, 70) else if D.down then (D, 71) else if 4194304 < size then (D, 72)
 else if D.armed = 1 then (crash D.keep D, 71)
 else ({ D with armed := if 1 < D.armed then IntKind.i64.wrap (D.armed - 1) else D.armed, acts := IntKind.i64.wrap (D.acts + 1), logs := D.logs.modify n.toNat f }, 0)
theorem kept_le {keep : List Int} {i : Nat} {g : Log} (h : g.sure ≤ g.b.length) : g.sure ≤ kept keep i g ∧ kept keep i g ≤ g.b.length := by
 unfold kept
 cases keep[i]? with
 | none => simp only; omega
 | some k => simp only; omega
theorem crash_ok {keep : List Int} {D : Dk} (h : D.Ok) : (crash keep D).Ok := by
 unfold crash
 split
 ·exact h
 ·refine ⟨by simpa using h.len, fun g hg => ?_⟩
  simp only [List.mem_mapIdx] at hg
  obtain ⟨i, hi, rfl⟩ := hg
  have h1 := h.log D.logs[i] (List.getElem_mem _)
  have h2 := kept_le (keep := keep) (i := i) h1.1
  simp only [cutL, List.length_take]
  omega
theorem actD_ok {D : Dk} {n size : Int} {f : Log → Log} (h : D.Ok) (hf : size ≤ 4194304 → ∀ g, D.logs[n.toNat]? = some g → (f g).sure ≤ (f g).b.length ∧ (f g).b.length ≤ 4194304) : (actD D n size f).1.Ok := by
 unfold actD
 split
 ·exact h
 ·split
  ·exact h
  ·split
   ·exact h
   ·rename_i hs
    split
    ·exact crash_ok h
    ·refine ⟨by simpa using h.len, fun g hg => ?_⟩
     simp only at hg
     obtain ⟨i, hi, rfl⟩ := List.getElem_of_mem hg
     rw [List.getElem_modify]
     split
     ·rename_i hin
      subst hin
      have hil : n.toNat < D.logs.length := by simpa using hi
      exact hf (by omega) _ (List.getElem?_eq_getElem hil)
     ·exact h.log _ (List.getElem_mem _)
section
variable {W w : World} {l l' : List Assn}
def lrow (p : Slc × Log) : Assn := row (tInt .u8) 5 1 p.1 (B p.2.b)
def lval (p : Slc × Log) : SL := ⟨p.1, p.2.sure⟩
def dskA (d : Nat) (D : Dk) : Assn := exA fun s : Slc => exA fun P : List (Slc × Log) => exA fun kp : Slc => sepA [puA (P.map Prod.snd = D.logs), cel d (TD.cells ⟨s, D.acts, D.down, D.armed, kp⟩) 77, row TL 93 2 s (P.map lval), sepA (P.map lrow), row (tInt .i64) 3 1 kp D.keep]
theorem dsk_open {d : Nat} {D : Dk} (H : St W (dskA d D :: l) w) : ∃ (s : Slc) (P : List (Slc × Log)) (kp : Slc), P.map Prod.snd = D.logs ∧ St W (cel d (TD.cells ⟨s, D.acts, D.down, D.armed, kp⟩) 77 :: row TL 93 2 s (P.map lval) :: sepA (P.map lrow) :: row (tInt .i64) 3 1 kp D.keep :: l) w := by
 obtain ⟨s, H⟩ := H.ex
 obtain ⟨P, H⟩ := H.ex
 obtain ⟨kp, H⟩ := H.ex
 have H := H.open_
 obtain ⟨h, H⟩ := St.pu (φ := P.map Prod.snd = D.logs) H
 exact ⟨s, P, kp, h, H⟩
theorem dsk_shut {d : Nat} {D : Dk} {s kp : Slc} {P : List (Slc × Log)} (h : P.map Prod.snd = D.logs) (H : St W (cel d (TD.cells ⟨s, D.acts, D.down, D.armed, kp⟩) 77 :: row TL 93 2 s (P.map lval) :: sepA (P.map lrow) :: row (tInt .i64) 3 1 kp D.keep :: l) w) : St W (dskA d D :: l) w :=
 St.toEx s (St.toEx P (St.toEx kp (St.shut (l' := [puA _, _, _, _, _]) (St.toPu h H))))
theorem split_at {α : Type} {P : List α} {i : Nat} {p : α} (h : P[i]? = some p) : ∃ P1 P2, P = P1 ++ p :: P2 ∧ P1.length = i := by
 have hi := (List.getElem?_eq_some_iff.1 h).1
 refine ⟨P.take i, P.drop (i + 1), ?_, by rw [List.length_take]; omega⟩
 have := (List.getElem?_eq_some_iff.1 h).2
 rw [← this, ← List.drop_eq_getElem_cons hi, List.take_append_drop]
theorem new_spec {n : Int} (h0 : 1 ≤ n) (h1 : n ≤ 16) (H : St W l w) : cl Tryz.prog 12 [.int .i64 n] (tTup2 tPtr (tInt .i64)) w fun r w' => r.2 = 0 ∧ ∃ d, r.1 = some ⟨d, 0, none⟩ ∧ St W (dskA d ⟨List.replicate n.toNat ⟨[], 0⟩, 0, false, 0, []⟩ :: l) w' := by
 refine F12_ok ?_
 unfold F12
 rw [if_neg (by simp; omega)]
 refine mkS_st (sz := 2) (by omega) (by omega) (by omega) H fun b w H => ?_
 refine nw_st H fun d w H => ?_
 refine ⟨rfl, d, rfl, ?_⟩
 refine dsk_shut (s := ⟨some ⟨b, 0, none⟩, n.toNat, n.toNat⟩) (P := List.replicate n.toNat (nilS, ⟨[], 0⟩)) (kp := nilS) (by simp) ?_
 have hm : (List.replicate n.toNat (nilS, (⟨[], 0⟩ : Log))).map lval = List.replicate n.toNat (⟨nilS, 0⟩ : SL) := by simp [lval]
 rw [hm]
 have hn : ∀ (m : Nat) {l : List Assn}, St W l w → St W (sepA ((List.replicate m (nilS, (⟨[], 0⟩ : Log))).map lrow) :: l) w := by
  intro m
  induction m with
  | zero => intro l H; exact St.shut (l' := []) H
  | succ m ih =>
   intro l H
   have h2 : (List.replicate (m + 1) (nilS, (⟨[], 0⟩ : Log))).map lrow = lrow (nilS, ⟨[], 0⟩) :: (List.replicate m (nilS, (⟨[], 0⟩ : Log))).map lrow := by rw [List.replicate_succ, List.map_cons]
   rw [h2]
   have H := row_nil (tInt .u8) 5 1 (ih H)
   exact St.shut (l' := lrow (nilS, ⟨[], 0⟩) :: _) ((H.front 1).open_ |> fun H => H.perm (by
    simp only [List.cons_append]
    exact List.perm_middle))
 have H := hn n.toNat (row_nil (tInt .i64) 3 1 H)
 exact H.ord [2, 3, 0, 1]
theorem has_spec {d : Nat} {D : Dk} {n : Int} (H : St W (dskA d D :: l) w) : cl Tryz.prog 107 [.pointer (some ⟨d, 0, none⟩), .int .i64 n] tBool w fun r w' => r = decide (0 ≤ n ∧ n < D.logs.length) ∧ St W (dskA d D :: l) w' := by
 obtain ⟨s, P, kp, hP, H⟩ := dsk_open H
 refine F107_ok ?_
 unfold F107
 have hs := row_len (H.front 1)
 rw [List.length_map] at hs
 have hl : P.length = D.logs.length := by rw [← hP, List.length_map]
 refine ex_i ⟨d, 0, none⟩ (fun _ => rfl) ?_
 refine ex_i s (fun _ => rdat_cel tSlc H rfl rfl) ?_
 refine ⟨?_, dsk_shut hP H⟩
 rw [hs, hl, Bool.eq_iff_iff, Bool.and_eq_true, decide_eq_true_eq, decide_eq_true_eq, decide_eq_true_eq]
theorem log_out {P : List (Slc × Log)} {i : Nat} {p : Slc × Log} (h : P[i]? = some p) (H : St W (sepA (P.map lrow) :: l) w) : St W (lrow p :: exA (fun P1 : List (Slc × Log) => exA fun P2 : List (Slc × Log) => sepA [puA (P = P1 ++ p :: P2 ∧ P1.length = i), sepA ((P1 ++ P2).map lrow)]) :: l) w := by
 obtain ⟨P1, P2, h1, h2⟩ := split_at h
 subst h1
 have H := big_out H
 have H := H.front 1
 have H := St.toPu (φ := P1 ++ p :: P2 = P1 ++ p :: P2 ∧ P1.length = i) ⟨rfl, h2⟩ H
 have H := St.shut (l' := [puA _, sepA _]) H
 exact (St.toEx (f := fun P1' : List (Slc × Log) => exA fun P2' : List (Slc × Log) => sepA [puA (P1 ++ p :: P2 = P1' ++ p :: P2' ∧ P1'.length = i), sepA ((P1' ++ P2').map lrow)]) P1 (St.toEx (f := fun P2' : List (Slc × Log) => sepA [puA (P1 ++ p :: P2 = P1 ++ p :: P2' ∧ P1.length = i), sepA ((P1 ++ P2').map lrow)]) P2 H)).front 1
theorem log_in {P : List (Slc × Log)} {i : Nat} {p q : Slc × Log} (H : St W (lrow q :: exA (fun P1 : List (Slc × Log) => exA fun P2 : List (Slc × Log) => sepA [puA (P = P1 ++ p :: P2 ∧ P1.length = i), sepA ((P1 ++ P2).map lrow)]) :: l) w) : St W (sepA ((P.set i q).map lrow) :: l) w := by
 have H := H.front 1
 obtain ⟨P1, H⟩ := H.ex
 obtain ⟨P2, H⟩ := H.ex
 have H := H.open_
 obtain ⟨⟨h1, h2⟩, H2⟩ := St.pu (φ := P = P1 ++ p :: P2 ∧ P1.length = i) H
 clear H
 subst h1; subst h2
 have e : (P1 ++ p :: P2).set P1.length q = P1 ++ q :: P2 := by
  rw [List.set_append_right _ _ (Nat.le_refl _)]; simp
 rw [e]
 exact big_in (H2.front 1)
theorem lrow_cap {p : Slc × Log} (H : St W (lrow p :: l) w) : p.1.len = p.2.b.length ∧ p.1.len ≤ p.1.cap := by
 have h1 := row_len H
 rw [B_len] at h1
 exact ⟨h1, row_cap H⟩
theorem stepTo_zero (keep : List Int) (L : List Log) : (L.mapIdx fun j g => if j < 0 then cutL keep j g else g) = L := by
 apply List.ext_getElem?
 intro j
 rw [List.getElem?_mapIdx]
 cases L[j]? <;> simp
theorem stepTo_all (keep : List Int) (L : List Log) : (L.mapIdx fun j g => if j < L.length then cutL keep j g else g) = L.mapIdx (cutL keep) := by
 apply List.ext_getElem?
 intro j
 rw [List.getElem?_mapIdx, List.getElem?_mapIdx]
 cases h : L[j]? with
 | none => rfl
 | some g =>
  have := (List.getElem?_eq_some_iff.1 h).1
  simp [this]
theorem stepTo_succ {keep : List Int} {L : List Log} {i : Nat} {g : Log} (h : L[i]? = some g) : (L.mapIdx fun j g => if j < i + 1 then cutL keep j g else g) = (L.mapIdx fun j g => if j < i then cutL keep j g else g).set i (cutL keep i g) := by
 apply List.ext_getElem?
 intro j
 have hi := (List.getElem?_eq_some_iff.1 h).1
 rw [List.getElem?_mapIdx, List.getElem?_set, List.length_mapIdx, List.getElem?_mapIdx]
 by_cases e : i = j
 ·subst e
  rw [if_pos rfl, if_pos hi, h]; simp
 ·rw [if_neg e]
  cases hj : L[j]? with
  | none => rfl
  | some g' =>
   simp only [Option.map_some]
   by_cases c : j < i
   ·rw [if_pos c, if_pos (by omega)]
   ·rw [if_neg c, if_neg (by omega)]
theorem crash_core {d : Nat} {s kp ks : Slc} {P : List (Slc × Log)} {acts armed : Int} {keep : List Int} (hok : ∀ p ∈ P, p.2.sure ≤ p.2.b.length ∧ p.2.b.length ≤ 4194304) (hp : P.length ≤ 16) (k : See 1 l (tInt .i64) ks keep)
  (H : St W (cel d (TD.cells ⟨s, acts, false, armed, kp⟩) 77 :: row TL 93 2 s (P.map lval) :: sepA (P.map lrow) :: l) w) :
  cl Tryz.prog 16 [.pointer (some ⟨d, 0, none⟩), tSlc.enc ks] tUnit w fun _ w' => ∃ P' : List (Slc × Log), P'.map Prod.snd = (P.map Prod.snd).mapIdx (cutL keep) ∧ St W (cel d (TD.cells ⟨s, acts, true, 0, kp⟩) 77 :: row TL 93 2 s (P'.map lval) :: sepA (P'.map lrow) :: l) w' := by
 have hkl := k.tail.tail.tail.len H
 refine F16_ok ?_
 unfold F16
 refine nc_st rfl ?_
 refine ld_st (x := false) 0 H rfl rfl rfl ?_
 rw [if_neg (by simp)]
 refine st_st (x := true) 0 H rfl rfl (Nat.le_of_ble_eq_true rfl) fun w H => ?_
 refine st_st (x := (0 : Int)) 0 H rfl rfl (Nat.le_of_ble_eq_true rfl) fun w H => ?_
 refine ld_st (x := s) 0 H rfl rfl rfl ?_
 have hs := row_len (H.front 1)
 rw [List.length_map] at hs
 refine lp_p (fun i w => ∃ (j : Nat) (Q : List (Slc × Log)), i = (j : Int) ∧ j ≤ P.length ∧ Q.map Prod.snd = ((P.map Prod.snd).mapIdx fun m g => if m < j then cutL keep m g else g) ∧ St W (cel d (TD.cells ⟨s, acts, true, 0, kp⟩) 77 :: row TL 93 2 s (Q.map lval) :: sepA (Q.map lrow) :: l) w) (fun i => (P.length - i).toNat)
  ⟨0, P, rfl, by omega, (stepTo_zero _ _).symm, H⟩ ?_
 clear H
 rintro i w ⟨j, Q, rfl, hj, hQ, H⟩ K hK
 have hQl : Q.length = P.length := by
  have := congrArg List.length hQ
  simpa using this
 unfold F16_l1
 rw [hs]
 split
 ·rename_i hi
  have hi : j < P.length := by simpa using hi
  refine ld_st (x := s) 0 H rfl rfl rfl ?_
  obtain ⟨a, ha⟩ := row_ix (i := (j : Int)) (H.front 1) (by omega) (by simp; omega)
  refine ex_i a ha ?_
  have hg0 : P[j]? = some P[j] := List.getElem?_eq_getElem hi
  have hq0 : Q[j]? = some Q[j] := List.getElem?_eq_getElem (by omega)
  have hmem : P[j] ∈ P := List.getElem_mem _
  have hsame : Q[j].2 = P[j].2 := by
   have := congrArg (fun l => l[j]?) hQ
   simp only [List.getElem?_map, hq0, List.getElem?_mapIdx, hg0, Option.map_some] at this
   simpa using this
  have hokj := hok _ hmem
  have hqq : (Q.map lval)[((j : Int)).toNat]? = some (lval Q[j]) := by simp [hq0]
  have hstep := stepTo_succ (keep := keep) (L := P.map Prod.snd) (i := j) (g := P[j].2) (by simp [hg0])
  generalize P[j] = p at hg0 hmem hsame hokj hstep
  generalize Q[j] = q at hq0 hqq hsame
  obtain ⟨qs, qg⟩ := q
  obtain ⟨ps, pg⟩ := p
  simp only at hsame hokj hstep
  subst hsame
  have H1 := log_out hq0 (H.front 2)
  have hc := lrow_cap H1
  simp only at hc
  refine ex_i (qg.sure : Int) ?_ ?_
  ·exact fld_row (U := tInt .i64) (fun _ => rfl) ha hqq rfl (H.front 1)
  have fin : ∀ (w : World) (n : Int), n = (kept keep j qg : Nat) → St W (cel d (TD.cells ⟨s, acts, true, 0, kp⟩) 77 :: row TL 93 2 s (Q.map lval) :: sepA (Q.map lrow) :: l) w → F16_j2 (j : Int) a n w K fun _ w' => ∃ P' : List (Slc × Log), P'.map Prod.snd = (P.map Prod.snd).mapIdx (cutL keep) ∧ St W (cel d (TD.cells ⟨s, acts, true, 0, kp⟩) 77 :: row TL 93 2 s (P'.map lval) :: sepA (P'.map lrow) :: l) w' := by
   intro w n hn H
   subst hn
   have hk := kept_le (keep := keep) (i := j) hokj.1
   unfold F16_j2
   refine ex_i qs (fld_row (U := tSlc) (fun _ => rfl) ha hqq rfl (H.front 1)) ?_
   refine sub_st (by omega) (by omega) (by omega) (by omega) fun r hr => ?_
   have H := log_out hq0 (H.front 2)
   obtain ⟨hr2, H⟩ := row_cut3 (fun _ => rfl) hr (by rw [B_len]; exact Int.ofNat_le.2 hk.2) H
   refine stf_row (x := lval (qs, qg)) (y := (⟨r, qg.sure⟩ : SL)) (o := 0) (U := tSlc) (z := r) (fun _ => rfl) ha hqq rfl (Nat.le_of_ble_eq_true rfl) (H.front 3) fun w H => ?_
   refine stf_row (x := (⟨r, qg.sure⟩ : SL)) (y := (⟨r, (kept keep j qg : Nat)⟩ : SL)) (o := 1) (U := tInt .i64) (z := ((kept keep j qg : Nat) : Int)) (fun _ => rfl) ha (List.getElem?_set_self (by rw [List.length_map, Int.toNat_natCast]; omega)) rfl (Nat.le_of_ble_eq_true rfl) H fun w H => ?_
   have e1 : IntKind.i64.wrap ((j : Int) + 1) = ((j + 1 : Nat) : Int) := by rw [wr_i64]; omega
   rw [e1]
   have hb : (B qg.b).take ((kept keep j qg : Nat) : Int).toNat = B (cutL keep j qg).b := by
    rw [Int.toNat_natCast]; exact (B_take _ _).symm
   rw [hb] at H
   have H := log_in (q := (r, cutL keep j qg)) (H.ord [1, 2])
   refine hK _ _ ⟨j + 1, Q.set j (r, cutL keep j qg), rfl, by omega, ?_, ?_⟩ (by omega)
   ·rw [List.map_set, hQ, hstep]
   ·have e2 : (((Q.map lval).set ((j : Int)).toNat (⟨r, qg.sure⟩ : SL)).set ((j : Int)).toNat (⟨r, (kept keep j qg : Nat)⟩ : SL)) = (Q.set j (r, cutL keep j qg)).map lval := by
     rw [List.set_set, List.map_set, Int.toNat_natCast]; rfl
    rw [e2] at H
    exact H.ord [2, 1, 0]
  rw [hkl]
  split
  ·rename_i hlt
   have hlt : j < keep.length := by simpa using hlt
   have hkx : keep[((j : Int)).toNat]? = some keep[j] := by rw [Int.toNat_natCast]; exact List.getElem?_eq_getElem hlt
   have hkk : keep[j]? = some keep[j] := List.getElem?_eq_getElem hlt
   generalize keep[j] = kj at hkx hkk
   refine dr_st H fun w H => ?_
   obtain ⟨ka, hka⟩ := k.tail.tail.tail.ix (i := (j : Int)) H (by omega) (by omega)
   refine ex_i ka hka ?_
   refine ex_i kj (k.tail.tail.tail.rd hka hkx H) ?_
   refine ex_i qs (fld_row (U := tSlc) (fun _ => rfl) ha hqq rfl (H.front 1)) ?_
   refine ex_i (qg.sure : Int) (fld_row (U := tInt .i64) (fun _ => rfl) ha hqq rfl (H.front 1)) ?_
   refine fin _ _ ?_ H
   have hkept : kept keep j qg = qg.sure + (min (max kj 0) ((qg.b.length : Int) - qg.sure)).toNat := by unfold kept; rw [hkk]
   rw [hc.1, wrap_i64 (x := (qg.b.length : Int) - (qg.sure : Int)) (by omega) (by omega), hkept, wrap_i64 (by omega) (by omega)]
   omega
  ·rename_i hlt
   have hlt : keep.length ≤ j := by simp at hlt; omega
   refine fin _ _ ?_ H
   have hkept : kept keep j qg = qg.sure := by
    unfold kept; rw [List.getElem?_eq_none hlt]; rfl
   rw [hkept]
 ·rename_i hi
  have hi : j = P.length := by simp at hi; omega
  subst hi
  refine ⟨Q, ?_, H⟩
  rw [hQ]
  have := stepTo_all keep (P.map Prod.snd)
  rw [List.length_map] at this
  exact this
theorem crash_spec {d : Nat} {D : Dk} {ks : Slc} {keep : List Int} (hok : D.Ok) (k : See 1 l (tInt .i64) ks keep) (H : St W (dskA d D :: l) w) :
  cl Tryz.prog 16 [.pointer (some ⟨d, 0, none⟩), tSlc.enc ks] tUnit w fun _ w' => St W (dskA d (crash keep D) :: l) w' := by
 obtain ⟨s, P, kp, hP, H⟩ := dsk_open H
 by_cases hd : D.down = true
 ·refine F16_ok ?_
  unfold F16 crash
  rw [if_pos hd]
  refine nc_st rfl ?_
  refine ld_st (x := D.down) 0 H rfl rfl rfl ?_
  rw [if_pos hd]
  exact dsk_shut hP H
 ·have hdf : D.down = false := by simpa using hd
  rw [hdf] at H
  have hl : P.length = D.logs.length := by rw [← hP, List.length_map]
  refine cl_mono (crash_core (fun p hp => hok.log p.2 (by rw [← hP]; exact List.mem_map_of_mem hp)) (by rw [hl]; exact hok.len) k.tail H) ?_
  rintro r w ⟨P', hP', H⟩
  rw [hP] at hP'
  unfold crash
  rw [if_neg hd]
  exact dsk_shut (D := { D with down := true, armed := 0, logs := D.logs.mapIdx (cutL keep) }) hP' H
end
end Go.Proofs.YtehclfjjjiiieaaGreat.Disk
namespace Go.Proofs.YtehclfjjjiiieaaGreat.Disk
open Go Go.Proofs.YtehclfjjjiiieaaGreat.Cf Go.Proofs.YtehclfjjjiiieaaGreat.Wire
set_option linter.unusedVariables false
set_option linter.unusedSimpArgs false
set_option maxRecDepth 100000
section
variable {W w : World} {l l' : List Assn}
theorem clv_mono {α : Type} {P : Program} {T : Ty α} {fv : Fv} {args : List Value} {K K' : α → World → Prop} (h : clv P fv args T w K) (hk : ∀ r w', K r w' → K' r w') : clv P fv args T w K' := by
 obtain ⟨k, c, h1, h2, h3⟩ := h
 exact ⟨k, c, h1, h2, cl_mono h3 hk⟩
theorem modify_set {L : List Log} {i : Nat} {g : Log} {f : Log → Log} (h : L[i]? = some g) : L.modify i f = L.set i (f g) := by
 apply List.ext_getElem?
 intro j
 rw [List.getElem?_modify, List.getElem?_set]
 by_cases e : i = j
 ·subst e
  have hh := List.getElem?_eq_some_iff.1 h
  rw [if_pos rfl, if_pos hh.1, h]
  simp
 ·simp [e]
theorem act_spec {d : Nat} {D : Dk} {n size : Int} {fv : Fv} {f : Log → Log} (hok : D.Ok) (H : St W (dskA d D :: l) w)
  (hdo : ∀ (s q : Slc) (g : Log) (xs : List SL) (a : Addr) (l0 : List Assn) (w : World), size ≤ 4194304 → D.logs[n.toNat]? = some g → xs[n.toNat]? = some ⟨q, g.sure⟩ → IxA s 2 n a → St W (row TL 93 2 s xs :: lrow (q, g) :: (l0 ++ l)) w →
   clv Tryz.prog fv [.pointer (some a)] tUnit w fun _ w' => ∃ q' : Slc, St W (row TL 93 2 s (xs.set n.toNat ⟨q', (f g).sure⟩) :: lrow (q', f g) :: (l0 ++ l)) w') :
  cl Tryz.prog 74 [.pointer (some ⟨d, 0, none⟩), .int .i64 n, .int .i64 size, fv.enc] (tInt .i64) w fun r w' => r = (actD D n size f).2 ∧ St W (dskA d (actD D n size f).1 :: l) w' := by
 refine F74_ok ?_
 unfold F74 actD
 refine cl_mono (has_spec H) ?_
 rintro r w ⟨rfl, H⟩
 by_cases hh : 0 ≤ n ∧ n < D.logs.length
 ·rw [decide_eq_true hh, if_neg (by simp), if_neg (not_not_intro hh)]
  refine nc_st rfl ?_
  obtain ⟨s, P, kp, hP, H⟩ := dsk_open H
  refine ld_st (x := D.down) 0 H rfl rfl rfl ?_
  by_cases hd : D.down = true
  ·rw [if_pos hd, if_pos hd]
   exact ⟨rfl, dsk_shut hP H⟩
  ·rw [if_neg hd, if_neg hd]
   have hdf : D.down = false := by simpa using hd
   by_cases hs : 4194304 < size
   ·rw [if_pos (by simp; omega), if_pos hs]
    exact ⟨rfl, dsk_shut hP H⟩
   ·rw [if_neg (by simp; omega), if_neg hs]
    refine ld_st (x := D.armed) 0 H rfl rfl rfl ?_
    have hl : P.length = D.logs.length := by rw [← hP, List.length_map]
    by_cases ha : D.armed = 1
    ·rw [if_pos (by simp [ha]), if_pos ha]
     refine ld_st (x := kp) 0 H rfl rfl rfl ?_
     rw [hdf] at H
     refine cl_mono (crash_core (fun p hp => hok.log p.2 (by rw [← hP]; exact List.mem_map_of_mem hp)) (by rw [hl]; exact hok.len) (See.row (fun _ => rfl) 0 rfl) H) ?_
     rintro r w ⟨P', hP', H⟩
     rw [hP] at hP'
     refine ⟨rfl, ?_⟩
     unfold crash
     rw [if_neg hd]
     exact dsk_shut (D := { D with down := true, armed := 0, logs := D.logs.mapIdx (cutL D.keep) }) hP' H
    ·rw [if_neg (by simpa using ha), if_neg ha]
     have j1 : ∀ (arm : Int) (w : World), arm = (if 1 < D.armed then IntKind.i64.wrap (D.armed - 1) else D.armed) → St W (cel d (TD.cells ⟨s, D.acts, D.down, arm, kp⟩) 77 :: row TL 93 2 s (P.map lval) :: sepA (P.map lrow) :: row (tInt .i64) 3 1 kp D.keep :: l) w →
       F74_j1 (some ⟨d, 0, none⟩) n fv w fun r w' => r = 0 ∧ St W (dskA d { D with armed := if 1 < D.armed then IntKind.i64.wrap (D.armed - 1) else D.armed, acts := IntKind.i64.wrap (D.acts + 1), logs := D.logs.modify n.toNat f } :: l) w' := by
      intro arm w harm H
      unfold F74_j1
      refine nc_st rfl ?_
      refine ld_st (x := D.acts) 0 H rfl rfl rfl ?_
      refine st_st (x := IntKind.i64.wrap (D.acts + 1)) 0 H rfl rfl (Nat.le_of_ble_eq_true rfl) fun w H => ?_
      refine ld_st (x := s) 0 H rfl rfl rfl ?_
      obtain ⟨a, hia⟩ := row_ix (i := n) (H.front 1) hh.1 (by rw [List.length_map, hl]; exact hh.2)
      refine ex_i a hia ?_
      have hq0 : P[n.toNat]? = some P[n.toNat] := List.getElem?_eq_getElem (by omega)
      have hg : D.logs[n.toNat]? = some (P[n.toNat]).2 := by rw [← hP, List.getElem?_map, hq0]; rfl
      generalize P[n.toNat] = p at hq0 hg
      obtain ⟨q, g⟩ := p
      simp only at hg
      have H := log_out hq0 (H.front 2)
      refine clv_mono (hdo s q g (P.map lval) a [_, _, _] w (by omega) hg (by rw [List.getElem?_map, hq0]; rfl) hia (H.ord [3, 0])) ?_
      rintro r w ⟨q', H⟩
      have H := log_in (q := (q', f g)) (H.ord [1, 2])
      refine ⟨rfl, ?_⟩
      refine dsk_shut (s := s) (kp := kp) (P := P.set n.toNat (q', f g)) ?_ ?_
      ·simp only
       rw [List.map_set, hP, modify_set hg]
      ·simp only
       rw [← harm, List.map_set]
       exact H.ord [2, 1, 0]
     by_cases hb : 1 < D.armed
     ·refine ld_st (x := D.armed) 0 H rfl rfl rfl ?_
      rw [if_pos (by simpa using hb)]
      refine ld_st (x := D.armed) 0 H rfl rfl rfl ?_
      refine st_st (x := IntKind.i64.wrap (D.armed - 1)) 0 H rfl rfl (Nat.le_of_ble_eq_true rfl) fun w H => ?_
      exact j1 (IntKind.i64.wrap (D.armed - 1)) w (by rw [if_pos hb]) H
     ·refine ld_st (x := D.armed) 0 H rfl rfl rfl ?_
      rw [if_neg (by simpa using hb)]
      exact j1 D.armed w (by rw [if_neg hb]) H
 ·rw [decide_eq_false hh, if_pos (by simp), if_pos hh]
  exact ⟨rfl, H⟩
def sizeOf (D : Dk) (n : Int) : Nat := if 0 ≤ n then match D.logs[n.toNat]? with
 | some g => g.b.length
 | none => 0
 else 0
def appendD (D : Dk) (n : Int) (bs : List UInt8) : Dk × Int := actD D n ((bs.length + sizeOf D n : Nat) : Int) fun g => ⟨g.b ++ bs, g.sure⟩
def syncD (D : Dk) (n : Int) : Dk × Int := actD D n 0 fun g => ⟨g.b, g.b.length⟩
def swapD (D : Dk) (n : Int) (bs : List UInt8) : Dk × Int := actD D n (bs.length : Int) fun _ => ⟨bs, bs.length⟩
theorem append_spec {d : Nat} {D : Dk} {n : Int} {b : Slc} {bs : List UInt8} (hok : D.Ok) (hn : bs.length ≤ 4000000000000000000) (k : See 1 l (tInt .u8) b (B bs)) (H : St W (dskA d D :: l) w) :
  cl Tryz.prog 73 [.pointer (some ⟨d, 0, none⟩), .int .i64 n, tSlc.enc b] (tInt .i64) w fun r w' => r = (appendD D n bs).2 ∧ St W (dskA d (appendD D n bs).1 :: l) w' := by
 have hbl := k.tail.len H
 rw [B_len] at hbl
 refine F73_ok ?_
 unfold F73
 refine nw_st H fun b4 w H => ?_
 refine ld_st (x := b) 0 H rfl rfl rfl ?_
 have j1 : ∀ (z : Int) (w : World), z = ((bs.length + sizeOf D n : Nat) : Int) → St W (cel b4 (tSlc.cells b) 25 :: dskA d D :: l) w → F73_j1 (some ⟨d, 0, none⟩) n ⟨b4, 0, none⟩ z w fun r w' => r = (appendD D n bs).2 ∧ St W (dskA d (appendD D n bs).1 :: l) w' := by
  intro z w hz H
  subst hz
  unfold F73_j1
  refine cl_mono (act_spec (f := fun g => ⟨g.b ++ bs, g.sure⟩) hok (H.front 1) ?_) ?_
  ·intro s q g xs a l0 w hsz hg hx ha H
   refine ⟨115, [.pointer (some ⟨b4, 0, none⟩)], rfl, ent115, ?_⟩
   refine F115_ok ?_
   unfold F115
   refine dr_st H fun w H => ?_
   refine nc_st rfl ?_
   refine ex_i q (fld_row (U := tSlc) (fun _ => rfl) ha hx rfl H) ?_
   have H := (H.perm (show (row TL 93 2 s xs :: lrow (q, g) :: (l0 ++ (cel b4 (tSlc.cells b) 25 :: l))).Perm (cel b4 (tSlc.cells b) 25 :: row TL 93 2 s xs :: lrow (q, g) :: (l0 ++ l)) from by
    have h1 := (List.perm_middle (a := cel b4 (tSlc.cells b) 25) (l₁ := row TL 93 2 s xs :: lrow (q, g) :: l0) (l₂ := l))
    simpa using h1))
   refine ld_st (x := b) 0 H rfl rfl rfl ?_
   have hkk : See 1 (cel b4 (tSlc.cells b) 25 :: row TL 93 2 s xs :: lrow (q, g) :: (l0 ++ l)) (tInt .u8) b (B bs) := ((k.app l0).tail.tail.tail)
   have hgl := (hok.log g (List.mem_of_getElem? hg)).2
   refine apd_row (fun _ => rfl) 2 H rfl (hkk.rdS H) (by rw [B_len, B_len]; simp only; omega) fun r w H => ?_
   refine stf_row (x := (⟨q, g.sure⟩ : SL)) (y := (⟨r, g.sure⟩ : SL)) (o := 0) (U := tSlc) (z := r) (fun _ => rfl) ha hx rfl (Nat.le_of_ble_eq_true rfl) (H.front 2) fun w H => ?_
   refine ⟨r, ?_⟩
   rw [← B_app] at H
   refine H.perm ?_
   refine List.Perm.cons _ (List.Perm.cons _ ?_)
   exact List.perm_middle.symm
  ·rintro r w ⟨rfl, H⟩
   exact ⟨rfl, (H.front 1).drop⟩
 refine cl_mono (has_spec (H.front 1)) ?_
 rintro r w ⟨rfl, H⟩
 by_cases hh : 0 ≤ n ∧ n < D.logs.length
 ·rw [decide_eq_true hh, if_pos rfl]
  refine nc_st rfl ?_
  obtain ⟨s, P, kp, hP, H⟩ := dsk_open H
  have hl : P.length = D.logs.length := by rw [← hP, List.length_map]
  refine ld_st (x := s) 0 H rfl rfl rfl ?_
  obtain ⟨a, hia⟩ := row_ix (i := n) (H.front 1) hh.1 (by rw [List.length_map, hl]; exact hh.2)
  refine ex_i a hia ?_
  have hq0 : P[n.toNat]? = some P[n.toNat] := List.getElem?_eq_getElem (by omega)
  have hg : D.logs[n.toNat]? = some (P[n.toNat]).2 := by rw [← hP, List.getElem?_map, hq0]; rfl
  generalize P[n.toNat] = p at hq0 hg
  have hc := lrow_cap (log_out hq0 (H.front 2))
  obtain ⟨q, g⟩ := p
  simp only at hg hc
  have hgl := (hok.log g (List.mem_of_getElem? hg)).2
  refine ex_i q (fld_row (x := lval (q, g)) (U := tSlc) (fun _ => rfl) hia (by rw [List.getElem?_map, hq0]; rfl) rfl (H.front 1)) ?_
  refine j1 _ w ?_ ((dsk_shut hP H).front 1)
  have e : sizeOf D n = g.b.length := by unfold sizeOf; rw [if_pos hh.1, hg]
  rw [e, hbl, hc.1, wrap_i64 (by omega) (by omega)]
  omega
 ·rw [decide_eq_false hh, if_neg (by simp)]
  refine j1 _ w ?_ (H.front 1)
  have e : sizeOf D n = 0 := by
   unfold sizeOf
   by_cases h0 : 0 ≤ n
   ·rw [if_pos h0, List.getElem?_eq_none (by omega)]
   ·rw [if_neg h0]
  rw [e, hbl]; rfl
theorem sync_spec {d : Nat} {D : Dk} {n : Int} (hok : D.Ok) (H : St W (dskA d D :: l) w) :
  cl Tryz.prog 38 [.pointer (some ⟨d, 0, none⟩), .int .i64 n] (tInt .i64) w fun r w' => r = (syncD D n).2 ∧ St W (dskA d (syncD D n).1 :: l) w' := by
 refine F38_ok ?_
 unfold F38
 refine cl_mono (act_spec (f := fun g => ⟨g.b, g.b.length⟩) hok H ?_) ?_
 ·intro s q g xs a l0 w hsz hg hx ha H
  refine ⟨75, [], rfl, ent75, ?_⟩
  refine F75_ok ?_
  unfold F75
  refine nc_st rfl ?_
  refine ex_i q (fld_row (U := tSlc) (fun _ => rfl) ha hx rfl H) ?_
  have hc := lrow_cap (H.front 1)
  simp only at hc
  rw [hc.1]
  refine stf_row (x := (⟨q, g.sure⟩ : SL)) (y := (⟨q, (g.b.length : Nat)⟩ : SL)) (o := 1) (U := tInt .i64) (z := ((g.b.length : Nat) : Int)) (fun _ => rfl) ha hx rfl (Nat.le_of_ble_eq_true rfl) H fun w H => ?_
  exact ⟨q, H⟩
 ·rintro r w ⟨rfl, H⟩
  exact ⟨rfl, H⟩
theorem swap_spec {d : Nat} {D : Dk} {n : Int} {b : Slc} {bs : List UInt8} (hok : D.Ok) (hn : bs.length ≤ 4000000000000000000) (k : See 1 l (tInt .u8) b (B bs)) (H : St W (dskA d D :: l) w) :
  cl Tryz.prog 68 [.pointer (some ⟨d, 0, none⟩), .int .i64 n, tSlc.enc b] (tInt .i64) w fun r w' => r = (swapD D n bs).2 ∧ St W (dskA d (swapD D n bs).1 :: l) w' := by
 have hbl := k.tail.len H
 rw [B_len] at hbl
 refine F68_ok ?_
 unfold F68
 refine nw_st H fun b4 w H => ?_
 refine ld_st (x := b) 0 H rfl rfl rfl ?_
 rw [hbl]
 refine cl_mono (act_spec (f := fun _ => ⟨bs, bs.length⟩) hok (H.front 1) ?_) ?_
 ·intro s q g xs a l0 w hsz hg hx ha H
  refine ⟨109, [.pointer (some ⟨b4, 0, none⟩)], rfl, ent109, ?_⟩
  refine F109_ok ?_
  unfold F109
  have H := (H.perm (show (row TL 93 2 s xs :: lrow (q, g) :: (l0 ++ (cel b4 (tSlc.cells b) 25 :: l))).Perm (cel b4 (tSlc.cells b) 25 :: row TL 93 2 s xs :: lrow (q, g) :: (l0 ++ l)) from by
   have h1 := (List.perm_middle (a := cel b4 (tSlc.cells b) 25) (l₁ := row TL 93 2 s xs :: lrow (q, g) :: l0) (l₂ := l))
   simpa using h1))
  refine ld_st (x := b) 0 H rfl rfl rfl ?_
  rw [hbl]
  refine mkS_st (sz := 1) (by omega) (by omega) (by omega) H fun b5 w H => ?_
  refine nc_st rfl ?_
  refine stf_row (x := (⟨q, g.sure⟩ : SL)) (y := (⟨⟨some ⟨b5, 0, none⟩, bs.length, bs.length⟩, g.sure⟩ : SL)) (o := 0) (U := tSlc) (z := ⟨some ⟨b5, 0, none⟩, bs.length, bs.length⟩) (fun _ => rfl) ha hx rfl (Nat.le_of_ble_eq_true rfl) (H.front 2) fun w H => ?_
  refine dr_st H fun w H => ?_
  have hx2 : (xs.set n.toNat (⟨⟨some ⟨b5, 0, none⟩, bs.length, bs.length⟩, g.sure⟩ : SL))[n.toNat]? = some ⟨⟨some ⟨b5, 0, none⟩, bs.length, bs.length⟩, g.sure⟩ := List.getElem?_set_self (List.getElem?_eq_some_iff.1 hx).1
  refine ex_i ⟨some ⟨b5, 0, none⟩, bs.length, bs.length⟩ (fld_row (U := tSlc) (fun _ => rfl) ha hx2 rfl H) ?_
  refine ld_st (x := b) 2 H rfl rfl rfl ?_
  have hkk : See 1 (row (tInt .u8) 5 1 ⟨some ⟨b5, 0, none⟩, bs.length, bs.length⟩ (List.replicate bs.length 0) :: row TL 93 2 s (xs.set n.toNat (⟨⟨some ⟨b5, 0, none⟩, bs.length, bs.length⟩, g.sure⟩ : SL)) :: cel b4 (tSlc.cells b) 25 :: lrow (q, g) :: (l0 ++ l)) (tInt .u8) b (B bs) := ((k.app l0).tail.tail.tail.tail)
  refine cpy_st (xs := List.replicate bs.length 0) (fun _ => rfl) (H.front 1) (hkk.rdS (H.front 1)) (by rw [B_len, List.length_replicate]) fun w H => ?_
  rw [B_len]
  refine stf_row (x := (⟨⟨some ⟨b5, 0, none⟩, bs.length, bs.length⟩, g.sure⟩ : SL)) (y := (⟨⟨some ⟨b5, 0, none⟩, bs.length, bs.length⟩, (bs.length : Nat)⟩ : SL)) (o := 1) (U := tInt .i64) (z := ((bs.length : Nat) : Int)) (fun _ => rfl) ha hx2 rfl (Nat.le_of_ble_eq_true rfl) (H.front 1) fun w H => ?_
  refine ⟨⟨some ⟨b5, 0, none⟩, bs.length, bs.length⟩, ?_⟩
  rw [List.set_set] at H
  have H := (H.ord [3]).drop
  refine H.perm ?_
  refine List.Perm.cons _ (List.Perm.cons _ ?_)
  exact List.perm_middle.symm
 ·rintro r w ⟨rfl, H⟩
  exact ⟨rfl, (H.front 1).drop⟩
theorem readD_spec {d : Nat} {D : Dk} {n : Int} (hok : D.Ok) (H : St W (dskA d D :: l) w) :
  cl Tryz.prog 66 [.pointer (some ⟨d, 0, none⟩), .int .i64 n] (tTup2 tSlc (tInt .i64)) w fun r w' => (¬ (0 ≤ n ∧ n < D.logs.length) → r.2 = 70 ∧ St W (dskA d D :: l) w') ∧ ((0 ≤ n ∧ n < D.logs.length) → D.down = true → r.2 = 71 ∧ St W (dskA d D :: l) w') ∧
   ∀ g, 0 ≤ n → D.down = false → D.logs[n.toNat]? = some g → r.2 = 0 ∧ St W (row (tInt .u8) 5 1 r.1 (B g.b) :: dskA d D :: l) w' := by
 refine F66_ok ?_
 unfold F66
 refine cl_mono (has_spec H) ?_
 rintro r w ⟨rfl, H⟩
 by_cases hh : 0 ≤ n ∧ n < D.logs.length
 ·rw [decide_eq_true hh, if_neg (by simp)]
  refine nc_st rfl ?_
  obtain ⟨s, P, kp, hP, H⟩ := dsk_open H
  refine ld_st (x := D.down) 0 H rfl rfl rfl ?_
  by_cases hd : D.down = true
  ·rw [if_pos hd]
   exact ⟨fun h => absurd hh h, fun _ _ => ⟨rfl, dsk_shut hP H⟩, fun g _ h => by rw [hd] at h; cases h⟩
  ·rw [if_neg hd]
   have hl : P.length = D.logs.length := by rw [← hP, List.length_map]
   refine ld_st (x := s) 0 H rfl rfl rfl ?_
   obtain ⟨a, hia⟩ := row_ix (i := n) (H.front 1) hh.1 (by rw [List.length_map, hl]; exact hh.2)
   refine ex_i a hia ?_
   have hq0 : P[n.toNat]? = some P[n.toNat] := List.getElem?_eq_getElem (by omega)
   have hg : D.logs[n.toNat]? = some (P[n.toNat]).2 := by rw [← hP, List.getElem?_map, hq0]; rfl
   generalize P[n.toNat] = p at hq0 hg
   have hc := lrow_cap (log_out hq0 (H.front 2))
   obtain ⟨q, g⟩ := p
   simp only at hg hc
   have hgl := (hok.log g (List.mem_of_getElem? hg)).2
   have hx : (P.map lval)[n.toNat]? = some (lval (q, g)) := by rw [List.getElem?_map, hq0]; rfl
   refine ex_i q (fld_row (x := lval (q, g)) (U := tSlc) (fun _ => rfl) hia hx rfl (H.front 1)) ?_
   rw [hc.1]
   refine mkS_st (sz := 1) (by omega) (by omega) (by omega) H fun b w H => ?_
   refine ld_st (x := s) 1 H rfl rfl rfl ?_
   refine ex_i a hia ?_
   refine ex_i q (fld_row (x := lval (q, g)) (U := tSlc) (fun _ => rfl) hia hx rfl (H.front 2)) ?_
   have hr : RdS (tInt .u8) w q (B g.b) := RdO_row (log_out hq0 (H.front 3))
   refine cpy_st (xs := List.replicate ((g.b.length : Int)).toNat 0) (fun _ => rfl) H hr (by rw [B_len, List.length_replicate]; omega) fun w H => ?_
   refine ⟨fun h => absurd hh h, fun _ h => absurd h hd, fun g' _ _ hg' => ?_⟩
   rw [hg] at hg'
   cases hg'
   exact ⟨rfl, (dsk_shut hP (H.ord [1, 2, 3, 4])).front 1⟩
 ·rw [decide_eq_false hh, if_pos (by simp)]
  refine ⟨fun _ => ⟨rfl, H⟩, fun h => absurd h hh, fun g h0 _ hg => absurd ⟨h0, ?_⟩ hh⟩
  have := (List.getElem?_eq_some_iff.1 hg).1
  omega
theorem sureD_spec {d : Nat} {D : Dk} {n : Int} {g : Log} (h0 : 0 ≤ n) (hg : D.logs[n.toNat]? = some g) (H : St W (dskA d D :: l) w) :
  cl Tryz.prog 69 [.pointer (some ⟨d, 0, none⟩), .int .i64 n] (tInt .i64) w fun r w' => r = (g.sure : Nat) ∧ St W (dskA d D :: l) w' := by
 have hlt := (List.getElem?_eq_some_iff.1 hg).1
 refine F69_ok ?_
 unfold F69
 refine cl_mono (has_spec H) ?_
 rintro r w ⟨rfl, H⟩
 rw [decide_eq_true (by omega), if_neg (by simp)]
 refine nc_st rfl ?_
 obtain ⟨s, P, kp, hP, H⟩ := dsk_open H
 have hl : P.length = D.logs.length := by rw [← hP, List.length_map]
 refine ld_st (x := s) 0 H rfl rfl rfl ?_
 obtain ⟨a, hia⟩ := row_ix (i := n) (H.front 1) h0 (by rw [List.length_map, hl]; omega)
 refine ex_i a hia ?_
 have hq0 : P[n.toNat]? = some P[n.toNat] := List.getElem?_eq_getElem (by omega)
 have hg2 : D.logs[n.toNat]? = some (P[n.toNat]).2 := by rw [← hP, List.getElem?_map, hq0]; rfl
 generalize P[n.toNat] = p at hq0 hg2
 rw [hg] at hg2
 cases hg2
 refine ex_i (p.2.sure : Int) (fld_row (x := lval p) (U := tInt .i64) (fun _ => rfl) hia (by rw [List.getElem?_map, hq0]; rfl) rfl (H.front 1)) ?_
 exact ⟨rfl, dsk_shut hP H⟩
theorem up_spec {d : Nat} {D : Dk} (H : St W (dskA d D :: l) w) : cl Tryz.prog 17 [.pointer (some ⟨d, 0, none⟩)] tUnit w fun _ w' => St W (dskA d { D with down := false } :: l) w' := by
 refine F17_ok ?_
 unfold F17
 refine nc_st rfl ?_
 obtain ⟨s, P, kp, hP, H⟩ := dsk_open H
 refine st_st (x := false) 0 H rfl rfl (Nat.le_of_ble_eq_true rfl) fun w H => ?_
 exact dsk_shut (D := { D with down := false }) hP H
end
end Go.Proofs.YtehclfjjjiiieaaGreat.Disk
namespace Go.Proofs.YtehclfjjjiiieaaGreat.Disk
open Go Go.Proofs.YtehclfjjjiiieaaGreat.Cf Go.Proofs.YtehclfjjjiiieaaGreat.Wire
set_option linter.unusedVariables false
set_option linter.unusedSimpArgs false
set_option maxRecDepth 100000
abbrev TW := T87
section
variable {W w : World} {l l' : List Assn} {s : Slc} {bs : List UInt8}
def LoadsP (qs : List Slc) (xs : List (List UInt8)) (I : PMap) : Prop := qs.length = xs.length ∧ ∀ (i : Nat) (q : Slc) (x : List UInt8), qs[i]? = some q → xs[i]? = some x → q.len ≤ q.cap ∧ RoP (tInt .u8) q (B x) I
theorem LoadsP.mono {qs : List Slc} {xs : List (List UInt8)} {I I' : PMap} (h : PMap.le I I') : LoadsP qs xs I → LoadsP qs xs I' := fun ⟨h1, h2⟩ => ⟨h1, fun i q x hq hx => ⟨(h2 i q x hq hx).1, RoP.mono h (h2 i q x hq hx).2⟩⟩
def loadsA (qs : List Slc) (xs : List (List UInt8)) : Assn := ever (LoadsP qs xs) LoadsP.mono
theorem LoadsP.push {qs : List Slc} {xs : List (List UInt8)} {q : Slc} {x : List UInt8} {I : PMap} (h : LoadsP qs xs I) (hc : q.len ≤ q.cap) (hr : RoP (tInt .u8) q (B x) I) : LoadsP (qs ++ [q]) (xs ++ [x]) I := by
 refine ⟨by simp [h.1], fun i q' x' hq hx => ?_⟩
 by_cases c : i < qs.length
 ·rw [List.getElem?_append_left c] at hq
  rw [List.getElem?_append_left (by rw [← h.1]; exact c)] at hx
  exact h.2 i q' x' hq hx
 ·have hi : i = qs.length := by
   have := (List.getElem?_eq_some_iff.1 hq).1
   simp at this; omega
  subst hi
  rw [List.getElem?_append_right (Nat.le_refl _)] at hq
  rw [List.getElem?_append_right (by rw [h.1]; exact Nat.le_refl _), h.1] at hx
  simp at hq hx
  subst hq; subst hx
  exact ⟨hc, hr⟩
theorem scan_spec (hcap : s.len ≤ s.cap) (hn : bs.length ≤ 1000000000) (k : Know l (RoP (tInt .u8) s (B bs))) (H : St W l w) :
  cl Tryz.prog 67 [tSlc.enc s] (tTup2 tSlc (tInt .i64)) w fun r w' => r.2 = ((scan bs).2 : Nat) ∧ ∃ qs : List Slc, St W (row tSlc 25 1 r.1 qs :: loadsA qs (scan bs).1 :: l) w' := by
 have hs := k.len H
 rw [B_len] at hs
 refine F67_ok ?_
 unfold F67
 refine lp_n (fun m p w => ∃ (a f : Nat) (xs : List (List UInt8)) (qs : List Slc), m = bs.length - a ∧ p.2 = (a : Int) ∧ a ≤ bs.length ∧ bs.length - a < f ∧ xs.length ≤ a ∧ scan bs = scanF f (bs.drop a) xs a ∧ St W (row tSlc 25 1 p.1 qs :: loadsA qs xs :: l) w) bs.length
  ⟨0, bs.length + 1, [], [], by omega, rfl, by omega, by omega, by simp, rfl, row_nil tSlc 25 1 (H.know (m := LoadsP.mono) (fun _ _ _ => ⟨rfl, fun i q x hq => by simp at hq⟩))⟩ ?_
 clear H
 rintro m ⟨r, a⟩ w ⟨a, f, xs, qs, rfl, rfl, ha, hf, hxa, he, H⟩ K hK
 simp only at H
 unfold F67_l1
 rw [hs]
 refine sub_st (by omega) (by omega) (by omega) (by omega) fun s6 h6 => ?_
 have k6 := k.sub (fun _ => rfl) h6 (by rw [B_len]; omega)
 have b6 : ((B bs).take (bs.length : Int).toNat).drop ((a : Int)).toNat = B (bs.drop a) := by
  rw [B_drop, List.take_of_length_le (by rw [B_len]; omega)]; rfl
 rw [b6] at k6
 have hc6 : s6.len ≤ s6.cap := by
  obtain ⟨x1, x2, _⟩ := sub_at h6
  rw [x1, x2]; omega
 refine cl_mono (open_spec hc6 (by simp; omega) k6.tail.tail H) ?_
 rintro ⟨q, n, e⟩ w hres
 obtain ⟨g, rfl⟩ : ∃ g, f = g + 1 := ⟨f - 1, by omega⟩
 simp only [scanF] at he
 cases ho : opn (bs.drop a) with
 | error e' =>
  rw [ho] at hres he
  obtain ⟨h1, h2, H⟩ := hres
  simp only at h1 he
  subst h1
  rw [if_pos (by simpa using h2)]
  rw [he]
  exact ⟨rfl, qs, H⟩
 | ok p =>
  obtain ⟨x, n'⟩ := p
  rw [ho] at hres he
  obtain ⟨h1, h2, h3, H⟩ := hres
  simp only at h1 h2 h3 he H
  subst h1; subst h2
  rw [if_neg (by simp)]
  obtain ⟨g1, g2, g3, g4⟩ := opn_ok ho
  rw [List.length_drop] at g1
  have hql : qs.length = xs.length := by
   obtain ⟨I, _, hI⟩ := (Know.everI (Know.tail (Know.tail (Know.here (m := LoadsP.mono))))) H
   exact hI.1
  refine apl_row (fun _ => rfl) 1 H rfl (by simp; omega) fun r' w H => ?_
  have e1 : IntKind.i64.wrap ((a : Int) + (n' : Int)) = ((a + n' : Nat) : Int) := by rw [wrap_i64 (by omega) (by omega)]; omega
  rw [e1]
  have H2 := H.know (φ := LoadsP (qs ++ [q]) (xs ++ [x])) (m := LoadsP.mono) (by
   intro I h hh
   have p1 : LoadsP qs xs I := (Know.tail (Know.tail (Know.here (m := LoadsP.mono)))) I h hh
   have p2 : RoP (tInt .u8) q (B x) I := (Know.tail (Know.here (m := RoP.mono))) I h hh
   exact p1.push h3 p2)
  refine hK _ _ _ ?_ ⟨a + n', g, xs ++ [x], qs ++ [q], rfl, rfl, by omega, by omega, by simp; omega, by rw [he, List.drop_drop], ?_⟩
  ·omega
  ·exact (H2.ord [2, 3]).drop.drop.front 1
structure Wl where
 all : Int
 sure : Int
 log : Int
 dead : Bool
def walA (b d : Nat) (V : Wl) : Assn := cel b (TW.cells ⟨⟨V.all, V.sure⟩, some ⟨d, 0, none⟩, V.log, V.dead⟩) 88
def appW (D : Dk) (V : Wl) (x : List UInt8) : Dk × Wl × Int :=
 if V.dead then (D, V, 81) else if 65536 < x.length then (D, V, 30)
 else ((appendD D V.log (frm x)).1, { V with all := if (appendD D V.log (frm x)).2 = 0 then IntKind.i64.wrap (V.all + 1) else V.all, dead := V.dead || (appendD D V.log (frm x)).2 == 71 }, (appendD D V.log (frm x)).2)
def synW (D : Dk) (V : Wl) : Dk × Wl × Int :=
 if V.dead then (D, V, 81)
 else ((syncD D V.log).1, { V with sure := if (syncD D V.log).2 = 0 then V.all else V.sure, dead := V.dead || (syncD D V.log).2 == 71 }, (syncD D V.log).2)
theorem met_spec {b d : Nat} {V : Wl} {e : Int} (H : St W (walA b d V :: l) w) : cl Tryz.prog 37 [.pointer (some ⟨b, 0, none⟩), .int .i64 e] (tInt .i64) w fun r w' => r = e ∧ St W (walA b d { V with dead := V.dead || e == 71 } :: l) w' := by
 refine F37_ok ?_
 unfold F37
 refine nc_st rfl ?_
 refine ld_st (x := V.dead) 0 H rfl rfl rfl ?_
 refine st_st (x := V.dead || e == 71) 0 H rfl rfl (Nat.le_of_ble_eq_true rfl) fun w H => ?_
 exact ⟨rfl, H⟩
theorem appw_spec {b d : Nat} {D : Dk} {V : Wl} {q : Slc} {x : List UInt8} (hok : D.Ok) (hn : x.length ≤ 9223372036854775806) (k : See 1 l (tInt .u8) q (B x)) (H : St W (walA b d V :: dskA d D :: l) w) :
  cl Tryz.prog 36 [.pointer (some ⟨b, 0, none⟩), tSlc.enc q] (tInt .i64) w fun r w' => r = (appW D V x).2.2 ∧ St W (walA b d (appW D V x).2.1 :: dskA d (appW D V x).1 :: l) w' := by
 refine F36_ok ?_
 unfold F36 F36_j1 appW
 refine nc_st rfl ?_
 refine ld_st (x := V.dead) 0 H rfl rfl rfl ?_
 by_cases hd : V.dead = true
 ·rw [if_pos hd, if_pos hd]
  exact ⟨rfl, H⟩
 ·rw [if_neg hd, if_neg hd]
  refine cl_mono (seal_spec hn k.tail.tail H) ?_
  rintro ⟨r, e⟩ w ⟨h1, h2⟩
  by_cases hx : 65536 < x.length
  ·obtain ⟨h3, H⟩ := h1 hx
   cases h3
   rw [if_pos (by simp), if_pos hx]
   exact ⟨rfl, H⟩
  ·obtain ⟨h3, H⟩ := h2 (by omega)
   simp only at h3 H
   subst h3
   rw [if_neg (by simp), if_neg hx]
   refine dr_st H fun w H => ?_
   refine ld_st (x := some ⟨d, 0, none⟩) 1 H rfl rfl rfl ?_
   refine ld_st (x := V.log) 1 H rfl rfl rfl ?_
   refine cl_mono (append_spec hok (by rw [frm_len]; omega) (See.row (fun _ => rfl) 0 rfl) (H.front 2)) ?_
   rintro e w ⟨rfl, H⟩
   refine cl_mono (met_spec (H.front 2)) ?_
   rintro e w ⟨rfl, H⟩
   refine ⟨rdat_cel tPtr H rfl rfl, rdat_cel (tInt .i64) H rfl rfl, ?_⟩
   by_cases he : (appendD D V.log (frm x)).2 = 0
   ·rw [if_pos (by simp [he]), if_pos he]
    refine ld_st (x := V.all) 0 H rfl rfl rfl ?_
    refine st_st (x := IntKind.i64.wrap (V.all + 1)) 0 H rfl rfl (Nat.le_of_ble_eq_true rfl) fun w H => ?_
    exact ⟨rfl, (H.ord [2]).drop⟩
   ·rw [if_neg (by simp [he]), if_neg he]
    exact ⟨rfl, (H.ord [2]).drop⟩
theorem synw_spec {b d : Nat} {D : Dk} {V : Wl} (hok : D.Ok) (H : St W (walA b d V :: dskA d D :: l) w) :
  cl Tryz.prog 15 [.pointer (some ⟨b, 0, none⟩)] (tInt .i64) w fun r w' => r = (synW D V).2.2 ∧ St W (walA b d (synW D V).2.1 :: dskA d (synW D V).1 :: l) w' := by
 refine F15_ok ?_
 unfold F15 F15_j1 synW
 refine nc_st rfl ?_
 refine ld_st (x := V.dead) 0 H rfl rfl rfl ?_
 by_cases hd : V.dead = true
 ·rw [if_pos hd, if_pos hd]
  exact ⟨rfl, H⟩
 ·rw [if_neg hd, if_neg hd]
  refine dr_st H fun w H => ?_
  refine ld_st (x := some ⟨d, 0, none⟩) 0 H rfl rfl rfl ?_
  refine ld_st (x := V.log) 0 H rfl rfl rfl ?_
  refine cl_mono (sync_spec hok (H.front 1)) ?_
  rintro e w ⟨rfl, H⟩
  refine cl_mono (met_spec (H.front 1)) ?_
  rintro e w ⟨rfl, H⟩
  refine ⟨rdat_cel tPtr H rfl rfl, rdat_cel (tInt .i64) H rfl rfl, ?_⟩
  by_cases he : (syncD D V.log).2 = 0
  ·rw [if_pos (by simp [he]), if_pos he]
   refine ld_st (x := V.all) 0 H rfl rfl rfl ?_
   refine st_st (x := V.all) 0 H rfl rfl (Nat.le_of_ble_eq_true rfl) fun w H => ?_
   exact ⟨rfl, H⟩
  ·rw [if_neg (by simp [he]), if_neg he]
   exact ⟨rfl, H⟩
def mendD (D : Dk) (n : Int) (g : Log) : Dk × Int :=
 if (scan g.b).2 < g.b.length then swapD D n (g.b.take (scan g.b).2) else if g.sure < (scan g.b).2 then syncD D n else (D, 0)
theorem scan_le (bs : List UInt8) : (scan bs).2 ≤ bs.length := by
 have key : ∀ (f : Nat) (bs : List UInt8) (l : List (List UInt8)) (a : Nat), (scanF f bs l a).2 ≤ a + bs.length := by
  intro f
  induction f with
  | zero => intro bs l a; simp [scanF]
  | succ f ih =>
   intro bs l a
   simp only [scanF]
   cases ho : opn bs with
   | error e => simp
   | ok p =>
    obtain ⟨x, n⟩ := p
    have := ih (bs.drop n) (l ++ [x]) (a + n)
    have h := opn_ok ho
    rw [List.length_drop] at this
    simp only
    omega
 have := key (bs.length + 1) bs [] 0
 unfold scan; omega
theorem scan_count (bs : List UInt8) : (scan bs).1.length ≤ bs.length := by
 have key : ∀ (f : Nat) (bs : List UInt8) (l : List (List UInt8)) (a : Nat), (scanF f bs l a).1.length ≤ l.length + bs.length := by
  intro f
  induction f with
  | zero => intro bs l a; simp [scanF]
  | succ f ih =>
   intro bs l a
   simp only [scanF]
   cases ho : opn bs with
   | error e => simp
   | ok p =>
    obtain ⟨x, n⟩ := p
    have := ih (bs.drop n) (l ++ [x]) (a + n)
    have h := opn_ok ho
    rw [List.length_drop] at this
    simp only [List.length_append, List.length_cons, List.length_nil] at this
    simp only
    omega
 have := key (bs.length + 1) bs [] 0
 unfold scan; simpa using this
theorem openw_spec {d : Nat} {D : Dk} {n : Int} {g : Log} (hok : D.Ok) (h0 : 0 ≤ n) (hdn : D.down = false) (hg : D.logs[n.toNat]? = some g) (H : St W (dskA d D :: l) w) :
  cl Tryz.prog 33 [.pointer (some ⟨d, 0, none⟩), .int .i64 n] (tTup3 tPtr tSlc (tInt .i64)) w fun r w' => r.2.2 = (mendD D n g).2 ∧ ((mendD D n g).2 = 0 → ∃ (b : Nat) (qs : List Slc), r.1 = some ⟨b, 0, none⟩ ∧
   St W (walA b d ⟨(scan g.b).1.length, (scan g.b).1.length, n, false⟩ :: dskA d (mendD D n g).1 :: row tSlc 25 1 r.2.1 qs :: loadsA qs (scan g.b).1 :: l) w') ∧ ((mendD D n g).2 ≠ 0 → r.1 = none ∧ St W (dskA d (mendD D n g).1 :: l) w') := by
 have hlt := (List.getElem?_eq_some_iff.1 hg).1
 have hgl := hok.log g (List.mem_of_getElem? hg)
 refine F33_ok ?_
 unfold F33
 rw [if_neg (by simp)]
 refine cl_mono (readD_spec (n := n) hok H) ?_
 rintro ⟨r, e⟩ w ⟨_, _, h3⟩
 obtain ⟨h4, H⟩ := h3 g h0 hdn hg
 simp only at h4 H
 subst h4
 rw [if_neg (by simp)]
 have hrl := row_len H
 have hrc := row_cap H
 rw [B_len] at hrl
 have H := row_stay H
 have kr : Know [ro (tInt .u8) r (B g.b)] (RoP (tInt .u8) r (B g.b)) := Know.here (m := RoP.mono)
 refine cl_mono (scan_spec hrc (by omega) (Know.here (m := RoP.mono)) H) ?_
 rintro ⟨q, m⟩ w ⟨hm, qs, H⟩
 simp only at hm H
 subst hm
 have hsl := scan_le g.b
 rw [hrl]
 have j1 : ∀ (D' : Dk) (e : Int) (w : World), mendD D n g = (D', e) → St W (dskA d D' :: row tSlc 25 1 q qs :: loadsA qs (scan g.b).1 :: l) w → F33_j1 (some ⟨d, 0, none⟩) n (q, ((scan g.b).2 : Int)) e w fun r w' => r.2.2 = (mendD D n g).2 ∧ ((mendD D n g).2 = 0 → ∃ (b : Nat) (qs : List Slc), r.1 = some ⟨b, 0, none⟩ ∧
   St W (walA b d ⟨(scan g.b).1.length, (scan g.b).1.length, n, false⟩ :: dskA d (mendD D n g).1 :: row tSlc 25 1 r.2.1 qs :: loadsA qs (scan g.b).1 :: l) w') ∧ ((mendD D n g).2 ≠ 0 → r.1 = none ∧ St W (dskA d (mendD D n g).1 :: l) w') := by
  intro D' e w hme H
  rw [hme]
  unfold F33_j1
  by_cases he : e = 0
  ·subst he
   rw [if_neg (by simp)]
   have hql := row_len (H.front 1)
   have hqx : qs.length = (scan g.b).1.length := by
    obtain ⟨I, _, hI⟩ := (Know.everI (Know.tail (Know.tail (Know.here (m := LoadsP.mono))))) H
    exact hI.1
   simp only
   rw [hql, hqx]
   refine nw_st H fun b w H => ?_
   exact ⟨by trivial, fun _ => ⟨b, qs, rfl, H⟩, fun h => absurd rfl h⟩
  ·rw [if_pos (by simpa using he)]
   exact ⟨by trivial, fun h => absurd h he, fun _ => ⟨by trivial, ((H.ord [1, 2]).drop.drop)⟩⟩
 by_cases h1 : (scan g.b).2 < g.b.length
 ·rw [if_pos (by simp; omega)]
  dsimp only
  refine sub_st (by omega) (by omega) (by omega) (by omega) fun s12 h12 => ?_
  have k12 := (Know.tail (Know.tail (Know.here (m := RoP.mono)) : Know (loadsA qs (scan g.b).1 :: ro (tInt .u8) r (B g.b) :: dskA d D :: l) (RoP (tInt .u8) r (B g.b))) : Know (row tSlc 25 1 q qs :: loadsA qs (scan g.b).1 :: ro (tInt .u8) r (B g.b) :: dskA d D :: l) (RoP (tInt .u8) r (B g.b)))
  have H3 := H.ord [3, 2]
  have k13 : Know (ro (tInt .u8) r (B g.b) :: row tSlc 25 1 q qs :: loadsA qs (scan g.b).1 :: l) (RoP (tInt .u8) r (B g.b)) := Know.here (m := RoP.mono)
  have k14 := k13.sub (fun _ => rfl) h12 (by rw [B_len]; omega)
  have b12 : ((B g.b).take (((scan g.b).2 : Nat) : Int).toNat).drop ((0 : Int)).toNat = B (g.b.take (scan g.b).2) := by rw [B_take]; rfl
  rw [b12] at k14
  refine cl_mono (swap_spec (n := n) hok (by rw [List.length_take]; omega) (See.ro (fun _ => rfl) k14) H3) ?_
  rintro e w ⟨rfl, H⟩
  refine j1 _ _ w ?_ ((H.front 1).drop)
  unfold mendD
  rw [if_pos h1]
 ·rw [if_neg (by simp; omega)]
  refine cl_mono (sureD_spec h0 hg (H.ord [3, 2])) ?_
  rintro e w ⟨rfl, H⟩
  by_cases h2 : g.sure < (scan g.b).2
  ·rw [if_pos (by simp; omega)]
   refine cl_mono (sync_spec (n := n) hok H) ?_
   rintro e w ⟨rfl, H⟩
   refine j1 _ _ w ?_ ((H.front 1).drop)
   unfold mendD
   rw [if_neg h1, if_pos h2]
  ·rw [if_neg (by simp; omega)]
   refine j1 D 0 w ?_ ((H.front 1).drop)
   unfold mendD
   rw [if_neg h1, if_neg h2]
end
end Go.Proofs.YtehclfjjjiiieaaGreat.Disk
namespace Go.Proofs.YtehclfjjjiiieaaGreat.Disk
open Go Go.Proofs.YtehclfjjjiiieaaGreat.Cf Go.Proofs.YtehclfjjjiiieaaGreat.Wire
set_option linter.unusedVariables false
set_option linter.unusedSimpArgs false
set_option maxRecDepth 100000
section
variable {W w : World} {l l' : List Assn}
theorem wlen_spec {b d : Nat} {V : Wl} (H : St W (walA b d V :: l) w) : cl Tryz.prog 21 [.pointer (some ⟨b, 0, none⟩)] (tInt .i64) w fun r w' => r = V.all ∧ St W (walA b d V :: l) w' := by
 refine F21_ok ?_
 unfold F21
 refine nc_st rfl ?_
 refine ld_st (x := V.all) 0 H rfl rfl rfl ?_
 exact ⟨rfl, H⟩
theorem wsure_spec {b d : Nat} {V : Wl} (H : St W (walA b d V :: l) w) : cl Tryz.prog 23 [.pointer (some ⟨b, 0, none⟩)] (tInt .i64) w fun r w' => r = V.sure ∧ St W (walA b d V :: l) w' := by
 refine F23_ok ?_
 unfold F23
 refine nc_st rfl ?_
 refine ld_st (x := V.sure) 0 H rfl rfl rfl ?_
 exact ⟨rfl, H⟩
end
end Go.Proofs.YtehclfjjjiiieaaGreat.Disk
namespace Go.Proofs.YtehclfjjjiiieaaGreat
open Go Go.Proofs.YtehclfjjjiiieaaGreat.Cf
set_option linter.unusedVariables false
set_option linter.unusedSimpArgs false
set_option maxRecDepth 100000
theorem ownNone : ownKnob Tryz.prog.godebug = none := by kernel_rfl
theorem laidOutYes : laidOutB Tryz.prog = true := by kernel_rfl
section
variable {H : Type} {enc : TypeId × Value → H} {W : World} {base : Nat} {spare : Nat → Bool} {held : Bool}
def G3 (W : World) (x : Int) : Prop := IntKind.i64.min ≤ x ∧ x ≤ IntKind.i64.max
theorem opn3 : Opn enc Tryz.prog W base spare held 3 (tInt .i64) (G3 W) := opn_int Tryz.underlying3
def G2 (W : World) (x : Int) : Prop := IntKind.i64.min ≤ x ∧ x ≤ IntKind.i64.max
theorem opn2 : Opn enc Tryz.prog W base spare held 2 (tInt .i64) (G2 W) := opn_int Tryz.underlying2
def G4 (W : World) (x : Bool) : Prop := True
theorem opn4 : Opn enc Tryz.prog W base spare held 4 tBool (G4 W) := opn_bool Tryz.underlying4
def G23 (W : World) (x : S22) : Prop := G3 W x.Kind ∧ G2 W x.T_ ∧ G3 W x.ID ∧ G3 W x.Account ∧ G2 W x.N ∧ G4 W x.Pays
theorem opn23 : Opn enc Tryz.prog W base spare held 23 T22 (G23 W) := by
 refine opn_agg Tryz.underlying23 (show Tryz.prog.cellsOf 23 = 6 by kernel_rfl) fun cs hl hf => ?_
 obtain ⟨m0, x0, h0⟩ := hf 0 0 3 1 ⟨_, rfl, rfl, rfl⟩ (by kernel_rfl)
 obtain ⟨y0, e0, g0⟩ := opn3 _ _ _ h0
 obtain ⟨m1, x1, h1⟩ := hf 1 1 2 1 ⟨_, rfl, rfl, rfl⟩ (by kernel_rfl)
 obtain ⟨y1, e1, g1⟩ := opn2 _ _ _ h1
 obtain ⟨m2, x2, h2⟩ := hf 2 2 3 1 ⟨_, rfl, rfl, rfl⟩ (by kernel_rfl)
 obtain ⟨y2, e2, g2⟩ := opn3 _ _ _ h2
 obtain ⟨m3, x3, h3⟩ := hf 3 3 3 1 ⟨_, rfl, rfl, rfl⟩ (by kernel_rfl)
 obtain ⟨y3, e3, g3⟩ := opn3 _ _ _ h3
 obtain ⟨m4, x4, h4⟩ := hf 4 4 2 1 ⟨_, rfl, rfl, rfl⟩ (by kernel_rfl)
 obtain ⟨y4, e4, g4⟩ := opn2 _ _ _ h4
 obtain ⟨m5, x5, h5⟩ := hf 5 5 4 1 ⟨_, rfl, rfl, rfl⟩ (by kernel_rfl)
 obtain ⟨y5, e5, g5⟩ := opn4 _ _ _ h5
 exact ⟨⟨y0, y1, y2, y3, y4, y5⟩, dj (o := 0) (k := 1) e0 (dj (o := 1) (k := 1) e1 (dj (o := 2) (k := 1) e2 (dj (o := 3) (k := 1) e3 (dj (o := 4) (k := 1) e4 (dj (o := 5) (k := 1) e5 (dend hl)))))), g0, g1, g2, g3, g4, g5⟩
def G32 (W : World) (s : Slc) : Prop := (s.len ≤ s.cap ∧ s.cap ≤ 9223372036854775807) ∧ ∃ xs, (∀ x ∈ xs, G23 W x) ∧ RoP T22 s xs fun b => W.heap[b]?
theorem opn32 : Opn enc Tryz.prog W base spare held 32 tSlc (G32 W) := opn_slice Tryz.underlying32 (show Tryz.prog.cellsOf 23 = 6 by kernel_rfl) (by decide) (fun _ => rfl) opn23
end
end Go.Proofs.YtehclfjjjiiieaaGreat
namespace Go.Proofs.YtehclfjjjiiieaaGreat.Cf
open Go
set_option maxRecDepth 100000
set_option maxHeartbeats 1000000
set_option linter.unusedVariables false
set_option linter.unusedSimpArgs false
def F4_j2 (i_11 : Int) (w14 : World) (K13 : Int → World → Prop) (R : Bool → World → Prop) : Prop :=
 K13 ((IntKind.i64.wrap (i_11 + (1 : Int)))) w14
def F4_j3 (m_2 : Slc) (r8 : ((Option Addr) × Int)) (i_11 : Int) (w15 : World) (K13 : Int → World → Prop) (R : Bool → World → Prop) : Prop :=
 if (decide (i_11 < (m_2.len : Int))) = true then (
  ex (IxA m_2 6 i_11) fun a16 =>
  ex (RdAt T22 a16 w15) fun x17 =>
  cl Tryz.prog 14 [.pointer (r8.1), T22.enc (x17)] (tInt .i64) w15 fun r19 w18 =>
  F4_j2 i_11 w18 K13 R
 ) else (
  F4_j2 i_11 w15 K13 R
 )
def F4_j4 (t_39 : Bool) (w40 : World) (R : Bool → World → Prop) : Prop :=
 R t_39 w40
def F4_l1 (l_1 : Slc) (m_2 : Slc) (r4 : ((Option Addr) × Int)) (r6 : ((Option Addr) × Int)) (r8 : ((Option Addr) × Int)) (i_11 : Int) (w12 : World) (K13 : Int → World → Prop) (R : Bool → World → Prop) : Prop :=
 if (decide (i_11 < (20 : Int))) = true then (
  if (decide (i_11 < (l_1.len : Int))) = true then (
   ex (IxA l_1 6 i_11) fun a21 =>
   ex (RdAt T22 a21 w12) fun x22 =>
   cl Tryz.prog 14 [.pointer (r6.1), T22.enc (x22)] (tInt .i64) w12 fun r24 w23 =>
   F4_j3 m_2 r8 i_11 w23 K13 R
  ) else (
   F4_j3 m_2 r8 i_11 w12 K13 R
  )
 ) else (
  ex (NC r6.1) fun a26 =>
  ex (RdAt tPtr (a26.add 0) w12) fun x27 =>
  cl Tryz.prog 15 [.pointer (x27)] (tInt .i64) w12 fun r29 w28 =>
  if (r29 != (0 : Int)) = true then (
   R false w28
  ) else (
   cl Tryz.prog 16 [.pointer (r4.1), tSlc.enc ((⟨none, 0, 0⟩ : Slc))] tUnit w28 fun r31 w30 =>
   cl Tryz.prog 17 [.pointer (r4.1)] tUnit w30 fun r33 w32 =>
   cl Tryz.prog 13 [.pointer (r4.1), .int .i64 ((0 : Int)), .float .f64 ((4576918229304087675 : Nat))] (tTup2 tPtr (tInt .i64)) w32 fun r35 w34 =>
   cl Tryz.prog 13 [.pointer (r4.1), .int .i64 ((1 : Int)), .float .f64 ((0 : Nat))] (tTup2 tPtr (tInt .i64)) w34 fun r37 w36 =>
   if ((((r35.2 != (0 : Int)) || (r37.2 != (0 : Int))) || r35.1.isNone) || r37.1.isNone) = true then (
    R false w36
   ) else (
    ex (Sub l_1 6 0 (min (l_1.len : Int) (20 : Int)) ((l_1).cap : Int)) fun s38 =>
    dr w36 fun w41 =>
    cl Tryz.prog 19 [.pointer (r35.1)] tPtr w41 fun r43 w42 =>
    cl Tryz.prog 20 [tSlc.enc (s38), .float .f64 ((4576918229304087675 : Nat))] tPtr w42 fun r45 w44 =>
    cl Tryz.prog 18 [.pointer (r43), .pointer (r45), tSlc.enc (s38)] tBool w44 fun r47 w46 =>
    if r47 = true then (
     ex (NC r37.1) fun a49 =>
     ex (RdAt tPtr (a49.add 0) w46) fun x50 =>
     cl Tryz.prog 21 [.pointer (x50)] (tInt .i64) w46 fun r52 w51 =>
     if (r52 == (0 : Int)) = true then (
      ex (Sub m_2 6 0 (min (m_2.len : Int) (20 : Int)) ((m_2).cap : Int)) fun s54 =>
      cl Tryz.prog 19 [.pointer (r37.1)] tPtr w51 fun r56 w55 =>
      kp ((RdAt tPtr (a49.add 0) w55) x50) <|
      cl Tryz.prog 20 [tSlc.enc ((⟨none, 0, 0⟩ : Slc)), .float .f64 ((0 : Nat))] tPtr w55 fun r59 w58 =>
      kp ((RdAt tPtr (a49.add 0) w58) x50) <|
      cl Tryz.prog 18 [.pointer (r56), .pointer (r59), tSlc.enc (s54)] tBool w58 fun r62 w61 =>
      kp ((RdAt tPtr (a49.add 0) w61) x50) <|
      F4_j4 r62 w61 R
     ) else (
      F4_j4 false w51 R
     )
    ) else (
     if false = true then (
      ex (Sub m_2 6 0 (min (m_2.len : Int) (20 : Int)) ((m_2).cap : Int)) fun s65 =>
      cl Tryz.prog 19 [.pointer (r37.1)] tPtr w46 fun r67 w66 =>
      cl Tryz.prog 20 [tSlc.enc ((⟨none, 0, 0⟩ : Slc)), .float .f64 ((0 : Nat))] tPtr w66 fun r69 w68 =>
      cl Tryz.prog 18 [.pointer (r67), .pointer (r69), tSlc.enc (s65)] tBool w68 fun r71 w70 =>
      F4_j4 r71 w70 R
     ) else (
      F4_j4 false w46 R
     )
    )
   )
  )
 )
def F4 (l_1 : Slc) (m_2 : Slc) (w : World) (R : Bool → World → Prop) : Prop :=
 cl Tryz.prog 12 [.int .i64 ((2 : Int))] (tTup2 tPtr (tInt .i64)) w fun r4 w3 =>
 cl Tryz.prog 13 [.pointer (r4.1), .int .i64 ((0 : Int)), .float .f64 ((4576918229304087675 : Nat))] (tTup2 tPtr (tInt .i64)) w3 fun r6 w5 =>
 cl Tryz.prog 13 [.pointer (r4.1), .int .i64 ((1 : Int)), .float .f64 ((0 : Nat))] (tTup2 tPtr (tInt .i64)) w5 fun r8 w7 =>
 cl Tryz.prog 7 [] tBool w7 fun r10 w9 =>
 if ((((((!r10) || (r4.2 != (0 : Int))) || (r6.2 != (0 : Int))) || (r8.2 != (0 : Int))) || r6.1.isNone) || r8.1.isNone) = true then (
  R false w9
 ) else (
  lp (fun (s : Int) w K => F4_l1 l_1 m_2 r4 r6 r8 s w K R) ((0 : Int)) w9
 )
theorem F4_ok {l_1 : Slc} {m_2 : Slc} {w : World} {R : Bool → World → Prop} (h : F4 l_1 m_2 w R) : cl Tryz.prog 4 [tSlc.enc (l_1), tSlc.enc (m_2)] tBool w R := by
 unfold F4 at h
 refine calls_start 140 Tryz.func4 rfl rfl (Nat.le_of_ble_eq_true rfl) <| wp_seq <| wp_text [0] rfl <| za 4 (.bool (false)) rfl rfl <| ro_nil <| wp_seq <| wp_text [0, 1, 2, 3, 4, 5] rfl <| zc ent12 rfl rfl h fun r4 w3 h => zm 16 ((tTup2 tPtr (tInt .i64)).enc (r4)) rfl rfl <| ze 18 (.pointer (r4.1)) rfl rfl rfl <| ze 19 (.int .i64 (r4.2)) rfl rfl rfl <| za 5 (.pointer (r4.1)) rfl rfl ?_
 refine za 6 (.int .i64 (r4.2)) rfl rfl <| ro_nil <| wp_seq <| wp_text [0, 1, 2, 3, 4, 5, 6] rfl <| zm 21 (.pointer (r4.1)) rfl rfl <| zc ent13 rfl rfl h fun r6 w5 h => zm 20 ((tTup2 tPtr (tInt .i64)).enc (r6)) rfl rfl <| ze 23 (.pointer (r6.1)) rfl rfl rfl <| ze 24 (.int .i64 (r6.2)) rfl rfl rfl <| za 7 (.pointer (r6.1)) rfl rfl <| za 8 (.int .i64 (r6.2)) rfl rfl <| ro_nil ?_
 refine wp_seq <| wp_text [0, 1, 2, 3, 4, 5, 6] rfl <| zm 26 (.pointer (r4.1)) rfl rfl <| zc ent13 rfl rfl h fun r8 w7 h => zm 25 ((tTup2 tPtr (tInt .i64)).enc (r8)) rfl rfl <| ze 28 (.pointer (r8.1)) rfl rfl rfl <| ze 29 (.int .i64 (r8.2)) rfl rfl rfl <| za 9 (.pointer (r8.1)) rfl rfl <| za 10 (.int .i64 (r8.2)) rfl rfl <| ro_nil <| wp_seq <| wp_seq ?_
 refine wp_text [0, 1, 2, 3, 4, 5, 6, 7, 8, 9, 10, 11, 12, 13, 14, 15, 16, 17, 18, 19, 20, 21] rfl <| zc ent7 rfl rfl h fun r10 w9 h => rv 31 rfl rfl rfl (q_not (b := r10) rfl rfl) <| zm 32 (.bool ((!r10))) rfl rfl <| ro_gval (g := (!(!r10))) (d := (some 33)) rfl (.no 2 32 true (!r10) rfl rfl rfl rfl) rfl (fun hg => q_move (v := .int .i64 (r4.2)) rfl rfl) <| ro_gval (g := (!(!r10))) (d := (some 34)) rfl (.no 2 32 true (!r10) rfl rfl rfl rfl) rfl (fun hg => q_neq (k := .i64) (a := r4.2) (b := (0 : Int)) rfl (gvb_yes hg) rfl) <| rv 35 rfl rfl rfl (q_pickGF (a := (!r10)) (c := (r4.2 != (0 : Int))) rfl rfl rfl rfl) <| zm 36 (.bool (((!r10) || (r4.2 != (0 : Int))))) rfl rfl <| ro_gval (g := (!((!r10) || (r4.2 != (0 : Int))))) (d := (some 37)) rfl (.no 6 36 true ((!r10) || (r4.2 != (0 : Int))) rfl rfl rfl rfl) rfl (fun hg => q_move (v := .int .i64 (r6.2)) rfl rfl) <| ro_gval (g := (!((!r10) || (r4.2 != (0 : Int))))) (d := (some 38)) rfl (.no 6 36 true ((!r10) || (r4.2 != (0 : Int))) rfl rfl rfl rfl) rfl (fun hg => q_neq (k := .i64) (a := r6.2) (b := (0 : Int)) rfl (gvb_yes hg) rfl) <| rv 39 rfl rfl rfl (q_pickGF (a := ((!r10) || (r4.2 != (0 : Int)))) (c := (r6.2 != (0 : Int))) rfl rfl rfl rfl) <| zm 40 (.bool ((((!r10) || (r4.2 != (0 : Int))) || (r6.2 != (0 : Int))))) rfl rfl ?_
 refine ro_gval (g := (!(((!r10) || (r4.2 != (0 : Int))) || (r6.2 != (0 : Int))))) (d := (some 41)) rfl (.no 10 40 true (((!r10) || (r4.2 != (0 : Int))) || (r6.2 != (0 : Int))) rfl rfl rfl rfl) rfl (fun hg => q_move (v := .int .i64 (r8.2)) rfl rfl) <| ro_gval (g := (!(((!r10) || (r4.2 != (0 : Int))) || (r6.2 != (0 : Int))))) (d := (some 42)) rfl (.no 10 40 true (((!r10) || (r4.2 != (0 : Int))) || (r6.2 != (0 : Int))) rfl rfl rfl rfl) rfl (fun hg => q_neq (k := .i64) (a := r8.2) (b := (0 : Int)) rfl (gvb_yes hg) rfl) <| rv 43 rfl rfl rfl (q_pickGF (a := (((!r10) || (r4.2 != (0 : Int))) || (r6.2 != (0 : Int)))) (c := (r8.2 != (0 : Int))) rfl rfl rfl rfl) <| zm 44 (.bool (((((!r10) || (r4.2 != (0 : Int))) || (r6.2 != (0 : Int))) || (r8.2 != (0 : Int))))) rfl rfl <| ro_gval (g := (!((((!r10) || (r4.2 != (0 : Int))) || (r6.2 != (0 : Int))) || (r8.2 != (0 : Int))))) (d := (some 45)) rfl (.no 14 44 true ((((!r10) || (r4.2 != (0 : Int))) || (r6.2 != (0 : Int))) || (r8.2 != (0 : Int))) rfl rfl rfl rfl) rfl (fun hg => q_move (v := .pointer (r6.1)) rfl rfl) <| ro_gval (g := (!((((!r10) || (r4.2 != (0 : Int))) || (r6.2 != (0 : Int))) || (r8.2 != (0 : Int))))) (d := (some 46)) rfl (.no 14 44 true ((((!r10) || (r4.2 != (0 : Int))) || (r6.2 != (0 : Int))) || (r8.2 != (0 : Int))) rfl rfl rfl rfl) rfl (fun hg => q_eqP0 (a := r6.1) rfl Tryz.underlying37 (gvb_yes hg) rfl) <| rv 47 rfl rfl rfl (q_pickGF (a := ((((!r10) || (r4.2 != (0 : Int))) || (r6.2 != (0 : Int))) || (r8.2 != (0 : Int)))) (c := r6.1.isNone) rfl rfl rfl rfl) <| zm 48 (.bool ((((((!r10) || (r4.2 != (0 : Int))) || (r6.2 != (0 : Int))) || (r8.2 != (0 : Int))) || r6.1.isNone))) rfl rfl <| ro_gval (g := (!(((((!r10) || (r4.2 != (0 : Int))) || (r6.2 != (0 : Int))) || (r8.2 != (0 : Int))) || r6.1.isNone))) (d := (some 49)) rfl (.no 18 48 true (((((!r10) || (r4.2 != (0 : Int))) || (r6.2 != (0 : Int))) || (r8.2 != (0 : Int))) || r6.1.isNone) rfl rfl rfl rfl) rfl (fun hg => q_move (v := .pointer (r8.1)) rfl rfl) <| ro_gval (g := (!(((((!r10) || (r4.2 != (0 : Int))) || (r6.2 != (0 : Int))) || (r8.2 != (0 : Int))) || r6.1.isNone))) (d := (some 50)) rfl (.no 18 48 true (((((!r10) || (r4.2 != (0 : Int))) || (r6.2 != (0 : Int))) || (r8.2 != (0 : Int))) || r6.1.isNone) rfl rfl rfl rfl) rfl (fun hg => q_eqP0 (a := r8.1) rfl Tryz.underlying37 (gvb_yes hg) rfl) <| rv 51 rfl rfl rfl (q_pickGF (a := (((((!r10) || (r4.2 != (0 : Int))) || (r6.2 != (0 : Int))) || (r8.2 != (0 : Int))) || r6.1.isNone)) (c := r8.1.isNone) rfl rfl rfl rfl) <| ro_nil ?_
 refine zi h rfl (fun _ h => ?_) fun _ h => ?_
 ·refine wp_seq <| wp_text [0] rfl <| za 4 (.bool (false)) rfl rfl <| ro_nil <| wp_ret ?_
  exact zr1 h rfl rfl
 ·refine wp_skip <| wp_seq <| wp_seq <| wp_text [0] rfl <| za 11 (.int .i64 ((0 : Int))) rfl rfl <| ro_nil <| wp_block <| loop_at (σ := Int) (fr := fun g (s : Int) => upd (upd (upd (upd (upd (upd (g) 0 (tSlc.enc (l_1))) 1 (tSlc.enc (m_2))) 5 (.pointer (r4.1))) 7 (.pointer (r6.1))) 9 (.pointer (r8.1))) 11 (.int .i64 (s))) (s0 := ((0 : Int))) (upd_step (upd_step (upd_step (upd_step (upd_step (upd_step rfl rfl) rfl) rfl) rfl) rfl) rfl) h ?_
  rintro i_11 g w12 K13 h
  unfold F4_l1 at h
  refine wp_seq <| wp_seq <| wp_text [0, 1] rfl <| zm 52 (.int .i64 (i_11)) rfl rfl <| rv 53 rfl rfl rfl (q_lss (a := i_11) (b := (20 : Int)) rfl rfl rfl) <| ro_nil <| zi h rfl (fun _ h => ?_) fun _ h => ?_
  ·refine wp_skip <| seq_join (σ := Unit) (J := fun (s : Unit) w => F4_j2 i_11 w K13 R) (fr := fun g (s : Unit) => upd (upd (upd (upd (upd (upd (g) 0 (tSlc.enc (l_1))) 1 (tSlc.enc (m_2))) 5 (.pointer (r4.1))) 7 (.pointer (r6.1))) 9 (.pointer (r8.1))) 11 (.int .i64 (i_11))) ?_ ?_
   ·rintro ⟨⟩ g w14 h
    unfold F4_j2 at h
    refine wp_text [0, 1, 2] rfl <| zm 54 (.int .i64 (i_11)) rfl rfl <| rv 55 rfl rfl rfl (q_add (a := i_11) (b := (1 : Int)) rfl rfl rfl) <| za 11 (.int .i64 ((IntKind.i64.wrap (i_11 + (1 : Int))))) rfl rfl <| ro_nil ?_
    exact ⟨((IntKind.i64.wrap (i_11 + (1 : Int)))), _, arr (upd_step (upd_step (upd_step (upd_step (upd_step (upd_step rfl rfl) rfl) rfl) rfl) rfl) rfl), h⟩
   ·refine wp_block <| seq_join (σ := Unit) (J := fun (s : Unit) w => F4_j3 m_2 r8 i_11 w K13 R) (fr := fun g (s : Unit) => upd (upd (upd (upd (upd (upd (g) 0 (tSlc.enc (l_1))) 1 (tSlc.enc (m_2))) 5 (.pointer (r4.1))) 7 (.pointer (r6.1))) 9 (.pointer (r8.1))) 11 (.int .i64 (i_11))) ?_ ?_
    ·rintro ⟨⟩ g w15 h
     unfold F4_j3 at h
     refine wp_seq <| wp_text [0, 1, 2, 3] rfl <| zm 66 (.int .i64 (i_11)) rfl rfl <| zm 67 (tSlc.enc (m_2)) rfl rfl <| rv 68 rfl rfl rfl (q_len (s := m_2) rfl Tryz.underlying32 rfl) <| rv 69 rfl rfl rfl (q_lss (a := i_11) (b := (m_2.len : Int)) rfl rfl rfl) <| ro_nil <| zi h rfl (fun _ h => ?_) fun _ h => ?_
     ·refine wp_text [0, 1, 2, 3, 4, 5] rfl <| zm 70 (.pointer (r8.1)) rfl rfl <| zm 71 (tSlc.enc (m_2)) rfl rfl <| zm 72 (.int .i64 (i_11)) rfl rfl ?_
      obtain ⟨a16, ha16, h⟩ := h
      refine rv 73 rfl rfl rfl (q_indexAddr (s := m_2) (k := .i64) (i := i_11) rfl Tryz.underlying32 ok23 rfl rfl ha16) ?_
      obtain ⟨x17, hx17, h⟩ := h
      refine zl 74 hx17 ok23 rfl rfl <| zc ent14 rfl rfl h fun r19 w18 h => ro_nil ?_
      exact ⟨(), _, arr (upd_step (upd_step (upd_step (upd_step (upd_step (upd_step rfl rfl) rfl) rfl) rfl) rfl) rfl), h⟩
     ·refine wp_skip ?_
      exact ⟨(), _, arr (upd_step (upd_step (upd_step (upd_step (upd_step (upd_step rfl rfl) rfl) rfl) rfl) rfl) rfl), h⟩
    ·refine wp_seq <| wp_text [0, 1, 2, 3] rfl <| zm 56 (.int .i64 (i_11)) rfl rfl <| zm 57 (tSlc.enc (l_1)) rfl rfl <| rv 58 rfl rfl rfl (q_len (s := l_1) rfl Tryz.underlying32 rfl) <| rv 59 rfl rfl rfl (q_lss (a := i_11) (b := (l_1.len : Int)) rfl rfl rfl) <| ro_nil <| zi h rfl (fun _ h => ?_) fun _ h => ?_
     ·refine wp_text [0, 1, 2, 3, 4, 5] rfl <| zm 60 (.pointer (r6.1)) rfl rfl <| zm 61 (tSlc.enc (l_1)) rfl rfl <| zm 62 (.int .i64 (i_11)) rfl rfl ?_
      obtain ⟨a21, ha21, h⟩ := h
      refine rv 63 rfl rfl rfl (q_indexAddr (s := l_1) (k := .i64) (i := i_11) rfl Tryz.underlying32 ok23 rfl rfl ha21) ?_
      obtain ⟨x22, hx22, h⟩ := h
      refine zl 64 hx22 ok23 rfl rfl <| zc ent14 rfl rfl h fun r24 w23 h => ro_nil ?_
      exact ⟨(), _, arr (upd_step (upd_step (upd_step (upd_step (upd_step (upd_step rfl rfl) rfl) rfl) rfl) rfl) rfl), h⟩
     ·refine wp_skip ?_
      exact ⟨(), _, arr (upd_step (upd_step (upd_step (upd_step (upd_step (upd_step rfl rfl) rfl) rfl) rfl) rfl) rfl), h⟩
  ·refine wp_exit <| wp_seq <| wp_seq <| wp_text [0, 1, 2, 3, 4, 5] rfl <| zm 76 (.pointer (r6.1)) rfl rfl ?_
   obtain ⟨a26, ha26, h⟩ := h
   refine zn 77 ha26 rfl rfl <| zf 78 a26 0 Tryz.underlying46 ok43 rfl rfl rfl ?_
   obtain ⟨x27, hx27, h⟩ := h
   refine zl 79 hx27 ok43 rfl rfl <| zc ent15 rfl rfl h fun r29 w28 h => rv 81 rfl rfl rfl (q_neq (a := r29) (b := (0 : Int)) rfl rfl rfl) <| ro_nil <| zi h rfl (fun _ h => ?_) fun _ h => ?_
   ·refine wp_seq <| wp_text [0] rfl <| za 4 (.bool (false)) rfl rfl <| ro_nil <| wp_ret ?_
    exact zr1 h rfl rfl
   ·refine wp_skip <| wp_seq <| wp_text [0, 1] rfl <| zm 82 (.pointer (r4.1)) rfl rfl <| zc ent16 rfl rfl h fun r31 w30 h => ro_nil <| wp_seq <| wp_text [0, 1] rfl <| zm 84 (.pointer (r4.1)) rfl rfl <| zc ent17 rfl rfl h fun r33 w32 h => ro_nil <| wp_seq ?_
    refine wp_text [0, 1, 2, 3, 4, 5, 6] rfl <| zm 87 (.pointer (r4.1)) rfl rfl <| zc ent13 rfl rfl h fun r35 w34 h => zm 86 ((tTup2 tPtr (tInt .i64)).enc (r35)) rfl rfl <| ze 89 (.pointer (r35.1)) rfl rfl rfl <| ze 90 (.int .i64 (r35.2)) rfl rfl rfl <| za 12 (.pointer (r35.1)) rfl rfl <| za 13 (.int .i64 (r35.2)) rfl rfl <| ro_nil <| wp_seq <| wp_text [0, 1, 2, 3, 4, 5, 6] rfl <| zm 92 (.pointer (r4.1)) rfl rfl ?_
    refine zc ent13 rfl rfl h fun r37 w36 h => zm 91 ((tTup2 tPtr (tInt .i64)).enc (r37)) rfl rfl <| ze 94 (.pointer (r37.1)) rfl rfl rfl <| ze 95 (.int .i64 (r37.2)) rfl rfl rfl <| za 14 (.pointer (r37.1)) rfl rfl <| za 15 (.int .i64 (r37.2)) rfl rfl <| ro_nil <| wp_seq <| wp_seq <| wp_text [0, 1, 2, 3, 4, 5, 6, 7, 8, 9, 10, 11, 12, 13] rfl <| zm 96 (.int .i64 (r35.2)) rfl rfl <| rv 97 rfl rfl rfl (q_neq (a := r35.2) (b := (0 : Int)) rfl rfl rfl) ?_
    refine zm 98 (.bool ((r35.2 != (0 : Int)))) rfl rfl <| ro_gval (g := (!(r35.2 != (0 : Int)))) (d := (some 99)) rfl (.no 2 98 true (r35.2 != (0 : Int)) rfl rfl rfl rfl) rfl (fun hg => q_move (v := .int .i64 (r37.2)) rfl rfl) <| ro_gval (g := (!(r35.2 != (0 : Int)))) (d := (some 100)) rfl (.no 2 98 true (r35.2 != (0 : Int)) rfl rfl rfl rfl) rfl (fun hg => q_neq (k := .i64) (a := r37.2) (b := (0 : Int)) rfl (gvb_yes hg) rfl) <| rv 101 rfl rfl rfl (q_pickGF (a := (r35.2 != (0 : Int))) (c := (r37.2 != (0 : Int))) rfl rfl rfl rfl) <| zm 102 (.bool (((r35.2 != (0 : Int)) || (r37.2 != (0 : Int))))) rfl rfl <| ro_gval (g := (!((r35.2 != (0 : Int)) || (r37.2 != (0 : Int))))) (d := (some 103)) rfl (.no 6 102 true ((r35.2 != (0 : Int)) || (r37.2 != (0 : Int))) rfl rfl rfl rfl) rfl (fun hg => q_move (v := .pointer (r35.1)) rfl rfl) <| ro_gval (g := (!((r35.2 != (0 : Int)) || (r37.2 != (0 : Int))))) (d := (some 104)) rfl (.no 6 102 true ((r35.2 != (0 : Int)) || (r37.2 != (0 : Int))) rfl rfl rfl rfl) rfl (fun hg => q_eqP0 (a := r35.1) rfl Tryz.underlying37 (gvb_yes hg) rfl) <| rv 105 rfl rfl rfl (q_pickGF (a := ((r35.2 != (0 : Int)) || (r37.2 != (0 : Int)))) (c := r35.1.isNone) rfl rfl rfl rfl) <| zm 106 (.bool ((((r35.2 != (0 : Int)) || (r37.2 != (0 : Int))) || r35.1.isNone))) rfl rfl <| ro_gval (g := (!(((r35.2 != (0 : Int)) || (r37.2 != (0 : Int))) || r35.1.isNone))) (d := (some 107)) rfl (.no 10 106 true (((r35.2 != (0 : Int)) || (r37.2 != (0 : Int))) || r35.1.isNone) rfl rfl rfl rfl) rfl (fun hg => q_move (v := .pointer (r37.1)) rfl rfl) <| ro_gval (g := (!(((r35.2 != (0 : Int)) || (r37.2 != (0 : Int))) || r35.1.isNone))) (d := (some 108)) rfl (.no 10 106 true (((r35.2 != (0 : Int)) || (r37.2 != (0 : Int))) || r35.1.isNone) rfl rfl rfl rfl) rfl (fun hg => q_eqP0 (a := r37.1) rfl Tryz.underlying37 (gvb_yes hg) rfl) <| rv 109 rfl rfl rfl (q_pickGF (a := (((r35.2 != (0 : Int)) || (r37.2 != (0 : Int))) || r35.1.isNone)) (c := r37.1.isNone) rfl rfl rfl rfl) ?_
    refine ro_nil <| zi h rfl (fun _ h => ?_) fun _ h => ?_
    ·refine wp_seq <| wp_text [0] rfl <| za 4 (.bool (false)) rfl rfl <| ro_nil <| wp_ret ?_
     exact zr1 h rfl rfl
    ·refine wp_skip <| wp_seq <| wp_text [0, 1, 2, 3, 4, 5] rfl <| zm 110 (tSlc.enc (l_1)) rfl rfl <| zm 111 (tSlc.enc (l_1)) rfl rfl <| rv 112 rfl rfl rfl (q_len (s := l_1) rfl Tryz.underlying32 rfl) <| rv 113 rfl rfl rfl (q_min (a := (l_1.len : Int)) (b := (20 : Int)) rfl rfl rfl) ?_
     obtain ⟨s38, hs38, h⟩ := h
     refine rv 114 rfl rfl rfl (q_sliceH (s := l_1) (h := (min (l_1.len : Int) (20 : Int))) rfl Tryz.underlying32 ok23 rfl rfl hs38) <| za 0 (tSlc.enc (s38)) rfl rfl <| ro_nil <| seq_join (σ := Bool) (J := fun (s : Bool) w => F4_j4 s w R) (fr := fun g (s : Bool) => upd (g) 4 (.bool (s))) ?_ ?_
     ·rintro t_39 g w40 h
      unfold F4_j4 at h
      refine wp_ret ?_
      exact zr1 h rfl rfl
     ·obtain ⟨w41, hw41, h⟩ := dr_open h
      refine wp_drawn 26 mixed rfl (by kernel_rfl) (by intro c a d v w h; cases d <;> exact h) hw41 (fun hD => ?_)
      refine ym 0 115 (.pointer (r35.1)) hD rfl rfl <| ym 2 117 (tSlc.enc (s38)) hD rfl rfl <| ym 4 119 (tSlc.enc (s38)) hD rfl rfl <| rd_one (i := 1) (by kernel_rfl) <| po_wp rfl (.free rfl) (wp_cl (d := (some 116)) rfl (q_call (k := 19) (l := [.pointer (r35.1)]) rfl ent19 rfl) h ?_)
      intro r43 w42 h
      refine ⟨hk_nil, ?_⟩
      refine rd_one (i := 3) (by kernel_rfl) <| po_wp rfl (.free rfl) (wp_cl (d := (some 118)) rfl (q_call (k := 20) (l := [tSlc.enc (s38), .float .f64 ((4576918229304087675 : Nat))]) rfl ent20 rfl) h ?_)
      intro r45 w44 h
      refine ⟨hk_nil, ?_⟩
      refine rd_one (i := 5) (by kernel_rfl) <| po_wp rfl (.free rfl) (wp_cl (d := (some 120)) rfl (q_call (k := 18) (l := [.pointer (r43), .pointer (r45), tSlc.enc (s38)]) rfl ent18 rfl) h ?_)
      intro r47 w46 h
      refine ⟨hk_nil, ?_⟩
      refine ym 6 121 (.bool (r47)) hD rfl rfl <| ro_if (b := r47) h (fun hb48 h => ?_) (fun hb48 h => ?_)
      ·refine rd_pure (i := 7) (d := (some 122)) hD (by kernel_rfl) (by kernel_rfl) rfl (.by_ 6 true 121 r47 rfl rfl rfl hb48) rfl (fun _ => q_move (v := .pointer (r37.1)) rfl rfl) ?_
       obtain ⟨a49, ha49, h⟩ := h
       refine rd_pure (i := 8) (d := (some 123)) hD (by kernel_rfl) (by kernel_rfl) rfl (.by_ 6 true 121 r47 rfl rfl rfl hb48) rfl (fun _ => q_nilCheck (a := a49) rfl (congrArg Value.pointer ha49)) <| rd_pure (i := 9) (d := (some 124)) hD (by kernel_rfl) (by kernel_rfl) rfl (.by_ 6 true 121 r47 rfl rfl rfl hb48) rfl (fun _ => q_fieldAddr (a := a49) (off := 0) rfl Tryz.underlying46 rfl rfl ok43 (by decide) rfl) ?_
       obtain ⟨x50, hx50, h⟩ := h
       refine rd_read (i := 10) (d := (some 125)) (fun W => (RdAt tPtr (a49.add 0) W) x50) hD (by kernel_rfl) (by kernel_rfl) rfl (.by_ 6 true 121 r47 rfl rfl rfl hb48) rfl (fun W hr => q_load (T := tPtr) (u := x50) (a := (a49.add 0)) rfl ok43 rfl hr) hx50 <| rd_one (i := 11) (by kernel_rfl) <| po_wp rfl (.by_ 6 true 121 r47 rfl rfl rfl hb48) (wp_cl (d := (some 126)) rfl (q_call (k := 21) (l := [.pointer (x50)]) rfl ent21 rfl) h ?_)
       intro r52 w51 h
       refine ⟨(hk_wait (by kernel_rfl) hk_nil), ?_⟩
       refine rd_pure (i := 12) (d := (some 127)) hD (by kernel_rfl) (by kernel_rfl) rfl (.by_ 6 true 121 r47 rfl rfl rfl hb48) rfl (fun _ => q_eql (a := r52) (b := (0 : Int)) rfl rfl rfl) <| rp 13 128 hD rfl rfl rfl (fun _ => q_pickT (v := .bool ((r52 == (0 : Int)))) (b := r47) rfl rfl hb48 rfl) <| ym 14 129 (.bool ((r52 == (0 : Int)))) hD rfl rfl <| ro_if (b := (r52 == (0 : Int))) h (fun hb53 h => ?_) (fun hb53 h => ?_)
       ·refine rd_pure (i := 15) (d := (some 130)) hD (by kernel_rfl) (by kernel_rfl) rfl (.by_ 14 true 129 (r52 == (0 : Int)) rfl rfl rfl hb53) rfl (fun _ => q_move (v := .pointer (r37.1)) rfl rfl) <| rd_pure (i := 18) (d := (some 133)) hD (by kernel_rfl) (by kernel_rfl) rfl (.by_ 14 true 129 (r52 == (0 : Int)) rfl rfl rfl hb53) rfl (fun _ => q_move (v := tSlc.enc (m_2)) rfl rfl) <| rd_pure (i := 19) (d := (some 134)) hD (by kernel_rfl) (by kernel_rfl) rfl (.by_ 14 true 129 (r52 == (0 : Int)) rfl rfl rfl hb53) rfl (fun _ => q_move (v := tSlc.enc (m_2)) rfl rfl) <| rd_pure (i := 20) (d := (some 135)) hD (by kernel_rfl) (by kernel_rfl) rfl (.by_ 14 true 129 (r52 == (0 : Int)) rfl rfl rfl hb53) rfl (fun _ => q_len (s := m_2) rfl Tryz.underlying32 rfl) <| rd_pure (i := 21) (d := (some 136)) hD (by kernel_rfl) (by kernel_rfl) rfl (.by_ 14 true 129 (r52 == (0 : Int)) rfl rfl rfl hb53) rfl (fun _ => q_min (a := (m_2.len : Int)) (b := (20 : Int)) rfl rfl rfl) ?_
        obtain ⟨s54, hs54, h⟩ := h
        refine rd_pure (i := 22) (d := (some 137)) hD (by kernel_rfl) (by kernel_rfl) rfl (.by_ 14 true 129 (r52 == (0 : Int)) rfl rfl rfl hb53) rfl (fun _ => q_sliceH (s := m_2) (h := (min (m_2.len : Int) (20 : Int))) rfl Tryz.underlying32 ok23 rfl rfl hs54) <| rd_one (i := 16) (by kernel_rfl) <| po_wp rfl (.by_ 14 true 129 (r52 == (0 : Int)) rfl rfl rfl hb53) (wp_cl (d := (some 131)) rfl (q_call (k := 19) (l := [.pointer (r37.1)]) rfl ent19 rfl) h ?_)
        intro r56 w55 h
        obtain ⟨hk57, h⟩ := h
        refine ⟨(hk_keep (fun _ => hk57) hk_nil), ?_⟩
        refine rd_one (i := 17) (by kernel_rfl) <| po_wp rfl (.by_ 14 true 129 (r52 == (0 : Int)) rfl rfl rfl hb53) (wp_cl (d := (some 132)) rfl (q_call (k := 20) (l := [tSlc.enc ((⟨none, 0, 0⟩ : Slc)), .float .f64 ((0 : Nat))]) rfl ent20 rfl) h ?_)
        intro r59 w58 h
        obtain ⟨hk60, h⟩ := h
        refine ⟨(hk_keep (fun _ => hk60) hk_nil), ?_⟩
        refine rd_one (i := 23) (by kernel_rfl) <| po_wp rfl (.by_ 14 true 129 (r52 == (0 : Int)) rfl rfl rfl hb53) (wp_cl (d := (some 138)) rfl (q_call (k := 18) (l := [.pointer (r56), .pointer (r59), tSlc.enc (s54)]) rfl ent18 rfl) h ?_)
        intro r62 w61 h
        obtain ⟨hk63, h⟩ := h
        refine ⟨(hk_keep (fun _ => hk63) hk_nil), ?_⟩
        refine rp 24 139 hD rfl rfl rfl (fun _ => q_pickT (v := .bool (r62)) (b := (r52 == (0 : Int))) rfl rfl hb53 rfl) <| ya 25 4 (.bool (r62)) hD rfl rfl <| rd_nil (by kernel_rfl) ?_
        exact ⟨(r62), _, arr (upd_step rfl rfl), h⟩
       ·refine yb 15 130 hD rfl (.by_ 14 true 129 (r52 == (0 : Int)) rfl rfl rfl hb53) rfl <| yb 18 133 hD rfl (.by_ 14 true 129 (r52 == (0 : Int)) rfl rfl rfl hb53) rfl <| yb 19 134 hD rfl (.by_ 14 true 129 (r52 == (0 : Int)) rfl rfl rfl hb53) rfl <| yb 20 135 hD rfl (.by_ 14 true 129 (r52 == (0 : Int)) rfl rfl rfl hb53) rfl <| yb 21 136 hD rfl (.by_ 14 true 129 (r52 == (0 : Int)) rfl rfl rfl hb53) rfl <| yb 22 137 hD rfl (.by_ 14 true 129 (r52 == (0 : Int)) rfl rfl rfl hb53) rfl <| rd_one (i := 16) (by kernel_rfl) <| po_bar (d := (some 131)) rfl (.by_ 14 true 129 (r52 == (0 : Int)) rfl rfl rfl hb53) rfl ⟨fun _ _ _ h => h, ?_⟩
        refine rd_one (i := 17) (by kernel_rfl) <| po_bar (d := (some 132)) rfl (.by_ 14 true 129 (r52 == (0 : Int)) rfl rfl rfl hb53) rfl ⟨fun _ _ _ h => h, ?_⟩
        refine rd_one (i := 23) (by kernel_rfl) <| po_bar (d := (some 138)) rfl (.by_ 14 true 129 (r52 == (0 : Int)) rfl rfl rfl hb53) rfl ⟨fun _ _ _ h => h, ?_⟩
        refine rp 24 139 hD rfl rfl rfl (fun _ => q_pickF (v := .bool (false)) (b := (r52 == (0 : Int))) rfl rfl hb53 rfl) <| ya 25 4 (.bool (false)) hD rfl rfl <| rd_nil (by kernel_rfl) ?_
        exact ⟨(false), _, arr (upd_step rfl rfl), h⟩
      ·refine yb 7 122 hD rfl (.by_ 6 true 121 r47 rfl rfl rfl hb48) rfl <| yb 8 123 hD rfl (.by_ 6 true 121 r47 rfl rfl rfl hb48) rfl <| yb 9 124 hD rfl (.by_ 6 true 121 r47 rfl rfl rfl hb48) rfl <| yb 10 125 hD rfl (.by_ 6 true 121 r47 rfl rfl rfl hb48) rfl <| rd_one (i := 11) (by kernel_rfl) <| po_bar (d := (some 126)) rfl (.by_ 6 true 121 r47 rfl rfl rfl hb48) rfl ⟨fun _ _ _ h => h, ?_⟩
       refine yb 12 127 hD rfl (.by_ 6 true 121 r47 rfl rfl rfl hb48) rfl <| rp 13 128 hD rfl rfl rfl (fun _ => q_pickF (v := .bool (false)) (b := r47) rfl rfl hb48 rfl) <| ym 14 129 (.bool (false)) hD rfl rfl <| ro_if (b := false) h (fun hb64 h => ?_) (fun hb64 h => ?_)
       ·refine rd_pure (i := 15) (d := (some 130)) hD (by kernel_rfl) (by kernel_rfl) rfl (.by_ 14 true 129 false rfl rfl rfl hb64) rfl (fun _ => q_move (v := .pointer (r37.1)) rfl rfl) <| rd_pure (i := 18) (d := (some 133)) hD (by kernel_rfl) (by kernel_rfl) rfl (.by_ 14 true 129 false rfl rfl rfl hb64) rfl (fun _ => q_move (v := tSlc.enc (m_2)) rfl rfl) <| rd_pure (i := 19) (d := (some 134)) hD (by kernel_rfl) (by kernel_rfl) rfl (.by_ 14 true 129 false rfl rfl rfl hb64) rfl (fun _ => q_move (v := tSlc.enc (m_2)) rfl rfl) <| rd_pure (i := 20) (d := (some 135)) hD (by kernel_rfl) (by kernel_rfl) rfl (.by_ 14 true 129 false rfl rfl rfl hb64) rfl (fun _ => q_len (s := m_2) rfl Tryz.underlying32 rfl) <| rd_pure (i := 21) (d := (some 136)) hD (by kernel_rfl) (by kernel_rfl) rfl (.by_ 14 true 129 false rfl rfl rfl hb64) rfl (fun _ => q_min (a := (m_2.len : Int)) (b := (20 : Int)) rfl rfl rfl) ?_
        obtain ⟨s65, hs65, h⟩ := h
        refine rd_pure (i := 22) (d := (some 137)) hD (by kernel_rfl) (by kernel_rfl) rfl (.by_ 14 true 129 false rfl rfl rfl hb64) rfl (fun _ => q_sliceH (s := m_2) (h := (min (m_2.len : Int) (20 : Int))) rfl Tryz.underlying32 ok23 rfl rfl hs65) <| rd_one (i := 16) (by kernel_rfl) <| po_wp rfl (.by_ 14 true 129 false rfl rfl rfl hb64) (wp_cl (d := (some 131)) rfl (q_call (k := 19) (l := [.pointer (r37.1)]) rfl ent19 rfl) h ?_)
        intro r67 w66 h
        refine ⟨hk_nil, ?_⟩
        refine rd_one (i := 17) (by kernel_rfl) <| po_wp rfl (.by_ 14 true 129 false rfl rfl rfl hb64) (wp_cl (d := (some 132)) rfl (q_call (k := 20) (l := [tSlc.enc ((⟨none, 0, 0⟩ : Slc)), .float .f64 ((0 : Nat))]) rfl ent20 rfl) h ?_)
        intro r69 w68 h
        refine ⟨hk_nil, ?_⟩
        refine rd_one (i := 23) (by kernel_rfl) <| po_wp rfl (.by_ 14 true 129 false rfl rfl rfl hb64) (wp_cl (d := (some 138)) rfl (q_call (k := 18) (l := [.pointer (r67), .pointer (r69), tSlc.enc (s65)]) rfl ent18 rfl) h ?_)
        intro r71 w70 h
        refine ⟨hk_nil, ?_⟩
        refine rp 24 139 hD rfl rfl rfl (fun _ => q_pickT (v := .bool (r71)) (b := false) rfl rfl hb64 rfl) <| ya 25 4 (.bool (r71)) hD rfl rfl <| rd_nil (by kernel_rfl) ?_
        exact ⟨(r71), _, arr (upd_step rfl rfl), h⟩
       ·refine yb 15 130 hD rfl (.by_ 14 true 129 false rfl rfl rfl hb64) rfl <| yb 18 133 hD rfl (.by_ 14 true 129 false rfl rfl rfl hb64) rfl <| yb 19 134 hD rfl (.by_ 14 true 129 false rfl rfl rfl hb64) rfl <| yb 20 135 hD rfl (.by_ 14 true 129 false rfl rfl rfl hb64) rfl <| yb 21 136 hD rfl (.by_ 14 true 129 false rfl rfl rfl hb64) rfl <| yb 22 137 hD rfl (.by_ 14 true 129 false rfl rfl rfl hb64) rfl <| rd_one (i := 16) (by kernel_rfl) <| po_bar (d := (some 131)) rfl (.by_ 14 true 129 false rfl rfl rfl hb64) rfl ⟨fun _ _ _ h => h, ?_⟩
        refine rd_one (i := 17) (by kernel_rfl) <| po_bar (d := (some 132)) rfl (.by_ 14 true 129 false rfl rfl rfl hb64) rfl ⟨fun _ _ _ h => h, ?_⟩
        refine rd_one (i := 23) (by kernel_rfl) <| po_bar (d := (some 138)) rfl (.by_ 14 true 129 false rfl rfl rfl hb64) rfl ⟨fun _ _ _ h => h, ?_⟩
        refine rp 24 139 hD rfl rfl rfl (fun _ => q_pickF (v := .bool (false)) (b := false) rfl rfl hb64 rfl) <| ya 25 4 (.bool (false)) hD rfl rfl <| rd_nil (by kernel_rfl) ?_
        exact ⟨(false), _, arr (upd_step rfl rfl), h⟩
end Go.Proofs.YtehclfjjjiiieaaGreat.Cf
