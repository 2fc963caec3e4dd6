/- The bytes of values: how they are written, how they are read; the one undoes the other. -/
import Derived.Test.YtjkmeooncmhonaaFs
import Derived.Test.YtjkmeooncmhonaaSlK
namespace Go.Proofs.Ytjkmeooncmhonaa.Wire
open Go Go.Proofs.Ytjkmeooncmhonaa.Cf
set_option linter.unusedVariables false
set_option linter.unusedSimpArgs false
set_option maxRecDepth 100000
abbrev Val := S90
def isNaN (b : Nat) : Bool := decide (18437736874454810624 < 2 * b % 18446744073709551616)
/-- A float's bits as they are written. -/
def fb (b : Nat) : Nat := if isNaN b then 9221120237041090561 else b
theorem fb_fb (b : Nat) : fb (fb b) = fb b := by
  unfold fb
  cases h : isNaN b
  · simp [h]
  · have : isNaN 9221120237041090561 = true := by decide
    simp [this]
theorem fb_lt {b : Nat} (h : b < 18446744073709551616) : fb b < 18446744073709551616 := by unfold fb; split <;> omega
theorem fb_0 : fb 0 = 0 := by decide
/-! ### numbers -/
def num (n : Nat) : List UInt8 := if n < 128 then [UInt8.ofNat n] else UInt8.ofNat (128 + n % 128) :: num (n / 128)
termination_by n
decreasing_by omega
theorem num_lt {n : Nat} (h : n < 128) : num n = [UInt8.ofNat n] := by rw [num, if_pos h]
theorem num_ge {n : Nat} (h : 128 ≤ n) : num n = UInt8.ofNat (128 + n % 128) :: num (n / 128) := by rw [num, if_neg (by omega)]
theorem num_ne (n : Nat) : num n ≠ [] := by
  rw [num]; split <;> simp
def rdNum : List UInt8 → Nat → Nat → Except Int (Nat × List UInt8)
  | [], _, _ => .error 22
  | c :: bs, k, acc =>
    if (k = 9 ∧ 1 < c.toNat) ∨ (0 < k ∧ c.toNat = 0) then .error 23
    else if c.toNat < 128 then .ok (acc + c.toNat % 128 * 128 ^ k, bs)
    else rdNum bs (k + 1) (acc + c.toNat % 128 * 128 ^ k)
theorem u8_toNat {n : Nat} (h : n < 256) : (UInt8.ofNat n).toNat = n := by simp; omega
theorem p9 {k : Nat} (h : k ≤ 9) : 128 ^ k = 1 ∨ 128 ^ k = 128 ∨ 128 ^ k = 16384 ∨ 128 ^ k = 2097152 ∨ 128 ^ k = 268435456 ∨ 128 ^ k = 34359738368 ∨ 128 ^ k = 4398046511104 ∨ 128 ^ k = 562949953421312 ∨ 128 ^ k = 72057594037927936 ∨ k = 9 ∧ 128 ^ k = 9223372036854775808 := by
  have : k = 0 ∨ k = 1 ∨ k = 2 ∨ k = 3 ∨ k = 4 ∨ k = 5 ∨ k = 6 ∨ k = 7 ∨ k = 8 ∨ k = 9 := by omega
  rcases this with rfl | rfl | rfl | rfl | rfl | rfl | rfl | rfl | rfl | rfl <;> simp
theorem p8 {k : Nat} (h : k ≤ 8) : 128 ^ k = 1 ∨ 128 ^ k = 128 ∨ 128 ^ k = 16384 ∨ 128 ^ k = 2097152 ∨ 128 ^ k = 268435456 ∨ 128 ^ k = 34359738368 ∨ 128 ^ k = 4398046511104 ∨ 128 ^ k = 562949953421312 ∨ 128 ^ k = 72057594037927936 := by
  have : k = 0 ∨ k = 1 ∨ k = 2 ∨ k = 3 ∨ k = 4 ∨ k = 5 ∨ k = 6 ∨ k = 7 ∨ k = 8 := by omega
  rcases this with rfl | rfl | rfl | rfl | rfl | rfl | rfl | rfl | rfl <;> simp
theorem k9 {n k : Nat} (hk : k ≤ 9) (hn : n * 128 ^ k < 18446744073709551616) (h : k = 9) : n < 2 := by
  subst h
  simp at hn; omega
theorem rdNum_num : ∀ (n k acc : Nat) (rest : List UInt8), k ≤ 9 → n * 128 ^ k < 18446744073709551616 → (1 ≤ n ∨ k = 0) → rdNum (num n ++ rest) k acc = .ok (acc + n * 128 ^ k, rest) := by
  intro n
  induction n using Nat.strongRecOn with
  | _ n ih =>
    intro k acc rest hk hn h0
    by_cases h : n < 128
    · rw [num_lt h]
      have ht : (UInt8.ofNat n).toNat = n := u8_toNat (by omega)
      simp only [List.cons_append, List.nil_append, rdNum, ht]
      rw [if_neg (by rintro (⟨h1, h2⟩ | ⟨h1, h2⟩)
                     · have := k9 hk hn h1; omega
                     · omega), if_pos h, Nat.mod_eq_of_lt h]
    · have h8 : k ≤ 8 := by
        rcases Nat.lt_or_ge 8 k with h9 | h9
        · have := k9 hk hn (by omega); omega
        · exact h9
      rw [num_ge (by omega)]
      have ht : (UInt8.ofNat (128 + n % 128)).toNat = 128 + n % 128 := u8_toNat (by omega)
      simp only [List.cons_append, rdNum, ht]
      rw [if_neg (by omega), if_neg (by omega)]
      have hp : (128 : Nat) ^ (k + 1) = 128 ^ k * 128 := Nat.pow_succ ..
      have hm : n * 128 ^ k = n / 128 * 128 ^ (k + 1) + n % 128 * 128 ^ k := by
        rw [hp, Nat.mul_comm (128 ^ k) 128, ← Nat.mul_assoc, ← Nat.add_mul]
        congr 1; omega
      have e : (128 + n % 128) % 128 = n % 128 := by omega
      rw [ih (n / 128) (by omega) (k + 1) _ rest (by omega) (by omega) (by omega), e]
      congr 2; omega
theorem fit {k m c : Nat} (h : k ≤ 8) (hm : m * (128 ^ k * 128) < 18446744073709551616) (hc : c < 128 ^ k * 128) : m * (128 ^ k * 128) + c < 18446744073709551616 := by
  have hD : ∃ D, D * (128 ^ k * 128) = 18446744073709551616 := by
    refine ⟨18446744073709551616 / (128 ^ k * 128), ?_⟩
    rcases p8 h with e | e | e | e | e | e | e | e | e <;> rw [e]
  obtain ⟨D, hD⟩ := hD
  rw [← hD] at hm ⊢
  generalize 128 ^ k * 128 = p at *
  have h1 : m < D := Nat.lt_of_mul_lt_mul_right hm
  have h2 : (m + 1) * p ≤ D * p := Nat.mul_le_mul_right _ h1
  rw [Nat.add_mul, Nat.one_mul] at h2
  omega
theorem rdNum_sound : ∀ (bs : List UInt8) (k acc n : Nat) (rest : List UInt8), k ≤ 9 → rdNum bs k acc = .ok (n, rest) → ∃ m, n = acc + m * 128 ^ k ∧ m * 128 ^ k < 18446744073709551616 ∧ (1 ≤ m ∨ k = 0) ∧ bs = num m ++ rest
  | [], k, acc, n, rest, hk, h => by simp [rdNum] at h
  | c :: bs, k, acc, n, rest, hk, h => by
    simp only [rdNum] at h
    split at h
    · cases h
    · rename_i h1
      have hc : c.toNat < 256 := c.toNat_lt
      split at h
      · rename_i h2
        simp only [Except.ok.injEq, Prod.mk.injEq] at h
        obtain ⟨rfl, rfl⟩ := h
        refine ⟨c.toNat, by rw [Nat.mod_eq_of_lt h2], ?_, by omega, ?_⟩
        · rcases p9 hk with e | e | e | e | e | e | e | e | e | ⟨e9, e⟩ <;> rw [e] <;> omega
        · rw [num_lt h2]; simp
      · rename_i h2
        have h8 : k ≤ 8 := by omega
        obtain ⟨m, e1, e2, e3, e4⟩ := rdNum_sound bs (k + 1) _ n rest (by omega) h
        have hp : (128 : Nat) ^ (k + 1) = 128 ^ k * 128 := Nat.pow_succ ..
        have hm : (m * 128 + c.toNat % 128) * 128 ^ k = m * 128 ^ (k + 1) + c.toNat % 128 * 128 ^ k := by
          rw [hp, Nat.mul_comm (128 ^ k) 128, ← Nat.mul_assoc, ← Nat.add_mul]
        refine ⟨m * 128 + c.toNat % 128, by rw [hm, e1]; omega, ?_, by omega, ?_⟩
        · rw [hm, hp]
          rw [hp] at e2
          exact fit h8 e2 (by rw [Nat.mul_comm]; exact Nat.mul_lt_mul_of_pos_left (by omega) (Nat.pow_pos (by omega)))
        · rw [num_ge (by omega), e4]
          have q1 : 128 + (m * 128 + c.toNat % 128) % 128 = c.toNat := by omega
          have q2 : (m * 128 + c.toNat % 128) / 128 = m := by omega
          rw [q1, q2]; simp
theorem rdNum_cut : ∀ (n k acc : Nat) (p q : List UInt8), k ≤ 9 → n * 128 ^ k < 18446744073709551616 → num n = p ++ q → q ≠ [] → rdNum p k acc = .error 22 := by
  intro n
  induction n using Nat.strongRecOn with
  | _ n ih =>
    intro k acc p q hk hn he hq
    cases p with
    | nil => rfl
    | cons c p =>
      by_cases h : n < 128
      · rw [num_lt h] at he
        simp only [List.cons_append, List.cons.injEq] at he
        have := he.2
        simp at this
        exact absurd this.2 hq
      · have h8 : k ≤ 8 := by
          rcases Nat.lt_or_ge 8 k with h9 | h9
          · have := k9 hk hn (by omega); omega
          · exact h9
        rw [num_ge (by omega)] at he
        simp only [List.cons_append, List.cons.injEq] at he
        obtain ⟨rfl, he⟩ := he
        have ht : (UInt8.ofNat (128 + n % 128)).toNat = 128 + n % 128 := u8_toNat (by omega)
        simp only [rdNum, ht]
        rw [if_neg (by omega), if_neg (by omega)]
        have hp : (128 : Nat) ^ (k + 1) = 128 ^ k * 128 := Nat.pow_succ ..
        have hm : n * 128 ^ k = n / 128 * 128 ^ (k + 1) + n % 128 * 128 ^ k := by
          rw [hp, Nat.mul_comm (128 ^ k) 128, ← Nat.mul_assoc, ← Nat.add_mul]
          congr 1; omega
        exact ih (n / 128) (by omega) (k + 1) _ p q (by omega) (by omega) he hq
theorem num_len : ∀ (n k : Nat), k ≤ 9 → n * 128 ^ k < 18446744073709551616 → (num n).length + k ≤ 10 := by
  intro n
  induction n using Nat.strongRecOn with
  | _ n ih =>
    intro k hk hn
    by_cases h : n < 128
    · rw [num_lt h]; simp; omega
    · have h8 : k ≤ 8 := by
        rcases Nat.lt_or_ge 8 k with h9 | h9
        · have := k9 hk hn (by omega); omega
        · exact h9
      rw [num_ge (by omega)]
      have hp : (128 : Nat) ^ (k + 1) = 128 ^ k * 128 := Nat.pow_succ ..
      have hm : n * 128 ^ k = n / 128 * 128 ^ (k + 1) + n % 128 * 128 ^ k := by
        rw [hp, Nat.mul_comm (128 ^ k) 128, ← Nat.mul_assoc, ← Nat.add_mul]
        congr 1; omega
      have := ih (n / 128) (by omega) (k + 1) (by omega) (by omega)
      simp only [List.length_cons]; omega
/-! ### eight bytes -/
def be : Nat → Nat → List UInt8
  | 0, _ => []
  | i + 1, n => UInt8.ofNat (n / 256 ^ i % 256) :: be i n
theorem be_len : ∀ i n, (be i n).length = i
  | 0, _ => rfl
  | i + 1, n => by simp [be, be_len i n]
def rdBe : Nat → Nat → List UInt8 → Except Int (Nat × List UInt8)
  | 0, acc, bs => .ok (acc, bs)
  | _ + 1, _, [] => .error 22
  | i + 1, acc, c :: bs => rdBe i (acc * 256 + c.toNat) bs
theorem mod_pow (n i : Nat) : n % 256 ^ (i + 1) = n / 256 ^ i % 256 * 256 ^ i + n % 256 ^ i := by
  rw [Nat.pow_succ, Nat.mod_mul, Nat.mul_comm (256 ^ i), Nat.add_comm]
theorem rdBe_be : ∀ (i acc n : Nat) (rest : List UInt8), rdBe i acc (be i n ++ rest) = .ok (acc * 256 ^ i + n % 256 ^ i, rest)
  | 0, acc, n, rest => by simp [be, rdBe, Nat.mod_one]
  | i + 1, acc, n, rest => by
    have ht : (UInt8.ofNat (n / 256 ^ i % 256)).toNat = n / 256 ^ i % 256 := u8_toNat (by omega)
    simp only [be, List.cons_append, rdBe, ht, rdBe_be i]
    rw [mod_pow, Nat.pow_succ, Nat.mul_comm (256 ^ i) 256, ← Nat.mul_assoc, Nat.add_mul]
    congr 2; omega
theorem be_add (q : Nat) : ∀ (i n j : Nat), i ≤ j → be i (q * 256 ^ j + n) = be i n
  | 0, _, _, _ => rfl
  | i + 1, n, j, h => by
    simp only [be]
    have e : (q * 256 ^ j + n) / 256 ^ i % 256 = n / 256 ^ i % 256 := by
      have hp : (256 : Nat) ^ j = 256 ^ i * (256 * 256 ^ (j - i - 1)) := by
        rw [← Nat.mul_assoc, ← Nat.pow_succ, ← Nat.pow_add]; congr 1; omega
      have h0 : 0 < 256 ^ i := Nat.pow_pos (by omega)
      rw [hp]
      have e2 : q * (256 ^ i * (256 * 256 ^ (j - i - 1))) + n = n + 256 ^ i * (q * 256 ^ (j - i - 1) * 256) := by
        rw [Nat.add_comm]; congr 1
        rw [Nat.mul_left_comm, Nat.mul_comm 256, Nat.mul_assoc]
      rw [e2, Nat.add_mul_div_left _ _ h0, Nat.add_mul_mod_self_right]
    rw [e, be_add q i n j (by omega)]
theorem rdBe_sound : ∀ (i acc m : Nat) (bs rest : List UInt8), rdBe i acc bs = .ok (m, rest) → ∃ n, n < 256 ^ i ∧ m = acc * 256 ^ i + n ∧ bs = be i n ++ rest
  | 0, acc, m, bs, rest, h => by
    simp only [rdBe, Except.ok.injEq, Prod.mk.injEq] at h
    exact ⟨0, by simp, by simp [h.1], by simp [be, h.2]⟩
  | i + 1, acc, m, [], rest, h => by simp [rdBe] at h
  | i + 1, acc, m, c :: bs, rest, h => by
    have hc : c.toNat < 256 := c.toNat_lt
    obtain ⟨n, h1, h2, h3⟩ := rdBe_sound i _ m bs rest h
    have h0 : 0 < 256 ^ i := Nat.pow_pos (by omega)
    refine ⟨c.toNat * 256 ^ i + n, ?_, ?_, ?_⟩
    · rw [Nat.pow_succ, Nat.mul_comm (256 ^ i)]
      have : (c.toNat + 1) * 256 ^ i ≤ 256 * 256 ^ i := Nat.mul_le_mul_right _ (by omega)
      rw [Nat.add_mul] at this; omega
    · rw [h2, Nat.pow_succ, Nat.mul_comm (256 ^ i) 256, ← Nat.mul_assoc, Nat.add_mul]; omega
    · have e1 : (c.toNat * 256 ^ i + n) / 256 ^ i = c.toNat := by
        rw [Nat.add_comm, Nat.add_mul_div_right _ _ h0, Nat.div_eq_of_lt h1]; omega
      simp only [be, e1, be_add c.toNat i n i (Nat.le_refl i), List.cons_append, h3, Nat.mod_eq_of_lt hc]
      simp
theorem rdBe_cut : ∀ (i acc : Nat) (p : List UInt8), p.length < i → rdBe i acc p = .error 22
  | 0, _, _, h => by omega
  | i + 1, acc, [], _ => rfl
  | i + 1, acc, c :: p, h => rdBe_cut i _ p (by simpa using h)
/-! ### signed numbers -/
def zig (i : Int) : Nat := if i < 0 then 2 * (-(i + 1)).toNat + 1 else 2 * i.toNat
def zag (n : Nat) : Int := if n % 2 = 1 then -((n / 2 : Nat) : Int) - 1 else (n / 2 : Nat)
theorem zag_zig (i : Int) : zag (zig i) = i := by
  unfold zag zig
  split <;> split <;> omega
theorem zig_zag (n : Nat) : zig (zag n) = n := by
  unfold zag zig
  split <;> split <;> omega
theorem zig_lt {i : Int} (h0 : -9223372036854775808 ≤ i) (h1 : i ≤ 9223372036854775807) : zig i < 18446744073709551616 := by
  unfold zig; split <;> omega
theorem zag_le {n : Nat} (h : n < 18446744073709551616) : -9223372036854775808 ≤ zag n ∧ zag n ≤ 9223372036854775807 := by
  unfold zag; split <;> omega
/-! ### values -/
structure In (v : Val) : Prop where
  k0 : -9223372036854775808 ≤ v.Kind
  k1 : v.Kind ≤ 9223372036854775807
  u0 : 0 ≤ v.U
  u1 : v.U < 18446744073709551616
  i0 : -9223372036854775808 ≤ v.I
  i1 : v.I ≤ 9223372036854775807
  f : v.F < 18446744073709551616
/-- Only what the kind names. -/
def plainB (v : Val) : Bool :=
  if v.Kind = 1 then (v.I == 0 && v.F == 0) && v.S == []
  else if v.Kind = 2 then (v.U == 0 && v.F == 0) && v.S == []
  else if v.Kind = 3 then (v.U == 0 && v.I == 0) && v.S == []
  else if v.Kind = 4 then (v.U == 0 && v.I == 0) && v.F == 0
  else false
def okV (v : Val) : Int := if plainB v = false then 21 else if v.S.length > 1000 then 24 else 0
def enc1 (v : Val) : List UInt8 := UInt8.ofNat v.Kind.toNat ::
  (if v.Kind = 1 then num v.U.toNat else if v.Kind = 2 then num (zig v.I) else if v.Kind = 3 then be 8 (fb v.F) else num v.S.length ++ v.S)
def canon (v : Val) : Val := { v with F := fb v.F }
def dec1 : List UInt8 → Except Int (Val × List UInt8)
  | [] => .error 22
  | c :: bs =>
    if c.toNat = 1 then match rdNum bs 0 0 with
      | .error e => .error e
      | .ok (n, r) => .ok (⟨1, n, 0, 0, []⟩, r)
    else if c.toNat = 2 then match rdNum bs 0 0 with
      | .error e => .error e
      | .ok (n, r) => .ok (⟨2, 0, zag n, 0, []⟩, r)
    else if c.toNat = 3 then match rdBe 8 0 bs with
      | .error e => .error e
      | .ok (n, r) => if fb n ≠ n then .error 25 else .ok (⟨3, 0, 0, n, []⟩, r)
    else if c.toNat = 4 then match rdNum bs 0 0 with
      | .error e => .error e
      | .ok (n, r) => if 1000 < n then .error 24 else if r.length < n then .error 22 else .ok (⟨4, 0, 0, 0, r.take n⟩, r.drop n)
    else .error 21
theorem okV_kind {v : Val} (h : okV v = 0) : (v.Kind = 1 ∧ v.I = 0 ∧ v.F = 0 ∧ v.S = []) ∨ (v.Kind = 2 ∧ v.U = 0 ∧ v.F = 0 ∧ v.S = []) ∨ (v.Kind = 3 ∧ v.U = 0 ∧ v.I = 0 ∧ v.S = []) ∨ (v.Kind = 4 ∧ v.U = 0 ∧ v.I = 0 ∧ v.F = 0 ∧ v.S.length ≤ 1000) := by
  unfold okV at h
  split at h
  · simp at h
  · rename_i hp
    split at h
    · simp at h
    · rename_i hl
      unfold plainB at hp
      split at hp
      · simp at hp; exact .inl ⟨by assumption, hp.1, hp.2.1, hp.2.2⟩
      · split at hp
        · simp at hp; exact .inr (.inl ⟨by assumption, hp.1, hp.2.1, hp.2.2⟩)
        · split at hp
          · simp at hp; exact .inr (.inr (.inl ⟨by assumption, hp.1, hp.2.1, hp.2.2⟩))
          · split at hp
            · simp at hp; exact .inr (.inr (.inr ⟨by assumption, hp.1, hp.2.1, hp.2.2, by omega⟩))
            · simp at hp
theorem rdNum_ok {n : Nat} (h : n < 18446744073709551616) (rest : List UInt8) : rdNum (num n ++ rest) 0 0 = .ok (n, rest) := by
  have := rdNum_num n 0 0 rest (by omega) (by simpa using h) (.inr rfl)
  simpa using this
theorem dec1_enc1 {v : Val} (hi : In v) (h : okV v = 0) (rest : List UInt8) : dec1 (enc1 v ++ rest) = .ok (canon v, rest) := by
  obtain ⟨k, u, i, f, s⟩ := v
  rcases okV_kind h with ⟨h1, h2, h3, h4⟩ | ⟨h1, h2, h3, h4⟩ | ⟨h1, h2, h3, h4⟩ | ⟨h1, h2, h3, h4, h5⟩
  all_goals simp only at h1 h2 h3 h4
  · subst h1; subst h2; subst h3; subst h4
    have hu := hi.u1; have hu0 := hi.u0
    simp only at hu hu0
    have e : rdNum (num u.toNat ++ rest) 0 0 = .ok (u.toNat, rest) := rdNum_ok (by omega) rest
    have e2 : ((u.toNat : Nat) : Int) = u := by omega
    simp [enc1, dec1, e, canon, fb_0, e2]
  · subst h1; subst h2; subst h3; subst h4
    have e : rdNum (num (zig i) ++ rest) 0 0 = .ok (zig i, rest) := rdNum_ok (zig_lt hi.i0 hi.i1) rest
    simp [enc1, dec1, e, canon, fb_0, zag_zig]
  · subst h1; subst h2; subst h3; subst h4
    have e : rdBe 8 0 (be 8 (fb f) ++ rest) = .ok (fb f, rest) := by
      have := fb_lt hi.f
      rw [rdBe_be, Nat.mod_eq_of_lt (by simpa using this)]; simp
    simp [enc1, dec1, e, canon, fb_fb]
  · subst h1; subst h2; subst h3; subst h4
    simp only at h5
    have e : rdNum (num s.length ++ (s ++ rest)) 0 0 = .ok (s.length, s ++ rest) := rdNum_ok (by omega) _
    simp [enc1, dec1, e, canon, fb_0]
    rw [if_neg (by omega), if_neg (by omega)]
theorem num_len0 {n : Nat} (h : n < 18446744073709551616) : (num n).length ≤ 10 := by
  have := num_len n 0 (by omega) (by simpa using h); omega
theorem rdNum_ok2 {bs rest : List UInt8} {n : Nat} (h : rdNum bs 0 0 = .ok (n, rest)) : n < 18446744073709551616 ∧ bs = num n ++ rest := by
  obtain ⟨m, h1, h2, _, h3⟩ := rdNum_sound bs 0 0 n rest (by omega) h
  have : n = m := by simpa using h1
  subst this
  exact ⟨by simpa using h2, h3⟩
theorem u8_eq {c : UInt8} {n : Nat} (h : c.toNat = n) : UInt8.ofNat n = c := by rw [← h]; simp
theorem dec1_sound {bs rest : List UInt8} {v : Val} (h : dec1 bs = .ok (v, rest)) : In v ∧ okV v = 0 ∧ canon v = v ∧ bs = enc1 v ++ rest := by
  cases bs with
  | nil => simp [dec1] at h
  | cons c bs =>
    simp only [dec1] at h
    split at h
    · rename_i hc
      split at h
      · cases h
      · rename_i n r hr
        simp only [Except.ok.injEq, Prod.mk.injEq] at h
        obtain ⟨rfl, rfl⟩ := h
        obtain ⟨h1, rfl⟩ := rdNum_ok2 hr
        refine ⟨⟨by simp, by simp, by simp, by simp only; omega, by simp, by simp, by simp⟩, by simp [okV, plainB], by simp [canon, fb_0], ?_⟩
        obtain rfl : c = 1 := UInt8.toNat_inj.1 hc
        simp [enc1]
    · split at h
      · rename_i hc
        split at h
        · cases h
        · rename_i n r hr
          simp only [Except.ok.injEq, Prod.mk.injEq] at h
          obtain ⟨rfl, rfl⟩ := h
          obtain ⟨h1, rfl⟩ := rdNum_ok2 hr
          refine ⟨⟨by simp, by simp, by simp, by simp, (zag_le h1).1, (zag_le h1).2, by simp⟩, by simp [okV, plainB], by simp [canon, fb_0], ?_⟩
          obtain rfl : c = 2 := UInt8.toNat_inj.1 hc
          simp [enc1, zig_zag]
      · split at h
        · rename_i hc
          split at h
          · cases h
          · rename_i n r hr
            split at h
            · cases h
            · rename_i hf
              simp only [Except.ok.injEq, Prod.mk.injEq] at h
              obtain ⟨rfl, rfl⟩ := h
              obtain ⟨m, h1, h2, rfl⟩ := rdBe_sound 8 0 _ _ _ hr
              have : n = m := by simpa using h2
              subst this
              have hf : fb n = n := by simpa using hf
              refine ⟨⟨by simp, by simp, by simp, by simp, by simp, by simp, by simpa using h1⟩, by simp [okV, plainB], by simp [canon, hf], ?_⟩
              obtain rfl : c = 3 := UInt8.toNat_inj.1 hc
              simp [enc1, hf]
        · split at h
          · rename_i hc
            split at h
            · cases h
            · rename_i n r hr
              split at h
              · cases h
              · split at h
                · cases h
                · rename_i h5 h6
                  simp only [Except.ok.injEq, Prod.mk.injEq] at h
                  obtain ⟨rfl, rfl⟩ := h
                  obtain ⟨h1, rfl⟩ := rdNum_ok2 hr
                  have hl : (r.take n).length = n := by rw [List.length_take]; omega
                  refine ⟨⟨by simp, by simp, by simp, by simp, by simp, by simp, by simp⟩, ?_, by simp [canon, fb_0], ?_⟩
                  · simp only [okV, plainB]; simp; omega
                  · obtain rfl : c = 4 := UInt8.toNat_inj.1 hc
                    simp [enc1]; rw [Nat.min_eq_left (by omega)]
          · cases h
theorem enc1_ne (v : Val) : enc1 v ≠ [] := by simp [enc1]
theorem enc1_len {v : Val} (hi : In v) (h : okV v = 0) : (enc1 v).length ≤ 1011 := by
  rcases okV_kind h with ⟨h1, _⟩ | ⟨h1, _⟩ | ⟨h1, _⟩ | ⟨h1, _, _, _, h5⟩
  · have := num_len0 (n := v.U.toNat) (by have := hi.u1; have := hi.u0; omega)
    simp [enc1, h1]; omega
  · have := num_len0 (zig_lt hi.i0 hi.i1)
    simp [enc1, h1]; omega
  · simp [enc1, h1, be_len]
  · have := num_len0 (n := v.S.length) (by omega)
    simp [enc1, h1]; omega
/-- Of a value that is cut there is an error. -/
theorem dec1_cut {v : Val} {p q : List UInt8} (hi : In v) (h : okV v = 0) (he : enc1 v = p ++ q) (hq : q ≠ []) : dec1 p = .error 22 := by
  cases p with
  | nil => rfl
  | cons c p =>
    unfold enc1 at he
    simp only [List.cons_append, List.cons.injEq] at he
    obtain ⟨rfl, he⟩ := he
    rcases okV_kind h with ⟨h1, _⟩ | ⟨h1, _⟩ | ⟨h1, _⟩ | ⟨h1, _, _, _, h5⟩
    · simp only [h1, if_true] at he
      have := rdNum_cut v.U.toNat 0 0 p q (by omega) (by have := hi.u1; have := hi.u0; simp; omega) he hq
      simp [dec1, h1, this]
    · simp [h1] at he
      have := rdNum_cut (zig v.I) 0 0 p q (by omega) (by have := zig_lt hi.i0 hi.i1; simpa using this) he hq
      simp [dec1, h1, this]
    · simp [h1] at he
      have hl : p.length < 8 := by
        have := congrArg List.length he
        rw [be_len, List.length_append] at this
        have : q.length ≠ 0 := fun e => hq (List.eq_nil_of_length_eq_zero e)
        omega
      simp [dec1, h1, rdBe_cut 8 0 p hl]
    · simp [h1] at he
      have hn : v.S.length * 128 ^ 0 < 18446744073709551616 := by simp; omega
      rcases Nat.lt_or_ge p.length (num v.S.length).length with hl | hl
      · have e : num v.S.length = p ++ (num v.S.length).drop p.length := by
          have := congrArg (List.take p.length) he
          rw [List.take_append_of_le_length (by omega), List.take_left] at this
          conv => lhs; rw [← List.take_append_drop p.length (num v.S.length), this]
        have := rdNum_cut v.S.length 0 0 p _ (by omega) hn e (by
          intro e0
          have := congrArg List.length e0
          simp at this; omega)
        simp [dec1, h1, this]
      · have e : p = num v.S.length ++ p.drop (num v.S.length).length := by
          have := congrArg (List.take (num v.S.length).length) he
          rw [List.take_left, List.take_append_of_le_length hl] at this
          conv => lhs; rw [← List.take_append_drop (num v.S.length).length p, ← this]
        have e3 : rdNum p 0 0 = .ok (v.S.length, p.drop (num v.S.length).length) := by
          conv => lhs; rw [e]
          exact rdNum_ok (by omega) _
        have hlen := congrArg List.length he
        simp only [List.length_append] at hlen
        have hq0 : q.length ≠ 0 := fun e => hq (List.eq_nil_of_length_eq_zero e)
        have hd : (p.drop (num v.S.length).length).length < v.S.length := by rw [List.length_drop]; omega
        simp only [List.length_drop] at hd
        simp [dec1, h1, e3]
        rw [if_neg (by omega), if_pos (by omega)]
end Go.Proofs.Ytjkmeooncmhonaa.Wire
