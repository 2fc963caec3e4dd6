/- Frames: how loads stand one behind the other, and what is found of bytes that are cut. -/
import Derived.Test.YtjkmeooncmhonaaXG
namespace Go.Proofs.Ytjkmeooncmhonaa.Disk
open Go Go.Proofs.Ytjkmeooncmhonaa.Cf Go.Proofs.Ytjkmeooncmhonaa.Wire
set_option linter.unusedVariables false
set_option linter.unusedSimpArgs false
set_option maxRecDepth 100000
def turn (c : Int) : Int := bits .xor .u32 (Int.fdiv c (2 ^ (min ((1 : Int)).toNat IntKind.u32.bits))) (bits .and .u32 (IntKind.u32.wrap (0 - (bits .and .u32 c (1 : Int)))) (3988292384 : Int))
def turns : Nat → Int → Int
  | 0, c => c
  | n + 1, c => turns n (turn c)
/-- A check sum goes on. -/
def onn (c : Int) : List UInt8 → Int
  | [] => c
  | x :: xs => onn (turns 8 (bits .xor .u32 c (IntKind.u32.wrap (x.toNat : Int)))) xs
def sum2 (a b : List UInt8) : Int := bits .xor .u32 IntKind.u32.max (onn (onn 4294967295 a) b)
def summ (a b : List UInt8) : Nat := (sum2 a b).toNat
theorem bits_u32 (op : BinOp) (a b : Int) : 0 ≤ bits op .u32 a b ∧ bits op .u32 a b < 4294967296 := by
  have h : ∀ n : Int, 0 ≤ IntKind.u32.wrap n ∧ IntKind.u32.wrap n < 4294967296 := by
    intro n
    have : IntKind.u32.wrap n = n % 4294967296 := by simp [IntKind.wrap, IntKind.bits, IntKind.signed]
    rw [this]; omega
  exact h _
theorem turns_u32 : ∀ (n : Nat) (c : Int), 0 ≤ c → c < 4294967296 → 0 ≤ turns n c ∧ turns n c < 4294967296
  | 0, c, h0, h1 => ⟨h0, h1⟩
  | n + 1, c, _, _ => turns_u32 n (turn c) (bits_u32 _ _ _).1 (bits_u32 _ _ _).2
theorem onn_u32 : ∀ (bs : List UInt8) (c : Int), 0 ≤ c → c < 4294967296 → 0 ≤ onn c bs ∧ onn c bs < 4294967296
  | [], c, h0, h1 => ⟨h0, h1⟩
  | x :: xs, c, h0, h1 => by
    have h := turns_u32 8 (bits .xor .u32 c (IntKind.u32.wrap (x.toNat : Int))) (bits_u32 _ _ _).1 (bits_u32 _ _ _).2
    exact onn_u32 xs _ h.1 h.2
theorem summ_cast (a b : List UInt8) : ((summ a b : Nat) : Int) = sum2 a b := by
  have := (bits_u32 .xor IntKind.u32.max (onn (onn 4294967295 a) b)).1
  unfold summ
  exact Int.toNat_of_nonneg this
theorem summ_lt (a b : List UInt8) : summ a b < 4294967296 := by
  have := (bits_u32 .xor IntKind.u32.max (onn (onn 4294967295 a) b)).2
  have h := summ_cast a b
  unfold sum2 at h
  omega
def frm (x : List UInt8) : List UInt8 := be 4 x.length ++ (be 4 (summ (be 4 x.length) x) ++ x)
def frms (l : List (List UInt8)) : List UInt8 := l.flatMap frm
theorem frm_len (x : List UInt8) : (frm x).length = 8 + x.length := by simp [frm, be_len]; omega
theorem frms_app (l m : List (List UInt8)) : frms (l ++ m) = frms l ++ frms m := by simp [frms]
def rd4 : List UInt8 → Nat
  | a :: b :: c :: d :: _ => ((a.toNat * 256 + b.toNat) * 256 + c.toNat) * 256 + d.toNat
  | _ => 0
theorem rd4_be {n : Nat} (h : n < 4294967296) (rest : List UInt8) : rd4 (be 4 n ++ rest) = n := by
  have h0 : (UInt8.ofNat (n / 256 ^ 3 % 256)).toNat = n / 16777216 % 256 := by rw [u8_toNat (by omega)]
  have h1 : (UInt8.ofNat (n / 256 ^ 2 % 256)).toNat = n / 65536 % 256 := by rw [u8_toNat (by omega)]
  have h2 : (UInt8.ofNat (n / 256 ^ 1 % 256)).toNat = n / 256 % 256 := by rw [u8_toNat (by omega)]
  have h3 : (UInt8.ofNat (n / 256 ^ 0 % 256)).toNat = n % 256 := by rw [u8_toNat (by omega)]; simp
  simp only [be, List.cons_append, rd4, h0, h1, h2, h3]
  omega
def opn (bs : List UInt8) : Except Int (List UInt8 × Nat) :=
  if bs.length < 8 then .error 31 else if 65536 < rd4 bs then .error 30 else if bs.length - 8 < rd4 bs then .error 31
  else if summ (bs.take 4) ((bs.drop 8).take (rd4 bs)) ≠ rd4 (bs.drop 4) then .error 32 else .ok ((bs.drop 8).take (rd4 bs), 8 + rd4 bs)
theorem opn_frm {x : List UInt8} (h : x.length ≤ 65536) (rest : List UInt8) : opn (frm x ++ rest) = .ok (x, 8 + x.length) := by
  have e : frm x ++ rest = be 4 x.length ++ (be 4 (summ (be 4 x.length) x) ++ (x ++ rest)) := by simp [frm]
  have r1 : rd4 (frm x ++ rest) = x.length := by rw [e]; exact rd4_be (by omega) _
  have d4 : (frm x ++ rest).drop 4 = be 4 (summ (be 4 x.length) x) ++ (x ++ rest) := by
    rw [e]; exact List.drop_left' (be_len 4 _)
  have t4 : (frm x ++ rest).take 4 = be 4 x.length := by rw [e]; exact List.take_left' (be_len 4 _)
  have d8 : (frm x ++ rest).drop 8 = x ++ rest := by
    have : (frm x ++ rest).drop 8 = ((frm x ++ rest).drop 4).drop 4 := by rw [List.drop_drop]
    rw [this, d4]; exact List.drop_left' (be_len 4 _)
  have hl : (frm x ++ rest).length = 8 + x.length + rest.length := by rw [List.length_append, frm_len]
  unfold opn
  rw [r1, d4, t4, d8, rd4_be (summ_lt _ _), hl, List.take_left]
  rw [if_neg (by omega), if_neg (by omega), if_neg (by omega), if_neg (by simp)]
theorem opn_cut {x p q : List UInt8} (h : x.length ≤ 65536) (he : frm x = p ++ q) (hq : q ≠ []) : ∃ e, opn p = .error e := by
  have hl := congrArg List.length he
  rw [frm_len, List.length_append] at hl
  have hq0 : q.length ≠ 0 := fun e => hq (List.eq_nil_of_length_eq_zero e)
  unfold opn
  by_cases c : p.length < 8
  · exact ⟨31, if_pos c⟩
  · have ht : p.take 4 = be 4 x.length := by
      have := congrArg (List.take 4) he
      rw [List.take_append_of_le_length (by omega)] at this
      rw [← this, frm]; exact List.take_left' (be_len 4 _)
    have hp : p = be 4 x.length ++ p.drop 4 := by rw [← ht, List.take_append_drop]
    have r1 : rd4 p = x.length := by rw [hp]; exact rd4_be (by omega) _
    rw [r1, if_neg c, if_neg (by omega), if_pos (by omega)]
    exact ⟨31, rfl⟩
theorem opn_nil : opn [] = .error 31 := rfl
theorem opn_ok {bs x : List UInt8} {n : Nat} (h : opn bs = .ok (x, n)) : n ≤ bs.length ∧ 8 ≤ n ∧ n = 8 + x.length ∧ x.length ≤ 65536 := by
  unfold opn at h
  split at h
  · cases h
  · split at h
    · cases h
    · split at h
      · cases h
      · split at h
        · cases h
        · simp only [Except.ok.injEq, Prod.mk.injEq] at h
          obtain ⟨h1, h2⟩ := h
          have : x.length = rd4 bs := by rw [← h1, List.length_take, List.length_drop]; omega
          omega
def scanF : Nat → List UInt8 → List (List UInt8) → Nat → List (List UInt8) × Nat
  | 0, _, l, a => (l, a)
  | f + 1, bs, l, a => match opn bs with
    | .error _ => (l, a)
    | .ok (x, n) => scanF f (bs.drop n) (l ++ [x]) (a + n)
def scan (bs : List UInt8) : List (List UInt8) × Nat := scanF (bs.length + 1) bs [] 0
def Small (l : List (List UInt8)) : Prop := ∀ x ∈ l, x.length ≤ 65536
theorem scanF_frms : ∀ {l : List (List UInt8)} {f a : Nat} {p : List UInt8} {m : List (List UInt8)}, Small l → (∃ e, opn p = .error e) → l.length < f → scanF f (frms l ++ p) m a = (m ++ l, a + (frms l).length)
  | [], f, a, p, m, _, ⟨e, he⟩, hf => by
    obtain ⟨g, rfl⟩ : ∃ g, f = g + 1 := ⟨f - 1, by simp at hf; omega⟩
    simp [frms, scanF, he]
  | x :: l, f, a, p, m, hs, hp, hf => by
    obtain ⟨g, rfl⟩ : ∃ g, f = g + 1 := ⟨f - 1, by simp at hf; omega⟩
    have hx : x.length ≤ 65536 := hs x (by simp)
    have e : frms (x :: l) ++ p = frm x ++ (frms l ++ p) := by simp [frms]
    simp only [scanF]
    rw [e, opn_frm hx]
    simp only
    rw [show (frm x ++ (frms l ++ p)).drop (8 + x.length) = frms l ++ p from List.drop_left' (frm_len x)]
    rw [scanF_frms (fun y hy => hs y (by simp [hy])) hp (by simp at hf; omega)]
    have e2 : (frms (x :: l)).length = 8 + x.length + (frms l).length := by
      have : frms (x :: l) = frm x ++ frms l := by simp [frms]
      rw [this, List.length_append, frm_len]
    rw [e2]
    simp; omega
theorem frms_ge : ∀ l : List (List UInt8), l.length ≤ (frms l).length
  | [] => by simp
  | x :: l => by
    have := frms_ge l
    have e : frms (x :: l) = frm x ++ frms l := by simp [frms]
    rw [e, List.length_append, frm_len]
    simp; omega
theorem scan_frms {l : List (List UInt8)} {p : List UInt8} (hs : Small l) (hp : ∃ e, opn p = .error e) : scan (frms l ++ p) = (l, (frms l).length) := by
  unfold scan
  rw [scanF_frms hs hp (by have := frms_ge l; rw [List.length_append]; omega)]
  simp
/-- Of bytes that are cut: so many frames, and what is none. -/
theorem frms_cut : ∀ (l : List (List UInt8)) (n : Nat), Small l → n ≤ (frms l).length → ∃ i p, i ≤ l.length ∧ (frms l).take n = frms (l.take i) ++ p ∧ (∃ e, opn p = .error e) ∧ ∀ k, (frms (l.take k)).length ≤ n → k ≤ l.length → k ≤ i
  | [], n, _, h => ⟨0, [], by simp, by simp [frms], ⟨31, rfl⟩, fun k _ h => by simpa using h⟩
  | x :: l, n, hs, h => by
    have e : frms (x :: l) = frm x ++ frms l := by simp [frms]
    have hx : x.length ≤ 65536 := hs x (by simp)
    rw [e, List.length_append] at h
    rw [e]
    by_cases c : n < (frm x).length
    · refine ⟨0, (frm x).take n, by simp, ?_, ?_, ?_⟩
      · rw [List.take_append_of_le_length (by omega)]; simp [frms]
      · refine opn_cut hx (List.take_append_drop n _).symm ?_
        intro h0
        have := congrArg List.length h0
        rw [List.length_drop] at this
        simp at this; omega
      · intro k hk hkl
        cases k with
        | zero => omega
        | succ k =>
          have e2 : frms ((x :: l).take (k + 1)) = frm x ++ frms (l.take k) := by simp [frms]
          rw [e2, List.length_append] at hk
          omega
    · obtain ⟨i, p, h1, h2, h3, h4⟩ := frms_cut l (n - (frm x).length) (fun y hy => hs y (by simp [hy])) (by omega)
      refine ⟨i + 1, p, by simp; omega, ?_, h3, ?_⟩
      · rw [List.take_append, List.take_of_length_le (by omega), h2]; simp [frms]
      · intro k hk hkl
        cases k with
        | zero => omega
        | succ k =>
          have e2 : frms ((x :: l).take (k + 1)) = frm x ++ frms (l.take k) := by simp [frms]
          rw [e2, List.length_append] at hk
          have := h4 k (by omega) (by simpa using hkl)
          omega
end Go.Proofs.Ytjkmeooncmhonaa.Disk
