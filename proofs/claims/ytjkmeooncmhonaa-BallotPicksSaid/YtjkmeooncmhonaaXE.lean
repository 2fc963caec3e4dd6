/- How values are read: contracts of the reader, which panics where the bytes are wrong. -/
import Derived.Test.YtjkmeooncmhonaaXC
namespace Go.Proofs.Ytjkmeooncmhonaa.Wire
open Go Go.Proofs.Ytjkmeooncmhonaa.Cf
set_option linter.unusedVariables false
set_option linter.unusedSimpArgs false
set_option maxRecDepth 100000
section
variable {α : Type} {T : Ty α} {W w : World} {l l' : List Assn}
theorem RdS_sub {sz : Nat} {s r : Slc} {xs : List α} {i h m : Int} (hl : ∀ x, (T.cells x).length = sz) (hs : Sub s sz i h m r) (hh : h ≤ xs.length) (hsp : ∀ a, s.a = some a → xs ≠ [] → a.spot = none) (k : RdS T w s xs) : RdS T w r ((xs.take h.toNat).drop i.toNat) := by
  obtain ⟨h0, h1, h2, h3, rfl⟩ := hs
  obtain ⟨k1, k2⟩ := k
  have hlen : ((xs.take h.toNat).drop i.toNat).length = h.toNat - i.toNat := by rw [List.length_drop, List.length_take]; omega
  refine ⟨hlen, ?_⟩
  simp only
  obtain ⟨a, n, c⟩ := s
  cases a with
  | none =>
    have : xs = [] := k2
    subst this
    split <;> simp [RdO]
  | some a =>
    split
    · rename_i e
      have : (xs.take h.toNat).drop i.toNat = [] := List.eq_nil_of_length_eq_zero (by rw [hlen]; omega)
      rw [this]
      intro j v hv; simp at hv
    · intro j v hv
      have hne : xs ≠ [] := by
        rintro rfl
        simp at hv
      have e2 : xs.flatMap T.cells = (xs.take i.toNat).flatMap T.cells ++ (((xs.take h.toNat).drop i.toNat).flatMap T.cells ++ (xs.drop h.toNat).flatMap T.cells) := by
        have e3 : xs.take i.toNat = (xs.take h.toNat).take i.toNat := by rw [List.take_take, Nat.min_eq_left (by omega)]
        rw [e3, ← List.append_assoc, ← List.flatMap_append, List.take_append_drop, ← List.flatMap_append, List.take_append_drop]
      have e4 : ((xs.take i.toNat).flatMap T.cells).length = i.toNat * sz := by rw [flat_len hl, List.length_take]; congr 1; omega
      rw [add_add (hsp a rfl hne)]
      refine (k2 : Rd w a _) (i.toNat * sz + j) v ?_
      rw [e2, ← e4, List.getElem?_append_right (by omega), Nat.add_sub_cancel_left]
      rw [List.getElem?_append_left (List.getElem?_eq_some_iff.1 hv).1]; exact hv
theorem _root_.Go.Proofs.Ytjkmeooncmhonaa.Cf.See.spot {sz : Nat} {s : Slc} {xs : List α} (k : See sz l T s xs) (H : St W l w) : ∀ a, s.a = some a → xs ≠ [] → a.spot = none := by
  intro a ha hne
  have hl : 0 < xs.length := by
    cases xs with
    | nil => exact absurd rfl hne
    | cons => simp
  obtain ⟨b, hb, hsp, _⟩ := (k W [] w H).2.2 0 (by omega) (by omega)
  obtain ⟨c, hc, _, _, rfl⟩ := hb
  rw [ha] at hc; injection hc with hc; subst hc
  have e : (0 : Int).toNat * sz = 0 := by simp
  rw [e] at hsp
  simpa [Addr.add] using hsp
theorem _root_.Go.Proofs.Ytjkmeooncmhonaa.Cf.See.sub {sz : Nat} {s r : Slc} {xs : List α} {i h m : Int} (k : See sz l T s xs) (hl : ∀ x, (T.cells x).length = sz) (hs : Sub s sz i h m r) (hh : h ≤ xs.length) (H : St W l w) : RdS T w r ((xs.take h.toNat).drop i.toNat) :=
  RdS_sub hl hs hh (k.spot H) (k.rdS H)
end
abbrev TR := T124
def rdr (b : Nat) (s : Slc) (at_ : Nat) : Assn := cel b [tSlc.enc s, .int .i64 at_] 125
def flt (e : Int) : Iv := Iv.mk 127 (T126.enc ⟨e⟩)
section
variable {W w : World} {l l' : List Assn} {b : Nat} {s : Slc} {bs : List UInt8}
theorem drop_cons {rest : List UInt8} {a : Nat} {c : UInt8} (h : bs.drop a = c :: rest) : a < bs.length ∧ bs[a]? = some c ∧ bs.drop (a + 1) = rest := by
  have hl : a < bs.length := by
    rcases Nat.lt_or_ge a bs.length with h' | h'
    · exact h'
    · rw [List.drop_eq_nil_of_le h'] at h; cases h
  refine ⟨hl, ?_, ?_⟩
  · have := congrArg (fun l => l[0]?) h
    simpa using this
  · have := congrArg (List.drop 1) h
    simpa [List.drop_drop] using this
theorem next_spec {Pn : Iv → World → Prop} {K : Int → World → Prop} {a : Nat} {rest : List UInt8} (hn : bs.length ≤ 9223372036854775806) (k : See 1 l (tInt .u8) s (B bs)) (ha : a ≤ bs.length) (hd : bs.drop a = rest) (H : St W (rdr b s a :: l) w)
    (hp : rest = [] → ∀ w', St W (rdr b s a :: l) w' → Pn (flt 22) w')
    (hk : ∀ c r w', rest = c :: r → a + 1 ≤ bs.length → bs.drop (a + 1) = r → St W (rdr b s (a + 1) :: l) w' → K (c.toNat : Int) w') :
    clp Try.prog 61 [.pointer (some ⟨b, 0, none⟩)] (tInt .u8) w Pn K := by
  have hs := k.tail.len H
  rw [B_len] at hs
  refine F61_ok ?_
  unfold F61
  refine dr_st H fun w H => ?_
  refine nc_st rfl ?_
  refine ld_st (x := (a : Int)) 0 H rfl rfl rfl ?_
  refine ld_st (x := s) 0 H rfl rfl rfl ?_
  rw [hs]
  cases rest with
  | nil =>
    have hl : bs.length ≤ a := by
      have := congrArg List.length hd
      simp at this; omega
    rw [if_pos (by simp; omega)]
    exact hp rfl _ H
  | cons c r =>
    obtain ⟨h1, h2, h3⟩ := drop_cons hd
    rw [if_neg (by simp; omega)]
    refine ld_st (x := (a : Int)) 0 H rfl rfl rfl ?_
    have e1 : IntKind.i64.wrap ((a : Int) + 1) = ((a + 1 : Nat) : Int) := by rw [wr_i64]; omega
    rw [e1]
    refine st_st (x := ((a + 1 : Nat) : Int)) 0 H rfl rfl (Nat.le_of_ble_eq_true rfl) fun w H => ?_
    refine dr_st H fun w H => ?_
    refine ld_st (x := s) 0 H rfl rfl rfl ?_
    refine ld_st (x := ((a + 1 : Nat) : Int)) 0 H rfl rfl rfl ?_
    have e2 : IntKind.i64.wrap (((a + 1 : Nat) : Int) - 1) = (a : Int) := by rw [wr_i64]; omega
    rw [e2]
    obtain ⟨x, hx⟩ := k.tail.ix (i := (a : Int)) H (by omega) (by rw [B_len]; omega)
    refine ex_i x hx ?_
    refine ex_i (c.toNat : Int) (k.tail.rd hx (by simp [B, h2]) H) ?_
    exact hk c r _ rfl (by omega) h3 H
theorem numr_spec {Pn : Iv → World → Prop} {K : Int → World → Prop} {a : Nat} {rest : List UInt8} (hn : bs.length ≤ 9223372036854775806) (k : See 1 l (tInt .u8) s (B bs)) (ha : a ≤ bs.length) (hd : bs.drop a = rest) (H : St W (rdr b s a :: l) w)
    (hp : ∀ e a' w', rdNum rest 0 0 = .error e → St W (rdr b s a' :: l) w' → Pn (flt e) w')
    (hk : ∀ n r a' w', rdNum rest 0 0 = .ok (n, r) → a' ≤ bs.length → bs.drop a' = r → St W (rdr b s a' :: l) w' → K ((n : Nat) : Int) w') :
    clp Try.prog 62 [.pointer (some ⟨b, 0, none⟩)] (tInt .u64) w Pn K := by
  refine F62_ok ?_
  unfold F62
  refine lp_p (fun p w => ∃ (j acc a' : Nat) (r : List UInt8), j ≤ 9 ∧ p.1 = (acc : Int) ∧ p.2 = ((7 * j : Nat) : Int) ∧ acc < 2 ^ (7 * j) ∧ a' ≤ bs.length ∧ bs.drop a' = r ∧ rdNum rest 0 0 = rdNum r j acc ∧ St W (rdr b s a' :: l) w) (fun p => (70 - p.2).toNat)
    ⟨0, 0, a, rest, by omega, rfl, rfl, by simp, ha, hd, rfl, H⟩ ?_
  clear H ha hd
  rintro ⟨m, by_⟩ w ⟨j, acc, a', r, hj, hm, hb, hacc, ha, hd, he, H⟩ K' hK
  simp only at hm hb
  subst hm; subst hb
  unfold F62_l1
  refine next_spec hn k ha hd H ?_ ?_
  · rintro rfl w H
    exact hp 22 _ _ (by rw [he]; rfl) H
  · rintro c r' w rfl ha' hd' H
    have hc : c.toNat < 256 := c.toNat_lt
    simp only [rdNum] at he
    have hcond : (((((7 * j : Nat) : Int) == (63 : Int)) && (decide ((c.toNat : Int) > (1 : Int)))) || ((decide (((7 * j : Nat) : Int) > (0 : Int))) && ((c.toNat : Int) == (0 : Int)))) = true ↔ (j = 9 ∧ 1 < c.toNat) ∨ (0 < j ∧ c.toNat = 0) := by
      simp only [Bool.or_eq_true, Bool.and_eq_true, beq_iff_eq, decide_eq_true_eq]
      omega
    by_cases hq : (j = 9 ∧ 1 < c.toNat) ∨ (0 < j ∧ c.toNat = 0)
    · rw [if_pos (hcond.2 hq)]
      rw [if_pos hq] at he
      exact hp 23 _ _ he H
    · rw [if_neg (fun h => hq (hcond.1 h))]
      rw [if_neg hq] at he
      refine shift_i (by omega) ?_
      have p1 : (128 : Nat) ^ j = 2 ^ (7 * j) := by rw [Nat.pow_mul]
      have m1 : min (((7 * j : Nat) : Int)).toNat IntKind.u64.bits = 7 * j := by
        have : IntKind.u64.bits = 64 := rfl
        rw [this]; omega
      have hfit : c.toNat % 128 * 2 ^ (7 * j) < 18446744073709551616 := by
        rw [← p1]
        rcases p9 hj with e | e | e | e | e | e | e | e | e | ⟨e9, e⟩ <;> rw [e] <;> omega
      have e1 : IntKind.u64.wrap (IntKind.u64.wrap (bits .and .u8 (c.toNat : Int) 127) * 2 ^ (min (((7 * j : Nat) : Int)).toNat IntKind.u64.bits)) = ((c.toNat % 128 * 2 ^ (7 * j) : Nat) : Int) := by
        rw [m1, and127 (by omega) (by omega)]
        have e : IntKind.u64.wrap ((c.toNat : Int) % 128) = ((c.toNat % 128 : Nat) : Int) := by rw [wr_u64]; omega
        rw [e]
        have e2 : ((c.toNat % 128 : Nat) : Int) * 2 ^ (7 * j) = ((c.toNat % 128 * 2 ^ (7 * j) : Nat) : Int) := by push_cast; rfl
        rw [e2, wr_u64]
        generalize c.toNat % 128 * 2 ^ (7 * j) = q at hfit
        omega
      have h63 : acc < 18446744073709551616 := Nat.lt_of_lt_of_le hacc (by
        have := Nat.pow_le_pow_right (n := 2) (by omega) (show 7 * j ≤ 64 by omega)
        simpa using this)
      have e2 : bits .or .u64 (acc : Int) ((c.toNat % 128 * 2 ^ (7 * j) : Nat) : Int) = ((acc + c.toNat % 128 * 128 ^ j : Nat) : Int) := by
        rw [or_low .u64 64 (by decide) wid_u64 (7 * j) _ _ (by omega) (by exact_mod_cast hacc) (by exact_mod_cast h63) (by omega) ?_ (by exact_mod_cast hfit)]
        · rw [p1]; push_cast; rfl
        · have : c.toNat % 128 * 2 ^ (7 * j) % 2 ^ (7 * j) = 0 := Nat.mul_mod_left _ _
          exact_mod_cast this
      rw [e1, e2]
      by_cases hlt : c.toNat < 128
      · rw [if_pos (by simp; omega)]
        rw [if_pos hlt] at he
        exact hk _ _ _ _ he ha' hd' H
      · rw [if_neg (by simp; omega)]
        rw [if_neg hlt] at he
        have h8 : j ≤ 8 := by omega
        refine hK _ _ ⟨j + 1, acc + c.toNat % 128 * 128 ^ j, a' + 1, r', by omega, rfl, by simp only; rw [wr_u64]; omega, ?_, ha', hd', he, H⟩ (by simp only; rw [wr_u64]; omega)
        rw [p1, show 7 * (j + 1) = 7 * j + 7 from by omega, Nat.pow_add]
        have : c.toNat % 128 * 2 ^ (7 * j) ≤ 127 * 2 ^ (7 * j) := Nat.mul_le_mul_right _ (by omega)
        have e7 : (2 : Nat) ^ 7 = 128 := rfl
        rw [e7]
        omega
def rdF (rest : List UInt8) : Except Int (Nat × List UInt8) := match rdBe 8 0 rest with
  | .error e => .error e
  | .ok (n, r) => if fb n ≠ n then .error 25 else .ok (n, r)
theorem flt_spec {Pn : Iv → World → Prop} {K : Nat → World → Prop} {a : Nat} {rest : List UInt8} (hn : bs.length ≤ 9223372036854775806) (k : See 1 l (tInt .u8) s (B bs)) (ha : a ≤ bs.length) (hd : bs.drop a = rest) (H : St W (rdr b s a :: l) w)
    (hp : ∀ e a' w', rdF rest = .error e → St W (rdr b s a' :: l) w' → Pn (flt e) w')
    (hk : ∀ n r a' w', rdF rest = .ok (n, r) → a' ≤ bs.length → bs.drop a' = r → St W (rdr b s a' :: l) w' → K n w') :
    clp Try.prog 63 [.pointer (some ⟨b, 0, none⟩)] tFlt w Pn K := by
  refine F63_ok ?_
  unfold F63
  refine lp_p (fun p w => ∃ (j acc a' : Nat) (r : List UInt8), j ≤ 8 ∧ p.1 = (acc : Int) ∧ p.2 = (j : Int) ∧ acc < 256 ^ j ∧ a' ≤ bs.length ∧ bs.drop a' = r ∧ rdBe 8 0 rest = rdBe (8 - j) acc r ∧ St W (rdr b s a' :: l) w) (fun p => (8 - p.2).toNat)
    ⟨0, 0, a, rest, by omega, rfl, rfl, by simp, ha, hd, rfl, H⟩ ?_
  clear H ha hd
  rintro ⟨m, t⟩ w ⟨j, acc, a', r, hj, hm, hb, hacc, ha, hd, he, H⟩ K' hK
  simp only at hm hb
  subst hm; subst hb
  unfold F63_l1
  split
  · rename_i hc
    have hc : j < 8 := by simp at hc; omega
    rw [show 8 - j = (7 - j) + 1 from by omega] at he
    have hp7 : 256 ^ (j + 1) ≤ 18446744073709551616 := by
      have := Nat.pow_le_pow_right (n := 256) (by omega) (show j + 1 ≤ 8 by omega)
      simpa using this
    have hps : 256 ^ (j + 1) = 256 ^ j * 256 := Nat.pow_succ ..
    have hx : acc * 256 + 256 ≤ 256 ^ (j + 1) := by rw [hps]; omega
    refine shift_i (by omega) ?_
    have e1 : IntKind.u64.wrap ((acc : Int) * 2 ^ (min ((8 : Int)).toNat IntKind.u64.bits)) = ((acc * 256 : Nat) : Int) := by
      have m1 : min ((8 : Int)).toNat IntKind.u64.bits = 8 := rfl
      rw [m1, wr_u64]; omega
    rw [e1]
    refine next_spec hn k ha hd H ?_ ?_
    · rintro rfl w H
      exact hp 22 _ _ (by unfold rdF; rw [he]; rfl) H
    · rintro c r' w rfl ha' hd' H
      have hc8 : c.toNat < 256 := c.toNat_lt
      have e2 : IntKind.u64.wrap (c.toNat : Int) = (c.toNat : Int) := by rw [wr_u64]; omega
      have e3 : bits .or .u64 ((acc * 256 : Nat) : Int) (c.toNat : Int) = ((acc * 256 + c.toNat : Nat) : Int) := by
        rw [bits_join .u64 64 (by decide) wid_u64 8 _ _ (by omega) (by omega) (by omega) (by omega) (by omega) (by omega)]
        omega
      rw [e2, e3]
      simp only [rdBe] at he
      refine hK _ _ ⟨j + 1, acc * 256 + c.toNat, a' + 1, r', by omega, rfl, by simp only; rw [wr_i64]; omega, by omega, ha', hd', ?_, H⟩ (by simp only; rw [wr_i64]; omega)
      rw [he, show 8 - (j + 1) = 7 - j from by omega]
  · rename_i hc
    have hc : j = 8 := by simp at hc; omega
    subst hc
    simp only [Nat.sub_self, rdBe] at he
    have e0 : Int.toNat (acc : Int) = acc := by omega
    rw [e0]
    refine cl_mono (bits_spec H) ?_
    rintro q w ⟨rfl, H⟩
    have hF : rdF rest = if fb acc ≠ acc then .error 25 else .ok (acc, r) := by unfold rdF; rw [he]
    by_cases hne : fb acc ≠ acc
    · rw [if_pos (by simp; omega)]
      rw [if_pos hne] at hF
      exact hp 25 _ _ hF H
    · rw [if_neg (by simp at hne ⊢; omega)]
      rw [if_neg hne] at hF
      exact hk _ _ _ _ hF ha hd H
def rdT (rest : List UInt8) : Except Int (List UInt8 × List UInt8) := match rdNum rest 0 0 with
  | .error e => .error e
  | .ok (n, r) => if 1000 < n then .error 24 else if r.length < n then .error 22 else .ok (r.take n, r.drop n)
theorem text_spec {Pn : Iv → World → Prop} {K : List UInt8 → World → Prop} {a : Nat} {rest : List UInt8} (hcap : s.len ≤ s.cap) (hn : bs.length ≤ 9223372036854775806) (k : See 1 l (tInt .u8) s (B bs)) (ha : a ≤ bs.length) (hd : bs.drop a = rest) (H : St W (rdr b s a :: l) w)
    (hp : ∀ e a' w', rdT rest = .error e → St W (rdr b s a' :: l) w' → Pn (flt e) w')
    (hk : ∀ n r a' w', rdT rest = .ok (n, r) → a' ≤ bs.length → bs.drop a' = r → St W (rdr b s a' :: l) w' → K n w') :
    clp Try.prog 64 [.pointer (some ⟨b, 0, none⟩)] tStr w Pn K := by
  have hs := k.tail.len H
  rw [B_len] at hs
  refine F64_ok ?_
  unfold F64
  refine numr_spec hn k ha hd H ?_ ?_
  · intro e a' w he H
    exact hp e a' w (by unfold rdT; rw [he]) H
  · intro n r a' w he ha hd H
    have hT : rdT rest = if 1000 < n then .error 24 else if r.length < n then .error 22 else .ok (r.take n, r.drop n) := by unfold rdT; rw [he]
    by_cases h1 : 1000 < n
    · rw [if_pos (by simp; omega)]
      rw [if_pos h1] at hT
      exact hp 24 _ _ hT H
    · rw [if_neg (by simp; omega)]
      rw [if_neg h1] at hT
      have hrl : r.length = bs.length - a' := by rw [← hd, List.length_drop]
      refine dr_st H fun w H => ?_
      refine nc_st rfl ?_
      refine ld_st (x := s) 0 H rfl rfl rfl ?_
      refine ld_st (x := (a' : Int)) 0 H rfl rfl rfl ?_
      rw [hs]
      have e1 : IntKind.u64.wrap (IntKind.i64.wrap ((bs.length : Int) - (a' : Int))) = ((r.length : Nat) : Int) := by
        rw [wrap_i64 (by omega) (by omega), wid_u64 _ (by omega) (by omega)]; omega
      rw [e1]
      by_cases h2 : r.length < n
      · rw [if_pos (by simp; omega)]
        rw [if_pos h2] at hT
        exact hp 22 _ _ hT H
      · rw [if_neg (by simp; omega)]
        rw [if_neg h2] at hT
        refine ld_st (x := (a' : Int)) 0 H rfl rfl rfl ?_
        have ew : IntKind.i64.wrap (n : Int) = (n : Int) := wrap_i64 (by omega) (by omega)
        rw [ew]
        have e2 : IntKind.i64.wrap ((a' : Int) + (n : Int)) = ((a' + n : Nat) : Int) := by rw [wrap_i64 (by omega) (by omega)]; omega
        rw [e2]
        refine st_st (x := ((a' + n : Nat) : Int)) 0 H rfl rfl (Nat.le_of_ble_eq_true rfl) fun w H => ?_
        refine dr_st H fun w H => ?_
        refine ld_st (x := s) 0 H rfl rfl rfl ?_
        refine ld_st (x := ((a' + n : Nat) : Int)) 0 H rfl rfl rfl ?_
        refine ld_st (x := ((a' + n : Nat) : Int)) 0 H rfl rfl rfl ?_
        have e3 : IntKind.i64.wrap (((a' + n : Nat) : Int) - (n : Int)) = (a' : Int) := by rw [wrap_i64 (by omega) (by omega)]; omega
        rw [e3]
        refine sub_st (by omega) (by omega) (by omega) (by omega) fun q hq => ?_
        have hr := k.tail.sub (fun _ => rfl) hq (by rw [B_len]; omega) H
        have hb : ((B bs).take (((a' + n : Nat) : Int)).toNat).drop ((a' : Int)).toNat = B (r.take n) := by
          simp only [Int.toNat_natCast]
          rw [← hd]
          unfold B
          rw [← List.map_take, ← List.map_drop, List.take_drop, Nat.add_comm]
        rw [hb] at hr
        refine b2s_st (r := r.take n) hr ?_
        exact hk _ _ _ _ hT (by omega) (by rw [← hd, List.drop_drop]) H
theorem zag_get {n : Nat} (h : n < 18446744073709551616) :
    bits .xor .i64 (IntKind.i64.wrap (Int.fdiv (n : Int) (2 ^ (min ((1 : Int)).toNat IntKind.u64.bits)))) (IntKind.i64.wrap (0 - (IntKind.i64.wrap (bits .and .u64 (n : Int) (1 : Int))))) = zag n := by
  have m1 : min ((1 : Int)).toNat IntKind.u64.bits = 1 := rfl
  rw [m1, fdiv_nat, and1 (by omega) (by omega)]
  have e1 : IntKind.i64.wrap ((n / 2 ^ 1 : Nat) : Int) = ((n / 2 : Nat) : Int) := by rw [wr_i64]; omega
  rw [e1]
  unfold zag
  by_cases hn : n % 2 = 1
  · rw [if_pos hn]
    have e2 : IntKind.i64.wrap (0 - IntKind.i64.wrap ((n : Int) % 2)) = -1 := by rw [wr_i64, wr_i64]; omega
    rw [e2, xorm_i64 (by omega) (by omega)]
  · rw [if_neg hn]
    have e2 : IntKind.i64.wrap (0 - IntKind.i64.wrap ((n : Int) % 2)) = 0 := by rw [wr_i64, wr_i64]; omega
    rw [e2, xor0_i64 (by omega) (by omega)]
theorem value_spec {Pn : Iv → World → Prop} {K : Val → World → Prop} {a : Nat} {rest : List UInt8} (hcap : s.len ≤ s.cap) (hn : bs.length ≤ 9223372036854775806) (k : See 1 l (tInt .u8) s (B bs)) (ha : a ≤ bs.length) (hd : bs.drop a = rest) (H : St W (rdr b s a :: l) w)
    (hp : ∀ e a' w', dec1 rest = .error e → St W (rdr b s a' :: l) w' → Pn (flt e) w')
    (hk : ∀ v r a' w', dec1 rest = .ok (v, r) → a' ≤ bs.length → bs.drop a' = r → St W (rdr b s a' :: l) w' → K v w') :
    clp Try.prog 51 [.pointer (some ⟨b, 0, none⟩)] TV w Pn K := by
  refine F51_ok ?_
  unfold F51
  refine nw_st H fun b2 w H => ?_
  refine next_spec hn k.tail ha hd (H.front 1) ?_ ?_
  · rintro rfl w H
    exact hp 22 a w rfl ((H.front 1).drop)
  · rintro c r w rfl ha hd H
    have hc8 : c.toNat < 256 := c.toNat_lt
    have e0 : IntKind.i64.wrap (c.toNat : Int) = (c.toNat : Int) := by rw [wr_i64]; omega
    rw [e0]
    refine nw_st H fun b6 w H => ?_
    refine vst_st (x := Z90) (y := (⟨(c.toNat : Int), 0, 0, 0, []⟩ : Val)) lenV 0 H rfl fun w H => ?_
    refine ld_st (x := (c.toNat : Int)) 0 H rfl rfl rfl ?_
    have j1 : ∀ (v : Val) (a' : Nat) (w : World), (∀ w', St W (rdr b s a' :: l) w' → K v w') → St W (cel b6 (TV.cells v) 91 :: rdr b s a' :: cel b2 (TV.cells Z90) 91 :: l) w → F51_j1 ⟨b2, 0, none⟩ ⟨b6, 0, none⟩ w K Pn := by
      intro v a' w hv H
      unfold F51_j1
      refine vld_st (x := v) 0 H rfl ?_
      refine vst_st (x := Z90) (y := v) lenV 2 H rfl fun w H => ?_
      refine vld_st (x := v) 0 H rfl ?_
      exact hv _ ((H.front 2).imp fun _ _ ⟨h1, h2, h3, h4, h5, h6, h7⟩ => ⟨h1, h2, h3, h4, h5, h6, Seps.mono (PMap.le_refl _) (PMap.le_refl _) (by
        obtain ⟨_, _, _, _, l2, _, g1, g2, _, _, l4, _, g⟩ := h7
        exact Seps.mono (PMap.le_refl _) (PMap.le_trans l4 l2) g)⟩)
    have kk : See 1 (cel b6 (TV.cells (⟨(c.toNat : Int), 0, 0, 0, []⟩ : Val)) 91 :: cel b2 (TV.cells Z90) 91 :: l) (tInt .u8) s (B bs) := k.tail.tail
    have H := H.front 1
    have hfail : ∀ e a' w', dec1 (c :: r) = .error e → St W (rdr b s a' :: cel b6 (TV.cells (⟨(c.toNat : Int), 0, 0, 0, []⟩ : Val)) 91 :: cel b2 (TV.cells Z90) 91 :: l) w' → Pn (flt e) w' := by
      intro e a' w' he H
      exact hp e a' w' he (((((H.front 1).drop).front 1).drop))
    by_cases h1 : c.toNat = 1
    · rw [if_pos (by simp [h1])]
      refine numr_spec hn kk ha hd H ?_ ?_
      · intro e a' w he H
        exact hfail e a' w (by simp only [dec1, h1, if_true, he]) H
      · intro n r' a' w he ha hd H
        refine st_st (x := (n : Int)) 1 H rfl rfl (Nat.le_of_ble_eq_true rfl) fun w H => ?_
        refine j1 ⟨(c.toNat : Int), n, 0, 0, []⟩ a' w (fun w' H => hk _ r' a' w' ?_ ha hd H) H
        simp only [dec1, h1, if_true, he]; rfl
    · rw [if_neg (by simp; omega)]
      by_cases h2 : c.toNat = 2
      · rw [if_pos (by simp [h2])]
        refine numr_spec hn kk ha hd H ?_ ?_
        · intro e a' w he H
          exact hfail e a' w (by simp only [dec1, h2, if_true, he, show ¬ (2 : Nat) = 1 from by decide, if_false]) H
        · intro n r' a' w he ha hd H
          obtain ⟨hlt, _⟩ := rdNum_ok2 he
          refine shift_i (by omega) ?_
          rw [zag_get hlt]
          refine st_st (x := zag n) 1 H rfl rfl (Nat.le_of_ble_eq_true rfl) fun w H => ?_
          refine j1 ⟨(c.toNat : Int), 0, zag n, 0, []⟩ a' w (fun w' H => hk _ r' a' w' ?_ ha hd H) H
          simp only [dec1, h2, if_true, he, show ¬ (2 : Nat) = 1 from by decide, if_false]; rfl
      · rw [if_neg (by simp; omega)]
        by_cases h3 : c.toNat = 3
        · rw [if_pos (by simp [h3])]
          have hF : dec1 (c :: r) = match rdF r with | .error e => .error e | .ok (n, q) => .ok (⟨3, 0, 0, n, []⟩, q) := by
            simp only [dec1, h3, if_true, show ¬ (3 : Nat) = 1 from by decide, show ¬ (3 : Nat) = 2 from by decide, if_false, rdF]
            cases rdBe 8 0 r with
            | error e => rfl
            | ok p => obtain ⟨n, q⟩ := p; simp only; split <;> rfl
          refine flt_spec hn kk ha hd H ?_ ?_
          · intro e a' w he H
            exact hfail e a' w (by rw [hF, he]) H
          · intro n r' a' w he ha hd H
            refine st_st (T := tFlt) (x := n) 1 H rfl rfl (Nat.le_of_ble_eq_true rfl) fun w H => ?_
            refine j1 ⟨(c.toNat : Int), 0, 0, n, []⟩ a' w (fun w' H => hk _ r' a' w' ?_ ha hd H) H
            rw [hF, he, h3]; rfl
        · rw [if_neg (by simp; omega)]
          by_cases h4 : c.toNat = 4
          · rw [if_pos (by simp [h4])]
            have hF : dec1 (c :: r) = match rdT r with | .error e => .error e | .ok (n, q) => .ok (⟨4, 0, 0, 0, n⟩, q) := by
              simp only [dec1, h4, if_true, show ¬ (4 : Nat) = 1 from by decide, show ¬ (4 : Nat) = 2 from by decide, show ¬ (4 : Nat) = 3 from by decide, if_false, rdT]
              cases rdNum r 0 0 with
              | error e => rfl
              | ok p =>
                obtain ⟨n, q⟩ := p
                simp only
                split
                · rfl
                · split <;> rfl
            refine text_spec hcap hn kk ha hd H ?_ ?_
            · intro e a' w he H
              exact hfail e a' w (by rw [hF, he]) H
            · intro n r' a' w he ha hd H
              refine st_st (T := tStr) (x := n) 1 H rfl rfl (Nat.le_of_ble_eq_true rfl) fun w H => ?_
              refine j1 ⟨(c.toNat : Int), 0, 0, 0, n⟩ a' w (fun w' H => hk _ r' a' w' ?_ ha hd H) H
              rw [hF, he, h4]; rfl
          · rw [if_neg (by simp; omega)]
            exact hfail 21 _ _ (by simp only [dec1, h1, h2, h3, h4, if_false]) H
end
end Go.Proofs.Ytjkmeooncmhonaa.Wire
