/- Frames: contracts. -/
import Derived.Test.YtjkmeooncmhonaaDA
namespace Go.Proofs.Ytjkmeooncmhonaa.Disk
open Go Go.Proofs.Ytjkmeooncmhonaa.Cf Go.Proofs.Ytjkmeooncmhonaa.Wire
set_option linter.unusedVariables false
set_option linter.unusedSimpArgs false
set_option maxRecDepth 100000
theorem wr_u32 (n : Int) : IntKind.u32.wrap n = n % 4294967296 := by simp [IntKind.wrap, IntKind.bits, IntKind.signed]
theorem wid_u32 (n : Int) (h0 : 0 ≤ n) (h1 : n < 2 ^ 32) : IntKind.u32.wrap n = n := by rw [wr_u32]; omega
section
variable {W w : World} {l l' : List Assn} {s : Slc} {bs : List UInt8}
theorem mkS0_st {α : Type} {T : Ty α} {t : TypeId} {sz by_ : Nat} {c : Int} {z : α} {K : Slc → World → Prop} (hl : ∀ x, (T.cells x).length = sz) (h0 : 0 ≤ c) (h1 : (by_ : Int) * c ≤ 281474976710656) (h2 : c ≤ 9223372036854775807) (H : St W l w)
    (hk : ∀ r w', St W (row T t sz r [] :: l) w' → K r w') : mkS t T by_ z 0 c w K :=
  ⟨Int.le_refl _, h0, h1, h2, hk _ _ (row_shut (rest := (List.replicate c.toNat z).flatMap T.cells) rfl rfl (by simp) (by rw [flat_len hl]; simp) (H.alloc _))⟩
theorem onn_spec {c : Int} (h0 : 0 ≤ c) (h1 : c < 4294967296) (hn : bs.length ≤ 9223372036854775806) (k : See 1 l (tInt .u8) s (B bs)) (H : St W l w) :
    cl Try.prog 81 [.int .u32 c, tSlc.enc s] (tInt .u32) w fun r w' => r = onn c bs ∧ St W l w' := by
  have hs := k.len H
  rw [B_len] at hs
  refine F81_ok ?_
  unfold F81
  refine lp_p (fun p w => 0 ≤ p.2 ∧ p.2 ≤ bs.length ∧ onn c bs = onn p.1 (bs.drop p.2.toNat) ∧ St W l w) (fun p => (bs.length - p.2).toNat) ⟨Int.le_refl 0, by simp only; omega, rfl, H⟩ ?_
  clear H
  rintro ⟨d, i⟩ w ⟨i0, i1, he, H⟩ K hK
  simp only at i0 i1 he
  unfold F81_l1
  rw [hs]
  split
  · rename_i hi
    have hi : i < bs.length := by simpa using hi
    have hd : bs.drop i.toNat = bs[i.toNat] :: bs.drop (i.toNat + 1) := List.drop_eq_getElem_cons (by omega)
    have hx : (B bs)[i.toNat]? = some (bs[i.toNat].toNat : Int) := by
      simp only [B, List.getElem?_map, List.getElem?_eq_getElem (show i.toNat < bs.length by omega), Option.map_some]
    rw [hd] at he
    generalize bs[i.toNat] = x at hx he
    obtain ⟨a, ha⟩ := k.ix (i := i) H i0 (by rw [B_len]; omega)
    refine ex_i a ha ?_
    refine ex_i (x.toNat : Int) (k.rd ha hx H) ?_
    refine lp_p (fun p w => ∃ j : Nat, j ≤ 8 ∧ p.2 = (j : Int) ∧ turns (8 - j) p.1 = turns 8 (bits .xor .u32 d (IntKind.u32.wrap (x.toNat : Int))) ∧ St W l w) (fun p => (8 - p.2).toNat) ⟨0, by omega, rfl, rfl, H⟩ ?_
    clear H
    rintro ⟨q, j⟩ w ⟨j, hj, rfl, hq, H⟩ K2 hK2
    unfold F81_l2
    split
    · rename_i hc
      have hc : j < 8 := by simp at hc; omega
      refine shift_i (by omega) ?_
      have hj2 : 8 - j = (8 - (j + 1)) + 1 := by omega
      rw [hj2] at hq
      have hq : turns (8 - (j + 1)) (turn q) = turns 8 (bits .xor .u32 d (IntKind.u32.wrap (x.toNat : Int))) := hq
      unfold turn at hq
      have e8 : IntKind.i64.wrap ((j : Int) + 1) = ((j + 1 : Nat) : Int) := by rw [wr_i64]; omega
      rw [e8]
      generalize turns 8 (bits .xor .u32 d (IntKind.u32.wrap (x.toNat : Int))) = z at hq hK2
      generalize (bits .xor .u32 (Int.fdiv q (2 ^ (min ((1 : Int)).toNat IntKind.u32.bits))) (bits .and .u32 (IntKind.u32.wrap (0 - (bits .and .u32 q (1 : Int)))) (3988292384 : Int))) = y at hq ⊢
      exact hK2 _ _ ⟨j + 1, by omega, rfl, hq, H⟩ (by simp only; omega)
    · rename_i hc
      have hc : j = 8 := by simp at hc; omega
      subst hc
      have e1 : IntKind.i64.wrap (i + 1) = i + 1 := wrap_i64 (by omega) (by omega)
      rw [e1]
      rw [Nat.sub_self] at hq
      have hq : q = turns 8 (bits .xor .u32 d (IntKind.u32.wrap (x.toNat : Int))) := hq
      refine hK _ _ ⟨by simp only; omega, by simp only; omega, ?_, H⟩ (by simp only; omega)
      simp only
      have e2 : (i + 1).toNat = i.toNat + 1 := by omega
      rw [he, e2, hq, onn]
  · rename_i hi
    have hi : i = bs.length := by simp at hi; omega
    subst hi
    refine ⟨?_, H⟩
    rw [he]; simp [onn]
theorem both_spec {s1 s2 : Slc} {b1 b2 : List UInt8} (hn1 : b1.length ≤ 9223372036854775806) (hn2 : b2.length ≤ 9223372036854775806) (k1 : See 1 l (tInt .u8) s1 (B b1)) (k2 : See 1 l (tInt .u8) s2 (B b2)) (H : St W l w) :
    cl Try.prog 60 [tSlc.enc s1, tSlc.enc s2] (tInt .u32) w fun r w' => r = (summ b1 b2 : Nat) ∧ St W l w' := by
  refine F60_ok ?_
  unfold F60
  refine cl_mono (onn_spec (by decide) (by decide) hn1 k1 H) ?_
  rintro r w ⟨rfl, H⟩
  have h := onn_u32 b1 4294967295 (by decide) (by decide)
  refine cl_mono (onn_spec h.1 h.2 hn2 k2 H) ?_
  rintro r w ⟨rfl, H⟩
  exact ⟨(summ_cast b1 b2).symm, H⟩
theorem four_spec {n : Nat} {xs : List Int} (hn : n < 4294967296) (hb : xs.length ≤ 100000000) (i : Nat) (H : St W l w) (hi : front i l = row (tInt .u8) 5 1 s xs :: l') :
    cl Try.prog 68 [tSlc.enc s, .int .u32 n] tSlc w fun r w' => St W (row (tInt .u8) 5 1 r (xs ++ B (be 4 n)) :: l') w' := by
  refine F68_ok ?_
  unfold F68
  refine shift_i (by omega) ?_
  refine shift_i (by omega) ?_
  refine shift_i (by omega) ?_
  have m1 : min ((24 : Int)).toNat IntKind.u32.bits = 24 := rfl
  have m2 : min ((16 : Int)).toNat IntKind.u32.bits = 16 := rfl
  have m3 : min ((8 : Int)).toNat IntKind.u32.bits = 8 := rfl
  rw [m1, m2, m3, fdiv_nat, fdiv_nat, fdiv_nat, u8w rfl, u8w rfl, u8w rfl, u8w rfl]
  have e : ∀ m : Nat, (UInt8.ofNat m) = UInt8.ofNat (m % 256) := fun m => UInt8.toNat_inj.1 (by simp)
  have hb4 : [((UInt8.ofNat (n / 2 ^ 24)).toNat : Int), (UInt8.ofNat (n / 2 ^ 16)).toNat, (UInt8.ofNat (n / 2 ^ 8)).toNat, (UInt8.ofNat n).toNat] = B (be 4 n) := by
    rw [e (n / 2 ^ 24), e (n / 2 ^ 16), e (n / 2 ^ 8), e n]
    simp [B, be]
  rw [hb4]
  refine apl_row (fun _ => rfl) i H hi (by rw [B_len, be_len]; omega) fun r w H => H
theorem read_spec (hn : bs.length ≤ 9223372036854775806) (h4 : 4 ≤ bs.length) (k : See 1 l (tInt .u8) s (B bs)) (H : St W l w) :
    cl Try.prog 59 [tSlc.enc s] (tInt .u32) w fun r w' => r = (rd4 bs : Nat) ∧ St W l w' := by
  refine F59_ok ?_
  unfold F59
  obtain ⟨c0, c1, c2, c3, rest, rfl⟩ : ∃ c0 c1 c2 c3 rest, bs = c0 :: c1 :: c2 :: c3 :: rest := by
    rcases bs with _ | ⟨c0, _ | ⟨c1, _ | ⟨c2, _ | ⟨c3, rest⟩⟩⟩⟩
    · simp at h4
    · simp at h4
    · simp at h4
    · simp at h4
    · exact ⟨c0, c1, c2, c3, rest, rfl⟩
  refine dr_st H fun w H => ?_
  obtain ⟨a0, h0⟩ := k.ix (i := 0) H (by omega) (by rw [B_len]; omega)
  obtain ⟨a1, h1⟩ := k.ix (i := 1) H (by omega) (by rw [B_len]; omega)
  obtain ⟨a2, h2⟩ := k.ix (i := 2) H (by omega) (by rw [B_len]; omega)
  obtain ⟨a3, h3⟩ := k.ix (i := 3) H (by omega) (by rw [B_len]; omega)
  refine ex_i a0 h0 ?_
  refine ex_i a1 h1 ?_
  refine ex_i a2 h2 ?_
  refine ex_i a3 h3 ?_
  refine ex_i (c0.toNat : Int) (k.rd h0 (by simp [B]) H) ?_
  refine shift_i (by omega) ?_
  refine ex_i (c1.toNat : Int) (k.rd h1 (by simp [B]) H) ?_
  refine shift_i (by omega) ?_
  refine ex_i (c2.toNat : Int) (k.rd h2 (by simp [B]) H) ?_
  refine shift_i (by omega) ?_
  refine ex_i (c3.toNat : Int) (k.rd h3 (by simp [B]) H) ?_
  refine ⟨?_, H⟩
  have g0 := c0.toNat_lt
  have g1 := c1.toNat_lt
  have g2 := c2.toNat_lt
  have g3 := c3.toNat_lt
  have m1 : min ((24 : Int)).toNat IntKind.u32.bits = 24 := rfl
  have m2 : min ((16 : Int)).toNat IntKind.u32.bits = 16 := rfl
  have m3 : min ((8 : Int)).toNat IntKind.u32.bits = 8 := rfl
  rw [m1, m2, m3]
  have e0 : IntKind.u32.wrap (IntKind.u32.wrap (c0.toNat : Int) * 2 ^ 24) = (c0.toNat : Int) * 16777216 := by rw [wr_u32, wr_u32]; omega
  have e1 : IntKind.u32.wrap (IntKind.u32.wrap (c1.toNat : Int) * 2 ^ 16) = (c1.toNat : Int) * 65536 := by rw [wr_u32, wr_u32]; omega
  have e2 : IntKind.u32.wrap (IntKind.u32.wrap (c2.toNat : Int) * 2 ^ 8) = (c2.toNat : Int) * 256 := by rw [wr_u32, wr_u32]; omega
  have e3 : IntKind.u32.wrap (c3.toNat : Int) = (c3.toNat : Int) := by rw [wr_u32]; omega
  rw [e0, e1, e2, e3]
  rw [bits_join .u32 32 (by decide) wid_u32 24 ((c0.toNat : Int) * 16777216) ((c1.toNat : Int) * 65536) (by omega) (by omega) (by omega) (by omega) (by omega) (by omega)]
  rw [bits_join .u32 32 (by decide) wid_u32 16 ((c0.toNat : Int) * 16777216 + (c1.toNat : Int) * 65536) ((c2.toNat : Int) * 256) (by omega) (by omega) (by omega) (by omega) (by omega) (by omega)]
  rw [bits_join .u32 32 (by decide) wid_u32 8 ((c0.toNat : Int) * 16777216 + (c1.toNat : Int) * 65536 + (c2.toNat : Int) * 256) (c3.toNat : Int) (by omega) (by omega) (by omega) (by omega) (by omega) (by omega)]
  simp only [rd4]
  omega
theorem seal_spec (hn : bs.length ≤ 9223372036854775806) (k : See 1 l (tInt .u8) s (B bs)) (H : St W l w) :
    cl Try.prog 54 [tSlc.enc s] (tTup2 tSlc (tInt .i64)) w fun r w' => (65536 < bs.length → r = (nilS, 30) ∧ St W l w') ∧ (bs.length ≤ 65536 → r.2 = 0 ∧ St W (row (tInt .u8) 5 1 r.1 (B (frm bs)) :: l) w') := by
  have hs := k.len H
  rw [B_len] at hs
  refine F54_ok ?_
  unfold F54
  rw [hs]
  split
  · rename_i hc
    have hc : 65536 < bs.length := by simp at hc; omega
    exact ⟨fun _ => ⟨rfl, H⟩, fun h => by omega⟩
  · rename_i hc
    have hc : bs.length ≤ 65536 := by simp at hc; omega
    have e1 : IntKind.i64.wrap (8 + (bs.length : Int)) = 8 + (bs.length : Int) := wrap_i64 (by omega) (by omega)
    rw [e1]
    refine mkS0_st (sz := 1) (fun _ => rfl) (by omega) (by omega) (by omega) H fun r w H => ?_
    have e2 : IntKind.u32.wrap (bs.length : Int) = ((bs.length : Nat) : Int) := by rw [wr_u32]; omega
    rw [e2]
    refine cl_mono (four_spec (by omega) (by simp) 0 H rfl) ?_
    intro r w H
    rw [List.nil_append] at H
    refine cl_mono (both_spec (by rw [be_len]; omega) hn (See.row (fun _ => rfl) 0 rfl) k.tail H) ?_
    rintro q w ⟨rfl, H⟩
    refine cl_mono (four_spec (summ_lt _ _) (by rw [B_len, be_len]; omega) 0 H rfl) ?_
    intro r w H
    rw [← B_app] at H
    refine apd_row (fun _ => rfl) 0 H rfl (k.tail.rdS H) (by simp [B_len, be_len]; omega) fun r w H => ?_
    rw [← B_app, List.append_assoc] at H
    exact ⟨fun h => by omega, fun _ => ⟨rfl, H⟩⟩
theorem B_take (bs : List UInt8) (n : Nat) : B (bs.take n) = (B bs).take n := by simp [B, List.map_take]
theorem B_drop (bs : List UInt8) (n : Nat) : B (bs.drop n) = (B bs).drop n := by simp [B, List.map_drop]
theorem open_spec (hcap : s.len ≤ s.cap) (hn : bs.length ≤ 9223372036854775806) (k : Know l (RoP (tInt .u8) s (B bs))) (H : St W l w) :
    cl Try.prog 48 [tSlc.enc s] (tTup3 tSlc (tInt .i64) (tInt .i64)) w fun r w' => match opn bs with
      | .error e => r.2.2 = e ∧ e ≠ 0 ∧ St W l w'
      | .ok (x, n) => r.2.2 = 0 ∧ r.2.1 = (n : Nat) ∧ r.1.len ≤ r.1.cap ∧ St W (ro (tInt .u8) r.1 (B x) :: l) w' := by
  have hs := k.len H
  rw [B_len] at hs
  have ks : See 1 l (tInt .u8) s (B bs) := See.ro (fun _ => rfl) k
  refine F48_ok ?_
  unfold F48 opn
  rw [hs]
  by_cases hc : bs.length < 8
  · rw [if_pos (show decide ((bs.length : Int) < 8) = true by simp; omega), if_pos hc]
    exact ⟨rfl, by decide, H⟩
  · rw [if_neg (show ¬ decide ((bs.length : Int) < 8) = true by simp; omega), if_neg hc]
    have hc : 8 ≤ bs.length := by omega
    refine cl_mono (read_spec hn (by omega) ks H) ?_
    rintro r w ⟨rfl, H⟩
    have hr4 : rd4 bs < 4294967296 := by
      obtain ⟨c0, c1, c2, c3, rest, rfl⟩ : ∃ c0 c1 c2 c3 rest, bs = c0 :: c1 :: c2 :: c3 :: rest := by
        rcases bs with _ | ⟨c0, _ | ⟨c1, _ | ⟨c2, _ | ⟨c3, rest⟩⟩⟩⟩
        · simp at hc
        · simp at hc
        · simp at hc
        · simp at hc
        · exact ⟨c0, c1, c2, c3, rest, rfl⟩
      have g0 := c0.toNat_lt
      have g1 := c1.toNat_lt
      have g2 := c2.toNat_lt
      have g3 := c3.toNat_lt
      simp only [rd4]; omega
    generalize rd4 bs = n at hr4
    have e1 : IntKind.i64.wrap (n : Int) = (n : Int) := wrap_i64 (by omega) (by omega)
    have e2 : IntKind.i64.wrap ((bs.length : Int) - 8) = (bs.length : Int) - 8 := wrap_i64 (by omega) (by omega)
    rw [e1, e2]
    by_cases h1 : 65536 < n
    · rw [if_pos (show decide ((n : Int) > 65536) = true by simp; omega), if_pos h1]
      exact ⟨rfl, by decide, H⟩
    · rw [if_neg (show ¬ decide ((n : Int) > 65536) = true by simp; omega), if_neg h1]
      by_cases h2 : bs.length - 8 < n
      · rw [if_pos (show decide ((n : Int) > (bs.length : Int) - 8) = true by simp; omega), if_pos h2]
        exact ⟨rfl, by decide, H⟩
      · rw [if_neg (show ¬ decide ((n : Int) > (bs.length : Int) - 8) = true by simp; omega), if_neg h2]
        have e3 : IntKind.i64.wrap (8 + (n : Int)) = 8 + (n : Int) := wrap_i64 (by omega) (by omega)
        rw [e3]
        refine dr_st H fun w H => ?_
        refine sub_st (by omega) (by omega) (by omega) (by omega) fun s5 h5 => ?_
        refine sub_st (by omega) (by omega) (by omega) (by omega) fun s6 h6 => ?_
        refine sub_st (by omega) (by omega) (by omega) (by omega) fun s7 h7 => ?_
        have k5 := k.sub (fun _ => rfl) h5 (by rw [B_len]; omega)
        have k6 := k.sub (fun _ => rfl) h6 (by rw [B_len]; omega)
        have k7 := k.sub (fun _ => rfl) h7 (by rw [B_len]; omega)
        have b5 : ((B bs).take ((4 : Int)).toNat).drop ((0 : Int)).toNat = B (bs.take 4) := by rw [B_take]; rfl
        have b6 : ((B bs).take (8 + (n : Int)).toNat).drop ((8 : Int)).toNat = B ((bs.drop 8).take n) := by
          have : (8 + (n : Int)).toNat = 8 + n := by omega
          rw [this, B_take, B_drop, List.take_drop]; rfl
        have b7 : ((B bs).take (bs.length : Int).toNat).drop ((4 : Int)).toNat = B (bs.drop 4) := by
          rw [B_drop, List.take_of_length_le (by rw [B_len]; omega)]; rfl
        rw [b5] at k5
        rw [b6] at k6
        rw [b7] at k7
        refine cl_mono (both_spec (by simp; omega) (by simp; omega) (See.ro (fun _ => rfl) k5) (See.ro (fun _ => rfl) k6) H) ?_
        rintro r w ⟨rfl, H⟩
        refine cl_mono (read_spec (by simp; omega) (by simp; omega) (See.ro (fun _ => rfl) k7) H) ?_
        rintro r w ⟨rfl, H⟩
        by_cases hq : summ (bs.take 4) ((bs.drop 8).take n) ≠ rd4 (bs.drop 4)
        · rw [if_pos (by simp; omega), if_pos hq]
          exact ⟨rfl, by decide, H⟩
        · rw [if_neg (by simp at hq ⊢; omega), if_neg hq]
          refine nwS_st H fun b w H => ?_
          have H := row_new (sz := 1) (m := 0) rfl H
          refine sub_st (by omega) (by omega) (by omega) (by omega) fun s14 h14 => ?_
          have k14 := k.sub (fun _ => rfl) h14 (by rw [B_len]; omega)
          rw [b6] at k14
          refine apd_row (fun _ => rfl) 0 H rfl (k14.tail.rdS H) (by simp [B_len]; omega) fun r w H => ?_
          rw [List.nil_append] at H
          have hxl : ((bs.drop 8).take n).length = n := by rw [List.length_take, List.length_drop]; omega
          have hrl := row_len H
          have hrc := row_cap H
          rw [B_len, hxl] at hrl
          refine sub_st (by omega) (by omega) (by omega) (by omega) fun s17 h17 => ?_
          obtain ⟨h18, H⟩ := row_cut3 (fun _ => rfl) h17 (by rw [B_len, hxl]; omega) H
          have e9 : (B ((bs.drop 8).take n)).take (n : Int).toNat = B ((bs.drop 8).take n) := List.take_of_length_le (by rw [B_len, hxl]; omega)
          rw [e9] at H
          exact ⟨rfl, by simp, by rw [h18]; exact Nat.le_refl _, row_stay H⟩
end
end Go.Proofs.Ytjkmeooncmhonaa.Disk
