/- Bytes and bits: rules of the walk, laws of the bitwise operations. -/
import Derived.Test.YtpdaapffkdejoaaGreatSlK
import Derived.Test.YtpdaapffkdejoaaGreatCfP
import Derived.Laws.BitsLemmas
namespace Go.Proofs.YtpdaapffkdejoaaGreat.Cf
set_option linter.unusedSimpArgs false
set_option linter.unusedVariables false
open Go Go.RowKit
theorem wr_u8 (n : Int) : IntKind.u8.wrap n = n % 256 := by simp [IntKind.wrap, IntKind.bits, IntKind.signed]
theorem wr_u64 (n : Int) : IntKind.u64.wrap n = n % 18446744073709551616 := by simp [IntKind.wrap, IntKind.bits, IntKind.signed]
theorem wr_i64 (n : Int) : IntKind.i64.wrap n = (n + 9223372036854775808) % 18446744073709551616 - 9223372036854775808 := by
  rw [IntKind.wrap_i64]
theorem wid_u64 (n : Int) (h0 : 0 ≤ n) (h1 : n < 2 ^ 64) : IntKind.u64.wrap n = n := by rw [wr_u64]; omega
theorem wid_u8 (n : Int) (h0 : 0 ≤ n) (h1 : n < 2 ^ 8) : IntKind.u8.wrap n = n := by rw [wr_u8]; omega
theorem or_low (k : IntKind) (j : Nat) (hj : j ≤ k.bits) (hk : ∀ n : Int, 0 ≤ n → n < 2 ^ j → k.wrap n = n) (i : Nat)
    (y x : Int) (hy₀ : 0 ≤ y) (hy : y < 2 ^ i) (hy₁ : y < 2 ^ j) (hx₀ : 0 ≤ x) (hx : x % 2 ^ i = 0) (hx₁ : x < 2 ^ j) : bits .or k y x = y + x := by
  have h := bits_join k j hj hk i x y hx₀ hx hx₁ hy₀ hy hy₁
  obtain ⟨a, rfl⟩ := Int.eq_ofNat_of_zero_le hx₀
  obtain ⟨b, rfl⟩ := Int.eq_ofNat_of_zero_le hy₀
  have ha : a < 2 ^ j := by exact_mod_cast hx₁
  have hb : b < 2 ^ j := by exact_mod_cast hy₁
  rw [(bits_nat k j hj hk a b ha hb).2] at h
  rw [(bits_nat k j hj hk b a hb ha).2, Nat.or_comm, h]
  omega
theorem and127 {x : Int} (h0 : 0 ≤ x) (h1 : x < 256) : bits .and .u8 x 127 = x % 128 := bits_mask .u8 8 (by decide) wid_u8 7 (by decide) x h0 h1
theorem and1 {x : Int} (h0 : 0 ≤ x) (h1 : x < 18446744073709551616) : bits .and .u64 x 1 = x % 2 := bits_mask .u64 64 (by decide) wid_u64 1 (by decide) x h0 h1
theorem or128 {x : Int} (h0 : 0 ≤ x) (h1 : x < 256) : bits .or .u8 x 128 = 128 + x % 128 := by
  obtain ⟨a, rfl⟩ := Int.eq_ofNat_of_zero_le h0
  have ha : a < 256 := by omega
  have key : ∀ a : Fin 256, bits .or .u8 ((a.1 : Nat) : Int) 128 = 128 + ((a.1 : Nat) : Int) % 128 := by decide +kernel
  exact key ⟨a, ha⟩
theorem ofInt_nat (a : Nat) (h : a < 18446744073709551616) : (BitVec.ofInt 64 (a : Int)).toNat = a := by
  rw [BitVec.ofInt_natCast, BitVec.toNat_ofNat]; exact Nat.mod_eq_of_lt (by omega)
theorem xor0_u64 {x : Int} (h0 : 0 ≤ x) (h1 : x < 18446744073709551616) : bits .xor .u64 x 0 = x := by
  obtain ⟨a, rfl⟩ := Int.eq_ofNat_of_zero_le h0
  show IntKind.u64.wrap ((BitVec.ofInt 64 (a : Int) ^^^ BitVec.ofInt 64 0).toNat : Int) = _
  have e : BitVec.ofInt 64 0 = 0#64 := rfl
  rw [e, BitVec.xor_zero, ofInt_nat a (by omega), wr_u64]; omega
theorem xorm_u64 {x : Int} (h0 : 0 ≤ x) (h1 : x < 18446744073709551616) : bits .xor .u64 x 18446744073709551615 = 18446744073709551615 - x := by
  obtain ⟨a, rfl⟩ := Int.eq_ofNat_of_zero_le h0
  show IntKind.u64.wrap ((BitVec.ofInt 64 (a : Int) ^^^ BitVec.ofInt 64 18446744073709551615).toNat : Int) = _
  have e : BitVec.ofInt 64 18446744073709551615 = BitVec.allOnes 64 := by decide
  rw [e, BitVec.xor_allOnes, BitVec.toNat_not, ofInt_nat a (by omega), wr_u64]; omega
theorem xor0_i64 {x : Int} (h0 : 0 ≤ x) (h1 : x < 9223372036854775808) : bits .xor .i64 x 0 = x := by
  obtain ⟨a, rfl⟩ := Int.eq_ofNat_of_zero_le h0
  show IntKind.i64.wrap ((BitVec.ofInt 64 (a : Int) ^^^ BitVec.ofInt 64 0).toNat : Int) = _
  have e : BitVec.ofInt 64 0 = 0#64 := rfl
  rw [e, BitVec.xor_zero, ofInt_nat a (by omega), wr_i64]; omega
theorem xorm_i64 {x : Int} (h0 : 0 ≤ x) (h1 : x < 9223372036854775808) : bits .xor .i64 x (-1) = -x - 1 := by
  obtain ⟨a, rfl⟩ := Int.eq_ofNat_of_zero_le h0
  show IntKind.i64.wrap ((BitVec.ofInt 64 (a : Int) ^^^ BitVec.ofInt 64 (-1)).toNat : Int) = _
  have e : BitVec.ofInt 64 (-1) = BitVec.allOnes 64 := by decide
  rw [e, BitVec.xor_allOnes, BitVec.toNat_not, ofInt_nat a (by omega), wr_i64]; omega
section
variable {W w w' : World} {l l' : List Assn} {α : Type} {T : Ty α} {t e : TypeId}
theorem apS_row {s : Slc} {r : List UInt8} {xs : List Int} {k : Slc → World → Prop} (i : Nat) (H : St W l w) (hi : front i l = row (tInt .u8) e 1 s xs :: l') (hb : xs.length + r.length ≤ 140737488355328)
    (hk : ∀ q w', St W (row (tInt .u8) e 1 q (xs ++ B r) :: l') w' → k q w') : apS e s r w k :=
  app_row (fun _ => rfl) (hi ▸ H.front i) (by rw [B_len]; omega) hk
theorem b2s_st {s : Slc} {r : List UInt8} {k : List UInt8 → Prop} (h : RdS (tInt .u8) w s (B r)) (hk : k r) : ex (B2S s w) k := ⟨r, h, hk⟩
theorem shift_i {b r0 : Int} {k : Int → Prop} (h : 0 ≤ b) (hk : k r0) : ex (Shift b r0) k := ⟨r0, ⟨h, rfl⟩, hk⟩
theorem cat_i {a b : List UInt8} {k : List UInt8 → Prop} (h : a.length + b.length ≤ 9223372036854775807) (hk : k (a ++ b)) : ex (CatS a b) k := ⟨_, ⟨h, rfl⟩, hk⟩
theorem row_stay_blk {b : Nat} {arr : Array Value} {fz : Nat × Nat} (H : St W (blk b (.cells arr t fz) :: l) w) {s : Slc} {xs : List α} (ha : s.a = some ⟨b, 0, none⟩) (hl : xs.length = s.len) (hx : ∀ (j : Nat) (v : Value), (xs.flatMap T.cells)[j]? = some v → arr[j]? = some v) : St W (ro T s xs :: l) w :=
  St.impEver (fun I hI => ⟨hl, .inr ⟨b, 0, arr, t, fz, ha, hI, fun j v hv => by rw [Nat.zero_add]; exact hx j v hv⟩⟩) H.stay
theorem freeze_put {b m : Nat} {arr : Array Value} (H : St W (blk b (.cells arr t) :: l) w) : St W (blk b (.cells arr t (m, m + 1)) :: l) (w.freeze ⟨b, m, none⟩ 1) := by
  have hb := H.get
  have hlt : b < w.heap.size := (Array.getElem?_eq_some_iff.1 hb).1
  refine H.put rfl rfl rfl ?_
  have hb2 : w.heap[b] = .cells arr t := by rw [Array.getElem?_eq_getElem hlt] at hb; exact Option.some.inj hb
  unfold World.freeze
  rw [if_neg (by decide)]
  apply Array.ext_getElem?
  intro i
  simp only [Array.getElem?_modify, Array.getElem?_setIfInBounds]
  by_cases e : b = i
  · subst e; simp [hlt, hb2]
  · simp [e]
theorem mkb_st {s : Slc} {xs : List Int} {k : World → Prop} (i : Nat) (H : St W l w) (hi : front i l = row (tInt .u8) t 1 s xs :: l') (hx : xs ≠ [])
    (hk : ∀ w', St W (ro (tInt .u8) s xs :: l') w' → k w') : mkb s w k := by
  rcases row_open (hi ▸ H.front i) with ⟨_, h, _⟩ | ⟨b, rest, h2, h3, h4, h5, H⟩
  · exact absurd h hx
  · have hb := H.get
    refine ⟨⟨b, 0, none⟩, t, (xs.flatMap (tInt .u8).cells ++ rest).toArray.size, h2, ?_, hk _ (row_stay_blk (freeze_put H) h2 h3.symm ?_)⟩
    · unfold World.shape?
      simp only at hb ⊢
      rw [hb]
    · intro j v hv
      simp only [List.getElem?_toArray]
      rw [List.getElem?_append_left (List.getElem?_eq_some_iff.1 hv).1]; exact hv
theorem s2b_st {s : List UInt8} {k : Slc → World → Prop} (H : St W l w) (hk : ∀ r w', r.len = s.length → r.len ≤ r.cap → St W (ro (tInt .u8) r (B s) :: l) w' → k r w') : s2b e s w k := by
  refine hk _ _ rfl (grownCap_ge w s.length 0 e) (row_stay_blk ((H.drew).alloc _) rfl (B_len s) ?_)
  intro j v hv
  rw [flat_int] at hv
  have hlt := (List.getElem?_eq_some_iff.1 hv).1
  have hlt2 : j < s.length := by simpa [B] using hlt
  simp only [bytesRow]
  rw [Array.getElem?_append_left (by simpa using hlt2)]
  simp [B, hlt2] at hv
  simp [hlt2, hv]
theorem lp_p {σ : Type} {body : σ → World → (σ → World → Prop) → Prop} {s : σ} {w : World} (I : σ → World → Prop) (μ : σ → Nat) (h0 : I s w)
    (h : ∀ s w, I s w → ∀ K : σ → World → Prop, (∀ s' w', I s' w' → μ s' < μ s → K s' w') → body s w K) : lp body s w :=
  lp_i I μ h0 fun s w hI => h s w hI _ fun s' w' h1 h2 => ⟨h1, h2⟩
end
end Go.Proofs.YtpdaapffkdejoaaGreat.Cf
