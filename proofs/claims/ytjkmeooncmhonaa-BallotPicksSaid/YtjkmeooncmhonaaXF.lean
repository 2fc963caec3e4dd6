/- Unpack: its contract, and what it undoes; the chapter's examples. -/
import Derived.Test.YtjkmeooncmhonaaXE
namespace Go.Proofs.Ytjkmeooncmhonaa.Wire
open Go Go.Proofs.Ytjkmeooncmhonaa.Cf
set_option linter.unusedVariables false
set_option linter.unusedSimpArgs false
set_option maxRecDepth 100000
def unpF : Nat → List UInt8 → List Val → Nat → List Val × Nat × Int
  | 0, _, l, _ => (l, 0, 0)
  | _ + 1, [], l, _ => (l, 0, 0)
  | f + 1, c :: bs, l, a => if l.length = 1000 then ([], a, 20) else match dec1 (c :: bs) with
    | .error e => ([], a, e)
    | .ok (v, r) => unpF f r (l ++ [v]) (a + (bs.length + 1 - r.length))
def unp (bs : List UInt8) : List Val × Nat × Int := unpF (bs.length + 1) bs [] 0
theorem dec1_less {bs r : List UInt8} {v : Val} (h : dec1 bs = .ok (v, r)) : r.length < bs.length := by
  obtain ⟨_, _, _, rfl⟩ := dec1_sound h
  simp only [enc1, List.length_append, List.length_cons]
  omega
section
variable {W w : World} {l l' : List Assn} {s : Slc} {bs : List UInt8}
theorem catch_spec {a2 a4 a6 a10 : Nat} {q : Slc} {p0 e0 : Int} {a : Nat} {e : Int} {R : Slc × Int × Int → World → Prop} (H : St W (cel a10 [.int .i64 a] 3 :: cel a2 [tSlc.enc q] 113 :: cel a4 [.int .i64 p0] 3 :: cel a6 [.int .i64 e0] 31 :: l) w)
    (hk : ∀ w', St W l w' → R (nilS, (a : Int), e) w') : F38_p ⟨a10, 0, none⟩ ⟨a2, 0, none⟩ ⟨a4, 0, none⟩ ⟨a6, 0, none⟩ R (flt e) w := by
  unfold F38_p
  refine lvd_of (F50_ok (recov_pnc (flt e)) ?_) rfl
  unfold F50
  rw [if_pos (by rfl)]
  refine ex_i (⟨e⟩, true) (.inl ⟨⟨e⟩, rfl, rfl⟩) ?_
  refine nw_st H fun b w H => ?_
  refine vst_st (x := Z126) (y := (⟨e⟩ : S126)) (fun _ => rfl) 0 H rfl fun w H => ?_
  rw [if_neg (by simp)]
  refine dr_st H fun w H => ?_
  refine ld_st (x := (a : Int)) 1 H rfl rfl rfl ?_
  refine ld_st (x := e) 0 H rfl rfl rfl ?_
  refine st_st (x := nilS) 2 H rfl rfl (Nat.le_of_ble_eq_true rfl) fun w H => ?_
  refine ⟨rdat_cel (tInt .i64) (H.front 1) rfl rfl, ?_⟩
  refine st_st (x := (a : Int)) 3 H rfl rfl (Nat.le_of_ble_eq_true rfl) fun w H => ?_
  refine ⟨rdat_cel (tInt .i64) (H.front 2) rfl rfl, ?_⟩
  refine st_st (x := e) 4 H rfl rfl (Nat.le_of_ble_eq_true rfl) fun w H => ?_
  refine ld_st (x := nilS) 2 H rfl rfl rfl ?_
  refine ld_st (x := (a : Int)) 1 H rfl rfl rfl ?_
  refine ld_st (x := e) 0 H rfl rfl rfl ?_
  exact hk _ H.drop.drop.drop.drop.drop
theorem idle_spec {args : List Value} {a b c d : Addr} {K : World → Prop} (hk : K w) : lvd Try.prog 50 [.pointer (some a), .pointer (some b), .pointer (some c), .pointer (some d)] .returning w K := by
  refine lvd_of (F50_ok recov_ret ?_) rfl
  unfold F50
  rw [if_neg (by simp [Iv.isNil])]
  exact hk
theorem unpack_spec (hcap : s.len ≤ s.cap) (hn : bs.length ≤ 9223372036854775806) (k : See 1 l (tInt .u8) s (B bs)) (H : St W l w) :
    cl Try.prog 38 [tSlc.enc s] (tTup3 tSlc (tInt .i64) (tInt .i64)) w fun r w' => r.2.1 = ((unp bs).2.1 : Int) ∧ r.2.2 = (unp bs).2.2 ∧ St W (row TV 91 5 r.1 (unp bs).1 :: l) w' := by
  have hs := k.len H
  rw [B_len] at hs
  refine F38_ok ?_
  unfold F38
  refine nw_st H fun a2 w H => ?_
  refine nw_st H fun a4 w H => ?_
  refine nw_st H fun a6 w H => ?_
  refine nw_st H fun a8 w H => ?_
  refine nw_st H fun a10 w H => ?_
  refine st_st (x := (0 : Int)) 0 H rfl rfl (Nat.le_of_ble_eq_true rfl) fun w H => ?_
  have H := row_nil TV 91 5 H
  refine lp_n (fun n _ w => ∃ (f a x : Nat) (q : Slc) (vs : List Val), n = bs.length - a ∧ a ≤ bs.length ∧ bs.length - a < f ∧ vs.length ≤ 1000 ∧ unp bs = unpF f (bs.drop a) vs a ∧
    St W (rdr a8 s a :: cel a10 [.int .i64 x] 3 :: cel a2 [tSlc.enc q] 113 :: row TV 91 5 q vs :: cel a4 [.int .i64 0] 3 :: cel a6 [.int .i64 0] 31 :: l) w) bs.length
    ⟨bs.length + 1, 0, 0, nilS, [], by omega, by omega, by omega, by simp, rfl, H.ord [2, 1, 5, 0, 4, 3]⟩ ?_
  clear H
  rintro n ⟨⟩ w ⟨f, a, x, q, vs, rfl, ha, hf, hv, he, H⟩ K hK
  unfold F38_l1
  refine ld_st (x := (a : Int)) 0 H rfl rfl rfl ?_
  rw [hs]
  obtain ⟨f, rfl⟩ : ∃ g, f = g + 1 := ⟨f - 1, by omega⟩
  by_cases hlt : a < bs.length
  · rw [if_pos (by simp; omega)]
    obtain ⟨c, r, hd⟩ : ∃ c r, bs.drop a = c :: r := by
      cases h : bs.drop a with
      | nil => have := congrArg List.length h; simp at this; omega
      | cons c r => exact ⟨c, r, rfl⟩
    have hrl : r.length + 1 = bs.length - a := by
      have := congrArg List.length hd
      simp at this; omega
    rw [hd] at he
    simp only [unpF] at he
    refine ld_st (x := (a : Int)) 0 H rfl rfl rfl ?_
    refine st_st (x := (a : Int)) 1 H rfl rfl (Nat.le_of_ble_eq_true rfl) fun w H => ?_
    have H := H.front 1
    refine ld_st (x := q) 2 H rfl rfl rfl ?_
    have hq : q.len = vs.length := row_len (H.front 3)
    have hcatch : ∀ (e : Int) (a' : Nat) (w : World), unp bs = ([], a, e) → St W (rdr a8 s a' :: cel a10 [.int .i64 a] 3 :: cel a2 [tSlc.enc q] 113 :: row TV 91 5 q vs :: cel a4 [.int .i64 0] 3 :: cel a6 [.int .i64 0] 31 :: l) w →
        F38_p ⟨a10, 0, none⟩ ⟨a2, 0, none⟩ ⟨a4, 0, none⟩ ⟨a6, 0, none⟩ (fun (r : Slc × Int × Int) w' => r.2.1 = ((unp bs).2.1 : Int) ∧ r.2.2 = (unp bs).2.2 ∧ St W (row TV 91 5 r.1 (unp bs).1 :: l) w') (flt e) w := by
      intro e a' w he H
      refine catch_spec (q := q) (p0 := 0) (e0 := 0) (H.ord [0, 3]).drop.drop ?_
      · intro w' H
        rw [he]
        exact ⟨rfl, rfl, row_nil TV 91 5 H⟩
    by_cases h1000 : vs.length = 1000
    · rw [if_pos (by simp; omega)]
      rw [if_pos h1000] at he
      exact hcatch 20 a w he H
    · rw [if_neg (by simp; omega)]
      rw [if_neg h1000] at he
      refine dr_st H fun w H => ?_
      refine ld_st (x := q) 2 H rfl rfl rfl ?_
      refine value_spec hcap hn (k.app [cel a10 [.int .i64 a] 3, cel a2 [tSlc.enc q] 113, row TV 91 5 q vs, cel a4 [.int .i64 0] 3, cel a6 [.int .i64 0] 31]) ha hd H ?_ ?_
      · intro e a' w hde H
        rw [hde] at he
        exact hcatch e a' w he H
      · intro v r' a' w hde ha' hd' H
        rw [hde] at he
        refine ⟨rdat_cel tSlc (H.front 2) rfl rfl, ?_⟩
        refine apl_row (fun _ => rfl) 3 H rfl (by simp; omega) fun q' w H => ?_
        refine st_st (x := q') 3 H rfl rfl (Nat.le_of_ble_eq_true rfl) fun w H => ?_
        have hless := dec1_less hde
        have hr' : r'.length = bs.length - a' := by rw [← hd', List.length_drop]
        simp only [List.length_cons] at hless
        refine hK (bs.length - a') () _ (by omega) ⟨f, a', a, q', vs ++ [v], rfl, ha', by omega, by simp; omega, ?_, H.ord [2, 3, 0, 1]⟩
        rw [he, hd']
        simp only
        have e9 : a + (r.length + 1 - r'.length) = a' := by omega
        rw [e9]
  · have hae : a = bs.length := by omega
    rw [if_neg (by simp; omega)]
    rw [hae, List.drop_length] at he
    simp only [unpF] at he
    rw [he]
    refine ld_st (x := q) 2 H rfl rfl rfl ?_
    refine st_st (x := q) 2 H rfl rfl (Nat.le_of_ble_eq_true rfl) fun w H => ?_
    refine st_st (x := (0 : Int)) 4 H rfl rfl (Nat.le_of_ble_eq_true rfl) fun w H => ?_
    refine st_st (x := (0 : Int)) 5 H rfl rfl (Nat.le_of_ble_eq_true rfl) fun w H => ?_
    refine idle_spec (args := []) ?_
    refine ld_st (x := q) 2 H rfl rfl rfl ?_
    refine ld_st (x := (0 : Int)) 1 H rfl rfl rfl ?_
    refine ld_st (x := (0 : Int)) 0 H rfl rfl rfl ?_
    refine ⟨rfl, rfl, ?_⟩
    exact (H.ord [0, 1, 2, 3, 4]).drop.drop.drop.drop.drop
end
end Go.Proofs.Ytjkmeooncmhonaa.Wire
