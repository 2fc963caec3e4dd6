/- The law's own function add: entries with others added to them. -/
import Derived.Test.YtleehieomicicaaQL
namespace Go.Proofs.Ytleehieomicicaa.Audit
open Go Go.Proofs.Ytleehieomicicaa.Cf
set_option linter.unusedVariables false
set_option linter.unusedSimpArgs false
set_option maxRecDepth 100000
set_option maxHeartbeats 2000000
section
variable {W w : World} {l : List Assn}
theorem val_snoc {out : List S36} {x : S36} (h : ∀ y ∈ out, y.Key ≠ x.Key) (q : Int) : val (out ++ [x]) q = val out q + if q = x.Key then x.V else 0 := by
  induction out with
  | nil =>
    simp only [List.nil_append, val]
    by_cases c : x.Key = q
    · rw [if_pos c, if_pos c.symm]; omega
    · rw [if_neg c, if_neg fun e => c e.symm]; omega
  | cons y out ih =>
    have h1 := h y (List.mem_cons_self ..)
    have ih := ih fun z hz => h z (List.mem_cons_of_mem _ hz)
    simp only [List.cons_append, val]
    by_cases c : y.Key = q
    · rw [if_pos c, if_pos c, if_neg (by omega)]; omega
    · rw [if_neg c, if_neg c, ih]
structure AddI (f : Int → Int) (A D out : List S36) : Prop where
  rise : Rise out
  nz : ∀ x ∈ out, x.V ≠ 0
  bA : ∀ y ∈ out, ∀ z ∈ A, y.Key < z.Key
  bD : ∀ y ∈ out, ∀ z ∈ D, y.Key < z.Key
  sum : ∀ q, val out q + val A q + val D q = f q
theorem add_step {f : Int → Int} {A D A' D' out : List S36} {x : S36} (I : AddI f A D out) (hA : ∀ z ∈ A', z ∈ A) (hD : ∀ z ∈ D', z ∈ D) (h1 : ∀ z ∈ A', x.Key < z.Key) (h2 : ∀ z ∈ D', x.Key < z.Key) (h3 : ∀ y ∈ out, y.Key < x.Key)
    (hs : ∀ q, val A q + val D q = (if q = x.Key then x.V else 0) + val A' q + val D' q) : AddI f A' D' (if x.V ≠ 0 then out ++ [x] else out) := by
  by_cases c : x.V = 0
  · rw [if_neg (by simpa using c)]
    refine ⟨I.rise, I.nz, fun y hy z hz => I.bA y hy z (hA z hz), fun y hy z hz => I.bD y hy z (hD z hz), fun q => ?_⟩
    have h5 := I.sum q; have h6 := hs q
    rw [c] at h6
    simp only [ite_self] at h6
    omega
  · rw [if_pos (by simpa using c)]
    refine ⟨List.pairwise_append.2 ⟨I.rise, by simp, fun y hy z hz => by rw [List.mem_singleton.1 hz]; exact h3 y hy⟩, fun y hy => ?_, fun y hy z hz => ?_, fun y hy z hz => ?_, fun q => ?_⟩
    · rcases List.mem_append.1 hy with hy | hy
      · exact I.nz y hy
      · rw [List.mem_singleton.1 hy]; exact c
    · rcases List.mem_append.1 hy with hy | hy
      · exact I.bA y hy z (hA z hz)
      · rw [List.mem_singleton.1 hy]; exact h1 z hz
    · rcases List.mem_append.1 hy with hy | hy
      · exact I.bD y hy z (hD z hz)
      · rw [List.mem_singleton.1 hy]; exact h2 z hz
    · rw [val_snoc fun y hy => by have := h3 y hy; omega]
      have h5 := I.sum q; have h6 := hs q
      omega
theorem val_head {L : List S36} {i : Nat} {x : S36} (hL : Rise L) (hx : L[i]? = some x) : L.drop i = x :: L.drop (i + 1) ∧ (∀ z ∈ L.drop (i + 1), x.Key < z.Key) ∧ ∀ q, val (L.drop i) q = (if q = x.Key then x.V else 0) + val (L.drop (i + 1)) q := by
  obtain ⟨hi, rfl⟩ := List.getElem?_eq_some_iff.1 hx
  have hd : L.drop i = L[i] :: L.drop (i + 1) := List.drop_eq_getElem_cons hi
  have hr : Rise (L.drop i) := hL.sublist (List.drop_sublist _ _)
  rw [hd] at hr
  have h1 := (List.pairwise_cons.1 hr).1
  refine ⟨hd, h1, fun q => ?_⟩
  rw [hd, val]
  by_cases c : L[i].Key = q
  · rw [if_pos c, if_pos c.symm]
    have : val (L.drop (i + 1)) q = 0 := val_none fun z hz => by have := h1 z hz; omega
    omega
  · rw [if_neg c, if_neg fun e => c e.symm]; omega
theorem val_low {L : List S36} {q : Int} (h : ∀ z ∈ L, q < z.Key) : val L q = 0 := val_none fun z hz => by have := h z hz; omega
theorem add_spec {sa sd : Slc} {a d : List S36} {f : Int → Int} (ha : a.length ≤ 1000) (hd : d.length ≤ 1000) (Ra : Rise a) (Rd' : Rise d) (hf : ∀ q, val a q + val d q = f q) (hI : ∀ q, I64 (f q)) (ka : Know l (RoP T36 sa a)) (kd : Know l (RoP T36 sd d)) (H : St W l w) :
    cl Try.prog 19 [tSlc.enc sa, tSlc.enc sd] tSlc w fun r w' => ∃ M, Rise M ∧ (∀ x ∈ M, x.V ≠ 0) ∧ (∀ q, val M q = f q) ∧ St W (row T36 37 2 r M :: l) w' := by
  have la := ka.len H
  have ld := kd.len H
  refine F19_ok ?_
  unfold F19
  refine nwS_st H fun b w1 H => ?_
  have H := row_new (sz := 2) (m := 0) rfl H
  refine lp_i (fun p w => 0 ≤ p.2.1 ∧ p.2.1 ≤ a.length ∧ 0 ≤ p.2.2 ∧ p.2.2 ≤ d.length ∧ ∃ M, M.length ≤ p.2.1.toNat + p.2.2.toNat ∧ AddI f (a.drop p.2.1.toNat) (d.drop p.2.2.toNat) M ∧ St W (row T36 37 2 p.1 M :: l) w) (fun p => (a.length - p.2.1 + (d.length - p.2.2)).toNat)
    ⟨Int.le_refl 0, by simp only; omega, Int.le_refl 0, by simp only; omega, [], by simp, ⟨List.Pairwise.nil, by simp, by simp, by simp, fun q => by have := hf q; simp only [val, Int.toNat_zero, List.drop_zero]; omega⟩, H⟩ ?_
  clear H
  rintro ⟨out, i, k⟩ w ⟨i0, i1, k0, k1, M, hM, hI2, H⟩
  simp only at i0 i1 k0 k1 hM hI2 H ⊢
  unfold F19_l1
  split
  · rename_i hc
    have ei : IntKind.i64.wrap (i + 1) = i + 1 := wrap_i64 (by omega) (by omega)
    have ek : IntKind.i64.wrap (k + 1) = k + 1 := wrap_i64 (by omega) (by omega)
    obtain ⟨x, hx⟩ : ∃ x, i < a.length → a[i.toNat]? = some x := by
      by_cases c : i < a.length
      · exact ⟨a[i.toNat]'(by omega), fun _ => List.getElem?_eq_getElem (by omega)⟩
      · exact ⟨⟨0, 0⟩, fun h => absurd h c⟩
    obtain ⟨y, hy⟩ : ∃ y, k < d.length → d[k.toNat]? = some y := by
      by_cases c : k < d.length
      · exact ⟨d[k.toNat]'(by omega), fun _ => List.getElem?_eq_getElem (by omega)⟩
      · exact ⟨⟨0, 0⟩, fun h => absurd h c⟩
    refine nw_st H fun bx w2 H => ?_
    refine st_st (x := (⟨(0 : Int), (0 : Int)⟩ : S36)) 0 H rfl rfl (Nat.le_of_ble_eq_true rfl) fun w3 H => ?_
    have H : St W (cel bx (T36.cells ⟨0, 0⟩) 37 :: row T36 37 2 out M :: l) w3 := H
    have ka2 : Know (cel bx (T36.cells ⟨0, 0⟩) 37 :: row T36 37 2 out M :: l) (RoP T36 sa a) := ka.tail.tail
    have kd2 : Know (cel bx (T36.cells ⟨0, 0⟩) 37 :: row T36 37 2 out M :: l) (RoP T36 sd d) := kd.tail.tail
    obtain ⟨p, hp⟩ : ∃ p, i < a.length → IxA sa 2 i p := by
      by_cases c : i < a.length
      · obtain ⟨p, hp⟩ := ka2.ix (sz := 2) (i := i) H i0 c
        exact ⟨p, fun _ => hp⟩
      · exact ⟨⟨0, 0, none⟩, fun h => absurd h c⟩
    obtain ⟨q, hq⟩ : ∃ q, k < d.length → IxA sd 2 k q := by
      by_cases c : k < d.length
      · obtain ⟨q, hq⟩ := kd2.ix (sz := 2) (i := k) H k0 c
        exact ⟨q, fun _ => hq⟩
      · exact ⟨⟨0, 0, none⟩, fun h => absurd h c⟩
    refine dr_st H fun w4 H => ?_
    have g1 : ((!(k == (d.length : Int))) && (decide (i < (a.length : Int)))) = true → k < d.length ∧ i < a.length := fun h => by simp at h; omega
    rw [la, ld]
    refine ex_i p (fun h => hp (g1 h).2) ?_
    refine ex_i q (fun h => hq (g1 h).1) ?_
    refine ex_i x.Key (fun h => ka2.fld (fun _ => rfl) (hp (g1 h).2) (hx (g1 h).2) rfl H) ?_
    refine ex_i y.Key (fun h => kd2.fld (fun _ => rfl) (hq (g1 h).1) (hy (g1 h).1) rfl H) ?_
    have fin : ∀ (z : S36) (i' k' : Int) (w : World), 0 ≤ i' → i' ≤ a.length → 0 ≤ k' → k' ≤ d.length → i.toNat + k.toNat + 1 ≤ i'.toNat + k'.toNat → AddI f (a.drop i'.toNat) (d.drop k'.toNat) (if z.V ≠ 0 then M ++ [z] else M) →
        St W (cel bx (T36.cells z) 37 :: row T36 37 2 out M :: l) w →
        F19_j2 out ⟨bx, 0, none⟩ i' k' w (fun s' w' => (0 ≤ s'.2.1 ∧ s'.2.1 ≤ a.length ∧ 0 ≤ s'.2.2 ∧ s'.2.2 ≤ d.length ∧ ∃ M, M.length ≤ s'.2.1.toNat + s'.2.2.toNat ∧ AddI f (a.drop s'.2.1.toNat) (d.drop s'.2.2.toNat) M ∧ St W (row T36 37 2 s'.1 M :: l) w') ∧ (a.length - s'.2.1 + (d.length - s'.2.2)).toNat < (a.length - i + (d.length - k)).toNat) (fun r w' => ∃ M, Rise M ∧ (∀ x ∈ M, x.V ≠ 0) ∧ (∀ q, val M q = f q) ∧ St W (row T36 37 2 r M :: l) w') := by
      intro z i' k' w i0' i1' k0' k1' hik hA H
      unfold F19_j2
      refine ld_st (x := z.V) 0 H rfl rfl rfl ?_
      split
      · rename_i hne
        rw [if_pos (by simpa using hne)] at hA
        refine ld_st (x := z) 0 H rfl rfl rfl ?_
        refine apl_row (fun _ => rfl) 1 H rfl (by simp only [List.length_singleton]; omega) fun r w3 H => ?_
        exact ⟨⟨i0', i1', k0', k1', _, by rw [List.length_append, List.length_singleton]; simp only; omega, hA, (H.front 1).drop⟩, by simp only; omega⟩
      · rename_i hne
        rw [if_neg (by simpa using hne)] at hA
        exact ⟨⟨i0', i1', k0', k1', _, by simp only; omega, hA, H.drop⟩, by simp only; omega⟩
    split
    · rename_i hcc
      have hia : i < a.length := by simp at hc hcc; omega
      have hxa := hx hia
      obtain ⟨v1, v2, v3⟩ := val_head Ra hxa
      have hlow : ∀ z ∈ d.drop k.toNat, x.Key < z.Key := by
        intro z hz
        by_cases c : k < d.length
        · obtain ⟨u1, u2, u3⟩ := val_head Rd' (hy c)
          have hlt : x.Key < y.Key := by simp at hcc; omega
          rw [u1] at hz
          rcases List.mem_cons.1 hz with rfl | hz
          · exact hlt
          · have := u2 z hz; omega
        · rw [List.drop_eq_nil_of_le (by omega)] at hz; cases hz
      refine ex_i p (hp hia) ?_
      refine ex_i x (ka2.rd (fun _ => rfl) (hp hia) hxa H) ?_
      refine st_st (x := x) 0 H rfl rfl (Nat.le_of_ble_eq_true rfl) fun w5 H => ?_
      rw [ei]
      refine fin x (i + 1) k w5 (by omega) (by omega) k0 k1 (by omega) ?_ H
      rw [show (i + 1).toNat = i.toNat + 1 from by omega]
      refine add_step hI2 (fun z hz => by rw [v1]; exact List.mem_cons_of_mem _ hz) (fun z hz => hz) v2 hlow (fun z hz => hI2.bA z hz x (by rw [v1]; exact List.mem_cons_self ..)) fun q => by rw [v3]
    · rename_i hcc
      have hkd : k < d.length := by simp at hc hcc; omega
      have hyd := hy hkd
      obtain ⟨u1, u2, u3⟩ := val_head Rd' hyd
      have g2 : (!(i == (a.length : Int))) = true → i < a.length := fun h => by simp at h; omega
      refine dr_st H fun w5 H => ?_
      refine ex_i q (fun _ => hq hkd) ?_
      refine ex_i p (fun h => hp (g2 h)) ?_
      refine ex_i y.Key (fun h => kd2.fld (fun _ => rfl) (hq hkd) hyd rfl H) ?_
      refine ex_i x.Key (fun h => ka2.fld (fun _ => rfl) (hp (g2 h)) (hx (g2 h)) rfl H) ?_
      split
      · rename_i hc3
        have hlow : ∀ z ∈ a.drop i.toNat, y.Key < z.Key := by
          intro z hz
          by_cases c : i < a.length
          · obtain ⟨v1, v2, v3⟩ := val_head Ra (hx c)
            have hlt : y.Key < x.Key := by simp at hc3; omega
            rw [v1] at hz
            rcases List.mem_cons.1 hz with rfl | hz
            · exact hlt
            · have := v2 z hz; omega
          · rw [List.drop_eq_nil_of_le (by omega)] at hz; cases hz
        refine ex_i q (hq hkd) ?_
        refine ex_i y (kd2.rd (fun _ => rfl) (hq hkd) hyd H) ?_
        refine st_st (x := y) 0 H rfl rfl (Nat.le_of_ble_eq_true rfl) fun w6 H => ?_
        rw [ek]
        refine fin y i (k + 1) w6 i0 i1 (by omega) (by omega) (by omega) ?_ H
        rw [show (k + 1).toNat = k.toNat + 1 from by omega]
        refine add_step hI2 (fun z hz => hz) (fun z hz => by rw [u1]; exact List.mem_cons_of_mem _ hz) hlow u2 (fun z hz => hI2.bD z hz y (by rw [u1]; exact List.mem_cons_self ..)) fun q => by rw [u3]; omega
      · rename_i hc3
        have hia : i < a.length := by simp at hc3; omega
        have hxa := hx hia
        obtain ⟨v1, v2, v3⟩ := val_head Ra hxa
        have hkk : x.Key = y.Key := by
          have n1 : ¬ (y.Key < x.Key) := fun h => hc3 (by simp; omega)
          have n2 : ¬ (x.Key < y.Key) := fun h => hcc (by simp; omega)
          omega
        have hfx : x.V + y.V = f x.Key := by
          rw [← hf x.Key, val_mem Ra (List.mem_of_getElem? hxa), hkk, val_mem Rd' (List.mem_of_getElem? hyd)]
        have ew : IntKind.i64.wrap (x.V + y.V) = x.V + y.V := by rw [hfx]; exact wrap_i64 (hI _).1 (hI _).2
        refine dr_st H fun w6 H => ?_
        refine ex_i p (hp hia) ?_
        refine ex_i p (hp hia) ?_
        refine ex_i q (hq hkd) ?_
        refine ex_i x.Key (ka2.fld (fun _ => rfl) (hp hia) hxa rfl H) ?_
        refine ex_i x.V (ka2.fld (fun _ => rfl) (hp hia) hxa rfl H) ?_
        refine ex_i y.V (kd2.fld (fun _ => rfl) (hq hkd) hyd rfl H) ?_
        rw [ew]
        refine st_st (x := (⟨x.Key, x.V + y.V⟩ : S36)) 0 H rfl rfl (Nat.le_of_ble_eq_true rfl) fun w7 H => ?_
        rw [ei, ek]
        refine fin ⟨x.Key, x.V + y.V⟩ (i + 1) (k + 1) w7 (by omega) (by omega) (by omega) (by omega) (by omega) ?_ H
        rw [show (k + 1).toNat = k.toNat + 1 from by omega, show (i + 1).toNat = i.toNat + 1 from by omega]
        refine add_step hI2 (fun z hz => by rw [v1]; exact List.mem_cons_of_mem _ hz) (fun z hz => by rw [u1]; exact List.mem_cons_of_mem _ hz) v2 (by simp only; rw [hkk]; exact u2) (fun z hz => hI2.bA z hz x (by rw [v1]; exact List.mem_cons_self ..)) fun q => ?_
        rw [v3, u3]
        simp only
        rw [← hkk]
        split <;> omega
  · rename_i hc
    have hc1 : i = a.length := by simp at hc; omega
    have hc2 : k = d.length := by simp at hc; omega
    subst hc1; subst hc2
    refine ⟨M, hI2.rise, hI2.nz, fun q => ?_, H⟩
    have := hI2.sum q
    simp only [Int.toNat_natCast, List.drop_length, val] at this
    omega
end
end Go.Proofs.Ytleehieomicicaa.Audit
