/- The vault in memory; contracts. -/
import Derived.Test.YtpdaapffkdejoaaGreatVA
import Derived.Test.YtpdaapffkdejoaaGreatItB
namespace Go.Proofs.YtpdaapffkdejoaaGreat.Vault
open Go Go.Proofs.YtpdaapffkdejoaaGreat.Cf Go.Proofs.YtpdaapffkdejoaaGreat.Store Go.Proofs.YtpdaapffkdejoaaGreat.Num
set_option linter.unusedVariables false
set_option linter.unusedSimpArgs false
set_option maxRecDepth 100000
abbrev TV := T34
abbrev THe := T54
abbrev TFt := T69
structure VaP where
  s : Nat
  m1 : Nat
  m2 : Nat
  m3 : Nat
def vval (v : Va) (p : VaP) : S34 := ⟨(⟨some ⟨p.s, 0, none⟩⟩ : S29), v.rate, v.top, some p.m1, some p.m2, some p.m3⟩
def vaA (b : Nat) (v : Va) : Assn := exA fun p : VaP => sepA [cel b (TV.cells (vval v p)) 35, sto p.s v.S, mapE THe .i64 p.m1 v.held, mapE (tInt .i64) .i64 p.m2 v.busy, mapE TFt .i64 p.m3 v.fates]
section
variable {W w : World} {l l' : List Assn}
theorem va_open {b : Nat} {v : Va} (H : St W (vaA b v :: l) w) : ∃ p : VaP, St W (cel b (TV.cells (vval v p)) 35 :: sto p.s v.S :: mapE THe .i64 p.m1 v.held :: mapE (tInt .i64) .i64 p.m2 v.busy :: mapE TFt .i64 p.m3 v.fates :: l) w := by
  obtain ⟨p, H⟩ := H.ex
  exact ⟨p, H.open_⟩
theorem va_shut {b : Nat} {v : Va} {p : VaP} (H : St W (cel b (TV.cells (vval v p)) 35 :: sto p.s v.S :: mapE THe .i64 p.m1 v.held :: mapE (tInt .i64) .i64 p.m2 v.busy :: mapE TFt .i64 p.m3 v.fates :: l) w) : St W (vaA b v :: l) w :=
  St.toEx p (St.shut (l' := [cel b (TV.cells (vval v p)) 35, sto p.s v.S, mapE THe .i64 p.m1 v.held, mapE (tInt .i64) .i64 p.m2 v.busy, mapE TFt .i64 p.m3 v.fates]) H)
theorem drops : ∀ (j : List Assn) {A : Assn}, St W (j ++ A :: l) w → St W (A :: l) w
  | [], _, H => H
  | _ :: j, _, H => drops j H.drop
theorem mlenG_st {r : Nat} {β : Type} {T : Ty β} {es : List (Int × β)} {K : Nat → Prop} {m : Option Nat} {g : Bool} (i : Nat) (H : St W l w) (hi : front i l = mapE T .i64 r es :: l') (hm : m = some r) (hk : K es.length) : ex (fun x => g = true → (MapLen m w) x) K := by
  obtain ⟨x, hx, hk⟩ := mlen_st (K := K) i H hi hm hk
  exact ⟨x, fun _ => hx, hk⟩
theorem ranging_nodup {r it : Nat} {β : Type} {T : Ty β} {k : IntKind} {es left : List (Int × β)} {cur : Option (Int × β)} (H : St W (ranging T k r it es left cur :: l) w) : (es.map (·.1)).Nodup := mapE_nodup (ranging_done H)
theorem new_spec {f : Nat} (hf : f < 18446744073709551616) (H : St W l w) : cl Tryz.prog 22 [.float .f64 f] (tTup2 tPtr (tInt .i64)) w fun r w' => (rateOk f → r.2 = 0 ∧ ∃ b, r.1 = some ⟨b, 0, none⟩ ∧ St W (vaA b ⟨f, ⟨[], 0, 0⟩, 0, [], [], []⟩ :: l) w') ∧ (¬ rateOk f → r = (none, 150) ∧ St W l w') := by
  refine F22_ok ?_
  unfold F22
  refine cl_mono (rate_spec hf H) ?_
  rintro r w ⟨h1, h2, H⟩
  by_cases c : r = 0
  · rw [if_neg (by simp [c])]
    refine cl_mono (snew_spec H) ?_
    rintro r' w ⟨s, rfl, H⟩
    refine nwMap_st H fun m1 w H => ?_
    have H := mapE_new THe .i64 H
    refine nwMap_st H fun m2 w H => ?_
    have H := mapE_new (tInt .i64) .i64 H
    refine nwMap_st H fun m3 w H => ?_
    have H := mapE_new TFt .i64 H
    refine nw_st H fun b w H => ?_
    refine ⟨fun _ => ⟨rfl, b, rfl, ?_⟩, fun h => absurd (h1.1 c) h⟩
    exact va_shut (v := ⟨f, ⟨[], 0, 0⟩, 0, [], [], []⟩) (p := ⟨s, m1, m2, m3⟩) (H.ord [0, 4, 3, 2, 1])
  · rw [if_pos (by simpa using c)]
    exact ⟨fun h => absurd (h1.2 h) c, fun _ => ⟨rfl, H⟩⟩
theorem vis_spec {a : Int} (H : St W l w) : cl Tryz.prog 43 [.int .i64 a] tBool w fun r w' => r = decide (isA a) ∧ St W l w' := by
  refine F43_ok ?_
  unfold F43
  refine ⟨?_, H⟩
  rw [Bool.eq_iff_iff, decide_eq_true_eq]
  unfold isA
  simp
theorem vin_spec {t : Int} (H : St W l w) : cl Tryz.prog 36 [.int .i64 t] tBool w fun r w' => r = (decide (t ≥ 0) && decide (t ≤ 1125899906842624)) ∧ St W l w' := by
  refine F36_ok ?_
  unfold F36
  exact ⟨rfl, H⟩
theorem vnext_spec {b : Nat} {v : Va} {t : Int} (H : St W (vaA b v :: l) w) : cl Tryz.prog 38 [.pointer (some ⟨b, 0, none⟩), .int .i64 t] (tInt .i64) w fun r w' => r = nextE v t ∧ St W (vaA b v :: l) w' := by
  refine F38_ok ?_
  unfold F38 nextE
  by_cases c : t < 1 ∨ t > 1125899906842624
  · rw [if_pos (by simpa using c), if_pos c]
    exact ⟨rfl, H⟩
  · rw [if_neg (by simpa using c), if_neg c]
    obtain ⟨p, H⟩ := va_open H
    refine nc_st rfl ?_
    refine ld_st (x := v.top) 0 H rfl rfl rfl ?_
    by_cases d : t ≤ v.top
    · rw [if_pos (by simpa using d), if_pos d]
      exact ⟨rfl, va_shut H⟩
    · rw [if_neg (by simpa using d), if_neg d]
      exact ⟨rfl, va_shut H⟩
theorem met_spec {b : Nat} {v : Va} {t : Int} (H : St W (vaA b v :: l) w) : cl Tryz.prog 33 [.pointer (some ⟨b, 0, none⟩), .int .i64 t] tUnit w fun _ w' => St W (vaA b { v with top := max v.top t } :: l) w' := by
  refine F33_ok ?_
  unfold F33
  obtain ⟨p, H⟩ := va_open H
  refine nc_st rfl ?_
  refine ld_st (x := v.top) 0 H rfl rfl rfl ?_
  refine st_st (x := max v.top t) 0 H rfl rfl (Nat.le_of_ble_eq_true rfl) fun w H => ?_
  exact va_shut (v := { v with top := max v.top t }) H
theorem told_spec {e : Int} (H : St W l w) : cl Tryz.prog 28 [.int .i64 e] (tInt .i64) w fun r w' => r = toldE e ∧ St W l w' := by
  refine F28_ok ?_
  unfold F28 toldE
  by_cases c1 : e = 120
  · rw [if_pos (by simpa using c1), if_pos c1]; exact ⟨rfl, H⟩
  · rw [if_neg (by simpa using c1), if_neg c1]
    by_cases c2 : e = 128
    · rw [if_pos (by simpa using c2), if_pos c2]; exact ⟨rfl, H⟩
    · rw [if_neg (by simpa using c2), if_neg c2]
      by_cases c3 : e = 126
      · rw [if_pos (by simpa using c3), if_pos c3]; exact ⟨rfl, H⟩
      · rw [if_neg (by simpa using c3), if_neg c3]
        by_cases c4 : e = 127
        · rw [if_pos (by simpa using c4), if_pos c4]; exact ⟨rfl, H⟩
        · rw [if_neg (by simpa using c4), if_neg c4]; exact ⟨rfl, H⟩
theorem vopen_spec {b : Nat} {v : Va} {t a n : Int} (F : Fit v) (H : St W (vaA b v :: l) w) : cl Tryz.prog 23 [.pointer (some ⟨b, 0, none⟩), .int .i64 t, .int .i64 a, .int .i64 n] (tInt .i64) w fun r w' => r = (openV v t a n).2 ∧ St W (vaA b (openV v t a n).1 :: l) w' := by
  refine F23_ok ?_
  unfold F23
  refine cl_mono (vnext_spec (t := t) H) ?_
  rintro r w ⟨rfl, H⟩
  unfold openV
  by_cases c0 : nextE v t = 0
  · rw [if_neg (by simp [c0]), if_neg (by simp [c0])]
    obtain ⟨p, H⟩ := va_open H
    refine nc_st rfl ?_
    refine ld_st (x := some (⟨p.s, 0, none⟩ : Addr)) 0 H rfl rfl rfl ?_
    refine cl_mono (slast_spec (k := a) F.sto (H.front 1)) ?_
    rintro r w ⟨rfl, H⟩
    refine nw_st H fun b1 w H => ?_
    show st T86 _ (lastV (vs v.S.rows a)).1 _ _
    generalize hq : lastV (vs v.S.rows a) = q
    have hq2 : lastOf v a = q := hq
    rw [hq2]
    refine vst_st (x := Z86) (y := q.1) len87 0 H rfl fun w H => ?_
    refine cl_mono (vis_spec H) ?_
    rintro r w ⟨rfl, H⟩
    have fin : ∀ w, St W (cel b1 (T86.cells q.1) 87 :: sto p.s v.S :: cel b (TV.cells (vval v p)) 35 :: mapE THe .i64 p.m1 v.held :: mapE (tInt .i64) .i64 p.m2 v.busy :: mapE TFt .i64 p.m3 v.fates :: l) w → St W (vaA b v :: l) w := fun w H => va_shut ((H.drop).front 1)
    by_cases c1 : isA a
    · rw [decide_eq_true c1, if_neg (by simp : ¬ (!true) = true), if_neg (show ¬ ¬ isA a by simp [c1])]
      by_cases c2 : q.2 = true
      · rw [if_pos c2, if_pos c2]
        exact ⟨rfl, fin _ H⟩
      · rw [if_neg c2, if_neg c2]
        refine cl_mono (check_spec (n := n) H) ?_
        rintro r w ⟨rfl, H⟩
        by_cases c3 : okAm n
        · have e : (if 0 ≤ n ∧ n ≤ 1000000000000000 then (0 : Int) else 40) = 0 := if_pos c3
          rw [e, if_neg (by simp), if_neg (by simp [c3])]
          refine ld_st (x := some (⟨p.s, 0, none⟩ : Addr)) 2 H rfl rfl rfl ?_
          refine nwS_st H fun b2 w H => ?_
          have H := row_new (sz := 2) (m := 1) rfl H
          refine cl_mono (put_spec (t := t) (xs := [⟨a, n⟩]) F.sto (by simp) (See.row (fun _ => rfl) 0 rfl) (H.front 2)) ?_
          rintro r w ⟨_, H⟩
          have H := va_shut (v := { v with S := putM v.S t [⟨a, n⟩] }) (p := p) ((H.ord [3, 0, 4, 5, 6]))
          refine cl_mono (met_spec (t := t) H) ?_
          intro r w H
          exact ⟨rfl, (((H.front 1).drop).front 1).drop⟩
        · have e : (if 0 ≤ n ∧ n ≤ 1000000000000000 then (0 : Int) else 40) = 40 := if_neg c3
          rw [e, if_pos (by simp), if_pos c3]
          exact ⟨rfl, fin _ H⟩
    · rw [decide_eq_false c1, if_pos (by simp : (!false) = true), if_pos c1]
      exact ⟨rfl, fin _ H⟩
  · rw [if_pos (by simpa using c0), if_pos c0]
    exact ⟨rfl, H⟩
theorem vwhy_spec {b : Nat} {v : Va} {p : Part} (F : Fit v) (H : St W (vaA b v :: l) w) : cl Tryz.prog 39 [.pointer (some ⟨b, 0, none⟩), T52.enc p] (tTup2 (tInt .i64) (tInt .i64)) w fun r w' => r = whyV v p ∧ St W (vaA b v :: l) w' := by
  refine F39_ok ?_
  unfold F39
  refine nw_st H fun b1 w H => ?_
  refine dr_st H fun w H => ?_
  refine nc_st rfl ?_
  obtain ⟨q, H⟩ := va_open (H.front 1)
  refine ld_st (x := some q.m3) 0 H rfl rfl rfl ?_
  refine ld_st (x := p.ID) 5 H rfl rfl rfl ?_
  refine mget_st 4 H rfl rfl ?_
  refine nw_st H fun b2 w H => ?_
  refine vst_st (x := Z69) (y := (v.fates.lookup p.ID).getD Z69) len70 0 H rfl fun w H => ?_
  refine dr_st H fun w H => ?_
  refine ld_st (x := some (⟨q.s, 0, none⟩ : Addr)) 1 H rfl rfl rfl ?_
  refine ld_st (x := p.Account) 6 H rfl rfl rfl ?_
  have H := H.drop
  -- what comes behind both orders
  have j1 : ∀ (b3 : Nat) (w : World), St W (cel b3 (T86.cells (lastOf v p.Account).1) 87 :: sto q.s v.S :: cel b (TV.cells (vval v q)) 35 :: mapE THe .i64 q.m1 v.held :: mapE (tInt .i64) .i64 q.m2 v.busy :: mapE TFt .i64 q.m3 v.fates :: cel b1 (T52.cells p) 53 :: l) w →
      F39_j1 ⟨b1, 0, none⟩ ⟨b, 0, none⟩ (v.fates.lookup p.ID) ⟨b3, 0, none⟩ (lastOf v p.Account).2 w fun r w' => r = whyV v p ∧ St W (vaA b v :: l) w' := by
    intro b3 w H
    have fin : ∀ w, St W (cel b3 (T86.cells (lastOf v p.Account).1) 87 :: sto q.s v.S :: cel b (TV.cells (vval v q)) 35 :: mapE THe .i64 q.m1 v.held :: mapE (tInt .i64) .i64 q.m2 v.busy :: mapE TFt .i64 q.m3 v.fates :: cel b1 (T52.cells p) 53 :: l) w → St W (vaA b v :: l) w :=
      fun w H => (va_shut (p := q) ((H.drop).front 1) |>.front 1).drop
    unfold F39_j1 whyV
    refine dr_st H fun w H => ?_
    refine ld_st (x := some q.m2) 2 H rfl rfl rfl ?_
    refine ld_st (x := p.Account) 6 H rfl rfl rfl ?_
    refine mget_st 4 H rfl rfl ?_
    refine ld_st (x := p.ID) 6 H rfl rfl rfl ?_
    by_cases c1 : p.ID < 1
    · rw [if_pos (by simpa using c1), if_pos c1]; exact ⟨rfl, fin _ H⟩
    · rw [if_neg (by simpa using c1), if_neg c1]
      by_cases c2 : (v.fates.lookup p.ID).isSome = true
      · rw [if_pos c2, if_pos c2]; exact ⟨rfl, fin _ H⟩
      · rw [if_neg c2, if_neg c2]
        refine ld_st (x := some q.m3) 2 H rfl rfl rfl ?_
        refine mlen_st 5 H rfl rfl ?_
        by_cases c3 : 5000 ≤ v.fates.length
        · rw [if_pos (by simp; omega), if_pos c3]; exact ⟨rfl, fin _ H⟩
        · rw [if_neg (by simp; omega), if_neg c3]
          refine ld_st (x := p.Account) 6 H rfl rfl rfl ?_
          refine cl_mono (vis_spec H) ?_
          rintro r w ⟨rfl, H⟩
          by_cases c4 : isA p.Account
          · rw [decide_eq_true c4, if_neg (by simp), if_neg (show ¬ ¬ isA p.Account by simp [c4])]
            refine ld_st (x := p.N) 6 H rfl rfl rfl ?_
            have j2 : ∀ (t : Bool) (w : World), (t = true ↔ p.N < 1 ∨ ¬ okAm p.N) → St W (cel b3 (T86.cells (lastOf v p.Account).1) 87 :: sto q.s v.S :: cel b (TV.cells (vval v q)) 35 :: mapE THe .i64 q.m1 v.held :: mapE (tInt .i64) .i64 q.m2 v.busy :: mapE TFt .i64 q.m3 v.fates :: cel b1 (T52.cells p) 53 :: l) w →
                F39_j2 ⟨b1, 0, none⟩ ⟨b, 0, none⟩ ⟨b3, 0, none⟩ (lastOf v p.Account).2 (v.busy.lookup p.Account) t w fun r w' => r = (if p.N < 1 ∨ ¬ okAm p.N then (0, 155) else if (lastOf v p.Account).2 = false then (0, 159) else if (v.busy.lookup p.Account).isSome = true then (0, 160)
                  else if p.Pays = false then (if okAm (lastOf v p.Account).1.V ∧ (lastOf v p.Account).1.V + p.N ≤ 1000000000000000 then (0, 0) else (0, 162))
                  else if (lastOf v p.Account).1.V < p.N + feeF p.N v.rate then (0, 161) else (feeF p.N v.rate, 0)) ∧ St W (vaA b v :: l) w' := by
              intro t w ht H
              unfold F39_j2
              by_cases c5 : p.N < 1 ∨ ¬ okAm p.N
              · rw [if_pos (ht.2 c5), if_pos c5]; exact ⟨rfl, fin _ H⟩
              · rw [if_neg (fun h => c5 (ht.1 h)), if_neg c5]
                have e5 : okAm p.N := Classical.byContradiction fun hc => c5 (.inr hc)
                by_cases c6 : (lastOf v p.Account).2 = false
                · rw [if_pos (by simp [c6]), if_pos c6]; exact ⟨rfl, fin _ H⟩
                · rw [if_neg (by simpa using c6), if_neg c6]
                  by_cases c7 : (v.busy.lookup p.Account).isSome = true
                  · rw [if_pos c7, if_pos c7]; exact ⟨rfl, fin _ H⟩
                  · rw [if_neg c7, if_neg c7]
                    refine ld_st (x := p.Pays) 6 H rfl rfl rfl ?_
                    by_cases c8 : p.Pays = false
                    · rw [if_pos (by simp [c8]), if_pos c8]
                      refine ld_st (x := (lastOf v p.Account).1.V) 0 H rfl rfl rfl ?_
                      refine ld_st (x := p.N) 6 H rfl rfl rfl ?_
                      refine cl_mono (add_spec H) ?_
                      rintro r w ⟨h1, h2, H⟩
                      by_cases c9 : okAm (lastOf v p.Account).1.V ∧ (lastOf v p.Account).1.V + p.N ≤ 1000000000000000
                      · rw [if_neg (by simp [h1.2 ⟨c9.1, e5, c9.2⟩]), if_pos c9]; exact ⟨rfl, fin _ H⟩
                      · rw [if_pos (by simp; exact fun h => c9 ⟨(h1.1 h).1, (h1.1 h).2.2⟩), if_neg c9]; exact ⟨rfl, fin _ H⟩
                    · rw [if_neg (by simpa using c8), if_neg c8]
                      refine dr_st H fun w H => ?_
                      refine ld_st (x := p.N) 6 H rfl rfl rfl ?_
                      refine ld_st (x := v.rate) 2 H rfl rfl rfl ?_
                      refine cl_mono (fee_spec e5.1 e5.2 F.rate H) ?_
                      rintro r w ⟨rfl, H⟩
                      refine ld_st (x := (lastOf v p.Account).1.V) 0 H rfl rfl rfl ?_
                      refine ld_st (x := p.N) 6 H rfl rfl rfl ?_
                      have hf := feeF_le e5.1 e5.2 F.rate
                      have hn := e5.2
                      have hn0 := e5.1
                      have e : IntKind.i64.wrap (p.N + (feeF p.N v.rate, (0 : Int)).1) = p.N + feeF p.N v.rate := wrap_i64 (by simp only; omega) (by simp only; omega)
                      rw [e]
                      by_cases c9 : (lastOf v p.Account).1.V < p.N + feeF p.N v.rate
                      · rw [if_pos (by simpa using c9), if_pos c9]; exact ⟨rfl, fin _ H⟩
                      · rw [if_neg (by simpa using c9), if_neg c9]; exact ⟨rfl, fin _ H⟩
            by_cases c5 : p.N < 1
            · rw [if_pos (by simpa using c5)]
              exact j2 true w ⟨fun _ => .inl c5, fun _ => rfl⟩ H
            · rw [if_neg (by simpa using c5)]
              refine ld_st (x := p.N) 6 H rfl rfl rfl ?_
              refine cl_mono (check_spec H) ?_
              rintro r w ⟨rfl, H⟩
              refine j2 _ w ?_ H
              by_cases c6 : okAm p.N
              · have e : (if 0 ≤ p.N ∧ p.N ≤ 1000000000000000 then (0 : Int) else 40) = 0 := if_pos c6
                rw [e]
                simp [c5, c6]
              · have e : (if 0 ≤ p.N ∧ p.N ≤ 1000000000000000 then (0 : Int) else 40) = 40 := if_neg c6
                rw [e]
                simp [c6]
          · rw [decide_eq_false c4, if_pos (by simp), if_pos c4]; exact ⟨rfl, fin _ H⟩
  refine ⟨?_, ?_⟩
  · refine cl_mono (slast_spec (k := p.Account) F.sto (H.front 1)) ?_
    rintro r w ⟨rfl, H⟩
    refine nw_st H fun b3 w H => ?_
    show st T86 _ (lastOf v p.Account).1 _ _
    refine vst_st (x := Z86) (y := (lastOf v p.Account).1) len87 0 H rfl fun w H => ?_
    exact j1 b3 w H
  · refine nw_st H fun b3 w H => ?_
    refine cl_mono (slast_spec (k := p.Account) F.sto (H.front 2)) ?_
    rintro r w ⟨rfl, H⟩
    show st T86 _ (lastOf v p.Account).1 _ _
    refine vst_st (x := Z86) (y := (lastOf v p.Account).1) len87 1 H rfl fun w H => ?_
    exact j1 b3 w H
theorem vhold_spec {b : Nat} {v : Va} {t : Int} {p : Part} (F : Fit v) (H : St W (vaA b v :: l) w) : cl Tryz.prog 21 [.pointer (some ⟨b, 0, none⟩), .int .i64 t, T52.enc p] (tInt .i64) w fun r w' => r = (holdV v t p).2 ∧ St W (vaA b (holdV v t p).1 :: l) w' := by
  refine F21_ok ?_
  unfold F21 holdV
  refine nw_st H fun b1 w H => ?_
  refine cl_mono (vnext_spec (t := t) (H.front 1)) ?_
  rintro r w ⟨rfl, H⟩
  by_cases c0 : nextE v t = 0
  · rw [if_neg (by simp [c0]), if_neg (by simp [c0])]
    refine vld_st (x := p) 1 H rfl ?_
    refine cl_mono (vwhy_spec (p := p) F H) ?_
    rintro r w ⟨rfl, H⟩
    by_cases c1 : (whyV v p).2 = 0
    · rw [if_neg (by simp [c1]), if_neg (by simp [c1])]
      refine dr_st H fun w H => ?_
      refine nc_st rfl ?_
      obtain ⟨q, H⟩ := va_open H
      refine ld_st (x := some q.m1) 0 H rfl rfl rfl ?_
      refine ld_st (x := p.ID) 5 H rfl rfl rfl ?_
      refine vld_st (x := p) 5 H rfl ?_
      refine mput_st 2 H rfl rfl fun w H => ?_
      refine dr_st H fun w H => ?_
      refine ld_st (x := some q.m2) 1 H rfl rfl rfl ?_
      refine ld_st (x := p.Account) 5 H rfl rfl rfl ?_
      refine ld_st (x := p.ID) 5 H rfl rfl rfl ?_
      refine mput_st 3 H rfl rfl fun w H => ?_
      refine dr_st H fun w H => ?_
      refine ld_st (x := some q.m3) 2 H rfl rfl rfl ?_
      refine ld_st (x := p.ID) 5 H rfl rfl rfl ?_
      refine mput_st 4 H rfl rfl fun w H => ?_
      have H := va_shut (v := { v with held := ups p.ID ⟨p, t, (whyV v p).1⟩ v.held, busy := ups p.Account p.ID v.busy, fates := ups p.ID ⟨1, t⟩ v.fates }) (p := q) (H.ord [3, 4, 2, 1, 0])
      refine cl_mono (met_spec (t := t) H) ?_
      intro r w H
      exact ⟨rfl, (H.front 1).drop⟩
    · rw [if_pos (by simpa using c1), if_pos c1]
      exact ⟨rfl, (H.front 1).drop⟩
  · rw [if_pos (by simpa using c0), if_pos c0]
    exact ⟨rfl, (H.front 1).drop⟩
theorem free_spec {b : Nat} {v : Va} {h : Held} (H : St W (vaA b v :: l) w) : cl Tryz.prog 32 [.pointer (some ⟨b, 0, none⟩), THe.enc h] tUnit w fun _ w' => St W (vaA b (freeV v h) :: l) w' := by
  refine F32_ok ?_
  unfold F32
  refine nw_st H fun b1 w H => ?_
  refine dr_st H fun w H => ?_
  refine nc_st rfl ?_
  obtain ⟨q, H⟩ := va_open (H.front 1)
  refine ld_st (x := some q.m1) 0 H rfl rfl rfl ?_
  refine ld_st (x := h.Part.ID) 5 H rfl rfl rfl ?_
  refine mdel_st 2 H rfl rfl fun w H => ?_
  refine dr_st H fun w H => ?_
  refine ld_st (x := some q.m2) 1 H rfl rfl rfl ?_
  refine ld_st (x := h.Part.Account) 5 H rfl rfl rfl ?_
  refine mdel_st 3 H rfl rfl fun w H => ?_
  exact (va_shut (v := freeV v h) (p := q) (H.ord [2, 3, 1, 0, 4]) |>.front 1).drop
theorem change_spec {b : Nat} {v : Va} {h : Held} {q : VaP} (F : Fit v) (H : St W (cel b (TV.cells (vval v q)) 35 :: sto q.s v.S :: l) w) : cl Tryz.prog 31 [.pointer (some ⟨b, 0, none⟩), THe.enc h] tSlc w fun r w' => St W (row T62 63 2 r (changeV v h) :: cel b (TV.cells (vval v q)) 35 :: sto q.s v.S :: l) w' := by
  refine F31_ok ?_
  unfold F31 changeV
  refine nw_st H fun b1 w H => ?_
  refine ld_st (x := h.Part.Account) 0 H rfl rfl rfl ?_
  refine nc_st rfl ?_
  refine ld_st (x := some (⟨q.s, 0, none⟩ : Addr)) 1 H rfl rfl rfl ?_
  refine cl_mono (slast_spec (k := h.Part.Account) F.sto (H.front 2)) ?_
  rintro r w ⟨rfl, H⟩
  refine nw_st H fun b2 w H => ?_
  show st T86 _ (lastOf v h.Part.Account).1 _ _
  refine vst_st (x := Z86) (y := (lastOf v h.Part.Account).1) len87 0 H rfl fun w H => ?_
  refine ld_st (x := h.Part.Pays) 2 H rfl rfl rfl ?_
  by_cases c : h.Part.Pays = false
  · rw [if_pos (by simp [c]), if_pos c]
    refine ld_st (x := (lastOf v h.Part.Account).1.V) 0 H rfl rfl rfl ?_
    refine ld_st (x := h.Part.N) 2 H rfl rfl rfl ?_
    refine nwS_st H fun b3 w H => ?_
    have H := row_new (sz := 2) (m := 1) rfl H
    exact ((((H.front 1).drop.front 2).drop).ord [0, 2, 1])
  · rw [if_neg (by simpa using c), if_neg c]
    refine ld_st (x := (lastOf v h.Part.Account).1.V) 0 H rfl rfl rfl ?_
    refine ld_st (x := h.Part.N) 2 H rfl rfl rfl ?_
    refine ld_st (x := h.Fee) 2 H rfl rfl rfl ?_
    refine nwS_st H fun b3 w H => ?_
    have H := row_new (sz := 2) (m := 1) rfl H
    refine ld_st (x := h.Fee) 3 H rfl rfl rfl ?_
    unfold F31_j1
    by_cases d : h.Fee > 0
    · rw [if_pos (by simpa using d), if_pos d]
      refine ld_st (x := some (⟨q.s, 0, none⟩ : Addr)) 4 H rfl rfl rfl ?_
      generalize hpk : IntKind.i64.wrap (4096 + h.Part.Account) = pk
      refine cl_mono (slast_spec (k := pk) F.sto (H.front 2)) ?_
      rintro r w ⟨rfl, H⟩
      refine nw_st H fun b4 w H => ?_
      show st T86 _ (lastOf v pk).1 _ _
      refine vst_st (x := Z86) (y := (lastOf v pk).1) len87 0 H rfl fun w H => ?_
      refine ld_st (x := (lastOf v pk).1.V) 0 H rfl rfl rfl ?_
      refine ld_st (x := h.Fee) 4 H rfl rfl rfl ?_
      refine apl_row (fun _ => rfl) 2 H rfl (by simp) fun r w H => ?_
      have H := ((((H.front 1).drop).front 2).drop.front 2).drop
      exact H.ord [0, 2, 1]
    · rw [if_neg (by simpa using d), if_neg d]
      have H := (H.front 1).drop
      have H := (H.front 2).drop
      exact H.ord [0, 2, 1]
theorem change_len (v : Va) (h : Held) : (changeV v h).length ≤ 2 := by
  unfold changeV
  split
  · simp
  · split <;> simp
theorem commit_spec {b : Nat} {v : Va} {t id : Int} (F : Fit v) (H : St W (vaA b v :: l) w) : cl Tryz.prog 15 [.pointer (some ⟨b, 0, none⟩), .int .i64 t, .int .i64 id] (tInt .i64) w fun r w' => r = (commitV v t id).2 ∧ St W (vaA b (commitV v t id).1 :: l) w' := by
  refine F15_ok ?_
  unfold F15 commitV
  by_cases c0 : t < 1 ∨ t > 1125899906842624
  · rw [if_pos (by simpa using c0), if_pos c0]; exact ⟨rfl, H⟩
  · rw [if_neg (by simpa using c0), if_neg c0]
    refine nc_st rfl ?_
    obtain ⟨q, H⟩ := va_open H
    refine ld_st (x := some q.m3) 0 H rfl rfl rfl ?_
    refine mget_st 4 H rfl rfl ?_
    refine nw_st H fun b1 w H => ?_
    show st T69 _ (fateV v id) _ _
    refine vst_st (x := Z69) (y := fateV v id) len70 0 H rfl fun w H => ?_
    refine ld_st (x := (fateV v id).what) 0 H rfl rfl rfl ?_
    by_cases c1 : (fateV v id).what = 2
    · rw [if_pos (by simpa using c1), if_pos c1]
      refine ld_st (x := (fateV v id).t_) 0 H rfl rfl rfl ?_
      by_cases c2 : (fateV v id).t_ = t
      · rw [if_neg (by simp [c2]), if_neg (by simp [c2])]
        exact ⟨rfl, va_shut (p := q) H.drop⟩
      · rw [if_pos (by simpa using c2), if_pos c2]
        exact ⟨rfl, va_shut (p := q) H.drop⟩
    · rw [if_neg (by simpa using c1), if_neg c1]
      by_cases c2 : (fateV v id).what = 1
      · rw [if_pos (by simpa using c2), if_pos c2]
        refine ld_st (x := some q.m1) 1 H rfl rfl rfl ?_
        refine mget_st 3 H rfl rfl ?_
        refine nw_st H fun b2 w H => ?_
        show st THe _ (heldOf v id) _ _
        refine vst_st (x := Z54) (y := heldOf v id) len55 0 H rfl fun w H => ?_
        refine ld_st (x := (heldOf v id).T_) 0 H rfl rfl rfl ?_
        by_cases c3 : t < (heldOf v id).T_
        · rw [if_pos (by simpa using c3), if_pos c3]
          exact ⟨rfl, va_shut (p := q) H.drop.drop⟩
        · rw [if_neg (by simpa using c3), if_neg c3]
          generalize heldOf v id = h at *
          refine dr_st H fun w H => ?_
          refine ld_st (x := some (⟨q.s, 0, none⟩ : Addr)) 2 H rfl rfl rfl ?_
          refine vld_st (x := h) 0 H rfl ?_
          refine cl_mono (change_spec (h := h) (q := q) F (H.ord [2, 3])) ?_
          intro r w H
          have hcl := change_len v h
          refine ⟨rdat_cel tPtr (H.front 1) rfl rfl, ?_⟩
          refine cl_mono (put_spec (t := t) (xs := changeV v h) F.sto (by omega) (See.row (fun _ => rfl) 0 rfl) (H.front 2)) ?_
          rintro r w ⟨_, H⟩
          have H := (H.front 1).drop
          refine ⟨rdat_cel THe (H.front 2) rfl (at_all _), ?_⟩
          refine vld_st (x := h) 2 H rfl ?_
          have H := va_shut (v := { v with S := putM v.S t (changeV v h) }) (p := q) (H.ord [1, 0, 4, 5, 6])
          refine cl_mono (free_spec (h := h) H) ?_
          intro r w H
          obtain ⟨q', H⟩ := va_open H
          refine ld_st (x := some q'.m3) 0 H rfl rfl rfl ?_
          refine mput_st 4 H rfl rfl fun w H => ?_
          have H := va_shut (v := { freeV v h with S := putM v.S t (changeV v h), fates := ups id ⟨2, t⟩ v.fates }) (p := q') (H.ord [1, 2, 3, 4, 0])
          refine cl_mono (met_spec (t := t) H) ?_
          intro r w H
          exact ⟨rfl, (((H.front 1).drop).front 1).drop⟩
      · rw [if_neg (by simpa using c2), if_neg c2]
        exact ⟨rfl, va_shut (p := q) H.drop⟩
theorem drop_spec {b : Nat} {v : Va} {id : Int} (H : St W (vaA b v :: l) w) : cl Tryz.prog 16 [.pointer (some ⟨b, 0, none⟩), .int .i64 id] (tInt .i64) w fun r w' => r = (dropV v id).2 ∧ St W (vaA b (dropV v id).1 :: l) w' := by
  refine F16_ok ?_
  unfold F16 dropV
  refine nc_st rfl ?_
  obtain ⟨q, H⟩ := va_open H
  refine ld_st (x := some q.m3) 0 H rfl rfl rfl ?_
  refine mget_st 4 H rfl rfl ?_
  refine nw_st H fun b1 w H => ?_
  show st T69 _ (fateV v id) _ _
  refine vst_st (x := Z69) (y := fateV v id) len70 0 H rfl fun w H => ?_
  by_cases c0 : id < 1
  · rw [if_pos (by simpa using c0), if_pos c0]
    exact ⟨rfl, va_shut (p := q) H.drop⟩
  · rw [if_neg (by simpa using c0), if_neg c0]
    refine ld_st (x := (fateV v id).what) 0 H rfl rfl rfl ?_
    by_cases c1 : (fateV v id).what = 2
    · rw [if_pos (by simpa using c1), if_pos c1]
      exact ⟨rfl, va_shut (p := q) H.drop⟩
    · rw [if_neg (by simpa using c1), if_neg c1]
      refine ex_i ⟨b, 0, none⟩ (fun _ => rfl) ?_
      refine ex_i (some q.m3) (fun _ => rdat_cel tMap (H.front 1) rfl rfl) ?_
      refine mlenG_st (g := !((v.fates.lookup id).isSome)) 5 H rfl rfl ?_
      have j1 : ∀ (w : World), St W (vaA b (gone_ v id) :: l) w → F16_j1 id ⟨b, 0, none⟩ w fun r w' => r = 0 ∧ St W (vaA b { gone_ v id with fates := ups id ⟨3, 0⟩ v.fates } :: l) w' := by
        intro w H
        have hf : (gone_ v id).fates = v.fates := by unfold gone_; split <;> rfl
        unfold F16_j1
        obtain ⟨q', H⟩ := va_open H
        refine ld_st (x := some q'.m3) 0 H rfl rfl rfl ?_
        refine mput_st 4 H rfl rfl fun w H => ?_
        rw [hf] at H
        exact ⟨rfl, va_shut (v := { gone_ v id with fates := ups id ⟨3, 0⟩ v.fates }) (p := q') (H.ord [1, 2, 3, 4, 0])⟩
      by_cases c2 : (v.fates.lookup id).isSome = false ∧ 5000 ≤ v.fates.length
      · rw [if_pos (by simp only [c2.1]; simp; omega), if_pos c2]
        exact ⟨rfl, va_shut (p := q) H.drop⟩
      · rw [if_neg (by
          intro hc
          rw [Bool.and_eq_true] at hc
          refine c2 ⟨by simpa using hc.1, ?_⟩
          have := hc.2
          simp at this
          omega), if_neg c2]
        refine ld_st (x := some q.m1) 1 H rfl rfl rfl ?_
        refine mget_st 3 H rfl rfl ?_
        refine nw_st H fun b2 w H => ?_
        show st THe _ (heldOf v id) _ _
        refine vst_st (x := Z54) (y := heldOf v id) len55 0 H rfl fun w H => ?_
        cases hh : v.held.lookup id with
        | some h =>
          rw [if_pos (by simp)]
          rw [heldOf_of hh] at H
          refine vld_st (x := h) 0 H rfl ?_
          have H := va_shut (p := q) (H.ord [2, 3, 4, 5, 6])
          refine cl_mono (free_spec (h := h) H) ?_
          intro r w H
          have hg : gone_ v id = freeV v h := by unfold gone_; rw [hh]
          exact j1 w (by rw [hg]; exact (((H.front 1).drop).front 1).drop)
        | none =>
          rw [if_neg (by simp)]
          have hg : gone_ v id = v := by unfold gone_; rw [hh]
          have H := va_shut (p := q) (H.ord [2, 3, 4, 5, 6])
          exact j1 w (by rw [hg]; exact (((H.front 1).drop).front 1).drop)
theorem vclose_spec {b : Nat} {v : Va} {t : Int} (H : St W (vaA b v :: l) w) : cl Tryz.prog 19 [.pointer (some ⟨b, 0, none⟩), .int .i64 t] (tInt .i64) w fun r w' => r = (closeV v t).2 ∧ St W (vaA b (closeV v t).1 :: l) w' := by
  refine F19_ok ?_
  unfold F19
  refine cl_mono (vin_spec (t := t) H) ?_
  rintro r w ⟨rfl, H⟩
  by_cases c0 : t < 0 ∨ t > 1125899906842624
  · have e : closeV v t = (v, 151) := by unfold closeV; rw [if_pos c0]
    rw [e, if_pos (by simp; omega)]
    exact ⟨rfl, H⟩
  · rw [if_neg (by simp; omega)]
    refine nc_st rfl ?_
    obtain ⟨q, H⟩ := va_open H
    refine ld_st (x := some q.m1) 0 H rfl rfl rfl ?_
    refine rng_st 2 H rfl rfl fun it w H => ?_
    refine lp_n (fun n _ w => ∃ left cur, n = left.length ∧ (∀ x ∈ left, x ∈ v.held) ∧ (v.held.any (fun e => decide (e.2.T_ ≤ t)) = left.any (fun e => decide (e.2.T_ ≤ t))) ∧ (left.map (·.1)).Nodup ∧ ∃ junk, St W (ranging THe .i64 q.m1 it v.held left cur :: cel b (TV.cells (vval v q)) 35 :: sto q.s v.S :: mapE (tInt .i64) .i64 q.m2 v.busy :: mapE TFt .i64 q.m3 v.fates :: (junk ++ l)) w) _ ⟨v.held, none, rfl, fun _ h => h, rfl, ?_, [], H⟩ ?_
    · exact ranging_nodup H
    clear H
    rintro c _ w ⟨left, cur, rfl, h1, h2, hn, junk, H⟩ K hK
    unfold F19_l1
    refine nxt_st 0 H rfl rfl (fun he H => ?_) fun x hx w H => ?_
    · subst he
      rw [if_neg (by simp)]
      have e : closeV v t = ({ v with S := closeM v.S t, top := max v.top t }, 0) := by
        unfold closeV; rw [if_neg c0, if_neg (by rw [h2]; simp)]
      rw [e]
      have H := ranging_done H
      refine ld_st (x := some (⟨q.s, 0, none⟩ : Addr)) 1 H rfl rfl rfl ?_
      refine cl_mono (close_spec (t := t) (H.front 2)) ?_
      rintro r w ⟨_, H⟩
      have H := va_shut (v := { v with S := closeM v.S t }) (p := q) (H.ord [2, 0, 1, 3, 4])
      refine cl_mono (met_spec (t := t) H) ?_
      intro r w H
      have H := H.perm (List.perm_middle.symm : (_ :: (junk ++ l)).Perm (junk ++ _ :: l))
      exact ⟨rfl, drops junk H⟩
    · rw [if_pos (by simp)]
      refine ent_st 0 H rfl rfl ?_
      refine nw_st H fun b1 w H => ?_
      refine vst_st (x := Z54) (y := x.2) len55 0 H rfl fun w H => ?_
      refine ld_st (x := x.2.T_) 0 H rfl rfl rfl ?_
      by_cases c1 : x.2.T_ ≤ t
      · rw [if_pos (by simpa using c1)]
        have e : closeV v t = (v, 160) := by
          unfold closeV; rw [if_neg c0, if_pos (List.any_eq_true.2 ⟨x, h1 x hx, by simpa using c1⟩)]
        rw [e]
        have H := ranging_done H.drop
        have H := va_shut (v := v) (p := q) (H.ord [1, 2, 0, 3, 4])
        have H := H.perm (List.perm_middle.symm : (_ :: (junk ++ l)).Perm (junk ++ _ :: l))
        exact ⟨rfl, drops junk H⟩
      · rw [if_neg (by simpa using c1)]
        refine hK _ _ _ (flt_lt hx) ⟨_, _, rfl, fun y hy => h1 y (List.mem_filter.1 hy).1, ?_, (hn.sublist (List.filter_sublist.map _)), junk, H.drop⟩
        rw [h2, List.any_filter, Bool.eq_iff_iff, List.any_eq_true, List.any_eq_true]
        constructor
        · rintro ⟨y, hy, hd⟩
          refine ⟨y, hy, ?_⟩
          rw [Bool.and_eq_true]
          refine ⟨?_, hd⟩
          rw [bne_iff_ne]
          intro hc
          have : y = x := nodup_inj hn y hy x hx hc
          subst this
          exact c1 (by simpa using hd)
        · rintro ⟨y, hy, hd⟩
          rw [Bool.and_eq_true] at hd
          exact ⟨y, hy, hd.2⟩
theorem vprune_spec {b : Nat} {v : Va} {t : Int} (F : Fit v) (H : St W (vaA b v :: l) w) : cl Tryz.prog 25 [.pointer (some ⟨b, 0, none⟩), .int .i64 t] (tInt .i64) w fun r w' => r = (pruneV v t).2 ∧ St W (vaA b (pruneV v t).1 :: l) w' := by
  refine F25_ok ?_
  unfold F25
  refine nc_st rfl ?_
  obtain ⟨q, H⟩ := va_open H
  refine ld_st (x := some (⟨q.s, 0, none⟩ : Addr)) 0 H rfl rfl rfl ?_
  refine cl_mono (prune_spec (t := t) F.sto (H.front 1)) ?_
  rintro r w ⟨rfl, H⟩
  refine cl_mono (told_spec H) ?_
  rintro r w ⟨rfl, H⟩
  exact ⟨rfl, va_shut (v := { v with S := pruneM v.S t }) (p := q) (H.front 1)⟩
theorem has_spec {b : Nat} {v : Va} {a t : Int} (F : Fit v) (H : St W (vaA b v :: l) w) : cl Tryz.prog 24 [.pointer (some ⟨b, 0, none⟩), .int .i64 a, .int .i64 t] (tTup2 (tInt .i64) (tInt .i64)) w fun r w' => r = hasV v a t ∧ St W (vaA b v :: l) w' := by
  refine F24_ok ?_
  unfold F24 hasV
  refine cl_mono (vis_spec H) ?_
  rintro r w ⟨rfl, H⟩
  by_cases c : isA a
  · rw [decide_eq_true c, if_neg (by simp : ¬ (!true) = true), if_neg (show ¬ ¬ isA a by simp [c])]
    refine nc_st rfl ?_
    obtain ⟨q, H⟩ := va_open H
    refine ld_st (x := some (⟨q.s, 0, none⟩ : Addr)) 0 H rfl rfl rfl ?_
    refine cl_mono (get_spec (k := a) (t := t) F.sto (H.front 1)) ?_
    rintro r w ⟨rfl, H⟩
    generalize getM v.S a t = g at *
    refine nw_st H fun b1 w H => ?_
    refine vst_st (x := Z86) (y := g.1) len87 0 H rfl fun w H => ?_
    refine dr_st H fun w H => ?_
    refine ld_st (x := g.1.V) 0 H rfl rfl rfl ?_
    refine cl_mono (told_spec H) ?_
    rintro r w ⟨rfl, H⟩
    refine ⟨rdat_cel (tInt .i64) H rfl rfl, ?_⟩
    exact ⟨rfl, va_shut (p := q) (H.drop.front 1)⟩
  · rw [decide_eq_false c, if_pos (by simp : (!false) = true), if_pos c]
    exact ⟨rfl, H⟩
theorem vsnap_spec {b : Nat} {v : Va} {t : Int} (F : Fit v) (H : St W (vaA b v :: l) w) : cl Tryz.prog 10 [.pointer (some ⟨b, 0, none⟩), .int .i64 t] (tTup2 tSlc (tInt .i64)) w fun r w' => r.2 = toldE (timeM v.S t) ∧ St W (row T62 63 2 r.1 (snapL v.S t) :: vaA b v :: l) w' := by
  refine F10_ok ?_
  unfold F10
  refine nc_st rfl ?_
  obtain ⟨q, H⟩ := va_open H
  refine ld_st (x := some (⟨q.s, 0, none⟩ : Addr)) 0 H rfl rfl rfl ?_
  refine cl_mono (snap_spec (t := t) F.sto (H.front 1)) ?_
  rintro ⟨r1, r2⟩ w ⟨hr, H⟩
  simp only at hr H
  subst hr
  refine cl_mono (told_spec H) ?_
  rintro r w ⟨rfl, H⟩
  exact ⟨rfl, (va_shut (p := q) (H.ord [2, 1, 3, 4, 5])).front 1⟩
theorem fate_spec {b : Nat} {v : Va} {id : Int} (H : St W (vaA b v :: l) w) : cl Tryz.prog 14 [.pointer (some ⟨b, 0, none⟩), .int .i64 id] (tTup2 (tInt .i64) (tInt .i64)) w fun r w' => r = ((fateV v id).what, (fateV v id).t_) ∧ St W (vaA b v :: l) w' := by
  refine F14_ok ?_
  unfold F14
  refine nc_st rfl ?_
  obtain ⟨q, H⟩ := va_open H
  refine ld_st (x := some q.m3) 0 H rfl rfl rfl ?_
  refine mget_st 4 H rfl rfl ?_
  refine nw_st H fun b1 w H => ?_
  show st T69 _ (fateV v id) _ _
  refine vst_st (x := Z69) (y := fateV v id) len70 0 H rfl fun w H => ?_
  refine dr_st H fun w H => ?_
  refine ld_st (x := (fateV v id).what) 0 H rfl rfl rfl ?_
  refine ld_st (x := (fateV v id).t_) 0 H rfl rfl rfl ?_
  exact ⟨rfl, va_shut (p := q) H.drop⟩
theorem top_spec {b : Nat} {v : Va} (H : St W (vaA b v :: l) w) : cl Tryz.prog 18 [.pointer (some ⟨b, 0, none⟩)] (tInt .i64) w fun r w' => r = v.top ∧ St W (vaA b v :: l) w' := by
  refine F18_ok ?_
  unfold F18
  refine nc_st rfl ?_
  obtain ⟨q, H⟩ := va_open H
  refine ld_st (x := v.top) 0 H rfl rfl rfl ?_
  exact ⟨rfl, va_shut (p := q) H⟩
theorem past_open {b : Nat} {v : Va} (H : St W (vaA b v :: l) w) : ∃ s : Nat, ∀ {K : S29 → Prop}, (∀ w', St W (sto s v.S :: (exA fun p : VaP => sepA [puA (p.s = s), cel b (TV.cells (vval v p)) 35, mapE THe .i64 p.m1 v.held, mapE (tInt .i64) .i64 p.m2 v.busy, mapE TFt .i64 p.m3 v.fates]) :: l) w' → St W (vaA b v :: l) w') ∧ St W (sto s v.S :: (exA fun p : VaP => sepA [puA (p.s = s), cel b (TV.cells (vval v p)) 35, mapE THe .i64 p.m1 v.held, mapE (tInt .i64) .i64 p.m2 v.busy, mapE TFt .i64 p.m3 v.fates]) :: l) w ∧ RdAt T29 ⟨b, 0, none⟩ w (⟨some ⟨s, 0, none⟩⟩ : S29) := by
  obtain ⟨q, H⟩ := va_open H
  refine ⟨q.s, fun {K} => ⟨fun w' H => ?_, ?_, rdat_cel T29 H rfl rfl⟩⟩
  · obtain ⟨p, H⟩ := (H.front 1).ex
    have H := H.open_
    obtain ⟨h, H⟩ := St.pu (φ := p.s = q.s) H
    rw [← h] at H
    exact va_shut (p := p) (H.ord [0, 4])
  · refine St.front 1 (l := [_, _] ++ l) ?_
    refine St.toEx (f := fun p : VaP => sepA [puA (p.s = q.s), cel b (TV.cells (vval v p)) 35, mapE THe .i64 p.m1 v.held, mapE (tInt .i64) .i64 p.m2 v.busy, mapE TFt .i64 p.m3 v.fates]) q ?_
    refine St.shut (l' := [puA _, _, _, _, _]) (St.toPu rfl ?_)
    exact H.ord [0, 2, 3, 4, 1]
theorem vclosed_spec {s : Nat} {M : Md} (H : St W (sto s M :: l) w) : cl Tryz.prog 9 [T29.enc (⟨some ⟨s, 0, none⟩⟩ : S29)] (tInt .i64) w fun r w' => r = M.closed ∧ St W (sto s M :: l) w' := by
  refine F9_ok ?_
  unfold F9
  refine nw_st H fun b1 w H => ?_
  refine ld_st (x := some (⟨s, 0, none⟩ : Addr)) 0 H rfl rfl rfl ?_
  refine cl_mono (closed_spec (H.front 1)) ?_
  rintro r w ⟨rfl, H⟩
  exact ⟨rfl, (H.front 1).drop⟩
theorem vmark_spec {s : Nat} {M : Md} (H : St W (sto s M :: l) w) : cl Tryz.prog 13 [T29.enc (⟨some ⟨s, 0, none⟩⟩ : S29)] (tInt .i64) w fun r w' => r = M.mark ∧ St W (sto s M :: l) w' := by
  refine F13_ok ?_
  unfold F13
  refine nw_st H fun b1 w H => ?_
  refine ld_st (x := some (⟨s, 0, none⟩ : Addr)) 0 H rfl rfl rfl ?_
  refine cl_mono (mark_spec (H.front 1)) ?_
  rintro r w ⟨rfl, H⟩
  exact ⟨rfl, (H.front 1).drop⟩
theorem held_spec {b : Nat} {v : Va} (F : Fit v) (H : St W (vaA b v :: l) w) : cl Tryz.prog 17 [.pointer (some ⟨b, 0, none⟩)] tSlc w fun r w' => St W (row THe 55 6 r (heldL v) :: vaA b v :: l) w' := by
  refine F17_ok ?_
  unfold F17
  refine nc_st rfl ?_
  obtain ⟨p, H⟩ := va_open H
  refine ld_st (x := some p.m1) 0 H rfl rfl rfl ?_
  refine F35_ok ?_
  unfold F35
  refine nw_st H fun bm w H => ?_
  have hrange : ∀ e ∈ v.held, -9223372036854775808 ≤ e.1 ∧ e.1 ≤ 9223372036854775807 := fun e he => by have := held_keys F e he; omega
  have hlen := held_len F
  refine cl_mono (sorted_keysB hrange (by omega) (H.ord [0, 3])) ?_
  rintro s w ⟨ks, hp, H⟩
  have hq : (ks.mergeSort fun x y => decide (x ≤ y)) = sortI (v.held.map (·.1)) := sortI_perm hp
  rw [hq] at H
  have hs := row_len H
  have hhl : heldL v = (sortI (v.held.map (·.1))).map (heldOf v) := rfl
  rw [hhl]
  have hql : (sortI (v.held.map (·.1))).length ≤ 5000 := by rw [(sortI_p _).length_eq, List.length_map]; omega
  generalize sortI (v.held.map (·.1)) = q at *
  have H := row_nil THe 55 6 H
  refine lp_i (fun x w => 0 ≤ x.2 ∧ x.2 ≤ q.length ∧ St W (row THe 55 6 x.1 ((q.take x.2.toNat).map (heldOf v)) :: row (tInt .i64) 3 1 s q :: cel bm [.map (some p.m1)] 31 :: mapE THe .i64 p.m1 v.held :: cel b (TV.cells (vval v p)) 35 :: sto p.s v.S :: mapE (tInt .i64) .i64 p.m2 v.busy :: mapE TFt .i64 p.m3 v.fates :: l) w) (fun x => (q.length - x.2).toNat)
    ⟨Int.le_refl 0, by simp only; omega, H⟩ ?_
  rintro ⟨out, i⟩ w ⟨h0, h1, H⟩
  simp only at h0 h1
  simp only
  unfold F17_l1
  rw [hs]
  split
  · rename_i hc2
    have hc2 : i < q.length := by simpa using hc2
    have e1 : IntKind.i64.wrap (i + 1) = i + 1 := wrap_i64 (by omega) (by omega)
    have hx : q[i.toNat]? = some q[i.toNat] := List.getElem?_eq_getElem (by omega)
    have htk : (q.take (i + 1).toNat).map (heldOf v) = (q.take i.toNat).map (heldOf v) ++ [heldOf v q[i.toNat]] := by
      rw [show (i + 1).toNat = i.toNat + 1 from by omega, List.take_succ_eq_append_getElem (by omega), List.map_append]; rfl
    obtain ⟨a, ha⟩ := row_ix (sz := 1) (i := i) (H.front 1) h0 hc2
    refine ex_i a ha ?_
    refine ex_i q[i.toNat] (rd_row (fun _ => rfl) ha hx (H.front 1)) ?_
    generalize q[i.toNat] = k at *
    refine ld_st (x := some p.m1) 4 H rfl rfl rfl ?_
    refine mget_st 3 H rfl rfl ?_
    show apl _ THe 6 48 _ [heldOf v k] _ _
    refine apl_row (fun _ => rfl) 0 H rfl (by simp only [List.length_map, List.length_take, List.length_singleton]; omega) fun s2 w7 H => ?_
    rw [e1]
    refine ⟨⟨by simp only; omega, by simp only; omega, ?_⟩, by simp only; omega⟩
    simp only
    rw [htk]
    exact H
  · rename_i hc2
    have hc2 : i = q.length := by simp at hc2; omega
    subst hc2
    have e : q.take ((q.length : Int)).toNat = q := by simp
    rw [e] at H
    have H := ((H.front 1).drop.front 1).drop
    exact (va_shut (p := p) (H.ord [2, 3, 1, 4, 5])).front 1
end
end Go.Proofs.YtpdaapffkdejoaaGreat.Vault
