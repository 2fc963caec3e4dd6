/- Disks: acts, what they are asked: contracts. -/
import Derived.Test.YtjkmeooncmhonaaDC
namespace Go.Proofs.Ytjkmeooncmhonaa.Disk
open Go Go.Proofs.Ytjkmeooncmhonaa.Cf Go.Proofs.Ytjkmeooncmhonaa.Wire
set_option linter.unusedVariables false
set_option linter.unusedSimpArgs false
set_option maxRecDepth 100000
section
variable {W w : World} {l l' : List Assn}
theorem clv_mono {α : Type} {P : Program} {T : Ty α} {fv : Fv} {args : List Value} {K K' : α → World → Prop} (h : clv P fv args T w K) (hk : ∀ r w', K r w' → K' r w') : clv P fv args T w K' := by
  obtain ⟨k, c, h1, h2, h3⟩ := h
  exact ⟨k, c, h1, h2, cl_mono h3 hk⟩
theorem modify_set {L : List Log} {i : Nat} {g : Log} {f : Log → Log} (h : L[i]? = some g) : L.modify i f = L.set i (f g) := by
  apply List.ext_getElem?
  intro j
  rw [List.getElem?_modify, List.getElem?_set]
  by_cases e : i = j
  · subst e
    have hh := List.getElem?_eq_some_iff.1 h
    rw [if_pos rfl, if_pos hh.1, h]
    simp
  · simp [e]
theorem act_spec {d : Nat} {D : Dk} {n size : Int} {fv : Fv} {f : Log → Log} (hok : D.Ok) (H : St W (dskA d D :: l) w)
    (hdo : ∀ (s q : Slc) (g : Log) (xs : List SL) (a : Addr) (l0 : List Assn) (w : World), size ≤ 4194304 → D.logs[n.toNat]? = some g → xs[n.toNat]? = some ⟨q, g.sure⟩ → IxA s 2 n a → St W (row TL 102 2 s xs :: lrow (q, g) :: (l0 ++ l)) w →
      clv Try.prog fv [.pointer (some a)] tUnit w fun _ w' => ∃ q' : Slc, St W (row TL 102 2 s (xs.set n.toNat ⟨q', (f g).sure⟩) :: lrow (q', f g) :: (l0 ++ l)) w') :
    cl Try.prog 42 [.pointer (some ⟨d, 0, none⟩), .int .i64 n, .int .i64 size, fv.enc] (tInt .i64) w fun r w' => r = (actD D n size f).2 ∧ St W (dskA d (actD D n size f).1 :: l) w' := by
  refine F42_ok ?_
  unfold F42 actD
  refine cl_mono (has_spec H) ?_
  rintro r w ⟨rfl, H⟩
  by_cases hh : 0 ≤ n ∧ n < D.logs.length
  · rw [decide_eq_true hh, if_neg (by simp), if_neg (not_not_intro hh)]
    refine nc_st rfl ?_
    obtain ⟨s, P, kp, hP, H⟩ := dsk_open H
    refine ld_st (x := D.down) 0 H rfl rfl rfl ?_
    by_cases hd : D.down = true
    · rw [if_pos hd, if_pos hd]
      exact ⟨rfl, dsk_shut hP H⟩
    · rw [if_neg hd, if_neg hd]
      have hdf : D.down = false := by simpa using hd
      by_cases hs : 4194304 < size
      · rw [if_pos (by simp; omega), if_pos hs]
        exact ⟨rfl, dsk_shut hP H⟩
      · rw [if_neg (by simp; omega), if_neg hs]
        refine ld_st (x := D.armed) 0 H rfl rfl rfl ?_
        have hl : P.length = D.logs.length := by rw [← hP, List.length_map]
        by_cases ha : D.armed = 1
        · rw [if_pos (by simp [ha]), if_pos ha]
          refine ld_st (x := kp) 0 H rfl rfl rfl ?_
          rw [hdf] at H
          refine cl_mono (crash_core (fun p hp => hok.log p.2 (by rw [← hP]; exact List.mem_map_of_mem hp)) (by rw [hl]; exact hok.len) (See.row (fun _ => rfl) 0 rfl) H) ?_
          rintro r w ⟨P', hP', H⟩
          rw [hP] at hP'
          refine ⟨rfl, ?_⟩
          unfold crash
          rw [if_neg hd]
          exact dsk_shut (D := { D with down := true, armed := 0, logs := D.logs.mapIdx (cutL D.keep) }) hP' H
        · rw [if_neg (by simpa using ha), if_neg ha]
          have j1 : ∀ (arm : Int) (w : World), arm = (if 1 < D.armed then IntKind.i64.wrap (D.armed - 1) else D.armed) → St W (cel d (TD.cells ⟨s, D.acts, D.down, arm, kp⟩) 80 :: row TL 102 2 s (P.map lval) :: sepA (P.map lrow) :: row (tInt .i64) 3 1 kp D.keep :: l) w →
              F42_j1 (some ⟨d, 0, none⟩) n fv w fun r w' => r = 0 ∧ St W (dskA d { D with armed := if 1 < D.armed then IntKind.i64.wrap (D.armed - 1) else D.armed, acts := IntKind.i64.wrap (D.acts + 1), logs := D.logs.modify n.toNat f } :: l) w' := by
            intro arm w harm H
            unfold F42_j1
            refine nc_st rfl ?_
            refine ld_st (x := D.acts) 0 H rfl rfl rfl ?_
            refine st_st (x := IntKind.i64.wrap (D.acts + 1)) 0 H rfl rfl (Nat.le_of_ble_eq_true rfl) fun w H => ?_
            refine ld_st (x := s) 0 H rfl rfl rfl ?_
            obtain ⟨a, hia⟩ := row_ix (i := n) (H.front 1) hh.1 (by rw [List.length_map, hl]; exact hh.2)
            refine ex_i a hia ?_
            have hq0 : P[n.toNat]? = some P[n.toNat] := List.getElem?_eq_getElem (by omega)
            have hg : D.logs[n.toNat]? = some (P[n.toNat]).2 := by rw [← hP, List.getElem?_map, hq0]; rfl
            generalize P[n.toNat] = p at hq0 hg
            obtain ⟨q, g⟩ := p
            simp only at hg
            have H := log_out hq0 (H.front 2)
            refine clv_mono (hdo s q g (P.map lval) a [_, _, _] w (by omega) hg (by rw [List.getElem?_map, hq0]; rfl) hia (H.ord [3, 0])) ?_
            rintro r w ⟨q', H⟩
            have H := log_in (q := (q', f g)) (H.ord [1, 2])
            refine ⟨rfl, ?_⟩
            refine dsk_shut (s := s) (kp := kp) (P := P.set n.toNat (q', f g)) ?_ ?_
            · simp only
              rw [List.map_set, hP, modify_set hg]
            · simp only
              rw [← harm, List.map_set]
              exact H.ord [2, 1, 0]
          by_cases hb : 1 < D.armed
          · refine ld_st (x := D.armed) 0 H rfl rfl rfl ?_
            rw [if_pos (by simpa using hb)]
            refine ld_st (x := D.armed) 0 H rfl rfl rfl ?_
            refine st_st (x := IntKind.i64.wrap (D.armed - 1)) 0 H rfl rfl (Nat.le_of_ble_eq_true rfl) fun w H => ?_
            exact j1 (IntKind.i64.wrap (D.armed - 1)) w (by rw [if_pos hb]) H
          · refine ld_st (x := D.armed) 0 H rfl rfl rfl ?_
            rw [if_neg (by simpa using hb)]
            exact j1 D.armed w (by rw [if_neg hb]) H
  · rw [decide_eq_false hh, if_pos (by simp), if_pos hh]
    exact ⟨rfl, H⟩
/-! ### the acts -/
def sizeOf (D : Dk) (n : Int) : Nat := if 0 ≤ n then match D.logs[n.toNat]? with
  | some g => g.b.length
  | none => 0
  else 0
def appendD (D : Dk) (n : Int) (bs : List UInt8) : Dk × Int := actD D n ((bs.length + sizeOf D n : Nat) : Int) fun g => ⟨g.b ++ bs, g.sure⟩
def syncD (D : Dk) (n : Int) : Dk × Int := actD D n 0 fun g => ⟨g.b, g.b.length⟩
def swapD (D : Dk) (n : Int) (bs : List UInt8) : Dk × Int := actD D n (bs.length : Int) fun _ => ⟨bs, bs.length⟩
theorem append_spec {d : Nat} {D : Dk} {n : Int} {b : Slc} {bs : List UInt8} (hok : D.Ok) (hn : bs.length ≤ 4000000000000000000) (k : See 1 l (tInt .u8) b (B bs)) (H : St W (dskA d D :: l) w) :
    cl Try.prog 55 [.pointer (some ⟨d, 0, none⟩), .int .i64 n, tSlc.enc b] (tInt .i64) w fun r w' => r = (appendD D n bs).2 ∧ St W (dskA d (appendD D n bs).1 :: l) w' := by
  have hbl := k.tail.len H
  rw [B_len] at hbl
  refine F55_ok ?_
  unfold F55
  refine nw_st H fun b4 w H => ?_
  refine ld_st (x := b) 0 H rfl rfl rfl ?_
  have j1 : ∀ (z : Int) (w : World), z = ((bs.length + sizeOf D n : Nat) : Int) → St W (cel b4 (tSlc.cells b) 72 :: dskA d D :: l) w → F55_j1 (some ⟨d, 0, none⟩) n ⟨b4, 0, none⟩ z w fun r w' => r = (appendD D n bs).2 ∧ St W (dskA d (appendD D n bs).1 :: l) w' := by
    intro z w hz H
    subst hz
    unfold F55_j1
    refine cl_mono (act_spec (f := fun g => ⟨g.b ++ bs, g.sure⟩) hok (H.front 1) ?_) ?_
    · intro s q g xs a l0 w hsz hg hx ha H
      refine ⟨69, [.pointer (some ⟨b4, 0, none⟩)], rfl, ent69, ?_⟩
      refine F69_ok ?_
      unfold F69
      refine dr_st H fun w H => ?_
      refine nc_st rfl ?_
      refine ex_i q (fld_row (U := tSlc) (fun _ => rfl) ha hx rfl H) ?_
      have H := (H.perm (show (row TL 102 2 s xs :: lrow (q, g) :: (l0 ++ (cel b4 (tSlc.cells b) 72 :: l))).Perm (cel b4 (tSlc.cells b) 72 :: row TL 102 2 s xs :: lrow (q, g) :: (l0 ++ l)) from by
        have h1 := (List.perm_middle (a := cel b4 (tSlc.cells b) 72) (l₁ := row TL 102 2 s xs :: lrow (q, g) :: l0) (l₂ := l))
        simpa using h1))
      refine ld_st (x := b) 0 H rfl rfl rfl ?_
      have hkk : See 1 (cel b4 (tSlc.cells b) 72 :: row TL 102 2 s xs :: lrow (q, g) :: (l0 ++ l)) (tInt .u8) b (B bs) := ((k.app l0).tail.tail.tail)
      have hgl := (hok.log g (List.mem_of_getElem? hg)).2
      refine apd_row (fun _ => rfl) 2 H rfl (hkk.rdS H) (by rw [B_len, B_len]; simp only; omega) fun r w H => ?_
      refine stf_row (x := (⟨q, g.sure⟩ : SL)) (y := (⟨r, g.sure⟩ : SL)) (o := 0) (U := tSlc) (z := r) (fun _ => rfl) ha hx rfl (Nat.le_of_ble_eq_true rfl) (H.front 2) fun w H => ?_
      refine ⟨r, ?_⟩
      rw [← B_app] at H
      refine H.perm ?_
      refine List.Perm.cons _ (List.Perm.cons _ ?_)
      exact List.perm_middle.symm
    · rintro r w ⟨rfl, H⟩
      exact ⟨rfl, (H.front 1).drop⟩
  refine cl_mono (has_spec (H.front 1)) ?_
  rintro r w ⟨rfl, H⟩
  by_cases hh : 0 ≤ n ∧ n < D.logs.length
  · rw [decide_eq_true hh, if_pos rfl]
    refine nc_st rfl ?_
    obtain ⟨s, P, kp, hP, H⟩ := dsk_open H
    have hl : P.length = D.logs.length := by rw [← hP, List.length_map]
    refine ld_st (x := s) 0 H rfl rfl rfl ?_
    obtain ⟨a, hia⟩ := row_ix (i := n) (H.front 1) hh.1 (by rw [List.length_map, hl]; exact hh.2)
    refine ex_i a hia ?_
    have hq0 : P[n.toNat]? = some P[n.toNat] := List.getElem?_eq_getElem (by omega)
    have hg : D.logs[n.toNat]? = some (P[n.toNat]).2 := by rw [← hP, List.getElem?_map, hq0]; rfl
    generalize P[n.toNat] = p at hq0 hg
    have hc := lrow_cap (log_out hq0 (H.front 2))
    obtain ⟨q, g⟩ := p
    simp only at hg hc
    have hgl := (hok.log g (List.mem_of_getElem? hg)).2
    refine ex_i q (fld_row (x := lval (q, g)) (U := tSlc) (fun _ => rfl) hia (by rw [List.getElem?_map, hq0]; rfl) rfl (H.front 1)) ?_
    refine j1 _ w ?_ ((dsk_shut hP H).front 1)
    have e : sizeOf D n = g.b.length := by unfold sizeOf; rw [if_pos hh.1, hg]
    rw [e, hbl, hc.1, wrap_i64 (by omega) (by omega)]
    omega
  · rw [decide_eq_false hh, if_neg (by simp)]
    refine j1 _ w ?_ (H.front 1)
    have e : sizeOf D n = 0 := by
      unfold sizeOf
      by_cases h0 : 0 ≤ n
      · rw [if_pos h0, List.getElem?_eq_none (by omega)]
      · rw [if_neg h0]
    rw [e, hbl]; rfl
theorem sync_spec {d : Nat} {D : Dk} {n : Int} (hok : D.Ok) (H : St W (dskA d D :: l) w) :
    cl Try.prog 31 [.pointer (some ⟨d, 0, none⟩), .int .i64 n] (tInt .i64) w fun r w' => r = (syncD D n).2 ∧ St W (dskA d (syncD D n).1 :: l) w' := by
  refine F31_ok ?_
  unfold F31
  refine cl_mono (act_spec (f := fun g => ⟨g.b, g.b.length⟩) hok H ?_) ?_
  · intro s q g xs a l0 w hsz hg hx ha H
    refine ⟨43, [], rfl, ent43, ?_⟩
    refine F43_ok ?_
    unfold F43
    refine nc_st rfl ?_
    refine ex_i q (fld_row (U := tSlc) (fun _ => rfl) ha hx rfl H) ?_
    have hc := lrow_cap (H.front 1)
    simp only at hc
    rw [hc.1]
    refine stf_row (x := (⟨q, g.sure⟩ : SL)) (y := (⟨q, (g.b.length : Nat)⟩ : SL)) (o := 1) (U := tInt .i64) (z := ((g.b.length : Nat) : Int)) (fun _ => rfl) ha hx rfl (Nat.le_of_ble_eq_true rfl) H fun w H => ?_
    exact ⟨q, H⟩
  · rintro r w ⟨rfl, H⟩
    exact ⟨rfl, H⟩
theorem swap_spec {d : Nat} {D : Dk} {n : Int} {b : Slc} {bs : List UInt8} (hok : D.Ok) (hn : bs.length ≤ 4000000000000000000) (k : See 1 l (tInt .u8) b (B bs)) (H : St W (dskA d D :: l) w) :
    cl Try.prog 36 [.pointer (some ⟨d, 0, none⟩), .int .i64 n, tSlc.enc b] (tInt .i64) w fun r w' => r = (swapD D n bs).2 ∧ St W (dskA d (swapD D n bs).1 :: l) w' := by
  have hbl := k.tail.len H
  rw [B_len] at hbl
  refine F36_ok ?_
  unfold F36
  refine nw_st H fun b4 w H => ?_
  refine ld_st (x := b) 0 H rfl rfl rfl ?_
  rw [hbl]
  refine cl_mono (act_spec (f := fun _ => ⟨bs, bs.length⟩) hok (H.front 1) ?_) ?_
  · intro s q g xs a l0 w hsz hg hx ha H
    refine ⟨49, [.pointer (some ⟨b4, 0, none⟩)], rfl, ent49, ?_⟩
    refine F49_ok ?_
    unfold F49
    have H := (H.perm (show (row TL 102 2 s xs :: lrow (q, g) :: (l0 ++ (cel b4 (tSlc.cells b) 72 :: l))).Perm (cel b4 (tSlc.cells b) 72 :: row TL 102 2 s xs :: lrow (q, g) :: (l0 ++ l)) from by
      have h1 := (List.perm_middle (a := cel b4 (tSlc.cells b) 72) (l₁ := row TL 102 2 s xs :: lrow (q, g) :: l0) (l₂ := l))
      simpa using h1))
    refine ld_st (x := b) 0 H rfl rfl rfl ?_
    rw [hbl]
    refine mkS_st (sz := 1) (by omega) (by omega) (by omega) H fun b5 w H => ?_
    refine nc_st rfl ?_
    refine stf_row (x := (⟨q, g.sure⟩ : SL)) (y := (⟨⟨some ⟨b5, 0, none⟩, bs.length, bs.length⟩, g.sure⟩ : SL)) (o := 0) (U := tSlc) (z := ⟨some ⟨b5, 0, none⟩, bs.length, bs.length⟩) (fun _ => rfl) ha hx rfl (Nat.le_of_ble_eq_true rfl) (H.front 2) fun w H => ?_
    refine dr_st H fun w H => ?_
    have hx2 : (xs.set n.toNat (⟨⟨some ⟨b5, 0, none⟩, bs.length, bs.length⟩, g.sure⟩ : SL))[n.toNat]? = some ⟨⟨some ⟨b5, 0, none⟩, bs.length, bs.length⟩, g.sure⟩ := List.getElem?_set_self (List.getElem?_eq_some_iff.1 hx).1
    refine ex_i ⟨some ⟨b5, 0, none⟩, bs.length, bs.length⟩ (fld_row (U := tSlc) (fun _ => rfl) ha hx2 rfl H) ?_
    refine ld_st (x := b) 2 H rfl rfl rfl ?_
    have hkk : See 1 (row (tInt .u8) 5 1 ⟨some ⟨b5, 0, none⟩, bs.length, bs.length⟩ (List.replicate bs.length 0) :: row TL 102 2 s (xs.set n.toNat (⟨⟨some ⟨b5, 0, none⟩, bs.length, bs.length⟩, g.sure⟩ : SL)) :: cel b4 (tSlc.cells b) 72 :: lrow (q, g) :: (l0 ++ l)) (tInt .u8) b (B bs) := ((k.app l0).tail.tail.tail.tail)
    refine cpy_st (xs := List.replicate bs.length 0) (fun _ => rfl) (H.front 1) (hkk.rdS (H.front 1)) (by rw [B_len, List.length_replicate]) fun w H => ?_
    rw [B_len]
    refine stf_row (x := (⟨⟨some ⟨b5, 0, none⟩, bs.length, bs.length⟩, g.sure⟩ : SL)) (y := (⟨⟨some ⟨b5, 0, none⟩, bs.length, bs.length⟩, (bs.length : Nat)⟩ : SL)) (o := 1) (U := tInt .i64) (z := ((bs.length : Nat) : Int)) (fun _ => rfl) ha hx2 rfl (Nat.le_of_ble_eq_true rfl) (H.front 1) fun w H => ?_
    refine ⟨⟨some ⟨b5, 0, none⟩, bs.length, bs.length⟩, ?_⟩
    rw [List.set_set] at H
    have H := (H.ord [3]).drop
    refine H.perm ?_
    refine List.Perm.cons _ (List.Perm.cons _ ?_)
    exact List.perm_middle.symm
  · rintro r w ⟨rfl, H⟩
    exact ⟨rfl, (H.front 1).drop⟩
theorem readD_spec {d : Nat} {D : Dk} {n : Int} (hok : D.Ok) (H : St W (dskA d D :: l) w) :
    cl Try.prog 34 [.pointer (some ⟨d, 0, none⟩), .int .i64 n] (tTup2 tSlc (tInt .i64)) w fun r w' => (¬ (0 ≤ n ∧ n < D.logs.length) → r.2 = 70 ∧ St W (dskA d D :: l) w') ∧ ((0 ≤ n ∧ n < D.logs.length) → D.down = true → r.2 = 71 ∧ St W (dskA d D :: l) w') ∧
      ∀ g, 0 ≤ n → D.down = false → D.logs[n.toNat]? = some g → r.2 = 0 ∧ St W (row (tInt .u8) 5 1 r.1 (B g.b) :: dskA d D :: l) w' := by
  refine F34_ok ?_
  unfold F34
  refine cl_mono (has_spec H) ?_
  rintro r w ⟨rfl, H⟩
  by_cases hh : 0 ≤ n ∧ n < D.logs.length
  · rw [decide_eq_true hh, if_neg (by simp)]
    refine nc_st rfl ?_
    obtain ⟨s, P, kp, hP, H⟩ := dsk_open H
    refine ld_st (x := D.down) 0 H rfl rfl rfl ?_
    by_cases hd : D.down = true
    · rw [if_pos hd]
      exact ⟨fun h => absurd hh h, fun _ _ => ⟨rfl, dsk_shut hP H⟩, fun g _ h => by rw [hd] at h; cases h⟩
    · rw [if_neg hd]
      have hl : P.length = D.logs.length := by rw [← hP, List.length_map]
      refine ld_st (x := s) 0 H rfl rfl rfl ?_
      obtain ⟨a, hia⟩ := row_ix (i := n) (H.front 1) hh.1 (by rw [List.length_map, hl]; exact hh.2)
      refine ex_i a hia ?_
      have hq0 : P[n.toNat]? = some P[n.toNat] := List.getElem?_eq_getElem (by omega)
      have hg : D.logs[n.toNat]? = some (P[n.toNat]).2 := by rw [← hP, List.getElem?_map, hq0]; rfl
      generalize P[n.toNat] = p at hq0 hg
      have hc := lrow_cap (log_out hq0 (H.front 2))
      obtain ⟨q, g⟩ := p
      simp only at hg hc
      have hgl := (hok.log g (List.mem_of_getElem? hg)).2
      have hx : (P.map lval)[n.toNat]? = some (lval (q, g)) := by rw [List.getElem?_map, hq0]; rfl
      refine ex_i q (fld_row (x := lval (q, g)) (U := tSlc) (fun _ => rfl) hia hx rfl (H.front 1)) ?_
      rw [hc.1]
      refine mkS_st (sz := 1) (by omega) (by omega) (by omega) H fun b w H => ?_
      refine ld_st (x := s) 1 H rfl rfl rfl ?_
      refine ex_i a hia ?_
      refine ex_i q (fld_row (x := lval (q, g)) (U := tSlc) (fun _ => rfl) hia hx rfl (H.front 2)) ?_
      have hr : RdS (tInt .u8) w q (B g.b) := RdO_row (log_out hq0 (H.front 3))
      refine cpy_st (xs := List.replicate ((g.b.length : Int)).toNat 0) (fun _ => rfl) H hr (by rw [B_len, List.length_replicate]; omega) fun w H => ?_
      refine ⟨fun h => absurd hh h, fun _ h => absurd h hd, fun g' _ _ hg' => ?_⟩
      rw [hg] at hg'
      cases hg'
      exact ⟨rfl, (dsk_shut hP (H.ord [1, 2, 3, 4])).front 1⟩
  · rw [decide_eq_false hh, if_pos (by simp)]
    refine ⟨fun _ => ⟨rfl, H⟩, fun h => absurd h hh, fun g h0 _ hg => absurd ⟨h0, ?_⟩ hh⟩
    have := (List.getElem?_eq_some_iff.1 hg).1
    omega
theorem sureD_spec {d : Nat} {D : Dk} {n : Int} {g : Log} (h0 : 0 ≤ n) (hg : D.logs[n.toNat]? = some g) (H : St W (dskA d D :: l) w) :
    cl Try.prog 37 [.pointer (some ⟨d, 0, none⟩), .int .i64 n] (tInt .i64) w fun r w' => r = (g.sure : Nat) ∧ St W (dskA d D :: l) w' := by
  have hlt := (List.getElem?_eq_some_iff.1 hg).1
  refine F37_ok ?_
  unfold F37
  refine cl_mono (has_spec H) ?_
  rintro r w ⟨rfl, H⟩
  rw [decide_eq_true (by omega), if_neg (by simp)]
  refine nc_st rfl ?_
  obtain ⟨s, P, kp, hP, H⟩ := dsk_open H
  have hl : P.length = D.logs.length := by rw [← hP, List.length_map]
  refine ld_st (x := s) 0 H rfl rfl rfl ?_
  obtain ⟨a, hia⟩ := row_ix (i := n) (H.front 1) h0 (by rw [List.length_map, hl]; omega)
  refine ex_i a hia ?_
  have hq0 : P[n.toNat]? = some P[n.toNat] := List.getElem?_eq_getElem (by omega)
  have hg2 : D.logs[n.toNat]? = some (P[n.toNat]).2 := by rw [← hP, List.getElem?_map, hq0]; rfl
  generalize P[n.toNat] = p at hq0 hg2
  rw [hg] at hg2
  cases hg2
  refine ex_i (p.2.sure : Int) (fld_row (x := lval p) (U := tInt .i64) (fun _ => rfl) hia (by rw [List.getElem?_map, hq0]; rfl) rfl (H.front 1)) ?_
  exact ⟨rfl, dsk_shut hP H⟩
theorem up_spec {d : Nat} {D : Dk} (H : St W (dskA d D :: l) w) : cl Try.prog 20 [.pointer (some ⟨d, 0, none⟩)] tUnit w fun _ w' => St W (dskA d { D with down := false } :: l) w' := by
  refine F20_ok ?_
  unfold F20
  refine nc_st rfl ?_
  obtain ⟨s, P, kp, hP, H⟩ := dsk_open H
  refine st_st (x := false) 0 H rfl rfl (Nat.le_of_ble_eq_true rfl) fun w H => ?_
  exact dsk_shut (D := { D with down := false }) hP H
end
end Go.Proofs.Ytjkmeooncmhonaa.Disk
