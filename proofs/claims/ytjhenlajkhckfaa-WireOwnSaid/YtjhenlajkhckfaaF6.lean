/- Characteristic formulae of Go functions, and that they are. Printed by gen.py (own tool). -/
import Derived.Test.YtjhenlajkhckfaaTy
namespace Go.Proofs.Ytjhenlajkhckfaa.Cf
open Go
set_option maxRecDepth 100000
set_option maxHeartbeats 1000000
set_option linter.unusedVariables false
set_option linter.unusedSimpArgs false

-- moiety/moietyref02.Bits
def F26 (f_1 : Nat) (w : World) (R : Int → World → Prop) : Prop :=
  cl Try.prog 35 [.float .f64 (f_1)] tBool w fun r3 w2 =>
  if r3 = true then (
    R (9221120237041090561 : Int) w2
  ) else (
    R (f_1 : Int) w2
  )
theorem F26_ok {f_1 : Nat} {w : World} {R : Int → World → Prop} (h : F26 f_1 w R) : cl Try.prog 26 [.float .f64 (f_1)] (tInt .u64) w R := by
  unfold F26 at h
  refine calls_start 7 Try.func26 rfl rfl (Nat.le_of_ble_eq_true rfl) ?_
  refine wp_seq ?_
  refine wp_text [0] rfl ?_
  refine ro_val (d := (some 2)) rfl (.free rfl) rfl (q_assign (v := .int .u64 ((0 : Int))) rfl rfl) ?_
  refine ro_nil ?_
  refine wp_seq ?_
  refine wp_seq ?_
  refine wp_text [0, 1] rfl ?_
  refine ro_val (d := (some 3)) rfl (.free rfl) rfl (q_move (v := .float .f64 (f_1)) rfl rfl) ?_
  refine ro_wp rfl (.free rfl) (wp_cl (d := (some 4)) rfl (q_call (k := 35) (l := [.float .f64 (f_1)]) rfl ent35 rfl) h ?_)
  intro r3 w2 h
  refine ro_nil ?_
  refine wp_if (b := r3) rfl h (fun hb4 h => ?_) (fun hb4 h => ?_)
  · refine wp_seq ?_
    refine wp_text [0] rfl ?_
    refine ro_val (d := (some 2)) rfl (.free rfl) rfl (q_assign (v := .int .u64 ((9221120237041090561 : Int))) rfl rfl) ?_
    refine ro_nil ?_
    refine wp_ret ?_
    exact ret_ok rfl (.cons (.tmp (v := .int .u64 ((9221120237041090561 : Int))) rfl) .nil) ⟨(9221120237041090561 : Int), rfl, h⟩
  · refine wp_skip ?_
    refine wp_seq ?_
    refine wp_text [0, 1, 2] rfl ?_
    refine ro_val (d := (some 5)) rfl (.free rfl) rfl (q_move (v := .float .f64 (f_1)) rfl rfl) ?_
    refine ro_val (d := (some 6)) rfl (.free rfl) rfl (q_f64bits (b := f_1) rfl ext23 rfl) ?_
    refine ro_val (d := (some 2)) rfl (.free rfl) rfl (q_assign (v := .int .u64 ((f_1 : Int))) rfl rfl) ?_
    refine ro_nil ?_
    refine wp_ret ?_
    exact ret_ok rfl (.cons (.tmp (v := .int .u64 ((f_1 : Int))) rfl) .nil) ⟨(f_1 : Int), rfl, h⟩

-- moiety/wire.number
def F27_l1 (b_3 : Slc) (n_4 : Int) (w5 : World) (K6 : Slc × Int → World → Prop) (R : Slc → World → Prop) : Prop :=
  if (decide (n_4 ≥ (128 : Int))) = true then (
    apl 5 (tInt .u8) 1 1 b_3 [(bits .or .u8 (IntKind.u8.wrap n_4) (128 : Int))] w5 fun r10 w9 =>
    ex (Shift (7 : Int) (Int.fdiv n_4 (2 ^ (min ((7 : Int)).toNat IntKind.u64.bits)))) fun d11 =>
    K6 (r10, d11) w9
  ) else (
    apl 5 (tInt .u8) 1 1 b_3 [(IntKind.u8.wrap n_4)] w5 fun r15 w14 =>
    R r15 w14
  )
def F27 (b_1 : Slc) (n_2 : Int) (w : World) (R : Slc → World → Prop) : Prop :=
  lp (fun (s : Slc × Int) w K => F27_l1 s.1 s.2 w K R) (b_1, n_2) w
theorem F27_ok {b_1 : Slc} {n_2 : Int} {w : World} {R : Slc → World → Prop} (h : F27 b_1 n_2 w R) : cl Try.prog 27 [tSlc.enc (b_1), .int .u64 (n_2)] tSlc w R := by
  unfold F27 at h
  refine calls_start 20 Try.func27 rfl rfl (Nat.le_of_ble_eq_true rfl) ?_
  refine wp_seq ?_
  refine wp_text [0] rfl ?_
  refine ro_val (d := (some 4)) rfl (.free rfl) rfl (q_assign (v := tSlc.enc ((⟨none, 0, 0⟩ : Slc))) rfl rfl) ?_
  refine ro_nil ?_
  refine wp_seq ?_
  refine wp_block ?_
  refine loop_at (σ := Slc × Int) (fr := fun g (s : Slc × Int) => upd (upd (g) 0 (tSlc.enc (s.1))) 1 (.int .u64 (s.2))) (s0 := (b_1, n_2)) (upd_step (upd_step rfl rfl) rfl) h ?_
  rintro ⟨b_3, n_4⟩ g w5 K6 h
  unfold F27_l1 at h
  refine wp_seq ?_
  refine wp_seq ?_
  refine wp_text [0, 1] rfl ?_
  refine ro_val (d := (some 5)) rfl (.free rfl) rfl (q_move (v := .int .u64 (n_4)) rfl rfl) ?_
  refine ro_val (d := (some 6)) rfl (.free rfl) rfl (q_geq (a := n_4) (b := (128 : Int)) rfl rfl rfl) ?_
  refine ro_nil ?_
  refine wp_if (b := (decide (n_4 ≥ (128 : Int)))) rfl h (fun hb16 h => ?_) (fun hb16 h => ?_)
  · refine wp_skip ?_
    refine wp_seq ?_
    refine wp_block ?_
    refine wp_text [0, 1, 2, 3, 4, 5, 6] rfl ?_
    refine ro_val (d := (some 9)) rfl (.free rfl) rfl (q_move (v := tSlc.enc (b_3)) rfl rfl) ?_
    refine ro_val (d := (some 10)) rfl (.free rfl) rfl (q_move (v := .int .u64 (n_4)) rfl rfl) ?_
    refine ro_val (d := (some 11)) rfl (.free rfl) rfl (q_cvtI (a := n_4) rfl Try.underlying33 Try.underlying5 rfl) ?_
    refine ro_val (d := (some 12)) rfl (.free rfl) rfl (q_or (a := (IntKind.u8.wrap n_4)) (b := (128 : Int)) rfl rfl rfl) ?_
    obtain ⟨a7, w8, ha7, hw8, h⟩ := apl_open h
    refine ro_val (d := (some 13)) rfl (.free rfl) rfl (q_rowOf (T := (tInt .u8)) (xs := [(bits .or .u8 (IntKind.u8.wrap n_4) (128 : Int))]) rfl Try.underlying25 ok5 inf5 rfl (by decide) (by decide) rfl ha7 hw8) ?_
    refine ro_wp rfl (.free rfl) (wp_append (d := (some 14)) (T := (tInt .u8)) rfl rfl Try.underlying25 ⟨_, Try.underlying25⟩ ok5 inf5 rfl rfl (Nat.lt_of_lt_of_le Nat.zero_lt_one (Nat.le_of_ble_eq_true rfl)) rfl rfl h ?_)
    intro r10 w9 h
    refine ro_val (d := (some 0)) rfl (.free rfl) rfl (q_assign (v := tSlc.enc (r10)) rfl rfl) ?_
    refine ro_nil ?_
    refine wp_text [0, 1, 2] rfl ?_
    refine ro_val (d := (some 7)) rfl (.free rfl) rfl (q_move (v := .int .u64 (n_4)) rfl rfl) ?_
    obtain ⟨d11, hd11, h⟩ := h
    refine ro_val (d := (some 8)) rfl (.free rfl) rfl (q_shr (a := n_4) (b := (7 : Int)) (r := d11) rfl rfl rfl hd11) ?_
    refine ro_val (d := (some 1)) rfl (.free rfl) rfl (q_assign (v := .int .u64 (d11)) rfl rfl) ?_
    refine ro_nil ?_
    exact ⟨(r10, d11), _, arr (upd_step (upd_step rfl rfl) rfl), h⟩
  · refine wp_exit ?_
    refine wp_seq ?_
    refine wp_text [0, 1, 2, 3, 4, 5] rfl ?_
    refine ro_val (d := (some 15)) rfl (.free rfl) rfl (q_move (v := tSlc.enc (b_3)) rfl rfl) ?_
    refine ro_val (d := (some 16)) rfl (.free rfl) rfl (q_move (v := .int .u64 (n_4)) rfl rfl) ?_
    refine ro_val (d := (some 17)) rfl (.free rfl) rfl (q_cvtI (a := n_4) rfl Try.underlying33 Try.underlying5 rfl) ?_
    obtain ⟨a12, w13, ha12, hw13, h⟩ := apl_open h
    refine ro_val (d := (some 18)) rfl (.free rfl) rfl (q_rowOf (T := (tInt .u8)) (xs := [(IntKind.u8.wrap n_4)]) rfl Try.underlying25 ok5 inf5 rfl (by decide) (by decide) rfl ha12 hw13) ?_
    refine ro_wp rfl (.free rfl) (wp_append (d := (some 19)) (T := (tInt .u8)) rfl rfl Try.underlying25 ⟨_, Try.underlying25⟩ ok5 inf5 rfl rfl (Nat.lt_of_lt_of_le Nat.zero_lt_one (Nat.le_of_ble_eq_true rfl)) rfl rfl h ?_)
    intro r15 w14 h
    refine ro_val (d := (some 4)) rfl (.free rfl) rfl (q_assign (v := tSlc.enc (r15)) rfl rfl) ?_
    refine ro_nil ?_
    refine wp_ret ?_
    exact ret_ok rfl (.cons (.tmp (v := tSlc.enc (r15)) rfl) .nil) ⟨r15, rfl, h⟩

-- moiety/wire.bits
def F28 (f_1 : Nat) (w : World) (R : Int → World → Prop) : Prop :=
  cl Try.prog 36 [.float .f64 (f_1)] (tInt .i64) w fun r3 w2 =>
  if (r3 == (0 : Int)) = true then (
    cl Try.prog 37 [.int .u64 ((0 : Int))] (tTup2 tFlt tBool) w2 fun r5 w4 =>
    R (r5.1 : Int) w4
  ) else (
    R (f_1 : Int) w2
  )
theorem F28_ok {f_1 : Nat} {w : World} {R : Int → World → Prop} (h : F28 f_1 w R) : cl Try.prog 28 [.float .f64 (f_1)] (tInt .u64) w R := by
  unfold F28 at h
  refine calls_start 16 Try.func28 rfl rfl (Nat.le_of_ble_eq_true rfl) ?_
  refine wp_seq ?_
  refine wp_text [0] rfl ?_
  refine ro_val (d := (some 2)) rfl (.free rfl) rfl (q_assign (v := .int .u64 ((0 : Int))) rfl rfl) ?_
  refine ro_nil ?_
  refine wp_seq ?_
  refine wp_seq ?_
  refine wp_text [0, 1, 2] rfl ?_
  refine ro_val (d := (some 5)) rfl (.free rfl) rfl (q_move (v := .float .f64 (f_1)) rfl rfl) ?_
  refine ro_wp rfl (.free rfl) (wp_cl (d := (some 6)) rfl (q_call (k := 36) (l := [.float .f64 (f_1)]) rfl ent36 rfl) h ?_)
  intro r3 w2 h
  refine ro_val (d := (some 7)) rfl (.free rfl) rfl (q_eql (a := r3) (b := (0 : Int)) rfl rfl rfl) ?_
  refine ro_nil ?_
  refine wp_if (b := (r3 == (0 : Int))) rfl h (fun hb6 h => ?_) (fun hb6 h => ?_)
  · refine wp_seq ?_
    refine wp_text [0, 1, 2, 3, 4, 5] rfl ?_
    refine ro_wp rfl (.free rfl) (wp_cl (d := (some 9)) rfl (q_call (k := 37) (l := [.int .u64 ((0 : Int))]) rfl ent37 rfl) h ?_)
    intro r5 w4 h
    refine ro_val (d := (some 8)) rfl (.free rfl) rfl (q_move (v := (tTup2 tFlt tBool).enc (r5)) rfl rfl) ?_
    refine ro_val (d := (some 10)) rfl (.free rfl) rfl (q_extract (vs := #[.float .f64 (r5.1), .bool (r5.2)]) (v := .float .f64 (r5.1)) rfl rfl rfl) ?_
    refine ro_val (d := (some 11)) rfl (.free rfl) rfl (q_extract (vs := #[.float .f64 (r5.1), .bool (r5.2)]) (v := .bool (r5.2)) rfl rfl rfl) ?_
    refine ro_val (d := (some 3)) rfl (.free rfl) rfl (q_assign (v := .float .f64 (r5.1)) rfl rfl) ?_
    refine ro_val (d := (some 4)) rfl (.free rfl) rfl (q_assign (v := .bool (r5.2)) rfl rfl) ?_
    refine ro_nil ?_
    refine wp_seq ?_
    refine wp_text [0, 1, 2] rfl ?_
    refine ro_val (d := (some 12)) rfl (.free rfl) rfl (q_move (v := .float .f64 (r5.1)) rfl rfl) ?_
    refine ro_val (d := (some 13)) rfl (.free rfl) rfl (q_f64bits (b := r5.1) rfl ext23 rfl) ?_
    refine ro_val (d := (some 2)) rfl (.free rfl) rfl (q_assign (v := .int .u64 ((r5.1 : Int))) rfl rfl) ?_
    refine ro_nil ?_
    refine wp_ret ?_
    exact ret_ok rfl (.cons (.tmp (v := .int .u64 ((r5.1 : Int))) rfl) .nil) ⟨(r5.1 : Int), rfl, h⟩
  · refine wp_skip ?_
    refine wp_seq ?_
    refine wp_text [0, 1, 2] rfl ?_
    refine ro_val (d := (some 14)) rfl (.free rfl) rfl (q_move (v := .float .f64 (f_1)) rfl rfl) ?_
    refine ro_val (d := (some 15)) rfl (.free rfl) rfl (q_f64bits (b := f_1) rfl ext23 rfl) ?_
    refine ro_val (d := (some 2)) rfl (.free rfl) rfl (q_assign (v := .int .u64 ((f_1 : Int))) rfl rfl) ?_
    refine ro_nil ?_
    refine wp_ret ?_
    exact ret_ok rfl (.cons (.tmp (v := .int .u64 ((f_1 : Int))) rfl) .nil) ⟨(f_1 : Int), rfl, h⟩

-- moiety/moietyref02.Number
def F29_j1 (t_5 : (List UInt8)) (w6 : World) (R : (List UInt8) → World → Prop) : Prop :=
  R t_5 w6
def F29 (n_1 : Int) (w : World) (R : (List UInt8) → World → Prop) : Prop :=
  if (decide (n_1 < (128 : Int))) = true then (
    nwS 5 (tInt .u8) [(IntKind.u8.wrap n_1)] w fun a2 w3 =>
    ex (B2S (⟨some a2, 1, 1⟩ : Slc) w3) fun s4 =>
    R s4 w3
  ) else (
    dr w fun w7 =>
    bth (
      nwS 5 (tInt .u8) [(IntKind.u8.wrap (IntKind.u64.wrap ((128 : Int) + (Int.tmod n_1 (128 : Int)))))] w7 fun a8 w9 =>
      ex (B2S (⟨some a8, 1, 1⟩ : Slc) w9) fun s10 =>
      cl Try.prog 29 [.int .u64 ((IntKind.u64.wrap (Int.tdiv n_1 (128 : Int))))] tStr w9 fun r12 w11 =>
      kp ((B2S (⟨some a8, 1, 1⟩ : Slc) w11) s10) <|
      ex (CatS s10 r12) fun s14 =>
      F29_j1 s14 w11 R
    ) (
      cl Try.prog 29 [.int .u64 ((IntKind.u64.wrap (Int.tdiv n_1 (128 : Int))))] tStr w7 fun r16 w15 =>
      nwS 5 (tInt .u8) [(IntKind.u8.wrap (IntKind.u64.wrap ((128 : Int) + (Int.tmod n_1 (128 : Int)))))] w15 fun a17 w18 =>
      ex (B2S (⟨some a17, 1, 1⟩ : Slc) w18) fun s19 =>
      ex (CatS s19 r16) fun s20 =>
      F29_j1 s20 w18 R
    )
  )
theorem F29_ok {n_1 : Int} {w : World} {R : (List UInt8) → World → Prop} (h : F29 n_1 w R) : cl Try.prog 29 [.int .u64 (n_1)] tStr w R := by
  unfold F29 at h
  refine calls_start 19 Try.func29 rfl rfl (Nat.le_of_ble_eq_true rfl) ?_
  refine wp_seq ?_
  refine wp_text [0] rfl ?_
  refine ro_val (d := (some 2)) rfl (.free rfl) rfl (q_assign (v := .string ⟨(([] : List UInt8)).toArray⟩) rfl rfl) ?_
  refine ro_nil ?_
  refine wp_seq ?_
  refine wp_seq ?_
  refine wp_text [0, 1] rfl ?_
  refine ro_val (d := (some 3)) rfl (.free rfl) rfl (q_move (v := .int .u64 (n_1)) rfl rfl) ?_
  refine ro_val (d := (some 4)) rfl (.free rfl) rfl (q_lss (a := n_1) (b := (128 : Int)) rfl rfl rfl) ?_
  refine ro_nil ?_
  refine wp_if (b := (decide (n_1 < (128 : Int)))) rfl h (fun hb21 h => ?_) (fun hb21 h => ?_)
  · refine wp_seq ?_
    refine wp_text [0, 1, 2, 3, 4] rfl ?_
    refine ro_val (d := (some 5)) rfl (.free rfl) rfl (q_move (v := .int .u64 (n_1)) rfl rfl) ?_
    refine ro_val (d := (some 6)) rfl (.free rfl) rfl (q_cvtI (a := n_1) rfl Try.underlying33 Try.underlying5 rfl) ?_
    obtain ⟨a2, w3, ha2, hw3, h⟩ := nwS_open h
    refine ro_val (d := (some 7)) rfl (.free rfl) rfl (q_rowOf (T := (tInt .u8)) (xs := [(IntKind.u8.wrap n_1)]) rfl Try.underlying25 ok5 inf5 rfl (by decide) (by decide) rfl ha2 hw3) ?_
    obtain ⟨s4, hs4, h⟩ := h
    refine ro_val (d := (some 8)) rfl (.free rfl) rfl (q_b2s (b := (⟨some a2, 1, 1⟩ : Slc)) (r := s4) rfl Try.underlying25 Try.underlying5 Try.underlying9 rfl hs4) ?_
    refine ro_val (d := (some 2)) rfl (.free rfl) rfl (q_assign (v := .string ⟨(s4).toArray⟩) rfl rfl) ?_
    refine ro_nil ?_
    refine wp_ret ?_
    exact ret_ok rfl (.cons (.tmp (v := .string ⟨(s4).toArray⟩) rfl) .nil) ⟨s4, rfl, h⟩
  · refine wp_skip ?_
    refine seq_join (σ := (List UInt8)) (J := fun (s : (List UInt8)) w => F29_j1 s w R) (fr := fun g (s : (List UInt8)) => upd (g) 2 (.string ⟨(s).toArray⟩)) ?_ ?_
    · rintro t_5 g w6 h
      unfold F29_j1 at h
      refine wp_ret ?_
      exact ret_ok rfl (.cons (.tmp (v := .string ⟨(t_5).toArray⟩) rfl) .nil) ⟨t_5, rfl, h⟩
    · obtain ⟨w7, hw7, h⟩ := dr_open h
      refine wp_drawn 11 mixed rfl (by kernel_rfl) (by intro c a d v w h; cases d <;> exact h) hw7 (fun hD => ?_)
      refine rd_pure (i := 0) (d := (some 9)) hD (by kernel_rfl) (by kernel_rfl) rfl (.free rfl) rfl (fun _ => q_move (v := .int .u64 (n_1)) rfl rfl) ?_
      refine rd_pure (i := 1) (d := (some 10)) hD (by kernel_rfl) (by kernel_rfl) rfl (.free rfl) rfl (fun _ => q_rem (a := n_1) (b := (128 : Int)) rfl rfl rfl (by decide)) ?_
      refine rd_pure (i := 2) (d := (some 11)) hD (by kernel_rfl) (by kernel_rfl) rfl (.free rfl) rfl (fun _ => q_add (a := (128 : Int)) (b := (Int.tmod n_1 (128 : Int))) rfl rfl rfl) ?_
      refine rd_pure (i := 3) (d := (some 12)) hD (by kernel_rfl) (by kernel_rfl) rfl (.free rfl) rfl (fun _ => q_cvtI (a := (IntKind.u64.wrap ((128 : Int) + (Int.tmod n_1 (128 : Int))))) rfl Try.underlying33 Try.underlying5 rfl) ?_
      refine rd_pure (i := 6) (d := (some 15)) hD (by kernel_rfl) (by kernel_rfl) rfl (.free rfl) rfl (fun _ => q_move (v := .int .u64 (n_1)) rfl rfl) ?_
      refine rd_pure (i := 7) (d := (some 16)) hD (by kernel_rfl) (by kernel_rfl) rfl (.free rfl) rfl (fun _ => q_quo (a := n_1) (b := (128 : Int)) rfl rfl rfl (by decide)) ?_
      obtain ⟨h, h'⟩ := h
      refine rd_two (i := 4) (j := 8) (by kernel_rfl) ?_ ?_
      · clear h'
        obtain ⟨a8, w9, ha8, hw9, h⟩ := nwS_open h
        refine po_val (d := (some 13)) rfl (.free rfl) rfl (q_rowOf (T := (tInt .u8)) (xs := [(IntKind.u8.wrap (IntKind.u64.wrap ((128 : Int) + (Int.tmod n_1 (128 : Int)))))]) rfl Try.underlying25 ok5 inf5 rfl (by decide) (by decide) rfl ha8 hw9) ⟨hk_nil, ?_⟩
        obtain ⟨s10, hs10, h⟩ := h
        refine rd_read (i := 5) (d := (some 14)) (fun W => (B2S (⟨some a8, 1, 1⟩ : Slc) W) s10) hD (by kernel_rfl) (by kernel_rfl) rfl (.free rfl) rfl (fun W hr => q_b2s (b := (⟨some a8, 1, 1⟩ : Slc)) (r := s10) rfl Try.underlying25 Try.underlying5 Try.underlying9 rfl hr) hs10 ?_
        refine rd_one (i := 8) (by kernel_rfl) ?_
        refine po_wp rfl (.free rfl) (wp_cl (d := (some 17)) rfl (q_call (k := 29) (l := [.int .u64 ((IntKind.u64.wrap (Int.tdiv n_1 (128 : Int))))]) rfl ent29 rfl) h ?_)
        intro r12 w11 h
        obtain ⟨hk13, h⟩ := h
        refine ⟨(hk_keep (fun _ => hk13) hk_nil), ?_⟩
        obtain ⟨s14, hs14, h⟩ := h
        refine rd_pure (i := 9) (d := (some 18)) hD (by kernel_rfl) (by kernel_rfl) rfl (.free rfl) rfl (fun _ => q_catS (a := s10) (b := r12) (r := s14) rfl rfl rfl hs14) ?_
        refine rd_pure (i := 10) (d := (some 2)) hD (by kernel_rfl) (by kernel_rfl) rfl (.free rfl) rfl (fun _ => q_assign (v := .string ⟨(s14).toArray⟩) rfl rfl) ?_
        refine rd_nil (by kernel_rfl) ?_
        exact ⟨(s14), _, arr (upd_step rfl rfl), h⟩
      · replace h := h'; clear h'
        refine po_wp rfl (.free rfl) (wp_cl (d := (some 17)) rfl (q_call (k := 29) (l := [.int .u64 ((IntKind.u64.wrap (Int.tdiv n_1 (128 : Int))))]) rfl ent29 rfl) h ?_)
        intro r16 w15 h
        refine ⟨hk_nil, ?_⟩
        refine rd_one (i := 4) (by kernel_rfl) ?_
        obtain ⟨a17, w18, ha17, hw18, h⟩ := nwS_open h
        refine po_val (d := (some 13)) rfl (.free rfl) rfl (q_rowOf (T := (tInt .u8)) (xs := [(IntKind.u8.wrap (IntKind.u64.wrap ((128 : Int) + (Int.tmod n_1 (128 : Int)))))]) rfl Try.underlying25 ok5 inf5 rfl (by decide) (by decide) rfl ha17 hw18) ⟨hk_nil, ?_⟩
        obtain ⟨s19, hs19, h⟩ := h
        refine rd_read (i := 5) (d := (some 14)) (fun W => (B2S (⟨some a17, 1, 1⟩ : Slc) W) s19) hD (by kernel_rfl) (by kernel_rfl) rfl (.free rfl) rfl (fun W hr => q_b2s (b := (⟨some a17, 1, 1⟩ : Slc)) (r := s19) rfl Try.underlying25 Try.underlying5 Try.underlying9 rfl hr) hs19 ?_
        obtain ⟨s20, hs20, h⟩ := h
        refine rd_pure (i := 9) (d := (some 18)) hD (by kernel_rfl) (by kernel_rfl) rfl (.free rfl) rfl (fun _ => q_catS (a := s19) (b := r16) (r := s20) rfl rfl rfl hs20) ?_
        refine rd_pure (i := 10) (d := (some 2)) hD (by kernel_rfl) (by kernel_rfl) rfl (.free rfl) rfl (fun _ => q_assign (v := .string ⟨(s20).toArray⟩) rfl rfl) ?_
        refine rd_nil (by kernel_rfl) ?_
        exact ⟨(s20), _, arr (upd_step rfl rfl), h⟩

-- moiety/moietyref02.Eight
def F30_l1 (n_2 : Int) (s_3 : (List UInt8)) (i_4 : Int) (w5 : World) (K6 : Int × (List UInt8) × Int → World → Prop) (R : (List UInt8) → World → Prop) : Prop :=
  if (decide (i_4 < (8 : Int))) = true then (
    nwS 5 (tInt .u8) [(IntKind.u8.wrap (Int.tmod n_2 (256 : Int)))] w5 fun a7 w8 =>
    ex (B2S (⟨some a7, 1, 1⟩ : Slc) w8) fun s9 =>
    ex (CatS s9 s_3) fun s10 =>
    K6 ((IntKind.u64.wrap (Int.tdiv n_2 (256 : Int))), s10, (IntKind.i64.wrap (i_4 + (1 : Int)))) w8
  ) else (
    R s_3 w5
  )
def F30 (n_1 : Int) (w : World) (R : (List UInt8) → World → Prop) : Prop :=
  lp (fun (s : Int × (List UInt8) × Int) w K => F30_l1 s.1 s.2.1 s.2.2 w K R) (n_1, ([] : List UInt8), (0 : Int)) w
theorem F30_ok {n_1 : Int} {w : World} {R : (List UInt8) → World → Prop} (h : F30 n_1 w R) : cl Try.prog 30 [.int .u64 (n_1)] tStr w R := by
  unfold F30 at h
  refine calls_start 19 Try.func30 rfl rfl (Nat.le_of_ble_eq_true rfl) ?_
  refine wp_seq ?_
  refine wp_text [0] rfl ?_
  refine ro_val (d := (some 2)) rfl (.free rfl) rfl (q_assign (v := .string ⟨(([] : List UInt8)).toArray⟩) rfl rfl) ?_
  refine ro_nil ?_
  refine wp_seq ?_
  refine wp_text [0] rfl ?_
  refine ro_val (d := (some 3)) rfl (.free rfl) rfl (q_assign (v := .string ⟨(([] : List UInt8)).toArray⟩) rfl rfl) ?_
  refine ro_nil ?_
  refine wp_seq ?_
  refine wp_seq ?_
  refine wp_text [0] rfl ?_
  refine ro_val (d := (some 4)) rfl (.free rfl) rfl (q_assign (v := .int .i64 ((0 : Int))) rfl rfl) ?_
  refine ro_nil ?_
  refine wp_block ?_
  refine loop_at (σ := Int × (List UInt8) × Int) (fr := fun g (s : Int × (List UInt8) × Int) => upd (upd (upd (g) 0 (.int .u64 (s.1))) 3 (.string ⟨(s.2.1).toArray⟩)) 4 (.int .i64 (s.2.2))) (s0 := (n_1, ([] : List UInt8), (0 : Int))) (upd_step (upd_step (upd_step rfl rfl) rfl) rfl) h ?_
  rintro ⟨n_2, s_3, i_4⟩ g w5 K6 h
  unfold F30_l1 at h
  refine wp_seq ?_
  refine wp_seq ?_
  refine wp_text [0, 1] rfl ?_
  refine ro_val (d := (some 5)) rfl (.free rfl) rfl (q_move (v := .int .i64 (i_4)) rfl rfl) ?_
  refine ro_val (d := (some 6)) rfl (.free rfl) rfl (q_lss (a := i_4) (b := (8 : Int)) rfl rfl rfl) ?_
  refine ro_nil ?_
  refine wp_if (b := (decide (i_4 < (8 : Int)))) rfl h (fun hb11 h => ?_) (fun hb11 h => ?_)
  · refine wp_skip ?_
    refine wp_seq ?_
    refine wp_block ?_
    refine wp_seq ?_
    refine wp_text [0, 1, 2, 3, 4, 5, 6, 7] rfl ?_
    refine ro_val (d := (some 9)) rfl (.free rfl) rfl (q_move (v := .int .u64 (n_2)) rfl rfl) ?_
    refine ro_val (d := (some 10)) rfl (.free rfl) rfl (q_rem (a := n_2) (b := (256 : Int)) rfl rfl rfl (by decide)) ?_
    refine ro_val (d := (some 11)) rfl (.free rfl) rfl (q_cvtI (a := (Int.tmod n_2 (256 : Int))) rfl Try.underlying33 Try.underlying5 rfl) ?_
    obtain ⟨a7, w8, ha7, hw8, h⟩ := nwS_open h
    refine ro_val (d := (some 12)) rfl (.free rfl) rfl (q_rowOf (T := (tInt .u8)) (xs := [(IntKind.u8.wrap (Int.tmod n_2 (256 : Int)))]) rfl Try.underlying25 ok5 inf5 rfl (by decide) (by decide) rfl ha7 hw8) ?_
    obtain ⟨s9, hs9, h⟩ := h
    refine ro_val (d := (some 13)) rfl (.free rfl) rfl (q_b2s (b := (⟨some a7, 1, 1⟩ : Slc)) (r := s9) rfl Try.underlying25 Try.underlying5 Try.underlying9 rfl hs9) ?_
    refine ro_val (d := (some 14)) rfl (.free rfl) rfl (q_move (v := .string ⟨(s_3).toArray⟩) rfl rfl) ?_
    obtain ⟨s10, hs10, h⟩ := h
    refine ro_val (d := (some 15)) rfl (.free rfl) rfl (q_catS (a := s9) (b := s_3) (r := s10) rfl rfl rfl hs10) ?_
    refine ro_val (d := (some 3)) rfl (.free rfl) rfl (q_assign (v := .string ⟨(s10).toArray⟩) rfl rfl) ?_
    refine ro_nil ?_
    refine wp_text [0, 1, 2] rfl ?_
    refine ro_val (d := (some 16)) rfl (.free rfl) rfl (q_move (v := .int .u64 (n_2)) rfl rfl) ?_
    refine ro_val (d := (some 17)) rfl (.free rfl) rfl (q_quo (a := n_2) (b := (256 : Int)) rfl rfl rfl (by decide)) ?_
    refine ro_val (d := (some 0)) rfl (.free rfl) rfl (q_assign (v := .int .u64 ((IntKind.u64.wrap (Int.tdiv n_2 (256 : Int))))) rfl rfl) ?_
    refine ro_nil ?_
    refine wp_text [0, 1, 2] rfl ?_
    refine ro_val (d := (some 7)) rfl (.free rfl) rfl (q_move (v := .int .i64 (i_4)) rfl rfl) ?_
    refine ro_val (d := (some 8)) rfl (.free rfl) rfl (q_add (a := i_4) (b := (1 : Int)) rfl rfl rfl) ?_
    refine ro_val (d := (some 4)) rfl (.free rfl) rfl (q_assign (v := .int .i64 ((IntKind.i64.wrap (i_4 + (1 : Int))))) rfl rfl) ?_
    refine ro_nil ?_
    exact ⟨((IntKind.u64.wrap (Int.tdiv n_2 (256 : Int))), s10, (IntKind.i64.wrap (i_4 + (1 : Int)))), _, arr (upd_step (upd_step (upd_step rfl rfl) rfl) rfl), h⟩
  · refine wp_exit ?_
    refine wp_seq ?_
    refine wp_text [0, 1] rfl ?_
    refine ro_val (d := (some 18)) rfl (.free rfl) rfl (q_move (v := .string ⟨(s_3).toArray⟩) rfl rfl) ?_
    refine ro_val (d := (some 2)) rfl (.free rfl) rfl (q_assign (v := .string ⟨(s_3).toArray⟩) rfl rfl) ?_
    refine ro_nil ?_
    refine wp_ret ?_
    exact ret_ok rfl (.cons (.tmp (v := .string ⟨(s_3).toArray⟩) rfl) .nil) ⟨s_3, rfl, h⟩

-- (*moiety/wire.reader).next
def F31 (r_1 : (Option Addr)) (w : World) (R : Int → World → Prop) (Pn : Iv → World → Prop) : Prop :=
  dr w fun w2 =>
  ex (NC r_1) fun a3 =>
  ex (RdAt (tInt .i64) (a3.add 1) w2) fun x4 =>
  ex (RdAt tSlc (a3.add 0) w2) fun x5 =>
  if (decide (x4 ≥ (x5.len : Int))) = true then (
    Pn (Iv.mk 52 (T51.enc ((⟨(22 : Int)⟩ : S51)))) w2
  ) else (
    ex (RdAt (tInt .i64) (a3.add 1) w2) fun x6 =>
    st (tInt .i64) (a3.add 1) (IntKind.i64.wrap (x6 + (1 : Int))) w2 fun w7 =>
    dr w7 fun w8 =>
    ex (RdAt tSlc (a3.add 0) w8) fun x9 =>
    ex (RdAt (tInt .i64) (a3.add 1) w8) fun x10 =>
    ex (IxA x9 1 (IntKind.i64.wrap (x10 - (1 : Int)))) fun a11 =>
    ex (RdAt (tInt .u8) a11 w8) fun x12 =>
    R x12 w8
  )
theorem F31_ok {r_1 : (Option Addr)} {w : World} {R : Int → World → Prop} {Pn : Iv → World → Prop} (h : F31 r_1 w R Pn) : clp Try.prog 31 [.pointer (r_1)] (tInt .u8) w Pn R := by
  unfold F31 at h
  refine calls_start 33 Try.func31 rfl rfl (Nat.le_of_ble_eq_true rfl) ?_
  refine wp_seq ?_
  refine wp_text [0] rfl ?_
  refine ro_val (d := (some 2)) rfl (.free rfl) rfl (q_assign (v := .int .u8 ((0 : Int))) rfl rfl) ?_
  refine ro_nil ?_
  refine wp_seq ?_
  refine wp_seq ?_
  obtain ⟨w2, hw2, h⟩ := dr_open h
  refine wp_drawn 10 mixed rfl (by kernel_rfl) (by intro c a d v w h; cases d <;> exact h) hw2 (fun hD => ?_)
  refine rd_pure (i := 0) (d := (some 3)) hD (by kernel_rfl) (by kernel_rfl) rfl (.free rfl) rfl (fun _ => q_move (v := .pointer (r_1)) rfl rfl) ?_
  obtain ⟨a3, ha3, h⟩ := h
  refine rd_pure (i := 1) (d := (some 4)) hD (by kernel_rfl) (by kernel_rfl) rfl (.free rfl) rfl (fun _ => q_nilCheck (a := a3) rfl (congrArg Value.pointer ha3)) ?_
  refine rd_pure (i := 2) (d := (some 5)) hD (by kernel_rfl) (by kernel_rfl) rfl (.free rfl) rfl (fun _ => q_fieldAddr (a := a3) (off := 1) rfl Try.underlying50 rfl rfl ok3 (by decide) rfl) ?_
  refine rd_pure (i := 4) (d := (some 7)) hD (by kernel_rfl) (by kernel_rfl) rfl (.free rfl) rfl (fun _ => q_move (v := .pointer (r_1)) rfl rfl) ?_
  refine rd_pure (i := 5) (d := (some 8)) hD (by kernel_rfl) (by kernel_rfl) rfl (.free rfl) rfl (fun _ => q_nilCheck (a := a3) rfl (congrArg Value.pointer ha3)) ?_
  refine rd_pure (i := 6) (d := (some 9)) hD (by kernel_rfl) (by kernel_rfl) rfl (.free rfl) rfl (fun _ => q_fieldAddr (a := a3) (off := 0) rfl Try.underlying50 rfl rfl ok25 (by decide) rfl) ?_
  obtain ⟨x4, hx4, h⟩ := h
  refine rd_read (i := 3) (d := (some 6)) (fun W => (RdAt (tInt .i64) (a3.add 1) W) x4) hD (by kernel_rfl) (by kernel_rfl) rfl (.free rfl) rfl (fun W hr => q_load (T := (tInt .i64)) (u := x4) (a := (a3.add 1)) rfl ok3 rfl hr) hx4 ?_
  obtain ⟨x5, hx5, h⟩ := h
  refine rd_read (i := 7) (d := (some 10)) (fun W => (RdAt tSlc (a3.add 0) W) x5) hD (by kernel_rfl) (by kernel_rfl) rfl (.free rfl) rfl (fun W hr => q_load (T := tSlc) (u := x5) (a := (a3.add 0)) rfl ok25 rfl hr) hx5 ?_
  refine rd_pure (i := 8) (d := (some 11)) hD (by kernel_rfl) (by kernel_rfl) rfl (.free rfl) rfl (fun _ => q_len (s := x5) rfl Try.underlying25 rfl) ?_
  refine rd_pure (i := 9) (d := (some 12)) hD (by kernel_rfl) (by kernel_rfl) rfl (.free rfl) rfl (fun _ => q_geq (a := x4) (b := (x5.len : Int)) rfl rfl rfl) ?_
  refine rd_nil (by kernel_rfl) ?_
  refine wp_if (b := (decide (x4 ≥ (x5.len : Int)))) rfl h (fun hb13 h => ?_) (fun hb13 h => ?_)
  · refine wp_text [0, 1, 2] rfl ?_
    refine ro_val (d := (some 13)) rfl (.free rfl) rfl (q_build52_0 (v0 := (22 : Int)) rfl rfl) ?_
    refine ro_val (d := (some 14)) rfl (.free rfl) rfl (q_mkI (v := T51.enc ((⟨(22 : Int)⟩ : S51))) rfl Try.underlying52 rfl rfl) ?_
    refine ro_wp rfl (.free rfl) (wp_panic (v := (Iv.mk 52 (T51.enc ((⟨(22 : Int)⟩ : S51))))) rfl rfl ⟨_, _, rfl⟩ ?_)
    exact pan_ok (P := Try.prog) (fn := Try.f31) h
  · refine wp_skip ?_
    refine wp_seq ?_
    refine wp_text [0, 1, 2, 3, 4, 5, 6, 7] rfl ?_
    refine ro_val (d := (some 15)) rfl (.free rfl) rfl (q_move (v := .pointer (r_1)) rfl rfl) ?_
    refine ro_val (d := (some 16)) rfl (.free rfl) rfl (q_nilCheck (a := a3) rfl (congrArg Value.pointer ha3)) ?_
    refine ro_val (d := (some 17)) rfl (.free rfl) rfl (q_fieldAddr (a := a3) (off := 1) rfl Try.underlying50 rfl rfl ok3 (by decide) rfl) ?_
    obtain ⟨x6, hx6, h⟩ := h
    refine ro_val (d := (some 18)) rfl (.free rfl) rfl (q_load (T := (tInt .i64)) (u := x6) (a := (a3.add 1)) rfl ok3 rfl hx6) ?_
    refine ro_val (d := (some 19)) rfl (.free rfl) rfl (q_add (a := x6) (b := (1 : Int)) rfl rfl rfl) ?_
    refine ro_val (d := (some 20)) rfl (.free rfl) rfl (q_nilCheck (a := a3) rfl (congrArg Value.pointer ha3)) ?_
    refine ro_val (d := (some 21)) rfl (.free rfl) rfl (q_fieldAddr (a := a3) (off := 1) rfl Try.underlying50 rfl rfl ok3 (by decide) rfl) ?_
    obtain ⟨w7, hw7, hrw7, h⟩ := st_open h
    refine ro_skip (d := none) rfl (.free rfl) rfl (q_store (T := (tInt .i64)) (u := (IntKind.i64.wrap (x6 + (1 : Int)))) (a := (a3.add 1)) rfl ok3 rfl rfl hrw7 hw7) ?_
    refine ro_nil ?_
    refine wp_seq ?_
    obtain ⟨w8, hw8, h⟩ := dr_open h
    refine wp_drawn 12 mixed rfl (by kernel_rfl) (by intro c a d v w h; cases d <;> exact h) hw8 (fun hD => ?_)
    refine rd_pure (i := 0) (d := (some 22)) hD (by kernel_rfl) (by kernel_rfl) rfl (.free rfl) rfl (fun _ => q_move (v := .pointer (r_1)) rfl rfl) ?_
    refine rd_pure (i := 1) (d := (some 23)) hD (by kernel_rfl) (by kernel_rfl) rfl (.free rfl) rfl (fun _ => q_nilCheck (a := a3) rfl (congrArg Value.pointer ha3)) ?_
    refine rd_pure (i := 2) (d := (some 24)) hD (by kernel_rfl) (by kernel_rfl) rfl (.free rfl) rfl (fun _ => q_fieldAddr (a := a3) (off := 0) rfl Try.underlying50 rfl rfl ok25 (by decide) rfl) ?_
    refine rd_pure (i := 4) (d := (some 26)) hD (by kernel_rfl) (by kernel_rfl) rfl (.free rfl) rfl (fun _ => q_move (v := .pointer (r_1)) rfl rfl) ?_
    refine rd_pure (i := 5) (d := (some 27)) hD (by kernel_rfl) (by kernel_rfl) rfl (.free rfl) rfl (fun _ => q_nilCheck (a := a3) rfl (congrArg Value.pointer ha3)) ?_
    refine rd_pure (i := 6) (d := (some 28)) hD (by kernel_rfl) (by kernel_rfl) rfl (.free rfl) rfl (fun _ => q_fieldAddr (a := a3) (off := 1) rfl Try.underlying50 rfl rfl ok3 (by decide) rfl) ?_
    obtain ⟨x9, hx9, h⟩ := h
    refine rd_read (i := 3) (d := (some 25)) (fun W => (RdAt tSlc (a3.add 0) W) x9) hD (by kernel_rfl) (by kernel_rfl) rfl (.free rfl) rfl (fun W hr => q_load (T := tSlc) (u := x9) (a := (a3.add 0)) rfl ok25 rfl hr) hx9 ?_
    obtain ⟨x10, hx10, h⟩ := h
    refine rd_read (i := 7) (d := (some 29)) (fun W => (RdAt (tInt .i64) (a3.add 1) W) x10) hD (by kernel_rfl) (by kernel_rfl) rfl (.free rfl) rfl (fun W hr => q_load (T := (tInt .i64)) (u := x10) (a := (a3.add 1)) rfl ok3 rfl hr) hx10 ?_
    refine rd_pure (i := 8) (d := (some 30)) hD (by kernel_rfl) (by kernel_rfl) rfl (.free rfl) rfl (fun _ => q_sub (a := x10) (b := (1 : Int)) rfl rfl rfl) ?_
    obtain ⟨a11, ha11, h⟩ := h
    refine rd_pure (i := 9) (d := (some 31)) hD (by kernel_rfl) (by kernel_rfl) rfl (.free rfl) rfl (fun _ => q_indexAddr (s := x9) (i := (IntKind.i64.wrap (x10 - (1 : Int)))) rfl Try.underlying25 ok5 rfl rfl ha11) ?_
    obtain ⟨x12, hx12, h⟩ := h
    refine rd_read (i := 10) (d := (some 32)) (fun W => (RdAt (tInt .u8) a11 W) x12) hD (by kernel_rfl) (by kernel_rfl) rfl (.free rfl) rfl (fun W hr => q_load (T := (tInt .u8)) (u := x12) (a := a11) rfl ok5 rfl hr) hx12 ?_
    refine rd_pure (i := 11) (d := (some 2)) hD (by kernel_rfl) (by kernel_rfl) rfl (.free rfl) rfl (fun _ => q_assign (v := .int .u8 (x12)) rfl rfl) ?_
    refine rd_nil (by kernel_rfl) ?_
    refine wp_ret ?_
    exact ret_ok rfl (.cons (.tmp (v := .int .u8 (x12)) rfl) .nil) ⟨x12, rfl, h⟩

-- (*moiety/wire.reader).number
def F32_l1 (r_1 : (Option Addr)) (n_2 : Int) (by_3 : Int) (w4 : World) (K5 : Int × Int → World → Prop) (R : Int → World → Prop) (Pn : Iv → World → Prop) : Prop :=
  clp Try.prog 31 [.pointer (r_1)] (tInt .u8) w4 Pn fun r7 w6 =>
  if (((by_3 == (63 : Int)) && (decide (r7 > (1 : Int)))) || ((decide (by_3 > (0 : Int))) && (r7 == (0 : Int)))) = true then (
    Pn (Iv.mk 52 (T51.enc ((⟨(23 : Int)⟩ : S51)))) w6
  ) else (
    ex (Shift by_3 (IntKind.u64.wrap ((IntKind.u64.wrap (bits .and .u8 r7 (127 : Int))) * 2 ^ (min (by_3).toNat IntKind.u64.bits)))) fun d8 =>
    if (decide (r7 < (128 : Int))) = true then (
      R (bits .or .u64 n_2 d8) w6
    ) else (
      K5 ((bits .or .u64 n_2 d8), (IntKind.u64.wrap (by_3 + (7 : Int)))) w6
    )
  )
def F32 (r_1 : (Option Addr)) (w : World) (R : Int → World → Prop) (Pn : Iv → World → Prop) : Prop :=
  lp (fun (s : Int × Int) w K => F32_l1 r_1 s.1 s.2 w K R Pn) ((0 : Int), (0 : Int)) w
theorem F32_ok {r_1 : (Option Addr)} {w : World} {R : Int → World → Prop} {Pn : Iv → World → Prop} (h : F32 r_1 w R Pn) : clp Try.prog 32 [.pointer (r_1)] (tInt .u64) w Pn R := by
  unfold F32 at h
  refine calls_start 36 Try.func32 rfl rfl (Nat.le_of_ble_eq_true rfl) ?_
  refine wp_seq ?_
  refine wp_text [0] rfl ?_
  refine ro_val (d := (some 2)) rfl (.free rfl) rfl (q_assign (v := .int .u64 ((0 : Int))) rfl rfl) ?_
  refine ro_nil ?_
  refine wp_seq ?_
  refine wp_text [0] rfl ?_
  refine ro_val (d := (some 3)) rfl (.free rfl) rfl (q_assign (v := .int .u64 ((0 : Int))) rfl rfl) ?_
  refine ro_nil ?_
  refine wp_seq ?_
  refine wp_text [0] rfl ?_
  refine ro_val (d := (some 4)) rfl (.free rfl) rfl (q_assign (v := .int .u64 ((0 : Int))) rfl rfl) ?_
  refine ro_nil ?_
  refine wp_block ?_
  refine loop_at (σ := Int × Int) (fr := fun g (s : Int × Int) => upd (upd (upd (g) 0 (.pointer (r_1))) 3 (.int .u64 (s.1))) 4 (.int .u64 (s.2))) (s0 := ((0 : Int), (0 : Int))) (upd_step (upd_step (upd_step rfl rfl) rfl) rfl) h ?_
  rintro ⟨n_2, by_3⟩ g w4 K5 h
  unfold F32_l1 at h
  refine wp_seq ?_
  refine wp_block ?_
  refine wp_seq ?_
  refine wp_text [0, 1, 2] rfl ?_
  refine ro_val (d := (some 8)) rfl (.free rfl) rfl (q_move (v := .pointer (r_1)) rfl rfl) ?_
  refine ro_wp rfl (.free rfl) (wp_clp (d := (some 9)) rfl (q_call (k := 31) (l := [.pointer (r_1)]) rfl ent31 rfl) h ?_ ?_)
  · exact fun _ _ h => pan_ok (P := Try.prog) (fn := Try.f32) h
  intro r7 w6 h
  refine ro_val (d := (some 5)) rfl (.free rfl) rfl (q_assign (v := .int .u8 (r7)) rfl rfl) ?_
  refine ro_nil ?_
  refine wp_seq ?_
  refine wp_seq ?_
  refine wp_text [0, 1, 2, 3, 4, 5, 6, 7, 8, 9, 10, 11, 12, 13] rfl ?_
  refine ro_val (d := (some 10)) rfl (.free rfl) rfl (q_move (v := .int .u64 (by_3)) rfl rfl) ?_
  refine ro_val (d := (some 11)) rfl (.free rfl) rfl (q_eql (a := by_3) (b := (63 : Int)) rfl rfl rfl) ?_
  refine ro_val (d := (some 12)) rfl (.free rfl) rfl (q_move (v := .bool ((by_3 == (63 : Int)))) rfl rfl) ?_
  refine ro_gval (g := (by_3 == (63 : Int))) (d := (some 13)) rfl (.yes 2 12 true (by_3 == (63 : Int)) rfl rfl rfl rfl) rfl (fun hg => q_move (v := .int .u8 (r7)) rfl rfl) ?_
  refine ro_gval (g := (by_3 == (63 : Int))) (d := (some 14)) rfl (.yes 2 12 true (by_3 == (63 : Int)) rfl rfl rfl rfl) rfl (fun hg => q_gtr (a := r7) (b := (1 : Int)) rfl (gvb_yes hg) rfl) ?_
  refine ro_val (d := (some 15)) rfl (.free rfl) rfl (q_pickGT (a := (by_3 == (63 : Int))) (b := (decide (r7 > (1 : Int)))) rfl rfl rfl rfl) ?_
  refine ro_val (d := (some 16)) rfl (.free rfl) rfl (q_move (v := .bool (((by_3 == (63 : Int)) && (decide (r7 > (1 : Int)))))) rfl rfl) ?_
  refine ro_gval (g := (!((by_3 == (63 : Int)) && (decide (r7 > (1 : Int)))))) (d := (some 17)) rfl (.no 6 16 true ((by_3 == (63 : Int)) && (decide (r7 > (1 : Int)))) rfl rfl rfl rfl) rfl (fun hg => q_move (v := .int .u64 (by_3)) rfl rfl) ?_
  refine ro_gval (g := (!((by_3 == (63 : Int)) && (decide (r7 > (1 : Int)))))) (d := (some 18)) rfl (.no 6 16 true ((by_3 == (63 : Int)) && (decide (r7 > (1 : Int)))) rfl rfl rfl rfl) rfl (fun hg => q_gtr (a := by_3) (b := (0 : Int)) rfl (gvb_yes hg) rfl) ?_
  refine ro_gval (g := (!((by_3 == (63 : Int)) && (decide (r7 > (1 : Int)))))) (d := (some 19)) rfl (.no 6 16 true ((by_3 == (63 : Int)) && (decide (r7 > (1 : Int)))) rfl rfl rfl rfl) rfl (fun hg => q_move (v := .bool ((decide (by_3 > (0 : Int))))) rfl (gvb_yes hg)) ?_
  refine ro_gval (g := ((!((by_3 == (63 : Int)) && (decide (r7 > (1 : Int))))) && (decide (by_3 > (0 : Int))))) (d := (some 20)) rfl (.yes 9 19 (!((by_3 == (63 : Int)) && (decide (r7 > (1 : Int))))) (decide (by_3 > (0 : Int))) rfl rfl rfl rfl) rfl (fun hg => q_move (v := .int .u8 (r7)) rfl rfl) ?_
  refine ro_gval (g := ((!((by_3 == (63 : Int)) && (decide (r7 > (1 : Int))))) && (decide (by_3 > (0 : Int))))) (d := (some 21)) rfl (.yes 9 19 (!((by_3 == (63 : Int)) && (decide (r7 > (1 : Int))))) (decide (by_3 > (0 : Int))) rfl rfl rfl rfl) rfl (fun hg => q_eql (a := r7) (b := (0 : Int)) rfl (gvb_yes hg) rfl) ?_
  refine ro_gval (g := (!((by_3 == (63 : Int)) && (decide (r7 > (1 : Int)))))) (d := (some 22)) rfl (.no 6 16 true ((by_3 == (63 : Int)) && (decide (r7 > (1 : Int)))) rfl rfl rfl rfl) rfl (fun hg => q_pickNT (g0 := (!((by_3 == (63 : Int)) && (decide (r7 > (1 : Int)))))) (a := (decide (by_3 > (0 : Int)))) (b := (r7 == (0 : Int))) hg rfl rfl rfl rfl) ?_
  refine ro_val (d := (some 23)) rfl (.free rfl) rfl (q_pickGF (a := ((by_3 == (63 : Int)) && (decide (r7 > (1 : Int))))) (c := ((decide (by_3 > (0 : Int))) && (r7 == (0 : Int)))) rfl rfl rfl rfl) ?_
  refine ro_nil ?_
  refine wp_if (b := (((by_3 == (63 : Int)) && (decide (r7 > (1 : Int)))) || ((decide (by_3 > (0 : Int))) && (r7 == (0 : Int))))) rfl h (fun hb10 h => ?_) (fun hb10 h => ?_)
  · refine wp_text [0, 1, 2] rfl ?_
    refine ro_val (d := (some 24)) rfl (.free rfl) rfl (q_build52_0 (v0 := (23 : Int)) rfl rfl) ?_
    refine ro_val (d := (some 25)) rfl (.free rfl) rfl (q_mkI (v := T51.enc ((⟨(23 : Int)⟩ : S51))) rfl Try.underlying52 rfl rfl) ?_
    refine ro_wp rfl (.free rfl) (wp_panic (v := (Iv.mk 52 (T51.enc ((⟨(23 : Int)⟩ : S51))))) rfl rfl ⟨_, _, rfl⟩ ?_)
    exact pan_ok (P := Try.prog) (fn := Try.f32) h
  · refine wp_skip ?_
    refine wp_seq ?_
    refine wp_text [0, 1, 2, 3, 4, 5, 6, 7] rfl ?_
    refine ro_val (d := (some 26)) rfl (.free rfl) rfl (q_move (v := .int .u64 (n_2)) rfl rfl) ?_
    refine ro_val (d := (some 27)) rfl (.free rfl) rfl (q_move (v := .int .u8 (r7)) rfl rfl) ?_
    refine ro_val (d := (some 28)) rfl (.free rfl) rfl (q_and (a := r7) (b := (127 : Int)) rfl rfl rfl) ?_
    refine ro_val (d := (some 29)) rfl (.free rfl) rfl (q_cvtI (a := (bits .and .u8 r7 (127 : Int))) rfl Try.underlying5 Try.underlying33 rfl) ?_
    refine ro_val (d := (some 30)) rfl (.free rfl) rfl (q_move (v := .int .u64 (by_3)) rfl rfl) ?_
    obtain ⟨d8, hd8, h⟩ := h
    refine ro_val (d := (some 31)) rfl (.free rfl) rfl (q_shl (a := (IntKind.u64.wrap (bits .and .u8 r7 (127 : Int)))) (b := by_3) (r := d8) rfl rfl rfl hd8) ?_
    refine ro_val (d := (some 32)) rfl (.free rfl) rfl (q_or (a := n_2) (b := d8) rfl rfl rfl) ?_
    refine ro_val (d := (some 3)) rfl (.free rfl) rfl (q_assign (v := .int .u64 ((bits .or .u64 n_2 d8))) rfl rfl) ?_
    refine ro_nil ?_
    refine wp_seq ?_
    refine wp_text [0, 1] rfl ?_
    refine ro_val (d := (some 33)) rfl (.free rfl) rfl (q_move (v := .int .u8 (r7)) rfl rfl) ?_
    refine ro_val (d := (some 34)) rfl (.free rfl) rfl (q_lss (a := r7) (b := (128 : Int)) rfl rfl rfl) ?_
    refine ro_nil ?_
    refine wp_if (b := (decide (r7 < (128 : Int)))) rfl h (fun hb9 h => ?_) (fun hb9 h => ?_)
    · refine wp_seq ?_
      refine wp_text [0, 1] rfl ?_
      refine ro_val (d := (some 35)) rfl (.free rfl) rfl (q_move (v := .int .u64 ((bits .or .u64 n_2 d8))) rfl rfl) ?_
      refine ro_val (d := (some 2)) rfl (.free rfl) rfl (q_assign (v := .int .u64 ((bits .or .u64 n_2 d8))) rfl rfl) ?_
      refine ro_nil ?_
      refine wp_ret ?_
      exact ret_ok rfl (.cons (.tmp (v := .int .u64 ((bits .or .u64 n_2 d8))) rfl) .nil) ⟨(bits .or .u64 n_2 d8), rfl, h⟩
    · refine wp_skip ?_
      refine wp_text [0, 1, 2] rfl ?_
      refine ro_val (d := (some 6)) rfl (.free rfl) rfl (q_move (v := .int .u64 (by_3)) rfl rfl) ?_
      refine ro_val (d := (some 7)) rfl (.free rfl) rfl (q_add (a := by_3) (b := (7 : Int)) rfl rfl rfl) ?_
      refine ro_val (d := (some 4)) rfl (.free rfl) rfl (q_assign (v := .int .u64 ((IntKind.u64.wrap (by_3 + (7 : Int))))) rfl rfl) ?_
      refine ro_nil ?_
      exact ⟨((bits .or .u64 n_2 d8), (IntKind.u64.wrap (by_3 + (7 : Int)))), _, arr (upd_step (upd_step (upd_step rfl rfl) rfl) rfl), h⟩

-- (*moiety/wire.reader).float
def F33_l1 (r_1 : (Option Addr)) (n_2 : Int) (t_3 : Int) (w4 : World) (K5 : Int × Int → World → Prop) (R : Nat → World → Prop) (Pn : Iv → World → Prop) : Prop :=
  if (decide (t_3 < (8 : Int))) = true then (
    ex (Shift (8 : Int) (IntKind.u64.wrap (n_2 * 2 ^ (min ((8 : Int)).toNat IntKind.u64.bits)))) fun d6 =>
    clp Try.prog 31 [.pointer (r_1)] (tInt .u8) w4 Pn fun r8 w7 =>
    K5 ((bits .or .u64 d6 (IntKind.u64.wrap r8)), (IntKind.i64.wrap (t_3 + (1 : Int)))) w7
  ) else (
    cl Try.prog 28 [.float .f64 ((Int.toNat n_2))] (tInt .u64) w4 fun r10 w9 =>
    if (r10 != n_2) = true then (
      Pn (Iv.mk 52 (T51.enc ((⟨(25 : Int)⟩ : S51)))) w9
    ) else (
      R (Int.toNat n_2) w9
    )
  )
def F33 (r_1 : (Option Addr)) (w : World) (R : Nat → World → Prop) (Pn : Iv → World → Prop) : Prop :=
  lp (fun (s : Int × Int) w K => F33_l1 r_1 s.1 s.2 w K R Pn) ((0 : Int), (0 : Int)) w
theorem F33_ok {r_1 : (Option Addr)} {w : World} {R : Nat → World → Prop} {Pn : Iv → World → Prop} (h : F33 r_1 w R Pn) : clp Try.prog 33 [.pointer (r_1)] tFlt w Pn R := by
  unfold F33 at h
  refine calls_start 23 Try.func33 rfl rfl (Nat.le_of_ble_eq_true rfl) ?_
  refine wp_seq ?_
  refine wp_text [0] rfl ?_
  refine ro_val (d := (some 2)) rfl (.free rfl) rfl (q_assign (v := .float .f64 ((0 : Nat))) rfl rfl) ?_
  refine ro_nil ?_
  refine wp_seq ?_
  refine wp_text [0] rfl ?_
  refine ro_val (d := (some 3)) rfl (.free rfl) rfl (q_assign (v := .int .u64 ((0 : Int))) rfl rfl) ?_
  refine ro_nil ?_
  refine wp_seq ?_
  refine wp_seq ?_
  refine wp_text [0] rfl ?_
  refine ro_val (d := (some 5)) rfl (.free rfl) rfl (q_move (v := .int .i64 ((0 : Int))) rfl rfl) ?_
  refine ro_nil ?_
  refine wp_block ?_
  refine loop_at (σ := Int × Int) (fr := fun g (s : Int × Int) => upd (upd (upd (g) 0 (.pointer (r_1))) 3 (.int .u64 (s.1))) 5 (.int .i64 (s.2))) (s0 := ((0 : Int), (0 : Int))) (upd_step (upd_step (upd_step rfl rfl) rfl) rfl) h ?_
  rintro ⟨n_2, t_3⟩ g w4 K5 h
  unfold F33_l1 at h
  refine wp_seq ?_
  refine wp_text [0] rfl ?_
  refine ro_val (d := (some 6)) rfl (.free rfl) rfl (q_lss (a := t_3) (b := (8 : Int)) rfl rfl rfl) ?_
  refine ro_nil ?_
  refine wp_seq ?_
  refine wp_if (b := (decide (t_3 < (8 : Int)))) rfl h (fun hb12 h => ?_) (fun hb12 h => ?_)
  · refine wp_skip ?_
    refine wp_seq ?_
    refine wp_block ?_
    refine wp_text [0, 1, 2, 3, 4, 5, 6] rfl ?_
    refine ro_val (d := (some 7)) rfl (.free rfl) rfl (q_move (v := .int .u64 (n_2)) rfl rfl) ?_
    obtain ⟨d6, hd6, h⟩ := h
    refine ro_val (d := (some 8)) rfl (.free rfl) rfl (q_shl (a := n_2) (b := (8 : Int)) (r := d6) rfl rfl rfl hd6) ?_
    refine ro_val (d := (some 9)) rfl (.free rfl) rfl (q_move (v := .pointer (r_1)) rfl rfl) ?_
    refine ro_wp rfl (.free rfl) (wp_clp (d := (some 10)) rfl (q_call (k := 31) (l := [.pointer (r_1)]) rfl ent31 rfl) h ?_ ?_)
    · exact fun _ _ h => pan_ok (P := Try.prog) (fn := Try.f33) h
    intro r8 w7 h
    refine ro_val (d := (some 11)) rfl (.free rfl) rfl (q_cvtI (a := r8) rfl Try.underlying5 Try.underlying33 rfl) ?_
    refine ro_val (d := (some 12)) rfl (.free rfl) rfl (q_or (a := d6) (b := (IntKind.u64.wrap r8)) rfl rfl rfl) ?_
    refine ro_val (d := (some 3)) rfl (.free rfl) rfl (q_assign (v := .int .u64 ((bits .or .u64 d6 (IntKind.u64.wrap r8)))) rfl rfl) ?_
    refine ro_nil ?_
    refine wp_text [0, 1] rfl ?_
    refine ro_val (d := (some 13)) rfl (.free rfl) rfl (q_add (a := t_3) (b := (1 : Int)) rfl rfl rfl) ?_
    refine ro_val (d := (some 5)) rfl (.free rfl) rfl (q_move (v := .int .i64 ((IntKind.i64.wrap (t_3 + (1 : Int))))) rfl rfl) ?_
    refine ro_nil ?_
    exact ⟨((bits .or .u64 d6 (IntKind.u64.wrap r8)), (IntKind.i64.wrap (t_3 + (1 : Int)))), _, arr (upd_step (upd_step (upd_step rfl rfl) rfl) rfl), h⟩
  · refine wp_exit ?_
    refine wp_seq ?_
    refine wp_text [0, 1, 2] rfl ?_
    refine ro_val (d := (some 14)) rfl (.free rfl) rfl (q_move (v := .int .u64 (n_2)) rfl rfl) ?_
    refine ro_val (d := (some 15)) rfl (.free rfl) rfl (q_f64from (b := n_2) rfl ext38 rfl) ?_
    refine ro_val (d := (some 4)) rfl (.free rfl) rfl (q_assign (v := .float .f64 ((Int.toNat n_2))) rfl rfl) ?_
    refine ro_nil ?_
    refine wp_seq ?_
    refine wp_seq ?_
    refine wp_text [0, 1, 2, 3] rfl ?_
    refine ro_val (d := (some 16)) rfl (.free rfl) rfl (q_move (v := .float .f64 ((Int.toNat n_2))) rfl rfl) ?_
    refine ro_wp rfl (.free rfl) (wp_cl (d := (some 17)) rfl (q_call (k := 28) (l := [.float .f64 ((Int.toNat n_2))]) rfl ent28 rfl) h ?_)
    intro r10 w9 h
    refine ro_val (d := (some 18)) rfl (.free rfl) rfl (q_move (v := .int .u64 (n_2)) rfl rfl) ?_
    refine ro_val (d := (some 19)) rfl (.free rfl) rfl (q_neq (a := r10) (b := n_2) rfl rfl rfl) ?_
    refine ro_nil ?_
    refine wp_if (b := (r10 != n_2)) rfl h (fun hb11 h => ?_) (fun hb11 h => ?_)
    · refine wp_text [0, 1, 2] rfl ?_
      refine ro_val (d := (some 20)) rfl (.free rfl) rfl (q_build52_0 (v0 := (25 : Int)) rfl rfl) ?_
      refine ro_val (d := (some 21)) rfl (.free rfl) rfl (q_mkI (v := T51.enc ((⟨(25 : Int)⟩ : S51))) rfl Try.underlying52 rfl rfl) ?_
      refine ro_wp rfl (.free rfl) (wp_panic (v := (Iv.mk 52 (T51.enc ((⟨(25 : Int)⟩ : S51))))) rfl rfl ⟨_, _, rfl⟩ ?_)
      exact pan_ok (P := Try.prog) (fn := Try.f33) h
    · refine wp_skip ?_
      refine wp_seq ?_
      refine wp_text [0, 1] rfl ?_
      refine ro_val (d := (some 22)) rfl (.free rfl) rfl (q_move (v := .float .f64 ((Int.toNat n_2))) rfl rfl) ?_
      refine ro_val (d := (some 2)) rfl (.free rfl) rfl (q_assign (v := .float .f64 ((Int.toNat n_2))) rfl rfl) ?_
      refine ro_nil ?_
      refine wp_ret ?_
      exact ret_ok rfl (.cons (.tmp (v := .float .f64 ((Int.toNat n_2))) rfl) .nil) ⟨(Int.toNat n_2), rfl, h⟩

-- (*moiety/wire.reader).text
def F34 (r_1 : (Option Addr)) (w : World) (R : (List UInt8) → World → Prop) (Pn : Iv → World → Prop) : Prop :=
  clp Try.prog 32 [.pointer (r_1)] (tInt .u64) w Pn fun r3 w2 =>
  if (decide (r3 > (1000 : Int))) = true then (
    Pn (Iv.mk 52 (T51.enc ((⟨(24 : Int)⟩ : S51)))) w2
  ) else (
    dr w2 fun w4 =>
    ex (NC r_1) fun a5 =>
    ex (RdAt tSlc (a5.add 0) w4) fun x6 =>
    ex (RdAt (tInt .i64) (a5.add 1) w4) fun x7 =>
    if (decide ((IntKind.u64.wrap (IntKind.i64.wrap ((x6.len : Int) - x7))) < r3)) = true then (
      Pn (Iv.mk 52 (T51.enc ((⟨(22 : Int)⟩ : S51)))) w4
    ) else (
      ex (RdAt (tInt .i64) (a5.add 1) w4) fun x8 =>
      st (tInt .i64) (a5.add 1) (IntKind.i64.wrap (x8 + (IntKind.i64.wrap r3))) w4 fun w9 =>
      dr w9 fun w10 =>
      ex (RdAt tSlc (a5.add 0) w10) fun x11 =>
      ex (RdAt (tInt .i64) (a5.add 1) w10) fun x12 =>
      ex (RdAt (tInt .i64) (a5.add 1) w10) fun x13 =>
      ex (Sub x11 1 (IntKind.i64.wrap (x12 - (IntKind.i64.wrap r3))) x13 ((x11).cap : Int)) fun s14 =>
      ex (B2S s14 w10) fun s15 =>
      R s15 w10
    )
  )
theorem F34_ok {r_1 : (Option Addr)} {w : World} {R : (List UInt8) → World → Prop} {Pn : Iv → World → Prop} (h : F34 r_1 w R Pn) : clp Try.prog 34 [.pointer (r_1)] tStr w Pn R := by
  unfold F34 at h
  refine calls_start 51 Try.func34 rfl rfl (Nat.le_of_ble_eq_true rfl) ?_
  refine wp_seq ?_
  refine wp_text [0] rfl ?_
  refine ro_val (d := (some 2)) rfl (.free rfl) rfl (q_assign (v := .string ⟨(([] : List UInt8)).toArray⟩) rfl rfl) ?_
  refine ro_nil ?_
  refine wp_seq ?_
  refine wp_text [0, 1, 2] rfl ?_
  refine ro_val (d := (some 4)) rfl (.free rfl) rfl (q_move (v := .pointer (r_1)) rfl rfl) ?_
  refine ro_wp rfl (.free rfl) (wp_clp (d := (some 5)) rfl (q_call (k := 32) (l := [.pointer (r_1)]) rfl ent32 rfl) h ?_ ?_)
  · exact fun _ _ h => pan_ok (P := Try.prog) (fn := Try.f34) h
  intro r3 w2 h
  refine ro_val (d := (some 3)) rfl (.free rfl) rfl (q_assign (v := .int .u64 (r3)) rfl rfl) ?_
  refine ro_nil ?_
  refine wp_seq ?_
  refine wp_seq ?_
  refine wp_text [0, 1] rfl ?_
  refine ro_val (d := (some 6)) rfl (.free rfl) rfl (q_move (v := .int .u64 (r3)) rfl rfl) ?_
  refine ro_val (d := (some 7)) rfl (.free rfl) rfl (q_gtr (a := r3) (b := (1000 : Int)) rfl rfl rfl) ?_
  refine ro_nil ?_
  refine wp_if (b := (decide (r3 > (1000 : Int)))) rfl h (fun hb17 h => ?_) (fun hb17 h => ?_)
  · refine wp_text [0, 1, 2] rfl ?_
    refine ro_val (d := (some 8)) rfl (.free rfl) rfl (q_build52_0 (v0 := (24 : Int)) rfl rfl) ?_
    refine ro_val (d := (some 9)) rfl (.free rfl) rfl (q_mkI (v := T51.enc ((⟨(24 : Int)⟩ : S51))) rfl Try.underlying52 rfl rfl) ?_
    refine ro_wp rfl (.free rfl) (wp_panic (v := (Iv.mk 52 (T51.enc ((⟨(24 : Int)⟩ : S51))))) rfl rfl ⟨_, _, rfl⟩ ?_)
    exact pan_ok (P := Try.prog) (fn := Try.f34) h
  · refine wp_skip ?_
    refine wp_seq ?_
    refine wp_seq ?_
    obtain ⟨w4, hw4, h⟩ := dr_open h
    refine wp_drawn 13 mixed rfl (by kernel_rfl) (by intro c a d v w h; cases d <;> exact h) hw4 (fun hD => ?_)
    refine rd_pure (i := 0) (d := (some 10)) hD (by kernel_rfl) (by kernel_rfl) rfl (.free rfl) rfl (fun _ => q_move (v := .pointer (r_1)) rfl rfl) ?_
    obtain ⟨a5, ha5, h⟩ := h
    refine rd_pure (i := 1) (d := (some 11)) hD (by kernel_rfl) (by kernel_rfl) rfl (.free rfl) rfl (fun _ => q_nilCheck (a := a5) rfl (congrArg Value.pointer ha5)) ?_
    refine rd_pure (i := 2) (d := (some 12)) hD (by kernel_rfl) (by kernel_rfl) rfl (.free rfl) rfl (fun _ => q_fieldAddr (a := a5) (off := 0) rfl Try.underlying50 rfl rfl ok25 (by decide) rfl) ?_
    refine rd_pure (i := 5) (d := (some 15)) hD (by kernel_rfl) (by kernel_rfl) rfl (.free rfl) rfl (fun _ => q_move (v := .pointer (r_1)) rfl rfl) ?_
    refine rd_pure (i := 6) (d := (some 16)) hD (by kernel_rfl) (by kernel_rfl) rfl (.free rfl) rfl (fun _ => q_nilCheck (a := a5) rfl (congrArg Value.pointer ha5)) ?_
    refine rd_pure (i := 7) (d := (some 17)) hD (by kernel_rfl) (by kernel_rfl) rfl (.free rfl) rfl (fun _ => q_fieldAddr (a := a5) (off := 1) rfl Try.underlying50 rfl rfl ok3 (by decide) rfl) ?_
    refine rd_pure (i := 11) (d := (some 21)) hD (by kernel_rfl) (by kernel_rfl) rfl (.free rfl) rfl (fun _ => q_move (v := .int .u64 (r3)) rfl rfl) ?_
    obtain ⟨x6, hx6, h⟩ := h
    refine rd_read (i := 3) (d := (some 13)) (fun W => (RdAt tSlc (a5.add 0) W) x6) hD (by kernel_rfl) (by kernel_rfl) rfl (.free rfl) rfl (fun W hr => q_load (T := tSlc) (u := x6) (a := (a5.add 0)) rfl ok25 rfl hr) hx6 ?_
    refine rd_pure (i := 4) (d := (some 14)) hD (by kernel_rfl) (by kernel_rfl) rfl (.free rfl) rfl (fun _ => q_len (s := x6) rfl Try.underlying25 rfl) ?_
    obtain ⟨x7, hx7, h⟩ := h
    refine rd_read (i := 8) (d := (some 18)) (fun W => (RdAt (tInt .i64) (a5.add 1) W) x7) hD (by kernel_rfl) (by kernel_rfl) rfl (.free rfl) rfl (fun W hr => q_load (T := (tInt .i64)) (u := x7) (a := (a5.add 1)) rfl ok3 rfl hr) hx7 ?_
    refine rd_pure (i := 9) (d := (some 19)) hD (by kernel_rfl) (by kernel_rfl) rfl (.free rfl) rfl (fun _ => q_sub (a := (x6.len : Int)) (b := x7) rfl rfl rfl) ?_
    refine rd_pure (i := 10) (d := (some 20)) hD (by kernel_rfl) (by kernel_rfl) rfl (.free rfl) rfl (fun _ => q_cvtI (a := (IntKind.i64.wrap ((x6.len : Int) - x7))) rfl Try.underlying3 Try.underlying33 rfl) ?_
    refine rd_pure (i := 12) (d := (some 22)) hD (by kernel_rfl) (by kernel_rfl) rfl (.free rfl) rfl (fun _ => q_lss (a := (IntKind.u64.wrap (IntKind.i64.wrap ((x6.len : Int) - x7)))) (b := r3) rfl rfl rfl) ?_
    refine rd_nil (by kernel_rfl) ?_
    refine wp_if (b := (decide ((IntKind.u64.wrap (IntKind.i64.wrap ((x6.len : Int) - x7))) < r3))) rfl h (fun hb16 h => ?_) (fun hb16 h => ?_)
    · refine wp_text [0, 1, 2] rfl ?_
      refine ro_val (d := (some 23)) rfl (.free rfl) rfl (q_build52_0 (v0 := (22 : Int)) rfl rfl) ?_
      refine ro_val (d := (some 24)) rfl (.free rfl) rfl (q_mkI (v := T51.enc ((⟨(22 : Int)⟩ : S51))) rfl Try.underlying52 rfl rfl) ?_
      refine ro_wp rfl (.free rfl) (wp_panic (v := (Iv.mk 52 (T51.enc ((⟨(22 : Int)⟩ : S51))))) rfl rfl ⟨_, _, rfl⟩ ?_)
      exact pan_ok (P := Try.prog) (fn := Try.f34) h
    · refine wp_skip ?_
      refine wp_seq ?_
      refine wp_text [0, 1, 2, 3, 4, 5, 6, 7, 8, 9] rfl ?_
      refine ro_val (d := (some 25)) rfl (.free rfl) rfl (q_move (v := .pointer (r_1)) rfl rfl) ?_
      refine ro_val (d := (some 26)) rfl (.free rfl) rfl (q_nilCheck (a := a5) rfl (congrArg Value.pointer ha5)) ?_
      refine ro_val (d := (some 27)) rfl (.free rfl) rfl (q_fieldAddr (a := a5) (off := 1) rfl Try.underlying50 rfl rfl ok3 (by decide) rfl) ?_
      obtain ⟨x8, hx8, h⟩ := h
      refine ro_val (d := (some 28)) rfl (.free rfl) rfl (q_load (T := (tInt .i64)) (u := x8) (a := (a5.add 1)) rfl ok3 rfl hx8) ?_
      refine ro_val (d := (some 29)) rfl (.free rfl) rfl (q_move (v := .int .u64 (r3)) rfl rfl) ?_
      refine ro_val (d := (some 30)) rfl (.free rfl) rfl (q_cvtI (a := r3) rfl Try.underlying33 Try.underlying3 rfl) ?_
      refine ro_val (d := (some 31)) rfl (.free rfl) rfl (q_add (a := x8) (b := (IntKind.i64.wrap r3)) rfl rfl rfl) ?_
      refine ro_val (d := (some 32)) rfl (.free rfl) rfl (q_nilCheck (a := a5) rfl (congrArg Value.pointer ha5)) ?_
      refine ro_val (d := (some 33)) rfl (.free rfl) rfl (q_fieldAddr (a := a5) (off := 1) rfl Try.underlying50 rfl rfl ok3 (by decide) rfl) ?_
      obtain ⟨w9, hw9, hrw9, h⟩ := st_open h
      refine ro_skip (d := none) rfl (.free rfl) rfl (q_store (T := (tInt .i64)) (u := (IntKind.i64.wrap (x8 + (IntKind.i64.wrap r3)))) (a := (a5.add 1)) rfl ok3 rfl rfl hrw9 hw9) ?_
      refine ro_nil ?_
      refine wp_seq ?_
      obtain ⟨w10, hw10, h⟩ := dr_open h
      refine wp_drawn 18 mixed rfl (by kernel_rfl) (by intro c a d v w h; cases d <;> exact h) hw10 (fun hD => ?_)
      refine rd_pure (i := 0) (d := (some 34)) hD (by kernel_rfl) (by kernel_rfl) rfl (.free rfl) rfl (fun _ => q_move (v := .pointer (r_1)) rfl rfl) ?_
      refine rd_pure (i := 1) (d := (some 35)) hD (by kernel_rfl) (by kernel_rfl) rfl (.free rfl) rfl (fun _ => q_nilCheck (a := a5) rfl (congrArg Value.pointer ha5)) ?_
      refine rd_pure (i := 2) (d := (some 36)) hD (by kernel_rfl) (by kernel_rfl) rfl (.free rfl) rfl (fun _ => q_fieldAddr (a := a5) (off := 0) rfl Try.underlying50 rfl rfl ok25 (by decide) rfl) ?_
      refine rd_pure (i := 4) (d := (some 38)) hD (by kernel_rfl) (by kernel_rfl) rfl (.free rfl) rfl (fun _ => q_move (v := .pointer (r_1)) rfl rfl) ?_
      refine rd_pure (i := 5) (d := (some 39)) hD (by kernel_rfl) (by kernel_rfl) rfl (.free rfl) rfl (fun _ => q_nilCheck (a := a5) rfl (congrArg Value.pointer ha5)) ?_
      refine rd_pure (i := 6) (d := (some 40)) hD (by kernel_rfl) (by kernel_rfl) rfl (.free rfl) rfl (fun _ => q_fieldAddr (a := a5) (off := 1) rfl Try.underlying50 rfl rfl ok3 (by decide) rfl) ?_
      refine rd_pure (i := 8) (d := (some 42)) hD (by kernel_rfl) (by kernel_rfl) rfl (.free rfl) rfl (fun _ => q_move (v := .int .u64 (r3)) rfl rfl) ?_
      refine rd_pure (i := 9) (d := (some 43)) hD (by kernel_rfl) (by kernel_rfl) rfl (.free rfl) rfl (fun _ => q_cvtI (a := r3) rfl Try.underlying33 Try.underlying3 rfl) ?_
      refine rd_pure (i := 11) (d := (some 45)) hD (by kernel_rfl) (by kernel_rfl) rfl (.free rfl) rfl (fun _ => q_move (v := .pointer (r_1)) rfl rfl) ?_
      refine rd_pure (i := 12) (d := (some 46)) hD (by kernel_rfl) (by kernel_rfl) rfl (.free rfl) rfl (fun _ => q_nilCheck (a := a5) rfl (congrArg Value.pointer ha5)) ?_
      refine rd_pure (i := 13) (d := (some 47)) hD (by kernel_rfl) (by kernel_rfl) rfl (.free rfl) rfl (fun _ => q_fieldAddr (a := a5) (off := 1) rfl Try.underlying50 rfl rfl ok3 (by decide) rfl) ?_
      obtain ⟨x11, hx11, h⟩ := h
      refine rd_read (i := 3) (d := (some 37)) (fun W => (RdAt tSlc (a5.add 0) W) x11) hD (by kernel_rfl) (by kernel_rfl) rfl (.free rfl) rfl (fun W hr => q_load (T := tSlc) (u := x11) (a := (a5.add 0)) rfl ok25 rfl hr) hx11 ?_
      obtain ⟨x12, hx12, h⟩ := h
      refine rd_read (i := 7) (d := (some 41)) (fun W => (RdAt (tInt .i64) (a5.add 1) W) x12) hD (by kernel_rfl) (by kernel_rfl) rfl (.free rfl) rfl (fun W hr => q_load (T := (tInt .i64)) (u := x12) (a := (a5.add 1)) rfl ok3 rfl hr) hx12 ?_
      refine rd_pure (i := 10) (d := (some 44)) hD (by kernel_rfl) (by kernel_rfl) rfl (.free rfl) rfl (fun _ => q_sub (a := x12) (b := (IntKind.i64.wrap r3)) rfl rfl rfl) ?_
      obtain ⟨x13, hx13, h⟩ := h
      refine rd_read (i := 14) (d := (some 48)) (fun W => (RdAt (tInt .i64) (a5.add 1) W) x13) hD (by kernel_rfl) (by kernel_rfl) rfl (.free rfl) rfl (fun W hr => q_load (T := (tInt .i64)) (u := x13) (a := (a5.add 1)) rfl ok3 rfl hr) hx13 ?_
      obtain ⟨s14, hs14, h⟩ := h
      refine rd_pure (i := 15) (d := (some 49)) hD (by kernel_rfl) (by kernel_rfl) rfl (.free rfl) rfl (fun _ => q_sliceLH (s := x11) (l := (IntKind.i64.wrap (x12 - (IntKind.i64.wrap r3)))) (h := x13) rfl Try.underlying25 ok5 rfl rfl rfl hs14) ?_
      obtain ⟨s15, hs15, h⟩ := h
      refine rd_read (i := 16) (d := (some 50)) (fun W => (B2S s14 W) s15) hD (by kernel_rfl) (by kernel_rfl) rfl (.free rfl) rfl (fun W hr => q_b2s (b := s14) (r := s15) rfl Try.underlying25 Try.underlying5 Try.underlying9 rfl hr) hs15 ?_
      refine rd_pure (i := 17) (d := (some 2)) hD (by kernel_rfl) (by kernel_rfl) rfl (.free rfl) rfl (fun _ => q_assign (v := .string ⟨(s15).toArray⟩) rfl rfl) ?_
      refine rd_nil (by kernel_rfl) ?_
      refine wp_ret ?_
      exact ret_ok rfl (.cons (.tmp (v := .string ⟨(s15).toArray⟩) rfl) .nil) ⟨s15, rfl, h⟩

-- moiety/moietyref01.None
def F35 (f_1 : Nat) (w : World) (R : Bool → World → Prop) : Prop :=
  ex (Shift (1 : Int) (IntKind.u64.wrap ((f_1 : Int) * 2 ^ (min ((1 : Int)).toNat IntKind.u64.bits)))) fun d2 =>
  R (decide (d2 > (18437736874454810624 : Int))) w
theorem F35_ok {f_1 : Nat} {w : World} {R : Bool → World → Prop} (h : F35 f_1 w R) : cl Try.prog 35 [.float .f64 (f_1)] tBool w R := by
  unfold F35 at h
  refine calls_start 9 Try.func35 rfl rfl (Nat.le_of_ble_eq_true rfl) ?_
  refine wp_seq ?_
  refine wp_text [0] rfl ?_
  refine ro_val (d := (some 2)) rfl (.free rfl) rfl (q_assign (v := .bool (false)) rfl rfl) ?_
  refine ro_nil ?_
  refine wp_seq ?_
  refine wp_text [0, 1, 2, 3] rfl ?_
  refine ro_val (d := (some 4)) rfl (.free rfl) rfl (q_move (v := .float .f64 (f_1)) rfl rfl) ?_
  refine ro_val (d := (some 5)) rfl (.free rfl) rfl (q_f64bits (b := f_1) rfl ext23 rfl) ?_
  obtain ⟨d2, hd2, h⟩ := h
  refine ro_val (d := (some 6)) rfl (.free rfl) rfl (q_shl (a := (f_1 : Int)) (b := (1 : Int)) (r := d2) rfl rfl rfl hd2) ?_
  refine ro_val (d := (some 3)) rfl (.free rfl) rfl (q_assign (v := .int .u64 (d2)) rfl rfl) ?_
  refine ro_nil ?_
  refine wp_seq ?_
  refine wp_text [0, 1, 2] rfl ?_
  refine ro_val (d := (some 7)) rfl (.free rfl) rfl (q_move (v := .int .u64 (d2)) rfl rfl) ?_
  refine ro_val (d := (some 8)) rfl (.free rfl) rfl (q_gtr (a := d2) (b := (18437736874454810624 : Int)) rfl rfl rfl) ?_
  refine ro_val (d := (some 2)) rfl (.free rfl) rfl (q_assign (v := .bool ((decide (d2 > (18437736874454810624 : Int))))) rfl rfl) ?_
  refine ro_nil ?_
  refine wp_ret ?_
  exact ret_ok rfl (.cons (.tmp (v := .bool ((decide (d2 > (18437736874454810624 : Int))))) rfl) .nil) ⟨(decide (d2 > (18437736874454810624 : Int))), rfl, h⟩

end Go.Proofs.Ytjhenlajkhckfaa.Cf
