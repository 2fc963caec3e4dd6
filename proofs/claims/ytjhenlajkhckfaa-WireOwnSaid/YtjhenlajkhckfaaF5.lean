/- Characteristic formulae of Go functions, and that they are. Printed by gen.py (own tool). -/
import Derived.Test.YtjhenlajkhckfaaTy
namespace Go.Proofs.Ytjhenlajkhckfaa.Cf
open Go
set_option maxRecDepth 100000
set_option maxHeartbeats 1000000
set_option linter.unusedVariables false
set_option linter.unusedSimpArgs false

-- moiety/wire.put
def F20_l1 (r22 : Int) (b_23 : Slc) (i_24 : Int) (w25 : World) (K26 : Slc × Int → World → Prop) (R : Slc → World → Prop) : Prop :=
  if (decide (i_24 ≥ (0 : Int))) = true then (
    ex (Shift (IntKind.u64.wrap i_24) (Int.fdiv r22 (2 ^ (min ((IntKind.u64.wrap i_24)).toNat IntKind.u64.bits)))) fun d27 =>
    apl 5 (tInt .u8) 1 1 b_23 [(IntKind.u8.wrap d27)] w25 fun r31 w30 =>
    K26 (r31, (IntKind.i64.wrap (i_24 - (8 : Int)))) w30
  ) else (
    R b_23 w25
  )
def F20 (b_1 : Slc) (v_2 : S35) (w : World) (R : Slc → World → Prop) : Prop :=
  nw 36 T35 v_2 w fun a3 w4 =>
  ex (RdAt (tInt .i64) (a3.add 0) w4) fun x5 =>
  apl 5 (tInt .u8) 1 1 b_1 [(IntKind.u8.wrap x5)] w4 fun r9 w8 =>
  ex (RdAt (tInt .i64) (a3.add 0) w8) fun x10 =>
  if (x10 == (1 : Int)) = true then (
    ex (RdAt (tInt .u64) (a3.add 1) w8) fun x11 =>
    cl Try.prog 27 [tSlc.enc (r9), .int .u64 (x11)] tSlc w8 fun r13 w12 =>
    R r13 w12
  ) else (
    if (x10 == (2 : Int)) = true then (
      ex (RdAt (tInt .i64) (a3.add 2) w8) fun x14 =>
      ex (Shift (1 : Int) (IntKind.u64.wrap ((IntKind.u64.wrap x14) * 2 ^ (min ((1 : Int)).toNat IntKind.u64.bits)))) fun d15 =>
      ex (RdAt (tInt .i64) (a3.add 2) w8) fun x16 =>
      ex (Shift (63 : Int) (Int.fdiv x16 (2 ^ (min ((63 : Int)).toNat IntKind.i64.bits)))) fun d17 =>
      cl Try.prog 27 [tSlc.enc (r9), .int .u64 ((bits .xor .u64 d15 (IntKind.u64.wrap d17)))] tSlc w8 fun r19 w18 =>
      R r19 w18
    ) else (
      if (x10 == (3 : Int)) = true then (
        ex (RdAt tFlt (a3.add 3) w8) fun x20 =>
        cl Try.prog 28 [.float .f64 (x20)] (tInt .u64) w8 fun r22 w21 =>
        lp (fun (s : Slc × Int) w K => F20_l1 r22 s.1 s.2 w K R) (r9, (56 : Int)) w21
      ) else (
        dr w8 fun w33 =>
        ex (RdAt tStr (a3.add 4) w33) fun x34 =>
        ex (RdAt tStr (a3.add 4) w33) fun x35 =>
        cl Try.prog 27 [tSlc.enc (r9), .int .u64 ((IntKind.u64.wrap (x34.length : Int)))] tSlc w33 fun r37 w36 =>
        kp ((RdAt tStr (a3.add 4) w36) x34) <|
        kp ((RdAt tStr (a3.add 4) w36) x35) <|
        apS 5 r37 x35 w36 fun r41 w40 =>
        kp ((RdAt tStr (a3.add 4) w40) x34) <|
        R r41 w40
      )
    )
  )
theorem F20_ok {b_1 : Slc} {v_2 : S35} {w : World} {R : Slc → World → Prop} (h : F20 b_1 v_2 w R) : cl Try.prog 20 [tSlc.enc (b_1), T35.enc (v_2)] tSlc w R := by
  unfold F20 at h
  refine calls_start 61 Try.func20 rfl rfl (Nat.le_of_ble_eq_true rfl) ?_
  refine wp_seq ?_
  refine wp_text [0, 1] rfl ?_
  obtain ⟨a3, w4, ha3, hw4, h⟩ := nw_open h
  refine ro_val (d := (some 3)) rfl (.free rfl) rfl (q_box (u := v_2) rfl ok36 rfl ha3 hw4) ?_
  refine ro_val (d := (some 4)) rfl (.free rfl) rfl (q_assign (v := tSlc.enc ((⟨none, 0, 0⟩ : Slc))) rfl rfl) ?_
  refine ro_nil ?_
  refine wp_seq ?_
  refine wp_text [0, 1, 2, 3, 4, 5, 6] rfl ?_
  refine ro_val (d := (some 7)) rfl (.free rfl) rfl (q_move (v := tSlc.enc (b_1)) rfl rfl) ?_
  refine ro_val (d := (some 8)) rfl (.free rfl) rfl (q_fieldAddr (a := a3) (off := 0) rfl Try.underlying36 rfl rfl ok32 (by decide) rfl) ?_
  obtain ⟨x5, hx5, h⟩ := h
  refine ro_val (d := (some 9)) rfl (.free rfl) rfl (q_load (T := (tInt .i64)) (u := x5) (a := (a3.add 0)) rfl ok32 rfl hx5) ?_
  refine ro_val (d := (some 10)) rfl (.free rfl) rfl (q_cvtI (a := x5) rfl Try.underlying32 Try.underlying5 rfl) ?_
  obtain ⟨a6, w7, ha6, hw7, h⟩ := apl_open h
  refine ro_val (d := (some 11)) rfl (.free rfl) rfl (q_rowOf (T := (tInt .u8)) (xs := [(IntKind.u8.wrap x5)]) rfl Try.underlying25 ok5 inf5 rfl (by decide) (by decide) rfl ha6 hw7) ?_
  refine ro_wp rfl (.free rfl) (wp_append (d := (some 12)) (T := (tInt .u8)) rfl rfl Try.underlying25 ⟨_, Try.underlying25⟩ ok5 inf5 rfl rfl (Nat.lt_of_lt_of_le Nat.zero_lt_one (Nat.le_of_ble_eq_true rfl)) rfl rfl h ?_)
  intro r9 w8 h
  refine ro_val (d := (some 0)) rfl (.free rfl) rfl (q_assign (v := tSlc.enc (r9)) rfl rfl) ?_
  refine ro_nil ?_
  refine wp_seq ?_
  refine wp_seq ?_
  refine wp_text [0, 1] rfl ?_
  refine ro_val (d := (some 13)) rfl (.free rfl) rfl (q_fieldAddr (a := a3) (off := 0) rfl Try.underlying36 rfl rfl ok32 (by decide) rfl) ?_
  obtain ⟨x10, hx10, h⟩ := h
  refine ro_val (d := (some 14)) rfl (.free rfl) rfl (q_load (T := (tInt .i64)) (u := x10) (a := (a3.add 0)) rfl ok32 rfl hx10) ?_
  refine ro_nil ?_
  refine wp_block ?_
  refine wp_seq ?_
  refine wp_text [0, 1] rfl ?_
  refine ro_val (d := (some 16)) rfl (.free rfl) rfl (q_eql (a := x10) (b := (1 : Int)) rfl rfl rfl) ?_
  refine ro_val (d := (some 15)) rfl (.free rfl) rfl (q_assign (v := .bool ((x10 == (1 : Int)))) rfl rfl) ?_
  refine ro_nil ?_
  refine wp_if (b := (x10 == (1 : Int))) rfl h (fun hb45 h => ?_) (fun hb45 h => ?_)
  · refine wp_seq ?_
    refine wp_text [0, 1, 2, 3, 4] rfl ?_
    refine ro_val (d := (some 17)) rfl (.free rfl) rfl (q_move (v := tSlc.enc (r9)) rfl rfl) ?_
    refine ro_val (d := (some 18)) rfl (.free rfl) rfl (q_fieldAddr (a := a3) (off := 1) rfl Try.underlying36 rfl rfl ok33 (by decide) rfl) ?_
    obtain ⟨x11, hx11, h⟩ := h
    refine ro_val (d := (some 19)) rfl (.free rfl) rfl (q_load (T := (tInt .u64)) (u := x11) (a := (a3.add 1)) rfl ok33 rfl hx11) ?_
    refine ro_wp rfl (.free rfl) (wp_cl (d := (some 20)) rfl (q_call (k := 27) (l := [tSlc.enc (r9), .int .u64 (x11)]) rfl ent27 rfl) h ?_)
    intro r13 w12 h
    refine ro_val (d := (some 4)) rfl (.free rfl) rfl (q_assign (v := tSlc.enc (r13)) rfl rfl) ?_
    refine ro_nil ?_
    refine wp_ret ?_
    exact ret_ok rfl (.cons (.tmp (v := tSlc.enc (r13)) rfl) .nil) ⟨r13, rfl, h⟩
  · refine wp_seq ?_
    refine wp_text [0, 1] rfl ?_
    refine ro_val (d := (some 22)) rfl (.free rfl) rfl (q_eql (a := x10) (b := (2 : Int)) rfl rfl rfl) ?_
    refine ro_val (d := (some 21)) rfl (.free rfl) rfl (q_assign (v := .bool ((x10 == (2 : Int)))) rfl rfl) ?_
    refine ro_nil ?_
    refine wp_if (b := (x10 == (2 : Int))) rfl h (fun hb44 h => ?_) (fun hb44 h => ?_)
    · refine wp_seq ?_
      refine wp_text [0, 1, 2, 3, 4, 5, 6, 7, 8, 9, 10, 11] rfl ?_
      refine ro_val (d := (some 23)) rfl (.free rfl) rfl (q_move (v := tSlc.enc (r9)) rfl rfl) ?_
      refine ro_val (d := (some 24)) rfl (.free rfl) rfl (q_fieldAddr (a := a3) (off := 2) rfl Try.underlying36 rfl rfl ok2 (by decide) rfl) ?_
      obtain ⟨x14, hx14, h⟩ := h
      refine ro_val (d := (some 25)) rfl (.free rfl) rfl (q_load (T := (tInt .i64)) (u := x14) (a := (a3.add 2)) rfl ok2 rfl hx14) ?_
      refine ro_val (d := (some 26)) rfl (.free rfl) rfl (q_cvtI (a := x14) rfl Try.underlying2 Try.underlying33 rfl) ?_
      obtain ⟨d15, hd15, h⟩ := h
      refine ro_val (d := (some 27)) rfl (.free rfl) rfl (q_shl (a := (IntKind.u64.wrap x14)) (b := (1 : Int)) (r := d15) rfl rfl rfl hd15) ?_
      refine ro_val (d := (some 28)) rfl (.free rfl) rfl (q_fieldAddr (a := a3) (off := 2) rfl Try.underlying36 rfl rfl ok2 (by decide) rfl) ?_
      obtain ⟨x16, hx16, h⟩ := h
      refine ro_val (d := (some 29)) rfl (.free rfl) rfl (q_load (T := (tInt .i64)) (u := x16) (a := (a3.add 2)) rfl ok2 rfl hx16) ?_
      obtain ⟨d17, hd17, h⟩ := h
      refine ro_val (d := (some 30)) rfl (.free rfl) rfl (q_shr (a := x16) (b := (63 : Int)) (r := d17) rfl rfl rfl hd17) ?_
      refine ro_val (d := (some 31)) rfl (.free rfl) rfl (q_cvtI (a := d17) rfl Try.underlying2 Try.underlying33 rfl) ?_
      refine ro_val (d := (some 32)) rfl (.free rfl) rfl (q_xor (a := d15) (b := (IntKind.u64.wrap d17)) rfl rfl rfl) ?_
      refine ro_wp rfl (.free rfl) (wp_cl (d := (some 33)) rfl (q_call (k := 27) (l := [tSlc.enc (r9), .int .u64 ((bits .xor .u64 d15 (IntKind.u64.wrap d17)))]) rfl ent27 rfl) h ?_)
      intro r19 w18 h
      refine ro_val (d := (some 4)) rfl (.free rfl) rfl (q_assign (v := tSlc.enc (r19)) rfl rfl) ?_
      refine ro_nil ?_
      refine wp_ret ?_
      exact ret_ok rfl (.cons (.tmp (v := tSlc.enc (r19)) rfl) .nil) ⟨r19, rfl, h⟩
    · refine wp_seq ?_
      refine wp_text [0, 1] rfl ?_
      refine ro_val (d := (some 35)) rfl (.free rfl) rfl (q_eql (a := x10) (b := (3 : Int)) rfl rfl rfl) ?_
      refine ro_val (d := (some 34)) rfl (.free rfl) rfl (q_assign (v := .bool ((x10 == (3 : Int)))) rfl rfl) ?_
      refine ro_nil ?_
      refine wp_if (b := (x10 == (3 : Int))) rfl h (fun hb43 h => ?_) (fun hb43 h => ?_)
      · refine wp_seq ?_
        refine wp_text [0, 1, 2, 3] rfl ?_
        refine ro_val (d := (some 36)) rfl (.free rfl) rfl (q_fieldAddr (a := a3) (off := 3) rfl Try.underlying36 rfl rfl ok34 (by decide) rfl) ?_
        obtain ⟨x20, hx20, h⟩ := h
        refine ro_val (d := (some 37)) rfl (.free rfl) rfl (q_load (T := tFlt) (u := x20) (a := (a3.add 3)) rfl ok34 rfl hx20) ?_
        refine ro_wp rfl (.free rfl) (wp_cl (d := (some 38)) rfl (q_call (k := 28) (l := [.float .f64 (x20)]) rfl ent28 rfl) h ?_)
        intro r22 w21 h
        refine ro_val (d := (some 5)) rfl (.free rfl) rfl (q_assign (v := .int .u64 (r22)) rfl rfl) ?_
        refine ro_nil ?_
        refine wp_seq ?_
        refine wp_seq ?_
        refine wp_text [0] rfl ?_
        refine ro_val (d := (some 6)) rfl (.free rfl) rfl (q_assign (v := .int .i64 ((56 : Int))) rfl rfl) ?_
        refine ro_nil ?_
        refine wp_block ?_
        refine loop_at (σ := Slc × Int) (fr := fun g (s : Slc × Int) => upd (upd (upd (g) 5 (.int .u64 (r22))) 0 (tSlc.enc (s.1))) 6 (.int .i64 (s.2))) (s0 := (r9, (56 : Int))) (upd_step (upd_step (upd_step rfl rfl) rfl) rfl) h ?_
        rintro ⟨b_23, i_24⟩ g w25 K26 h
        unfold F20_l1 at h
        refine wp_seq ?_
        refine wp_seq ?_
        refine wp_text [0, 1] rfl ?_
        refine ro_val (d := (some 39)) rfl (.free rfl) rfl (q_move (v := .int .i64 (i_24)) rfl rfl) ?_
        refine ro_val (d := (some 40)) rfl (.free rfl) rfl (q_geq (a := i_24) (b := (0 : Int)) rfl rfl rfl) ?_
        refine ro_nil ?_
        refine wp_if (b := (decide (i_24 ≥ (0 : Int)))) rfl h (fun hb32 h => ?_) (fun hb32 h => ?_)
        · refine wp_skip ?_
          refine wp_seq ?_
          refine wp_block ?_
          refine wp_text [0, 1, 2, 3, 4, 5, 6, 7, 8] rfl ?_
          refine ro_val (d := (some 43)) rfl (.free rfl) rfl (q_move (v := tSlc.enc (b_23)) rfl rfl) ?_
          refine ro_val (d := (some 44)) rfl (.free rfl) rfl (q_move (v := .int .u64 (r22)) rfl rfl) ?_
          refine ro_val (d := (some 45)) rfl (.free rfl) rfl (q_move (v := .int .i64 (i_24)) rfl rfl) ?_
          refine ro_val (d := (some 46)) rfl (.free rfl) rfl (q_cvtI (a := i_24) rfl Try.underlying3 Try.underlying56 rfl) ?_
          obtain ⟨d27, hd27, h⟩ := h
          refine ro_val (d := (some 47)) rfl (.free rfl) rfl (q_shr (a := r22) (b := (IntKind.u64.wrap i_24)) (r := d27) rfl rfl rfl hd27) ?_
          refine ro_val (d := (some 48)) rfl (.free rfl) rfl (q_cvtI (a := d27) rfl Try.underlying33 Try.underlying5 rfl) ?_
          obtain ⟨a28, w29, ha28, hw29, h⟩ := apl_open h
          refine ro_val (d := (some 49)) rfl (.free rfl) rfl (q_rowOf (T := (tInt .u8)) (xs := [(IntKind.u8.wrap d27)]) rfl Try.underlying25 ok5 inf5 rfl (by decide) (by decide) rfl ha28 hw29) ?_
          refine ro_wp rfl (.free rfl) (wp_append (d := (some 50)) (T := (tInt .u8)) rfl rfl Try.underlying25 ⟨_, Try.underlying25⟩ ok5 inf5 rfl rfl (Nat.lt_of_lt_of_le Nat.zero_lt_one (Nat.le_of_ble_eq_true rfl)) rfl rfl h ?_)
          intro r31 w30 h
          refine ro_val (d := (some 0)) rfl (.free rfl) rfl (q_assign (v := tSlc.enc (r31)) rfl rfl) ?_
          refine ro_nil ?_
          refine wp_text [0, 1, 2] rfl ?_
          refine ro_val (d := (some 41)) rfl (.free rfl) rfl (q_move (v := .int .i64 (i_24)) rfl rfl) ?_
          refine ro_val (d := (some 42)) rfl (.free rfl) rfl (q_sub (a := i_24) (b := (8 : Int)) rfl rfl rfl) ?_
          refine ro_val (d := (some 6)) rfl (.free rfl) rfl (q_assign (v := .int .i64 ((IntKind.i64.wrap (i_24 - (8 : Int))))) rfl rfl) ?_
          refine ro_nil ?_
          exact ⟨(r31, (IntKind.i64.wrap (i_24 - (8 : Int)))), _, arr (upd_step (upd_step (upd_step rfl rfl) rfl) rfl), h⟩
        · refine wp_exit ?_
          refine wp_seq ?_
          refine wp_text [0, 1] rfl ?_
          refine ro_val (d := (some 51)) rfl (.free rfl) rfl (q_move (v := tSlc.enc (b_23)) rfl rfl) ?_
          refine ro_val (d := (some 4)) rfl (.free rfl) rfl (q_assign (v := tSlc.enc (b_23)) rfl rfl) ?_
          refine ro_nil ?_
          refine wp_ret ?_
          exact ret_ok rfl (.cons (.tmp (v := tSlc.enc (b_23)) rfl) .nil) ⟨b_23, rfl, h⟩
      · refine wp_skip ?_
        refine wp_seq ?_
        obtain ⟨w33, hw33, h⟩ := dr_open h
        refine wp_drawn 10 mixed rfl (by kernel_rfl) (by intro c a d v w h; cases d <;> exact h) hw33 (fun hD => ?_)
        refine rd_pure (i := 0) (d := (some 52)) hD (by kernel_rfl) (by kernel_rfl) rfl (.free rfl) rfl (fun _ => q_move (v := tSlc.enc (r9)) rfl rfl) ?_
        refine rd_pure (i := 1) (d := (some 53)) hD (by kernel_rfl) (by kernel_rfl) rfl (.free rfl) rfl (fun _ => q_fieldAddr (a := a3) (off := 4) rfl Try.underlying36 rfl rfl ok9 (by decide) rfl) ?_
        refine rd_pure (i := 6) (d := (some 58)) hD (by kernel_rfl) (by kernel_rfl) rfl (.free rfl) rfl (fun _ => q_fieldAddr (a := a3) (off := 4) rfl Try.underlying36 rfl rfl ok9 (by decide) rfl) ?_
        obtain ⟨x34, hx34, h⟩ := h
        refine rd_read (i := 2) (d := (some 54)) (fun W => (RdAt tStr (a3.add 4) W) x34) hD (by kernel_rfl) (by kernel_rfl) rfl (.free rfl) rfl (fun W hr => q_load (T := tStr) (u := x34) (a := (a3.add 4)) rfl ok9 rfl hr) hx34 ?_
        refine rd_pure (i := 3) (d := (some 55)) hD (by kernel_rfl) (by kernel_rfl) rfl (.free rfl) rfl (fun _ => q_lenS (s := x34) rfl Try.underlying9 rfl) ?_
        refine rd_pure (i := 4) (d := (some 56)) hD (by kernel_rfl) (by kernel_rfl) rfl (.free rfl) rfl (fun _ => q_cvtI (a := (x34.length : Int)) rfl Try.underlying3 Try.underlying33 rfl) ?_
        obtain ⟨x35, hx35, h⟩ := h
        refine rd_read (i := 7) (d := (some 59)) (fun W => (RdAt tStr (a3.add 4) W) x35) hD (by kernel_rfl) (by kernel_rfl) rfl (.free rfl) rfl (fun W hr => q_load (T := tStr) (u := x35) (a := (a3.add 4)) rfl ok9 rfl hr) hx35 ?_
        refine rd_one (i := 5) (by kernel_rfl) ?_
        refine po_wp rfl (.free rfl) (wp_cl (d := (some 57)) rfl (q_call (k := 27) (l := [tSlc.enc (r9), .int .u64 ((IntKind.u64.wrap (x34.length : Int)))]) rfl ent27 rfl) h ?_)
        intro r37 w36 h
        obtain ⟨hk38, h⟩ := h
        obtain ⟨hk39, h⟩ := h
        refine ⟨(hk_keep (fun _ => hk39) (hk_keep (fun _ => hk38) hk_nil)), ?_⟩
        refine rd_one (i := 8) (by kernel_rfl) ?_
        refine po_wp rfl (.free rfl) (wp_appendS (d := (some 60)) rfl rfl Try.underlying25 Try.underlying9 ok5 inf5 rfl rfl h ?_)
        intro r41 w40 h
        obtain ⟨hk42, h⟩ := h
        refine ⟨(hk_wait (by kernel_rfl) (hk_keep (fun _ => hk42) hk_nil)), ?_⟩
        refine rd_pure (i := 9) (d := (some 4)) hD (by kernel_rfl) (by kernel_rfl) rfl (.free rfl) rfl (fun _ => q_assign (v := tSlc.enc (r41)) rfl rfl) ?_
        refine rd_nil (by kernel_rfl) ?_
        refine wp_ret ?_
        exact ret_ok rfl (.cons (.tmp (v := tSlc.enc (r41)) rfl) .nil) ⟨r41, rfl, h⟩

-- moiety/moietyref02.One
def F21 (v_1 : S35) (w : World) (R : (List UInt8) → World → Prop) : Prop :=
  nw 36 T35 v_1 w fun a2 w3 =>
  ex (RdAt (tInt .i64) (a2.add 0) w3) fun x4 =>
  nwS 5 (tInt .u8) [(IntKind.u8.wrap x4)] w3 fun a5 w6 =>
  ex (B2S (⟨some a5, 1, 1⟩ : Slc) w6) fun s7 =>
  ex (RdAt (tInt .i64) (a2.add 0) w6) fun x8 =>
  if (x8 == (1 : Int)) = true then (
    ex (RdAt (tInt .u64) (a2.add 1) w6) fun x9 =>
    cl Try.prog 29 [.int .u64 (x9)] tStr w6 fun r11 w10 =>
    ex (CatS s7 r11) fun s12 =>
    R s12 w10
  ) else (
    if (x8 == (2 : Int)) = true then (
      ex (RdAt (tInt .i64) (a2.add 2) w6) fun x13 =>
      if (decide (x13 < (0 : Int))) = true then (
        ex (RdAt (tInt .i64) (a2.add 2) w6) fun x14 =>
        cl Try.prog 29 [.int .u64 ((IntKind.u64.wrap ((IntKind.u64.wrap ((2 : Int) * (IntKind.u64.wrap (IntKind.i64.wrap (0 - (IntKind.i64.wrap (x14 + (1 : Int)))))))) + (1 : Int))))] tStr w6 fun r16 w15 =>
        ex (CatS s7 r16) fun s17 =>
        R s17 w15
      ) else (
        ex (RdAt (tInt .i64) (a2.add 2) w6) fun x18 =>
        cl Try.prog 29 [.int .u64 ((IntKind.u64.wrap ((2 : Int) * (IntKind.u64.wrap x18))))] tStr w6 fun r20 w19 =>
        ex (CatS s7 r20) fun s21 =>
        R s21 w19
      )
    ) else (
      if (x8 == (3 : Int)) = true then (
        ex (RdAt tFlt (a2.add 3) w6) fun x23 =>
        cl Try.prog 26 [.float .f64 (x23)] (tInt .u64) w6 fun r25 w24 =>
        cl Try.prog 30 [.int .u64 (r25)] tStr w24 fun r27 w26 =>
        ex (CatS s7 r27) fun s28 =>
        R s28 w26
      ) else (
        dr w6 fun w29 =>
        ex (RdAt tStr (a2.add 4) w29) fun x30 =>
        ex (RdAt tStr (a2.add 4) w29) fun x31 =>
        cl Try.prog 29 [.int .u64 ((IntKind.u64.wrap (x30.length : Int)))] tStr w29 fun r33 w32 =>
        kp ((RdAt tStr (a2.add 4) w32) x30) <|
        kp ((RdAt tStr (a2.add 4) w32) x31) <|
        ex (CatS s7 r33) fun s36 =>
        ex (CatS s36 x31) fun s37 =>
        R s37 w32
      )
    )
  )
theorem F21_ok {v_1 : S35} {w : World} {R : (List UInt8) → World → Prop} (h : F21 v_1 w R) : cl Try.prog 21 [T35.enc (v_1)] tStr w R := by
  unfold F21 at h
  refine calls_start 58 Try.func21 rfl rfl (Nat.le_of_ble_eq_true rfl) ?_
  refine wp_seq ?_
  refine wp_text [0, 1] rfl ?_
  obtain ⟨a2, w3, ha2, hw3, h⟩ := nw_open h
  refine ro_val (d := (some 1)) rfl (.free rfl) rfl (q_box (u := v_1) rfl ok36 rfl ha2 hw3) ?_
  refine ro_val (d := (some 2)) rfl (.free rfl) rfl (q_assign (v := .string ⟨(([] : List UInt8)).toArray⟩) rfl rfl) ?_
  refine ro_nil ?_
  refine wp_seq ?_
  refine wp_text [0, 1, 2, 3, 4, 5] rfl ?_
  refine ro_val (d := (some 4)) rfl (.free rfl) rfl (q_fieldAddr (a := a2) (off := 0) rfl Try.underlying36 rfl rfl ok32 (by decide) rfl) ?_
  obtain ⟨x4, hx4, h⟩ := h
  refine ro_val (d := (some 5)) rfl (.free rfl) rfl (q_load (T := (tInt .i64)) (u := x4) (a := (a2.add 0)) rfl ok32 rfl hx4) ?_
  refine ro_val (d := (some 6)) rfl (.free rfl) rfl (q_cvtI (a := x4) rfl Try.underlying32 Try.underlying5 rfl) ?_
  obtain ⟨a5, w6, ha5, hw6, h⟩ := nwS_open h
  refine ro_val (d := (some 7)) rfl (.free rfl) rfl (q_rowOf (T := (tInt .u8)) (xs := [(IntKind.u8.wrap x4)]) rfl Try.underlying25 ok5 inf5 rfl (by decide) (by decide) rfl ha5 hw6) ?_
  obtain ⟨s7, hs7, h⟩ := h
  refine ro_val (d := (some 8)) rfl (.free rfl) rfl (q_b2s (b := (⟨some a5, 1, 1⟩ : Slc)) (r := s7) rfl Try.underlying25 Try.underlying5 Try.underlying9 rfl hs7) ?_
  refine ro_val (d := (some 3)) rfl (.free rfl) rfl (q_assign (v := .string ⟨(s7).toArray⟩) rfl rfl) ?_
  refine ro_nil ?_
  refine wp_seq ?_
  refine wp_seq ?_
  refine wp_text [0, 1] rfl ?_
  refine ro_val (d := (some 9)) rfl (.free rfl) rfl (q_fieldAddr (a := a2) (off := 0) rfl Try.underlying36 rfl rfl ok32 (by decide) rfl) ?_
  obtain ⟨x8, hx8, h⟩ := h
  refine ro_val (d := (some 10)) rfl (.free rfl) rfl (q_load (T := (tInt .i64)) (u := x8) (a := (a2.add 0)) rfl ok32 rfl hx8) ?_
  refine ro_nil ?_
  refine wp_block ?_
  refine wp_seq ?_
  refine wp_text [0, 1] rfl ?_
  refine ro_val (d := (some 12)) rfl (.free rfl) rfl (q_eql (a := x8) (b := (1 : Int)) rfl rfl rfl) ?_
  refine ro_val (d := (some 11)) rfl (.free rfl) rfl (q_assign (v := .bool ((x8 == (1 : Int)))) rfl rfl) ?_
  refine ro_nil ?_
  refine wp_if (b := (x8 == (1 : Int))) rfl h (fun hb40 h => ?_) (fun hb40 h => ?_)
  · refine wp_seq ?_
    refine wp_text [0, 1, 2, 3, 4, 5] rfl ?_
    refine ro_val (d := (some 13)) rfl (.free rfl) rfl (q_move (v := .string ⟨(s7).toArray⟩) rfl rfl) ?_
    refine ro_val (d := (some 14)) rfl (.free rfl) rfl (q_fieldAddr (a := a2) (off := 1) rfl Try.underlying36 rfl rfl ok33 (by decide) rfl) ?_
    obtain ⟨x9, hx9, h⟩ := h
    refine ro_val (d := (some 15)) rfl (.free rfl) rfl (q_load (T := (tInt .u64)) (u := x9) (a := (a2.add 1)) rfl ok33 rfl hx9) ?_
    refine ro_wp rfl (.free rfl) (wp_cl (d := (some 16)) rfl (q_call (k := 29) (l := [.int .u64 (x9)]) rfl ent29 rfl) h ?_)
    intro r11 w10 h
    obtain ⟨s12, hs12, h⟩ := h
    refine ro_val (d := (some 17)) rfl (.free rfl) rfl (q_catS (a := s7) (b := r11) (r := s12) rfl rfl rfl hs12) ?_
    refine ro_val (d := (some 2)) rfl (.free rfl) rfl (q_assign (v := .string ⟨(s12).toArray⟩) rfl rfl) ?_
    refine ro_nil ?_
    refine wp_ret ?_
    exact ret_ok rfl (.cons (.tmp (v := .string ⟨(s12).toArray⟩) rfl) .nil) ⟨s12, rfl, h⟩
  · refine wp_seq ?_
    refine wp_text [0, 1] rfl ?_
    refine ro_val (d := (some 19)) rfl (.free rfl) rfl (q_eql (a := x8) (b := (2 : Int)) rfl rfl rfl) ?_
    refine ro_val (d := (some 18)) rfl (.free rfl) rfl (q_assign (v := .bool ((x8 == (2 : Int)))) rfl rfl) ?_
    refine ro_nil ?_
    refine wp_if (b := (x8 == (2 : Int))) rfl h (fun hb39 h => ?_) (fun hb39 h => ?_)
    · refine wp_seq ?_
      refine wp_seq ?_
      refine wp_text [0, 1, 2] rfl ?_
      refine ro_val (d := (some 20)) rfl (.free rfl) rfl (q_fieldAddr (a := a2) (off := 2) rfl Try.underlying36 rfl rfl ok2 (by decide) rfl) ?_
      obtain ⟨x13, hx13, h⟩ := h
      refine ro_val (d := (some 21)) rfl (.free rfl) rfl (q_load (T := (tInt .i64)) (u := x13) (a := (a2.add 2)) rfl ok2 rfl hx13) ?_
      refine ro_val (d := (some 22)) rfl (.free rfl) rfl (q_lss (a := x13) (b := (0 : Int)) rfl rfl rfl) ?_
      refine ro_nil ?_
      refine wp_if (b := (decide (x13 < (0 : Int)))) rfl h (fun hb22 h => ?_) (fun hb22 h => ?_)
      · refine wp_seq ?_
        refine wp_text [0, 1, 2, 3, 4, 5, 6, 7, 8, 9, 10] rfl ?_
        refine ro_val (d := (some 23)) rfl (.free rfl) rfl (q_move (v := .string ⟨(s7).toArray⟩) rfl rfl) ?_
        refine ro_val (d := (some 24)) rfl (.free rfl) rfl (q_fieldAddr (a := a2) (off := 2) rfl Try.underlying36 rfl rfl ok2 (by decide) rfl) ?_
        obtain ⟨x14, hx14, h⟩ := h
        refine ro_val (d := (some 25)) rfl (.free rfl) rfl (q_load (T := (tInt .i64)) (u := x14) (a := (a2.add 2)) rfl ok2 rfl hx14) ?_
        refine ro_val (d := (some 26)) rfl (.free rfl) rfl (q_add (a := x14) (b := (1 : Int)) rfl rfl rfl) ?_
        refine ro_val (d := (some 27)) rfl (.free rfl) rfl (q_neg (a := (IntKind.i64.wrap (x14 + (1 : Int)))) rfl rfl) ?_
        refine ro_val (d := (some 28)) rfl (.free rfl) rfl (q_cvtI (a := (IntKind.i64.wrap (0 - (IntKind.i64.wrap (x14 + (1 : Int)))))) rfl Try.underlying2 Try.underlying33 rfl) ?_
        refine ro_val (d := (some 29)) rfl (.free rfl) rfl (q_mul (a := (2 : Int)) (b := (IntKind.u64.wrap (IntKind.i64.wrap (0 - (IntKind.i64.wrap (x14 + (1 : Int))))))) rfl rfl rfl) ?_
        refine ro_val (d := (some 30)) rfl (.free rfl) rfl (q_add (a := (IntKind.u64.wrap ((2 : Int) * (IntKind.u64.wrap (IntKind.i64.wrap (0 - (IntKind.i64.wrap (x14 + (1 : Int))))))))) (b := (1 : Int)) rfl rfl rfl) ?_
        refine ro_wp rfl (.free rfl) (wp_cl (d := (some 31)) rfl (q_call (k := 29) (l := [.int .u64 ((IntKind.u64.wrap ((IntKind.u64.wrap ((2 : Int) * (IntKind.u64.wrap (IntKind.i64.wrap (0 - (IntKind.i64.wrap (x14 + (1 : Int)))))))) + (1 : Int))))]) rfl ent29 rfl) h ?_)
        intro r16 w15 h
        obtain ⟨s17, hs17, h⟩ := h
        refine ro_val (d := (some 32)) rfl (.free rfl) rfl (q_catS (a := s7) (b := r16) (r := s17) rfl rfl rfl hs17) ?_
        refine ro_val (d := (some 2)) rfl (.free rfl) rfl (q_assign (v := .string ⟨(s17).toArray⟩) rfl rfl) ?_
        refine ro_nil ?_
        refine wp_ret ?_
        exact ret_ok rfl (.cons (.tmp (v := .string ⟨(s17).toArray⟩) rfl) .nil) ⟨s17, rfl, h⟩
      · refine wp_skip ?_
        refine wp_seq ?_
        refine wp_text [0, 1, 2, 3, 4, 5, 6, 7] rfl ?_
        refine ro_val (d := (some 33)) rfl (.free rfl) rfl (q_move (v := .string ⟨(s7).toArray⟩) rfl rfl) ?_
        refine ro_val (d := (some 34)) rfl (.free rfl) rfl (q_fieldAddr (a := a2) (off := 2) rfl Try.underlying36 rfl rfl ok2 (by decide) rfl) ?_
        obtain ⟨x18, hx18, h⟩ := h
        refine ro_val (d := (some 35)) rfl (.free rfl) rfl (q_load (T := (tInt .i64)) (u := x18) (a := (a2.add 2)) rfl ok2 rfl hx18) ?_
        refine ro_val (d := (some 36)) rfl (.free rfl) rfl (q_cvtI (a := x18) rfl Try.underlying2 Try.underlying33 rfl) ?_
        refine ro_val (d := (some 37)) rfl (.free rfl) rfl (q_mul (a := (2 : Int)) (b := (IntKind.u64.wrap x18)) rfl rfl rfl) ?_
        refine ro_wp rfl (.free rfl) (wp_cl (d := (some 38)) rfl (q_call (k := 29) (l := [.int .u64 ((IntKind.u64.wrap ((2 : Int) * (IntKind.u64.wrap x18))))]) rfl ent29 rfl) h ?_)
        intro r20 w19 h
        obtain ⟨s21, hs21, h⟩ := h
        refine ro_val (d := (some 39)) rfl (.free rfl) rfl (q_catS (a := s7) (b := r20) (r := s21) rfl rfl rfl hs21) ?_
        refine ro_val (d := (some 2)) rfl (.free rfl) rfl (q_assign (v := .string ⟨(s21).toArray⟩) rfl rfl) ?_
        refine ro_nil ?_
        refine wp_ret ?_
        exact ret_ok rfl (.cons (.tmp (v := .string ⟨(s21).toArray⟩) rfl) .nil) ⟨s21, rfl, h⟩
    · refine wp_seq ?_
      refine wp_text [0, 1] rfl ?_
      refine ro_val (d := (some 41)) rfl (.free rfl) rfl (q_eql (a := x8) (b := (3 : Int)) rfl rfl rfl) ?_
      refine ro_val (d := (some 40)) rfl (.free rfl) rfl (q_assign (v := .bool ((x8 == (3 : Int)))) rfl rfl) ?_
      refine ro_nil ?_
      refine wp_if (b := (x8 == (3 : Int))) rfl h (fun hb38 h => ?_) (fun hb38 h => ?_)
      · refine wp_seq ?_
        refine wp_text [0, 1, 2, 3, 4, 5, 6] rfl ?_
        refine ro_val (d := (some 42)) rfl (.free rfl) rfl (q_move (v := .string ⟨(s7).toArray⟩) rfl rfl) ?_
        refine ro_val (d := (some 43)) rfl (.free rfl) rfl (q_fieldAddr (a := a2) (off := 3) rfl Try.underlying36 rfl rfl ok34 (by decide) rfl) ?_
        obtain ⟨x23, hx23, h⟩ := h
        refine ro_val (d := (some 44)) rfl (.free rfl) rfl (q_load (T := tFlt) (u := x23) (a := (a2.add 3)) rfl ok34 rfl hx23) ?_
        refine ro_wp rfl (.free rfl) (wp_cl (d := (some 45)) rfl (q_call (k := 26) (l := [.float .f64 (x23)]) rfl ent26 rfl) h ?_)
        intro r25 w24 h
        refine ro_wp rfl (.free rfl) (wp_cl (d := (some 46)) rfl (q_call (k := 30) (l := [.int .u64 (r25)]) rfl ent30 rfl) h ?_)
        intro r27 w26 h
        obtain ⟨s28, hs28, h⟩ := h
        refine ro_val (d := (some 47)) rfl (.free rfl) rfl (q_catS (a := s7) (b := r27) (r := s28) rfl rfl rfl hs28) ?_
        refine ro_val (d := (some 2)) rfl (.free rfl) rfl (q_assign (v := .string ⟨(s28).toArray⟩) rfl rfl) ?_
        refine ro_nil ?_
        refine wp_ret ?_
        exact ret_ok rfl (.cons (.tmp (v := .string ⟨(s28).toArray⟩) rfl) .nil) ⟨s28, rfl, h⟩
      · refine wp_skip ?_
        refine wp_seq ?_
        obtain ⟨w29, hw29, h⟩ := dr_open h
        refine wp_drawn 11 mixed rfl (by kernel_rfl) (by intro c a d v w h; cases d <;> exact h) hw29 (fun hD => ?_)
        refine rd_pure (i := 0) (d := (some 48)) hD (by kernel_rfl) (by kernel_rfl) rfl (.free rfl) rfl (fun _ => q_move (v := .string ⟨(s7).toArray⟩) rfl rfl) ?_
        refine rd_pure (i := 1) (d := (some 49)) hD (by kernel_rfl) (by kernel_rfl) rfl (.free rfl) rfl (fun _ => q_fieldAddr (a := a2) (off := 4) rfl Try.underlying36 rfl rfl ok9 (by decide) rfl) ?_
        refine rd_pure (i := 7) (d := (some 55)) hD (by kernel_rfl) (by kernel_rfl) rfl (.free rfl) rfl (fun _ => q_fieldAddr (a := a2) (off := 4) rfl Try.underlying36 rfl rfl ok9 (by decide) rfl) ?_
        obtain ⟨x30, hx30, h⟩ := h
        refine rd_read (i := 2) (d := (some 50)) (fun W => (RdAt tStr (a2.add 4) W) x30) hD (by kernel_rfl) (by kernel_rfl) rfl (.free rfl) rfl (fun W hr => q_load (T := tStr) (u := x30) (a := (a2.add 4)) rfl ok9 rfl hr) hx30 ?_
        refine rd_pure (i := 3) (d := (some 51)) hD (by kernel_rfl) (by kernel_rfl) rfl (.free rfl) rfl (fun _ => q_lenS (s := x30) rfl Try.underlying9 rfl) ?_
        refine rd_pure (i := 4) (d := (some 52)) hD (by kernel_rfl) (by kernel_rfl) rfl (.free rfl) rfl (fun _ => q_cvtI (a := (x30.length : Int)) rfl Try.underlying3 Try.underlying33 rfl) ?_
        obtain ⟨x31, hx31, h⟩ := h
        refine rd_read (i := 8) (d := (some 56)) (fun W => (RdAt tStr (a2.add 4) W) x31) hD (by kernel_rfl) (by kernel_rfl) rfl (.free rfl) rfl (fun W hr => q_load (T := tStr) (u := x31) (a := (a2.add 4)) rfl ok9 rfl hr) hx31 ?_
        refine rd_one (i := 5) (by kernel_rfl) ?_
        refine po_wp rfl (.free rfl) (wp_cl (d := (some 53)) rfl (q_call (k := 29) (l := [.int .u64 ((IntKind.u64.wrap (x30.length : Int)))]) rfl ent29 rfl) h ?_)
        intro r33 w32 h
        obtain ⟨hk34, h⟩ := h
        obtain ⟨hk35, h⟩ := h
        refine ⟨(hk_keep (fun _ => hk35) (hk_keep (fun _ => hk34) hk_nil)), ?_⟩
        obtain ⟨s36, hs36, h⟩ := h
        refine rd_pure (i := 6) (d := (some 54)) hD (by kernel_rfl) (by kernel_rfl) rfl (.free rfl) rfl (fun _ => q_catS (a := s7) (b := r33) (r := s36) rfl rfl rfl hs36) ?_
        obtain ⟨s37, hs37, h⟩ := h
        refine rd_pure (i := 9) (d := (some 57)) hD (by kernel_rfl) (by kernel_rfl) rfl (.free rfl) rfl (fun _ => q_catS (a := s36) (b := x31) (r := s37) rfl rfl rfl hs37) ?_
        refine rd_pure (i := 10) (d := (some 2)) hD (by kernel_rfl) (by kernel_rfl) rfl (.free rfl) rfl (fun _ => q_assign (v := .string ⟨(s37).toArray⟩) rfl rfl) ?_
        refine rd_nil (by kernel_rfl) ?_
        refine wp_ret ?_
        exact ret_ok rfl (.cons (.tmp (v := .string ⟨(s37).toArray⟩) rfl) .nil) ⟨s37, rfl, h⟩

-- moiety/wire.plain
def F22 (v_1 : S35) (w : World) (R : Bool → World → Prop) : Prop :=
  nw 36 T35 v_1 w fun a2 w3 =>
  dr w3 fun w4 =>
  ex (RdAt (tInt .u64) (a2.add 1) w4) fun x5 =>
  ex (RdAt (tInt .i64) (a2.add 2) w4) fun x6 =>
  ex (RdAt tFlt (a2.add 3) w4) fun x7 =>
  ex (RdAt tStr (a2.add 4) w4) fun x8 =>
  ex (RdAt (tInt .i64) (a2.add 0) w4) fun x9 =>
  if (x9 == (1 : Int)) = true then (
    R (((x6 == (0 : Int)) && ((x7 : Int) == (0 : Int))) && (x8 == ([] : List UInt8))) w4
  ) else (
    if (x9 == (2 : Int)) = true then (
      R (((x5 == (0 : Int)) && ((x7 : Int) == (0 : Int))) && (x8 == ([] : List UInt8))) w4
    ) else (
      if (x9 == (3 : Int)) = true then (
        R (((x5 == (0 : Int)) && (x6 == (0 : Int))) && (x8 == ([] : List UInt8))) w4
      ) else (
        if (x9 == (4 : Int)) = true then (
          R (((x5 == (0 : Int)) && (x6 == (0 : Int))) && ((x7 : Int) == (0 : Int))) w4
        ) else (
          R false w4
        )
      )
    )
  )
theorem F22_ok {v_1 : S35} {w : World} {R : Bool → World → Prop} (h : F22 v_1 w R) : cl Try.prog 22 [T35.enc (v_1)] tBool w R := by
  unfold F22 at h
  refine calls_start 58 Try.func22 rfl rfl (Nat.le_of_ble_eq_true rfl) ?_
  refine wp_seq ?_
  refine wp_text [0, 1] rfl ?_
  obtain ⟨a2, w3, ha2, hw3, h⟩ := nw_open h
  refine ro_val (d := (some 1)) rfl (.free rfl) rfl (q_box (u := v_1) rfl ok36 rfl ha2 hw3) ?_
  refine ro_val (d := (some 2)) rfl (.free rfl) rfl (q_assign (v := .bool (false)) rfl rfl) ?_
  refine ro_nil ?_
  refine wp_seq ?_
  obtain ⟨w4, hw4, h⟩ := dr_open h
  refine wp_drawn 17 mixed rfl (by kernel_rfl) (by intro c a d v w h; cases d <;> exact h) hw4 (fun hD => ?_)
  refine rd_pure (i := 0) (d := (some 7)) hD (by kernel_rfl) (by kernel_rfl) rfl (.free rfl) rfl (fun _ => q_fieldAddr (a := a2) (off := 1) rfl Try.underlying36 rfl rfl ok33 (by decide) rfl) ?_
  refine rd_pure (i := 3) (d := (some 10)) hD (by kernel_rfl) (by kernel_rfl) rfl (.free rfl) rfl (fun _ => q_fieldAddr (a := a2) (off := 2) rfl Try.underlying36 rfl rfl ok2 (by decide) rfl) ?_
  refine rd_pure (i := 6) (d := (some 13)) hD (by kernel_rfl) (by kernel_rfl) rfl (.free rfl) rfl (fun _ => q_fieldAddr (a := a2) (off := 3) rfl Try.underlying36 rfl rfl ok34 (by decide) rfl) ?_
  refine rd_pure (i := 10) (d := (some 17)) hD (by kernel_rfl) (by kernel_rfl) rfl (.free rfl) rfl (fun _ => q_fieldAddr (a := a2) (off := 4) rfl Try.underlying36 rfl rfl ok9 (by decide) rfl) ?_
  obtain ⟨x5, hx5, h⟩ := h
  refine rd_read (i := 1) (d := (some 8)) (fun W => (RdAt (tInt .u64) (a2.add 1) W) x5) hD (by kernel_rfl) (by kernel_rfl) rfl (.free rfl) rfl (fun W hr => q_load (T := (tInt .u64)) (u := x5) (a := (a2.add 1)) rfl ok33 rfl hr) hx5 ?_
  refine rd_pure (i := 2) (d := (some 9)) hD (by kernel_rfl) (by kernel_rfl) rfl (.free rfl) rfl (fun _ => q_eql (a := x5) (b := (0 : Int)) rfl rfl rfl) ?_
  obtain ⟨x6, hx6, h⟩ := h
  refine rd_read (i := 4) (d := (some 11)) (fun W => (RdAt (tInt .i64) (a2.add 2) W) x6) hD (by kernel_rfl) (by kernel_rfl) rfl (.free rfl) rfl (fun W hr => q_load (T := (tInt .i64)) (u := x6) (a := (a2.add 2)) rfl ok2 rfl hr) hx6 ?_
  refine rd_pure (i := 5) (d := (some 12)) hD (by kernel_rfl) (by kernel_rfl) rfl (.free rfl) rfl (fun _ => q_eql (a := x6) (b := (0 : Int)) rfl rfl rfl) ?_
  obtain ⟨x7, hx7, h⟩ := h
  refine rd_read (i := 7) (d := (some 14)) (fun W => (RdAt tFlt (a2.add 3) W) x7) hD (by kernel_rfl) (by kernel_rfl) rfl (.free rfl) rfl (fun W hr => q_load (T := tFlt) (u := x7) (a := (a2.add 3)) rfl ok34 rfl hr) hx7 ?_
  refine rd_pure (i := 8) (d := (some 15)) hD (by kernel_rfl) (by kernel_rfl) rfl (.free rfl) rfl (fun _ => q_f64bits (b := x7) rfl ext23 rfl) ?_
  refine rd_pure (i := 9) (d := (some 16)) hD (by kernel_rfl) (by kernel_rfl) rfl (.free rfl) rfl (fun _ => q_eql (a := (x7 : Int)) (b := (0 : Int)) rfl rfl rfl) ?_
  refine rd_pure (i := 13) (d := (some 3)) hD (by kernel_rfl) (by kernel_rfl) rfl (.free rfl) rfl (fun _ => q_assign (v := .bool ((x5 == (0 : Int)))) rfl rfl) ?_
  refine rd_pure (i := 14) (d := (some 4)) hD (by kernel_rfl) (by kernel_rfl) rfl (.free rfl) rfl (fun _ => q_assign (v := .bool ((x6 == (0 : Int)))) rfl rfl) ?_
  refine rd_pure (i := 15) (d := (some 5)) hD (by kernel_rfl) (by kernel_rfl) rfl (.free rfl) rfl (fun _ => q_assign (v := .bool (((x7 : Int) == (0 : Int)))) rfl rfl) ?_
  obtain ⟨x8, hx8, h⟩ := h
  refine rd_read (i := 11) (d := (some 18)) (fun W => (RdAt tStr (a2.add 4) W) x8) hD (by kernel_rfl) (by kernel_rfl) rfl (.free rfl) rfl (fun W hr => q_load (T := tStr) (u := x8) (a := (a2.add 4)) rfl ok9 rfl hr) hx8 ?_
  refine rd_pure (i := 12) (d := (some 19)) hD (by kernel_rfl) (by kernel_rfl) rfl (.free rfl) rfl (fun _ => q_eqS (a := x8) (b := ([] : List UInt8)) rfl rfl rfl) ?_
  refine rd_pure (i := 16) (d := (some 6)) hD (by kernel_rfl) (by kernel_rfl) rfl (.free rfl) rfl (fun _ => q_assign (v := .bool ((x8 == ([] : List UInt8)))) rfl rfl) ?_
  refine rd_nil (by kernel_rfl) ?_
  refine wp_seq ?_
  refine wp_seq ?_
  refine wp_text [0, 1] rfl ?_
  refine ro_val (d := (some 20)) rfl (.free rfl) rfl (q_fieldAddr (a := a2) (off := 0) rfl Try.underlying36 rfl rfl ok32 (by decide) rfl) ?_
  obtain ⟨x9, hx9, h⟩ := h
  refine ro_val (d := (some 21)) rfl (.free rfl) rfl (q_load (T := (tInt .i64)) (u := x9) (a := (a2.add 0)) rfl ok32 rfl hx9) ?_
  refine ro_nil ?_
  refine wp_block ?_
  refine wp_seq ?_
  refine wp_text [0, 1] rfl ?_
  refine ro_val (d := (some 23)) rfl (.free rfl) rfl (q_eql (a := x9) (b := (1 : Int)) rfl rfl rfl) ?_
  refine ro_val (d := (some 22)) rfl (.free rfl) rfl (q_assign (v := .bool ((x9 == (1 : Int)))) rfl rfl) ?_
  refine ro_nil ?_
  refine wp_if (b := (x9 == (1 : Int))) rfl h (fun hb13 h => ?_) (fun hb13 h => ?_)
  · refine wp_seq ?_
    refine wp_text [0, 1, 2, 3, 4, 5, 6, 7] rfl ?_
    refine ro_val (d := (some 24)) rfl (.free rfl) rfl (q_move (v := .bool ((x6 == (0 : Int)))) rfl rfl) ?_
    refine ro_val (d := (some 25)) rfl (.free rfl) rfl (q_move (v := .bool ((x6 == (0 : Int)))) rfl rfl) ?_
    refine ro_gval (g := (x6 == (0 : Int))) (d := (some 26)) rfl (.yes 1 25 true (x6 == (0 : Int)) rfl rfl rfl rfl) rfl (fun hg => q_move (v := .bool (((x7 : Int) == (0 : Int)))) rfl rfl) ?_
    refine ro_val (d := (some 27)) rfl (.free rfl) rfl (q_pickGT (a := (x6 == (0 : Int))) (b := ((x7 : Int) == (0 : Int))) rfl rfl rfl rfl) ?_
    refine ro_val (d := (some 28)) rfl (.free rfl) rfl (q_move (v := .bool (((x6 == (0 : Int)) && ((x7 : Int) == (0 : Int))))) rfl rfl) ?_
    refine ro_gval (g := ((x6 == (0 : Int)) && ((x7 : Int) == (0 : Int)))) (d := (some 29)) rfl (.yes 4 28 true ((x6 == (0 : Int)) && ((x7 : Int) == (0 : Int))) rfl rfl rfl rfl) rfl (fun hg => q_move (v := .bool ((x8 == ([] : List UInt8)))) rfl rfl) ?_
    refine ro_val (d := (some 30)) rfl (.free rfl) rfl (q_pickGT (a := ((x6 == (0 : Int)) && ((x7 : Int) == (0 : Int)))) (b := (x8 == ([] : List UInt8))) rfl rfl rfl rfl) ?_
    refine ro_val (d := (some 2)) rfl (.free rfl) rfl (q_assign (v := .bool ((((x6 == (0 : Int)) && ((x7 : Int) == (0 : Int))) && (x8 == ([] : List UInt8))))) rfl rfl) ?_
    refine ro_nil ?_
    refine wp_ret ?_
    exact ret_ok rfl (.cons (.tmp (v := .bool ((((x6 == (0 : Int)) && ((x7 : Int) == (0 : Int))) && (x8 == ([] : List UInt8))))) rfl) .nil) ⟨(((x6 == (0 : Int)) && ((x7 : Int) == (0 : Int))) && (x8 == ([] : List UInt8))), rfl, h⟩
  · refine wp_seq ?_
    refine wp_text [0, 1] rfl ?_
    refine ro_val (d := (some 32)) rfl (.free rfl) rfl (q_eql (a := x9) (b := (2 : Int)) rfl rfl rfl) ?_
    refine ro_val (d := (some 31)) rfl (.free rfl) rfl (q_assign (v := .bool ((x9 == (2 : Int)))) rfl rfl) ?_
    refine ro_nil ?_
    refine wp_if (b := (x9 == (2 : Int))) rfl h (fun hb12 h => ?_) (fun hb12 h => ?_)
    · refine wp_seq ?_
      refine wp_text [0, 1, 2, 3, 4, 5, 6, 7] rfl ?_
      refine ro_val (d := (some 33)) rfl (.free rfl) rfl (q_move (v := .bool ((x5 == (0 : Int)))) rfl rfl) ?_
      refine ro_val (d := (some 34)) rfl (.free rfl) rfl (q_move (v := .bool ((x5 == (0 : Int)))) rfl rfl) ?_
      refine ro_gval (g := (x5 == (0 : Int))) (d := (some 35)) rfl (.yes 1 34 true (x5 == (0 : Int)) rfl rfl rfl rfl) rfl (fun hg => q_move (v := .bool (((x7 : Int) == (0 : Int)))) rfl rfl) ?_
      refine ro_val (d := (some 36)) rfl (.free rfl) rfl (q_pickGT (a := (x5 == (0 : Int))) (b := ((x7 : Int) == (0 : Int))) rfl rfl rfl rfl) ?_
      refine ro_val (d := (some 37)) rfl (.free rfl) rfl (q_move (v := .bool (((x5 == (0 : Int)) && ((x7 : Int) == (0 : Int))))) rfl rfl) ?_
      refine ro_gval (g := ((x5 == (0 : Int)) && ((x7 : Int) == (0 : Int)))) (d := (some 38)) rfl (.yes 4 37 true ((x5 == (0 : Int)) && ((x7 : Int) == (0 : Int))) rfl rfl rfl rfl) rfl (fun hg => q_move (v := .bool ((x8 == ([] : List UInt8)))) rfl rfl) ?_
      refine ro_val (d := (some 39)) rfl (.free rfl) rfl (q_pickGT (a := ((x5 == (0 : Int)) && ((x7 : Int) == (0 : Int)))) (b := (x8 == ([] : List UInt8))) rfl rfl rfl rfl) ?_
      refine ro_val (d := (some 2)) rfl (.free rfl) rfl (q_assign (v := .bool ((((x5 == (0 : Int)) && ((x7 : Int) == (0 : Int))) && (x8 == ([] : List UInt8))))) rfl rfl) ?_
      refine ro_nil ?_
      refine wp_ret ?_
      exact ret_ok rfl (.cons (.tmp (v := .bool ((((x5 == (0 : Int)) && ((x7 : Int) == (0 : Int))) && (x8 == ([] : List UInt8))))) rfl) .nil) ⟨(((x5 == (0 : Int)) && ((x7 : Int) == (0 : Int))) && (x8 == ([] : List UInt8))), rfl, h⟩
    · refine wp_seq ?_
      refine wp_text [0, 1] rfl ?_
      refine ro_val (d := (some 41)) rfl (.free rfl) rfl (q_eql (a := x9) (b := (3 : Int)) rfl rfl rfl) ?_
      refine ro_val (d := (some 40)) rfl (.free rfl) rfl (q_assign (v := .bool ((x9 == (3 : Int)))) rfl rfl) ?_
      refine ro_nil ?_
      refine wp_if (b := (x9 == (3 : Int))) rfl h (fun hb11 h => ?_) (fun hb11 h => ?_)
      · refine wp_seq ?_
        refine wp_text [0, 1, 2, 3, 4, 5, 6, 7] rfl ?_
        refine ro_val (d := (some 42)) rfl (.free rfl) rfl (q_move (v := .bool ((x5 == (0 : Int)))) rfl rfl) ?_
        refine ro_val (d := (some 43)) rfl (.free rfl) rfl (q_move (v := .bool ((x5 == (0 : Int)))) rfl rfl) ?_
        refine ro_gval (g := (x5 == (0 : Int))) (d := (some 44)) rfl (.yes 1 43 true (x5 == (0 : Int)) rfl rfl rfl rfl) rfl (fun hg => q_move (v := .bool ((x6 == (0 : Int)))) rfl rfl) ?_
        refine ro_val (d := (some 45)) rfl (.free rfl) rfl (q_pickGT (a := (x5 == (0 : Int))) (b := (x6 == (0 : Int))) rfl rfl rfl rfl) ?_
        refine ro_val (d := (some 46)) rfl (.free rfl) rfl (q_move (v := .bool (((x5 == (0 : Int)) && (x6 == (0 : Int))))) rfl rfl) ?_
        refine ro_gval (g := ((x5 == (0 : Int)) && (x6 == (0 : Int)))) (d := (some 47)) rfl (.yes 4 46 true ((x5 == (0 : Int)) && (x6 == (0 : Int))) rfl rfl rfl rfl) rfl (fun hg => q_move (v := .bool ((x8 == ([] : List UInt8)))) rfl rfl) ?_
        refine ro_val (d := (some 48)) rfl (.free rfl) rfl (q_pickGT (a := ((x5 == (0 : Int)) && (x6 == (0 : Int)))) (b := (x8 == ([] : List UInt8))) rfl rfl rfl rfl) ?_
        refine ro_val (d := (some 2)) rfl (.free rfl) rfl (q_assign (v := .bool ((((x5 == (0 : Int)) && (x6 == (0 : Int))) && (x8 == ([] : List UInt8))))) rfl rfl) ?_
        refine ro_nil ?_
        refine wp_ret ?_
        exact ret_ok rfl (.cons (.tmp (v := .bool ((((x5 == (0 : Int)) && (x6 == (0 : Int))) && (x8 == ([] : List UInt8))))) rfl) .nil) ⟨(((x5 == (0 : Int)) && (x6 == (0 : Int))) && (x8 == ([] : List UInt8))), rfl, h⟩
      · refine wp_seq ?_
        refine wp_text [0, 1] rfl ?_
        refine ro_val (d := (some 50)) rfl (.free rfl) rfl (q_eql (a := x9) (b := (4 : Int)) rfl rfl rfl) ?_
        refine ro_val (d := (some 49)) rfl (.free rfl) rfl (q_assign (v := .bool ((x9 == (4 : Int)))) rfl rfl) ?_
        refine ro_nil ?_
        refine wp_if (b := (x9 == (4 : Int))) rfl h (fun hb10 h => ?_) (fun hb10 h => ?_)
        · refine wp_seq ?_
          refine wp_text [0, 1, 2, 3, 4, 5, 6, 7] rfl ?_
          refine ro_val (d := (some 51)) rfl (.free rfl) rfl (q_move (v := .bool ((x5 == (0 : Int)))) rfl rfl) ?_
          refine ro_val (d := (some 52)) rfl (.free rfl) rfl (q_move (v := .bool ((x5 == (0 : Int)))) rfl rfl) ?_
          refine ro_gval (g := (x5 == (0 : Int))) (d := (some 53)) rfl (.yes 1 52 true (x5 == (0 : Int)) rfl rfl rfl rfl) rfl (fun hg => q_move (v := .bool ((x6 == (0 : Int)))) rfl rfl) ?_
          refine ro_val (d := (some 54)) rfl (.free rfl) rfl (q_pickGT (a := (x5 == (0 : Int))) (b := (x6 == (0 : Int))) rfl rfl rfl rfl) ?_
          refine ro_val (d := (some 55)) rfl (.free rfl) rfl (q_move (v := .bool (((x5 == (0 : Int)) && (x6 == (0 : Int))))) rfl rfl) ?_
          refine ro_gval (g := ((x5 == (0 : Int)) && (x6 == (0 : Int)))) (d := (some 56)) rfl (.yes 4 55 true ((x5 == (0 : Int)) && (x6 == (0 : Int))) rfl rfl rfl rfl) rfl (fun hg => q_move (v := .bool (((x7 : Int) == (0 : Int)))) rfl rfl) ?_
          refine ro_val (d := (some 57)) rfl (.free rfl) rfl (q_pickGT (a := ((x5 == (0 : Int)) && (x6 == (0 : Int)))) (b := ((x7 : Int) == (0 : Int))) rfl rfl rfl rfl) ?_
          refine ro_val (d := (some 2)) rfl (.free rfl) rfl (q_assign (v := .bool ((((x5 == (0 : Int)) && (x6 == (0 : Int))) && ((x7 : Int) == (0 : Int))))) rfl rfl) ?_
          refine ro_nil ?_
          refine wp_ret ?_
          exact ret_ok rfl (.cons (.tmp (v := .bool ((((x5 == (0 : Int)) && (x6 == (0 : Int))) && ((x7 : Int) == (0 : Int))))) rfl) .nil) ⟨(((x5 == (0 : Int)) && (x6 == (0 : Int))) && ((x7 : Int) == (0 : Int))), rfl, h⟩
        · refine wp_skip ?_
          refine wp_seq ?_
          refine wp_text [0] rfl ?_
          refine ro_val (d := (some 2)) rfl (.free rfl) rfl (q_assign (v := .bool (false)) rfl rfl) ?_
          refine ro_nil ?_
          refine wp_ret ?_
          exact ret_ok rfl (.cons (.tmp (v := .bool (false)) rfl) .nil) ⟨false, rfl, h⟩

-- moiety/wire.Unpack$1
def F24 (t_1 : Addr) (t_2 : Addr) (t_3 : Addr) (t_4 : Addr) (rc : Iv) (w : World) (R : World → Prop) : Prop :=
  if (!(Iv.isNil rc)) = true then (
    ex (Asrt 52 T51 Z51 rc) fun p5 =>
    nw 52 T51 Z51 w fun a6 w7 =>
    st T51 a6 p5.1 w7 fun w8 =>
    if (!p5.2) = true then (
      False
    ) else (
      dr w8 fun w9 =>
      ex (RdAt (tInt .i64) t_1 w9) fun x10 =>
      ex (RdAt (tInt .i64) (a6.add 0) w9) fun x11 =>
      st tSlc t_2 (⟨none, 0, 0⟩ : Slc) w9 fun w12 =>
      kp ((RdAt (tInt .i64) (a6.add 0) w12) x11) <|
      st (tInt .i64) t_3 x10 w12 fun w14 =>
      kp ((RdAt (tInt .i64) (a6.add 0) w14) x11) <|
      st (tInt .i64) t_4 x11 w14 fun w16 =>
      R w16
    )
  ) else (
    R w
  )
theorem F24_ok {t_1 : Addr} {t_2 : Addr} {t_3 : Addr} {t_4 : Addr} {rc : Iv} {u u' : FrameMode} {w : World} {R : World → Prop} (hrc : Recov u rc u') (h : F24 t_1 t_2 t_3 t_4 rc w R) : CallsD Try.prog 24 (List.toArray [.pointer (some t_1), .pointer (some t_2), .pointer (some t_3), .pointer (some t_4)]) u w fun e u2 w' => (∃ v, e = .returned v) ∧ u2 = u' ∧ R w' := by
  unfold F24 at h
  refine callsD_start 21 Try.func24 rfl rfl (Nat.le_of_ble_eq_true rfl) fun c₀ cs hu => ?_
  refine wpS_seq ?_
  refine wpS_text [0, 1] rfl ?_
  refine ros_rec (v := rc) (d := (some 7)) rfl rfl rfl rfl hu hrc ?_
  refine ros_val (d := (some 4)) rfl rfl rfl (q_assign (v := (rc).enc) rfl rfl) ?_
  refine ros_nil (wpS_of_wp ?_)
  refine wp_seq ?_
  refine wp_text [0, 1] rfl ?_
  refine ro_val (d := (some 8)) rfl (.free rfl) rfl (q_move (v := (rc).enc) rfl rfl) ?_
  refine ro_val (d := (some 9)) rfl (.free rfl) rfl (q_neI0 (v := rc) rfl Try.underlying20 rfl) ?_
  refine ro_nil ?_
  refine wp_if (b := (!(Iv.isNil rc))) rfl h (fun hb18 h => ?_) (fun hb18 h => ?_)
  · refine wp_seq ?_
    refine wp_text [0, 1, 2, 3, 4, 5, 6, 7] rfl ?_
    refine ro_val (d := (some 11)) rfl (.free rfl) rfl (q_move (v := (rc).enc) rfl rfl) ?_
    obtain ⟨p5, hp5, h⟩ := h
    refine ro_val (d := (some 12)) rfl (.free rfl) rfl (q_assert2 (T := T51) (z := Z51) (v := rc) (p := p5) rfl ⟨_, Try.underlying52, rfl⟩ inf52 rfl hp5) ?_
    refine ro_val (d := (some 10)) rfl (.free rfl) rfl (q_move (v := (tTup2 T51 tBool).enc (p5)) rfl rfl) ?_
    refine ro_val (d := (some 13)) rfl (.free rfl) rfl (q_extract (vs := #[T51.enc (p5.1), .bool (p5.2)]) (v := T51.enc (p5.1)) rfl rfl rfl) ?_
    refine ro_val (d := (some 14)) rfl (.free rfl) rfl (q_extract (vs := #[T51.enc (p5.1), .bool (p5.2)]) (v := .bool (p5.2)) rfl rfl rfl) ?_
    obtain ⟨a6, w7, ha6, hw7, h⟩ := nw_open h
    refine ro_val (d := (some 5)) rfl (.free rfl) rfl (q_alloc (u := Z51) rfl ok52 inf52 ha6 hw7) ?_
    obtain ⟨w8, hw8, hrw8, h⟩ := st_open h
    refine ro_skip (d := none) rfl (.free rfl) rfl (q_store (T := T51) (u := p5.1) (a := a6) rfl ok52 rfl rfl hrw8 hw8) ?_
    refine ro_val (d := (some 6)) rfl (.free rfl) rfl (q_assign (v := .bool (p5.2)) rfl rfl) ?_
    refine ro_nil ?_
    refine wp_seq ?_
    refine wp_seq ?_
    refine wp_text [0, 1] rfl ?_
    refine ro_val (d := (some 15)) rfl (.free rfl) rfl (q_move (v := .bool (p5.2)) rfl rfl) ?_
    refine ro_val (d := (some 16)) rfl (.free rfl) rfl (q_not (b := p5.2) rfl rfl) ?_
    refine ro_nil ?_
    refine wp_if (b := (!p5.2)) rfl h (fun hb17 h => ?_) (fun hb17 h => ?_)
    · refine wp_text [0, 1] rfl ?_
      refine ro_val (d := (some 17)) rfl (.free rfl) rfl (q_move (v := (rc).enc) rfl rfl) ?_
      exact h.elim
    · refine wp_skip ?_
      obtain ⟨w9, hw9, h⟩ := dr_open h
      refine wp_drawn 6 mixed rfl (by kernel_rfl) (by intro c a d v w h; cases d <;> exact h) hw9 (fun hD => ?_)
      refine rd_pure (i := 1) (d := (some 19)) hD (by kernel_rfl) (by kernel_rfl) rfl (.free rfl) rfl (fun _ => q_fieldAddr (a := a6) (off := 0) rfl Try.underlying52 rfl rfl ok26 (by decide) rfl) ?_
      obtain ⟨x10, hx10, h⟩ := h
      refine rd_read (i := 0) (d := (some 18)) (fun W => (RdAt (tInt .i64) t_1 W) x10) hD (by kernel_rfl) (by kernel_rfl) rfl (.free rfl) rfl (fun W hr => q_load (T := (tInt .i64)) (u := x10) (a := t_1) rfl ok3 rfl hr) hx10 ?_
      obtain ⟨x11, hx11, h⟩ := h
      refine rd_read (i := 2) (d := (some 20)) (fun W => (RdAt (tInt .i64) (a6.add 0) W) x11) hD (by kernel_rfl) (by kernel_rfl) rfl (.free rfl) rfl (fun W hr => q_load (T := (tInt .i64)) (u := x11) (a := (a6.add 0)) rfl ok26 rfl hr) hx11 ?_
      refine rd_one (i := 3) (by kernel_rfl) ?_
      obtain ⟨w12, hw12, hrw12, h⟩ := st_open h
      obtain ⟨hk13, h⟩ := h
      refine po_skip (d := none) rfl (.free rfl) rfl (q_store (T := tSlc) (u := (⟨none, 0, 0⟩ : Slc)) (a := t_2) rfl ok22 rfl rfl hrw12 hw12) ⟨(hk_keep (fun _ => hk13) (hk_wait (by kernel_rfl) hk_nil)), ?_⟩
      refine rd_one (i := 4) (by kernel_rfl) ?_
      obtain ⟨w14, hw14, hrw14, h⟩ := st_open h
      obtain ⟨hk15, h⟩ := h
      refine po_skip (d := none) rfl (.free rfl) rfl (q_store (T := (tInt .i64)) (u := x10) (a := t_3) rfl ok3 rfl rfl hrw14 hw14) ⟨(hk_keep (fun _ => hk15) (hk_wait (by kernel_rfl) hk_nil)), ?_⟩
      refine rd_one (i := 5) (by kernel_rfl) ?_
      obtain ⟨w16, hw16, hrw16, h⟩ := st_open h
      refine po_skip (d := none) rfl (.free rfl) rfl (q_store (T := (tInt .i64)) (u := x11) (a := t_4) rfl ok26 rfl rfl hrw16 hw16) ⟨(hk_wait (by kernel_rfl) (hk_wait (by kernel_rfl) hk_nil)), ?_⟩
      refine rd_nil (by kernel_rfl) ?_
      exact endS_ok rfl h
  · refine wp_skip ?_
    exact endS_ok rfl h

-- (*moiety/wire.reader).value
def F25_j1 (a2 : Addr) (a6 : Addr) (w9 : World) (R : S35 → World → Prop) (Pn : Iv → World → Prop) : Prop :=
  ex (RdAt T35 a6 w9) fun x10 =>
  st T35 a2 x10 w9 fun w11 =>
  ex (RdAt T35 a2 w11) fun x12 =>
  R x12 w11
def F25 (r_1 : (Option Addr)) (w : World) (R : S35 → World → Prop) (Pn : Iv → World → Prop) : Prop :=
  nw 36 T35 Z35 w fun a2 w3 =>
  clp Try.prog 31 [.pointer (r_1)] (tInt .u8) w3 Pn fun r5 w4 =>
  nw 36 T35 Z35 w4 fun a6 w7 =>
  st T35 a6 (⟨(IntKind.i64.wrap r5), (0 : Int), (0 : Int), (0 : Nat), ([] : List UInt8)⟩ : S35) w7 fun w8 =>
  ex (RdAt (tInt .i64) (a6.add 0) w8) fun x13 =>
  if (x13 == (1 : Int)) = true then (
    clp Try.prog 32 [.pointer (r_1)] (tInt .u64) w8 Pn fun r15 w14 =>
    st (tInt .u64) (a6.add 1) r15 w14 fun w16 =>
    F25_j1 a2 a6 w16 R Pn
  ) else (
    if (x13 == (2 : Int)) = true then (
      clp Try.prog 32 [.pointer (r_1)] (tInt .u64) w8 Pn fun r18 w17 =>
      ex (Shift (1 : Int) (Int.fdiv r18 (2 ^ (min ((1 : Int)).toNat IntKind.u64.bits)))) fun d19 =>
      st (tInt .i64) (a6.add 2) (bits .xor .i64 (IntKind.i64.wrap d19) (IntKind.i64.wrap (0 - (IntKind.i64.wrap (bits .and .u64 r18 (1 : Int)))))) w17 fun w20 =>
      F25_j1 a2 a6 w20 R Pn
    ) else (
      if (x13 == (3 : Int)) = true then (
        clp Try.prog 33 [.pointer (r_1)] tFlt w8 Pn fun r22 w21 =>
        st tFlt (a6.add 3) r22 w21 fun w23 =>
        F25_j1 a2 a6 w23 R Pn
      ) else (
        if (x13 == (4 : Int)) = true then (
          clp Try.prog 34 [.pointer (r_1)] tStr w8 Pn fun r25 w24 =>
          st tStr (a6.add 4) r25 w24 fun w26 =>
          F25_j1 a2 a6 w26 R Pn
        ) else (
          Pn (Iv.mk 52 (T51.enc ((⟨(21 : Int)⟩ : S51)))) w8
        )
      )
    )
  )
theorem F25_ok {r_1 : (Option Addr)} {w : World} {R : S35 → World → Prop} {Pn : Iv → World → Prop} (h : F25 r_1 w R Pn) : clp Try.prog 25 [.pointer (r_1)] T35 w Pn R := by
  unfold F25 at h
  refine calls_start 42 Try.func25 rfl rfl (Nat.le_of_ble_eq_true rfl) ?_
  refine wp_seq ?_
  refine wp_text [0] rfl ?_
  obtain ⟨a2, w3, ha2, hw3, h⟩ := nw_open h
  refine ro_val (d := (some 2)) rfl (.free rfl) rfl (q_alloc (u := Z35) rfl ok36 inf36 ha2 hw3) ?_
  refine ro_nil ?_
  refine wp_seq ?_
  refine wp_text [0, 1, 2, 3, 4, 5] rfl ?_
  refine ro_val (d := (some 5)) rfl (.free rfl) rfl (q_move (v := .pointer (r_1)) rfl rfl) ?_
  refine ro_wp rfl (.free rfl) (wp_clp (d := (some 6)) rfl (q_call (k := 31) (l := [.pointer (r_1)]) rfl ent31 rfl) h ?_ ?_)
  · exact fun _ _ h => pan_ok (P := Try.prog) (fn := Try.f25) h
  intro r5 w4 h
  refine ro_val (d := (some 7)) rfl (.free rfl) rfl (q_cvtI (a := r5) rfl Try.underlying5 Try.underlying32 rfl) ?_
  refine ro_val (d := (some 8)) rfl (.free rfl) rfl (q_build36_0 (v0 := (IntKind.i64.wrap r5)) rfl rfl) ?_
  obtain ⟨a6, w7, ha6, hw7, h⟩ := nw_open h
  refine ro_val (d := (some 3)) rfl (.free rfl) rfl (q_alloc (u := Z35) rfl ok36 inf36 ha6 hw7) ?_
  obtain ⟨w8, hw8, hrw8, h⟩ := st_open h
  refine ro_skip (d := none) rfl (.free rfl) rfl (q_store (T := T35) (u := (⟨(IntKind.i64.wrap r5), (0 : Int), (0 : Int), (0 : Nat), ([] : List UInt8)⟩ : S35)) (a := a6) rfl ok36 rfl rfl hrw8 hw8) ?_
  refine ro_nil ?_
  refine seq_join (σ := Unit) (J := fun (s : Unit) w => F25_j1 a2 a6 w R Pn) (fr := fun g (s : Unit) => upd (upd (g) 2 (.pointer (some a2))) 3 (.pointer (some a6))) ?_ ?_
  · rintro ⟨⟩ g w9 h
    unfold F25_j1 at h
    refine wp_seq ?_
    refine wp_text [0, 1] rfl ?_
    obtain ⟨x10, hx10, h⟩ := h
    refine ro_val (d := (some 41)) rfl (.free rfl) rfl (q_load (T := T35) (u := x10) (a := a6) rfl ok36 rfl hx10) ?_
    obtain ⟨w11, hw11, hrw11, h⟩ := st_open h
    refine ro_skip (d := none) rfl (.free rfl) rfl (q_store (T := T35) (u := x10) (a := a2) rfl ok36 rfl rfl hrw11 hw11) ?_
    refine ro_nil ?_
    refine wp_ret ?_
    obtain ⟨x12, hx12, h⟩ := h
    exact ret_ok rfl (.cons (.cell (T := T35) (u := x12) (a := a2) ok36 rfl hx12) .nil) ⟨x12, rfl, h⟩
  · refine wp_seq ?_
    refine wp_text [0, 1] rfl ?_
    refine ro_val (d := (some 9)) rfl (.free rfl) rfl (q_fieldAddr (a := a6) (off := 0) rfl Try.underlying36 rfl rfl ok32 (by decide) rfl) ?_
    obtain ⟨x13, hx13, h⟩ := h
    refine ro_val (d := (some 10)) rfl (.free rfl) rfl (q_load (T := (tInt .i64)) (u := x13) (a := (a6.add 0)) rfl ok32 rfl hx13) ?_
    refine ro_nil ?_
    refine wp_block ?_
    refine wp_seq ?_
    refine wp_text [0, 1] rfl ?_
    refine ro_val (d := (some 14)) rfl (.free rfl) rfl (q_eql (a := x13) (b := (1 : Int)) rfl rfl rfl) ?_
    refine ro_val (d := (some 13)) rfl (.free rfl) rfl (q_assign (v := .bool ((x13 == (1 : Int)))) rfl rfl) ?_
    refine ro_nil ?_
    refine wp_if (b := (x13 == (1 : Int))) rfl h (fun hb30 h => ?_) (fun hb30 h => ?_)
    · refine wp_text [0, 1, 2, 3] rfl ?_
      refine ro_val (d := (some 15)) rfl (.free rfl) rfl (q_move (v := .pointer (r_1)) rfl rfl) ?_
      refine ro_wp rfl (.free rfl) (wp_clp (d := (some 16)) rfl (q_call (k := 32) (l := [.pointer (r_1)]) rfl ent32 rfl) h ?_ ?_)
      · exact fun _ _ h => pan_ok (P := Try.prog) (fn := Try.f25) h
      intro r15 w14 h
      refine ro_val (d := (some 17)) rfl (.free rfl) rfl (q_fieldAddr (a := a6) (off := 1) rfl Try.underlying36 rfl rfl ok33 (by decide) rfl) ?_
      obtain ⟨w16, hw16, hrw16, h⟩ := st_open h
      refine ro_skip (d := none) rfl (.free rfl) rfl (q_store (T := (tInt .u64)) (u := r15) (a := (a6.add 1)) rfl ok33 rfl rfl hrw16 hw16) ?_
      refine ro_nil ?_
      exact ⟨(), _, arr (upd_step (upd_step rfl rfl) rfl), h⟩
    · refine wp_seq ?_
      refine wp_text [0, 1] rfl ?_
      refine ro_val (d := (some 19)) rfl (.free rfl) rfl (q_eql (a := x13) (b := (2 : Int)) rfl rfl rfl) ?_
      refine ro_val (d := (some 18)) rfl (.free rfl) rfl (q_assign (v := .bool ((x13 == (2 : Int)))) rfl rfl) ?_
      refine ro_nil ?_
      refine wp_if (b := (x13 == (2 : Int))) rfl h (fun hb29 h => ?_) (fun hb29 h => ?_)
      · refine wp_seq ?_
        refine wp_text [0, 1, 2] rfl ?_
        refine ro_val (d := (some 20)) rfl (.free rfl) rfl (q_move (v := .pointer (r_1)) rfl rfl) ?_
        refine ro_wp rfl (.free rfl) (wp_clp (d := (some 21)) rfl (q_call (k := 32) (l := [.pointer (r_1)]) rfl ent32 rfl) h ?_ ?_)
        · exact fun _ _ h => pan_ok (P := Try.prog) (fn := Try.f25) h
        intro r18 w17 h
        refine ro_val (d := (some 4)) rfl (.free rfl) rfl (q_assign (v := .int .u64 (r18)) rfl rfl) ?_
        refine ro_nil ?_
        refine wp_text [0, 1, 2, 3, 4, 5, 6, 7, 8, 9] rfl ?_
        refine ro_val (d := (some 22)) rfl (.free rfl) rfl (q_move (v := .int .u64 (r18)) rfl rfl) ?_
        obtain ⟨d19, hd19, h⟩ := h
        refine ro_val (d := (some 23)) rfl (.free rfl) rfl (q_shr (a := r18) (b := (1 : Int)) (r := d19) rfl rfl rfl hd19) ?_
        refine ro_val (d := (some 24)) rfl (.free rfl) rfl (q_cvtI (a := d19) rfl Try.underlying33 Try.underlying2 rfl) ?_
        refine ro_val (d := (some 25)) rfl (.free rfl) rfl (q_move (v := .int .u64 (r18)) rfl rfl) ?_
        refine ro_val (d := (some 26)) rfl (.free rfl) rfl (q_and (a := r18) (b := (1 : Int)) rfl rfl rfl) ?_
        refine ro_val (d := (some 27)) rfl (.free rfl) rfl (q_cvtI (a := (bits .and .u64 r18 (1 : Int))) rfl Try.underlying33 Try.underlying2 rfl) ?_
        refine ro_val (d := (some 28)) rfl (.free rfl) rfl (q_neg (a := (IntKind.i64.wrap (bits .and .u64 r18 (1 : Int)))) rfl rfl) ?_
        refine ro_val (d := (some 29)) rfl (.free rfl) rfl (q_xor (a := (IntKind.i64.wrap d19)) (b := (IntKind.i64.wrap (0 - (IntKind.i64.wrap (bits .and .u64 r18 (1 : Int)))))) rfl rfl rfl) ?_
        refine ro_val (d := (some 30)) rfl (.free rfl) rfl (q_fieldAddr (a := a6) (off := 2) rfl Try.underlying36 rfl rfl ok2 (by decide) rfl) ?_
        obtain ⟨w20, hw20, hrw20, h⟩ := st_open h
        refine ro_skip (d := none) rfl (.free rfl) rfl (q_store (T := (tInt .i64)) (u := (bits .xor .i64 (IntKind.i64.wrap d19) (IntKind.i64.wrap (0 - (IntKind.i64.wrap (bits .and .u64 r18 (1 : Int))))))) (a := (a6.add 2)) rfl ok2 rfl rfl hrw20 hw20) ?_
        refine ro_nil ?_
        exact ⟨(), _, arr (upd_step (upd_step rfl rfl) rfl), h⟩
      · refine wp_seq ?_
        refine wp_text [0, 1] rfl ?_
        refine ro_val (d := (some 32)) rfl (.free rfl) rfl (q_eql (a := x13) (b := (3 : Int)) rfl rfl rfl) ?_
        refine ro_val (d := (some 31)) rfl (.free rfl) rfl (q_assign (v := .bool ((x13 == (3 : Int)))) rfl rfl) ?_
        refine ro_nil ?_
        refine wp_if (b := (x13 == (3 : Int))) rfl h (fun hb28 h => ?_) (fun hb28 h => ?_)
        · refine wp_text [0, 1, 2, 3] rfl ?_
          refine ro_val (d := (some 33)) rfl (.free rfl) rfl (q_move (v := .pointer (r_1)) rfl rfl) ?_
          refine ro_wp rfl (.free rfl) (wp_clp (d := (some 34)) rfl (q_call (k := 33) (l := [.pointer (r_1)]) rfl ent33 rfl) h ?_ ?_)
          · exact fun _ _ h => pan_ok (P := Try.prog) (fn := Try.f25) h
          intro r22 w21 h
          refine ro_val (d := (some 35)) rfl (.free rfl) rfl (q_fieldAddr (a := a6) (off := 3) rfl Try.underlying36 rfl rfl ok34 (by decide) rfl) ?_
          obtain ⟨w23, hw23, hrw23, h⟩ := st_open h
          refine ro_skip (d := none) rfl (.free rfl) rfl (q_store (T := tFlt) (u := r22) (a := (a6.add 3)) rfl ok34 rfl rfl hrw23 hw23) ?_
          refine ro_nil ?_
          exact ⟨(), _, arr (upd_step (upd_step rfl rfl) rfl), h⟩
        · refine wp_seq ?_
          refine wp_text [0, 1] rfl ?_
          refine ro_val (d := (some 37)) rfl (.free rfl) rfl (q_eql (a := x13) (b := (4 : Int)) rfl rfl rfl) ?_
          refine ro_val (d := (some 36)) rfl (.free rfl) rfl (q_assign (v := .bool ((x13 == (4 : Int)))) rfl rfl) ?_
          refine ro_nil ?_
          refine wp_if (b := (x13 == (4 : Int))) rfl h (fun hb27 h => ?_) (fun hb27 h => ?_)
          · refine wp_text [0, 1, 2, 3] rfl ?_
            refine ro_val (d := (some 38)) rfl (.free rfl) rfl (q_move (v := .pointer (r_1)) rfl rfl) ?_
            refine ro_wp rfl (.free rfl) (wp_clp (d := (some 39)) rfl (q_call (k := 34) (l := [.pointer (r_1)]) rfl ent34 rfl) h ?_ ?_)
            · exact fun _ _ h => pan_ok (P := Try.prog) (fn := Try.f25) h
            intro r25 w24 h
            refine ro_val (d := (some 40)) rfl (.free rfl) rfl (q_fieldAddr (a := a6) (off := 4) rfl Try.underlying36 rfl rfl ok9 (by decide) rfl) ?_
            obtain ⟨w26, hw26, hrw26, h⟩ := st_open h
            refine ro_skip (d := none) rfl (.free rfl) rfl (q_store (T := tStr) (u := r25) (a := (a6.add 4)) rfl ok9 rfl rfl hrw26 hw26) ?_
            refine ro_nil ?_
            exact ⟨(), _, arr (upd_step (upd_step rfl rfl) rfl), h⟩
          · refine wp_text [0, 1, 2] rfl ?_
            refine ro_val (d := (some 11)) rfl (.free rfl) rfl (q_build52_0 (v0 := (21 : Int)) rfl rfl) ?_
            refine ro_val (d := (some 12)) rfl (.free rfl) rfl (q_mkI (v := T51.enc ((⟨(21 : Int)⟩ : S51))) rfl Try.underlying52 rfl rfl) ?_
            refine ro_wp rfl (.free rfl) (wp_panic (v := (Iv.mk 52 (T51.enc ((⟨(21 : Int)⟩ : S51))))) rfl rfl ⟨_, _, rfl⟩ ?_)
            exact pan_ok (P := Try.prog) (fn := Try.f25) h

end Go.Proofs.Ytjhenlajkhckfaa.Cf
