/- Characteristic formulae of Go functions, and that they are. Printed by gen.py (own tool). -/
import Derived.Test.YtjkmeooncmhonaaTy
namespace Go.Proofs.Ytjkmeooncmhonaa.Cf
open Go
set_option maxRecDepth 100000
set_option maxHeartbeats 1000000
set_option linter.unusedVariables false
set_option linter.unusedSimpArgs false

-- moiety/wire.put
def F53_l1 (r22 : Int) (b_23 : Slc) (i_24 : Int) (w25 : World) (K26 : Slc × Int → World → Prop) (R : Slc → World → Prop) : Prop :=
  if (decide (i_24 ≥ (0 : Int))) = true then (
    ex (Shift (IntKind.u64.wrap i_24) (Int.fdiv r22 (2 ^ (min ((IntKind.u64.wrap i_24)).toNat IntKind.u64.bits)))) fun d27 =>
    apl 5 (tInt .u8) 1 1 b_23 [(IntKind.u8.wrap d27)] w25 fun r31 w30 =>
    K26 (r31, (IntKind.i64.wrap (i_24 - (8 : Int)))) w30
  ) else (
    R b_23 w25
  )
def F53 (b_1 : Slc) (v_2 : S90) (w : World) (R : Slc → World → Prop) : Prop :=
  nw 91 T90 v_2 w fun a3 w4 =>
  ex (RdAt (tInt .i64) (a3.add 0) w4) fun x5 =>
  apl 5 (tInt .u8) 1 1 b_1 [(IntKind.u8.wrap x5)] w4 fun r9 w8 =>
  ex (RdAt (tInt .i64) (a3.add 0) w8) fun x10 =>
  if (x10 == (1 : Int)) = true then (
    ex (RdAt (tInt .u64) (a3.add 1) w8) fun x11 =>
    cl Try.prog 66 [tSlc.enc (r9), .int .u64 (x11)] tSlc w8 fun r13 w12 =>
    R r13 w12
  ) else (
    if (x10 == (2 : Int)) = true then (
      ex (RdAt (tInt .i64) (a3.add 2) w8) fun x14 =>
      ex (Shift (1 : Int) (IntKind.u64.wrap ((IntKind.u64.wrap x14) * 2 ^ (min ((1 : Int)).toNat IntKind.u64.bits)))) fun d15 =>
      ex (RdAt (tInt .i64) (a3.add 2) w8) fun x16 =>
      ex (Shift (63 : Int) (Int.fdiv x16 (2 ^ (min ((63 : Int)).toNat IntKind.i64.bits)))) fun d17 =>
      cl Try.prog 66 [tSlc.enc (r9), .int .u64 ((bits .xor .u64 d15 (IntKind.u64.wrap d17)))] tSlc w8 fun r19 w18 =>
      R r19 w18
    ) else (
      if (x10 == (3 : Int)) = true then (
        ex (RdAt tFlt (a3.add 3) w8) fun x20 =>
        cl Try.prog 67 [.float .f64 (x20)] (tInt .u64) w8 fun r22 w21 =>
        lp (fun (s : Slc × Int) w K => F53_l1 r22 s.1 s.2 w K R) (r9, (56 : Int)) w21
      ) else (
        dr w8 fun w33 =>
        ex (RdAt tStr (a3.add 4) w33) fun x34 =>
        ex (RdAt tStr (a3.add 4) w33) fun x35 =>
        cl Try.prog 66 [tSlc.enc (r9), .int .u64 ((IntKind.u64.wrap (x34.length : Int)))] tSlc w33 fun r37 w36 =>
        kp ((RdAt tStr (a3.add 4) w36) x34) <|
        kp ((RdAt tStr (a3.add 4) w36) x35) <|
        apS 5 r37 x35 w36 fun r41 w40 =>
        kp ((RdAt tStr (a3.add 4) w40) x34) <|
        R r41 w40
      )
    )
  )
theorem F53_ok {b_1 : Slc} {v_2 : S90} {w : World} {R : Slc → World → Prop} (h : F53 b_1 v_2 w R) : cl Try.prog 53 [tSlc.enc (b_1), T90.enc (v_2)] tSlc w R := by
  unfold F53 at h
  refine calls_start 61 Try.func53 rfl rfl (Nat.le_of_ble_eq_true rfl) ?_
  refine wp_seq ?_
  refine wp_text [0, 1] rfl ?_
  obtain ⟨a3, w4, ha3, hw4, h⟩ := nw_open h
  refine rv 3 rfl rfl rfl (q_box (u := v_2) rfl ok91 rfl ha3 hw4) ?_
  refine rv 4 rfl rfl rfl (q_assign (v := tSlc.enc ((⟨none, 0, 0⟩ : Slc))) rfl rfl) ?_
  refine ro_nil ?_
  refine wp_seq ?_
  refine wp_text [0, 1, 2, 3, 4, 5, 6] rfl ?_
  refine rv 7 rfl rfl rfl (q_move (v := tSlc.enc (b_1)) rfl rfl) ?_
  refine rv 8 rfl rfl rfl (q_fieldAddr (a := a3) (off := 0) rfl Try.underlying91 rfl rfl ok87 (by decide) rfl) ?_
  obtain ⟨x5, hx5, h⟩ := h
  refine rv 9 rfl rfl rfl (q_load (T := (tInt .i64)) (u := x5) (a := (a3.add 0)) rfl ok87 rfl hx5) ?_
  refine rv 10 rfl rfl rfl (q_cvtI (a := x5) rfl Try.underlying87 Try.underlying5 rfl) ?_
  obtain ⟨a6, w7, ha6, hw7, h⟩ := apl_open h
  refine rv 11 rfl rfl rfl (q_rowOf (T := (tInt .u8)) (xs := [(IntKind.u8.wrap x5)]) rfl Try.underlying72 ok5 inf5 rfl (by decide) (by decide) rfl ha6 hw7) ?_
  refine ro_wp rfl (.free rfl) (wp_append (d := (some 12)) (T := (tInt .u8)) rfl rfl Try.underlying72 ⟨_, Try.underlying72⟩ ok5 inf5 rfl rfl (Nat.lt_of_lt_of_le Nat.zero_lt_one (Nat.le_of_ble_eq_true rfl)) rfl rfl h ?_)
  intro r9 w8 h
  refine rv 0 rfl rfl rfl (q_assign (v := tSlc.enc (r9)) rfl rfl) ?_
  refine ro_nil ?_
  refine wp_seq ?_
  refine wp_seq ?_
  refine wp_text [0, 1] rfl ?_
  refine rv 13 rfl rfl rfl (q_fieldAddr (a := a3) (off := 0) rfl Try.underlying91 rfl rfl ok87 (by decide) rfl) ?_
  obtain ⟨x10, hx10, h⟩ := h
  refine rv 14 rfl rfl rfl (q_load (T := (tInt .i64)) (u := x10) (a := (a3.add 0)) rfl ok87 rfl hx10) ?_
  refine ro_nil ?_
  refine wp_block ?_
  refine wp_seq ?_
  refine wp_text [0, 1] rfl ?_
  refine rv 16 rfl rfl rfl (q_eql (a := x10) (b := (1 : Int)) rfl rfl rfl) ?_
  refine rv 15 rfl rfl rfl (q_assign (v := .bool ((x10 == (1 : Int)))) rfl rfl) ?_
  refine ro_nil ?_
  refine wp_if (b := (x10 == (1 : Int))) rfl h (fun hb45 h => ?_) (fun hb45 h => ?_)
  · refine wp_seq ?_
    refine wp_text [0, 1, 2, 3, 4] rfl ?_
    refine rv 17 rfl rfl rfl (q_move (v := tSlc.enc (r9)) rfl rfl) ?_
    refine rv 18 rfl rfl rfl (q_fieldAddr (a := a3) (off := 1) rfl Try.underlying91 rfl rfl ok88 (by decide) rfl) ?_
    obtain ⟨x11, hx11, h⟩ := h
    refine rv 19 rfl rfl rfl (q_load (T := (tInt .u64)) (u := x11) (a := (a3.add 1)) rfl ok88 rfl hx11) ?_
    refine ro_wp rfl (.free rfl) (wp_cl (d := (some 20)) rfl (q_call (k := 66) (l := [tSlc.enc (r9), .int .u64 (x11)]) rfl ent66 rfl) h ?_)
    intro r13 w12 h
    refine rv 4 rfl rfl rfl (q_assign (v := tSlc.enc (r13)) rfl rfl) ?_
    refine ro_nil ?_
    refine wp_ret ?_
    exact ret_ok rfl (.cons (.tmp (v := tSlc.enc (r13)) rfl) .nil) ⟨r13, rfl, h⟩
  · refine wp_seq ?_
    refine wp_text [0, 1] rfl ?_
    refine rv 22 rfl rfl rfl (q_eql (a := x10) (b := (2 : Int)) rfl rfl rfl) ?_
    refine rv 21 rfl rfl rfl (q_assign (v := .bool ((x10 == (2 : Int)))) rfl rfl) ?_
    refine ro_nil ?_
    refine wp_if (b := (x10 == (2 : Int))) rfl h (fun hb44 h => ?_) (fun hb44 h => ?_)
    · refine wp_seq ?_
      refine wp_text [0, 1, 2, 3, 4, 5, 6, 7, 8, 9, 10, 11] rfl ?_
      refine rv 23 rfl rfl rfl (q_move (v := tSlc.enc (r9)) rfl rfl) ?_
      refine rv 24 rfl rfl rfl (q_fieldAddr (a := a3) (off := 2) rfl Try.underlying91 rfl rfl ok2 (by decide) rfl) ?_
      obtain ⟨x14, hx14, h⟩ := h
      refine rv 25 rfl rfl rfl (q_load (T := (tInt .i64)) (u := x14) (a := (a3.add 2)) rfl ok2 rfl hx14) ?_
      refine rv 26 rfl rfl rfl (q_cvtI (a := x14) rfl Try.underlying2 Try.underlying88 rfl) ?_
      obtain ⟨d15, hd15, h⟩ := h
      refine rv 27 rfl rfl rfl (q_shl (a := (IntKind.u64.wrap x14)) (b := (1 : Int)) (r := d15) rfl rfl rfl hd15) ?_
      refine rv 28 rfl rfl rfl (q_fieldAddr (a := a3) (off := 2) rfl Try.underlying91 rfl rfl ok2 (by decide) rfl) ?_
      obtain ⟨x16, hx16, h⟩ := h
      refine rv 29 rfl rfl rfl (q_load (T := (tInt .i64)) (u := x16) (a := (a3.add 2)) rfl ok2 rfl hx16) ?_
      obtain ⟨d17, hd17, h⟩ := h
      refine rv 30 rfl rfl rfl (q_shr (a := x16) (b := (63 : Int)) (r := d17) rfl rfl rfl hd17) ?_
      refine rv 31 rfl rfl rfl (q_cvtI (a := d17) rfl Try.underlying2 Try.underlying88 rfl) ?_
      refine rv 32 rfl rfl rfl (q_xor (a := d15) (b := (IntKind.u64.wrap d17)) rfl rfl rfl) ?_
      refine ro_wp rfl (.free rfl) (wp_cl (d := (some 33)) rfl (q_call (k := 66) (l := [tSlc.enc (r9), .int .u64 ((bits .xor .u64 d15 (IntKind.u64.wrap d17)))]) rfl ent66 rfl) h ?_)
      intro r19 w18 h
      refine rv 4 rfl rfl rfl (q_assign (v := tSlc.enc (r19)) rfl rfl) ?_
      refine ro_nil ?_
      refine wp_ret ?_
      exact ret_ok rfl (.cons (.tmp (v := tSlc.enc (r19)) rfl) .nil) ⟨r19, rfl, h⟩
    · refine wp_seq ?_
      refine wp_text [0, 1] rfl ?_
      refine rv 35 rfl rfl rfl (q_eql (a := x10) (b := (3 : Int)) rfl rfl rfl) ?_
      refine rv 34 rfl rfl rfl (q_assign (v := .bool ((x10 == (3 : Int)))) rfl rfl) ?_
      refine ro_nil ?_
      refine wp_if (b := (x10 == (3 : Int))) rfl h (fun hb43 h => ?_) (fun hb43 h => ?_)
      · refine wp_seq ?_
        refine wp_text [0, 1, 2, 3] rfl ?_
        refine rv 36 rfl rfl rfl (q_fieldAddr (a := a3) (off := 3) rfl Try.underlying91 rfl rfl ok89 (by decide) rfl) ?_
        obtain ⟨x20, hx20, h⟩ := h
        refine rv 37 rfl rfl rfl (q_load (T := tFlt) (u := x20) (a := (a3.add 3)) rfl ok89 rfl hx20) ?_
        refine ro_wp rfl (.free rfl) (wp_cl (d := (some 38)) rfl (q_call (k := 67) (l := [.float .f64 (x20)]) rfl ent67 rfl) h ?_)
        intro r22 w21 h
        refine rv 5 rfl rfl rfl (q_assign (v := .int .u64 (r22)) rfl rfl) ?_
        refine ro_nil ?_
        refine wp_seq ?_
        refine wp_seq ?_
        refine wp_text [0] rfl ?_
        refine rv 6 rfl rfl rfl (q_assign (v := .int .i64 ((56 : Int))) rfl rfl) ?_
        refine ro_nil ?_
        refine wp_block ?_
        refine loop_at (σ := Slc × Int) (fr := fun g (s : Slc × Int) => upd (upd (upd (g) 5 (.int .u64 (r22))) 0 (tSlc.enc (s.1))) 6 (.int .i64 (s.2))) (s0 := (r9, (56 : Int))) (upd_step (upd_step (upd_step rfl rfl) rfl) rfl) h ?_
        rintro ⟨b_23, i_24⟩ g w25 K26 h
        unfold F53_l1 at h
        refine wp_seq ?_
        refine wp_seq ?_
        refine wp_text [0, 1] rfl ?_
        refine rv 39 rfl rfl rfl (q_move (v := .int .i64 (i_24)) rfl rfl) ?_
        refine rv 40 rfl rfl rfl (q_geq (a := i_24) (b := (0 : Int)) rfl rfl rfl) ?_
        refine ro_nil ?_
        refine wp_if (b := (decide (i_24 ≥ (0 : Int)))) rfl h (fun hb32 h => ?_) (fun hb32 h => ?_)
        · refine wp_skip ?_
          refine wp_seq ?_
          refine wp_block ?_
          refine wp_text [0, 1, 2, 3, 4, 5, 6, 7, 8] rfl ?_
          refine rv 43 rfl rfl rfl (q_move (v := tSlc.enc (b_23)) rfl rfl) ?_
          refine rv 44 rfl rfl rfl (q_move (v := .int .u64 (r22)) rfl rfl) ?_
          refine rv 45 rfl rfl rfl (q_move (v := .int .i64 (i_24)) rfl rfl) ?_
          refine rv 46 rfl rfl rfl (q_cvtI (a := i_24) rfl Try.underlying3 Try.underlying136 rfl) ?_
          obtain ⟨d27, hd27, h⟩ := h
          refine rv 47 rfl rfl rfl (q_shr (a := r22) (b := (IntKind.u64.wrap i_24)) (r := d27) rfl rfl rfl hd27) ?_
          refine rv 48 rfl rfl rfl (q_cvtI (a := d27) rfl Try.underlying88 Try.underlying5 rfl) ?_
          obtain ⟨a28, w29, ha28, hw29, h⟩ := apl_open h
          refine rv 49 rfl rfl rfl (q_rowOf (T := (tInt .u8)) (xs := [(IntKind.u8.wrap d27)]) rfl Try.underlying72 ok5 inf5 rfl (by decide) (by decide) rfl ha28 hw29) ?_
          refine ro_wp rfl (.free rfl) (wp_append (d := (some 50)) (T := (tInt .u8)) rfl rfl Try.underlying72 ⟨_, Try.underlying72⟩ ok5 inf5 rfl rfl (Nat.lt_of_lt_of_le Nat.zero_lt_one (Nat.le_of_ble_eq_true rfl)) rfl rfl h ?_)
          intro r31 w30 h
          refine rv 0 rfl rfl rfl (q_assign (v := tSlc.enc (r31)) rfl rfl) ?_
          refine ro_nil ?_
          refine wp_text [0, 1, 2] rfl ?_
          refine rv 41 rfl rfl rfl (q_move (v := .int .i64 (i_24)) rfl rfl) ?_
          refine rv 42 rfl rfl rfl (q_sub (a := i_24) (b := (8 : Int)) rfl rfl rfl) ?_
          refine rv 6 rfl rfl rfl (q_assign (v := .int .i64 ((IntKind.i64.wrap (i_24 - (8 : Int))))) rfl rfl) ?_
          refine ro_nil ?_
          exact ⟨(r31, (IntKind.i64.wrap (i_24 - (8 : Int)))), _, arr (upd_step (upd_step (upd_step rfl rfl) rfl) rfl), h⟩
        · refine wp_exit ?_
          refine wp_seq ?_
          refine wp_text [0, 1] rfl ?_
          refine rv 51 rfl rfl rfl (q_move (v := tSlc.enc (b_23)) rfl rfl) ?_
          refine rv 4 rfl rfl rfl (q_assign (v := tSlc.enc (b_23)) rfl rfl) ?_
          refine ro_nil ?_
          refine wp_ret ?_
          exact ret_ok rfl (.cons (.tmp (v := tSlc.enc (b_23)) rfl) .nil) ⟨b_23, rfl, h⟩
      · refine wp_skip ?_
        refine wp_seq ?_
        obtain ⟨w33, hw33, h⟩ := dr_open h
        refine wp_drawn 10 mixed rfl (by kernel_rfl) (by intro c a d v w h; cases d <;> exact h) hw33 (fun hD => ?_)
        refine rp 0 52 hD rfl rfl rfl (fun _ => q_move (v := tSlc.enc (r9)) rfl rfl) ?_
        refine rp 1 53 hD rfl rfl rfl (fun _ => q_fieldAddr (a := a3) (off := 4) rfl Try.underlying91 rfl rfl ok9 (by decide) rfl) ?_
        refine rp 6 58 hD rfl rfl rfl (fun _ => q_fieldAddr (a := a3) (off := 4) rfl Try.underlying91 rfl rfl ok9 (by decide) rfl) ?_
        obtain ⟨x34, hx34, h⟩ := h
        refine rd_read (i := 2) (d := (some 54)) (fun W => (RdAt tStr (a3.add 4) W) x34) hD (by kernel_rfl) (by kernel_rfl) rfl (.free rfl) rfl (fun W hr => q_load (T := tStr) (u := x34) (a := (a3.add 4)) rfl ok9 rfl hr) hx34 ?_
        refine rp 3 55 hD rfl rfl rfl (fun _ => q_lenS (s := x34) rfl Try.underlying9 rfl) ?_
        refine rp 4 56 hD rfl rfl rfl (fun _ => q_cvtI (a := (x34.length : Int)) rfl Try.underlying3 Try.underlying88 rfl) ?_
        obtain ⟨x35, hx35, h⟩ := h
        refine rd_read (i := 7) (d := (some 59)) (fun W => (RdAt tStr (a3.add 4) W) x35) hD (by kernel_rfl) (by kernel_rfl) rfl (.free rfl) rfl (fun W hr => q_load (T := tStr) (u := x35) (a := (a3.add 4)) rfl ok9 rfl hr) hx35 ?_
        refine rd_one (i := 5) (by kernel_rfl) ?_
        refine po_wp rfl (.free rfl) (wp_cl (d := (some 57)) rfl (q_call (k := 66) (l := [tSlc.enc (r9), .int .u64 ((IntKind.u64.wrap (x34.length : Int)))]) rfl ent66 rfl) h ?_)
        intro r37 w36 h
        obtain ⟨hk38, h⟩ := h
        obtain ⟨hk39, h⟩ := h
        refine ⟨(hk_keep (fun _ => hk39) (hk_keep (fun _ => hk38) hk_nil)), ?_⟩
        refine rd_one (i := 8) (by kernel_rfl) ?_
        refine po_wp rfl (.free rfl) (wp_appendS (d := (some 60)) rfl rfl Try.underlying72 Try.underlying9 ok5 inf5 rfl rfl h ?_)
        intro r41 w40 h
        obtain ⟨hk42, h⟩ := h
        refine ⟨(hk_wait (by kernel_rfl) (hk_keep (fun _ => hk42) hk_nil)), ?_⟩
        refine rp 9 4 hD rfl rfl rfl (fun _ => q_assign (v := tSlc.enc (r41)) rfl rfl) ?_
        refine rd_nil (by kernel_rfl) ?_
        refine wp_ret ?_
        exact ret_ok rfl (.cons (.tmp (v := tSlc.enc (r41)) rfl) .nil) ⟨r41, rfl, h⟩

-- moiety/frame.Seal
def F54 (load_1 : Slc) (w : World) (R : (Slc × Int) → World → Prop) : Prop :=
  if (decide ((load_1.len : Int) > (65536 : Int))) = true then (
    R ((⟨none, 0, 0⟩ : Slc), (30 : Int)) w
  ) else (
    mkS 5 (tInt .u8) 1 (0 : Int) (0 : Int) (IntKind.i64.wrap ((8 : Int) + (load_1.len : Int))) w fun r3 w2 =>
    cl Try.prog 68 [tSlc.enc (r3), .int .u32 ((IntKind.u32.wrap (load_1.len : Int)))] tSlc w2 fun r5 w4 =>
    cl Try.prog 60 [tSlc.enc (r5), tSlc.enc (load_1)] (tInt .u32) w4 fun r7 w6 =>
    cl Try.prog 68 [tSlc.enc (r5), .int .u32 (r7)] tSlc w6 fun r9 w8 =>
    apd 5 (tInt .u8) 1 1 r9 load_1 w8 fun r11 w10 =>
    R (r11, (0 : Int)) w10
  )
theorem F54_ok {load_1 : Slc} {w : World} {R : (Slc × Int) → World → Prop} (h : F54 load_1 w R) : cl Try.prog 54 [tSlc.enc (load_1)] (tTup2 tSlc (tInt .i64)) w R := by
  unfold F54 at h
  refine calls_start 24 Try.func54 rfl rfl (Nat.le_of_ble_eq_true rfl) ?_
  refine wp_seq ?_
  refine wp_text [0, 1] rfl ?_
  refine rv 2 rfl rfl rfl (q_assign (v := tSlc.enc ((⟨none, 0, 0⟩ : Slc))) rfl rfl) ?_
  refine rv 3 rfl rfl rfl (q_assign (v := .int .i64 ((0 : Int))) rfl rfl) ?_
  refine ro_nil ?_
  refine wp_seq ?_
  refine wp_seq ?_
  refine wp_text [0, 1, 2] rfl ?_
  refine rv 5 rfl rfl rfl (q_move (v := tSlc.enc (load_1)) rfl rfl) ?_
  refine rv 6 rfl rfl rfl (q_len (s := load_1) rfl Try.underlying72 rfl) ?_
  refine rv 7 rfl rfl rfl (q_gtr (a := (load_1.len : Int)) (b := (65536 : Int)) rfl rfl rfl) ?_
  refine ro_nil ?_
  refine wp_if (b := (decide ((load_1.len : Int) > (65536 : Int)))) rfl h (fun hb12 h => ?_) (fun hb12 h => ?_)
  · refine wp_seq ?_
    refine wp_text [0, 1] rfl ?_
    refine rv 2 rfl rfl rfl (q_assign (v := tSlc.enc ((⟨none, 0, 0⟩ : Slc))) rfl rfl) ?_
    refine rv 3 rfl rfl rfl (q_assign (v := .int .i64 ((30 : Int))) rfl rfl) ?_
    refine ro_nil ?_
    refine wp_ret ?_
    exact ret_ok rfl (.cons (.tmp (v := tSlc.enc ((⟨none, 0, 0⟩ : Slc))) rfl) (.cons (.tmp (v := .int .i64 ((30 : Int))) rfl) .nil)) ⟨((⟨none, 0, 0⟩ : Slc), (30 : Int)), rfl, h⟩
  · refine wp_skip ?_
    refine wp_seq ?_
    refine wp_text [0, 1, 2, 3, 4, 5, 6, 7, 8] rfl ?_
    refine rv 8 rfl rfl rfl (q_move (v := tSlc.enc (load_1)) rfl rfl) ?_
    refine rv 9 rfl rfl rfl (q_len (s := load_1) rfl Try.underlying72 rfl) ?_
    refine rv 10 rfl rfl rfl (q_add (a := (8 : Int)) (b := (load_1.len : Int)) rfl rfl rfl) ?_
    refine ro_wp rfl (.free rfl) (wp_mkS (T := (tInt .u8)) (z := (0 : Int)) (l := (0 : Int)) (c := (IntKind.i64.wrap ((8 : Int) + (load_1.len : Int)))) (d := (some 11)) rfl rfl Try.underlying72 ok5 inf5 rfl rfl h ?_)
    intro r3 w2 h
    refine rv 12 rfl rfl rfl (q_move (v := tSlc.enc (load_1)) rfl rfl) ?_
    refine rv 13 rfl rfl rfl (q_len (s := load_1) rfl Try.underlying72 rfl) ?_
    refine rv 14 rfl rfl rfl (q_cvtI (a := (load_1.len : Int)) rfl Try.underlying3 Try.underlying137 rfl) ?_
    refine ro_wp rfl (.free rfl) (wp_cl (d := (some 15)) rfl (q_call (k := 68) (l := [tSlc.enc (r3), .int .u32 ((IntKind.u32.wrap (load_1.len : Int)))]) rfl ent68 rfl) h ?_)
    intro r5 w4 h
    refine rv 4 rfl rfl rfl (q_assign (v := tSlc.enc (r5)) rfl rfl) ?_
    refine ro_nil ?_
    refine wp_seq ?_
    refine wp_text [0, 1, 2, 3, 4, 5] rfl ?_
    refine rv 16 rfl rfl rfl (q_move (v := tSlc.enc (r5)) rfl rfl) ?_
    refine rv 17 rfl rfl rfl (q_move (v := tSlc.enc (r5)) rfl rfl) ?_
    refine rv 18 rfl rfl rfl (q_move (v := tSlc.enc (load_1)) rfl rfl) ?_
    refine ro_wp rfl (.free rfl) (wp_cl (d := (some 19)) rfl (q_call (k := 60) (l := [tSlc.enc (r5), tSlc.enc (load_1)]) rfl ent60 rfl) h ?_)
    intro r7 w6 h
    refine ro_wp rfl (.free rfl) (wp_cl (d := (some 20)) rfl (q_call (k := 68) (l := [tSlc.enc (r5), .int .u32 (r7)]) rfl ent68 rfl) h ?_)
    intro r9 w8 h
    refine rv 4 rfl rfl rfl (q_assign (v := tSlc.enc (r9)) rfl rfl) ?_
    refine ro_nil ?_
    refine wp_seq ?_
    refine wp_text [0, 1, 2, 3, 4] rfl ?_
    refine rv 21 rfl rfl rfl (q_move (v := tSlc.enc (r9)) rfl rfl) ?_
    refine rv 22 rfl rfl rfl (q_move (v := tSlc.enc (load_1)) rfl rfl) ?_
    refine ro_wp rfl (.free rfl) (wp_append (d := (some 23)) (T := (tInt .u8)) rfl rfl Try.underlying72 ⟨_, Try.underlying72⟩ ok5 inf5 rfl rfl (Nat.lt_of_lt_of_le Nat.zero_lt_one (Nat.le_of_ble_eq_true rfl)) rfl rfl h ?_)
    intro r11 w10 h
    refine rv 2 rfl rfl rfl (q_assign (v := tSlc.enc (r11)) rfl rfl) ?_
    refine rv 3 rfl rfl rfl (q_assign (v := .int .i64 ((0 : Int))) rfl rfl) ?_
    refine ro_nil ?_
    refine wp_ret ?_
    exact ret_ok rfl (.cons (.tmp (v := tSlc.enc (r11)) rfl) (.cons (.tmp (v := .int .i64 ((0 : Int))) rfl) .nil)) ⟨(r11, (0 : Int)), rfl, h⟩

-- (*moiety/disk.Disk).Append
def F55_j1 (d_1 : (Option Addr)) (n_2 : Int) (a4 : Addr) (size_7 : Int) (w8 : World) (R : Int → World → Prop) : Prop :=
  cl Try.prog 42 [.pointer (d_1), .int .i64 (n_2), .int .i64 (size_7), ((Fv.mk (.func 69) (List.toArray []) (List.toArray [.pointer (some a4)]))).enc] (tInt .i64) w8 fun r10 w9 =>
  R r10 w9
def F55 (d_1 : (Option Addr)) (n_2 : Int) (b_3 : Slc) (w : World) (R : Int → World → Prop) : Prop :=
  nw 72 tSlc b_3 w fun a4 w5 =>
  ex (RdAt tSlc a4 w5) fun x6 =>
  cl Try.prog 47 [.pointer (d_1), .int .i64 (n_2)] tBool w5 fun r12 w11 =>
  if r12 = true then (
    ex (NC d_1) fun a13 =>
    ex (RdAt tSlc (a13.add 0) w11) fun x14 =>
    ex (IxA x14 2 n_2) fun a15 =>
    ex (RdAt tSlc (a15.add 0) w11) fun x16 =>
    F55_j1 d_1 n_2 a4 (IntKind.i64.wrap ((x6.len : Int) + (x16.len : Int))) w11 R
  ) else (
    F55_j1 d_1 n_2 a4 (x6.len : Int) w11 R
  )
theorem F55_ok {d_1 : (Option Addr)} {n_2 : Int} {b_3 : Slc} {w : World} {R : Int → World → Prop} (h : F55 d_1 n_2 b_3 w R) : cl Try.prog 55 [.pointer (d_1), .int .i64 (n_2), tSlc.enc (b_3)] (tInt .i64) w R := by
  unfold F55 at h
  refine calls_start 29 Try.func55 rfl rfl (Nat.le_of_ble_eq_true rfl) ?_
  refine wp_seq ?_
  refine wp_text [0, 1] rfl ?_
  obtain ⟨a4, w5, ha4, hw5, h⟩ := nw_open h
  refine rv 5 rfl rfl rfl (q_box (u := b_3) rfl ok72 rfl ha4 hw5) ?_
  refine rv 6 rfl rfl rfl (q_assign (v := .int .i64 ((0 : Int))) rfl rfl) ?_
  refine ro_nil ?_
  refine wp_seq ?_
  refine wp_text [0, 1, 2] rfl ?_
  obtain ⟨x6, hx6, h⟩ := h
  refine rv 8 rfl rfl rfl (q_load (T := tSlc) (u := x6) (a := a4) rfl ok72 rfl hx6) ?_
  refine rv 9 rfl rfl rfl (q_len (s := x6) rfl Try.underlying72 rfl) ?_
  refine rv 7 rfl rfl rfl (q_assign (v := .int .i64 ((x6.len : Int))) rfl rfl) ?_
  refine ro_nil ?_
  refine seq_join (σ := Int) (J := fun (s : Int) w => F55_j1 d_1 n_2 a4 s w R) (fr := fun g (s : Int) => upd (upd (upd (upd (g) 0 (.pointer (d_1))) 1 (.int .i64 (n_2))) 5 (.pointer (some a4))) 7 (.int .i64 (s))) ?_ ?_
  · rintro size_7 g w8 h
    unfold F55_j1 at h
    refine wp_seq ?_
    refine wp_text [0, 1, 2, 3, 4, 5] rfl ?_
    refine rv 24 rfl rfl rfl (q_move (v := .pointer (d_1)) rfl rfl) ?_
    refine rv 25 rfl rfl rfl (q_move (v := .int .i64 (n_2)) rfl rfl) ?_
    refine rv 26 rfl rfl rfl (q_move (v := .int .i64 (size_7)) rfl rfl) ?_
    refine rv 27 rfl rfl rfl (q_makeFunc (fn := .func 69) (va := []) (vc := [.pointer (some a4)]) rfl rfl rfl) ?_
    refine ro_wp rfl (.free rfl) (wp_cl (d := (some 28)) rfl (q_call (k := 42) (l := [.pointer (d_1), .int .i64 (n_2), .int .i64 (size_7), ((Fv.mk (.func 69) (List.toArray []) (List.toArray [.pointer (some a4)]))).enc]) rfl ent42 rfl) h ?_)
    intro r10 w9 h
    refine rv 6 rfl rfl rfl (q_assign (v := .int .i64 (r10)) rfl rfl) ?_
    refine ro_nil ?_
    refine wp_ret ?_
    exact ret_ok rfl (.cons (.tmp (v := .int .i64 (r10)) rfl) .nil) ⟨r10, rfl, h⟩
  · refine wp_seq ?_
    refine wp_text [0, 1, 2] rfl ?_
    refine rv 10 rfl rfl rfl (q_move (v := .pointer (d_1)) rfl rfl) ?_
    refine rv 11 rfl rfl rfl (q_move (v := .int .i64 (n_2)) rfl rfl) ?_
    refine ro_wp rfl (.free rfl) (wp_cl (d := (some 12)) rfl (q_call (k := 47) (l := [.pointer (d_1), .int .i64 (n_2)]) rfl ent47 rfl) h ?_)
    intro r12 w11 h
    refine ro_nil ?_
    refine wp_if (b := r12) rfl h (fun hb17 h => ?_) (fun hb17 h => ?_)
    · refine wp_text [0, 1, 2, 3, 4, 5, 6, 7, 8, 9, 10, 11] rfl ?_
      refine rv 13 rfl rfl rfl (q_move (v := .int .i64 ((x6.len : Int))) rfl rfl) ?_
      refine rv 14 rfl rfl rfl (q_move (v := .pointer (d_1)) rfl rfl) ?_
      obtain ⟨a13, ha13, h⟩ := h
      refine rv 15 rfl rfl rfl (q_nilCheck (a := a13) rfl (congrArg Value.pointer ha13)) ?_
      refine rv 16 rfl rfl rfl (q_fieldAddr (a := a13) (off := 0) rfl Try.underlying80 rfl rfl ok78 (by decide) rfl) ?_
      obtain ⟨x14, hx14, h⟩ := h
      refine rv 17 rfl rfl rfl (q_load (T := tSlc) (u := x14) (a := (a13.add 0)) rfl ok78 rfl hx14) ?_
      refine rv 18 rfl rfl rfl (q_move (v := .int .i64 (n_2)) rfl rfl) ?_
      obtain ⟨a15, ha15, h⟩ := h
      refine rv 19 rfl rfl rfl (q_indexAddr (s := x14) (i := n_2) rfl Try.underlying78 ok102 rfl rfl ha15) ?_
      refine rv 20 rfl rfl rfl (q_fieldAddr (a := a15) (off := 0) rfl Try.underlying102 rfl rfl ok72 (by decide) rfl) ?_
      obtain ⟨x16, hx16, h⟩ := h
      refine rv 21 rfl rfl rfl (q_load (T := tSlc) (u := x16) (a := (a15.add 0)) rfl ok72 rfl hx16) ?_
      refine rv 22 rfl rfl rfl (q_len (s := x16) rfl Try.underlying72 rfl) ?_
      refine rv 23 rfl rfl rfl (q_add (a := (x6.len : Int)) (b := (x16.len : Int)) rfl rfl rfl) ?_
      refine rv 7 rfl rfl rfl (q_assign (v := .int .i64 ((IntKind.i64.wrap ((x6.len : Int) + (x16.len : Int))))) rfl rfl) ?_
      refine ro_nil ?_
      exact ⟨((IntKind.i64.wrap ((x6.len : Int) + (x16.len : Int)))), _, arr (upd_step (upd_step (upd_step (upd_step rfl rfl) rfl) rfl) rfl), h⟩
    · refine wp_skip ?_
      exact ⟨((x6.len : Int)), _, arr (upd_step (upd_step (upd_step (upd_step rfl rfl) rfl) rfl) rfl), h⟩

-- moiety/frame.read
def F59 (b_1 : Slc) (w : World) (R : Int → World → Prop) : Prop :=
  dr w fun w2 =>
  ex (IxA b_1 1 (0 : Int)) fun a3 =>
  ex (IxA b_1 1 (1 : Int)) fun a4 =>
  ex (IxA b_1 1 (2 : Int)) fun a5 =>
  ex (IxA b_1 1 (3 : Int)) fun a6 =>
  ex (RdAt (tInt .u8) a3 w2) fun x7 =>
  ex (Shift (24 : Int) (IntKind.u32.wrap ((IntKind.u32.wrap x7) * 2 ^ (min ((24 : Int)).toNat IntKind.u32.bits)))) fun d8 =>
  ex (RdAt (tInt .u8) a4 w2) fun x9 =>
  ex (Shift (16 : Int) (IntKind.u32.wrap ((IntKind.u32.wrap x9) * 2 ^ (min ((16 : Int)).toNat IntKind.u32.bits)))) fun d10 =>
  ex (RdAt (tInt .u8) a5 w2) fun x11 =>
  ex (Shift (8 : Int) (IntKind.u32.wrap ((IntKind.u32.wrap x11) * 2 ^ (min ((8 : Int)).toNat IntKind.u32.bits)))) fun d12 =>
  ex (RdAt (tInt .u8) a6 w2) fun x13 =>
  R (bits .or .u32 (bits .or .u32 (bits .or .u32 d8 d10) d12) (IntKind.u32.wrap x13)) w2
theorem F59_ok {b_1 : Slc} {w : World} {R : Int → World → Prop} (h : F59 b_1 w R) : cl Try.prog 59 [tSlc.enc (b_1)] (tInt .u32) w R := by
  unfold F59 at h
  refine calls_start 25 Try.func59 rfl rfl (Nat.le_of_ble_eq_true rfl) ?_
  refine wp_seq ?_
  refine wp_text [0] rfl ?_
  refine rv 2 rfl rfl rfl (q_assign (v := .int .u32 ((0 : Int))) rfl rfl) ?_
  refine ro_nil ?_
  refine wp_seq ?_
  obtain ⟨w2, hw2, h⟩ := dr_open h
  refine wp_drawn 23 mixed rfl (by kernel_rfl) (by intro c a d v w h; cases d <;> exact h) hw2 (fun hD => ?_)
  refine rp 0 3 hD rfl rfl rfl (fun _ => q_move (v := tSlc.enc (b_1)) rfl rfl) ?_
  obtain ⟨a3, ha3, h⟩ := h
  refine rp 1 4 hD rfl rfl rfl (fun _ => q_indexAddr (s := b_1) (i := (0 : Int)) rfl Try.underlying72 ok5 rfl rfl ha3) ?_
  refine rp 5 8 hD rfl rfl rfl (fun _ => q_move (v := tSlc.enc (b_1)) rfl rfl) ?_
  obtain ⟨a4, ha4, h⟩ := h
  refine rp 6 9 hD rfl rfl rfl (fun _ => q_indexAddr (s := b_1) (i := (1 : Int)) rfl Try.underlying72 ok5 rfl rfl ha4) ?_
  refine rp 11 14 hD rfl rfl rfl (fun _ => q_move (v := tSlc.enc (b_1)) rfl rfl) ?_
  obtain ⟨a5, ha5, h⟩ := h
  refine rp 12 15 hD rfl rfl rfl (fun _ => q_indexAddr (s := b_1) (i := (2 : Int)) rfl Try.underlying72 ok5 rfl rfl ha5) ?_
  refine rp 17 20 hD rfl rfl rfl (fun _ => q_move (v := tSlc.enc (b_1)) rfl rfl) ?_
  obtain ⟨a6, ha6, h⟩ := h
  refine rp 18 21 hD rfl rfl rfl (fun _ => q_indexAddr (s := b_1) (i := (3 : Int)) rfl Try.underlying72 ok5 rfl rfl ha6) ?_
  obtain ⟨x7, hx7, h⟩ := h
  refine rd_read (i := 2) (d := (some 5)) (fun W => (RdAt (tInt .u8) a3 W) x7) hD (by kernel_rfl) (by kernel_rfl) rfl (.free rfl) rfl (fun W hr => q_load (T := (tInt .u8)) (u := x7) (a := a3) rfl ok5 rfl hr) hx7 ?_
  refine rp 3 6 hD rfl rfl rfl (fun _ => q_cvtI (a := x7) rfl Try.underlying5 Try.underlying137 rfl) ?_
  obtain ⟨d8, hd8, h⟩ := h
  refine rp 4 7 hD rfl rfl rfl (fun _ => q_shl (a := (IntKind.u32.wrap x7)) (b := (24 : Int)) (r := d8) rfl rfl rfl hd8) ?_
  obtain ⟨x9, hx9, h⟩ := h
  refine rd_read (i := 7) (d := (some 10)) (fun W => (RdAt (tInt .u8) a4 W) x9) hD (by kernel_rfl) (by kernel_rfl) rfl (.free rfl) rfl (fun W hr => q_load (T := (tInt .u8)) (u := x9) (a := a4) rfl ok5 rfl hr) hx9 ?_
  refine rp 8 11 hD rfl rfl rfl (fun _ => q_cvtI (a := x9) rfl Try.underlying5 Try.underlying137 rfl) ?_
  obtain ⟨d10, hd10, h⟩ := h
  refine rp 9 12 hD rfl rfl rfl (fun _ => q_shl (a := (IntKind.u32.wrap x9)) (b := (16 : Int)) (r := d10) rfl rfl rfl hd10) ?_
  refine rp 10 13 hD rfl rfl rfl (fun _ => q_or (a := d8) (b := d10) rfl rfl rfl) ?_
  obtain ⟨x11, hx11, h⟩ := h
  refine rd_read (i := 13) (d := (some 16)) (fun W => (RdAt (tInt .u8) a5 W) x11) hD (by kernel_rfl) (by kernel_rfl) rfl (.free rfl) rfl (fun W hr => q_load (T := (tInt .u8)) (u := x11) (a := a5) rfl ok5 rfl hr) hx11 ?_
  refine rp 14 17 hD rfl rfl rfl (fun _ => q_cvtI (a := x11) rfl Try.underlying5 Try.underlying137 rfl) ?_
  obtain ⟨d12, hd12, h⟩ := h
  refine rp 15 18 hD rfl rfl rfl (fun _ => q_shl (a := (IntKind.u32.wrap x11)) (b := (8 : Int)) (r := d12) rfl rfl rfl hd12) ?_
  refine rp 16 19 hD rfl rfl rfl (fun _ => q_or (a := (bits .or .u32 d8 d10)) (b := d12) rfl rfl rfl) ?_
  obtain ⟨x13, hx13, h⟩ := h
  refine rd_read (i := 19) (d := (some 22)) (fun W => (RdAt (tInt .u8) a6 W) x13) hD (by kernel_rfl) (by kernel_rfl) rfl (.free rfl) rfl (fun W hr => q_load (T := (tInt .u8)) (u := x13) (a := a6) rfl ok5 rfl hr) hx13 ?_
  refine rp 20 23 hD rfl rfl rfl (fun _ => q_cvtI (a := x13) rfl Try.underlying5 Try.underlying137 rfl) ?_
  refine rp 21 24 hD rfl rfl rfl (fun _ => q_or (a := (bits .or .u32 (bits .or .u32 d8 d10) d12)) (b := (IntKind.u32.wrap x13)) rfl rfl rfl) ?_
  refine rp 22 2 hD rfl rfl rfl (fun _ => q_assign (v := .int .u32 ((bits .or .u32 (bits .or .u32 (bits .or .u32 d8 d10) d12) (IntKind.u32.wrap x13)))) rfl rfl) ?_
  refine rd_nil (by kernel_rfl) ?_
  refine wp_ret ?_
  exact ret_ok rfl (.cons (.tmp (v := .int .u32 ((bits .or .u32 (bits .or .u32 (bits .or .u32 d8 d10) d12) (IntKind.u32.wrap x13)))) rfl) .nil) ⟨(bits .or .u32 (bits .or .u32 (bits .or .u32 d8 d10) d12) (IntKind.u32.wrap x13)), rfl, h⟩

-- moiety/frame.both
def F60 (length_1 : Slc) (load_2 : Slc) (w : World) (R : Int → World → Prop) : Prop :=
  cl Try.prog 81 [.int .u32 ((4294967295 : Int)), tSlc.enc (length_1)] (tInt .u32) w fun r4 w3 =>
  cl Try.prog 81 [.int .u32 (r4), tSlc.enc (load_2)] (tInt .u32) w3 fun r6 w5 =>
  R (bits .xor .u32 IntKind.u32.max r6) w5
theorem F60_ok {length_1 : Slc} {load_2 : Slc} {w : World} {R : Int → World → Prop} (h : F60 length_1 load_2 w R) : cl Try.prog 60 [tSlc.enc (length_1), tSlc.enc (load_2)] (tInt .u32) w R := by
  unfold F60 at h
  refine calls_start 10 Try.func60 rfl rfl (Nat.le_of_ble_eq_true rfl) ?_
  refine wp_seq ?_
  refine wp_text [0] rfl ?_
  refine rv 4 rfl rfl rfl (q_assign (v := .int .u32 ((0 : Int))) rfl rfl) ?_
  refine ro_nil ?_
  refine wp_seq ?_
  refine wp_text [0, 1, 2, 3, 4, 5] rfl ?_
  refine rv 5 rfl rfl rfl (q_move (v := tSlc.enc (length_1)) rfl rfl) ?_
  refine ro_wp rfl (.free rfl) (wp_cl (d := (some 6)) rfl (q_call (k := 81) (l := [.int .u32 ((4294967295 : Int)), tSlc.enc (length_1)]) rfl ent81 rfl) h ?_)
  intro r4 w3 h
  refine rv 7 rfl rfl rfl (q_move (v := tSlc.enc (load_2)) rfl rfl) ?_
  refine ro_wp rfl (.free rfl) (wp_cl (d := (some 8)) rfl (q_call (k := 81) (l := [.int .u32 (r4), tSlc.enc (load_2)]) rfl ent81 rfl) h ?_)
  intro r6 w5 h
  refine rv 9 rfl rfl rfl (q_notU (a := r6) rfl rfl rfl) ?_
  refine rv 4 rfl rfl rfl (q_assign (v := .int .u32 ((bits .xor .u32 IntKind.u32.max r6))) rfl rfl) ?_
  refine ro_nil ?_
  refine wp_ret ?_
  exact ret_ok rfl (.cons (.tmp (v := .int .u32 ((bits .xor .u32 IntKind.u32.max r6))) rfl) .nil) ⟨(bits .xor .u32 IntKind.u32.max r6), rfl, h⟩

-- (*moiety/wire.reader).next
def F61 (r_1 : (Option Addr)) (w : World) (R : Int → World → Prop) (Pn : Iv → World → Prop) : Prop :=
  dr w fun w2 =>
  ex (NC r_1) fun a3 =>
  ex (RdAt (tInt .i64) (a3.add 1) w2) fun x4 =>
  ex (RdAt tSlc (a3.add 0) w2) fun x5 =>
  if (decide (x4 ≥ (x5.len : Int))) = true then (
    Pn (Iv.mk 127 (T126.enc ((⟨(22 : Int)⟩ : S126)))) w2
  ) else (
    ex (RdAt (tInt .i64) (a3.add 1) w2) fun x6 =>
    st (tInt .i64) (a3.add 1) (IntKind.i64.wrap (x6 + (1 : Int))) w2 fun w7 =>
    dr w7 fun w8 =>
    ex (RdAt tSlc (a3.add 0) w8) fun x9 =>
    ex (RdAt (tInt .i64) (a3.add 1) w8) fun x10 =>
    ex (IxA x9 1 (IntKind.i64.wrap (x10 - (1 : Int)))) fun a11 =>
    ex (RdAt (tInt .u8) a11 w8) fun x12 =>
    R x12 w8
  )
theorem F61_ok {r_1 : (Option Addr)} {w : World} {R : Int → World → Prop} {Pn : Iv → World → Prop} (h : F61 r_1 w R Pn) : clp Try.prog 61 [.pointer (r_1)] (tInt .u8) w Pn R := by
  unfold F61 at h
  refine calls_start 33 Try.func61 rfl rfl (Nat.le_of_ble_eq_true rfl) ?_
  refine wp_seq ?_
  refine wp_text [0] rfl ?_
  refine rv 2 rfl rfl rfl (q_assign (v := .int .u8 ((0 : Int))) rfl rfl) ?_
  refine ro_nil ?_
  refine wp_seq ?_
  refine wp_seq ?_
  obtain ⟨w2, hw2, h⟩ := dr_open h
  refine wp_drawn 10 mixed rfl (by kernel_rfl) (by intro c a d v w h; cases d <;> exact h) hw2 (fun hD => ?_)
  refine rp 0 3 hD rfl rfl rfl (fun _ => q_move (v := .pointer (r_1)) rfl rfl) ?_
  obtain ⟨a3, ha3, h⟩ := h
  refine rp 1 4 hD rfl rfl rfl (fun _ => q_nilCheck (a := a3) rfl (congrArg Value.pointer ha3)) ?_
  refine rp 2 5 hD rfl rfl rfl (fun _ => q_fieldAddr (a := a3) (off := 1) rfl Try.underlying125 rfl rfl ok3 (by decide) rfl) ?_
  refine rp 4 7 hD rfl rfl rfl (fun _ => q_move (v := .pointer (r_1)) rfl rfl) ?_
  refine rp 5 8 hD rfl rfl rfl (fun _ => q_nilCheck (a := a3) rfl (congrArg Value.pointer ha3)) ?_
  refine rp 6 9 hD rfl rfl rfl (fun _ => q_fieldAddr (a := a3) (off := 0) rfl Try.underlying125 rfl rfl ok72 (by decide) rfl) ?_
  obtain ⟨x4, hx4, h⟩ := h
  refine rd_read (i := 3) (d := (some 6)) (fun W => (RdAt (tInt .i64) (a3.add 1) W) x4) hD (by kernel_rfl) (by kernel_rfl) rfl (.free rfl) rfl (fun W hr => q_load (T := (tInt .i64)) (u := x4) (a := (a3.add 1)) rfl ok3 rfl hr) hx4 ?_
  obtain ⟨x5, hx5, h⟩ := h
  refine rd_read (i := 7) (d := (some 10)) (fun W => (RdAt tSlc (a3.add 0) W) x5) hD (by kernel_rfl) (by kernel_rfl) rfl (.free rfl) rfl (fun W hr => q_load (T := tSlc) (u := x5) (a := (a3.add 0)) rfl ok72 rfl hr) hx5 ?_
  refine rp 8 11 hD rfl rfl rfl (fun _ => q_len (s := x5) rfl Try.underlying72 rfl) ?_
  refine rp 9 12 hD rfl rfl rfl (fun _ => q_geq (a := x4) (b := (x5.len : Int)) rfl rfl rfl) ?_
  refine rd_nil (by kernel_rfl) ?_
  refine wp_if (b := (decide (x4 ≥ (x5.len : Int)))) rfl h (fun hb13 h => ?_) (fun hb13 h => ?_)
  · refine wp_text [0, 1, 2] rfl ?_
    refine rv 13 rfl rfl rfl (q_build127_0 (v0 := (22 : Int)) rfl rfl) ?_
    refine rv 14 rfl rfl rfl (q_mkI (v := T126.enc ((⟨(22 : Int)⟩ : S126))) rfl Try.underlying127 rfl rfl) ?_
    refine ro_wp rfl (.free rfl) (wp_panic (v := (Iv.mk 127 (T126.enc ((⟨(22 : Int)⟩ : S126))))) rfl rfl ⟨_, _, rfl⟩ ?_)
    exact pan_ok (P := Try.prog) (fn := Try.f61) h
  · refine wp_skip ?_
    refine wp_seq ?_
    refine wp_text [0, 1, 2, 3, 4, 5, 6, 7] rfl ?_
    refine rv 15 rfl rfl rfl (q_move (v := .pointer (r_1)) rfl rfl) ?_
    refine rv 16 rfl rfl rfl (q_nilCheck (a := a3) rfl (congrArg Value.pointer ha3)) ?_
    refine rv 17 rfl rfl rfl (q_fieldAddr (a := a3) (off := 1) rfl Try.underlying125 rfl rfl ok3 (by decide) rfl) ?_
    obtain ⟨x6, hx6, h⟩ := h
    refine rv 18 rfl rfl rfl (q_load (T := (tInt .i64)) (u := x6) (a := (a3.add 1)) rfl ok3 rfl hx6) ?_
    refine rv 19 rfl rfl rfl (q_add (a := x6) (b := (1 : Int)) rfl rfl rfl) ?_
    refine rv 20 rfl rfl rfl (q_nilCheck (a := a3) rfl (congrArg Value.pointer ha3)) ?_
    refine rv 21 rfl rfl rfl (q_fieldAddr (a := a3) (off := 1) rfl Try.underlying125 rfl rfl ok3 (by decide) rfl) ?_
    obtain ⟨w7, hw7, hrw7, h⟩ := st_open h
    refine ro_skip (d := none) rfl (.free rfl) rfl (q_store (T := (tInt .i64)) (u := (IntKind.i64.wrap (x6 + (1 : Int)))) (a := (a3.add 1)) rfl ok3 rfl rfl hrw7 hw7) ?_
    refine ro_nil ?_
    refine wp_seq ?_
    obtain ⟨w8, hw8, h⟩ := dr_open h
    refine wp_drawn 12 mixed rfl (by kernel_rfl) (by intro c a d v w h; cases d <;> exact h) hw8 (fun hD => ?_)
    refine rp 0 22 hD rfl rfl rfl (fun _ => q_move (v := .pointer (r_1)) rfl rfl) ?_
    refine rp 1 23 hD rfl rfl rfl (fun _ => q_nilCheck (a := a3) rfl (congrArg Value.pointer ha3)) ?_
    refine rp 2 24 hD rfl rfl rfl (fun _ => q_fieldAddr (a := a3) (off := 0) rfl Try.underlying125 rfl rfl ok72 (by decide) rfl) ?_
    refine rp 4 26 hD rfl rfl rfl (fun _ => q_move (v := .pointer (r_1)) rfl rfl) ?_
    refine rp 5 27 hD rfl rfl rfl (fun _ => q_nilCheck (a := a3) rfl (congrArg Value.pointer ha3)) ?_
    refine rp 6 28 hD rfl rfl rfl (fun _ => q_fieldAddr (a := a3) (off := 1) rfl Try.underlying125 rfl rfl ok3 (by decide) rfl) ?_
    obtain ⟨x9, hx9, h⟩ := h
    refine rd_read (i := 3) (d := (some 25)) (fun W => (RdAt tSlc (a3.add 0) W) x9) hD (by kernel_rfl) (by kernel_rfl) rfl (.free rfl) rfl (fun W hr => q_load (T := tSlc) (u := x9) (a := (a3.add 0)) rfl ok72 rfl hr) hx9 ?_
    obtain ⟨x10, hx10, h⟩ := h
    refine rd_read (i := 7) (d := (some 29)) (fun W => (RdAt (tInt .i64) (a3.add 1) W) x10) hD (by kernel_rfl) (by kernel_rfl) rfl (.free rfl) rfl (fun W hr => q_load (T := (tInt .i64)) (u := x10) (a := (a3.add 1)) rfl ok3 rfl hr) hx10 ?_
    refine rp 8 30 hD rfl rfl rfl (fun _ => q_sub (a := x10) (b := (1 : Int)) rfl rfl rfl) ?_
    obtain ⟨a11, ha11, h⟩ := h
    refine rp 9 31 hD rfl rfl rfl (fun _ => q_indexAddr (s := x9) (i := (IntKind.i64.wrap (x10 - (1 : Int)))) rfl Try.underlying72 ok5 rfl rfl ha11) ?_
    obtain ⟨x12, hx12, h⟩ := h
    refine rd_read (i := 10) (d := (some 32)) (fun W => (RdAt (tInt .u8) a11 W) x12) hD (by kernel_rfl) (by kernel_rfl) rfl (.free rfl) rfl (fun W hr => q_load (T := (tInt .u8)) (u := x12) (a := a11) rfl ok5 rfl hr) hx12 ?_
    refine rp 11 2 hD rfl rfl rfl (fun _ => q_assign (v := .int .u8 (x12)) rfl rfl) ?_
    refine rd_nil (by kernel_rfl) ?_
    refine wp_ret ?_
    exact ret_ok rfl (.cons (.tmp (v := .int .u8 (x12)) rfl) .nil) ⟨x12, rfl, h⟩

-- (*moiety/wire.reader).number
def F62_l1 (r_1 : (Option Addr)) (n_2 : Int) (by_3 : Int) (w4 : World) (K5 : Int × Int → World → Prop) (R : Int → World → Prop) (Pn : Iv → World → Prop) : Prop :=
  clp Try.prog 61 [.pointer (r_1)] (tInt .u8) w4 Pn fun r7 w6 =>
  if (((by_3 == (63 : Int)) && (decide (r7 > (1 : Int)))) || ((decide (by_3 > (0 : Int))) && (r7 == (0 : Int)))) = true then (
    Pn (Iv.mk 127 (T126.enc ((⟨(23 : Int)⟩ : S126)))) w6
  ) else (
    ex (Shift by_3 (IntKind.u64.wrap ((IntKind.u64.wrap (bits .and .u8 r7 (127 : Int))) * 2 ^ (min (by_3).toNat IntKind.u64.bits)))) fun d8 =>
    if (decide (r7 < (128 : Int))) = true then (
      R (bits .or .u64 n_2 d8) w6
    ) else (
      K5 ((bits .or .u64 n_2 d8), (IntKind.u64.wrap (by_3 + (7 : Int)))) w6
    )
  )
def F62 (r_1 : (Option Addr)) (w : World) (R : Int → World → Prop) (Pn : Iv → World → Prop) : Prop :=
  lp (fun (s : Int × Int) w K => F62_l1 r_1 s.1 s.2 w K R Pn) ((0 : Int), (0 : Int)) w
theorem F62_ok {r_1 : (Option Addr)} {w : World} {R : Int → World → Prop} {Pn : Iv → World → Prop} (h : F62 r_1 w R Pn) : clp Try.prog 62 [.pointer (r_1)] (tInt .u64) w Pn R := by
  unfold F62 at h
  refine calls_start 36 Try.func62 rfl rfl (Nat.le_of_ble_eq_true rfl) ?_
  refine wp_seq ?_
  refine wp_text [0] rfl ?_
  refine rv 2 rfl rfl rfl (q_assign (v := .int .u64 ((0 : Int))) rfl rfl) ?_
  refine ro_nil ?_
  refine wp_seq ?_
  refine wp_text [0] rfl ?_
  refine rv 3 rfl rfl rfl (q_assign (v := .int .u64 ((0 : Int))) rfl rfl) ?_
  refine ro_nil ?_
  refine wp_seq ?_
  refine wp_text [0] rfl ?_
  refine rv 4 rfl rfl rfl (q_assign (v := .int .u64 ((0 : Int))) rfl rfl) ?_
  refine ro_nil ?_
  refine wp_block ?_
  refine loop_at (σ := Int × Int) (fr := fun g (s : Int × Int) => upd (upd (upd (g) 0 (.pointer (r_1))) 3 (.int .u64 (s.1))) 4 (.int .u64 (s.2))) (s0 := ((0 : Int), (0 : Int))) (upd_step (upd_step (upd_step rfl rfl) rfl) rfl) h ?_
  rintro ⟨n_2, by_3⟩ g w4 K5 h
  unfold F62_l1 at h
  refine wp_seq ?_
  refine wp_block ?_
  refine wp_seq ?_
  refine wp_text [0, 1, 2] rfl ?_
  refine rv 8 rfl rfl rfl (q_move (v := .pointer (r_1)) rfl rfl) ?_
  refine ro_wp rfl (.free rfl) (wp_clp (d := (some 9)) rfl (q_call (k := 61) (l := [.pointer (r_1)]) rfl ent61 rfl) h ?_ ?_)
  · exact fun _ _ h => pan_ok (P := Try.prog) (fn := Try.f62) h
  intro r7 w6 h
  refine rv 5 rfl rfl rfl (q_assign (v := .int .u8 (r7)) rfl rfl) ?_
  refine ro_nil ?_
  refine wp_seq ?_
  refine wp_seq ?_
  refine wp_text [0, 1, 2, 3, 4, 5, 6, 7, 8, 9, 10, 11, 12, 13] rfl ?_
  refine rv 10 rfl rfl rfl (q_move (v := .int .u64 (by_3)) rfl rfl) ?_
  refine rv 11 rfl rfl rfl (q_eql (a := by_3) (b := (63 : Int)) rfl rfl rfl) ?_
  refine rv 12 rfl rfl rfl (q_move (v := .bool ((by_3 == (63 : Int)))) rfl rfl) ?_
  refine ro_gval (g := (by_3 == (63 : Int))) (d := (some 13)) rfl (.yes 2 12 true (by_3 == (63 : Int)) rfl rfl rfl rfl) rfl (fun hg => q_move (v := .int .u8 (r7)) rfl rfl) ?_
  refine ro_gval (g := (by_3 == (63 : Int))) (d := (some 14)) rfl (.yes 2 12 true (by_3 == (63 : Int)) rfl rfl rfl rfl) rfl (fun hg => q_gtr (a := r7) (b := (1 : Int)) rfl (gvb_yes hg) rfl) ?_
  refine rv 15 rfl rfl rfl (q_pickGT (a := (by_3 == (63 : Int))) (b := (decide (r7 > (1 : Int)))) rfl rfl rfl rfl) ?_
  refine rv 16 rfl rfl rfl (q_move (v := .bool (((by_3 == (63 : Int)) && (decide (r7 > (1 : Int)))))) rfl rfl) ?_
  refine ro_gval (g := (!((by_3 == (63 : Int)) && (decide (r7 > (1 : Int)))))) (d := (some 17)) rfl (.no 6 16 true ((by_3 == (63 : Int)) && (decide (r7 > (1 : Int)))) rfl rfl rfl rfl) rfl (fun hg => q_move (v := .int .u64 (by_3)) rfl rfl) ?_
  refine ro_gval (g := (!((by_3 == (63 : Int)) && (decide (r7 > (1 : Int)))))) (d := (some 18)) rfl (.no 6 16 true ((by_3 == (63 : Int)) && (decide (r7 > (1 : Int)))) rfl rfl rfl rfl) rfl (fun hg => q_gtr (a := by_3) (b := (0 : Int)) rfl (gvb_yes hg) rfl) ?_
  refine ro_gval (g := (!((by_3 == (63 : Int)) && (decide (r7 > (1 : Int)))))) (d := (some 19)) rfl (.no 6 16 true ((by_3 == (63 : Int)) && (decide (r7 > (1 : Int)))) rfl rfl rfl rfl) rfl (fun hg => q_move (v := .bool ((decide (by_3 > (0 : Int))))) rfl (gvb_yes hg)) ?_
  refine ro_gval (g := ((!((by_3 == (63 : Int)) && (decide (r7 > (1 : Int))))) && (decide (by_3 > (0 : Int))))) (d := (some 20)) rfl (.yes 9 19 (!((by_3 == (63 : Int)) && (decide (r7 > (1 : Int))))) (decide (by_3 > (0 : Int))) rfl rfl rfl rfl) rfl (fun hg => q_move (v := .int .u8 (r7)) rfl rfl) ?_
  refine ro_gval (g := ((!((by_3 == (63 : Int)) && (decide (r7 > (1 : Int))))) && (decide (by_3 > (0 : Int))))) (d := (some 21)) rfl (.yes 9 19 (!((by_3 == (63 : Int)) && (decide (r7 > (1 : Int))))) (decide (by_3 > (0 : Int))) rfl rfl rfl rfl) rfl (fun hg => q_eql (a := r7) (b := (0 : Int)) rfl (gvb_yes hg) rfl) ?_
  refine ro_gval (g := (!((by_3 == (63 : Int)) && (decide (r7 > (1 : Int)))))) (d := (some 22)) rfl (.no 6 16 true ((by_3 == (63 : Int)) && (decide (r7 > (1 : Int)))) rfl rfl rfl rfl) rfl (fun hg => q_pickNT (g0 := (!((by_3 == (63 : Int)) && (decide (r7 > (1 : Int)))))) (a := (decide (by_3 > (0 : Int)))) (b := (r7 == (0 : Int))) hg rfl rfl rfl rfl) ?_
  refine rv 23 rfl rfl rfl (q_pickGF (a := ((by_3 == (63 : Int)) && (decide (r7 > (1 : Int))))) (c := ((decide (by_3 > (0 : Int))) && (r7 == (0 : Int)))) rfl rfl rfl rfl) ?_
  refine ro_nil ?_
  refine wp_if (b := (((by_3 == (63 : Int)) && (decide (r7 > (1 : Int)))) || ((decide (by_3 > (0 : Int))) && (r7 == (0 : Int))))) rfl h (fun hb10 h => ?_) (fun hb10 h => ?_)
  · refine wp_text [0, 1, 2] rfl ?_
    refine rv 24 rfl rfl rfl (q_build127_0 (v0 := (23 : Int)) rfl rfl) ?_
    refine rv 25 rfl rfl rfl (q_mkI (v := T126.enc ((⟨(23 : Int)⟩ : S126))) rfl Try.underlying127 rfl rfl) ?_
    refine ro_wp rfl (.free rfl) (wp_panic (v := (Iv.mk 127 (T126.enc ((⟨(23 : Int)⟩ : S126))))) rfl rfl ⟨_, _, rfl⟩ ?_)
    exact pan_ok (P := Try.prog) (fn := Try.f62) h
  · refine wp_skip ?_
    refine wp_seq ?_
    refine wp_text [0, 1, 2, 3, 4, 5, 6, 7] rfl ?_
    refine rv 26 rfl rfl rfl (q_move (v := .int .u64 (n_2)) rfl rfl) ?_
    refine rv 27 rfl rfl rfl (q_move (v := .int .u8 (r7)) rfl rfl) ?_
    refine rv 28 rfl rfl rfl (q_and (a := r7) (b := (127 : Int)) rfl rfl rfl) ?_
    refine rv 29 rfl rfl rfl (q_cvtI (a := (bits .and .u8 r7 (127 : Int))) rfl Try.underlying5 Try.underlying88 rfl) ?_
    refine rv 30 rfl rfl rfl (q_move (v := .int .u64 (by_3)) rfl rfl) ?_
    obtain ⟨d8, hd8, h⟩ := h
    refine rv 31 rfl rfl rfl (q_shl (a := (IntKind.u64.wrap (bits .and .u8 r7 (127 : Int)))) (b := by_3) (r := d8) rfl rfl rfl hd8) ?_
    refine rv 32 rfl rfl rfl (q_or (a := n_2) (b := d8) rfl rfl rfl) ?_
    refine rv 3 rfl rfl rfl (q_assign (v := .int .u64 ((bits .or .u64 n_2 d8))) rfl rfl) ?_
    refine ro_nil ?_
    refine wp_seq ?_
    refine wp_text [0, 1] rfl ?_
    refine rv 33 rfl rfl rfl (q_move (v := .int .u8 (r7)) rfl rfl) ?_
    refine rv 34 rfl rfl rfl (q_lss (a := r7) (b := (128 : Int)) rfl rfl rfl) ?_
    refine ro_nil ?_
    refine wp_if (b := (decide (r7 < (128 : Int)))) rfl h (fun hb9 h => ?_) (fun hb9 h => ?_)
    · refine wp_seq ?_
      refine wp_text [0, 1] rfl ?_
      refine rv 35 rfl rfl rfl (q_move (v := .int .u64 ((bits .or .u64 n_2 d8))) rfl rfl) ?_
      refine rv 2 rfl rfl rfl (q_assign (v := .int .u64 ((bits .or .u64 n_2 d8))) rfl rfl) ?_
      refine ro_nil ?_
      refine wp_ret ?_
      exact ret_ok rfl (.cons (.tmp (v := .int .u64 ((bits .or .u64 n_2 d8))) rfl) .nil) ⟨(bits .or .u64 n_2 d8), rfl, h⟩
    · refine wp_skip ?_
      refine wp_text [0, 1, 2] rfl ?_
      refine rv 6 rfl rfl rfl (q_move (v := .int .u64 (by_3)) rfl rfl) ?_
      refine rv 7 rfl rfl rfl (q_add (a := by_3) (b := (7 : Int)) rfl rfl rfl) ?_
      refine rv 4 rfl rfl rfl (q_assign (v := .int .u64 ((IntKind.u64.wrap (by_3 + (7 : Int))))) rfl rfl) ?_
      refine ro_nil ?_
      exact ⟨((bits .or .u64 n_2 d8), (IntKind.u64.wrap (by_3 + (7 : Int)))), _, arr (upd_step (upd_step (upd_step rfl rfl) rfl) rfl), h⟩

-- (*moiety/wire.reader).float
def F63_l1 (r_1 : (Option Addr)) (n_2 : Int) (t_3 : Int) (w4 : World) (K5 : Int × Int → World → Prop) (R : Nat → World → Prop) (Pn : Iv → World → Prop) : Prop :=
  if (decide (t_3 < (8 : Int))) = true then (
    ex (Shift (8 : Int) (IntKind.u64.wrap (n_2 * 2 ^ (min ((8 : Int)).toNat IntKind.u64.bits)))) fun d6 =>
    clp Try.prog 61 [.pointer (r_1)] (tInt .u8) w4 Pn fun r8 w7 =>
    K5 ((bits .or .u64 d6 (IntKind.u64.wrap r8)), (IntKind.i64.wrap (t_3 + (1 : Int)))) w7
  ) else (
    cl Try.prog 67 [.float .f64 ((Int.toNat n_2))] (tInt .u64) w4 fun r10 w9 =>
    if (r10 != n_2) = true then (
      Pn (Iv.mk 127 (T126.enc ((⟨(25 : Int)⟩ : S126)))) w9
    ) else (
      R (Int.toNat n_2) w9
    )
  )
def F63 (r_1 : (Option Addr)) (w : World) (R : Nat → World → Prop) (Pn : Iv → World → Prop) : Prop :=
  lp (fun (s : Int × Int) w K => F63_l1 r_1 s.1 s.2 w K R Pn) ((0 : Int), (0 : Int)) w
theorem F63_ok {r_1 : (Option Addr)} {w : World} {R : Nat → World → Prop} {Pn : Iv → World → Prop} (h : F63 r_1 w R Pn) : clp Try.prog 63 [.pointer (r_1)] tFlt w Pn R := by
  unfold F63 at h
  refine calls_start 23 Try.func63 rfl rfl (Nat.le_of_ble_eq_true rfl) ?_
  refine wp_seq ?_
  refine wp_text [0] rfl ?_
  refine rv 2 rfl rfl rfl (q_assign (v := .float .f64 ((0 : Nat))) rfl rfl) ?_
  refine ro_nil ?_
  refine wp_seq ?_
  refine wp_text [0] rfl ?_
  refine rv 3 rfl rfl rfl (q_assign (v := .int .u64 ((0 : Int))) rfl rfl) ?_
  refine ro_nil ?_
  refine wp_seq ?_
  refine wp_seq ?_
  refine wp_text [0] rfl ?_
  refine rv 5 rfl rfl rfl (q_move (v := .int .i64 ((0 : Int))) rfl rfl) ?_
  refine ro_nil ?_
  refine wp_block ?_
  refine loop_at (σ := Int × Int) (fr := fun g (s : Int × Int) => upd (upd (upd (g) 0 (.pointer (r_1))) 3 (.int .u64 (s.1))) 5 (.int .i64 (s.2))) (s0 := ((0 : Int), (0 : Int))) (upd_step (upd_step (upd_step rfl rfl) rfl) rfl) h ?_
  rintro ⟨n_2, t_3⟩ g w4 K5 h
  unfold F63_l1 at h
  refine wp_seq ?_
  refine wp_text [0] rfl ?_
  refine rv 6 rfl rfl rfl (q_lss (a := t_3) (b := (8 : Int)) rfl rfl rfl) ?_
  refine ro_nil ?_
  refine wp_seq ?_
  refine wp_if (b := (decide (t_3 < (8 : Int)))) rfl h (fun hb12 h => ?_) (fun hb12 h => ?_)
  · refine wp_skip ?_
    refine wp_seq ?_
    refine wp_block ?_
    refine wp_text [0, 1, 2, 3, 4, 5, 6] rfl ?_
    refine rv 7 rfl rfl rfl (q_move (v := .int .u64 (n_2)) rfl rfl) ?_
    obtain ⟨d6, hd6, h⟩ := h
    refine rv 8 rfl rfl rfl (q_shl (a := n_2) (b := (8 : Int)) (r := d6) rfl rfl rfl hd6) ?_
    refine rv 9 rfl rfl rfl (q_move (v := .pointer (r_1)) rfl rfl) ?_
    refine ro_wp rfl (.free rfl) (wp_clp (d := (some 10)) rfl (q_call (k := 61) (l := [.pointer (r_1)]) rfl ent61 rfl) h ?_ ?_)
    · exact fun _ _ h => pan_ok (P := Try.prog) (fn := Try.f63) h
    intro r8 w7 h
    refine rv 11 rfl rfl rfl (q_cvtI (a := r8) rfl Try.underlying5 Try.underlying88 rfl) ?_
    refine rv 12 rfl rfl rfl (q_or (a := d6) (b := (IntKind.u64.wrap r8)) rfl rfl rfl) ?_
    refine rv 3 rfl rfl rfl (q_assign (v := .int .u64 ((bits .or .u64 d6 (IntKind.u64.wrap r8)))) rfl rfl) ?_
    refine ro_nil ?_
    refine wp_text [0, 1] rfl ?_
    refine rv 13 rfl rfl rfl (q_add (a := t_3) (b := (1 : Int)) rfl rfl rfl) ?_
    refine rv 5 rfl rfl rfl (q_move (v := .int .i64 ((IntKind.i64.wrap (t_3 + (1 : Int))))) rfl rfl) ?_
    refine ro_nil ?_
    exact ⟨((bits .or .u64 d6 (IntKind.u64.wrap r8)), (IntKind.i64.wrap (t_3 + (1 : Int)))), _, arr (upd_step (upd_step (upd_step rfl rfl) rfl) rfl), h⟩
  · refine wp_exit ?_
    refine wp_seq ?_
    refine wp_text [0, 1, 2] rfl ?_
    refine rv 14 rfl rfl rfl (q_move (v := .int .u64 (n_2)) rfl rfl) ?_
    refine rv 15 rfl rfl rfl (q_f64from (b := n_2) rfl ext82 rfl) ?_
    refine rv 4 rfl rfl rfl (q_assign (v := .float .f64 ((Int.toNat n_2))) rfl rfl) ?_
    refine ro_nil ?_
    refine wp_seq ?_
    refine wp_seq ?_
    refine wp_text [0, 1, 2, 3] rfl ?_
    refine rv 16 rfl rfl rfl (q_move (v := .float .f64 ((Int.toNat n_2))) rfl rfl) ?_
    refine ro_wp rfl (.free rfl) (wp_cl (d := (some 17)) rfl (q_call (k := 67) (l := [.float .f64 ((Int.toNat n_2))]) rfl ent67 rfl) h ?_)
    intro r10 w9 h
    refine rv 18 rfl rfl rfl (q_move (v := .int .u64 (n_2)) rfl rfl) ?_
    refine rv 19 rfl rfl rfl (q_neq (a := r10) (b := n_2) rfl rfl rfl) ?_
    refine ro_nil ?_
    refine wp_if (b := (r10 != n_2)) rfl h (fun hb11 h => ?_) (fun hb11 h => ?_)
    · refine wp_text [0, 1, 2] rfl ?_
      refine rv 20 rfl rfl rfl (q_build127_0 (v0 := (25 : Int)) rfl rfl) ?_
      refine rv 21 rfl rfl rfl (q_mkI (v := T126.enc ((⟨(25 : Int)⟩ : S126))) rfl Try.underlying127 rfl rfl) ?_
      refine ro_wp rfl (.free rfl) (wp_panic (v := (Iv.mk 127 (T126.enc ((⟨(25 : Int)⟩ : S126))))) rfl rfl ⟨_, _, rfl⟩ ?_)
      exact pan_ok (P := Try.prog) (fn := Try.f63) h
    · refine wp_skip ?_
      refine wp_seq ?_
      refine wp_text [0, 1] rfl ?_
      refine rv 22 rfl rfl rfl (q_move (v := .float .f64 ((Int.toNat n_2))) rfl rfl) ?_
      refine rv 2 rfl rfl rfl (q_assign (v := .float .f64 ((Int.toNat n_2))) rfl rfl) ?_
      refine ro_nil ?_
      refine wp_ret ?_
      exact ret_ok rfl (.cons (.tmp (v := .float .f64 ((Int.toNat n_2))) rfl) .nil) ⟨(Int.toNat n_2), rfl, h⟩

-- (*moiety/wire.reader).text
def F64 (r_1 : (Option Addr)) (w : World) (R : (List UInt8) → World → Prop) (Pn : Iv → World → Prop) : Prop :=
  clp Try.prog 62 [.pointer (r_1)] (tInt .u64) w Pn fun r3 w2 =>
  if (decide (r3 > (1000 : Int))) = true then (
    Pn (Iv.mk 127 (T126.enc ((⟨(24 : Int)⟩ : S126)))) w2
  ) else (
    dr w2 fun w4 =>
    ex (NC r_1) fun a5 =>
    ex (RdAt tSlc (a5.add 0) w4) fun x6 =>
    ex (RdAt (tInt .i64) (a5.add 1) w4) fun x7 =>
    if (decide ((IntKind.u64.wrap (IntKind.i64.wrap ((x6.len : Int) - x7))) < r3)) = true then (
      Pn (Iv.mk 127 (T126.enc ((⟨(22 : Int)⟩ : S126)))) w4
    ) else (
      ex (RdAt (tInt .i64) (a5.add 1) w4) fun x8 =>
      st (tInt .i64) (a5.add 1) (IntKind.i64.wrap (x8 + (IntKind.i64.wrap r3))) w4 fun w9 =>
      dr w9 fun w10 =>
      ex (RdAt tSlc (a5.add 0) w10) fun x11 =>
      ex (RdAt (tInt .i64) (a5.add 1) w10) fun x12 =>
      ex (RdAt (tInt .i64) (a5.add 1) w10) fun x13 =>
      ex (Sub x11 1 (IntKind.i64.wrap (x12 - (IntKind.i64.wrap r3))) x13 ((x11).cap : Int)) fun s14 =>
      ex (B2S s14 w10) fun s15 =>
      R s15 w10
    )
  )
theorem F64_ok {r_1 : (Option Addr)} {w : World} {R : (List UInt8) → World → Prop} {Pn : Iv → World → Prop} (h : F64 r_1 w R Pn) : clp Try.prog 64 [.pointer (r_1)] tStr w Pn R := by
  unfold F64 at h
  refine calls_start 51 Try.func64 rfl rfl (Nat.le_of_ble_eq_true rfl) ?_
  refine wp_seq ?_
  refine wp_text [0] rfl ?_
  refine rv 2 rfl rfl rfl (q_assign (v := .string ⟨(([] : List UInt8)).toArray⟩) rfl rfl) ?_
  refine ro_nil ?_
  refine wp_seq ?_
  refine wp_text [0, 1, 2] rfl ?_
  refine rv 4 rfl rfl rfl (q_move (v := .pointer (r_1)) rfl rfl) ?_
  refine ro_wp rfl (.free rfl) (wp_clp (d := (some 5)) rfl (q_call (k := 62) (l := [.pointer (r_1)]) rfl ent62 rfl) h ?_ ?_)
  · exact fun _ _ h => pan_ok (P := Try.prog) (fn := Try.f64) h
  intro r3 w2 h
  refine rv 3 rfl rfl rfl (q_assign (v := .int .u64 (r3)) rfl rfl) ?_
  refine ro_nil ?_
  refine wp_seq ?_
  refine wp_seq ?_
  refine wp_text [0, 1] rfl ?_
  refine rv 6 rfl rfl rfl (q_move (v := .int .u64 (r3)) rfl rfl) ?_
  refine rv 7 rfl rfl rfl (q_gtr (a := r3) (b := (1000 : Int)) rfl rfl rfl) ?_
  refine ro_nil ?_
  refine wp_if (b := (decide (r3 > (1000 : Int)))) rfl h (fun hb17 h => ?_) (fun hb17 h => ?_)
  · refine wp_text [0, 1, 2] rfl ?_
    refine rv 8 rfl rfl rfl (q_build127_0 (v0 := (24 : Int)) rfl rfl) ?_
    refine rv 9 rfl rfl rfl (q_mkI (v := T126.enc ((⟨(24 : Int)⟩ : S126))) rfl Try.underlying127 rfl rfl) ?_
    refine ro_wp rfl (.free rfl) (wp_panic (v := (Iv.mk 127 (T126.enc ((⟨(24 : Int)⟩ : S126))))) rfl rfl ⟨_, _, rfl⟩ ?_)
    exact pan_ok (P := Try.prog) (fn := Try.f64) h
  · refine wp_skip ?_
    refine wp_seq ?_
    refine wp_seq ?_
    obtain ⟨w4, hw4, h⟩ := dr_open h
    refine wp_drawn 13 mixed rfl (by kernel_rfl) (by intro c a d v w h; cases d <;> exact h) hw4 (fun hD => ?_)
    refine rp 0 10 hD rfl rfl rfl (fun _ => q_move (v := .pointer (r_1)) rfl rfl) ?_
    obtain ⟨a5, ha5, h⟩ := h
    refine rp 1 11 hD rfl rfl rfl (fun _ => q_nilCheck (a := a5) rfl (congrArg Value.pointer ha5)) ?_
    refine rp 2 12 hD rfl rfl rfl (fun _ => q_fieldAddr (a := a5) (off := 0) rfl Try.underlying125 rfl rfl ok72 (by decide) rfl) ?_
    refine rp 5 15 hD rfl rfl rfl (fun _ => q_move (v := .pointer (r_1)) rfl rfl) ?_
    refine rp 6 16 hD rfl rfl rfl (fun _ => q_nilCheck (a := a5) rfl (congrArg Value.pointer ha5)) ?_
    refine rp 7 17 hD rfl rfl rfl (fun _ => q_fieldAddr (a := a5) (off := 1) rfl Try.underlying125 rfl rfl ok3 (by decide) rfl) ?_
    refine rp 11 21 hD rfl rfl rfl (fun _ => q_move (v := .int .u64 (r3)) rfl rfl) ?_
    obtain ⟨x6, hx6, h⟩ := h
    refine rd_read (i := 3) (d := (some 13)) (fun W => (RdAt tSlc (a5.add 0) W) x6) hD (by kernel_rfl) (by kernel_rfl) rfl (.free rfl) rfl (fun W hr => q_load (T := tSlc) (u := x6) (a := (a5.add 0)) rfl ok72 rfl hr) hx6 ?_
    refine rp 4 14 hD rfl rfl rfl (fun _ => q_len (s := x6) rfl Try.underlying72 rfl) ?_
    obtain ⟨x7, hx7, h⟩ := h
    refine rd_read (i := 8) (d := (some 18)) (fun W => (RdAt (tInt .i64) (a5.add 1) W) x7) hD (by kernel_rfl) (by kernel_rfl) rfl (.free rfl) rfl (fun W hr => q_load (T := (tInt .i64)) (u := x7) (a := (a5.add 1)) rfl ok3 rfl hr) hx7 ?_
    refine rp 9 19 hD rfl rfl rfl (fun _ => q_sub (a := (x6.len : Int)) (b := x7) rfl rfl rfl) ?_
    refine rp 10 20 hD rfl rfl rfl (fun _ => q_cvtI (a := (IntKind.i64.wrap ((x6.len : Int) - x7))) rfl Try.underlying3 Try.underlying88 rfl) ?_
    refine rp 12 22 hD rfl rfl rfl (fun _ => q_lss (a := (IntKind.u64.wrap (IntKind.i64.wrap ((x6.len : Int) - x7)))) (b := r3) rfl rfl rfl) ?_
    refine rd_nil (by kernel_rfl) ?_
    refine wp_if (b := (decide ((IntKind.u64.wrap (IntKind.i64.wrap ((x6.len : Int) - x7))) < r3))) rfl h (fun hb16 h => ?_) (fun hb16 h => ?_)
    · refine wp_text [0, 1, 2] rfl ?_
      refine rv 23 rfl rfl rfl (q_build127_0 (v0 := (22 : Int)) rfl rfl) ?_
      refine rv 24 rfl rfl rfl (q_mkI (v := T126.enc ((⟨(22 : Int)⟩ : S126))) rfl Try.underlying127 rfl rfl) ?_
      refine ro_wp rfl (.free rfl) (wp_panic (v := (Iv.mk 127 (T126.enc ((⟨(22 : Int)⟩ : S126))))) rfl rfl ⟨_, _, rfl⟩ ?_)
      exact pan_ok (P := Try.prog) (fn := Try.f64) h
    · refine wp_skip ?_
      refine wp_seq ?_
      refine wp_text [0, 1, 2, 3, 4, 5, 6, 7, 8, 9] rfl ?_
      refine rv 25 rfl rfl rfl (q_move (v := .pointer (r_1)) rfl rfl) ?_
      refine rv 26 rfl rfl rfl (q_nilCheck (a := a5) rfl (congrArg Value.pointer ha5)) ?_
      refine rv 27 rfl rfl rfl (q_fieldAddr (a := a5) (off := 1) rfl Try.underlying125 rfl rfl ok3 (by decide) rfl) ?_
      obtain ⟨x8, hx8, h⟩ := h
      refine rv 28 rfl rfl rfl (q_load (T := (tInt .i64)) (u := x8) (a := (a5.add 1)) rfl ok3 rfl hx8) ?_
      refine rv 29 rfl rfl rfl (q_move (v := .int .u64 (r3)) rfl rfl) ?_
      refine rv 30 rfl rfl rfl (q_cvtI (a := r3) rfl Try.underlying88 Try.underlying3 rfl) ?_
      refine rv 31 rfl rfl rfl (q_add (a := x8) (b := (IntKind.i64.wrap r3)) rfl rfl rfl) ?_
      refine rv 32 rfl rfl rfl (q_nilCheck (a := a5) rfl (congrArg Value.pointer ha5)) ?_
      refine rv 33 rfl rfl rfl (q_fieldAddr (a := a5) (off := 1) rfl Try.underlying125 rfl rfl ok3 (by decide) rfl) ?_
      obtain ⟨w9, hw9, hrw9, h⟩ := st_open h
      refine ro_skip (d := none) rfl (.free rfl) rfl (q_store (T := (tInt .i64)) (u := (IntKind.i64.wrap (x8 + (IntKind.i64.wrap r3)))) (a := (a5.add 1)) rfl ok3 rfl rfl hrw9 hw9) ?_
      refine ro_nil ?_
      refine wp_seq ?_
      obtain ⟨w10, hw10, h⟩ := dr_open h
      refine wp_drawn 18 mixed rfl (by kernel_rfl) (by intro c a d v w h; cases d <;> exact h) hw10 (fun hD => ?_)
      refine rp 0 34 hD rfl rfl rfl (fun _ => q_move (v := .pointer (r_1)) rfl rfl) ?_
      refine rp 1 35 hD rfl rfl rfl (fun _ => q_nilCheck (a := a5) rfl (congrArg Value.pointer ha5)) ?_
      refine rp 2 36 hD rfl rfl rfl (fun _ => q_fieldAddr (a := a5) (off := 0) rfl Try.underlying125 rfl rfl ok72 (by decide) rfl) ?_
      refine rp 4 38 hD rfl rfl rfl (fun _ => q_move (v := .pointer (r_1)) rfl rfl) ?_
      refine rp 5 39 hD rfl rfl rfl (fun _ => q_nilCheck (a := a5) rfl (congrArg Value.pointer ha5)) ?_
      refine rp 6 40 hD rfl rfl rfl (fun _ => q_fieldAddr (a := a5) (off := 1) rfl Try.underlying125 rfl rfl ok3 (by decide) rfl) ?_
      refine rp 8 42 hD rfl rfl rfl (fun _ => q_move (v := .int .u64 (r3)) rfl rfl) ?_
      refine rp 9 43 hD rfl rfl rfl (fun _ => q_cvtI (a := r3) rfl Try.underlying88 Try.underlying3 rfl) ?_
      refine rp 11 45 hD rfl rfl rfl (fun _ => q_move (v := .pointer (r_1)) rfl rfl) ?_
      refine rp 12 46 hD rfl rfl rfl (fun _ => q_nilCheck (a := a5) rfl (congrArg Value.pointer ha5)) ?_
      refine rp 13 47 hD rfl rfl rfl (fun _ => q_fieldAddr (a := a5) (off := 1) rfl Try.underlying125 rfl rfl ok3 (by decide) rfl) ?_
      obtain ⟨x11, hx11, h⟩ := h
      refine rd_read (i := 3) (d := (some 37)) (fun W => (RdAt tSlc (a5.add 0) W) x11) hD (by kernel_rfl) (by kernel_rfl) rfl (.free rfl) rfl (fun W hr => q_load (T := tSlc) (u := x11) (a := (a5.add 0)) rfl ok72 rfl hr) hx11 ?_
      obtain ⟨x12, hx12, h⟩ := h
      refine rd_read (i := 7) (d := (some 41)) (fun W => (RdAt (tInt .i64) (a5.add 1) W) x12) hD (by kernel_rfl) (by kernel_rfl) rfl (.free rfl) rfl (fun W hr => q_load (T := (tInt .i64)) (u := x12) (a := (a5.add 1)) rfl ok3 rfl hr) hx12 ?_
      refine rp 10 44 hD rfl rfl rfl (fun _ => q_sub (a := x12) (b := (IntKind.i64.wrap r3)) rfl rfl rfl) ?_
      obtain ⟨x13, hx13, h⟩ := h
      refine rd_read (i := 14) (d := (some 48)) (fun W => (RdAt (tInt .i64) (a5.add 1) W) x13) hD (by kernel_rfl) (by kernel_rfl) rfl (.free rfl) rfl (fun W hr => q_load (T := (tInt .i64)) (u := x13) (a := (a5.add 1)) rfl ok3 rfl hr) hx13 ?_
      obtain ⟨s14, hs14, h⟩ := h
      refine rp 15 49 hD rfl rfl rfl (fun _ => q_sliceLH (s := x11) (l := (IntKind.i64.wrap (x12 - (IntKind.i64.wrap r3)))) (h := x13) rfl Try.underlying72 ok5 rfl rfl rfl hs14) ?_
      obtain ⟨s15, hs15, h⟩ := h
      refine rd_read (i := 16) (d := (some 50)) (fun W => (B2S s14 W) s15) hD (by kernel_rfl) (by kernel_rfl) rfl (.free rfl) rfl (fun W hr => q_b2s (b := s14) (r := s15) rfl Try.underlying72 Try.underlying5 Try.underlying9 rfl hr) hs15 ?_
      refine rp 17 2 hD rfl rfl rfl (fun _ => q_assign (v := .string ⟨(s15).toArray⟩) rfl rfl) ?_
      refine rd_nil (by kernel_rfl) ?_
      refine wp_ret ?_
      exact ret_ok rfl (.cons (.tmp (v := .string ⟨(s15).toArray⟩) rfl) .nil) ⟨s15, rfl, h⟩

end Go.Proofs.Ytjkmeooncmhonaa.Cf
