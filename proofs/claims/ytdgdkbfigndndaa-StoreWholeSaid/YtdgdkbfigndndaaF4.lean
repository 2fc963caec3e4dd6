/- Characteristic formulae of Go functions, and that they are. Printed by gen.py (own tool). -/
import Derived.Test.YtdgdkbfigndndaaTy
namespace Go.Proofs.Ytdgdkbfigndndaa.Cf
open Go
set_option maxRecDepth 100000
set_option maxHeartbeats 1000000
set_option linter.unusedVariables false
set_option linter.unusedSimpArgs false

-- moiety/moietylaw12.StoreTurns
def F8_l2 (r18 : S32) (r22 : S32) (i_25 : Int) (k_28 : Int) (w29 : World) (K27 : Int → World → Prop) (K30 : Int → World → Prop) (R : Bool → World → Prop) : Prop :=
  if (decide (k_28 < (r22.L.len : Int))) = true then (
    dr w29 fun w31 =>
    ex (IxA r18.L 2 i_25) fun a32 =>
    ex (IxA r22.L 2 k_28) fun a33 =>
    ex (RdAt (tInt .i64) (a32.add 0) w31) fun x34 =>
    ex (RdAt (tInt .i64) (a33.add 0) w31) fun x35 =>
    if (x34 == x35) = true then (
      R true w31
    ) else (
      K30 ((IntKind.i64.wrap (k_28 + (1 : Int)))) w31
    )
  ) else (
    K27 ((IntKind.i64.wrap (i_25 + (1 : Int)))) w29
  )
def F8_j4 (t_64 : Int) (t_73 : Bool) (w74 : World) (K66 : Int → World → Prop) (R : Bool → World → Prop) : Prop :=
  if t_73 = true then (
    R false w74
  ) else (
    K66 ((IntKind.i64.wrap (t_64 + (1 : Int)))) w74
  )
def F8_l3 (r9 : (Option Addr)) (r11 : (Option Addr)) (r42 : Int) (r45 : Int) (r51 : Int) (r54 : Int) (a62 : Addr) (t_64 : Int) (w65 : World) (K66 : Int → World → Prop) (R : Bool → World → Prop) : Prop :=
  if (decide (t_64 < ((⟨some a62, 3, 3⟩ : Slc).len : Int))) = true then (
    ex (IxA (⟨some a62, 3, 3⟩ : Slc) 1 t_64) fun a67 =>
    ex (RdAt (tInt .i64) a67 w65) fun x68 =>
    cl Try.prog 18 [.pointer (r9), .int .i64 (x68)] (tTup2 tSlc (tInt .i64)) w65 fun r70 w69 =>
    cl Try.prog 18 [.pointer (r11), .int .i64 (x68)] (tTup2 tSlc (tInt .i64)) w69 fun r72 w71 =>
    if (r70.2 != r72.2) = true then (
      F8_j4 t_64 true w71 K66 R
    ) else (
      cl Try.prog 20 [tSlc.enc (r70.1), tSlc.enc (r72.1)] tBool w71 fun r78 w77 =>
      F8_j4 t_64 (!r78) w77 K66 R
    )
  ) else (
    R ((r42 == r54) && (r45 == r51)) w65
  )
def F8_l1 (a4 : Addr) (a6 : Addr) (r9 : (Option Addr)) (r11 : (Option Addr)) (r18 : S32) (r22 : S32) (i_25 : Int) (w26 : World) (K27 : Int → World → Prop) (R : Bool → World → Prop) : Prop :=
  if (decide (i_25 < (r18.L.len : Int))) = true then (
    lp (fun (s : Int) w K => F8_l2 r18 r22 i_25 s w K27 K R) ((0 : Int)) w26
  ) else (
    dr w26 fun w38 =>
    ex (RdAt (tInt .i64) (a4.add 0) w38) fun x39 =>
    ex (RdAt (tInt .i64) (a6.add 0) w38) fun x40 =>
    cl Try.prog 23 [.pointer (r9), .int .i64 (x39), tSlc.enc (r18.L)] (tInt .i64) w38 fun r42 w41 =>
    kp ((RdAt (tInt .i64) (a6.add 0) w41) x40) <|
    cl Try.prog 23 [.pointer (r9), .int .i64 (x40), tSlc.enc (r22.L)] (tInt .i64) w41 fun r45 w44 =>
    kp ((RdAt (tInt .i64) (a4.add 0) w44) x39) <|
    dr w44 fun w47 =>
    ex (RdAt (tInt .i64) (a6.add 0) w47) fun x48 =>
    ex (RdAt (tInt .i64) (a4.add 0) w47) fun x49 =>
    cl Try.prog 23 [.pointer (r11), .int .i64 (x48), tSlc.enc (r22.L)] (tInt .i64) w47 fun r51 w50 =>
    kp ((RdAt (tInt .i64) (a4.add 0) w50) x49) <|
    cl Try.prog 23 [.pointer (r11), .int .i64 (x49), tSlc.enc (r18.L)] (tInt .i64) w50 fun r54 w53 =>
    kp ((RdAt (tInt .i64) (a6.add 0) w53) x48) <|
    cl Try.prog 24 [.pointer (r9), .int .i64 ((1125899906842624 : Int))] (tInt .i64) w53 fun r57 w56 =>
    cl Try.prog 24 [.pointer (r11), .int .i64 ((1125899906842624 : Int))] (tInt .i64) w56 fun r59 w58 =>
    ex (RdAt (tInt .i64) (a4.add 0) w58) fun x60 =>
    ex (RdAt (tInt .i64) (a6.add 0) w58) fun x61 =>
    nwS 2 (tInt .i64) [x60, x61, (1125899906842624 : Int)] w58 fun a62 w63 =>
    lp (fun (s : Int) w K => F8_l3 r9 r11 r42 r45 r51 r54 a62 s w K R) ((0 : Int)) w63
  )
def F8 (l_1 : Slc) (a_2 : S51) (b_3 : S51) (w : World) (R : Bool → World → Prop) : Prop :=
  nw 52 T51 a_2 w fun a4 w5 =>
  nw 52 T51 b_3 w5 fun a6 w7 =>
  cl Try.prog 21 [tSlc.enc (l_1)] tPtr w7 fun r9 w8 =>
  cl Try.prog 21 [tSlc.enc (l_1)] tPtr w8 fun r11 w10 =>
  cl Try.prog 10 [] tBool w10 fun r13 w12 =>
  if (((!r13) || r9.isNone) || r11.isNone) = true then (
    R false w12
  ) else (
    dr w12 fun w14 =>
    ex (RdAt tSlc (a4.add 1) w14) fun x15 =>
    ex (RdAt tSlc (a6.add 1) w14) fun x16 =>
    cl Try.prog 12 [T32.enc ((⟨(0 : Int), (0 : Int), (0 : Int), x15⟩ : S32))] T32 w14 fun r18 w17 =>
    kp ((RdAt tSlc (a4.add 1) w17) x15) <|
    kp ((RdAt tSlc (a6.add 1) w17) x16) <|
    cl Try.prog 12 [T32.enc ((⟨(0 : Int), (0 : Int), (0 : Int), x16⟩ : S32))] T32 w17 fun r22 w21 =>
    kp ((RdAt tSlc (a4.add 1) w21) x15) <|
    kp ((RdAt tSlc (a6.add 1) w21) x16) <|
    lp (fun (s : Int) w K => F8_l1 a4 a6 r9 r11 r18 r22 s w K R) ((0 : Int)) w21
  )
theorem F8_ok {l_1 : Slc} {a_2 : S51} {b_3 : S51} {w : World} {R : Bool → World → Prop} (h : F8 l_1 a_2 b_3 w R) : cl Try.prog 8 [tSlc.enc (l_1), T51.enc (a_2), T51.enc (b_3)] tBool w R := by
  unfold F8 at h
  refine calls_start 134 Try.func8 rfl rfl (Nat.le_of_ble_eq_true rfl) ?_
  refine wp_seq ?_
  refine wp_text [0, 1, 2] rfl ?_
  obtain ⟨a4, w5, ha4, hw5, h⟩ := nw_open h
  refine ro_val (d := (some 4)) rfl (.free rfl) rfl (q_box (u := a_2) rfl ok52 rfl ha4 hw5) ?_
  obtain ⟨a6, w7, ha6, hw7, h⟩ := nw_open h
  refine ro_val (d := (some 5)) rfl (.free rfl) rfl (q_box (u := b_3) rfl ok52 rfl ha6 hw7) ?_
  refine ro_val (d := (some 6)) rfl (.free rfl) rfl (q_assign (v := .bool (false)) rfl rfl) ?_
  refine ro_nil ?_
  refine wp_seq ?_
  refine wp_text [0, 1, 2, 3, 4, 5] rfl ?_
  refine ro_val (d := (some 23)) rfl (.free rfl) rfl (q_move (v := tSlc.enc (l_1)) rfl rfl) ?_
  refine ro_wp rfl (.free rfl) (wp_cl (d := (some 24)) rfl (q_call (k := 21) (l := [tSlc.enc (l_1)]) rfl ent21 rfl) h ?_)
  intro r9 w8 h
  refine ro_val (d := (some 25)) rfl (.free rfl) rfl (q_move (v := tSlc.enc (l_1)) rfl rfl) ?_
  refine ro_wp rfl (.free rfl) (wp_cl (d := (some 26)) rfl (q_call (k := 21) (l := [tSlc.enc (l_1)]) rfl ent21 rfl) h ?_)
  intro r11 w10 h
  refine ro_val (d := (some 7)) rfl (.free rfl) rfl (q_assign (v := .pointer (r9)) rfl rfl) ?_
  refine ro_val (d := (some 8)) rfl (.free rfl) rfl (q_assign (v := .pointer (r11)) rfl rfl) ?_
  refine ro_nil ?_
  refine wp_seq ?_
  refine wp_seq ?_
  refine wp_text [0, 1, 2, 3, 4, 5, 6, 7, 8, 9] rfl ?_
  refine ro_wp rfl (.free rfl) (wp_cl (d := (some 27)) rfl (q_call (k := 10) (l := []) rfl ent10 rfl) h ?_)
  intro r13 w12 h
  refine ro_val (d := (some 28)) rfl (.free rfl) rfl (q_not (b := r13) rfl rfl) ?_
  refine ro_val (d := (some 29)) rfl (.free rfl) rfl (q_move (v := .bool ((!r13))) rfl rfl) ?_
  refine ro_gval (g := (!(!r13))) (d := (some 30)) rfl (.no 2 29 true (!r13) rfl rfl rfl rfl) rfl (fun hg => q_move (v := .pointer (r9)) rfl rfl) ?_
  refine ro_gval (g := (!(!r13))) (d := (some 31)) rfl (.no 2 29 true (!r13) rfl rfl rfl rfl) rfl (fun hg => q_eqP0 (a := r9) rfl Try.underlying23 (gvb_yes hg) rfl) ?_
  refine ro_val (d := (some 32)) rfl (.free rfl) rfl (q_pickGF (a := (!r13)) (c := r9.isNone) rfl rfl rfl rfl) ?_
  refine ro_val (d := (some 33)) rfl (.free rfl) rfl (q_move (v := .bool (((!r13) || r9.isNone))) rfl rfl) ?_
  refine ro_gval (g := (!((!r13) || r9.isNone))) (d := (some 34)) rfl (.no 6 33 true ((!r13) || r9.isNone) rfl rfl rfl rfl) rfl (fun hg => q_move (v := .pointer (r11)) rfl rfl) ?_
  refine ro_gval (g := (!((!r13) || r9.isNone))) (d := (some 35)) rfl (.no 6 33 true ((!r13) || r9.isNone) rfl rfl rfl rfl) rfl (fun hg => q_eqP0 (a := r11) rfl Try.underlying23 (gvb_yes hg) rfl) ?_
  refine ro_val (d := (some 36)) rfl (.free rfl) rfl (q_pickGF (a := ((!r13) || r9.isNone)) (c := r11.isNone) rfl rfl rfl rfl) ?_
  refine ro_nil ?_
  refine wp_if (b := (((!r13) || r9.isNone) || r11.isNone)) rfl h (fun hb81 h => ?_) (fun hb81 h => ?_)
  · refine wp_seq ?_
    refine wp_text [0] rfl ?_
    refine ro_val (d := (some 6)) rfl (.free rfl) rfl (q_assign (v := .bool (false)) rfl rfl) ?_
    refine ro_nil ?_
    refine wp_ret ?_
    exact ret_ok rfl (.cons (.tmp (v := .bool (false)) rfl) .nil) ⟨false, rfl, h⟩
  · refine wp_skip ?_
    refine wp_seq ?_
    obtain ⟨w14, hw14, h⟩ := dr_open h
    refine wp_drawn 12 mixed rfl (by kernel_rfl) (by intro c a d v w h; cases d <;> exact h) hw14 (fun hD => ?_)
    refine rd_pure (i := 0) (d := (some 37)) hD (by kernel_rfl) (by kernel_rfl) rfl (.free rfl) rfl (fun _ => q_fieldAddr (a := a4) (off := 1) rfl Try.underlying52 rfl rfl ok31 (by decide) rfl) ?_
    refine rd_pure (i := 5) (d := (some 42)) hD (by kernel_rfl) (by kernel_rfl) rfl (.free rfl) rfl (fun _ => q_fieldAddr (a := a6) (off := 1) rfl Try.underlying52 rfl rfl ok31 (by decide) rfl) ?_
    obtain ⟨x15, hx15, h⟩ := h
    refine rd_read (i := 1) (d := (some 38)) (fun W => (RdAt tSlc (a4.add 1) W) x15) hD (by kernel_rfl) (by kernel_rfl) rfl (.free rfl) rfl (fun W hr => q_load (T := tSlc) (u := x15) (a := (a4.add 1)) rfl ok31 rfl hr) hx15 ?_
    refine rd_pure (i := 2) (d := (some 39)) hD (by kernel_rfl) (by kernel_rfl) rfl (.free rfl) rfl (fun _ => q_build33_3 (v3 := x15) rfl rfl) ?_
    obtain ⟨x16, hx16, h⟩ := h
    refine rd_read (i := 6) (d := (some 43)) (fun W => (RdAt tSlc (a6.add 1) W) x16) hD (by kernel_rfl) (by kernel_rfl) rfl (.free rfl) rfl (fun W hr => q_load (T := tSlc) (u := x16) (a := (a6.add 1)) rfl ok31 rfl hr) hx16 ?_
    refine rd_pure (i := 7) (d := (some 44)) hD (by kernel_rfl) (by kernel_rfl) rfl (.free rfl) rfl (fun _ => q_build33_3 (v3 := x16) rfl rfl) ?_
    refine rd_one (i := 3) (by kernel_rfl) ?_
    refine po_wp rfl (.free rfl) (wp_cl (d := (some 40)) rfl (q_call (k := 12) (l := [T32.enc ((⟨(0 : Int), (0 : Int), (0 : Int), x15⟩ : S32))]) rfl ent12 rfl) h ?_)
    intro r18 w17 h
    obtain ⟨hk19, h⟩ := h
    obtain ⟨hk20, h⟩ := h
    refine ⟨(hk_keep (fun _ => hk20) (hk_keep (fun _ => hk19) hk_nil)), ?_⟩
    refine rd_pure (i := 4) (d := (some 41)) hD (by kernel_rfl) (by kernel_rfl) rfl (.free rfl) rfl (fun _ => q_field1 (c := T32.cells r18) (v := tSlc.enc (r18.L)) (off := 3) rfl Try.underlying33 rfl rfl Try.underlying31 rfl rfl rfl) ?_
    refine rd_one (i := 8) (by kernel_rfl) ?_
    refine po_wp rfl (.free rfl) (wp_cl (d := (some 45)) rfl (q_call (k := 12) (l := [T32.enc ((⟨(0 : Int), (0 : Int), (0 : Int), x16⟩ : S32))]) rfl ent12 rfl) h ?_)
    intro r22 w21 h
    obtain ⟨hk23, h⟩ := h
    obtain ⟨hk24, h⟩ := h
    refine ⟨(hk_keep (fun _ => hk24) (hk_keep (fun _ => hk23) hk_nil)), ?_⟩
    refine rd_pure (i := 9) (d := (some 46)) hD (by kernel_rfl) (by kernel_rfl) rfl (.free rfl) rfl (fun _ => q_field1 (c := T32.cells r22) (v := tSlc.enc (r22.L)) (off := 3) rfl Try.underlying33 rfl rfl Try.underlying31 rfl rfl rfl) ?_
    refine rd_pure (i := 10) (d := (some 9)) hD (by kernel_rfl) (by kernel_rfl) rfl (.free rfl) rfl (fun _ => q_assign (v := tSlc.enc (r18.L)) rfl rfl) ?_
    refine rd_pure (i := 11) (d := (some 10)) hD (by kernel_rfl) (by kernel_rfl) rfl (.free rfl) rfl (fun _ => q_assign (v := tSlc.enc (r22.L)) rfl rfl) ?_
    refine rd_nil (by kernel_rfl) ?_
    refine wp_seq ?_
    refine wp_seq ?_
    refine wp_text [0] rfl ?_
    refine ro_val (d := (some 11)) rfl (.free rfl) rfl (q_assign (v := .int .i64 ((0 : Int))) rfl rfl) ?_
    refine ro_nil ?_
    refine wp_block ?_
    refine loop_at (σ := Int) (fr := fun g (s : Int) => upd (upd (upd (upd (upd (upd (upd (g) 4 (.pointer (some a4))) 5 (.pointer (some a6))) 7 (.pointer (r9))) 8 (.pointer (r11))) 9 (tSlc.enc (r18.L))) 10 (tSlc.enc (r22.L))) 11 (.int .i64 (s))) (s0 := ((0 : Int))) (upd_step (upd_step (upd_step (upd_step (upd_step (upd_step (upd_step rfl rfl) rfl) rfl) rfl) rfl) rfl) rfl) h ?_
    rintro i_25 g w26 K27 h
    unfold F8_l1 at h
    refine wp_seq ?_
    refine wp_seq ?_
    refine wp_text [0, 1, 2, 3] rfl ?_
    refine ro_val (d := (some 47)) rfl (.free rfl) rfl (q_move (v := .int .i64 (i_25)) rfl rfl) ?_
    refine ro_val (d := (some 48)) rfl (.free rfl) rfl (q_move (v := tSlc.enc (r18.L)) rfl rfl) ?_
    refine ro_val (d := (some 49)) rfl (.free rfl) rfl (q_len (s := r18.L) rfl Try.underlying31 rfl) ?_
    refine ro_val (d := (some 50)) rfl (.free rfl) rfl (q_lss (a := i_25) (b := (r18.L.len : Int)) rfl rfl rfl) ?_
    refine ro_nil ?_
    refine wp_if (b := (decide (i_25 < (r18.L.len : Int)))) rfl h (fun hb80 h => ?_) (fun hb80 h => ?_)
    · refine wp_skip ?_
      refine wp_seq ?_
      refine wp_block ?_
      refine wp_seq ?_
      refine wp_text [0] rfl ?_
      refine ro_val (d := (some 12)) rfl (.free rfl) rfl (q_assign (v := .int .i64 ((0 : Int))) rfl rfl) ?_
      refine ro_nil ?_
      refine wp_block ?_
      refine loop_at (σ := Int) (fr := fun g (s : Int) => upd (upd (upd (upd (upd (upd (upd (upd (g) 4 (.pointer (some a4))) 5 (.pointer (some a6))) 7 (.pointer (r9))) 8 (.pointer (r11))) 9 (tSlc.enc (r18.L))) 10 (tSlc.enc (r22.L))) 11 (.int .i64 (i_25))) 12 (.int .i64 (s))) (s0 := ((0 : Int))) (upd_step (upd_step (upd_step (upd_step (upd_step (upd_step (upd_step (upd_step rfl rfl) rfl) rfl) rfl) rfl) rfl) rfl) rfl) h ?_
      rintro k_28 g w29 K30 h
      unfold F8_l2 at h
      refine wp_seq ?_
      refine wp_seq ?_
      refine wp_text [0, 1, 2, 3] rfl ?_
      refine ro_val (d := (some 53)) rfl (.free rfl) rfl (q_move (v := .int .i64 (k_28)) rfl rfl) ?_
      refine ro_val (d := (some 54)) rfl (.free rfl) rfl (q_move (v := tSlc.enc (r22.L)) rfl rfl) ?_
      refine ro_val (d := (some 55)) rfl (.free rfl) rfl (q_len (s := r22.L) rfl Try.underlying31 rfl) ?_
      refine ro_val (d := (some 56)) rfl (.free rfl) rfl (q_lss (a := k_28) (b := (r22.L.len : Int)) rfl rfl rfl) ?_
      refine ro_nil ?_
      refine wp_if (b := (decide (k_28 < (r22.L.len : Int)))) rfl h (fun hb37 h => ?_) (fun hb37 h => ?_)
      · refine wp_skip ?_
        refine wp_seq ?_
        refine wp_block ?_
        refine wp_seq ?_
        obtain ⟨w31, hw31, h⟩ := dr_open h
        refine wp_drawn 11 mixed rfl (by kernel_rfl) (by intro c a d v w h; cases d <;> exact h) hw31 (fun hD => ?_)
        refine rd_pure (i := 0) (d := (some 59)) hD (by kernel_rfl) (by kernel_rfl) rfl (.free rfl) rfl (fun _ => q_move (v := tSlc.enc (r18.L)) rfl rfl) ?_
        refine rd_pure (i := 1) (d := (some 60)) hD (by kernel_rfl) (by kernel_rfl) rfl (.free rfl) rfl (fun _ => q_move (v := .int .i64 (i_25)) rfl rfl) ?_
        obtain ⟨a32, ha32, h⟩ := h
        refine rd_pure (i := 2) (d := (some 61)) hD (by kernel_rfl) (by kernel_rfl) rfl (.free rfl) rfl (fun _ => q_indexAddr (s := r18.L) (i := i_25) rfl Try.underlying31 ok58 rfl rfl ha32) ?_
        refine rd_pure (i := 3) (d := (some 62)) hD (by kernel_rfl) (by kernel_rfl) rfl (.free rfl) rfl (fun _ => q_fieldAddr (a := a32) (off := 0) rfl Try.underlying58 rfl rfl ok3 (by decide) rfl) ?_
        refine rd_pure (i := 5) (d := (some 64)) hD (by kernel_rfl) (by kernel_rfl) rfl (.free rfl) rfl (fun _ => q_move (v := tSlc.enc (r22.L)) rfl rfl) ?_
        refine rd_pure (i := 6) (d := (some 65)) hD (by kernel_rfl) (by kernel_rfl) rfl (.free rfl) rfl (fun _ => q_move (v := .int .i64 (k_28)) rfl rfl) ?_
        obtain ⟨a33, ha33, h⟩ := h
        refine rd_pure (i := 7) (d := (some 66)) hD (by kernel_rfl) (by kernel_rfl) rfl (.free rfl) rfl (fun _ => q_indexAddr (s := r22.L) (i := k_28) rfl Try.underlying31 ok58 rfl rfl ha33) ?_
        refine rd_pure (i := 8) (d := (some 67)) hD (by kernel_rfl) (by kernel_rfl) rfl (.free rfl) rfl (fun _ => q_fieldAddr (a := a33) (off := 0) rfl Try.underlying58 rfl rfl ok3 (by decide) rfl) ?_
        obtain ⟨x34, hx34, h⟩ := h
        refine rd_read (i := 4) (d := (some 63)) (fun W => (RdAt (tInt .i64) (a32.add 0) W) x34) hD (by kernel_rfl) (by kernel_rfl) rfl (.free rfl) rfl (fun W hr => q_load (T := (tInt .i64)) (u := x34) (a := (a32.add 0)) rfl ok3 rfl hr) hx34 ?_
        obtain ⟨x35, hx35, h⟩ := h
        refine rd_read (i := 9) (d := (some 68)) (fun W => (RdAt (tInt .i64) (a33.add 0) W) x35) hD (by kernel_rfl) (by kernel_rfl) rfl (.free rfl) rfl (fun W hr => q_load (T := (tInt .i64)) (u := x35) (a := (a33.add 0)) rfl ok3 rfl hr) hx35 ?_
        refine rd_pure (i := 10) (d := (some 69)) hD (by kernel_rfl) (by kernel_rfl) rfl (.free rfl) rfl (fun _ => q_eql (a := x34) (b := x35) rfl rfl rfl) ?_
        refine rd_nil (by kernel_rfl) ?_
        refine wp_if (b := (x34 == x35)) rfl h (fun hb36 h => ?_) (fun hb36 h => ?_)
        · refine wp_seq ?_
          refine wp_text [0] rfl ?_
          refine ro_val (d := (some 6)) rfl (.free rfl) rfl (q_assign (v := .bool (true)) rfl rfl) ?_
          refine ro_nil ?_
          refine wp_ret ?_
          exact ret_ok rfl (.cons (.tmp (v := .bool (true)) rfl) .nil) ⟨true, rfl, h⟩
        · refine wp_skip ?_
          refine wp_text [0, 1, 2] rfl ?_
          refine ro_val (d := (some 57)) rfl (.free rfl) rfl (q_move (v := .int .i64 (k_28)) rfl rfl) ?_
          refine ro_val (d := (some 58)) rfl (.free rfl) rfl (q_add (a := k_28) (b := (1 : Int)) rfl rfl rfl) ?_
          refine ro_val (d := (some 12)) rfl (.free rfl) rfl (q_assign (v := .int .i64 ((IntKind.i64.wrap (k_28 + (1 : Int))))) rfl rfl) ?_
          refine ro_nil ?_
          exact ⟨((IntKind.i64.wrap (k_28 + (1 : Int)))), _, arr (upd_step (upd_step (upd_step (upd_step (upd_step (upd_step (upd_step (upd_step rfl rfl) rfl) rfl) rfl) rfl) rfl) rfl) rfl), h⟩
      · refine wp_exit ?_
        refine wp_text [0, 1, 2] rfl ?_
        refine ro_val (d := (some 51)) rfl (.free rfl) rfl (q_move (v := .int .i64 (i_25)) rfl rfl) ?_
        refine ro_val (d := (some 52)) rfl (.free rfl) rfl (q_add (a := i_25) (b := (1 : Int)) rfl rfl rfl) ?_
        refine ro_val (d := (some 11)) rfl (.free rfl) rfl (q_assign (v := .int .i64 ((IntKind.i64.wrap (i_25 + (1 : Int))))) rfl rfl) ?_
        refine ro_nil ?_
        exact ⟨((IntKind.i64.wrap (i_25 + (1 : Int)))), _, arr (upd_step (upd_step (upd_step (upd_step (upd_step (upd_step (upd_step rfl rfl) rfl) rfl) rfl) rfl) rfl) rfl), h⟩
    · refine wp_exit ?_
      refine wp_seq ?_
      obtain ⟨w38, hw38, h⟩ := dr_open h
      refine wp_drawn 12 mixed rfl (by kernel_rfl) (by intro c a d v w h; cases d <;> exact h) hw38 (fun hD => ?_)
      refine rd_pure (i := 0) (d := (some 70)) hD (by kernel_rfl) (by kernel_rfl) rfl (.free rfl) rfl (fun _ => q_move (v := .pointer (r9)) rfl rfl) ?_
      refine rd_pure (i := 1) (d := (some 71)) hD (by kernel_rfl) (by kernel_rfl) rfl (.free rfl) rfl (fun _ => q_fieldAddr (a := a4) (off := 0) rfl Try.underlying52 rfl rfl ok2 (by decide) rfl) ?_
      refine rd_pure (i := 3) (d := (some 73)) hD (by kernel_rfl) (by kernel_rfl) rfl (.free rfl) rfl (fun _ => q_move (v := tSlc.enc (r18.L)) rfl rfl) ?_
      refine rd_pure (i := 5) (d := (some 75)) hD (by kernel_rfl) (by kernel_rfl) rfl (.free rfl) rfl (fun _ => q_move (v := .pointer (r9)) rfl rfl) ?_
      refine rd_pure (i := 6) (d := (some 76)) hD (by kernel_rfl) (by kernel_rfl) rfl (.free rfl) rfl (fun _ => q_fieldAddr (a := a6) (off := 0) rfl Try.underlying52 rfl rfl ok2 (by decide) rfl) ?_
      refine rd_pure (i := 8) (d := (some 78)) hD (by kernel_rfl) (by kernel_rfl) rfl (.free rfl) rfl (fun _ => q_move (v := tSlc.enc (r22.L)) rfl rfl) ?_
      obtain ⟨x39, hx39, h⟩ := h
      refine rd_read (i := 2) (d := (some 72)) (fun W => (RdAt (tInt .i64) (a4.add 0) W) x39) hD (by kernel_rfl) (by kernel_rfl) rfl (.free rfl) rfl (fun W hr => q_load (T := (tInt .i64)) (u := x39) (a := (a4.add 0)) rfl ok2 rfl hr) hx39 ?_
      obtain ⟨x40, hx40, h⟩ := h
      refine rd_read (i := 7) (d := (some 77)) (fun W => (RdAt (tInt .i64) (a6.add 0) W) x40) hD (by kernel_rfl) (by kernel_rfl) rfl (.free rfl) rfl (fun W hr => q_load (T := (tInt .i64)) (u := x40) (a := (a6.add 0)) rfl ok2 rfl hr) hx40 ?_
      refine rd_one (i := 4) (by kernel_rfl) ?_
      refine po_wp rfl (.free rfl) (wp_cl (d := (some 74)) rfl (q_call (k := 23) (l := [.pointer (r9), .int .i64 (x39), tSlc.enc (r18.L)]) rfl ent23 rfl) h ?_)
      intro r42 w41 h
      obtain ⟨hk43, h⟩ := h
      refine ⟨(hk_keep (fun _ => hk43) (hk_wait (by kernel_rfl) hk_nil)), ?_⟩
      refine rd_one (i := 9) (by kernel_rfl) ?_
      refine po_wp rfl (.free rfl) (wp_cl (d := (some 79)) rfl (q_call (k := 23) (l := [.pointer (r9), .int .i64 (x40), tSlc.enc (r22.L)]) rfl ent23 rfl) h ?_)
      intro r45 w44 h
      obtain ⟨hk46, h⟩ := h
      refine ⟨(hk_wait (by kernel_rfl) (hk_keep (fun _ => hk46) hk_nil)), ?_⟩
      refine rd_pure (i := 10) (d := (some 13)) hD (by kernel_rfl) (by kernel_rfl) rfl (.free rfl) rfl (fun _ => q_assign (v := .int .i64 (r42)) rfl rfl) ?_
      refine rd_pure (i := 11) (d := (some 14)) hD (by kernel_rfl) (by kernel_rfl) rfl (.free rfl) rfl (fun _ => q_assign (v := .int .i64 (r45)) rfl rfl) ?_
      refine rd_nil (by kernel_rfl) ?_
      refine wp_seq ?_
      obtain ⟨w47, hw47, h⟩ := dr_open h
      refine wp_drawn 12 mixed rfl (by kernel_rfl) (by intro c a d v w h; cases d <;> exact h) hw47 (fun hD => ?_)
      refine rd_pure (i := 0) (d := (some 80)) hD (by kernel_rfl) (by kernel_rfl) rfl (.free rfl) rfl (fun _ => q_move (v := .pointer (r11)) rfl rfl) ?_
      refine rd_pure (i := 1) (d := (some 81)) hD (by kernel_rfl) (by kernel_rfl) rfl (.free rfl) rfl (fun _ => q_fieldAddr (a := a6) (off := 0) rfl Try.underlying52 rfl rfl ok2 (by decide) rfl) ?_
      refine rd_pure (i := 3) (d := (some 83)) hD (by kernel_rfl) (by kernel_rfl) rfl (.free rfl) rfl (fun _ => q_move (v := tSlc.enc (r22.L)) rfl rfl) ?_
      refine rd_pure (i := 5) (d := (some 85)) hD (by kernel_rfl) (by kernel_rfl) rfl (.free rfl) rfl (fun _ => q_move (v := .pointer (r11)) rfl rfl) ?_
      refine rd_pure (i := 6) (d := (some 86)) hD (by kernel_rfl) (by kernel_rfl) rfl (.free rfl) rfl (fun _ => q_fieldAddr (a := a4) (off := 0) rfl Try.underlying52 rfl rfl ok2 (by decide) rfl) ?_
      refine rd_pure (i := 8) (d := (some 88)) hD (by kernel_rfl) (by kernel_rfl) rfl (.free rfl) rfl (fun _ => q_move (v := tSlc.enc (r18.L)) rfl rfl) ?_
      obtain ⟨x48, hx48, h⟩ := h
      refine rd_read (i := 2) (d := (some 82)) (fun W => (RdAt (tInt .i64) (a6.add 0) W) x48) hD (by kernel_rfl) (by kernel_rfl) rfl (.free rfl) rfl (fun W hr => q_load (T := (tInt .i64)) (u := x48) (a := (a6.add 0)) rfl ok2 rfl hr) hx48 ?_
      obtain ⟨x49, hx49, h⟩ := h
      refine rd_read (i := 7) (d := (some 87)) (fun W => (RdAt (tInt .i64) (a4.add 0) W) x49) hD (by kernel_rfl) (by kernel_rfl) rfl (.free rfl) rfl (fun W hr => q_load (T := (tInt .i64)) (u := x49) (a := (a4.add 0)) rfl ok2 rfl hr) hx49 ?_
      refine rd_one (i := 4) (by kernel_rfl) ?_
      refine po_wp rfl (.free rfl) (wp_cl (d := (some 84)) rfl (q_call (k := 23) (l := [.pointer (r11), .int .i64 (x48), tSlc.enc (r22.L)]) rfl ent23 rfl) h ?_)
      intro r51 w50 h
      obtain ⟨hk52, h⟩ := h
      refine ⟨(hk_keep (fun _ => hk52) (hk_wait (by kernel_rfl) hk_nil)), ?_⟩
      refine rd_one (i := 9) (by kernel_rfl) ?_
      refine po_wp rfl (.free rfl) (wp_cl (d := (some 89)) rfl (q_call (k := 23) (l := [.pointer (r11), .int .i64 (x49), tSlc.enc (r18.L)]) rfl ent23 rfl) h ?_)
      intro r54 w53 h
      obtain ⟨hk55, h⟩ := h
      refine ⟨(hk_wait (by kernel_rfl) (hk_keep (fun _ => hk55) hk_nil)), ?_⟩
      refine rd_pure (i := 10) (d := (some 15)) hD (by kernel_rfl) (by kernel_rfl) rfl (.free rfl) rfl (fun _ => q_assign (v := .int .i64 (r51)) rfl rfl) ?_
      refine rd_pure (i := 11) (d := (some 16)) hD (by kernel_rfl) (by kernel_rfl) rfl (.free rfl) rfl (fun _ => q_assign (v := .int .i64 (r54)) rfl rfl) ?_
      refine rd_nil (by kernel_rfl) ?_
      refine wp_seq ?_
      refine wp_text [0, 1] rfl ?_
      refine ro_val (d := (some 90)) rfl (.free rfl) rfl (q_move (v := .pointer (r9)) rfl rfl) ?_
      refine ro_wp rfl (.free rfl) (wp_cl (d := (some 91)) rfl (q_call (k := 24) (l := [.pointer (r9), .int .i64 ((1125899906842624 : Int))]) rfl ent24 rfl) h ?_)
      intro r57 w56 h
      refine ro_nil ?_
      refine wp_seq ?_
      refine wp_text [0, 1] rfl ?_
      refine ro_val (d := (some 92)) rfl (.free rfl) rfl (q_move (v := .pointer (r11)) rfl rfl) ?_
      refine ro_wp rfl (.free rfl) (wp_cl (d := (some 93)) rfl (q_call (k := 24) (l := [.pointer (r11), .int .i64 ((1125899906842624 : Int))]) rfl ent24 rfl) h ?_)
      intro r59 w58 h
      refine ro_nil ?_
      refine wp_seq ?_
      refine wp_seq ?_
      refine wp_text [0, 1, 2, 3, 4, 5, 6] rfl ?_
      refine ro_val (d := (some 94)) rfl (.free rfl) rfl (q_fieldAddr (a := a4) (off := 0) rfl Try.underlying52 rfl rfl ok2 (by decide) rfl) ?_
      obtain ⟨x60, hx60, h⟩ := h
      refine ro_val (d := (some 95)) rfl (.free rfl) rfl (q_load (T := (tInt .i64)) (u := x60) (a := (a4.add 0)) rfl ok2 rfl hx60) ?_
      refine ro_val (d := (some 96)) rfl (.free rfl) rfl (q_fieldAddr (a := a6) (off := 0) rfl Try.underlying52 rfl rfl ok2 (by decide) rfl) ?_
      obtain ⟨x61, hx61, h⟩ := h
      refine ro_val (d := (some 97)) rfl (.free rfl) rfl (q_load (T := (tInt .i64)) (u := x61) (a := (a6.add 0)) rfl ok2 rfl hx61) ?_
      obtain ⟨a62, w63, ha62, hw63, h⟩ := nwS_open h
      refine ro_val (d := (some 98)) rfl (.free rfl) rfl (q_rowOf (T := (tInt .i64)) (xs := [x60, x61, (1125899906842624 : Int)]) rfl Try.underlying63 ok2 inf2 rfl (by decide) (by decide) rfl ha62 hw63) ?_
      refine ro_val (d := (some 99)) rfl (.free rfl) rfl (q_len (s := (⟨some a62, 3, 3⟩ : Slc)) rfl Try.underlying63 rfl) ?_
      refine ro_val (d := (some 100)) rfl (.free rfl) rfl (q_move (v := .int .i64 ((0 : Int))) rfl rfl) ?_
      refine ro_nil ?_
      refine wp_block ?_
      refine loop_at (σ := Int) (fr := fun g (s : Int) => upd (upd (upd (upd (upd (upd (upd (upd (upd (g) 7 (.pointer (r9))) 8 (.pointer (r11))) 13 (.int .i64 (r42))) 14 (.int .i64 (r45))) 15 (.int .i64 (r51))) 16 (.int .i64 (r54))) 98 (tSlc.enc ((⟨some a62, 3, 3⟩ : Slc)))) 99 (.int .i64 (((⟨some a62, 3, 3⟩ : Slc).len : Int)))) 100 (.int .i64 (s))) (s0 := ((0 : Int))) (upd_step (upd_step (upd_step (upd_step (upd_step (upd_step (upd_step (upd_step (upd_step rfl rfl) rfl) rfl) rfl) rfl) rfl) rfl) rfl) rfl) h ?_
      rintro t_64 g w65 K66 h
      unfold F8_l3 at h
      refine wp_seq ?_
      refine wp_text [0] rfl ?_
      refine ro_val (d := (some 101)) rfl (.free rfl) rfl (q_lss (a := t_64) (b := ((⟨some a62, 3, 3⟩ : Slc).len : Int)) rfl rfl rfl) ?_
      refine ro_nil ?_
      refine wp_seq ?_
      refine wp_if (b := (decide (t_64 < ((⟨some a62, 3, 3⟩ : Slc).len : Int)))) rfl h (fun hb79 h => ?_) (fun hb79 h => ?_)
      · refine wp_skip ?_
        refine wp_seq ?_
        refine wp_block ?_
        refine wp_seq ?_
        refine wp_text [0, 1, 2] rfl ?_
        obtain ⟨a67, ha67, h⟩ := h
        refine ro_val (d := (some 102)) rfl (.free rfl) rfl (q_indexAddr (s := (⟨some a62, 3, 3⟩ : Slc)) (i := t_64) rfl Try.underlying63 ok2 rfl rfl ha67) ?_
        obtain ⟨x68, hx68, h⟩ := h
        refine ro_val (d := (some 103)) rfl (.free rfl) rfl (q_load (T := (tInt .i64)) (u := x68) (a := a67) rfl ok2 rfl hx68) ?_
        refine ro_val (d := (some 18)) rfl (.free rfl) rfl (q_assign (v := .int .i64 (x68)) rfl rfl) ?_
        refine ro_nil ?_
        refine wp_seq ?_
        refine wp_text [0, 1, 2, 3, 4, 5, 6, 7] rfl ?_
        refine ro_val (d := (some 105)) rfl (.free rfl) rfl (q_move (v := .pointer (r9)) rfl rfl) ?_
        refine ro_val (d := (some 106)) rfl (.free rfl) rfl (q_move (v := .int .i64 (x68)) rfl rfl) ?_
        refine ro_wp rfl (.free rfl) (wp_cl (d := (some 107)) rfl (q_call (k := 18) (l := [.pointer (r9), .int .i64 (x68)]) rfl ent18 rfl) h ?_)
        intro r70 w69 h
        refine ro_val (d := (some 104)) rfl (.free rfl) rfl (q_move (v := (tTup2 tSlc (tInt .i64)).enc (r70)) rfl rfl) ?_
        refine ro_val (d := (some 108)) rfl (.free rfl) rfl (q_extract (vs := #[tSlc.enc (r70.1), .int .i64 (r70.2)]) (v := tSlc.enc (r70.1)) rfl rfl rfl) ?_
        refine ro_val (d := (some 109)) rfl (.free rfl) rfl (q_extract (vs := #[tSlc.enc (r70.1), .int .i64 (r70.2)]) (v := .int .i64 (r70.2)) rfl rfl rfl) ?_
        refine ro_val (d := (some 19)) rfl (.free rfl) rfl (q_assign (v := tSlc.enc (r70.1)) rfl rfl) ?_
        refine ro_val (d := (some 20)) rfl (.free rfl) rfl (q_assign (v := .int .i64 (r70.2)) rfl rfl) ?_
        refine ro_nil ?_
        refine wp_seq ?_
        refine wp_text [0, 1, 2, 3, 4, 5, 6, 7] rfl ?_
        refine ro_val (d := (some 111)) rfl (.free rfl) rfl (q_move (v := .pointer (r11)) rfl rfl) ?_
        refine ro_val (d := (some 112)) rfl (.free rfl) rfl (q_move (v := .int .i64 (x68)) rfl rfl) ?_
        refine ro_wp rfl (.free rfl) (wp_cl (d := (some 113)) rfl (q_call (k := 18) (l := [.pointer (r11), .int .i64 (x68)]) rfl ent18 rfl) h ?_)
        intro r72 w71 h
        refine ro_val (d := (some 110)) rfl (.free rfl) rfl (q_move (v := (tTup2 tSlc (tInt .i64)).enc (r72)) rfl rfl) ?_
        refine ro_val (d := (some 114)) rfl (.free rfl) rfl (q_extract (vs := #[tSlc.enc (r72.1), .int .i64 (r72.2)]) (v := tSlc.enc (r72.1)) rfl rfl rfl) ?_
        refine ro_val (d := (some 115)) rfl (.free rfl) rfl (q_extract (vs := #[tSlc.enc (r72.1), .int .i64 (r72.2)]) (v := .int .i64 (r72.2)) rfl rfl rfl) ?_
        refine ro_val (d := (some 21)) rfl (.free rfl) rfl (q_assign (v := tSlc.enc (r72.1)) rfl rfl) ?_
        refine ro_val (d := (some 22)) rfl (.free rfl) rfl (q_assign (v := .int .i64 (r72.2)) rfl rfl) ?_
        refine ro_nil ?_
        refine wp_seq ?_
        refine wp_text [0, 1, 2, 3, 4, 5, 6, 7, 8] rfl ?_
        refine ro_val (d := (some 116)) rfl (.free rfl) rfl (q_move (v := .int .i64 (r70.2)) rfl rfl) ?_
        refine ro_val (d := (some 117)) rfl (.free rfl) rfl (q_move (v := .int .i64 (r72.2)) rfl rfl) ?_
        refine ro_val (d := (some 118)) rfl (.free rfl) rfl (q_neq (a := r70.2) (b := r72.2) rfl rfl rfl) ?_
        refine ro_val (d := (some 119)) rfl (.free rfl) rfl (q_move (v := .bool ((r70.2 != r72.2))) rfl rfl) ?_
        refine ro_join (σ := Bool) (J := fun (s : Bool) w => F8_j4 t_64 s w K66 R) (fr := fun g (s : Bool) => upd (upd (upd (upd (upd (upd (upd (upd (upd (upd (g) 7 (.pointer (r9))) 8 (.pointer (r11))) 13 (.int .i64 (r42))) 14 (.int .i64 (r45))) 15 (.int .i64 (r51))) 16 (.int .i64 (r54))) 98 (tSlc.enc ((⟨some a62, 3, 3⟩ : Slc)))) 99 (.int .i64 (((⟨some a62, 3, 3⟩ : Slc).len : Int)))) 100 (.int .i64 (t_64))) 124 (.bool (s))) [4, 5, 6, 7, 8] [] ?_ ?_
        · rintro t_73 g w74 h
          unfold F8_j4 at h
          refine ro_nil ?_
          refine wp_if (b := t_73) rfl h (fun hb75 h => ?_) (fun hb75 h => ?_)
          · refine wp_seq ?_
            refine wp_text [0] rfl ?_
            refine ro_val (d := (some 6)) rfl (.free rfl) rfl (q_assign (v := .bool (false)) rfl rfl) ?_
            refine ro_nil ?_
            refine wp_ret ?_
            exact ret_ok rfl (.cons (.tmp (v := .bool (false)) rfl) .nil) ⟨false, rfl, h⟩
          · refine wp_skip ?_
            refine wp_text [0, 1] rfl ?_
            refine ro_val (d := (some 125)) rfl (.free rfl) rfl (q_add (a := t_64) (b := (1 : Int)) rfl rfl rfl) ?_
            refine ro_val (d := (some 100)) rfl (.free rfl) rfl (q_move (v := .int .i64 ((IntKind.i64.wrap (t_64 + (1 : Int))))) rfl rfl) ?_
            refine ro_nil ?_
            exact ⟨((IntKind.i64.wrap (t_64 + (1 : Int)))), _, arr (upd_step (upd_step (upd_step (upd_step (upd_step (upd_step (upd_step (upd_step (upd_step rfl rfl) rfl) rfl) rfl) rfl) rfl) rfl) rfl) rfl), h⟩
        · refine ro_if (b := (r70.2 != r72.2)) h (fun hb76 h => ?_) (fun hb76 h => ?_)
          · refine ro_bar (d := (some 120)) rfl (.by_ 3 false 119 (r70.2 != r72.2) rfl rfl rfl hb76) rfl ?_
            refine ro_bar (d := (some 121)) rfl (.by_ 3 false 119 (r70.2 != r72.2) rfl rfl rfl hb76) rfl ?_
            refine ro_bar (d := (some 122)) rfl (.by_ 3 false 119 (r70.2 != r72.2) rfl rfl rfl hb76) rfl ?_
            refine ro_bar (d := (some 123)) rfl (.by_ 3 false 119 (r70.2 != r72.2) rfl rfl rfl hb76) rfl ?_
            refine ro_val (d := (some 124)) rfl (.free rfl) rfl (q_pickT (v := .bool (true)) (b := (r70.2 != r72.2)) rfl rfl hb76 rfl) ?_
            refine ro_nil ?_
            exact ⟨(true), _, arr (upd_step (upd_step (upd_step (upd_step (upd_step (upd_step (upd_step (upd_step (upd_step (upd_step rfl rfl) rfl) rfl) rfl) rfl) rfl) rfl) rfl) rfl) rfl), h⟩
          · refine ro_val (d := (some 120)) rfl (.by_ 3 false 119 (r70.2 != r72.2) rfl rfl rfl hb76) rfl (q_move (v := tSlc.enc (r70.1)) rfl rfl) ?_
            refine ro_val (d := (some 121)) rfl (.by_ 3 false 119 (r70.2 != r72.2) rfl rfl rfl hb76) rfl (q_move (v := tSlc.enc (r72.1)) rfl rfl) ?_
            refine ro_wp rfl (.by_ 3 false 119 (r70.2 != r72.2) rfl rfl rfl hb76) (wp_cl (d := (some 122)) rfl (q_call (k := 20) (l := [tSlc.enc (r70.1), tSlc.enc (r72.1)]) rfl ent20 rfl) h ?_)
            intro r78 w77 h
            refine ro_val (d := (some 123)) rfl (.by_ 3 false 119 (r70.2 != r72.2) rfl rfl rfl hb76) rfl (q_not (b := r78) rfl rfl) ?_
            refine ro_val (d := (some 124)) rfl (.free rfl) rfl (q_pickF (v := .bool ((!r78))) (b := (r70.2 != r72.2)) rfl rfl hb76 rfl) ?_
            refine ro_nil ?_
            exact ⟨((!r78)), _, arr (upd_step (upd_step (upd_step (upd_step (upd_step (upd_step (upd_step (upd_step (upd_step (upd_step rfl rfl) rfl) rfl) rfl) rfl) rfl) rfl) rfl) rfl) rfl), h⟩
      · refine wp_exit ?_
        refine wp_seq ?_
        refine wp_text [0, 1, 2, 3, 4, 5, 6, 7, 8] rfl ?_
        refine ro_val (d := (some 126)) rfl (.free rfl) rfl (q_move (v := .int .i64 (r42)) rfl rfl) ?_
        refine ro_val (d := (some 127)) rfl (.free rfl) rfl (q_move (v := .int .i64 (r54)) rfl rfl) ?_
        refine ro_val (d := (some 128)) rfl (.free rfl) rfl (q_eql (a := r42) (b := r54) rfl rfl rfl) ?_
        refine ro_val (d := (some 129)) rfl (.free rfl) rfl (q_move (v := .bool ((r42 == r54))) rfl rfl) ?_
        refine ro_gval (g := (r42 == r54)) (d := (some 130)) rfl (.yes 3 129 true (r42 == r54) rfl rfl rfl rfl) rfl (fun hg => q_move (v := .int .i64 (r45)) rfl rfl) ?_
        refine ro_gval (g := (r42 == r54)) (d := (some 131)) rfl (.yes 3 129 true (r42 == r54) rfl rfl rfl rfl) rfl (fun hg => q_move (v := .int .i64 (r51)) rfl rfl) ?_
        refine ro_gval (g := (r42 == r54)) (d := (some 132)) rfl (.yes 3 129 true (r42 == r54) rfl rfl rfl rfl) rfl (fun hg => q_eql (a := r45) (b := r51) rfl (gvb_yes hg) (gvb_yes hg)) ?_
        refine ro_val (d := (some 133)) rfl (.free rfl) rfl (q_pickGT (a := (r42 == r54)) (b := (r45 == r51)) rfl rfl rfl rfl) ?_
        refine ro_val (d := (some 6)) rfl (.free rfl) rfl (q_assign (v := .bool (((r42 == r54) && (r45 == r51)))) rfl rfl) ?_
        refine ro_nil ?_
        refine wp_ret ?_
        exact ret_ok rfl (.cons (.tmp (v := .bool (((r42 == r54) && (r45 == r51)))) rfl) .nil) ⟨((r42 == r54) && (r45 == r51)), rfl, h⟩

-- moiety/store.New
def F9 (w : World) (R : (Option Addr) → World → Prop) : Prop :=
  nwMap w fun m2 w1 =>
  nw 67 T66 (⟨(some m2), (0 : Int), (0 : Int)⟩ : S66) w1 fun a3 w4 =>
  R (some a3) w4
theorem F9_ok {w : World} {R : (Option Addr) → World → Prop} (h : F9 w R) : cl Try.prog 9 [] tPtr w R := by
  unfold F9 at h
  refine calls_start 4 Try.func9 rfl rfl (Nat.le_of_ble_eq_true rfl) ?_
  refine wp_seq ?_
  refine wp_text [0] rfl ?_
  refine ro_val (d := (some 0)) rfl (.free rfl) rfl (q_assign (v := .pointer ((none : Option Addr))) rfl rfl) ?_
  refine ro_nil ?_
  refine wp_seq ?_
  refine wp_text [0, 1, 2, 3] rfl ?_
  obtain ⟨m2, w1, hm2, hw1, h⟩ := nwMap_open h
  refine ro_val (d := (some 1)) rfl (.free rfl) rfl (q_makeMap rfl hm2 hw1) ?_
  refine ro_val (d := (some 2)) rfl (.free rfl) rfl (q_build67_0 (v0 := (some m2)) rfl rfl) ?_
  obtain ⟨a3, w4, ha3, hw4, h⟩ := nw_open h
  refine ro_val (d := (some 3)) rfl (.free rfl) rfl (q_box (u := (⟨(some m2), (0 : Int), (0 : Int)⟩ : S66)) rfl ok67 rfl ha3 hw4) ?_
  refine ro_val (d := (some 0)) rfl (.free rfl) rfl (q_assign (v := .pointer (some a3)) rfl rfl) ?_
  refine ro_nil ?_
  refine wp_ret ?_
  exact ret_ok rfl (.cons (.tmp (v := .pointer ((some a3))) rfl) .nil) ⟨(some a3), rfl, h⟩

end Go.Proofs.Ytdgdkbfigndndaa.Cf
