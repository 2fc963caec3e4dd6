/- Characteristic formulae of Go functions, and that they are. Printed by gen.py (own tool). -/
import Derived.Test.YtdgdkbfigndndaaTy
namespace Go.Proofs.Ytdgdkbfigndndaa.Cf
open Go
set_option maxRecDepth 100000
set_option maxHeartbeats 1000000
set_option linter.unusedVariables false
set_option linter.unusedSimpArgs false

-- moiety/moietyref12.Time
def F37 (s_1 : S26) (at_2 : Int) (w : World) (R : Int → World → Prop) : Prop :=
  nw 27 T26 s_1 w fun a3 w4 =>
  if ((decide (at_2 < (0 : Int))) || (decide (at_2 > (1125899906842624 : Int)))) = true then (
    R (120 : Int) w4
  ) else (
    ex (RdAt (tInt .i64) (a3.add 1) w4) fun x5 =>
    if (decide (at_2 > x5)) = true then (
      R (128 : Int) w4
    ) else (
      ex (RdAt (tInt .i64) (a3.add 2) w4) fun x6 =>
      if (decide (at_2 < x6)) = true then (
        R (126 : Int) w4
      ) else (
        R (0 : Int) w4
      )
    )
  )
theorem F37_ok {s_1 : S26} {at_2 : Int} {w : World} {R : Int → World → Prop} (h : F37 s_1 at_2 w R) : cl Try.prog 37 [T26.enc (s_1), .int .i64 (at_2)] (tInt .i64) w R := by
  unfold F37 at h
  refine calls_start 19 Try.func37 rfl rfl (Nat.le_of_ble_eq_true rfl) ?_
  refine wp_seq ?_
  refine wp_text [0, 1] rfl ?_
  obtain ⟨a3, w4, ha3, hw4, h⟩ := nw_open h
  refine ro_val (d := (some 2)) rfl (.free rfl) rfl (q_box (u := s_1) rfl ok27 rfl ha3 hw4) ?_
  refine ro_val (d := (some 4)) rfl (.free rfl) rfl (q_assign (v := .int .i64 ((0 : Int))) rfl rfl) ?_
  refine ro_nil ?_
  refine wp_seq ?_
  refine wp_seq ?_
  refine wp_text [0, 1, 2, 3, 4, 5] rfl ?_
  refine ro_val (d := (some 5)) rfl (.free rfl) rfl (q_move (v := .int .i64 (at_2)) rfl rfl) ?_
  refine ro_val (d := (some 6)) rfl (.free rfl) rfl (q_lss (a := at_2) (b := (0 : Int)) rfl rfl rfl) ?_
  refine ro_val (d := (some 7)) rfl (.free rfl) rfl (q_move (v := .bool ((decide (at_2 < (0 : Int))))) rfl rfl) ?_
  refine ro_gval (g := (!(decide (at_2 < (0 : Int))))) (d := (some 8)) rfl (.no 2 7 true (decide (at_2 < (0 : Int))) rfl rfl rfl rfl) rfl (fun hg => q_move (v := .int .i64 (at_2)) rfl rfl) ?_
  refine ro_gval (g := (!(decide (at_2 < (0 : Int))))) (d := (some 9)) rfl (.no 2 7 true (decide (at_2 < (0 : Int))) rfl rfl rfl rfl) rfl (fun hg => q_gtr (a := at_2) (b := (1125899906842624 : Int)) rfl (gvb_yes hg) rfl) ?_
  refine ro_val (d := (some 10)) rfl (.free rfl) rfl (q_pickGF (a := (decide (at_2 < (0 : Int)))) (c := (decide (at_2 > (1125899906842624 : Int)))) rfl rfl rfl rfl) ?_
  refine ro_nil ?_
  refine wp_if (b := ((decide (at_2 < (0 : Int))) || (decide (at_2 > (1125899906842624 : Int))))) rfl h (fun hb9 h => ?_) (fun hb9 h => ?_)
  · refine wp_seq ?_
    refine wp_text [0] rfl ?_
    refine ro_val (d := (some 4)) rfl (.free rfl) rfl (q_assign (v := .int .i64 ((120 : Int))) rfl rfl) ?_
    refine ro_nil ?_
    refine wp_ret ?_
    exact ret_ok rfl (.cons (.tmp (v := .int .i64 ((120 : Int))) rfl) .nil) ⟨(120 : Int), rfl, h⟩
  · refine wp_skip ?_
    refine wp_seq ?_
    refine wp_seq ?_
    refine wp_text [0, 1, 2, 3] rfl ?_
    refine ro_val (d := (some 11)) rfl (.free rfl) rfl (q_move (v := .int .i64 (at_2)) rfl rfl) ?_
    refine ro_val (d := (some 12)) rfl (.free rfl) rfl (q_fieldAddr (a := a3) (off := 1) rfl Try.underlying27 rfl rfl ok2 (by decide) rfl) ?_
    obtain ⟨x5, hx5, h⟩ := h
    refine ro_val (d := (some 13)) rfl (.free rfl) rfl (q_load (T := (tInt .i64)) (u := x5) (a := (a3.add 1)) rfl ok2 rfl hx5) ?_
    refine ro_val (d := (some 14)) rfl (.free rfl) rfl (q_gtr (a := at_2) (b := x5) rfl rfl rfl) ?_
    refine ro_nil ?_
    refine wp_if (b := (decide (at_2 > x5))) rfl h (fun hb8 h => ?_) (fun hb8 h => ?_)
    · refine wp_seq ?_
      refine wp_text [0] rfl ?_
      refine ro_val (d := (some 4)) rfl (.free rfl) rfl (q_assign (v := .int .i64 ((128 : Int))) rfl rfl) ?_
      refine ro_nil ?_
      refine wp_ret ?_
      exact ret_ok rfl (.cons (.tmp (v := .int .i64 ((128 : Int))) rfl) .nil) ⟨(128 : Int), rfl, h⟩
    · refine wp_skip ?_
      refine wp_seq ?_
      refine wp_seq ?_
      refine wp_text [0, 1, 2, 3] rfl ?_
      refine ro_val (d := (some 15)) rfl (.free rfl) rfl (q_move (v := .int .i64 (at_2)) rfl rfl) ?_
      refine ro_val (d := (some 16)) rfl (.free rfl) rfl (q_fieldAddr (a := a3) (off := 2) rfl Try.underlying27 rfl rfl ok2 (by decide) rfl) ?_
      obtain ⟨x6, hx6, h⟩ := h
      refine ro_val (d := (some 17)) rfl (.free rfl) rfl (q_load (T := (tInt .i64)) (u := x6) (a := (a3.add 2)) rfl ok2 rfl hx6) ?_
      refine ro_val (d := (some 18)) rfl (.free rfl) rfl (q_lss (a := at_2) (b := x6) rfl rfl rfl) ?_
      refine ro_nil ?_
      refine wp_if (b := (decide (at_2 < x6))) rfl h (fun hb7 h => ?_) (fun hb7 h => ?_)
      · refine wp_seq ?_
        refine wp_text [0] rfl ?_
        refine ro_val (d := (some 4)) rfl (.free rfl) rfl (q_assign (v := .int .i64 ((126 : Int))) rfl rfl) ?_
        refine ro_nil ?_
        refine wp_ret ?_
        exact ret_ok rfl (.cons (.tmp (v := .int .i64 ((126 : Int))) rfl) .nil) ⟨(126 : Int), rfl, h⟩
      · refine wp_skip ?_
        refine wp_seq ?_
        refine wp_text [0] rfl ?_
        refine ro_val (d := (some 4)) rfl (.free rfl) rfl (q_assign (v := .int .i64 ((0 : Int))) rfl rfl) ?_
        refine ro_nil ?_
        refine wp_ret ?_
        exact ret_ok rfl (.cons (.tmp (v := .int .i64 ((0 : Int))) rfl) .nil) ⟨(0 : Int), rfl, h⟩

-- moiety/moietyref12.Keys
def F38_j2 (i_7 : Int) (out_11 : Slc) (w12 : World) (K9 : Slc × Int → World → Prop) (R : Slc → World → Prop) : Prop :=
  K9 (out_11, (IntKind.i64.wrap (i_7 + (1 : Int)))) w12
def F38_j4 (k_18 : Int) (at_21 : Int) (there_22 : Bool) (w23 : World) (K20 : Int × Bool × Int → World → Prop) (R : Slc → World → Prop) : Prop :=
  K20 (at_21, there_22, (IntKind.i64.wrap (k_18 + (1 : Int)))) w23
def F38_l3 (out_6 : Slc) (i_7 : Int) (x15 : Int) (at_16 : Int) (there_17 : Bool) (k_18 : Int) (w19 : World) (K9 : Slc × Int → World → Prop) (K20 : Int × Bool × Int → World → Prop) (R : Slc → World → Prop) : Prop :=
  if (decide (k_18 < (out_6.len : Int))) = true then (
    ex (fun x => (!there_17) = true → (IxA out_6 1 k_18) x) fun a24 =>
    ex (fun x => (!there_17) = true → (RdAt (tInt .i64) a24 w19) x) fun x25 =>
    ex (IxA out_6 1 k_18) fun a26 =>
    ex (RdAt (tInt .i64) a26 w19) fun x27 =>
    if (decide (x27 < x15)) = true then (
      F38_j4 k_18 (IntKind.i64.wrap (k_18 + (1 : Int))) (there_17 || (x25 == x15)) w19 K20 R
    ) else (
      F38_j4 k_18 at_16 (there_17 || (x25 == x15)) w19 K20 R
    )
  ) else (
    if (!there_17) = true then (
      dr w19 fun w29 =>
      ex (Sub out_6 1 0 at_16 ((out_6).cap : Int)) fun s30 =>
      ex (Sub out_6 1 at_16 ((out_6).len : Int) ((out_6).cap : Int)) fun s31 =>
      bth (
        nwS 3 (tInt .i64) ([] : List Int) w29 fun a32 w33 =>
        bth (
          apd 3 (tInt .i64) 1 8 (⟨some a32, 0, 0⟩ : Slc) s30 w33 fun r35 w34 =>
          apl 3 (tInt .i64) 1 8 r35 [x15] w34 fun r39 w38 =>
          apd 3 (tInt .i64) 1 8 r39 s31 w38 fun r41 w40 =>
          F38_j2 i_7 r41 w40 K9 R
        ) (
          nwS 3 (tInt .i64) [x15] w33 fun a42 w43 =>
          apd 3 (tInt .i64) 1 8 (⟨some a32, 0, 0⟩ : Slc) s30 w43 fun r45 w44 =>
          apd 3 (tInt .i64) 1 8 r45 (⟨some a42, 1, 1⟩ : Slc) w44 fun r47 w46 =>
          apd 3 (tInt .i64) 1 8 r47 s31 w46 fun r49 w48 =>
          F38_j2 i_7 r49 w48 K9 R
        )
      ) (
        nwS 3 (tInt .i64) [x15] w29 fun a50 w51 =>
        nwS 3 (tInt .i64) ([] : List Int) w51 fun a52 w53 =>
        apd 3 (tInt .i64) 1 8 (⟨some a52, 0, 0⟩ : Slc) s30 w53 fun r55 w54 =>
        apd 3 (tInt .i64) 1 8 r55 (⟨some a50, 1, 1⟩ : Slc) w54 fun r57 w56 =>
        apd 3 (tInt .i64) 1 8 r57 s31 w56 fun r59 w58 =>
        F38_j2 i_7 r59 w58 K9 R
      )
    ) else (
      F38_j2 i_7 out_6 w19 K9 R
    )
  )
def F38_l1 (a2 : Addr) (out_6 : Slc) (i_7 : Int) (w8 : World) (K9 : Slc × Int → World → Prop) (R : Slc → World → Prop) : Prop :=
  ex (RdAt tSlc (a2.add 0) w8) fun x10 =>
  if (decide (i_7 < (x10.len : Int))) = true then (
    ex (RdAt tSlc (a2.add 0) w8) fun x13 =>
    ex (IxA x13 3 i_7) fun a14 =>
    ex (RdAt (tInt .i64) ((a14.add 1).add 0) w8) fun x15 =>
    lp (fun (s : Int × Bool × Int) w K => F38_l3 out_6 i_7 x15 s.1 s.2.1 s.2.2 w K9 K R) ((0 : Int), false, (0 : Int)) w8
  ) else (
    R out_6 w8
  )
def F38 (s_1 : S26) (w : World) (R : Slc → World → Prop) : Prop :=
  nw 27 T26 s_1 w fun a2 w3 =>
  nwS 3 (tInt .i64) ([] : List Int) w3 fun a4 w5 =>
  lp (fun (s : Slc × Int) w K => F38_l1 a2 s.1 s.2 w K R) ((⟨some a4, 0, 0⟩ : Slc), (0 : Int)) w5
theorem F38_ok {s_1 : S26} {w : World} {R : Slc → World → Prop} (h : F38 s_1 w R) : cl Try.prog 38 [T26.enc (s_1)] tSlc w R := by
  unfold F38 at h
  refine calls_start 62 Try.func38 rfl rfl (Nat.le_of_ble_eq_true rfl) ?_
  refine wp_seq ?_
  refine wp_text [0, 1] rfl ?_
  obtain ⟨a2, w3, ha2, hw3, h⟩ := nw_open h
  refine ro_val (d := (some 1)) rfl (.free rfl) rfl (q_box (u := s_1) rfl ok27 rfl ha2 hw3) ?_
  refine ro_val (d := (some 2)) rfl (.free rfl) rfl (q_assign (v := tSlc.enc ((⟨none, 0, 0⟩ : Slc))) rfl rfl) ?_
  refine ro_nil ?_
  refine wp_seq ?_
  refine wp_text [0, 1] rfl ?_
  obtain ⟨a4, w5, ha4, hw5, h⟩ := nwS_open h
  refine ro_val (d := (some 9)) rfl (.free rfl) rfl (q_row0 (T := (tInt .i64)) rfl Try.underlying79 ok3 inf3 ha4 hw5) ?_
  refine ro_val (d := (some 3)) rfl (.free rfl) rfl (q_assign (v := tSlc.enc ((⟨some a4, 0, 0⟩ : Slc))) rfl rfl) ?_
  refine ro_nil ?_
  refine wp_seq ?_
  refine wp_seq ?_
  refine wp_text [0] rfl ?_
  refine ro_val (d := (some 4)) rfl (.free rfl) rfl (q_assign (v := .int .i64 ((0 : Int))) rfl rfl) ?_
  refine ro_nil ?_
  refine wp_block ?_
  refine loop_at (σ := Slc × Int) (fr := fun g (s : Slc × Int) => upd (upd (upd (g) 1 (.pointer (some a2))) 3 (tSlc.enc (s.1))) 4 (.int .i64 (s.2))) (s0 := ((⟨some a4, 0, 0⟩ : Slc), (0 : Int))) (upd_step (upd_step (upd_step rfl rfl) rfl) rfl) h ?_
  rintro ⟨out_6, i_7⟩ g w8 K9 h
  unfold F38_l1 at h
  refine wp_seq ?_
  refine wp_seq ?_
  refine wp_text [0, 1, 2, 3, 4] rfl ?_
  refine ro_val (d := (some 10)) rfl (.free rfl) rfl (q_move (v := .int .i64 (i_7)) rfl rfl) ?_
  refine ro_val (d := (some 11)) rfl (.free rfl) rfl (q_fieldAddr (a := a2) (off := 0) rfl Try.underlying27 rfl rfl ok25 (by decide) rfl) ?_
  obtain ⟨x10, hx10, h⟩ := h
  refine ro_val (d := (some 12)) rfl (.free rfl) rfl (q_load (T := tSlc) (u := x10) (a := (a2.add 0)) rfl ok25 rfl hx10) ?_
  refine ro_val (d := (some 13)) rfl (.free rfl) rfl (q_len (s := x10) rfl Try.underlying25 rfl) ?_
  refine ro_val (d := (some 14)) rfl (.free rfl) rfl (q_lss (a := i_7) (b := (x10.len : Int)) rfl rfl rfl) ?_
  refine ro_nil ?_
  refine wp_if (b := (decide (i_7 < (x10.len : Int)))) rfl h (fun hb62 h => ?_) (fun hb62 h => ?_)
  · refine wp_skip ?_
    refine seq_join (σ := Slc) (J := fun (s : Slc) w => F38_j2 i_7 s w K9 R) (fr := fun g (s : Slc) => upd (upd (upd (g) 1 (.pointer (some a2))) 4 (.int .i64 (i_7))) 3 (tSlc.enc (s))) ?_ ?_
    · rintro out_11 g w12 h
      unfold F38_j2 at h
      refine wp_text [0, 1, 2] rfl ?_
      refine ro_val (d := (some 15)) rfl (.free rfl) rfl (q_move (v := .int .i64 (i_7)) rfl rfl) ?_
      refine ro_val (d := (some 16)) rfl (.free rfl) rfl (q_add (a := i_7) (b := (1 : Int)) rfl rfl rfl) ?_
      refine ro_val (d := (some 4)) rfl (.free rfl) rfl (q_assign (v := .int .i64 ((IntKind.i64.wrap (i_7 + (1 : Int))))) rfl rfl) ?_
      refine ro_nil ?_
      exact ⟨(out_11, (IntKind.i64.wrap (i_7 + (1 : Int)))), _, arr (upd_step (upd_step (upd_step rfl rfl) rfl) rfl), h⟩
    · refine wp_block ?_
      refine wp_seq ?_
      refine wp_text [0, 1, 2, 3, 4, 5, 6, 7, 8, 9] rfl ?_
      refine ro_val (d := (some 17)) rfl (.free rfl) rfl (q_fieldAddr (a := a2) (off := 0) rfl Try.underlying27 rfl rfl ok25 (by decide) rfl) ?_
      obtain ⟨x13, hx13, h⟩ := h
      refine ro_val (d := (some 18)) rfl (.free rfl) rfl (q_load (T := tSlc) (u := x13) (a := (a2.add 0)) rfl ok25 rfl hx13) ?_
      refine ro_val (d := (some 19)) rfl (.free rfl) rfl (q_move (v := .int .i64 (i_7)) rfl rfl) ?_
      obtain ⟨a14, ha14, h⟩ := h
      refine ro_val (d := (some 20)) rfl (.free rfl) rfl (q_indexAddr (s := x13) (i := i_7) rfl Try.underlying25 ok76 rfl rfl ha14) ?_
      refine ro_val (d := (some 21)) rfl (.free rfl) rfl (q_fieldAddr (a := a14) (off := 1) rfl Try.underlying76 rfl rfl ok58 (by decide) rfl) ?_
      refine ro_val (d := (some 22)) rfl (.free rfl) rfl (q_fieldAddr (a := (a14.add 1)) (off := 0) rfl Try.underlying58 rfl rfl ok3 (by decide) rfl) ?_
      obtain ⟨x15, hx15, h⟩ := h
      refine ro_val (d := (some 23)) rfl (.free rfl) rfl (q_load (T := (tInt .i64)) (u := x15) (a := ((a14.add 1).add 0)) rfl ok3 rfl hx15) ?_
      refine ro_val (d := (some 5)) rfl (.free rfl) rfl (q_assign (v := .int .i64 (x15)) rfl rfl) ?_
      refine ro_val (d := (some 6)) rfl (.free rfl) rfl (q_assign (v := .int .i64 ((0 : Int))) rfl rfl) ?_
      refine ro_val (d := (some 7)) rfl (.free rfl) rfl (q_assign (v := .bool (false)) rfl rfl) ?_
      refine ro_nil ?_
      refine wp_seq ?_
      refine wp_seq ?_
      refine wp_text [0] rfl ?_
      refine ro_val (d := (some 8)) rfl (.free rfl) rfl (q_assign (v := .int .i64 ((0 : Int))) rfl rfl) ?_
      refine ro_nil ?_
      refine wp_block ?_
      refine loop_at (σ := Int × Bool × Int) (fr := fun g (s : Int × Bool × Int) => upd (upd (upd (upd (upd (upd (upd (g) 1 (.pointer (some a2))) 3 (tSlc.enc (out_6))) 4 (.int .i64 (i_7))) 5 (.int .i64 (x15))) 6 (.int .i64 (s.1))) 7 (.bool (s.2.1))) 8 (.int .i64 (s.2.2))) (s0 := ((0 : Int), false, (0 : Int))) (upd_step (upd_step (upd_step (upd_step (upd_step (upd_step (upd_step rfl rfl) rfl) rfl) rfl) rfl) rfl) rfl) h ?_
      rintro ⟨at_16, there_17, k_18⟩ g w19 K20 h
      unfold F38_l3 at h
      refine wp_seq ?_
      refine wp_seq ?_
      refine wp_text [0, 1, 2, 3] rfl ?_
      refine ro_val (d := (some 24)) rfl (.free rfl) rfl (q_move (v := .int .i64 (k_18)) rfl rfl) ?_
      refine ro_val (d := (some 25)) rfl (.free rfl) rfl (q_move (v := tSlc.enc (out_6)) rfl rfl) ?_
      refine ro_val (d := (some 26)) rfl (.free rfl) rfl (q_len (s := out_6) rfl Try.underlying79 rfl) ?_
      refine ro_val (d := (some 27)) rfl (.free rfl) rfl (q_lss (a := k_18) (b := (out_6.len : Int)) rfl rfl rfl) ?_
      refine ro_nil ?_
      refine wp_if (b := (decide (k_18 < (out_6.len : Int)))) rfl h (fun hb61 h => ?_) (fun hb61 h => ?_)
      · refine wp_skip ?_
        refine seq_join (σ := Int × Bool) (J := fun (s : Int × Bool) w => F38_j4 k_18 s.1 s.2 w K20 R) (fr := fun g (s : Int × Bool) => upd (upd (upd (upd (upd (upd (upd (g) 1 (.pointer (some a2))) 3 (tSlc.enc (out_6))) 4 (.int .i64 (i_7))) 5 (.int .i64 (x15))) 8 (.int .i64 (k_18))) 6 (.int .i64 (s.1))) 7 (.bool (s.2))) ?_ ?_
        · rintro ⟨at_21, there_22⟩ g w23 h
          unfold F38_j4 at h
          refine wp_text [0, 1, 2] rfl ?_
          refine ro_val (d := (some 28)) rfl (.free rfl) rfl (q_move (v := .int .i64 (k_18)) rfl rfl) ?_
          refine ro_val (d := (some 29)) rfl (.free rfl) rfl (q_add (a := k_18) (b := (1 : Int)) rfl rfl rfl) ?_
          refine ro_val (d := (some 8)) rfl (.free rfl) rfl (q_assign (v := .int .i64 ((IntKind.i64.wrap (k_18 + (1 : Int))))) rfl rfl) ?_
          refine ro_nil ?_
          exact ⟨(at_21, there_22, (IntKind.i64.wrap (k_18 + (1 : Int)))), _, arr (upd_step (upd_step (upd_step (upd_step (upd_step (upd_step (upd_step rfl rfl) rfl) rfl) rfl) rfl) rfl) rfl), h⟩
        · refine wp_block ?_
          refine wp_seq ?_
          refine wp_text [0, 1, 2, 3, 4, 5, 6, 7, 8, 9] rfl ?_
          refine ro_val (d := (some 30)) rfl (.free rfl) rfl (q_move (v := .bool (there_17)) rfl rfl) ?_
          refine ro_val (d := (some 31)) rfl (.free rfl) rfl (q_move (v := .bool (there_17)) rfl rfl) ?_
          refine ro_gval (g := (!there_17)) (d := (some 32)) rfl (.no 1 31 true there_17 rfl rfl rfl rfl) rfl (fun hg => q_move (v := tSlc.enc (out_6)) rfl rfl) ?_
          refine ro_gval (g := (!there_17)) (d := (some 33)) rfl (.no 1 31 true there_17 rfl rfl rfl rfl) rfl (fun hg => q_move (v := .int .i64 (k_18)) rfl rfl) ?_
          obtain ⟨a24, ha24, h⟩ := h
          refine ro_gval (g := (!there_17)) (d := (some 34)) rfl (.no 1 31 true there_17 rfl rfl rfl rfl) rfl (fun hg => q_indexAddr (s := out_6) (i := k_18) rfl Try.underlying79 ok3 (gvb_yes hg) (gvb_yes hg) (ha24 hg)) ?_
          obtain ⟨x25, hx25, h⟩ := h
          refine ro_gval (g := (!there_17)) (d := (some 35)) rfl (.no 1 31 true there_17 rfl rfl rfl rfl) rfl (fun hg => q_load (T := (tInt .i64)) (u := x25) (a := a24) rfl ok3 (gvb_yes hg) (hx25 hg)) ?_
          refine ro_gval (g := (!there_17)) (d := (some 36)) rfl (.no 1 31 true there_17 rfl rfl rfl rfl) rfl (fun hg => q_move (v := .int .i64 (x15)) rfl rfl) ?_
          refine ro_gval (g := (!there_17)) (d := (some 37)) rfl (.no 1 31 true there_17 rfl rfl rfl rfl) rfl (fun hg => q_eql (a := x25) (b := x15) rfl (gvb_yes hg) (gvb_yes hg)) ?_
          refine ro_val (d := (some 38)) rfl (.free rfl) rfl (q_pickGF (a := there_17) (c := (x25 == x15)) rfl rfl rfl rfl) ?_
          refine ro_val (d := (some 7)) rfl (.free rfl) rfl (q_assign (v := .bool ((there_17 || (x25 == x15)))) rfl rfl) ?_
          refine ro_nil ?_
          refine wp_seq ?_
          refine wp_text [0, 1, 2, 3, 4, 5] rfl ?_
          refine ro_val (d := (some 39)) rfl (.free rfl) rfl (q_move (v := tSlc.enc (out_6)) rfl rfl) ?_
          refine ro_val (d := (some 40)) rfl (.free rfl) rfl (q_move (v := .int .i64 (k_18)) rfl rfl) ?_
          obtain ⟨a26, ha26, h⟩ := h
          refine ro_val (d := (some 41)) rfl (.free rfl) rfl (q_indexAddr (s := out_6) (i := k_18) rfl Try.underlying79 ok3 rfl rfl ha26) ?_
          obtain ⟨x27, hx27, h⟩ := h
          refine ro_val (d := (some 42)) rfl (.free rfl) rfl (q_load (T := (tInt .i64)) (u := x27) (a := a26) rfl ok3 rfl hx27) ?_
          refine ro_val (d := (some 43)) rfl (.free rfl) rfl (q_move (v := .int .i64 (x15)) rfl rfl) ?_
          refine ro_val (d := (some 44)) rfl (.free rfl) rfl (q_lss (a := x27) (b := x15) rfl rfl rfl) ?_
          refine ro_nil ?_
          refine wp_if (b := (decide (x27 < x15))) rfl h (fun hb28 h => ?_) (fun hb28 h => ?_)
          · refine wp_text [0, 1, 2] rfl ?_
            refine ro_val (d := (some 45)) rfl (.free rfl) rfl (q_move (v := .int .i64 (k_18)) rfl rfl) ?_
            refine ro_val (d := (some 46)) rfl (.free rfl) rfl (q_add (a := k_18) (b := (1 : Int)) rfl rfl rfl) ?_
            refine ro_val (d := (some 6)) rfl (.free rfl) rfl (q_assign (v := .int .i64 ((IntKind.i64.wrap (k_18 + (1 : Int))))) rfl rfl) ?_
            refine ro_nil ?_
            exact ⟨((IntKind.i64.wrap (k_18 + (1 : Int))), (there_17 || (x25 == x15))), _, arr (upd_step (upd_step (upd_step (upd_step (upd_step (upd_step (upd_step rfl rfl) rfl) rfl) rfl) rfl) rfl) rfl), h⟩
          · refine wp_skip ?_
            exact ⟨(at_16, (there_17 || (x25 == x15))), _, arr (upd_step (upd_step (upd_step (upd_step (upd_step (upd_step (upd_step rfl rfl) rfl) rfl) rfl) rfl) rfl) rfl), h⟩
      · refine wp_exit ?_
        refine wp_seq ?_
        refine wp_text [0, 1] rfl ?_
        refine ro_val (d := (some 47)) rfl (.free rfl) rfl (q_move (v := .bool (there_17)) rfl rfl) ?_
        refine ro_val (d := (some 48)) rfl (.free rfl) rfl (q_not (b := there_17) rfl rfl) ?_
        refine ro_nil ?_
        refine wp_if (b := (!there_17)) rfl h (fun hb60 h => ?_) (fun hb60 h => ?_)
        · obtain ⟨w29, hw29, h⟩ := dr_open h
          refine wp_drawn 13 mixed rfl (by kernel_rfl) (by intro c a d v w h; cases d <;> exact h) hw29 (fun hD => ?_)
          refine rd_pure (i := 1) (d := (some 50)) hD (by kernel_rfl) (by kernel_rfl) rfl (.free rfl) rfl (fun _ => q_move (v := tSlc.enc (out_6)) rfl rfl) ?_
          refine rd_pure (i := 2) (d := (some 51)) hD (by kernel_rfl) (by kernel_rfl) rfl (.free rfl) rfl (fun _ => q_move (v := .int .i64 (at_16)) rfl rfl) ?_
          obtain ⟨s30, hs30, h⟩ := h
          refine rd_pure (i := 3) (d := (some 52)) hD (by kernel_rfl) (by kernel_rfl) rfl (.free rfl) rfl (fun _ => q_sliceH (s := out_6) (h := at_16) rfl Try.underlying79 ok3 rfl rfl hs30) ?_
          refine rd_pure (i := 5) (d := (some 54)) hD (by kernel_rfl) (by kernel_rfl) rfl (.free rfl) rfl (fun _ => q_move (v := .int .i64 (x15)) rfl rfl) ?_
          refine rd_pure (i := 8) (d := (some 57)) hD (by kernel_rfl) (by kernel_rfl) rfl (.free rfl) rfl (fun _ => q_move (v := tSlc.enc (out_6)) rfl rfl) ?_
          refine rd_pure (i := 9) (d := (some 58)) hD (by kernel_rfl) (by kernel_rfl) rfl (.free rfl) rfl (fun _ => q_move (v := .int .i64 (at_16)) rfl rfl) ?_
          obtain ⟨s31, hs31, h⟩ := h
          refine rd_pure (i := 10) (d := (some 59)) hD (by kernel_rfl) (by kernel_rfl) rfl (.free rfl) rfl (fun _ => q_sliceL (s := out_6) (l := at_16) rfl Try.underlying79 ok3 rfl rfl hs31) ?_
          obtain ⟨h, h'⟩ := h
          refine rd_two (i := 0) (j := 6) (by kernel_rfl) ?_ ?_
          · clear h'
            obtain ⟨a32, w33, ha32, hw33, h⟩ := nwS_open h
            refine po_val (d := (some 49)) rfl (.free rfl) rfl (q_row0 (T := (tInt .i64)) rfl Try.underlying79 ok3 inf3 ha32 hw33) ⟨hk_nil, ?_⟩
            obtain ⟨h, h'⟩ := h
            refine rd_two (i := 4) (j := 6) (by kernel_rfl) ?_ ?_
            · clear h'
              refine po_wp rfl (.free rfl) (wp_append (d := (some 53)) (T := (tInt .i64)) rfl rfl Try.underlying79 ⟨_, Try.underlying79⟩ ok3 inf3 rfl rfl (Nat.lt_of_lt_of_le Nat.zero_lt_one (Nat.le_of_ble_eq_true rfl)) rfl rfl h ?_)
              intro r35 w34 h
              refine ⟨hk_nil, ?_⟩
              refine rd_one (i := 6) (by kernel_rfl) ?_
              obtain ⟨a36, w37, ha36, hw37, h⟩ := apl_open h
              refine po_val (d := (some 55)) rfl (.free rfl) rfl (q_rowOf (T := (tInt .i64)) (xs := [x15]) rfl Try.underlying79 ok3 inf3 rfl (by decide) (by decide) rfl ha36 hw37) ⟨hk_nil, ?_⟩
              refine rd_one (i := 7) (by kernel_rfl) ?_
              refine po_wp rfl (.free rfl) (wp_append (d := (some 56)) (T := (tInt .i64)) rfl rfl Try.underlying79 ⟨_, Try.underlying79⟩ ok3 inf3 rfl rfl (Nat.lt_of_lt_of_le Nat.zero_lt_one (Nat.le_of_ble_eq_true rfl)) rfl rfl h ?_)
              intro r39 w38 h
              refine ⟨hk_nil, ?_⟩
              refine rd_one (i := 11) (by kernel_rfl) ?_
              refine po_wp rfl (.free rfl) (wp_append (d := (some 60)) (T := (tInt .i64)) rfl rfl Try.underlying79 ⟨_, Try.underlying79⟩ ok3 inf3 rfl rfl (Nat.lt_of_lt_of_le Nat.zero_lt_one (Nat.le_of_ble_eq_true rfl)) rfl rfl h ?_)
              intro r41 w40 h
              refine ⟨hk_nil, ?_⟩
              refine rd_pure (i := 12) (d := (some 3)) hD (by kernel_rfl) (by kernel_rfl) rfl (.free rfl) rfl (fun _ => q_assign (v := tSlc.enc (r41)) rfl rfl) ?_
              refine rd_nil (by kernel_rfl) ?_
              exact ⟨(r41), _, arr (upd_step (upd_step (upd_step rfl rfl) rfl) rfl), h⟩
            · replace h := h'; clear h'
              obtain ⟨a42, w43, ha42, hw43, h⟩ := nwS_open h
              refine po_val (d := (some 55)) rfl (.free rfl) rfl (q_rowOf (T := (tInt .i64)) (xs := [x15]) rfl Try.underlying79 ok3 inf3 rfl (by decide) (by decide) rfl ha42 hw43) ⟨hk_nil, ?_⟩
              refine rd_one (i := 4) (by kernel_rfl) ?_
              refine po_wp rfl (.free rfl) (wp_append (d := (some 53)) (T := (tInt .i64)) rfl rfl Try.underlying79 ⟨_, Try.underlying79⟩ ok3 inf3 rfl rfl (Nat.lt_of_lt_of_le Nat.zero_lt_one (Nat.le_of_ble_eq_true rfl)) rfl rfl h ?_)
              intro r45 w44 h
              refine ⟨hk_nil, ?_⟩
              refine rd_one (i := 7) (by kernel_rfl) ?_
              refine po_wp rfl (.free rfl) (wp_append (d := (some 56)) (T := (tInt .i64)) rfl rfl Try.underlying79 ⟨_, Try.underlying79⟩ ok3 inf3 rfl rfl (Nat.lt_of_lt_of_le Nat.zero_lt_one (Nat.le_of_ble_eq_true rfl)) rfl rfl h ?_)
              intro r47 w46 h
              refine ⟨hk_nil, ?_⟩
              refine rd_one (i := 11) (by kernel_rfl) ?_
              refine po_wp rfl (.free rfl) (wp_append (d := (some 60)) (T := (tInt .i64)) rfl rfl Try.underlying79 ⟨_, Try.underlying79⟩ ok3 inf3 rfl rfl (Nat.lt_of_lt_of_le Nat.zero_lt_one (Nat.le_of_ble_eq_true rfl)) rfl rfl h ?_)
              intro r49 w48 h
              refine ⟨hk_nil, ?_⟩
              refine rd_pure (i := 12) (d := (some 3)) hD (by kernel_rfl) (by kernel_rfl) rfl (.free rfl) rfl (fun _ => q_assign (v := tSlc.enc (r49)) rfl rfl) ?_
              refine rd_nil (by kernel_rfl) ?_
              exact ⟨(r49), _, arr (upd_step (upd_step (upd_step rfl rfl) rfl) rfl), h⟩
          · replace h := h'; clear h'
            obtain ⟨a50, w51, ha50, hw51, h⟩ := nwS_open h
            refine po_val (d := (some 55)) rfl (.free rfl) rfl (q_rowOf (T := (tInt .i64)) (xs := [x15]) rfl Try.underlying79 ok3 inf3 rfl (by decide) (by decide) rfl ha50 hw51) ⟨hk_nil, ?_⟩
            refine rd_one (i := 0) (by kernel_rfl) ?_
            obtain ⟨a52, w53, ha52, hw53, h⟩ := nwS_open h
            refine po_val (d := (some 49)) rfl (.free rfl) rfl (q_row0 (T := (tInt .i64)) rfl Try.underlying79 ok3 inf3 ha52 hw53) ⟨hk_nil, ?_⟩
            refine rd_one (i := 4) (by kernel_rfl) ?_
            refine po_wp rfl (.free rfl) (wp_append (d := (some 53)) (T := (tInt .i64)) rfl rfl Try.underlying79 ⟨_, Try.underlying79⟩ ok3 inf3 rfl rfl (Nat.lt_of_lt_of_le Nat.zero_lt_one (Nat.le_of_ble_eq_true rfl)) rfl rfl h ?_)
            intro r55 w54 h
            refine ⟨hk_nil, ?_⟩
            refine rd_one (i := 7) (by kernel_rfl) ?_
            refine po_wp rfl (.free rfl) (wp_append (d := (some 56)) (T := (tInt .i64)) rfl rfl Try.underlying79 ⟨_, Try.underlying79⟩ ok3 inf3 rfl rfl (Nat.lt_of_lt_of_le Nat.zero_lt_one (Nat.le_of_ble_eq_true rfl)) rfl rfl h ?_)
            intro r57 w56 h
            refine ⟨hk_nil, ?_⟩
            refine rd_one (i := 11) (by kernel_rfl) ?_
            refine po_wp rfl (.free rfl) (wp_append (d := (some 60)) (T := (tInt .i64)) rfl rfl Try.underlying79 ⟨_, Try.underlying79⟩ ok3 inf3 rfl rfl (Nat.lt_of_lt_of_le Nat.zero_lt_one (Nat.le_of_ble_eq_true rfl)) rfl rfl h ?_)
            intro r59 w58 h
            refine ⟨hk_nil, ?_⟩
            refine rd_pure (i := 12) (d := (some 3)) hD (by kernel_rfl) (by kernel_rfl) rfl (.free rfl) rfl (fun _ => q_assign (v := tSlc.enc (r59)) rfl rfl) ?_
            refine rd_nil (by kernel_rfl) ?_
            exact ⟨(r59), _, arr (upd_step (upd_step (upd_step rfl rfl) rfl) rfl), h⟩
        · refine wp_skip ?_
          exact ⟨(out_6), _, arr (upd_step (upd_step (upd_step rfl rfl) rfl) rfl), h⟩
  · refine wp_exit ?_
    refine wp_seq ?_
    refine wp_text [0, 1] rfl ?_
    refine ro_val (d := (some 61)) rfl (.free rfl) rfl (q_move (v := tSlc.enc (out_6)) rfl rfl) ?_
    refine ro_val (d := (some 2)) rfl (.free rfl) rfl (q_assign (v := tSlc.enc (out_6)) rfl rfl) ?_
    refine ro_nil ?_
    refine wp_ret ?_
    exact ret_ok rfl (.cons (.tmp (v := tSlc.enc (out_6)) rfl) .nil) ⟨out_6, rfl, h⟩

-- moiety/moietyref12.counts
def F39_j2 (i_12 : Int) (ok_16 : Bool) (w17 : World) (K14 : Bool × Int → World → Prop) (R : (S35 × Bool) → World → Prop) : Prop :=
  K14 (ok_16, (IntKind.i64.wrap (i_12 + (1 : Int)))) w17
def F39_l1 (key_2 : Int) (at_3 : Int) (a4 : Addr) (a6 : Addr) (a8 : Addr) (ok_11 : Bool) (i_12 : Int) (w13 : World) (K14 : Bool × Int → World → Prop) (R : (S35 × Bool) → World → Prop) : Prop :=
  ex (RdAt tSlc (a4.add 0) w13) fun x15 =>
  if (decide (i_12 < (x15.len : Int))) = true then (
    ex (RdAt tSlc (a4.add 0) w13) fun x18 =>
    ex (IxA x18 3 i_12) fun a19 =>
    ex (RdAt (tInt .i64) ((a19.add 1).add 0) w13) fun x20 =>
    ex (fun x => (x20 == key_2) = true → (RdAt tSlc (a4.add 0) w13) x) fun x21 =>
    ex (fun x => (x20 == key_2) = true → (IxA x21 3 i_12) x) fun a22 =>
    ex (fun x => (x20 == key_2) = true → (RdAt (tInt .i64) (a22.add 0) w13) x) fun x23 =>
    if ((x20 == key_2) && (decide (x23 ≤ at_3))) = true then (
      dr w13 fun w24 =>
      ex (RdAt tSlc (a4.add 0) w24) fun x25 =>
      ex (IxA x25 3 i_12) fun a26 =>
      ex (RdAt (tInt .i64) (a26.add 0) w24) fun x27 =>
      ex (RdAt tSlc (a4.add 0) w24) fun x28 =>
      ex (IxA x28 3 i_12) fun a29 =>
      ex (RdAt (tInt .i64) ((a29.add 1).add 1) w24) fun x30 =>
      st T35 a8 (⟨x27, x30⟩ : S35) w24 fun w31 =>
      F39_j2 i_12 true w31 K14 R
    ) else (
      F39_j2 i_12 ok_11 w13 K14 R
    )
  ) else (
    ex (RdAt T35 a8 w13) fun x33 =>
    st T35 a6 x33 w13 fun w34 =>
    ex (RdAt T35 a6 w34) fun x35 =>
    R (x35, ok_11) w34
  )
def F39 (s_1 : S26) (key_2 : Int) (at_3 : Int) (w : World) (R : (S35 × Bool) → World → Prop) : Prop :=
  nw 27 T26 s_1 w fun a4 w5 =>
  nw 36 T35 Z35 w5 fun a6 w7 =>
  nw 36 T35 Z35 w7 fun a8 w9 =>
  st T35 a8 (⟨(0 : Int), (0 : Int)⟩ : S35) w9 fun w10 =>
  lp (fun (s : Bool × Int) w K => F39_l1 key_2 at_3 a4 a6 a8 s.1 s.2 w K R) (false, (0 : Int)) w10
theorem F39_ok {s_1 : S26} {key_2 : Int} {at_3 : Int} {w : World} {R : (S35 × Bool) → World → Prop} (h : F39 s_1 key_2 at_3 w R) : cl Try.prog 39 [T26.enc (s_1), .int .i64 (key_2), .int .i64 (at_3)] (tTup2 T35 tBool) w R := by
  unfold F39 at h
  refine calls_start 54 Try.func39 rfl rfl (Nat.le_of_ble_eq_true rfl) ?_
  refine wp_seq ?_
  refine wp_text [0, 1, 2] rfl ?_
  obtain ⟨a4, w5, ha4, hw5, h⟩ := nw_open h
  refine ro_val (d := (some 3)) rfl (.free rfl) rfl (q_box (u := s_1) rfl ok27 rfl ha4 hw5) ?_
  obtain ⟨a6, w7, ha6, hw7, h⟩ := nw_open h
  refine ro_val (d := (some 6)) rfl (.free rfl) rfl (q_alloc (u := Z35) rfl ok36 inf36 ha6 hw7) ?_
  refine ro_val (d := (some 7)) rfl (.free rfl) rfl (q_assign (v := .bool (false)) rfl rfl) ?_
  refine ro_nil ?_
  refine wp_seq ?_
  refine wp_text [0, 1, 2, 3] rfl ?_
  refine ro_val (d := (some 11)) rfl (.free rfl) rfl (q_build36_  rfl ) ?_
  obtain ⟨a8, w9, ha8, hw9, h⟩ := nw_open h
  refine ro_val (d := (some 8)) rfl (.free rfl) rfl (q_alloc (u := Z35) rfl ok36 inf36 ha8 hw9) ?_
  obtain ⟨w10, hw10, hrw10, h⟩ := st_open h
  refine ro_skip (d := none) rfl (.free rfl) rfl (q_store (T := T35) (u := (⟨(0 : Int), (0 : Int)⟩ : S35)) (a := a8) rfl ok36 rfl rfl hrw10 hw10) ?_
  refine ro_val (d := (some 9)) rfl (.free rfl) rfl (q_assign (v := .bool (false)) rfl rfl) ?_
  refine ro_nil ?_
  refine wp_seq ?_
  refine wp_seq ?_
  refine wp_text [0] rfl ?_
  refine ro_val (d := (some 10)) rfl (.free rfl) rfl (q_assign (v := .int .i64 ((0 : Int))) rfl rfl) ?_
  refine ro_nil ?_
  refine wp_block ?_
  refine loop_at (σ := Bool × Int) (fr := fun g (s : Bool × Int) => upd (upd (upd (upd (upd (upd (upd (g) 1 (.int .i64 (key_2))) 2 (.int .i64 (at_3))) 3 (.pointer (some a4))) 6 (.pointer (some a6))) 8 (.pointer (some a8))) 9 (.bool (s.1))) 10 (.int .i64 (s.2))) (s0 := (false, (0 : Int))) (upd_step (upd_step (upd_step (upd_step (upd_step (upd_step (upd_step rfl rfl) rfl) rfl) rfl) rfl) rfl) rfl) h ?_
  rintro ⟨ok_11, i_12⟩ g w13 K14 h
  unfold F39_l1 at h
  refine wp_seq ?_
  refine wp_seq ?_
  refine wp_text [0, 1, 2, 3, 4] rfl ?_
  refine ro_val (d := (some 12)) rfl (.free rfl) rfl (q_move (v := .int .i64 (i_12)) rfl rfl) ?_
  refine ro_val (d := (some 13)) rfl (.free rfl) rfl (q_fieldAddr (a := a4) (off := 0) rfl Try.underlying27 rfl rfl ok25 (by decide) rfl) ?_
  obtain ⟨x15, hx15, h⟩ := h
  refine ro_val (d := (some 14)) rfl (.free rfl) rfl (q_load (T := tSlc) (u := x15) (a := (a4.add 0)) rfl ok25 rfl hx15) ?_
  refine ro_val (d := (some 15)) rfl (.free rfl) rfl (q_len (s := x15) rfl Try.underlying25 rfl) ?_
  refine ro_val (d := (some 16)) rfl (.free rfl) rfl (q_lss (a := i_12) (b := (x15.len : Int)) rfl rfl rfl) ?_
  refine ro_nil ?_
  refine wp_if (b := (decide (i_12 < (x15.len : Int)))) rfl h (fun hb36 h => ?_) (fun hb36 h => ?_)
  · refine wp_skip ?_
    refine seq_join (σ := Bool) (J := fun (s : Bool) w => F39_j2 i_12 s w K14 R) (fr := fun g (s : Bool) => upd (upd (upd (upd (upd (upd (upd (g) 1 (.int .i64 (key_2))) 2 (.int .i64 (at_3))) 3 (.pointer (some a4))) 6 (.pointer (some a6))) 8 (.pointer (some a8))) 10 (.int .i64 (i_12))) 9 (.bool (s))) ?_ ?_
    · rintro ok_16 g w17 h
      unfold F39_j2 at h
      refine wp_text [0, 1, 2] rfl ?_
      refine ro_val (d := (some 17)) rfl (.free rfl) rfl (q_move (v := .int .i64 (i_12)) rfl rfl) ?_
      refine ro_val (d := (some 18)) rfl (.free rfl) rfl (q_add (a := i_12) (b := (1 : Int)) rfl rfl rfl) ?_
      refine ro_val (d := (some 10)) rfl (.free rfl) rfl (q_assign (v := .int .i64 ((IntKind.i64.wrap (i_12 + (1 : Int))))) rfl rfl) ?_
      refine ro_nil ?_
      exact ⟨(ok_16, (IntKind.i64.wrap (i_12 + (1 : Int)))), _, arr (upd_step (upd_step (upd_step (upd_step (upd_step (upd_step (upd_step rfl rfl) rfl) rfl) rfl) rfl) rfl) rfl), h⟩
    · refine wp_block ?_
      refine wp_seq ?_
      refine wp_text [0, 1, 2, 3, 4, 5, 6, 7, 8, 9, 10, 11, 12, 13, 14, 15, 16, 17, 18] rfl ?_
      refine ro_val (d := (some 19)) rfl (.free rfl) rfl (q_fieldAddr (a := a4) (off := 0) rfl Try.underlying27 rfl rfl ok25 (by decide) rfl) ?_
      obtain ⟨x18, hx18, h⟩ := h
      refine ro_val (d := (some 20)) rfl (.free rfl) rfl (q_load (T := tSlc) (u := x18) (a := (a4.add 0)) rfl ok25 rfl hx18) ?_
      refine ro_val (d := (some 21)) rfl (.free rfl) rfl (q_move (v := .int .i64 (i_12)) rfl rfl) ?_
      obtain ⟨a19, ha19, h⟩ := h
      refine ro_val (d := (some 22)) rfl (.free rfl) rfl (q_indexAddr (s := x18) (i := i_12) rfl Try.underlying25 ok76 rfl rfl ha19) ?_
      refine ro_val (d := (some 23)) rfl (.free rfl) rfl (q_fieldAddr (a := a19) (off := 1) rfl Try.underlying76 rfl rfl ok58 (by decide) rfl) ?_
      refine ro_val (d := (some 24)) rfl (.free rfl) rfl (q_fieldAddr (a := (a19.add 1)) (off := 0) rfl Try.underlying58 rfl rfl ok3 (by decide) rfl) ?_
      obtain ⟨x20, hx20, h⟩ := h
      refine ro_val (d := (some 25)) rfl (.free rfl) rfl (q_load (T := (tInt .i64)) (u := x20) (a := ((a19.add 1).add 0)) rfl ok3 rfl hx20) ?_
      refine ro_val (d := (some 26)) rfl (.free rfl) rfl (q_move (v := .int .i64 (key_2)) rfl rfl) ?_
      refine ro_val (d := (some 27)) rfl (.free rfl) rfl (q_eql (a := x20) (b := key_2) rfl rfl rfl) ?_
      refine ro_val (d := (some 28)) rfl (.free rfl) rfl (q_move (v := .bool ((x20 == key_2))) rfl rfl) ?_
      refine ro_gval (g := (x20 == key_2)) (d := (some 29)) rfl (.yes 9 28 true (x20 == key_2) rfl rfl rfl rfl) rfl (fun hg => q_fieldAddr (a := a4) (off := 0) rfl Try.underlying27 rfl rfl ok25 (by decide) rfl) ?_
      obtain ⟨x21, hx21, h⟩ := h
      refine ro_gval (g := (x20 == key_2)) (d := (some 30)) rfl (.yes 9 28 true (x20 == key_2) rfl rfl rfl rfl) rfl (fun hg => q_load (T := tSlc) (u := x21) (a := (a4.add 0)) rfl ok25 (gvb_yes hg) (hx21 hg)) ?_
      refine ro_gval (g := (x20 == key_2)) (d := (some 31)) rfl (.yes 9 28 true (x20 == key_2) rfl rfl rfl rfl) rfl (fun hg => q_move (v := .int .i64 (i_12)) rfl rfl) ?_
      obtain ⟨a22, ha22, h⟩ := h
      refine ro_gval (g := (x20 == key_2)) (d := (some 32)) rfl (.yes 9 28 true (x20 == key_2) rfl rfl rfl rfl) rfl (fun hg => q_indexAddr (s := x21) (i := i_12) rfl Try.underlying25 ok76 (gvb_yes hg) (gvb_yes hg) (ha22 hg)) ?_
      refine ro_gval (g := (x20 == key_2)) (d := (some 33)) rfl (.yes 9 28 true (x20 == key_2) rfl rfl rfl rfl) rfl (fun hg => q_fieldAddr (a := a22) (off := 0) rfl Try.underlying76 rfl rfl ok2 (by decide) (gvb_yes hg)) ?_
      obtain ⟨x23, hx23, h⟩ := h
      refine ro_gval (g := (x20 == key_2)) (d := (some 34)) rfl (.yes 9 28 true (x20 == key_2) rfl rfl rfl rfl) rfl (fun hg => q_load (T := (tInt .i64)) (u := x23) (a := (a22.add 0)) rfl ok2 (gvb_yes hg) (hx23 hg)) ?_
      refine ro_gval (g := (x20 == key_2)) (d := (some 35)) rfl (.yes 9 28 true (x20 == key_2) rfl rfl rfl rfl) rfl (fun hg => q_move (v := .int .i64 (at_3)) rfl rfl) ?_
      refine ro_gval (g := (x20 == key_2)) (d := (some 36)) rfl (.yes 9 28 true (x20 == key_2) rfl rfl rfl rfl) rfl (fun hg => q_leq (a := x23) (b := at_3) rfl (gvb_yes hg) (gvb_yes hg)) ?_
      refine ro_val (d := (some 37)) rfl (.free rfl) rfl (q_pickGT (a := (x20 == key_2)) (b := (decide (x23 ≤ at_3))) rfl rfl rfl rfl) ?_
      refine ro_nil ?_
      refine wp_if (b := ((x20 == key_2) && (decide (x23 ≤ at_3)))) rfl h (fun hb32 h => ?_) (fun hb32 h => ?_)
      · obtain ⟨w24, hw24, h⟩ := dr_open h
        refine wp_drawn 16 mixed rfl (by kernel_rfl) (by intro c a d v w h; cases d <;> exact h) hw24 (fun hD => ?_)
        refine rd_pure (i := 0) (d := (some 38)) hD (by kernel_rfl) (by kernel_rfl) rfl (.free rfl) rfl (fun _ => q_fieldAddr (a := a4) (off := 0) rfl Try.underlying27 rfl rfl ok25 (by decide) rfl) ?_
        refine rd_pure (i := 2) (d := (some 40)) hD (by kernel_rfl) (by kernel_rfl) rfl (.free rfl) rfl (fun _ => q_move (v := .int .i64 (i_12)) rfl rfl) ?_
        refine rd_pure (i := 6) (d := (some 44)) hD (by kernel_rfl) (by kernel_rfl) rfl (.free rfl) rfl (fun _ => q_fieldAddr (a := a4) (off := 0) rfl Try.underlying27 rfl rfl ok25 (by decide) rfl) ?_
        refine rd_pure (i := 8) (d := (some 46)) hD (by kernel_rfl) (by kernel_rfl) rfl (.free rfl) rfl (fun _ => q_move (v := .int .i64 (i_12)) rfl rfl) ?_
        obtain ⟨x25, hx25, h⟩ := h
        refine rd_read (i := 1) (d := (some 39)) (fun W => (RdAt tSlc (a4.add 0) W) x25) hD (by kernel_rfl) (by kernel_rfl) rfl (.free rfl) rfl (fun W hr => q_load (T := tSlc) (u := x25) (a := (a4.add 0)) rfl ok25 rfl hr) hx25 ?_
        obtain ⟨a26, ha26, h⟩ := h
        refine rd_pure (i := 3) (d := (some 41)) hD (by kernel_rfl) (by kernel_rfl) rfl (.free rfl) rfl (fun _ => q_indexAddr (s := x25) (i := i_12) rfl Try.underlying25 ok76 rfl rfl ha26) ?_
        refine rd_pure (i := 4) (d := (some 42)) hD (by kernel_rfl) (by kernel_rfl) rfl (.free rfl) rfl (fun _ => q_fieldAddr (a := a26) (off := 0) rfl Try.underlying76 rfl rfl ok2 (by decide) rfl) ?_
        obtain ⟨x27, hx27, h⟩ := h
        refine rd_read (i := 5) (d := (some 43)) (fun W => (RdAt (tInt .i64) (a26.add 0) W) x27) hD (by kernel_rfl) (by kernel_rfl) rfl (.free rfl) rfl (fun W hr => q_load (T := (tInt .i64)) (u := x27) (a := (a26.add 0)) rfl ok2 rfl hr) hx27 ?_
        obtain ⟨x28, hx28, h⟩ := h
        refine rd_read (i := 7) (d := (some 45)) (fun W => (RdAt tSlc (a4.add 0) W) x28) hD (by kernel_rfl) (by kernel_rfl) rfl (.free rfl) rfl (fun W hr => q_load (T := tSlc) (u := x28) (a := (a4.add 0)) rfl ok25 rfl hr) hx28 ?_
        obtain ⟨a29, ha29, h⟩ := h
        refine rd_pure (i := 9) (d := (some 47)) hD (by kernel_rfl) (by kernel_rfl) rfl (.free rfl) rfl (fun _ => q_indexAddr (s := x28) (i := i_12) rfl Try.underlying25 ok76 rfl rfl ha29) ?_
        refine rd_pure (i := 10) (d := (some 48)) hD (by kernel_rfl) (by kernel_rfl) rfl (.free rfl) rfl (fun _ => q_fieldAddr (a := a29) (off := 1) rfl Try.underlying76 rfl rfl ok58 (by decide) rfl) ?_
        refine rd_pure (i := 11) (d := (some 49)) hD (by kernel_rfl) (by kernel_rfl) rfl (.free rfl) rfl (fun _ => q_fieldAddr (a := (a29.add 1)) (off := 1) rfl Try.underlying58 rfl rfl ok2 (by decide) rfl) ?_
        obtain ⟨x30, hx30, h⟩ := h
        refine rd_read (i := 12) (d := (some 50)) (fun W => (RdAt (tInt .i64) ((a29.add 1).add 1) W) x30) hD (by kernel_rfl) (by kernel_rfl) rfl (.free rfl) rfl (fun W hr => q_load (T := (tInt .i64)) (u := x30) (a := ((a29.add 1).add 1)) rfl ok2 rfl hr) hx30 ?_
        refine rd_pure (i := 13) (d := (some 51)) hD (by kernel_rfl) (by kernel_rfl) rfl (.free rfl) rfl (fun _ => q_build36_0_1 (v0 := x27) (v1 := x30) rfl rfl rfl) ?_
        refine rd_one (i := 14) (by kernel_rfl) ?_
        obtain ⟨w31, hw31, hrw31, h⟩ := st_open h
        refine po_skip (d := none) rfl (.free rfl) rfl (q_store (T := T35) (u := (⟨x27, x30⟩ : S35)) (a := a8) rfl ok36 rfl rfl hrw31 hw31) ⟨(hk_wait (by kernel_rfl) (hk_wait (by kernel_rfl) (hk_wait (by kernel_rfl) (hk_wait (by kernel_rfl) hk_nil)))), ?_⟩
        refine rd_pure (i := 15) (d := (some 9)) hD (by kernel_rfl) (by kernel_rfl) rfl (.free rfl) rfl (fun _ => q_assign (v := .bool (true)) rfl rfl) ?_
        refine rd_nil (by kernel_rfl) ?_
        exact ⟨(true), _, arr (upd_step (upd_step (upd_step (upd_step (upd_step (upd_step (upd_step rfl rfl) rfl) rfl) rfl) rfl) rfl) rfl), h⟩
      · refine wp_skip ?_
        exact ⟨(ok_11), _, arr (upd_step (upd_step (upd_step (upd_step (upd_step (upd_step (upd_step rfl rfl) rfl) rfl) rfl) rfl) rfl) rfl), h⟩
  · refine wp_exit ?_
    refine wp_seq ?_
    refine wp_text [0, 1, 2, 3] rfl ?_
    obtain ⟨x33, hx33, h⟩ := h
    refine ro_val (d := (some 52)) rfl (.free rfl) rfl (q_load (T := T35) (u := x33) (a := a8) rfl ok36 rfl hx33) ?_
    refine ro_val (d := (some 53)) rfl (.free rfl) rfl (q_move (v := .bool (ok_11)) rfl rfl) ?_
    obtain ⟨w34, hw34, hrw34, h⟩ := st_open h
    refine ro_skip (d := none) rfl (.free rfl) rfl (q_store (T := T35) (u := x33) (a := a6) rfl ok36 rfl rfl hrw34 hw34) ?_
    refine ro_val (d := (some 7)) rfl (.free rfl) rfl (q_assign (v := .bool (ok_11)) rfl rfl) ?_
    refine ro_nil ?_
    refine wp_ret ?_
    obtain ⟨x35, hx35, h⟩ := h
    exact ret_ok rfl (.cons (.cell (T := T35) (u := x35) (a := a6) ok36 rfl hx35) (.cons (.tmp (v := .bool (ok_11)) rfl) .nil)) ⟨(x35, ok_11), rfl, h⟩

-- (*moiety/store.Store).why
def F40_l1 (s_1 : (Option Addr)) (t_2 : Int) (l_3 : Slc) (m5 : Nat) (t_6 : Int) (w7 : World) (K8 : Int → World → Prop) (R : Int → World → Prop) : Prop :=
  if (decide (t_6 < (l_3.len : Int))) = true then (
    ex (IxA l_3 2 t_6) fun a9 =>
    ex (RdAt T57 a9 w7) fun x10 =>
    nw 58 T57 Z57 w7 fun a11 w12 =>
    st T57 a11 x10 w12 fun w13 =>
    ex (RdAt (tInt .i64) (a11.add 0) w13) fun x14 =>
    ex (MapGet T98 .i64 (some m5) x14 w13) fun m15 =>
    nw 98 T98 Z98 w13 fun a16 w17 =>
    st T98 a16 (((m15.getD Z98, m15.isSome)).1) w17 fun w18 =>
    ex (RdAt (tInt .i64) (a11.add 0) w18) fun x19 =>
    cl Try.prog 13 [.pointer (s_1), .int .i64 (x19)] (tTup2 T35 tBool) w18 fun r21 w20 =>
    nw 36 T35 Z35 w20 fun a22 w23 =>
    st T35 a22 r21.1 w23 fun w24 =>
    ex (RdAt (tInt .i64) (a11.add 0) w24) fun x25 =>
    cl Try.prog 44 [.int .i64 (x25)] tBool w24 fun r27 w26 =>
    if (!r27) = true then (
      R (123 : Int) w26
    ) else (
      if ((m15.getD Z98, m15.isSome)).2 = true then (
        R (124 : Int) w26
      ) else (
        ex (RdAt (tInt .i64) (a22.add 0) w26) fun x28 =>
        if (decide (x28 ≥ t_2)) = true then (
          R (121 : Int) w26
        ) else (
          ex (RdAt (tInt .i64) (a11.add 0) w26) fun x29 =>
          cl Try.prog 51 [.pointer (s_1), .int .i64 (x29)] tBool w26 fun r31 w30 =>
          if r31 = true then (
            R (125 : Int) w30
          ) else (
            ex (RdAt (tInt .i64) (a11.add 0) w30) fun x32 =>
            mput T98 .i64 (some m5) x32 (⟨⟩ : S98) w30 fun w33 =>
            K8 ((IntKind.i64.wrap (t_6 + (1 : Int)))) w33
          )
        )
      )
    )
  ) else (
    R (0 : Int) w7
  )
def F40 (s_1 : (Option Addr)) (t_2 : Int) (l_3 : Slc) (w : World) (R : Int → World → Prop) : Prop :=
  if (decide ((l_3.len : Int) > (100 : Int))) = true then (
    R (122 : Int) w
  ) else (
    nwMap w fun m5 w4 =>
    lp (fun (s : Int) w K => F40_l1 s_1 t_2 l_3 m5 s w K R) ((0 : Int)) w4
  )
theorem F40_ok {s_1 : (Option Addr)} {t_2 : Int} {l_3 : Slc} {w : World} {R : Int → World → Prop} (h : F40 s_1 t_2 l_3 w R) : cl Try.prog 40 [.pointer (s_1), .int .i64 (t_2), tSlc.enc (l_3)] (tInt .i64) w R := by
  unfold F40 at h
  refine calls_start 60 Try.func40 rfl rfl (Nat.le_of_ble_eq_true rfl) ?_
  refine wp_seq ?_
  refine wp_text [0] rfl ?_
  refine ro_val (d := (some 6)) rfl (.free rfl) rfl (q_assign (v := .int .i64 ((0 : Int))) rfl rfl) ?_
  refine ro_nil ?_
  refine wp_seq ?_
  refine wp_seq ?_
  refine wp_text [0, 1, 2] rfl ?_
  refine ro_val (d := (some 14)) rfl (.free rfl) rfl (q_move (v := tSlc.enc (l_3)) rfl rfl) ?_
  refine ro_val (d := (some 15)) rfl (.free rfl) rfl (q_len (s := l_3) rfl Try.underlying31 rfl) ?_
  refine ro_val (d := (some 16)) rfl (.free rfl) rfl (q_gtr (a := (l_3.len : Int)) (b := (100 : Int)) rfl rfl rfl) ?_
  refine ro_nil ?_
  refine wp_if (b := (decide ((l_3.len : Int) > (100 : Int)))) rfl h (fun hb39 h => ?_) (fun hb39 h => ?_)
  · refine wp_seq ?_
    refine wp_text [0] rfl ?_
    refine ro_val (d := (some 6)) rfl (.free rfl) rfl (q_assign (v := .int .i64 ((122 : Int))) rfl rfl) ?_
    refine ro_nil ?_
    refine wp_ret ?_
    exact ret_ok rfl (.cons (.tmp (v := .int .i64 ((122 : Int))) rfl) .nil) ⟨(122 : Int), rfl, h⟩
  · refine wp_skip ?_
    refine wp_seq ?_
    refine wp_text [0, 1] rfl ?_
    obtain ⟨m5, w4, hm5, hw4, h⟩ := nwMap_open h
    refine ro_val (d := (some 17)) rfl (.free rfl) rfl (q_makeMap rfl hm5 hw4) ?_
    refine ro_val (d := (some 7)) rfl (.free rfl) rfl (q_assign (v := .map ((some m5))) rfl rfl) ?_
    refine ro_nil ?_
    refine wp_seq ?_
    refine wp_seq ?_
    refine wp_text [0, 1, 2] rfl ?_
    refine ro_val (d := (some 18)) rfl (.free rfl) rfl (q_move (v := tSlc.enc (l_3)) rfl rfl) ?_
    refine ro_val (d := (some 19)) rfl (.free rfl) rfl (q_len (s := l_3) rfl Try.underlying31 rfl) ?_
    refine ro_val (d := (some 20)) rfl (.free rfl) rfl (q_move (v := .int .i64 ((0 : Int))) rfl rfl) ?_
    refine ro_nil ?_
    refine wp_block ?_
    refine loop_at (σ := Int) (fr := fun g (s : Int) => upd (upd (upd (upd (upd (upd (g) 0 (.pointer (s_1))) 1 (.int .i64 (t_2))) 7 (.map ((some m5)))) 18 (tSlc.enc (l_3))) 19 (.int .i64 ((l_3.len : Int)))) 20 (.int .i64 (s))) (s0 := ((0 : Int))) (upd_step (upd_step (upd_step (upd_step (upd_step (upd_step rfl rfl) rfl) rfl) rfl) rfl) rfl) h ?_
    rintro t_6 g w7 K8 h
    unfold F40_l1 at h
    refine wp_seq ?_
    refine wp_text [0] rfl ?_
    refine ro_val (d := (some 21)) rfl (.free rfl) rfl (q_lss (a := t_6) (b := (l_3.len : Int)) rfl rfl rfl) ?_
    refine ro_nil ?_
    refine wp_seq ?_
    refine wp_if (b := (decide (t_6 < (l_3.len : Int)))) rfl h (fun hb38 h => ?_) (fun hb38 h => ?_)
    · refine wp_skip ?_
      refine wp_seq ?_
      refine wp_block ?_
      refine wp_seq ?_
      refine wp_text [0, 1, 2, 3] rfl ?_
      obtain ⟨a9, ha9, h⟩ := h
      refine ro_val (d := (some 22)) rfl (.free rfl) rfl (q_indexAddr (s := l_3) (i := t_6) rfl Try.underlying31 ok58 rfl rfl ha9) ?_
      obtain ⟨x10, hx10, h⟩ := h
      refine ro_val (d := (some 23)) rfl (.free rfl) rfl (q_load (T := T57) (u := x10) (a := a9) rfl ok58 rfl hx10) ?_
      obtain ⟨a11, w12, ha11, hw12, h⟩ := nw_open h
      refine ro_val (d := (some 9)) rfl (.free rfl) rfl (q_alloc (u := Z57) rfl ok58 inf58 ha11 hw12) ?_
      obtain ⟨w13, hw13, hrw13, h⟩ := st_open h
      refine ro_skip (d := none) rfl (.free rfl) rfl (q_store (T := T57) (u := x10) (a := a11) rfl ok58 rfl rfl hrw13 hw13) ?_
      refine ro_nil ?_
      refine wp_seq ?_
      refine wp_text [0, 1, 2, 3, 4, 5, 6, 7, 8, 9] rfl ?_
      refine ro_val (d := (some 25)) rfl (.free rfl) rfl (q_move (v := .map ((some m5))) rfl rfl) ?_
      refine ro_val (d := (some 26)) rfl (.free rfl) rfl (q_fieldAddr (a := a11) (off := 0) rfl Try.underlying58 rfl rfl ok3 (by decide) rfl) ?_
      obtain ⟨x14, hx14, h⟩ := h
      refine ro_val (d := (some 27)) rfl (.free rfl) rfl (q_load (T := (tInt .i64)) (u := x14) (a := (a11.add 0)) rfl ok3 rfl hx14) ?_
      obtain ⟨m15, hm15, h⟩ := h
      refine ro_val (d := (some 28)) rfl (.free rfl) rfl (q_lookup2 (T := T98) (r := (some m5)) (key := x14) (u := m15) (z := Z98) rfl Try.underlying97 Try.underlying3 (inf98) rfl rfl hm15) ?_
      refine ro_val (d := (some 24)) rfl (.free rfl) rfl (q_move (v := (tTup2 T98 tBool).enc (((m15.getD Z98, m15.isSome)))) rfl rfl) ?_
      refine ro_val (d := (some 29)) rfl (.free rfl) rfl (q_extract (vs := #[T98.enc (((m15.getD Z98, m15.isSome)).1), .bool (((m15.getD Z98, m15.isSome)).2)]) (v := T98.enc (((m15.getD Z98, m15.isSome)).1)) rfl rfl rfl) ?_
      refine ro_val (d := (some 30)) rfl (.free rfl) rfl (q_extract (vs := #[T98.enc (((m15.getD Z98, m15.isSome)).1), .bool (((m15.getD Z98, m15.isSome)).2)]) (v := .bool (((m15.getD Z98, m15.isSome)).2)) rfl rfl rfl) ?_
      obtain ⟨a16, w17, ha16, hw17, h⟩ := nw_open h
      refine ro_val (d := (some 10)) rfl (.free rfl) rfl (q_alloc (u := Z98) rfl ok98 inf98 ha16 hw17) ?_
      obtain ⟨w18, hw18, hrw18, h⟩ := st_open h
      refine ro_skip (d := none) rfl (.free rfl) rfl (q_store (T := T98) (u := ((m15.getD Z98, m15.isSome)).1) (a := a16) rfl ok98 rfl rfl hrw18 hw18) ?_
      refine ro_val (d := (some 11)) rfl (.free rfl) rfl (q_assign (v := .bool (((m15.getD Z98, m15.isSome)).2)) rfl rfl) ?_
      refine ro_nil ?_
      refine wp_seq ?_
      refine wp_text [0, 1, 2, 3, 4, 5, 6, 7, 8, 9] rfl ?_
      refine ro_val (d := (some 32)) rfl (.free rfl) rfl (q_move (v := .pointer (s_1)) rfl rfl) ?_
      refine ro_val (d := (some 33)) rfl (.free rfl) rfl (q_fieldAddr (a := a11) (off := 0) rfl Try.underlying58 rfl rfl ok3 (by decide) rfl) ?_
      obtain ⟨x19, hx19, h⟩ := h
      refine ro_val (d := (some 34)) rfl (.free rfl) rfl (q_load (T := (tInt .i64)) (u := x19) (a := (a11.add 0)) rfl ok3 rfl hx19) ?_
      refine ro_wp rfl (.free rfl) (wp_cl (d := (some 35)) rfl (q_call (k := 13) (l := [.pointer (s_1), .int .i64 (x19)]) rfl ent13 rfl) h ?_)
      intro r21 w20 h
      refine ro_val (d := (some 31)) rfl (.free rfl) rfl (q_move (v := (tTup2 T35 tBool).enc (r21)) rfl rfl) ?_
      refine ro_val (d := (some 36)) rfl (.free rfl) rfl (q_extract (vs := #[T35.enc (r21.1), .bool (r21.2)]) (v := T35.enc (r21.1)) rfl rfl rfl) ?_
      refine ro_val (d := (some 37)) rfl (.free rfl) rfl (q_extract (vs := #[T35.enc (r21.1), .bool (r21.2)]) (v := .bool (r21.2)) rfl rfl rfl) ?_
      obtain ⟨a22, w23, ha22, hw23, h⟩ := nw_open h
      refine ro_val (d := (some 12)) rfl (.free rfl) rfl (q_alloc (u := Z35) rfl ok36 inf36 ha22 hw23) ?_
      obtain ⟨w24, hw24, hrw24, h⟩ := st_open h
      refine ro_skip (d := none) rfl (.free rfl) rfl (q_store (T := T35) (u := r21.1) (a := a22) rfl ok36 rfl rfl hrw24 hw24) ?_
      refine ro_val (d := (some 13)) rfl (.free rfl) rfl (q_assign (v := .bool (r21.2)) rfl rfl) ?_
      refine ro_nil ?_
      refine wp_seq ?_
      refine wp_block ?_
      refine wp_seq ?_
      refine wp_text [0, 1, 2, 3, 4] rfl ?_
      refine ro_val (d := (some 39)) rfl (.free rfl) rfl (q_fieldAddr (a := a11) (off := 0) rfl Try.underlying58 rfl rfl ok3 (by decide) rfl) ?_
      obtain ⟨x25, hx25, h⟩ := h
      refine ro_val (d := (some 40)) rfl (.free rfl) rfl (q_load (T := (tInt .i64)) (u := x25) (a := (a11.add 0)) rfl ok3 rfl hx25) ?_
      refine ro_wp rfl (.free rfl) (wp_cl (d := (some 41)) rfl (q_call (k := 44) (l := [.int .i64 (x25)]) rfl ent44 rfl) h ?_)
      intro r27 w26 h
      refine ro_val (d := (some 42)) rfl (.free rfl) rfl (q_not (b := r27) rfl rfl) ?_
      refine ro_val (d := (some 38)) rfl (.free rfl) rfl (q_assign (v := .bool ((!r27))) rfl rfl) ?_
      refine ro_nil ?_
      refine wp_if (b := (!r27)) rfl h (fun hb37 h => ?_) (fun hb37 h => ?_)
      · refine wp_seq ?_
        refine wp_text [0] rfl ?_
        refine ro_val (d := (some 6)) rfl (.free rfl) rfl (q_assign (v := .int .i64 ((123 : Int))) rfl rfl) ?_
        refine ro_nil ?_
        refine wp_ret ?_
        exact ret_ok rfl (.cons (.tmp (v := .int .i64 ((123 : Int))) rfl) .nil) ⟨(123 : Int), rfl, h⟩
      · refine wp_seq ?_
        refine wp_text [0, 1] rfl ?_
        refine ro_val (d := (some 44)) rfl (.free rfl) rfl (q_move (v := .bool (((m15.getD Z98, m15.isSome)).2)) rfl rfl) ?_
        refine ro_val (d := (some 43)) rfl (.free rfl) rfl (q_assign (v := .bool (((m15.getD Z98, m15.isSome)).2)) rfl rfl) ?_
        refine ro_nil ?_
        refine wp_if (b := ((m15.getD Z98, m15.isSome)).2) rfl h (fun hb36 h => ?_) (fun hb36 h => ?_)
        · refine wp_seq ?_
          refine wp_text [0] rfl ?_
          refine ro_val (d := (some 6)) rfl (.free rfl) rfl (q_assign (v := .int .i64 ((124 : Int))) rfl rfl) ?_
          refine ro_nil ?_
          refine wp_ret ?_
          exact ret_ok rfl (.cons (.tmp (v := .int .i64 ((124 : Int))) rfl) .nil) ⟨(124 : Int), rfl, h⟩
        · refine wp_seq ?_
          refine wp_text [0, 1, 2, 3, 4] rfl ?_
          refine ro_val (d := (some 46)) rfl (.free rfl) rfl (q_fieldAddr (a := a22) (off := 0) rfl Try.underlying36 rfl rfl ok2 (by decide) rfl) ?_
          obtain ⟨x28, hx28, h⟩ := h
          refine ro_val (d := (some 47)) rfl (.free rfl) rfl (q_load (T := (tInt .i64)) (u := x28) (a := (a22.add 0)) rfl ok2 rfl hx28) ?_
          refine ro_val (d := (some 48)) rfl (.free rfl) rfl (q_move (v := .int .i64 (t_2)) rfl rfl) ?_
          refine ro_val (d := (some 49)) rfl (.free rfl) rfl (q_geq (a := x28) (b := t_2) rfl rfl rfl) ?_
          refine ro_val (d := (some 45)) rfl (.free rfl) rfl (q_assign (v := .bool ((decide (x28 ≥ t_2)))) rfl rfl) ?_
          refine ro_nil ?_
          refine wp_if (b := (decide (x28 ≥ t_2))) rfl h (fun hb35 h => ?_) (fun hb35 h => ?_)
          · refine wp_seq ?_
            refine wp_text [0] rfl ?_
            refine ro_val (d := (some 6)) rfl (.free rfl) rfl (q_assign (v := .int .i64 ((121 : Int))) rfl rfl) ?_
            refine ro_nil ?_
            refine wp_ret ?_
            exact ret_ok rfl (.cons (.tmp (v := .int .i64 ((121 : Int))) rfl) .nil) ⟨(121 : Int), rfl, h⟩
          · refine wp_seq ?_
            refine wp_text [0, 1, 2, 3, 4] rfl ?_
            refine ro_val (d := (some 51)) rfl (.free rfl) rfl (q_move (v := .pointer (s_1)) rfl rfl) ?_
            refine ro_val (d := (some 52)) rfl (.free rfl) rfl (q_fieldAddr (a := a11) (off := 0) rfl Try.underlying58 rfl rfl ok3 (by decide) rfl) ?_
            obtain ⟨x29, hx29, h⟩ := h
            refine ro_val (d := (some 53)) rfl (.free rfl) rfl (q_load (T := (tInt .i64)) (u := x29) (a := (a11.add 0)) rfl ok3 rfl hx29) ?_
            refine ro_wp rfl (.free rfl) (wp_cl (d := (some 54)) rfl (q_call (k := 51) (l := [.pointer (s_1), .int .i64 (x29)]) rfl ent51 rfl) h ?_)
            intro r31 w30 h
            refine ro_val (d := (some 50)) rfl (.free rfl) rfl (q_assign (v := .bool (r31)) rfl rfl) ?_
            refine ro_nil ?_
            refine wp_if (b := r31) rfl h (fun hb34 h => ?_) (fun hb34 h => ?_)
            · refine wp_seq ?_
              refine wp_text [0] rfl ?_
              refine ro_val (d := (some 6)) rfl (.free rfl) rfl (q_assign (v := .int .i64 ((125 : Int))) rfl rfl) ?_
              refine ro_nil ?_
              refine wp_ret ?_
              exact ret_ok rfl (.cons (.tmp (v := .int .i64 ((125 : Int))) rfl) .nil) ⟨(125 : Int), rfl, h⟩
            · refine wp_skip ?_
              refine wp_text [0, 1, 2, 3, 4] rfl ?_
              refine ro_val (d := (some 55)) rfl (.free rfl) rfl (q_move (v := .map ((some m5))) rfl rfl) ?_
              refine ro_val (d := (some 56)) rfl (.free rfl) rfl (q_fieldAddr (a := a11) (off := 0) rfl Try.underlying58 rfl rfl ok3 (by decide) rfl) ?_
              obtain ⟨x32, hx32, h⟩ := h
              refine ro_val (d := (some 57)) rfl (.free rfl) rfl (q_load (T := (tInt .i64)) (u := x32) (a := (a11.add 0)) rfl ok3 rfl hx32) ?_
              refine ro_val (d := (some 58)) rfl (.free rfl) rfl (q_build98_  rfl ) ?_
              refine ro_wp rfl (.free rfl) (wp_mput (T := T98) (r := (some m5)) (key := x32) (v := (⟨⟩ : S98)) (d := none) rfl (.inl rfl) Try.underlying97 Try.underlying3 rfl rfl rfl h ?_)
              intro w33 h
              refine ro_nil ?_
              refine wp_text [0, 1] rfl ?_
              refine ro_val (d := (some 59)) rfl (.free rfl) rfl (q_add (a := t_6) (b := (1 : Int)) rfl rfl rfl) ?_
              refine ro_val (d := (some 20)) rfl (.free rfl) rfl (q_move (v := .int .i64 ((IntKind.i64.wrap (t_6 + (1 : Int))))) rfl rfl) ?_
              refine ro_nil ?_
              exact ⟨((IntKind.i64.wrap (t_6 + (1 : Int)))), _, arr (upd_step (upd_step (upd_step (upd_step (upd_step (upd_step rfl rfl) rfl) rfl) rfl) rfl) rfl), h⟩
    · refine wp_exit ?_
      refine wp_seq ?_
      refine wp_text [0] rfl ?_
      refine ro_val (d := (some 6)) rfl (.free rfl) rfl (q_assign (v := .int .i64 ((0 : Int))) rfl rfl) ?_
      refine ro_nil ?_
      refine wp_ret ?_
      exact ret_ok rfl (.cons (.tmp (v := .int .i64 ((0 : Int))) rfl) .nil) ⟨(0 : Int), rfl, h⟩

-- moiety/chain.New
def F41 (w : World) (R : (Option Addr) → World → Prop) : Prop :=
  nw 94 T93 (⟨(⟨none, 0, 0⟩ : Slc), (0 : Int)⟩ : S93) w fun a1 w2 =>
  R (some a1) w2
theorem F41_ok {w : World} {R : (Option Addr) → World → Prop} (h : F41 w R) : cl Try.prog 41 [] tPtr w R := by
  unfold F41 at h
  refine calls_start 3 Try.func41 rfl rfl (Nat.le_of_ble_eq_true rfl) ?_
  refine wp_seq ?_
  refine wp_text [0] rfl ?_
  refine ro_val (d := (some 0)) rfl (.free rfl) rfl (q_assign (v := .pointer ((none : Option Addr))) rfl rfl) ?_
  refine ro_nil ?_
  refine wp_seq ?_
  refine wp_text [0, 1, 2] rfl ?_
  refine ro_val (d := (some 1)) rfl (.free rfl) rfl (q_build94_  rfl ) ?_
  obtain ⟨a1, w2, ha1, hw2, h⟩ := nw_open h
  refine ro_val (d := (some 2)) rfl (.free rfl) rfl (q_box (u := (⟨(⟨none, 0, 0⟩ : Slc), (0 : Int)⟩ : S93)) rfl ok94 rfl ha1 hw2) ?_
  refine ro_val (d := (some 0)) rfl (.free rfl) rfl (q_assign (v := .pointer (some a1)) rfl rfl) ?_
  refine ro_nil ?_
  refine wp_ret ?_
  exact ret_ok rfl (.cons (.tmp (v := .pointer ((some a1))) rfl) .nil) ⟨(some a1), rfl, h⟩

end Go.Proofs.Ytdgdkbfigndndaa.Cf
