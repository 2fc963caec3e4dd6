/- Characteristic formulae of Go functions, and that they are. Printed by gen.py (own tool). -/
import Derived.Test.YtdgdkbfigndndaaTy
namespace Go.Proofs.Ytdgdkbfigndndaa.Cf
open Go
set_option maxRecDepth 100000
set_option maxHeartbeats 1000000
set_option linter.unusedVariables false
set_option linter.unusedSimpArgs false

-- moiety/moietyref12.Prune
def F29_j3 (i_18 : Int) (rows_22 : Slc) (w23 : World) (K20 : Slc × Int → World → Prop) (R : (S26 × Int) → World → Prop) : Prop :=
  K20 (rows_22, (IntKind.i64.wrap (i_18 + (1 : Int)))) w23
def F29_l4 (a3 : Addr) (rows_17 : Slc) (i_18 : Int) (gone_24 : Bool) (k_25 : Int) (w26 : World) (K20 : Slc × Int → World → Prop) (K27 : Bool × Int → World → Prop) (R : (S26 × Int) → World → Prop) : Prop :=
  ex (RdAt tSlc (a3.add 0) w26) fun x28 =>
  if (decide (k_25 < (x28.len : Int))) = true then (
    dr w26 fun w29 =>
    ex (fun x => (!gone_24) = true → (RdAt tSlc (a3.add 0) w29) x) fun x30 =>
    ex (fun x => (!gone_24) = true → (IxA x30 3 k_25) x) fun a31 =>
    ex (fun x => (!gone_24) = true → (RdAt (tInt .i64) ((a31.add 1).add 0) w29) x) fun x32 =>
    ex (fun x => (!gone_24) = true → (RdAt tSlc (a3.add 0) w29) x) fun x33 =>
    ex (fun x => (!gone_24) = true → (IxA x33 3 i_18) x) fun a34 =>
    ex (fun x => (!gone_24) = true → (RdAt (tInt .i64) ((a34.add 1).add 0) w29) x) fun x35 =>
    ex (fun x => ((!gone_24) && (x32 == x35)) = true → (RdAt tSlc (a3.add 0) w29) x) fun x36 =>
    ex (fun x => ((!gone_24) && (x32 == x35)) = true → (IxA x36 3 k_25) x) fun a37 =>
    ex (fun x => ((!gone_24) && (x32 == x35)) = true → (RdAt (tInt .i64) (a37.add 0) w29) x) fun x38 =>
    ex (fun x => ((!gone_24) && (x32 == x35)) = true → (RdAt (tInt .i64) (a3.add 2) w29) x) fun x39 =>
    K27 ((gone_24 || ((x32 == x35) && (decide (x38 ≤ x39)))), (IntKind.i64.wrap (k_25 + (1 : Int)))) w29
  ) else (
    if (!gone_24) = true then (
      ex (RdAt tSlc (a3.add 0) w26) fun x40 =>
      ex (IxA x40 3 i_18) fun a41 =>
      ex (RdAt T75 a41 w26) fun x42 =>
      apl 76 T75 3 24 rows_17 [x42] w26 fun r46 w45 =>
      F29_j3 i_18 r46 w45 K20 R
    ) else (
      F29_j3 i_18 rows_17 w26 K20 R
    )
  )
def F29_l2 (a3 : Addr) (a5 : Addr) (rows_17 : Slc) (i_18 : Int) (w19 : World) (K20 : Slc × Int → World → Prop) (R : (S26 × Int) → World → Prop) : Prop :=
  ex (RdAt tSlc (a3.add 0) w19) fun x21 =>
  if (decide (i_18 < (x21.len : Int))) = true then (
    lp (fun (s : Bool × Int) w K => F29_l4 a3 rows_17 i_18 s.1 s.2 w K20 K R) (false, (IntKind.i64.wrap (i_18 + (1 : Int)))) w19
  ) else (
    st tSlc (a3.add 0) rows_17 w19 fun w49 =>
    ex (RdAt T26 a3 w49) fun x50 =>
    st T26 a5 x50 w49 fun w51 =>
    ex (RdAt T26 a5 w51) fun x52 =>
    R (x52, (0 : Int)) w51
  )
def F29_j1 (a3 : Addr) (a5 : Addr) (w14 : World) (R : (S26 × Int) → World → Prop) : Prop :=
  nwS 76 T75 ([] : List S75) w14 fun a15 w16 =>
  lp (fun (s : Slc × Int) w K => F29_l2 a3 a5 s.1 s.2 w K R) ((⟨some a15, 0, 0⟩ : Slc), (0 : Int)) w16
def F29 (s_1 : S26) (mark_2 : Int) (w : World) (R : (S26 × Int) → World → Prop) : Prop :=
  nw 27 T26 s_1 w fun a3 w4 =>
  nw 27 T26 Z26 w4 fun a5 w6 =>
  if ((decide (mark_2 < (0 : Int))) || (decide (mark_2 > (1125899906842624 : Int)))) = true then (
    ex (RdAt T26 a3 w6) fun x7 =>
    st T26 a5 x7 w6 fun w8 =>
    ex (RdAt T26 a5 w8) fun x9 =>
    R (x9, (120 : Int)) w8
  ) else (
    ex (RdAt (tInt .i64) (a3.add 1) w6) fun x10 =>
    if (decide (mark_2 > x10)) = true then (
      ex (RdAt T26 a3 w6) fun x11 =>
      st T26 a5 x11 w6 fun w12 =>
      ex (RdAt T26 a5 w12) fun x13 =>
      R (x13, (128 : Int)) w12
    ) else (
      ex (RdAt (tInt .i64) (a3.add 2) w6) fun x54 =>
      if (decide (mark_2 > x54)) = true then (
        st (tInt .i64) (a3.add 2) mark_2 w6 fun w55 =>
        F29_j1 a3 a5 w55 R
      ) else (
        F29_j1 a3 a5 w6 R
      )
    )
  )
theorem F29_ok {s_1 : S26} {mark_2 : Int} {w : World} {R : (S26 × Int) → World → Prop} (h : F29 s_1 mark_2 w R) : cl Try.prog 29 [T26.enc (s_1), .int .i64 (mark_2)] (tTup2 T26 (tInt .i64)) w R := by
  unfold F29 at h
  refine calls_start 87 Try.func29 rfl rfl (Nat.le_of_ble_eq_true rfl) ?_
  refine wp_seq ?_
  refine wp_text [0, 1, 2] rfl ?_
  obtain ⟨a3, w4, ha3, hw4, h⟩ := nw_open h
  refine ro_val (d := (some 2)) rfl (.free rfl) rfl (q_box (u := s_1) rfl ok27 rfl ha3 hw4) ?_
  obtain ⟨a5, w6, ha5, hw6, h⟩ := nw_open h
  refine ro_val (d := (some 4)) rfl (.free rfl) rfl (q_alloc (u := Z26) rfl ok27 inf27 ha5 hw6) ?_
  refine ro_val (d := (some 5)) rfl (.free rfl) rfl (q_assign (v := .int .i64 ((0 : Int))) rfl rfl) ?_
  refine ro_nil ?_
  refine wp_seq ?_
  refine wp_seq ?_
  refine wp_text [0, 1, 2, 3, 4, 5] rfl ?_
  refine ro_val (d := (some 10)) rfl (.free rfl) rfl (q_move (v := .int .i64 (mark_2)) rfl rfl) ?_
  refine ro_val (d := (some 11)) rfl (.free rfl) rfl (q_lss (a := mark_2) (b := (0 : Int)) rfl rfl rfl) ?_
  refine ro_val (d := (some 12)) rfl (.free rfl) rfl (q_move (v := .bool ((decide (mark_2 < (0 : Int))))) rfl rfl) ?_
  refine ro_gval (g := (!(decide (mark_2 < (0 : Int))))) (d := (some 13)) rfl (.no 2 12 true (decide (mark_2 < (0 : Int))) rfl rfl rfl rfl) rfl (fun hg => q_move (v := .int .i64 (mark_2)) rfl rfl) ?_
  refine ro_gval (g := (!(decide (mark_2 < (0 : Int))))) (d := (some 14)) rfl (.no 2 12 true (decide (mark_2 < (0 : Int))) rfl rfl rfl rfl) rfl (fun hg => q_gtr (a := mark_2) (b := (1125899906842624 : Int)) rfl (gvb_yes hg) rfl) ?_
  refine ro_val (d := (some 15)) rfl (.free rfl) rfl (q_pickGF (a := (decide (mark_2 < (0 : Int)))) (c := (decide (mark_2 > (1125899906842624 : Int)))) rfl rfl rfl rfl) ?_
  refine ro_nil ?_
  refine wp_if (b := ((decide (mark_2 < (0 : Int))) || (decide (mark_2 > (1125899906842624 : Int))))) rfl h (fun hb58 h => ?_) (fun hb58 h => ?_)
  · refine wp_seq ?_
    refine wp_text [0, 1, 2] rfl ?_
    obtain ⟨x7, hx7, h⟩ := h
    refine ro_val (d := (some 16)) rfl (.free rfl) rfl (q_load (T := T26) (u := x7) (a := a3) rfl ok27 rfl hx7) ?_
    obtain ⟨w8, hw8, hrw8, h⟩ := st_open h
    refine ro_skip (d := none) rfl (.free rfl) rfl (q_store (T := T26) (u := x7) (a := a5) rfl ok27 rfl rfl hrw8 hw8) ?_
    refine ro_val (d := (some 5)) rfl (.free rfl) rfl (q_assign (v := .int .i64 ((120 : Int))) rfl rfl) ?_
    refine ro_nil ?_
    refine wp_ret ?_
    obtain ⟨x9, hx9, h⟩ := h
    exact ret_ok rfl (.cons (.cell (T := T26) (u := x9) (a := a5) ok27 rfl hx9) (.cons (.tmp (v := .int .i64 ((120 : Int))) rfl) .nil)) ⟨(x9, (120 : Int)), rfl, h⟩
  · refine wp_skip ?_
    refine wp_seq ?_
    refine wp_seq ?_
    refine wp_text [0, 1, 2, 3] rfl ?_
    refine ro_val (d := (some 17)) rfl (.free rfl) rfl (q_move (v := .int .i64 (mark_2)) rfl rfl) ?_
    refine ro_val (d := (some 18)) rfl (.free rfl) rfl (q_fieldAddr (a := a3) (off := 1) rfl Try.underlying27 rfl rfl ok2 (by decide) rfl) ?_
    obtain ⟨x10, hx10, h⟩ := h
    refine ro_val (d := (some 19)) rfl (.free rfl) rfl (q_load (T := (tInt .i64)) (u := x10) (a := (a3.add 1)) rfl ok2 rfl hx10) ?_
    refine ro_val (d := (some 20)) rfl (.free rfl) rfl (q_gtr (a := mark_2) (b := x10) rfl rfl rfl) ?_
    refine ro_nil ?_
    refine wp_if (b := (decide (mark_2 > x10))) rfl h (fun hb57 h => ?_) (fun hb57 h => ?_)
    · refine wp_seq ?_
      refine wp_text [0, 1, 2] rfl ?_
      obtain ⟨x11, hx11, h⟩ := h
      refine ro_val (d := (some 21)) rfl (.free rfl) rfl (q_load (T := T26) (u := x11) (a := a3) rfl ok27 rfl hx11) ?_
      obtain ⟨w12, hw12, hrw12, h⟩ := st_open h
      refine ro_skip (d := none) rfl (.free rfl) rfl (q_store (T := T26) (u := x11) (a := a5) rfl ok27 rfl rfl hrw12 hw12) ?_
      refine ro_val (d := (some 5)) rfl (.free rfl) rfl (q_assign (v := .int .i64 ((128 : Int))) rfl rfl) ?_
      refine ro_nil ?_
      refine wp_ret ?_
      obtain ⟨x13, hx13, h⟩ := h
      exact ret_ok rfl (.cons (.cell (T := T26) (u := x13) (a := a5) ok27 rfl hx13) (.cons (.tmp (v := .int .i64 ((128 : Int))) rfl) .nil)) ⟨(x13, (128 : Int)), rfl, h⟩
    · refine wp_skip ?_
      refine seq_join (σ := Unit) (J := fun (s : Unit) w => F29_j1 a3 a5 w R) (fr := fun g (s : Unit) => upd (upd (g) 2 (.pointer (some a3))) 4 (.pointer (some a5))) ?_ ?_
      · rintro ⟨⟩ g w14 h
        unfold F29_j1 at h
        refine wp_seq ?_
        refine wp_text [0, 1] rfl ?_
        obtain ⟨a15, w16, ha15, hw16, h⟩ := nwS_open h
        refine ro_val (d := (some 28)) rfl (.free rfl) rfl (q_row0 (T := T75) rfl Try.underlying25 ok76 inf76 ha15 hw16) ?_
        refine ro_val (d := (some 6)) rfl (.free rfl) rfl (q_assign (v := tSlc.enc ((⟨some a15, 0, 0⟩ : Slc))) rfl rfl) ?_
        refine ro_nil ?_
        refine wp_seq ?_
        refine wp_seq ?_
        refine wp_text [0] rfl ?_
        refine ro_val (d := (some 7)) rfl (.free rfl) rfl (q_assign (v := .int .i64 ((0 : Int))) rfl rfl) ?_
        refine ro_nil ?_
        refine wp_block ?_
        refine loop_at (σ := Slc × Int) (fr := fun g (s : Slc × Int) => upd (upd (upd (upd (g) 2 (.pointer (some a3))) 4 (.pointer (some a5))) 6 (tSlc.enc (s.1))) 7 (.int .i64 (s.2))) (s0 := ((⟨some a15, 0, 0⟩ : Slc), (0 : Int))) (upd_step (upd_step (upd_step (upd_step rfl rfl) rfl) rfl) rfl) h ?_
        rintro ⟨rows_17, i_18⟩ g w19 K20 h
        unfold F29_l2 at h
        refine wp_seq ?_
        refine wp_seq ?_
        refine wp_text [0, 1, 2, 3, 4] rfl ?_
        refine ro_val (d := (some 29)) rfl (.free rfl) rfl (q_move (v := .int .i64 (i_18)) rfl rfl) ?_
        refine ro_val (d := (some 30)) rfl (.free rfl) rfl (q_fieldAddr (a := a3) (off := 0) rfl Try.underlying27 rfl rfl ok25 (by decide) rfl) ?_
        obtain ⟨x21, hx21, h⟩ := h
        refine ro_val (d := (some 31)) rfl (.free rfl) rfl (q_load (T := tSlc) (u := x21) (a := (a3.add 0)) rfl ok25 rfl hx21) ?_
        refine ro_val (d := (some 32)) rfl (.free rfl) rfl (q_len (s := x21) rfl Try.underlying25 rfl) ?_
        refine ro_val (d := (some 33)) rfl (.free rfl) rfl (q_lss (a := i_18) (b := (x21.len : Int)) rfl rfl rfl) ?_
        refine ro_nil ?_
        refine wp_if (b := (decide (i_18 < (x21.len : Int)))) rfl h (fun hb53 h => ?_) (fun hb53 h => ?_)
        · refine wp_skip ?_
          refine seq_join (σ := Slc) (J := fun (s : Slc) w => F29_j3 i_18 s w K20 R) (fr := fun g (s : Slc) => upd (upd (upd (upd (g) 2 (.pointer (some a3))) 4 (.pointer (some a5))) 7 (.int .i64 (i_18))) 6 (tSlc.enc (s))) ?_ ?_
          · rintro rows_22 g w23 h
            unfold F29_j3 at h
            refine wp_text [0, 1, 2] rfl ?_
            refine ro_val (d := (some 34)) rfl (.free rfl) rfl (q_move (v := .int .i64 (i_18)) rfl rfl) ?_
            refine ro_val (d := (some 35)) rfl (.free rfl) rfl (q_add (a := i_18) (b := (1 : Int)) rfl rfl rfl) ?_
            refine ro_val (d := (some 7)) rfl (.free rfl) rfl (q_assign (v := .int .i64 ((IntKind.i64.wrap (i_18 + (1 : Int))))) rfl rfl) ?_
            refine ro_nil ?_
            exact ⟨(rows_22, (IntKind.i64.wrap (i_18 + (1 : Int)))), _, arr (upd_step (upd_step (upd_step (upd_step rfl rfl) rfl) rfl) rfl), h⟩
          · refine wp_block ?_
            refine wp_seq ?_
            refine wp_text [0] rfl ?_
            refine ro_val (d := (some 8)) rfl (.free rfl) rfl (q_assign (v := .bool (false)) rfl rfl) ?_
            refine ro_nil ?_
            refine wp_seq ?_
            refine wp_seq ?_
            refine wp_text [0, 1, 2] rfl ?_
            refine ro_val (d := (some 36)) rfl (.free rfl) rfl (q_move (v := .int .i64 (i_18)) rfl rfl) ?_
            refine ro_val (d := (some 37)) rfl (.free rfl) rfl (q_add (a := i_18) (b := (1 : Int)) rfl rfl rfl) ?_
            refine ro_val (d := (some 9)) rfl (.free rfl) rfl (q_assign (v := .int .i64 ((IntKind.i64.wrap (i_18 + (1 : Int))))) rfl rfl) ?_
            refine ro_nil ?_
            refine wp_block ?_
            refine loop_at (σ := Bool × Int) (fr := fun g (s : Bool × Int) => upd (upd (upd (upd (upd (upd (g) 2 (.pointer (some a3))) 4 (.pointer (some a5))) 6 (tSlc.enc (rows_17))) 7 (.int .i64 (i_18))) 8 (.bool (s.1))) 9 (.int .i64 (s.2))) (s0 := (false, (IntKind.i64.wrap (i_18 + (1 : Int))))) (upd_step (upd_step (upd_step (upd_step (upd_step (upd_step rfl rfl) rfl) rfl) rfl) rfl) rfl) h ?_
            rintro ⟨gone_24, k_25⟩ g w26 K27 h
            unfold F29_l4 at h
            refine wp_seq ?_
            refine wp_seq ?_
            refine wp_text [0, 1, 2, 3, 4] rfl ?_
            refine ro_val (d := (some 38)) rfl (.free rfl) rfl (q_move (v := .int .i64 (k_25)) rfl rfl) ?_
            refine ro_val (d := (some 39)) rfl (.free rfl) rfl (q_fieldAddr (a := a3) (off := 0) rfl Try.underlying27 rfl rfl ok25 (by decide) rfl) ?_
            obtain ⟨x28, hx28, h⟩ := h
            refine ro_val (d := (some 40)) rfl (.free rfl) rfl (q_load (T := tSlc) (u := x28) (a := (a3.add 0)) rfl ok25 rfl hx28) ?_
            refine ro_val (d := (some 41)) rfl (.free rfl) rfl (q_len (s := x28) rfl Try.underlying25 rfl) ?_
            refine ro_val (d := (some 42)) rfl (.free rfl) rfl (q_lss (a := k_25) (b := (x28.len : Int)) rfl rfl rfl) ?_
            refine ro_nil ?_
            refine wp_if (b := (decide (k_25 < (x28.len : Int)))) rfl h (fun hb48 h => ?_) (fun hb48 h => ?_)
            · refine wp_skip ?_
              refine wp_seq ?_
              refine wp_block ?_
              obtain ⟨w29, hw29, h⟩ := dr_open h
              refine wp_drawn 30 mixed rfl (by kernel_rfl) (by intro c a d v w h; cases d <;> exact h) hw29 (fun hD => ?_)
              refine rd_pure (i := 0) (d := (some 45)) hD (by kernel_rfl) (by kernel_rfl) rfl (.free rfl) rfl (fun _ => q_move (v := .bool (gone_24)) rfl rfl) ?_
              refine rd_pure (i := 1) (d := (some 46)) hD (by kernel_rfl) (by kernel_rfl) rfl (.free rfl) rfl (fun _ => q_move (v := .bool (gone_24)) rfl rfl) ?_
              refine rd_gpure (i := 2) (g := (!gone_24)) (d := (some 47)) hD (by kernel_rfl) (by kernel_rfl) rfl (.no 1 46 true gone_24 rfl rfl rfl rfl) rfl (fun hg _ => q_fieldAddr (a := a3) (off := 0) rfl Try.underlying27 rfl rfl ok25 (by decide) rfl) ?_
              refine rd_gpure (i := 4) (g := (!gone_24)) (d := (some 49)) hD (by kernel_rfl) (by kernel_rfl) rfl (.no 1 46 true gone_24 rfl rfl rfl rfl) rfl (fun hg _ => q_move (v := .int .i64 (k_25)) rfl rfl) ?_
              refine rd_gpure (i := 9) (g := (!gone_24)) (d := (some 54)) hD (by kernel_rfl) (by kernel_rfl) rfl (.no 1 46 true gone_24 rfl rfl rfl rfl) rfl (fun hg _ => q_fieldAddr (a := a3) (off := 0) rfl Try.underlying27 rfl rfl ok25 (by decide) rfl) ?_
              refine rd_gpure (i := 11) (g := (!gone_24)) (d := (some 56)) hD (by kernel_rfl) (by kernel_rfl) rfl (.no 1 46 true gone_24 rfl rfl rfl rfl) rfl (fun hg _ => q_move (v := .int .i64 (i_18)) rfl rfl) ?_
              obtain ⟨x30, hx30, h⟩ := h
              refine rd_gread (i := 3) (g := (!gone_24)) (d := (some 48)) (fun W => (RdAt tSlc (a3.add 0) W) x30) hD (by kernel_rfl) (by kernel_rfl) rfl (.no 1 46 true gone_24 rfl rfl rfl rfl) rfl (fun hg W hr => q_load (T := tSlc) (u := x30) (a := (a3.add 0)) rfl ok25 (gvb_yes hg) hr) hx30 ?_
              obtain ⟨a31, ha31, h⟩ := h
              refine rd_gpure (i := 5) (g := (!gone_24)) (d := (some 50)) hD (by kernel_rfl) (by kernel_rfl) rfl (.no 1 46 true gone_24 rfl rfl rfl rfl) rfl (fun hg _ => q_indexAddr (s := x30) (i := k_25) rfl Try.underlying25 ok76 (gvb_yes hg) (gvb_yes hg) (ha31 hg)) ?_
              refine rd_gpure (i := 6) (g := (!gone_24)) (d := (some 51)) hD (by kernel_rfl) (by kernel_rfl) rfl (.no 1 46 true gone_24 rfl rfl rfl rfl) rfl (fun hg _ => q_fieldAddr (a := a31) (off := 1) rfl Try.underlying76 rfl rfl ok58 (by decide) (gvb_yes hg)) ?_
              refine rd_gpure (i := 7) (g := (!gone_24)) (d := (some 52)) hD (by kernel_rfl) (by kernel_rfl) rfl (.no 1 46 true gone_24 rfl rfl rfl rfl) rfl (fun hg _ => q_fieldAddr (a := (a31.add 1)) (off := 0) rfl Try.underlying58 rfl rfl ok3 (by decide) (gvb_yes hg)) ?_
              obtain ⟨x32, hx32, h⟩ := h
              refine rd_gread (i := 8) (g := (!gone_24)) (d := (some 53)) (fun W => (RdAt (tInt .i64) ((a31.add 1).add 0) W) x32) hD (by kernel_rfl) (by kernel_rfl) rfl (.no 1 46 true gone_24 rfl rfl rfl rfl) rfl (fun hg W hr => q_load (T := (tInt .i64)) (u := x32) (a := ((a31.add 1).add 0)) rfl ok3 (gvb_yes hg) hr) hx32 ?_
              obtain ⟨x33, hx33, h⟩ := h
              refine rd_gread (i := 10) (g := (!gone_24)) (d := (some 55)) (fun W => (RdAt tSlc (a3.add 0) W) x33) hD (by kernel_rfl) (by kernel_rfl) rfl (.no 1 46 true gone_24 rfl rfl rfl rfl) rfl (fun hg W hr => q_load (T := tSlc) (u := x33) (a := (a3.add 0)) rfl ok25 (gvb_yes hg) hr) hx33 ?_
              obtain ⟨a34, ha34, h⟩ := h
              refine rd_gpure (i := 12) (g := (!gone_24)) (d := (some 57)) hD (by kernel_rfl) (by kernel_rfl) rfl (.no 1 46 true gone_24 rfl rfl rfl rfl) rfl (fun hg _ => q_indexAddr (s := x33) (i := i_18) rfl Try.underlying25 ok76 (gvb_yes hg) (gvb_yes hg) (ha34 hg)) ?_
              refine rd_gpure (i := 13) (g := (!gone_24)) (d := (some 58)) hD (by kernel_rfl) (by kernel_rfl) rfl (.no 1 46 true gone_24 rfl rfl rfl rfl) rfl (fun hg _ => q_fieldAddr (a := a34) (off := 1) rfl Try.underlying76 rfl rfl ok58 (by decide) (gvb_yes hg)) ?_
              refine rd_gpure (i := 14) (g := (!gone_24)) (d := (some 59)) hD (by kernel_rfl) (by kernel_rfl) rfl (.no 1 46 true gone_24 rfl rfl rfl rfl) rfl (fun hg _ => q_fieldAddr (a := (a34.add 1)) (off := 0) rfl Try.underlying58 rfl rfl ok3 (by decide) (gvb_yes hg)) ?_
              obtain ⟨x35, hx35, h⟩ := h
              refine rd_gread (i := 15) (g := (!gone_24)) (d := (some 60)) (fun W => (RdAt (tInt .i64) ((a34.add 1).add 0) W) x35) hD (by kernel_rfl) (by kernel_rfl) rfl (.no 1 46 true gone_24 rfl rfl rfl rfl) rfl (fun hg W hr => q_load (T := (tInt .i64)) (u := x35) (a := ((a34.add 1).add 0)) rfl ok3 (gvb_yes hg) hr) hx35 ?_
              refine rd_gpure (i := 16) (g := (!gone_24)) (d := (some 61)) hD (by kernel_rfl) (by kernel_rfl) rfl (.no 1 46 true gone_24 rfl rfl rfl rfl) rfl (fun hg _ => q_eql (a := x32) (b := x35) rfl (gvb_yes hg) (gvb_yes hg)) ?_
              refine rd_gpure (i := 17) (g := (!gone_24)) (d := (some 62)) hD (by kernel_rfl) (by kernel_rfl) rfl (.no 1 46 true gone_24 rfl rfl rfl rfl) rfl (fun hg _ => q_move (v := .bool ((x32 == x35))) rfl (gvb_yes hg)) ?_
              refine rd_gpure (i := 18) (g := ((!gone_24) && (x32 == x35))) (d := (some 63)) hD (by kernel_rfl) (by kernel_rfl) rfl (.yes 17 62 (!gone_24) (x32 == x35) rfl rfl rfl rfl) rfl (fun hg _ => q_fieldAddr (a := a3) (off := 0) rfl Try.underlying27 rfl rfl ok25 (by decide) rfl) ?_
              refine rd_gpure (i := 20) (g := ((!gone_24) && (x32 == x35))) (d := (some 65)) hD (by kernel_rfl) (by kernel_rfl) rfl (.yes 17 62 (!gone_24) (x32 == x35) rfl rfl rfl rfl) rfl (fun hg _ => q_move (v := .int .i64 (k_25)) rfl rfl) ?_
              refine rd_gpure (i := 24) (g := ((!gone_24) && (x32 == x35))) (d := (some 69)) hD (by kernel_rfl) (by kernel_rfl) rfl (.yes 17 62 (!gone_24) (x32 == x35) rfl rfl rfl rfl) rfl (fun hg _ => q_fieldAddr (a := a3) (off := 2) rfl Try.underlying27 rfl rfl ok2 (by decide) rfl) ?_
              obtain ⟨x36, hx36, h⟩ := h
              refine rd_gread (i := 19) (g := ((!gone_24) && (x32 == x35))) (d := (some 64)) (fun W => (RdAt tSlc (a3.add 0) W) x36) hD (by kernel_rfl) (by kernel_rfl) rfl (.yes 17 62 (!gone_24) (x32 == x35) rfl rfl rfl rfl) rfl (fun hg W hr => q_load (T := tSlc) (u := x36) (a := (a3.add 0)) rfl ok25 (gvb_yes hg) hr) hx36 ?_
              obtain ⟨a37, ha37, h⟩ := h
              refine rd_gpure (i := 21) (g := ((!gone_24) && (x32 == x35))) (d := (some 66)) hD (by kernel_rfl) (by kernel_rfl) rfl (.yes 17 62 (!gone_24) (x32 == x35) rfl rfl rfl rfl) rfl (fun hg _ => q_indexAddr (s := x36) (i := k_25) rfl Try.underlying25 ok76 (gvb_yes hg) (gvb_yes hg) (ha37 hg)) ?_
              refine rd_gpure (i := 22) (g := ((!gone_24) && (x32 == x35))) (d := (some 67)) hD (by kernel_rfl) (by kernel_rfl) rfl (.yes 17 62 (!gone_24) (x32 == x35) rfl rfl rfl rfl) rfl (fun hg _ => q_fieldAddr (a := a37) (off := 0) rfl Try.underlying76 rfl rfl ok2 (by decide) (gvb_yes hg)) ?_
              obtain ⟨x38, hx38, h⟩ := h
              refine rd_gread (i := 23) (g := ((!gone_24) && (x32 == x35))) (d := (some 68)) (fun W => (RdAt (tInt .i64) (a37.add 0) W) x38) hD (by kernel_rfl) (by kernel_rfl) rfl (.yes 17 62 (!gone_24) (x32 == x35) rfl rfl rfl rfl) rfl (fun hg W hr => q_load (T := (tInt .i64)) (u := x38) (a := (a37.add 0)) rfl ok2 (gvb_yes hg) hr) hx38 ?_
              obtain ⟨x39, hx39, h⟩ := h
              refine rd_gread (i := 25) (g := ((!gone_24) && (x32 == x35))) (d := (some 70)) (fun W => (RdAt (tInt .i64) (a3.add 2) W) x39) hD (by kernel_rfl) (by kernel_rfl) rfl (.yes 17 62 (!gone_24) (x32 == x35) rfl rfl rfl rfl) rfl (fun hg W hr => q_load (T := (tInt .i64)) (u := x39) (a := (a3.add 2)) rfl ok2 (gvb_yes hg) hr) hx39 ?_
              refine rd_gpure (i := 26) (g := ((!gone_24) && (x32 == x35))) (d := (some 71)) hD (by kernel_rfl) (by kernel_rfl) rfl (.yes 17 62 (!gone_24) (x32 == x35) rfl rfl rfl rfl) rfl (fun hg _ => q_leq (a := x38) (b := x39) rfl (gvb_yes hg) (gvb_yes hg)) ?_
              refine rd_gpure (i := 27) (g := (!gone_24)) (d := (some 72)) hD (by kernel_rfl) (by kernel_rfl) rfl (.no 1 46 true gone_24 rfl rfl rfl rfl) rfl (fun hg _ => q_pickNT (g0 := (!gone_24)) (a := (x32 == x35)) (b := (decide (x38 ≤ x39))) hg rfl rfl rfl rfl) ?_
              refine rd_pure (i := 28) (d := (some 73)) hD (by kernel_rfl) (by kernel_rfl) rfl (.free rfl) rfl (fun _ => q_pickGF (a := gone_24) (c := ((x32 == x35) && (decide (x38 ≤ x39)))) rfl rfl rfl rfl) ?_
              refine rd_pure (i := 29) (d := (some 8)) hD (by kernel_rfl) (by kernel_rfl) rfl (.free rfl) rfl (fun _ => q_assign (v := .bool ((gone_24 || ((x32 == x35) && (decide (x38 ≤ x39)))))) rfl rfl) ?_
              refine rd_nil (by kernel_rfl) ?_
              refine wp_text [0, 1, 2] rfl ?_
              refine ro_val (d := (some 43)) rfl (.free rfl) rfl (q_move (v := .int .i64 (k_25)) rfl rfl) ?_
              refine ro_val (d := (some 44)) rfl (.free rfl) rfl (q_add (a := k_25) (b := (1 : Int)) rfl rfl rfl) ?_
              refine ro_val (d := (some 9)) rfl (.free rfl) rfl (q_assign (v := .int .i64 ((IntKind.i64.wrap (k_25 + (1 : Int))))) rfl rfl) ?_
              refine ro_nil ?_
              exact ⟨((gone_24 || ((x32 == x35) && (decide (x38 ≤ x39)))), (IntKind.i64.wrap (k_25 + (1 : Int)))), _, arr (upd_step (upd_step (upd_step (upd_step (upd_step (upd_step rfl rfl) rfl) rfl) rfl) rfl) rfl), h⟩
            · refine wp_exit ?_
              refine wp_seq ?_
              refine wp_text [0, 1] rfl ?_
              refine ro_val (d := (some 74)) rfl (.free rfl) rfl (q_move (v := .bool (gone_24)) rfl rfl) ?_
              refine ro_val (d := (some 75)) rfl (.free rfl) rfl (q_not (b := gone_24) rfl rfl) ?_
              refine ro_nil ?_
              refine wp_if (b := (!gone_24)) rfl h (fun hb47 h => ?_) (fun hb47 h => ?_)
              · refine wp_text [0, 1, 2, 3, 4, 5, 6, 7, 8] rfl ?_
                refine ro_val (d := (some 76)) rfl (.free rfl) rfl (q_move (v := tSlc.enc (rows_17)) rfl rfl) ?_
                refine ro_val (d := (some 77)) rfl (.free rfl) rfl (q_fieldAddr (a := a3) (off := 0) rfl Try.underlying27 rfl rfl ok25 (by decide) rfl) ?_
                obtain ⟨x40, hx40, h⟩ := h
                refine ro_val (d := (some 78)) rfl (.free rfl) rfl (q_load (T := tSlc) (u := x40) (a := (a3.add 0)) rfl ok25 rfl hx40) ?_
                refine ro_val (d := (some 79)) rfl (.free rfl) rfl (q_move (v := .int .i64 (i_18)) rfl rfl) ?_
                obtain ⟨a41, ha41, h⟩ := h
                refine ro_val (d := (some 80)) rfl (.free rfl) rfl (q_indexAddr (s := x40) (i := i_18) rfl Try.underlying25 ok76 rfl rfl ha41) ?_
                obtain ⟨x42, hx42, h⟩ := h
                refine ro_val (d := (some 81)) rfl (.free rfl) rfl (q_load (T := T75) (u := x42) (a := a41) rfl ok76 rfl hx42) ?_
                obtain ⟨a43, w44, ha43, hw44, h⟩ := apl_open h
                refine ro_val (d := (some 82)) rfl (.free rfl) rfl (q_rowOf (T := T75) (xs := [x42]) rfl Try.underlying25 ok76 inf76 rfl (by decide) (by decide) rfl ha43 hw44) ?_
                refine ro_wp rfl (.free rfl) (wp_append (d := (some 83)) (T := T75) rfl rfl Try.underlying25 ⟨_, Try.underlying25⟩ ok76 inf76 rfl rfl (Nat.lt_of_lt_of_le Nat.zero_lt_one (Nat.le_of_ble_eq_true rfl)) rfl rfl h ?_)
                intro r46 w45 h
                refine ro_val (d := (some 6)) rfl (.free rfl) rfl (q_assign (v := tSlc.enc (r46)) rfl rfl) ?_
                refine ro_nil ?_
                exact ⟨(r46), _, arr (upd_step (upd_step (upd_step (upd_step rfl rfl) rfl) rfl) rfl), h⟩
              · refine wp_skip ?_
                exact ⟨(rows_17), _, arr (upd_step (upd_step (upd_step (upd_step rfl rfl) rfl) rfl) rfl), h⟩
        · refine wp_exit ?_
          refine wp_seq ?_
          refine wp_text [0, 1, 2] rfl ?_
          refine ro_val (d := (some 84)) rfl (.free rfl) rfl (q_move (v := tSlc.enc (rows_17)) rfl rfl) ?_
          refine ro_val (d := (some 85)) rfl (.free rfl) rfl (q_fieldAddr (a := a3) (off := 0) rfl Try.underlying27 rfl rfl ok25 (by decide) rfl) ?_
          obtain ⟨w49, hw49, hrw49, h⟩ := st_open h
          refine ro_skip (d := none) rfl (.free rfl) rfl (q_store (T := tSlc) (u := rows_17) (a := (a3.add 0)) rfl ok25 rfl rfl hrw49 hw49) ?_
          refine ro_nil ?_
          refine wp_seq ?_
          refine wp_text [0, 1, 2] rfl ?_
          obtain ⟨x50, hx50, h⟩ := h
          refine ro_val (d := (some 86)) rfl (.free rfl) rfl (q_load (T := T26) (u := x50) (a := a3) rfl ok27 rfl hx50) ?_
          obtain ⟨w51, hw51, hrw51, h⟩ := st_open h
          refine ro_skip (d := none) rfl (.free rfl) rfl (q_store (T := T26) (u := x50) (a := a5) rfl ok27 rfl rfl hrw51 hw51) ?_
          refine ro_val (d := (some 5)) rfl (.free rfl) rfl (q_assign (v := .int .i64 ((0 : Int))) rfl rfl) ?_
          refine ro_nil ?_
          refine wp_ret ?_
          obtain ⟨x52, hx52, h⟩ := h
          exact ret_ok rfl (.cons (.cell (T := T26) (u := x52) (a := a5) ok27 rfl hx52) (.cons (.tmp (v := .int .i64 ((0 : Int))) rfl) .nil)) ⟨(x52, (0 : Int)), rfl, h⟩
      · refine wp_seq ?_
        refine wp_text [0, 1, 2, 3] rfl ?_
        refine ro_val (d := (some 22)) rfl (.free rfl) rfl (q_move (v := .int .i64 (mark_2)) rfl rfl) ?_
        refine ro_val (d := (some 23)) rfl (.free rfl) rfl (q_fieldAddr (a := a3) (off := 2) rfl Try.underlying27 rfl rfl ok2 (by decide) rfl) ?_
        obtain ⟨x54, hx54, h⟩ := h
        refine ro_val (d := (some 24)) rfl (.free rfl) rfl (q_load (T := (tInt .i64)) (u := x54) (a := (a3.add 2)) rfl ok2 rfl hx54) ?_
        refine ro_val (d := (some 25)) rfl (.free rfl) rfl (q_gtr (a := mark_2) (b := x54) rfl rfl rfl) ?_
        refine ro_nil ?_
        refine wp_if (b := (decide (mark_2 > x54))) rfl h (fun hb56 h => ?_) (fun hb56 h => ?_)
        · refine wp_text [0, 1, 2] rfl ?_
          refine ro_val (d := (some 26)) rfl (.free rfl) rfl (q_move (v := .int .i64 (mark_2)) rfl rfl) ?_
          refine ro_val (d := (some 27)) rfl (.free rfl) rfl (q_fieldAddr (a := a3) (off := 2) rfl Try.underlying27 rfl rfl ok2 (by decide) rfl) ?_
          obtain ⟨w55, hw55, hrw55, h⟩ := st_open h
          refine ro_skip (d := none) rfl (.free rfl) rfl (q_store (T := (tInt .i64)) (u := mark_2) (a := (a3.add 2)) rfl ok2 rfl rfl hrw55 hw55) ?_
          refine ro_nil ?_
          exact ⟨(), _, arr (upd_step (upd_step rfl rfl) rfl), h⟩
        · refine wp_skip ?_
          exact ⟨(), _, arr (upd_step (upd_step rfl rfl) rfl), h⟩

-- moiety/moietyref12.Close
def F30_j1 (a3 : Addr) (a5 : Addr) (w10 : World) (R : (S26 × Int) → World → Prop) : Prop :=
  ex (RdAt T26 a3 w10) fun x11 =>
  st T26 a5 x11 w10 fun w12 =>
  ex (RdAt T26 a5 w12) fun x13 =>
  R (x13, (0 : Int)) w12
def F30 (s_1 : S26) (t_2 : Int) (w : World) (R : (S26 × Int) → World → Prop) : Prop :=
  nw 27 T26 s_1 w fun a3 w4 =>
  nw 27 T26 Z26 w4 fun a5 w6 =>
  if ((decide (t_2 < (0 : Int))) || (decide (t_2 > (1125899906842624 : Int)))) = true then (
    ex (RdAt T26 a3 w6) fun x7 =>
    st T26 a5 x7 w6 fun w8 =>
    ex (RdAt T26 a5 w8) fun x9 =>
    R (x9, (120 : Int)) w8
  ) else (
    ex (RdAt (tInt .i64) (a3.add 1) w6) fun x14 =>
    if (decide (t_2 > x14)) = true then (
      st (tInt .i64) (a3.add 1) t_2 w6 fun w15 =>
      F30_j1 a3 a5 w15 R
    ) else (
      F30_j1 a3 a5 w6 R
    )
  )
theorem F30_ok {s_1 : S26} {t_2 : Int} {w : World} {R : (S26 × Int) → World → Prop} (h : F30 s_1 t_2 w R) : cl Try.prog 30 [T26.enc (s_1), .int .i64 (t_2)] (tTup2 T26 (tInt .i64)) w R := by
  unfold F30 at h
  refine calls_start 20 Try.func30 rfl rfl (Nat.le_of_ble_eq_true rfl) ?_
  refine wp_seq ?_
  refine wp_text [0, 1, 2] rfl ?_
  obtain ⟨a3, w4, ha3, hw4, h⟩ := nw_open h
  refine ro_val (d := (some 2)) rfl (.free rfl) rfl (q_box (u := s_1) rfl ok27 rfl ha3 hw4) ?_
  obtain ⟨a5, w6, ha5, hw6, h⟩ := nw_open h
  refine ro_val (d := (some 4)) rfl (.free rfl) rfl (q_alloc (u := Z26) rfl ok27 inf27 ha5 hw6) ?_
  refine ro_val (d := (some 5)) rfl (.free rfl) rfl (q_assign (v := .int .i64 ((0 : Int))) rfl rfl) ?_
  refine ro_nil ?_
  refine wp_seq ?_
  refine wp_seq ?_
  refine wp_text [0, 1, 2, 3, 4, 5] rfl ?_
  refine ro_val (d := (some 6)) rfl (.free rfl) rfl (q_move (v := .int .i64 (t_2)) rfl rfl) ?_
  refine ro_val (d := (some 7)) rfl (.free rfl) rfl (q_lss (a := t_2) (b := (0 : Int)) rfl rfl rfl) ?_
  refine ro_val (d := (some 8)) rfl (.free rfl) rfl (q_move (v := .bool ((decide (t_2 < (0 : Int))))) rfl rfl) ?_
  refine ro_gval (g := (!(decide (t_2 < (0 : Int))))) (d := (some 9)) rfl (.no 2 8 true (decide (t_2 < (0 : Int))) rfl rfl rfl rfl) rfl (fun hg => q_move (v := .int .i64 (t_2)) rfl rfl) ?_
  refine ro_gval (g := (!(decide (t_2 < (0 : Int))))) (d := (some 10)) rfl (.no 2 8 true (decide (t_2 < (0 : Int))) rfl rfl rfl rfl) rfl (fun hg => q_gtr (a := t_2) (b := (1125899906842624 : Int)) rfl (gvb_yes hg) rfl) ?_
  refine ro_val (d := (some 11)) rfl (.free rfl) rfl (q_pickGF (a := (decide (t_2 < (0 : Int)))) (c := (decide (t_2 > (1125899906842624 : Int)))) rfl rfl rfl rfl) ?_
  refine ro_nil ?_
  refine wp_if (b := ((decide (t_2 < (0 : Int))) || (decide (t_2 > (1125899906842624 : Int))))) rfl h (fun hb17 h => ?_) (fun hb17 h => ?_)
  · refine wp_seq ?_
    refine wp_text [0, 1, 2] rfl ?_
    obtain ⟨x7, hx7, h⟩ := h
    refine ro_val (d := (some 12)) rfl (.free rfl) rfl (q_load (T := T26) (u := x7) (a := a3) rfl ok27 rfl hx7) ?_
    obtain ⟨w8, hw8, hrw8, h⟩ := st_open h
    refine ro_skip (d := none) rfl (.free rfl) rfl (q_store (T := T26) (u := x7) (a := a5) rfl ok27 rfl rfl hrw8 hw8) ?_
    refine ro_val (d := (some 5)) rfl (.free rfl) rfl (q_assign (v := .int .i64 ((120 : Int))) rfl rfl) ?_
    refine ro_nil ?_
    refine wp_ret ?_
    obtain ⟨x9, hx9, h⟩ := h
    exact ret_ok rfl (.cons (.cell (T := T26) (u := x9) (a := a5) ok27 rfl hx9) (.cons (.tmp (v := .int .i64 ((120 : Int))) rfl) .nil)) ⟨(x9, (120 : Int)), rfl, h⟩
  · refine wp_skip ?_
    refine seq_join (σ := Unit) (J := fun (s : Unit) w => F30_j1 a3 a5 w R) (fr := fun g (s : Unit) => upd (upd (g) 2 (.pointer (some a3))) 4 (.pointer (some a5))) ?_ ?_
    · rintro ⟨⟩ g w10 h
      unfold F30_j1 at h
      refine wp_seq ?_
      refine wp_text [0, 1, 2] rfl ?_
      obtain ⟨x11, hx11, h⟩ := h
      refine ro_val (d := (some 19)) rfl (.free rfl) rfl (q_load (T := T26) (u := x11) (a := a3) rfl ok27 rfl hx11) ?_
      obtain ⟨w12, hw12, hrw12, h⟩ := st_open h
      refine ro_skip (d := none) rfl (.free rfl) rfl (q_store (T := T26) (u := x11) (a := a5) rfl ok27 rfl rfl hrw12 hw12) ?_
      refine ro_val (d := (some 5)) rfl (.free rfl) rfl (q_assign (v := .int .i64 ((0 : Int))) rfl rfl) ?_
      refine ro_nil ?_
      refine wp_ret ?_
      obtain ⟨x13, hx13, h⟩ := h
      exact ret_ok rfl (.cons (.cell (T := T26) (u := x13) (a := a5) ok27 rfl hx13) (.cons (.tmp (v := .int .i64 ((0 : Int))) rfl) .nil)) ⟨(x13, (0 : Int)), rfl, h⟩
    · refine wp_seq ?_
      refine wp_text [0, 1, 2, 3] rfl ?_
      refine ro_val (d := (some 13)) rfl (.free rfl) rfl (q_move (v := .int .i64 (t_2)) rfl rfl) ?_
      refine ro_val (d := (some 14)) rfl (.free rfl) rfl (q_fieldAddr (a := a3) (off := 1) rfl Try.underlying27 rfl rfl ok2 (by decide) rfl) ?_
      obtain ⟨x14, hx14, h⟩ := h
      refine ro_val (d := (some 15)) rfl (.free rfl) rfl (q_load (T := (tInt .i64)) (u := x14) (a := (a3.add 1)) rfl ok2 rfl hx14) ?_
      refine ro_val (d := (some 16)) rfl (.free rfl) rfl (q_gtr (a := t_2) (b := x14) rfl rfl rfl) ?_
      refine ro_nil ?_
      refine wp_if (b := (decide (t_2 > x14))) rfl h (fun hb16 h => ?_) (fun hb16 h => ?_)
      · refine wp_text [0, 1, 2] rfl ?_
        refine ro_val (d := (some 17)) rfl (.free rfl) rfl (q_move (v := .int .i64 (t_2)) rfl rfl) ?_
        refine ro_val (d := (some 18)) rfl (.free rfl) rfl (q_fieldAddr (a := a3) (off := 1) rfl Try.underlying27 rfl rfl ok2 (by decide) rfl) ?_
        obtain ⟨w15, hw15, hrw15, h⟩ := st_open h
        refine ro_skip (d := none) rfl (.free rfl) rfl (q_store (T := (tInt .i64)) (u := t_2) (a := (a3.add 1)) rfl ok2 rfl rfl hrw15 hw15) ?_
        refine ro_nil ?_
        exact ⟨(), _, arr (upd_step (upd_step rfl rfl) rfl), h⟩
      · refine wp_skip ?_
        exact ⟨(), _, arr (upd_step (upd_step rfl rfl) rfl), h⟩

-- (*moiety/chain.Chain).Last
def F31 (c_1 : (Option Addr)) (w : World) (R : (S35 × Bool) → World → Prop) : Prop :=
  nw 36 T35 Z35 w fun a2 w3 =>
  ex (NC c_1) fun a4 =>
  ex (RdAt tSlc (a4.add 0) w3) fun x5 =>
  if ((x5.len : Int) == (0 : Int)) = true then (
    st T35 a2 (⟨(0 : Int), (0 : Int)⟩ : S35) w3 fun w6 =>
    ex (RdAt T35 a2 w6) fun x7 =>
    R (x7, false) w6
  ) else (
    dr w3 fun w8 =>
    ex (RdAt tSlc (a4.add 0) w8) fun x9 =>
    ex (RdAt tSlc (a4.add 0) w8) fun x10 =>
    ex (IxA x9 2 (IntKind.i64.wrap ((x10.len : Int) - (1 : Int)))) fun a11 =>
    ex (RdAt T35 a11 w8) fun x12 =>
    st T35 a2 x12 w8 fun w13 =>
    ex (RdAt T35 a2 w13) fun x14 =>
    R (x14, true) w13
  )
theorem F31_ok {c_1 : (Option Addr)} {w : World} {R : (S35 × Bool) → World → Prop} (h : F31 c_1 w R) : cl Try.prog 31 [.pointer (c_1)] (tTup2 T35 tBool) w R := by
  unfold F31 at h
  refine calls_start 23 Try.func31 rfl rfl (Nat.le_of_ble_eq_true rfl) ?_
  refine wp_seq ?_
  refine wp_text [0, 1] rfl ?_
  obtain ⟨a2, w3, ha2, hw3, h⟩ := nw_open h
  refine ro_val (d := (some 2)) rfl (.free rfl) rfl (q_alloc (u := Z35) rfl ok36 inf36 ha2 hw3) ?_
  refine ro_val (d := (some 3)) rfl (.free rfl) rfl (q_assign (v := .bool (false)) rfl rfl) ?_
  refine ro_nil ?_
  refine wp_seq ?_
  refine wp_seq ?_
  refine wp_text [0, 1, 2, 3, 4, 5] rfl ?_
  refine ro_val (d := (some 4)) rfl (.free rfl) rfl (q_move (v := .pointer (c_1)) rfl rfl) ?_
  obtain ⟨a4, ha4, h⟩ := h
  refine ro_val (d := (some 5)) rfl (.free rfl) rfl (q_nilCheck (a := a4) rfl (congrArg Value.pointer ha4)) ?_
  refine ro_val (d := (some 6)) rfl (.free rfl) rfl (q_fieldAddr (a := a4) (off := 0) rfl Try.underlying94 rfl rfl ok77 (by decide) rfl) ?_
  obtain ⟨x5, hx5, h⟩ := h
  refine ro_val (d := (some 7)) rfl (.free rfl) rfl (q_load (T := tSlc) (u := x5) (a := (a4.add 0)) rfl ok77 rfl hx5) ?_
  refine ro_val (d := (some 8)) rfl (.free rfl) rfl (q_len (s := x5) rfl Try.underlying77 rfl) ?_
  refine ro_val (d := (some 9)) rfl (.free rfl) rfl (q_eql (a := (x5.len : Int)) (b := (0 : Int)) rfl rfl rfl) ?_
  refine ro_nil ?_
  refine wp_if (b := ((x5.len : Int) == (0 : Int))) rfl h (fun hb15 h => ?_) (fun hb15 h => ?_)
  · refine wp_seq ?_
    refine wp_text [0, 1, 2] rfl ?_
    refine ro_val (d := (some 10)) rfl (.free rfl) rfl (q_build36_  rfl ) ?_
    obtain ⟨w6, hw6, hrw6, h⟩ := st_open h
    refine ro_skip (d := none) rfl (.free rfl) rfl (q_store (T := T35) (u := (⟨(0 : Int), (0 : Int)⟩ : S35)) (a := a2) rfl ok36 rfl rfl hrw6 hw6) ?_
    refine ro_val (d := (some 3)) rfl (.free rfl) rfl (q_assign (v := .bool (false)) rfl rfl) ?_
    refine ro_nil ?_
    refine wp_ret ?_
    obtain ⟨x7, hx7, h⟩ := h
    exact ret_ok rfl (.cons (.cell (T := T35) (u := x7) (a := a2) ok36 rfl hx7) (.cons (.tmp (v := .bool (false)) rfl) .nil)) ⟨(x7, false), rfl, h⟩
  · refine wp_skip ?_
    refine wp_seq ?_
    obtain ⟨w8, hw8, h⟩ := dr_open h
    refine wp_drawn 14 mixed rfl (by kernel_rfl) (by intro c a d v w h; cases d <;> exact h) hw8 (fun hD => ?_)
    refine rd_pure (i := 0) (d := (some 11)) hD (by kernel_rfl) (by kernel_rfl) rfl (.free rfl) rfl (fun _ => q_move (v := .pointer (c_1)) rfl rfl) ?_
    refine rd_pure (i := 1) (d := (some 12)) hD (by kernel_rfl) (by kernel_rfl) rfl (.free rfl) rfl (fun _ => q_nilCheck (a := a4) rfl (congrArg Value.pointer ha4)) ?_
    refine rd_pure (i := 2) (d := (some 13)) hD (by kernel_rfl) (by kernel_rfl) rfl (.free rfl) rfl (fun _ => q_fieldAddr (a := a4) (off := 0) rfl Try.underlying94 rfl rfl ok77 (by decide) rfl) ?_
    refine rd_pure (i := 4) (d := (some 15)) hD (by kernel_rfl) (by kernel_rfl) rfl (.free rfl) rfl (fun _ => q_move (v := .pointer (c_1)) rfl rfl) ?_
    refine rd_pure (i := 5) (d := (some 16)) hD (by kernel_rfl) (by kernel_rfl) rfl (.free rfl) rfl (fun _ => q_nilCheck (a := a4) rfl (congrArg Value.pointer ha4)) ?_
    refine rd_pure (i := 6) (d := (some 17)) hD (by kernel_rfl) (by kernel_rfl) rfl (.free rfl) rfl (fun _ => q_fieldAddr (a := a4) (off := 0) rfl Try.underlying94 rfl rfl ok77 (by decide) rfl) ?_
    obtain ⟨x9, hx9, h⟩ := h
    refine rd_read (i := 3) (d := (some 14)) (fun W => (RdAt tSlc (a4.add 0) W) x9) hD (by kernel_rfl) (by kernel_rfl) rfl (.free rfl) rfl (fun W hr => q_load (T := tSlc) (u := x9) (a := (a4.add 0)) rfl ok77 rfl hr) hx9 ?_
    obtain ⟨x10, hx10, h⟩ := h
    refine rd_read (i := 7) (d := (some 18)) (fun W => (RdAt tSlc (a4.add 0) W) x10) hD (by kernel_rfl) (by kernel_rfl) rfl (.free rfl) rfl (fun W hr => q_load (T := tSlc) (u := x10) (a := (a4.add 0)) rfl ok77 rfl hr) hx10 ?_
    refine rd_pure (i := 8) (d := (some 19)) hD (by kernel_rfl) (by kernel_rfl) rfl (.free rfl) rfl (fun _ => q_len (s := x10) rfl Try.underlying77 rfl) ?_
    refine rd_pure (i := 9) (d := (some 20)) hD (by kernel_rfl) (by kernel_rfl) rfl (.free rfl) rfl (fun _ => q_sub (a := (x10.len : Int)) (b := (1 : Int)) rfl rfl rfl) ?_
    obtain ⟨a11, ha11, h⟩ := h
    refine rd_pure (i := 10) (d := (some 21)) hD (by kernel_rfl) (by kernel_rfl) rfl (.free rfl) rfl (fun _ => q_indexAddr (s := x9) (i := (IntKind.i64.wrap ((x10.len : Int) - (1 : Int)))) rfl Try.underlying77 ok36 rfl rfl ha11) ?_
    obtain ⟨x12, hx12, h⟩ := h
    refine rd_read (i := 11) (d := (some 22)) (fun W => (RdAt T35 a11 W) x12) hD (by kernel_rfl) (by kernel_rfl) rfl (.free rfl) rfl (fun W hr => q_load (T := T35) (u := x12) (a := a11) rfl ok36 rfl hr) hx12 ?_
    refine rd_one (i := 12) (by kernel_rfl) ?_
    obtain ⟨w13, hw13, hrw13, h⟩ := st_open h
    refine po_skip (d := none) rfl (.free rfl) rfl (q_store (T := T35) (u := x12) (a := a2) rfl ok36 rfl rfl hrw13 hw13) ⟨(hk_wait (by kernel_rfl) (hk_wait (by kernel_rfl) (hk_wait (by kernel_rfl) hk_nil))), ?_⟩
    refine rd_pure (i := 13) (d := (some 3)) hD (by kernel_rfl) (by kernel_rfl) rfl (.free rfl) rfl (fun _ => q_assign (v := .bool (true)) rfl rfl) ?_
    refine rd_nil (by kernel_rfl) ?_
    refine wp_ret ?_
    obtain ⟨x14, hx14, h⟩ := h
    exact ret_ok rfl (.cons (.cell (T := T35) (u := x14) (a := a2) ok36 rfl hx14) (.cons (.tmp (v := .bool (true)) rfl) .nil)) ⟨(x14, true), rfl, h⟩

-- (*moiety/chain.Chain).List
def F32 (c_1 : (Option Addr)) (w : World) (R : Slc → World → Prop) : Prop :=
  ex (NC c_1) fun a2 =>
  ex (RdAt tSlc (a2.add 0) w) fun x3 =>
  mkS 36 T35 16 Z35 (x3.len : Int) (x3.len : Int) w fun r5 w4 =>
  ex (RdAt tSlc (a2.add 0) w4) fun x6 =>
  cpy T35 2 r5 x6 w4 fun r8 w7 =>
  R r5 w7
theorem F32_ok {c_1 : (Option Addr)} {w : World} {R : Slc → World → Prop} (h : F32 c_1 w R) : cl Try.prog 32 [.pointer (c_1)] tSlc w R := by
  unfold F32 at h
  refine calls_start 17 Try.func32 rfl rfl (Nat.le_of_ble_eq_true rfl) ?_
  refine wp_seq ?_
  refine wp_text [0] rfl ?_
  refine ro_val (d := (some 2)) rfl (.free rfl) rfl (q_assign (v := tSlc.enc ((⟨none, 0, 0⟩ : Slc))) rfl rfl) ?_
  refine ro_nil ?_
  refine wp_seq ?_
  refine wp_text [0, 1, 2, 3, 4, 5, 6] rfl ?_
  refine ro_val (d := (some 4)) rfl (.free rfl) rfl (q_move (v := .pointer (c_1)) rfl rfl) ?_
  obtain ⟨a2, ha2, h⟩ := h
  refine ro_val (d := (some 5)) rfl (.free rfl) rfl (q_nilCheck (a := a2) rfl (congrArg Value.pointer ha2)) ?_
  refine ro_val (d := (some 6)) rfl (.free rfl) rfl (q_fieldAddr (a := a2) (off := 0) rfl Try.underlying94 rfl rfl ok77 (by decide) rfl) ?_
  obtain ⟨x3, hx3, h⟩ := h
  refine ro_val (d := (some 7)) rfl (.free rfl) rfl (q_load (T := tSlc) (u := x3) (a := (a2.add 0)) rfl ok77 rfl hx3) ?_
  refine ro_val (d := (some 8)) rfl (.free rfl) rfl (q_len (s := x3) rfl Try.underlying77 rfl) ?_
  refine ro_wp rfl (.free rfl) (wp_mkS (T := T35) (z := Z35) (l := (x3.len : Int)) (c := (x3.len : Int)) (d := (some 9)) rfl rfl Try.underlying77 ok36 inf36 rfl rfl h ?_)
  intro r5 w4 h
  refine ro_val (d := (some 3)) rfl (.free rfl) rfl (q_assign (v := tSlc.enc (r5)) rfl rfl) ?_
  refine ro_nil ?_
  refine wp_seq ?_
  refine wp_text [0, 1, 2, 3, 4, 5] rfl ?_
  refine ro_val (d := (some 10)) rfl (.free rfl) rfl (q_move (v := tSlc.enc (r5)) rfl rfl) ?_
  refine ro_val (d := (some 11)) rfl (.free rfl) rfl (q_move (v := .pointer (c_1)) rfl rfl) ?_
  refine ro_val (d := (some 12)) rfl (.free rfl) rfl (q_nilCheck (a := a2) rfl (congrArg Value.pointer ha2)) ?_
  refine ro_val (d := (some 13)) rfl (.free rfl) rfl (q_fieldAddr (a := a2) (off := 0) rfl Try.underlying94 rfl rfl ok77 (by decide) rfl) ?_
  obtain ⟨x6, hx6, h⟩ := h
  refine ro_val (d := (some 14)) rfl (.free rfl) rfl (q_load (T := tSlc) (u := x6) (a := (a2.add 0)) rfl ok77 rfl hx6) ?_
  refine ro_wp rfl (.free rfl) (wp_cpy (T := T35) (s := r5) (b := x6) (d := (some 15)) rfl rfl Try.underlying77 ok36 rfl rfl h ?_)
  intro r8 w7 h
  refine ro_nil ?_
  refine wp_seq ?_
  refine wp_text [0, 1] rfl ?_
  refine ro_val (d := (some 16)) rfl (.free rfl) rfl (q_move (v := tSlc.enc (r5)) rfl rfl) ?_
  refine ro_val (d := (some 2)) rfl (.free rfl) rfl (q_assign (v := tSlc.enc (r5)) rfl rfl) ?_
  refine ro_nil ?_
  refine wp_ret ?_
  exact ret_ok rfl (.cons (.tmp (v := tSlc.enc (r5)) rfl) .nil) ⟨r5, rfl, h⟩

-- (*moiety/store.Store).time
def F33 (s_1 : (Option Addr)) (at_2 : Int) (w : World) (R : Int → World → Prop) : Prop :=
  cl Try.prog 43 [.int .i64 (at_2)] tBool w fun r4 w3 =>
  if (!r4) = true then (
    R (120 : Int) w3
  ) else (
    ex (NC s_1) fun a5 =>
    ex (RdAt (tInt .i64) (a5.add 1) w3) fun x6 =>
    if (decide (at_2 > x6)) = true then (
      R (128 : Int) w3
    ) else (
      ex (RdAt (tInt .i64) (a5.add 2) w3) fun x7 =>
      if (decide (at_2 < x7)) = true then (
        R (126 : Int) w3
      ) else (
        R (0 : Int) w3
      )
    )
  )
theorem F33_ok {s_1 : (Option Addr)} {at_2 : Int} {w : World} {R : Int → World → Prop} (h : F33 s_1 at_2 w R) : cl Try.prog 33 [.pointer (s_1), .int .i64 (at_2)] (tInt .i64) w R := by
  unfold F33 at h
  refine calls_start 23 Try.func33 rfl rfl (Nat.le_of_ble_eq_true rfl) ?_
  refine wp_seq ?_
  refine wp_text [0] rfl ?_
  refine ro_val (d := (some 4)) rfl (.free rfl) rfl (q_assign (v := .int .i64 ((0 : Int))) rfl rfl) ?_
  refine ro_nil ?_
  refine wp_seq ?_
  refine wp_block ?_
  refine wp_seq ?_
  refine wp_text [0, 1, 2, 3] rfl ?_
  refine ro_val (d := (some 6)) rfl (.free rfl) rfl (q_move (v := .int .i64 (at_2)) rfl rfl) ?_
  refine ro_wp rfl (.free rfl) (wp_cl (d := (some 7)) rfl (q_call (k := 43) (l := [.int .i64 (at_2)]) rfl ent43 rfl) h ?_)
  intro r4 w3 h
  refine ro_val (d := (some 8)) rfl (.free rfl) rfl (q_not (b := r4) rfl rfl) ?_
  refine ro_val (d := (some 5)) rfl (.free rfl) rfl (q_assign (v := .bool ((!r4))) rfl rfl) ?_
  refine ro_nil ?_
  refine wp_if (b := (!r4)) rfl h (fun hb10 h => ?_) (fun hb10 h => ?_)
  · refine wp_seq ?_
    refine wp_text [0] rfl ?_
    refine ro_val (d := (some 4)) rfl (.free rfl) rfl (q_assign (v := .int .i64 ((120 : Int))) rfl rfl) ?_
    refine ro_nil ?_
    refine wp_ret ?_
    exact ret_ok rfl (.cons (.tmp (v := .int .i64 ((120 : Int))) rfl) .nil) ⟨(120 : Int), rfl, h⟩
  · refine wp_seq ?_
    refine wp_text [0, 1, 2, 3, 4, 5, 6] rfl ?_
    refine ro_val (d := (some 10)) rfl (.free rfl) rfl (q_move (v := .int .i64 (at_2)) rfl rfl) ?_
    refine ro_val (d := (some 11)) rfl (.free rfl) rfl (q_move (v := .pointer (s_1)) rfl rfl) ?_
    obtain ⟨a5, ha5, h⟩ := h
    refine ro_val (d := (some 12)) rfl (.free rfl) rfl (q_nilCheck (a := a5) rfl (congrArg Value.pointer ha5)) ?_
    refine ro_val (d := (some 13)) rfl (.free rfl) rfl (q_fieldAddr (a := a5) (off := 1) rfl Try.underlying67 rfl rfl ok2 (by decide) rfl) ?_
    obtain ⟨x6, hx6, h⟩ := h
    refine ro_val (d := (some 14)) rfl (.free rfl) rfl (q_load (T := (tInt .i64)) (u := x6) (a := (a5.add 1)) rfl ok2 rfl hx6) ?_
    refine ro_val (d := (some 15)) rfl (.free rfl) rfl (q_gtr (a := at_2) (b := x6) rfl rfl rfl) ?_
    refine ro_val (d := (some 9)) rfl (.free rfl) rfl (q_assign (v := .bool ((decide (at_2 > x6)))) rfl rfl) ?_
    refine ro_nil ?_
    refine wp_if (b := (decide (at_2 > x6))) rfl h (fun hb9 h => ?_) (fun hb9 h => ?_)
    · refine wp_seq ?_
      refine wp_text [0] rfl ?_
      refine ro_val (d := (some 4)) rfl (.free rfl) rfl (q_assign (v := .int .i64 ((128 : Int))) rfl rfl) ?_
      refine ro_nil ?_
      refine wp_ret ?_
      exact ret_ok rfl (.cons (.tmp (v := .int .i64 ((128 : Int))) rfl) .nil) ⟨(128 : Int), rfl, h⟩
    · refine wp_seq ?_
      refine wp_text [0, 1, 2, 3, 4, 5, 6] rfl ?_
      refine ro_val (d := (some 17)) rfl (.free rfl) rfl (q_move (v := .int .i64 (at_2)) rfl rfl) ?_
      refine ro_val (d := (some 18)) rfl (.free rfl) rfl (q_move (v := .pointer (s_1)) rfl rfl) ?_
      refine ro_val (d := (some 19)) rfl (.free rfl) rfl (q_nilCheck (a := a5) rfl (congrArg Value.pointer ha5)) ?_
      refine ro_val (d := (some 20)) rfl (.free rfl) rfl (q_fieldAddr (a := a5) (off := 2) rfl Try.underlying67 rfl rfl ok2 (by decide) rfl) ?_
      obtain ⟨x7, hx7, h⟩ := h
      refine ro_val (d := (some 21)) rfl (.free rfl) rfl (q_load (T := (tInt .i64)) (u := x7) (a := (a5.add 2)) rfl ok2 rfl hx7) ?_
      refine ro_val (d := (some 22)) rfl (.free rfl) rfl (q_lss (a := at_2) (b := x7) rfl rfl rfl) ?_
      refine ro_val (d := (some 16)) rfl (.free rfl) rfl (q_assign (v := .bool ((decide (at_2 < x7)))) rfl rfl) ?_
      refine ro_nil ?_
      refine wp_if (b := (decide (at_2 < x7))) rfl h (fun hb8 h => ?_) (fun hb8 h => ?_)
      · refine wp_seq ?_
        refine wp_text [0] rfl ?_
        refine ro_val (d := (some 4)) rfl (.free rfl) rfl (q_assign (v := .int .i64 ((126 : Int))) rfl rfl) ?_
        refine ro_nil ?_
        refine wp_ret ?_
        exact ret_ok rfl (.cons (.tmp (v := .int .i64 ((126 : Int))) rfl) .nil) ⟨(126 : Int), rfl, h⟩
      · refine wp_skip ?_
        refine wp_seq ?_
        refine wp_text [0] rfl ?_
        refine ro_val (d := (some 4)) rfl (.free rfl) rfl (q_assign (v := .int .i64 ((0 : Int))) rfl rfl) ?_
        refine ro_nil ?_
        refine wp_ret ?_
        exact ret_ok rfl (.cons (.tmp (v := .int .i64 ((0 : Int))) rfl) .nil) ⟨(0 : Int), rfl, h⟩

-- maps.Keys[map[int]*moiety/chain.Chain,int,*moiety/chain.Chain]
def F35 (m_1 : (Option Nat)) (w : World) (R : Fv → World → Prop) : Prop :=
  nw 65 tMap m_1 w fun a2 w3 =>
  R (Fv.mk (.func 49) (List.toArray []) (List.toArray [.pointer (some a2)])) w3
theorem F35_ok {m_1 : (Option Nat)} {w : World} {R : Fv → World → Prop} (h : F35 m_1 w R) : cl Try.prog 35 [.map (m_1)] tFun w R := by
  unfold F35 at h
  refine calls_start 4 Try.func35 rfl rfl (Nat.le_of_ble_eq_true rfl) ?_
  refine wp_seq ?_
  refine wp_text [0, 1] rfl ?_
  obtain ⟨a2, w3, ha2, hw3, h⟩ := nw_open h
  refine ro_val (d := (some 1)) rfl (.free rfl) rfl (q_box (u := m_1) rfl ok65 rfl ha2 hw3) ?_
  refine ro_val (d := (some 2)) rfl (.free rfl) rfl (q_assign (v := (Fv.nil).enc) rfl rfl) ?_
  refine ro_nil ?_
  refine wp_seq ?_
  refine wp_text [0, 1] rfl ?_
  refine ro_val (d := (some 3)) rfl (.free rfl) rfl (q_makeFunc (fn := .func 49) (va := []) (vc := [.pointer (some a2)]) rfl rfl rfl) ?_
  refine ro_val (d := (some 2)) rfl (.free rfl) rfl (q_assign (v := ((Fv.mk (.func 49) (List.toArray []) (List.toArray [.pointer (some a2)]))).enc) rfl rfl) ?_
  refine ro_nil ?_
  refine wp_ret ?_
  exact ret_ok rfl (.cons (.tmp (v := ((Fv.mk (.func 49) (List.toArray []) (List.toArray [.pointer (some a2)]))).enc) rfl) .nil) ⟨(Fv.mk (.func 49) (List.toArray []) (List.toArray [.pointer (some a2)])), rfl, h⟩

-- (*moiety/chain.Chain).Get
def F36 (c_1 : (Option Addr)) (at_2 : Int) (w : World) (R : (S35 × Int) → World → Prop) : Prop :=
  nw 36 T35 Z35 w fun a3 w4 =>
  if ((decide (at_2 < (0 : Int))) || (decide (at_2 > (1125899906842624 : Int)))) = true then (
    st T35 a3 (⟨(0 : Int), (0 : Int)⟩ : S35) w4 fun w5 =>
    ex (RdAt T35 a3 w5) fun x6 =>
    R (x6, (110 : Int)) w5
  ) else (
    ex (NC c_1) fun a7 =>
    ex (RdAt (tInt .i64) (a7.add 1) w4) fun x8 =>
    if (decide (at_2 < x8)) = true then (
      st T35 a3 (⟨(0 : Int), (0 : Int)⟩ : S35) w4 fun w9 =>
      ex (RdAt T35 a3 w9) fun x10 =>
      R (x10, (113 : Int)) w9
    ) else (
      cl Try.prog 50 [.pointer (c_1), .int .i64 (at_2)] (tInt .i64) w4 fun r12 w11 =>
      if (r12 == (0 : Int)) = true then (
        st T35 a3 (⟨(0 : Int), (0 : Int)⟩ : S35) w11 fun w13 =>
        ex (RdAt T35 a3 w13) fun x14 =>
        R (x14, (114 : Int)) w13
      ) else (
        ex (RdAt tSlc (a7.add 0) w11) fun x15 =>
        ex (IxA x15 2 (IntKind.i64.wrap (r12 - (1 : Int)))) fun a16 =>
        ex (RdAt T35 a16 w11) fun x17 =>
        st T35 a3 x17 w11 fun w18 =>
        ex (RdAt T35 a3 w18) fun x19 =>
        R (x19, (0 : Int)) w18
      )
    )
  )
theorem F36_ok {c_1 : (Option Addr)} {at_2 : Int} {w : World} {R : (S35 × Int) → World → Prop} (h : F36 c_1 at_2 w R) : cl Try.prog 36 [.pointer (c_1), .int .i64 (at_2)] (tTup2 T35 (tInt .i64)) w R := by
  unfold F36 at h
  refine calls_start 37 Try.func36 rfl rfl (Nat.le_of_ble_eq_true rfl) ?_
  refine wp_seq ?_
  refine wp_text [0, 1] rfl ?_
  obtain ⟨a3, w4, ha3, hw4, h⟩ := nw_open h
  refine ro_val (d := (some 4)) rfl (.free rfl) rfl (q_alloc (u := Z35) rfl ok36 inf36 ha3 hw4) ?_
  refine ro_val (d := (some 5)) rfl (.free rfl) rfl (q_assign (v := .int .i64 ((0 : Int))) rfl rfl) ?_
  refine ro_nil ?_
  refine wp_seq ?_
  refine wp_block ?_
  refine wp_seq ?_
  refine wp_text [0, 1, 2, 3, 4, 5, 6] rfl ?_
  refine ro_val (d := (some 8)) rfl (.free rfl) rfl (q_move (v := .int .i64 (at_2)) rfl rfl) ?_
  refine ro_val (d := (some 9)) rfl (.free rfl) rfl (q_lss (a := at_2) (b := (0 : Int)) rfl rfl rfl) ?_
  refine ro_val (d := (some 10)) rfl (.free rfl) rfl (q_move (v := .bool ((decide (at_2 < (0 : Int))))) rfl rfl) ?_
  refine ro_gval (g := (!(decide (at_2 < (0 : Int))))) (d := (some 11)) rfl (.no 2 10 true (decide (at_2 < (0 : Int))) rfl rfl rfl rfl) rfl (fun hg => q_move (v := .int .i64 (at_2)) rfl rfl) ?_
  refine ro_gval (g := (!(decide (at_2 < (0 : Int))))) (d := (some 12)) rfl (.no 2 10 true (decide (at_2 < (0 : Int))) rfl rfl rfl rfl) rfl (fun hg => q_gtr (a := at_2) (b := (1125899906842624 : Int)) rfl (gvb_yes hg) rfl) ?_
  refine ro_val (d := (some 13)) rfl (.free rfl) rfl (q_pickGF (a := (decide (at_2 < (0 : Int)))) (c := (decide (at_2 > (1125899906842624 : Int)))) rfl rfl rfl rfl) ?_
  refine ro_val (d := (some 7)) rfl (.free rfl) rfl (q_assign (v := .bool (((decide (at_2 < (0 : Int))) || (decide (at_2 > (1125899906842624 : Int)))))) rfl rfl) ?_
  refine ro_nil ?_
  refine wp_if (b := ((decide (at_2 < (0 : Int))) || (decide (at_2 > (1125899906842624 : Int))))) rfl h (fun hb22 h => ?_) (fun hb22 h => ?_)
  · refine wp_seq ?_
    refine wp_text [0, 1, 2] rfl ?_
    refine ro_val (d := (some 14)) rfl (.free rfl) rfl (q_build36_  rfl ) ?_
    obtain ⟨w5, hw5, hrw5, h⟩ := st_open h
    refine ro_skip (d := none) rfl (.free rfl) rfl (q_store (T := T35) (u := (⟨(0 : Int), (0 : Int)⟩ : S35)) (a := a3) rfl ok36 rfl rfl hrw5 hw5) ?_
    refine ro_val (d := (some 5)) rfl (.free rfl) rfl (q_assign (v := .int .i64 ((110 : Int))) rfl rfl) ?_
    refine ro_nil ?_
    refine wp_ret ?_
    obtain ⟨x6, hx6, h⟩ := h
    exact ret_ok rfl (.cons (.cell (T := T35) (u := x6) (a := a3) ok36 rfl hx6) (.cons (.tmp (v := .int .i64 ((110 : Int))) rfl) .nil)) ⟨(x6, (110 : Int)), rfl, h⟩
  · refine wp_seq ?_
    refine wp_text [0, 1, 2, 3, 4, 5, 6] rfl ?_
    refine ro_val (d := (some 16)) rfl (.free rfl) rfl (q_move (v := .int .i64 (at_2)) rfl rfl) ?_
    refine ro_val (d := (some 17)) rfl (.free rfl) rfl (q_move (v := .pointer (c_1)) rfl rfl) ?_
    obtain ⟨a7, ha7, h⟩ := h
    refine ro_val (d := (some 18)) rfl (.free rfl) rfl (q_nilCheck (a := a7) rfl (congrArg Value.pointer ha7)) ?_
    refine ro_val (d := (some 19)) rfl (.free rfl) rfl (q_fieldAddr (a := a7) (off := 1) rfl Try.underlying94 rfl rfl ok2 (by decide) rfl) ?_
    obtain ⟨x8, hx8, h⟩ := h
    refine ro_val (d := (some 20)) rfl (.free rfl) rfl (q_load (T := (tInt .i64)) (u := x8) (a := (a7.add 1)) rfl ok2 rfl hx8) ?_
    refine ro_val (d := (some 21)) rfl (.free rfl) rfl (q_lss (a := at_2) (b := x8) rfl rfl rfl) ?_
    refine ro_val (d := (some 15)) rfl (.free rfl) rfl (q_assign (v := .bool ((decide (at_2 < x8)))) rfl rfl) ?_
    refine ro_nil ?_
    refine wp_if (b := (decide (at_2 < x8))) rfl h (fun hb21 h => ?_) (fun hb21 h => ?_)
    · refine wp_seq ?_
      refine wp_text [0, 1, 2] rfl ?_
      refine ro_val (d := (some 22)) rfl (.free rfl) rfl (q_build36_  rfl ) ?_
      obtain ⟨w9, hw9, hrw9, h⟩ := st_open h
      refine ro_skip (d := none) rfl (.free rfl) rfl (q_store (T := T35) (u := (⟨(0 : Int), (0 : Int)⟩ : S35)) (a := a3) rfl ok36 rfl rfl hrw9 hw9) ?_
      refine ro_val (d := (some 5)) rfl (.free rfl) rfl (q_assign (v := .int .i64 ((113 : Int))) rfl rfl) ?_
      refine ro_nil ?_
      refine wp_ret ?_
      obtain ⟨x10, hx10, h⟩ := h
      exact ret_ok rfl (.cons (.cell (T := T35) (u := x10) (a := a3) ok36 rfl hx10) (.cons (.tmp (v := .int .i64 ((113 : Int))) rfl) .nil)) ⟨(x10, (113 : Int)), rfl, h⟩
    · refine wp_skip ?_
      refine wp_seq ?_
      refine wp_text [0, 1, 2, 3] rfl ?_
      refine ro_val (d := (some 23)) rfl (.free rfl) rfl (q_move (v := .pointer (c_1)) rfl rfl) ?_
      refine ro_val (d := (some 24)) rfl (.free rfl) rfl (q_move (v := .int .i64 (at_2)) rfl rfl) ?_
      refine ro_wp rfl (.free rfl) (wp_cl (d := (some 25)) rfl (q_call (k := 50) (l := [.pointer (c_1), .int .i64 (at_2)]) rfl ent50 rfl) h ?_)
      intro r12 w11 h
      refine ro_val (d := (some 6)) rfl (.free rfl) rfl (q_assign (v := .int .i64 (r12)) rfl rfl) ?_
      refine ro_nil ?_
      refine wp_seq ?_
      refine wp_seq ?_
      refine wp_text [0, 1] rfl ?_
      refine ro_val (d := (some 26)) rfl (.free rfl) rfl (q_move (v := .int .i64 (r12)) rfl rfl) ?_
      refine ro_val (d := (some 27)) rfl (.free rfl) rfl (q_eql (a := r12) (b := (0 : Int)) rfl rfl rfl) ?_
      refine ro_nil ?_
      refine wp_if (b := (r12 == (0 : Int))) rfl h (fun hb20 h => ?_) (fun hb20 h => ?_)
      · refine wp_seq ?_
        refine wp_text [0, 1, 2] rfl ?_
        refine ro_val (d := (some 28)) rfl (.free rfl) rfl (q_build36_  rfl ) ?_
        obtain ⟨w13, hw13, hrw13, h⟩ := st_open h
        refine ro_skip (d := none) rfl (.free rfl) rfl (q_store (T := T35) (u := (⟨(0 : Int), (0 : Int)⟩ : S35)) (a := a3) rfl ok36 rfl rfl hrw13 hw13) ?_
        refine ro_val (d := (some 5)) rfl (.free rfl) rfl (q_assign (v := .int .i64 ((114 : Int))) rfl rfl) ?_
        refine ro_nil ?_
        refine wp_ret ?_
        obtain ⟨x14, hx14, h⟩ := h
        exact ret_ok rfl (.cons (.cell (T := T35) (u := x14) (a := a3) ok36 rfl hx14) (.cons (.tmp (v := .int .i64 ((114 : Int))) rfl) .nil)) ⟨(x14, (114 : Int)), rfl, h⟩
      · refine wp_skip ?_
        refine wp_seq ?_
        refine wp_text [0, 1, 2, 3, 4, 5, 6, 7, 8, 9] rfl ?_
        refine ro_val (d := (some 29)) rfl (.free rfl) rfl (q_move (v := .pointer (c_1)) rfl rfl) ?_
        refine ro_val (d := (some 30)) rfl (.free rfl) rfl (q_nilCheck (a := a7) rfl (congrArg Value.pointer ha7)) ?_
        refine ro_val (d := (some 31)) rfl (.free rfl) rfl (q_fieldAddr (a := a7) (off := 0) rfl Try.underlying94 rfl rfl ok77 (by decide) rfl) ?_
        obtain ⟨x15, hx15, h⟩ := h
        refine ro_val (d := (some 32)) rfl (.free rfl) rfl (q_load (T := tSlc) (u := x15) (a := (a7.add 0)) rfl ok77 rfl hx15) ?_
        refine ro_val (d := (some 33)) rfl (.free rfl) rfl (q_move (v := .int .i64 (r12)) rfl rfl) ?_
        refine ro_val (d := (some 34)) rfl (.free rfl) rfl (q_sub (a := r12) (b := (1 : Int)) rfl rfl rfl) ?_
        obtain ⟨a16, ha16, h⟩ := h
        refine ro_val (d := (some 35)) rfl (.free rfl) rfl (q_indexAddr (s := x15) (i := (IntKind.i64.wrap (r12 - (1 : Int)))) rfl Try.underlying77 ok36 rfl rfl ha16) ?_
        obtain ⟨x17, hx17, h⟩ := h
        refine ro_val (d := (some 36)) rfl (.free rfl) rfl (q_load (T := T35) (u := x17) (a := a16) rfl ok36 rfl hx17) ?_
        obtain ⟨w18, hw18, hrw18, h⟩ := st_open h
        refine ro_skip (d := none) rfl (.free rfl) rfl (q_store (T := T35) (u := x17) (a := a3) rfl ok36 rfl rfl hrw18 hw18) ?_
        refine ro_val (d := (some 5)) rfl (.free rfl) rfl (q_assign (v := .int .i64 ((0 : Int))) rfl rfl) ?_
        refine ro_nil ?_
        refine wp_ret ?_
        obtain ⟨x19, hx19, h⟩ := h
        exact ret_ok rfl (.cons (.cell (T := T35) (u := x19) (a := a3) ok36 rfl hx19) (.cons (.tmp (v := .int .i64 ((0 : Int))) rfl) .nil)) ⟨(x19, (0 : Int)), rfl, h⟩

end Go.Proofs.Ytdgdkbfigndndaa.Cf
