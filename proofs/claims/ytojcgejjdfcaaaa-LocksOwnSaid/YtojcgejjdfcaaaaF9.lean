/- Characteristic formulae of Go functions, and that they are. Printed by gen.py (own tool). -/
import Derived.Test.YtojcgejjdfcaaaaTy
namespace Go.Proofs.Ytojcgejjdfcaaaa.Cf
open Go
set_option maxRecDepth 100000
set_option maxHeartbeats 1000000
set_option linter.unusedVariables false
set_option linter.unusedSimpArgs false

-- moiety/moietyref13.Ints
def F13_l1 (a_1 : Slc) (b_2 : Slc) (i_3 : Int) (w4 : World) (K5 : Int → World → Prop) (R : Bool → World → Prop) : Prop :=
  if (decide (i_3 < (a_1.len : Int))) = true then (
    dr w4 fun w6 =>
    ex (IxA a_1 1 i_3) fun a7 =>
    ex (IxA b_2 1 i_3) fun a8 =>
    ex (RdAt (tInt .i64) a7 w6) fun x9 =>
    ex (RdAt (tInt .i64) a8 w6) fun x10 =>
    if (x9 != x10) = true then (
      R false w6
    ) else (
      K5 ((IntKind.i64.wrap (i_3 + (1 : Int)))) w6
    )
  ) else (
    R true w4
  )
def F13 (a_1 : Slc) (b_2 : Slc) (w : World) (R : Bool → World → Prop) : Prop :=
  if ((a_1.len : Int) != (b_2.len : Int)) = true then (
    R false w
  ) else (
    lp (fun (s : Int) w K => F13_l1 a_1 b_2 s w K R) ((0 : Int)) w
  )
theorem F13_ok {a_1 : Slc} {b_2 : Slc} {w : World} {R : Bool → World → Prop} (h : F13 a_1 b_2 w R) : cl Try.prog 13 [tSlc.enc (a_1), tSlc.enc (b_2)] tBool w R := by
  unfold F13 at h
  refine calls_start 26 Try.func13 rfl rfl (Nat.le_of_ble_eq_true rfl) ?_
  refine wp_seq ?_
  refine wp_text [0] rfl ?_
  refine ro_val (d := (some 4)) rfl (.free rfl) rfl (q_assign (v := .bool (false)) rfl rfl) ?_
  refine ro_nil ?_
  refine wp_seq ?_
  refine wp_seq ?_
  refine wp_text [0, 1, 2, 3, 4] rfl ?_
  refine ro_val (d := (some 6)) rfl (.free rfl) rfl (q_move (v := tSlc.enc (a_1)) rfl rfl) ?_
  refine ro_val (d := (some 7)) rfl (.free rfl) rfl (q_len (s := a_1) rfl Try.underlying26 rfl) ?_
  refine ro_val (d := (some 8)) rfl (.free rfl) rfl (q_move (v := tSlc.enc (b_2)) rfl rfl) ?_
  refine ro_val (d := (some 9)) rfl (.free rfl) rfl (q_len (s := b_2) rfl Try.underlying26 rfl) ?_
  refine ro_val (d := (some 10)) rfl (.free rfl) rfl (q_neq (a := (a_1.len : Int)) (b := (b_2.len : Int)) rfl rfl rfl) ?_
  refine ro_nil ?_
  refine wp_if (b := ((a_1.len : Int) != (b_2.len : Int))) rfl h (fun hb13 h => ?_) (fun hb13 h => ?_)
  · refine wp_seq ?_
    refine wp_text [0] rfl ?_
    refine ro_val (d := (some 4)) rfl (.free rfl) rfl (q_assign (v := .bool (false)) rfl rfl) ?_
    refine ro_nil ?_
    refine wp_ret ?_
    exact ret_ok rfl (.cons (.tmp (v := .bool (false)) rfl) .nil) ⟨false, rfl, h⟩
  · refine wp_skip ?_
    refine wp_seq ?_
    refine wp_seq ?_
    refine wp_text [0] rfl ?_
    refine ro_val (d := (some 5)) rfl (.free rfl) rfl (q_assign (v := .int .i64 ((0 : Int))) rfl rfl) ?_
    refine ro_nil ?_
    refine wp_block ?_
    refine loop_at (σ := Int) (fr := fun g (s : Int) => upd (upd (upd (g) 0 (tSlc.enc (a_1))) 1 (tSlc.enc (b_2))) 5 (.int .i64 (s))) (s0 := ((0 : Int))) (upd_step (upd_step (upd_step rfl rfl) rfl) rfl) h ?_
    rintro i_3 g w4 K5 h
    unfold F13_l1 at h
    refine wp_seq ?_
    refine wp_seq ?_
    refine wp_text [0, 1, 2, 3] rfl ?_
    refine ro_val (d := (some 11)) rfl (.free rfl) rfl (q_move (v := .int .i64 (i_3)) rfl rfl) ?_
    refine ro_val (d := (some 12)) rfl (.free rfl) rfl (q_move (v := tSlc.enc (a_1)) rfl rfl) ?_
    refine ro_val (d := (some 13)) rfl (.free rfl) rfl (q_len (s := a_1) rfl Try.underlying26 rfl) ?_
    refine ro_val (d := (some 14)) rfl (.free rfl) rfl (q_lss (a := i_3) (b := (a_1.len : Int)) rfl rfl rfl) ?_
    refine ro_nil ?_
    refine wp_if (b := (decide (i_3 < (a_1.len : Int)))) rfl h (fun hb12 h => ?_) (fun hb12 h => ?_)
    · refine wp_skip ?_
      refine wp_seq ?_
      refine wp_block ?_
      refine wp_seq ?_
      obtain ⟨w6, hw6, h⟩ := dr_open h
      refine wp_drawn 9 mixed rfl (by kernel_rfl) (by intro c a d v w h; cases d <;> exact h) hw6 (fun hD => ?_)
      refine rd_pure (i := 0) (d := (some 17)) hD (by kernel_rfl) (by kernel_rfl) rfl (.free rfl) rfl (fun _ => q_move (v := tSlc.enc (a_1)) rfl rfl) ?_
      refine rd_pure (i := 1) (d := (some 18)) hD (by kernel_rfl) (by kernel_rfl) rfl (.free rfl) rfl (fun _ => q_move (v := .int .i64 (i_3)) rfl rfl) ?_
      obtain ⟨a7, ha7, h⟩ := h
      refine rd_pure (i := 2) (d := (some 19)) hD (by kernel_rfl) (by kernel_rfl) rfl (.free rfl) rfl (fun _ => q_indexAddr (s := a_1) (i := i_3) rfl Try.underlying26 ok3 rfl rfl ha7) ?_
      refine rd_pure (i := 4) (d := (some 21)) hD (by kernel_rfl) (by kernel_rfl) rfl (.free rfl) rfl (fun _ => q_move (v := tSlc.enc (b_2)) rfl rfl) ?_
      refine rd_pure (i := 5) (d := (some 22)) hD (by kernel_rfl) (by kernel_rfl) rfl (.free rfl) rfl (fun _ => q_move (v := .int .i64 (i_3)) rfl rfl) ?_
      obtain ⟨a8, ha8, h⟩ := h
      refine rd_pure (i := 6) (d := (some 23)) hD (by kernel_rfl) (by kernel_rfl) rfl (.free rfl) rfl (fun _ => q_indexAddr (s := b_2) (i := i_3) rfl Try.underlying26 ok3 rfl rfl ha8) ?_
      obtain ⟨x9, hx9, h⟩ := h
      refine rd_read (i := 3) (d := (some 20)) (fun W => (RdAt (tInt .i64) a7 W) x9) hD (by kernel_rfl) (by kernel_rfl) rfl (.free rfl) rfl (fun W hr => q_load (T := (tInt .i64)) (u := x9) (a := a7) rfl ok3 rfl hr) hx9 ?_
      obtain ⟨x10, hx10, h⟩ := h
      refine rd_read (i := 7) (d := (some 24)) (fun W => (RdAt (tInt .i64) a8 W) x10) hD (by kernel_rfl) (by kernel_rfl) rfl (.free rfl) rfl (fun W hr => q_load (T := (tInt .i64)) (u := x10) (a := a8) rfl ok3 rfl hr) hx10 ?_
      refine rd_pure (i := 8) (d := (some 25)) hD (by kernel_rfl) (by kernel_rfl) rfl (.free rfl) rfl (fun _ => q_neq (a := x9) (b := x10) rfl rfl rfl) ?_
      refine rd_nil (by kernel_rfl) ?_
      refine wp_if (b := (x9 != x10)) rfl h (fun hb11 h => ?_) (fun hb11 h => ?_)
      · refine wp_seq ?_
        refine wp_text [0] rfl ?_
        refine ro_val (d := (some 4)) rfl (.free rfl) rfl (q_assign (v := .bool (false)) rfl rfl) ?_
        refine ro_nil ?_
        refine wp_ret ?_
        exact ret_ok rfl (.cons (.tmp (v := .bool (false)) rfl) .nil) ⟨false, rfl, h⟩
      · refine wp_skip ?_
        refine wp_text [0, 1, 2] rfl ?_
        refine ro_val (d := (some 15)) rfl (.free rfl) rfl (q_move (v := .int .i64 (i_3)) rfl rfl) ?_
        refine ro_val (d := (some 16)) rfl (.free rfl) rfl (q_add (a := i_3) (b := (1 : Int)) rfl rfl rfl) ?_
        refine ro_val (d := (some 5)) rfl (.free rfl) rfl (q_assign (v := .int .i64 ((IntKind.i64.wrap (i_3 + (1 : Int))))) rfl rfl) ?_
        refine ro_nil ?_
        exact ⟨((IntKind.i64.wrap (i_3 + (1 : Int)))), _, arr (upd_step (upd_step (upd_step rfl rfl) rfl) rfl), h⟩
    · refine wp_exit ?_
      refine wp_seq ?_
      refine wp_text [0] rfl ?_
      refine ro_val (d := (some 4)) rfl (.free rfl) rfl (q_assign (v := .bool (true)) rfl rfl) ?_
      refine ro_nil ?_
      refine wp_ret ?_
      exact ret_ok rfl (.cons (.tmp (v := .bool (true)) rfl) .nil) ⟨true, rfl, h⟩

-- moiety/moietyref13.Grants
def F14_l1 (a_1 : Slc) (b_2 : Slc) (i_3 : Int) (w4 : World) (K5 : Int → World → Prop) (R : Bool → World → Prop) : Prop :=
  if (decide (i_3 < (a_1.len : Int))) = true then (
    dr w4 fun w6 =>
    ex (IxA a_1 2 i_3) fun a7 =>
    ex (IxA b_2 2 i_3) fun a8 =>
    ex (RdAt (tInt .i64) (a7.add 0) w6) fun x9 =>
    ex (RdAt (tInt .i64) (a8.add 0) w6) fun x10 =>
    ex (fun x => (!(x9 != x10)) = true → (IxA a_1 2 i_3) x) fun a11 =>
    ex (fun x => (!(x9 != x10)) = true → (IxA b_2 2 i_3) x) fun a12 =>
    ex (fun x => (!(x9 != x10)) = true → (RdAt (tInt .i64) (a11.add 1) w6) x) fun x13 =>
    ex (fun x => (!(x9 != x10)) = true → (RdAt (tInt .i64) (a12.add 1) w6) x) fun x14 =>
    if ((x9 != x10) || (x13 != x14)) = true then (
      R false w6
    ) else (
      K5 ((IntKind.i64.wrap (i_3 + (1 : Int)))) w6
    )
  ) else (
    R true w4
  )
def F14 (a_1 : Slc) (b_2 : Slc) (w : World) (R : Bool → World → Prop) : Prop :=
  if ((a_1.len : Int) != (b_2.len : Int)) = true then (
    R false w
  ) else (
    lp (fun (s : Int) w K => F14_l1 a_1 b_2 s w K R) ((0 : Int)) w
  )
theorem F14_ok {a_1 : Slc} {b_2 : Slc} {w : World} {R : Bool → World → Prop} (h : F14 a_1 b_2 w R) : cl Try.prog 14 [tSlc.enc (a_1), tSlc.enc (b_2)] tBool w R := by
  unfold F14 at h
  refine calls_start 41 Try.func14 rfl rfl (Nat.le_of_ble_eq_true rfl) ?_
  refine wp_seq ?_
  refine wp_text [0] rfl ?_
  refine ro_val (d := (some 4)) rfl (.free rfl) rfl (q_assign (v := .bool (false)) rfl rfl) ?_
  refine ro_nil ?_
  refine wp_seq ?_
  refine wp_seq ?_
  refine wp_text [0, 1, 2, 3, 4] rfl ?_
  refine ro_val (d := (some 6)) rfl (.free rfl) rfl (q_move (v := tSlc.enc (a_1)) rfl rfl) ?_
  refine ro_val (d := (some 7)) rfl (.free rfl) rfl (q_len (s := a_1) rfl Try.underlying32 rfl) ?_
  refine ro_val (d := (some 8)) rfl (.free rfl) rfl (q_move (v := tSlc.enc (b_2)) rfl rfl) ?_
  refine ro_val (d := (some 9)) rfl (.free rfl) rfl (q_len (s := b_2) rfl Try.underlying32 rfl) ?_
  refine ro_val (d := (some 10)) rfl (.free rfl) rfl (q_neq (a := (a_1.len : Int)) (b := (b_2.len : Int)) rfl rfl rfl) ?_
  refine ro_nil ?_
  refine wp_if (b := ((a_1.len : Int) != (b_2.len : Int))) rfl h (fun hb17 h => ?_) (fun hb17 h => ?_)
  · refine wp_seq ?_
    refine wp_text [0] rfl ?_
    refine ro_val (d := (some 4)) rfl (.free rfl) rfl (q_assign (v := .bool (false)) rfl rfl) ?_
    refine ro_nil ?_
    refine wp_ret ?_
    exact ret_ok rfl (.cons (.tmp (v := .bool (false)) rfl) .nil) ⟨false, rfl, h⟩
  · refine wp_skip ?_
    refine wp_seq ?_
    refine wp_seq ?_
    refine wp_text [0] rfl ?_
    refine ro_val (d := (some 5)) rfl (.free rfl) rfl (q_assign (v := .int .i64 ((0 : Int))) rfl rfl) ?_
    refine ro_nil ?_
    refine wp_block ?_
    refine loop_at (σ := Int) (fr := fun g (s : Int) => upd (upd (upd (g) 0 (tSlc.enc (a_1))) 1 (tSlc.enc (b_2))) 5 (.int .i64 (s))) (s0 := ((0 : Int))) (upd_step (upd_step (upd_step rfl rfl) rfl) rfl) h ?_
    rintro i_3 g w4 K5 h
    unfold F14_l1 at h
    refine wp_seq ?_
    refine wp_seq ?_
    refine wp_text [0, 1, 2, 3] rfl ?_
    refine ro_val (d := (some 11)) rfl (.free rfl) rfl (q_move (v := .int .i64 (i_3)) rfl rfl) ?_
    refine ro_val (d := (some 12)) rfl (.free rfl) rfl (q_move (v := tSlc.enc (a_1)) rfl rfl) ?_
    refine ro_val (d := (some 13)) rfl (.free rfl) rfl (q_len (s := a_1) rfl Try.underlying32 rfl) ?_
    refine ro_val (d := (some 14)) rfl (.free rfl) rfl (q_lss (a := i_3) (b := (a_1.len : Int)) rfl rfl rfl) ?_
    refine ro_nil ?_
    refine wp_if (b := (decide (i_3 < (a_1.len : Int)))) rfl h (fun hb16 h => ?_) (fun hb16 h => ?_)
    · refine wp_skip ?_
      refine wp_seq ?_
      refine wp_block ?_
      refine wp_seq ?_
      obtain ⟨w6, hw6, h⟩ := dr_open h
      refine wp_drawn 24 mixed rfl (by kernel_rfl) (by intro c a d v w h; cases d <;> exact h) hw6 (fun hD => ?_)
      refine rd_pure (i := 0) (d := (some 17)) hD (by kernel_rfl) (by kernel_rfl) rfl (.free rfl) rfl (fun _ => q_move (v := tSlc.enc (a_1)) rfl rfl) ?_
      refine rd_pure (i := 1) (d := (some 18)) hD (by kernel_rfl) (by kernel_rfl) rfl (.free rfl) rfl (fun _ => q_move (v := .int .i64 (i_3)) rfl rfl) ?_
      obtain ⟨a7, ha7, h⟩ := h
      refine rd_pure (i := 2) (d := (some 19)) hD (by kernel_rfl) (by kernel_rfl) rfl (.free rfl) rfl (fun _ => q_indexAddr (s := a_1) (i := i_3) rfl Try.underlying32 ok56 rfl rfl ha7) ?_
      refine rd_pure (i := 3) (d := (some 20)) hD (by kernel_rfl) (by kernel_rfl) rfl (.free rfl) rfl (fun _ => q_fieldAddr (a := a7) (off := 0) rfl Try.underlying56 rfl rfl ok3 (by decide) rfl) ?_
      refine rd_pure (i := 5) (d := (some 22)) hD (by kernel_rfl) (by kernel_rfl) rfl (.free rfl) rfl (fun _ => q_move (v := tSlc.enc (b_2)) rfl rfl) ?_
      refine rd_pure (i := 6) (d := (some 23)) hD (by kernel_rfl) (by kernel_rfl) rfl (.free rfl) rfl (fun _ => q_move (v := .int .i64 (i_3)) rfl rfl) ?_
      obtain ⟨a8, ha8, h⟩ := h
      refine rd_pure (i := 7) (d := (some 24)) hD (by kernel_rfl) (by kernel_rfl) rfl (.free rfl) rfl (fun _ => q_indexAddr (s := b_2) (i := i_3) rfl Try.underlying32 ok56 rfl rfl ha8) ?_
      refine rd_pure (i := 8) (d := (some 25)) hD (by kernel_rfl) (by kernel_rfl) rfl (.free rfl) rfl (fun _ => q_fieldAddr (a := a8) (off := 0) rfl Try.underlying56 rfl rfl ok3 (by decide) rfl) ?_
      obtain ⟨x9, hx9, h⟩ := h
      refine rd_read (i := 4) (d := (some 21)) (fun W => (RdAt (tInt .i64) (a7.add 0) W) x9) hD (by kernel_rfl) (by kernel_rfl) rfl (.free rfl) rfl (fun W hr => q_load (T := (tInt .i64)) (u := x9) (a := (a7.add 0)) rfl ok3 rfl hr) hx9 ?_
      obtain ⟨x10, hx10, h⟩ := h
      refine rd_read (i := 9) (d := (some 26)) (fun W => (RdAt (tInt .i64) (a8.add 0) W) x10) hD (by kernel_rfl) (by kernel_rfl) rfl (.free rfl) rfl (fun W hr => q_load (T := (tInt .i64)) (u := x10) (a := (a8.add 0)) rfl ok3 rfl hr) hx10 ?_
      refine rd_pure (i := 10) (d := (some 27)) hD (by kernel_rfl) (by kernel_rfl) rfl (.free rfl) rfl (fun _ => q_neq (a := x9) (b := x10) rfl rfl rfl) ?_
      refine rd_pure (i := 11) (d := (some 28)) hD (by kernel_rfl) (by kernel_rfl) rfl (.free rfl) rfl (fun _ => q_move (v := .bool ((x9 != x10))) rfl rfl) ?_
      refine rd_gpure (i := 12) (g := (!(x9 != x10))) (d := (some 29)) hD (by kernel_rfl) (by kernel_rfl) rfl (.no 11 28 true (x9 != x10) rfl rfl rfl rfl) rfl (fun hg _ => q_move (v := tSlc.enc (a_1)) rfl rfl) ?_
      refine rd_gpure (i := 13) (g := (!(x9 != x10))) (d := (some 30)) hD (by kernel_rfl) (by kernel_rfl) rfl (.no 11 28 true (x9 != x10) rfl rfl rfl rfl) rfl (fun hg _ => q_move (v := .int .i64 (i_3)) rfl rfl) ?_
      obtain ⟨a11, ha11, h⟩ := h
      refine rd_gpure (i := 14) (g := (!(x9 != x10))) (d := (some 31)) hD (by kernel_rfl) (by kernel_rfl) rfl (.no 11 28 true (x9 != x10) rfl rfl rfl rfl) rfl (fun hg _ => q_indexAddr (s := a_1) (i := i_3) rfl Try.underlying32 ok56 (gvb_yes hg) (gvb_yes hg) (ha11 hg)) ?_
      refine rd_gpure (i := 15) (g := (!(x9 != x10))) (d := (some 32)) hD (by kernel_rfl) (by kernel_rfl) rfl (.no 11 28 true (x9 != x10) rfl rfl rfl rfl) rfl (fun hg _ => q_fieldAddr (a := a11) (off := 1) rfl Try.underlying56 rfl rfl ok3 (by decide) (gvb_yes hg)) ?_
      refine rd_gpure (i := 17) (g := (!(x9 != x10))) (d := (some 34)) hD (by kernel_rfl) (by kernel_rfl) rfl (.no 11 28 true (x9 != x10) rfl rfl rfl rfl) rfl (fun hg _ => q_move (v := tSlc.enc (b_2)) rfl rfl) ?_
      refine rd_gpure (i := 18) (g := (!(x9 != x10))) (d := (some 35)) hD (by kernel_rfl) (by kernel_rfl) rfl (.no 11 28 true (x9 != x10) rfl rfl rfl rfl) rfl (fun hg _ => q_move (v := .int .i64 (i_3)) rfl rfl) ?_
      obtain ⟨a12, ha12, h⟩ := h
      refine rd_gpure (i := 19) (g := (!(x9 != x10))) (d := (some 36)) hD (by kernel_rfl) (by kernel_rfl) rfl (.no 11 28 true (x9 != x10) rfl rfl rfl rfl) rfl (fun hg _ => q_indexAddr (s := b_2) (i := i_3) rfl Try.underlying32 ok56 (gvb_yes hg) (gvb_yes hg) (ha12 hg)) ?_
      refine rd_gpure (i := 20) (g := (!(x9 != x10))) (d := (some 37)) hD (by kernel_rfl) (by kernel_rfl) rfl (.no 11 28 true (x9 != x10) rfl rfl rfl rfl) rfl (fun hg _ => q_fieldAddr (a := a12) (off := 1) rfl Try.underlying56 rfl rfl ok3 (by decide) (gvb_yes hg)) ?_
      obtain ⟨x13, hx13, h⟩ := h
      refine rd_gread (i := 16) (g := (!(x9 != x10))) (d := (some 33)) (fun W => (RdAt (tInt .i64) (a11.add 1) W) x13) hD (by kernel_rfl) (by kernel_rfl) rfl (.no 11 28 true (x9 != x10) rfl rfl rfl rfl) rfl (fun hg W hr => q_load (T := (tInt .i64)) (u := x13) (a := (a11.add 1)) rfl ok3 (gvb_yes hg) hr) hx13 ?_
      obtain ⟨x14, hx14, h⟩ := h
      refine rd_gread (i := 21) (g := (!(x9 != x10))) (d := (some 38)) (fun W => (RdAt (tInt .i64) (a12.add 1) W) x14) hD (by kernel_rfl) (by kernel_rfl) rfl (.no 11 28 true (x9 != x10) rfl rfl rfl rfl) rfl (fun hg W hr => q_load (T := (tInt .i64)) (u := x14) (a := (a12.add 1)) rfl ok3 (gvb_yes hg) hr) hx14 ?_
      refine rd_gpure (i := 22) (g := (!(x9 != x10))) (d := (some 39)) hD (by kernel_rfl) (by kernel_rfl) rfl (.no 11 28 true (x9 != x10) rfl rfl rfl rfl) rfl (fun hg _ => q_neq (a := x13) (b := x14) rfl (gvb_yes hg) (gvb_yes hg)) ?_
      refine rd_pure (i := 23) (d := (some 40)) hD (by kernel_rfl) (by kernel_rfl) rfl (.free rfl) rfl (fun _ => q_pickGF (a := (x9 != x10)) (c := (x13 != x14)) rfl rfl rfl rfl) ?_
      refine rd_nil (by kernel_rfl) ?_
      refine wp_if (b := ((x9 != x10) || (x13 != x14))) rfl h (fun hb15 h => ?_) (fun hb15 h => ?_)
      · refine wp_seq ?_
        refine wp_text [0] rfl ?_
        refine ro_val (d := (some 4)) rfl (.free rfl) rfl (q_assign (v := .bool (false)) rfl rfl) ?_
        refine ro_nil ?_
        refine wp_ret ?_
        exact ret_ok rfl (.cons (.tmp (v := .bool (false)) rfl) .nil) ⟨false, rfl, h⟩
      · refine wp_skip ?_
        refine wp_text [0, 1, 2] rfl ?_
        refine ro_val (d := (some 15)) rfl (.free rfl) rfl (q_move (v := .int .i64 (i_3)) rfl rfl) ?_
        refine ro_val (d := (some 16)) rfl (.free rfl) rfl (q_add (a := i_3) (b := (1 : Int)) rfl rfl rfl) ?_
        refine ro_val (d := (some 5)) rfl (.free rfl) rfl (q_assign (v := .int .i64 ((IntKind.i64.wrap (i_3 + (1 : Int))))) rfl rfl) ?_
        refine ro_nil ?_
        exact ⟨((IntKind.i64.wrap (i_3 + (1 : Int)))), _, arr (upd_step (upd_step (upd_step rfl rfl) rfl) rfl), h⟩
    · refine wp_exit ?_
      refine wp_seq ?_
      refine wp_text [0] rfl ?_
      refine ro_val (d := (some 4)) rfl (.free rfl) rfl (q_assign (v := .bool (true)) rfl rfl) ?_
      refine ro_nil ?_
      refine wp_ret ?_
      exact ret_ok rfl (.cons (.tmp (v := .bool (true)) rfl) .nil) ⟨true, rfl, h⟩

-- (*moiety/locks.Table).End
def F15 (t_1 : (Option Addr)) (tx_2 : Int) (w : World) (R : (Slc × Int) → World → Prop) : Prop :=
  if (decide (tx_2 < (1 : Int))) = true then (
    R ((⟨none, 0, 0⟩ : Slc), (130 : Int)) w
  ) else (
    cl Try.prog 28 [.pointer (t_1), .int .i64 (tx_2)] tUnit w fun r4 w3 =>
    ex (NC t_1) fun a5 =>
    ex (RdAt tMap (a5.add 2) w3) fun x6 =>
    mdel T77 .i64 x6 tx_2 w3 fun w7 =>
    cl Try.prog 29 [.pointer (t_1)] tSlc w7 fun r9 w8 =>
    R (r9, (0 : Int)) w8
  )
theorem F15_ok {t_1 : (Option Addr)} {tx_2 : Int} {w : World} {R : (Slc × Int) → World → Prop} (h : F15 t_1 tx_2 w R) : cl Try.prog 15 [.pointer (t_1), .int .i64 (tx_2)] (tTup2 tSlc (tInt .i64)) w R := by
  unfold F15 at h
  refine calls_start 18 Try.func15 rfl rfl (Nat.le_of_ble_eq_true rfl) ?_
  refine wp_seq ?_
  refine wp_text [0, 1] rfl ?_
  refine ro_val (d := (some 4)) rfl (.free rfl) rfl (q_assign (v := tSlc.enc ((⟨none, 0, 0⟩ : Slc))) rfl rfl) ?_
  refine ro_val (d := (some 5)) rfl (.free rfl) rfl (q_assign (v := .int .i64 ((0 : Int))) rfl rfl) ?_
  refine ro_nil ?_
  refine wp_seq ?_
  refine wp_seq ?_
  refine wp_text [0, 1] rfl ?_
  refine ro_val (d := (some 6)) rfl (.free rfl) rfl (q_move (v := .int .i64 (tx_2)) rfl rfl) ?_
  refine ro_val (d := (some 7)) rfl (.free rfl) rfl (q_lss (a := tx_2) (b := (1 : Int)) rfl rfl rfl) ?_
  refine ro_nil ?_
  refine wp_if (b := (decide (tx_2 < (1 : Int)))) rfl h (fun hb10 h => ?_) (fun hb10 h => ?_)
  · refine wp_seq ?_
    refine wp_text [0, 1] rfl ?_
    refine ro_val (d := (some 4)) rfl (.free rfl) rfl (q_assign (v := tSlc.enc ((⟨none, 0, 0⟩ : Slc))) rfl rfl) ?_
    refine ro_val (d := (some 5)) rfl (.free rfl) rfl (q_assign (v := .int .i64 ((130 : Int))) rfl rfl) ?_
    refine ro_nil ?_
    refine wp_ret ?_
    exact ret_ok rfl (.cons (.tmp (v := tSlc.enc ((⟨none, 0, 0⟩ : Slc))) rfl) (.cons (.tmp (v := .int .i64 ((130 : Int))) rfl) .nil)) ⟨((⟨none, 0, 0⟩ : Slc), (130 : Int)), rfl, h⟩
  · refine wp_skip ?_
    refine wp_seq ?_
    refine wp_text [0, 1, 2] rfl ?_
    refine ro_val (d := (some 8)) rfl (.free rfl) rfl (q_move (v := .pointer (t_1)) rfl rfl) ?_
    refine ro_val (d := (some 9)) rfl (.free rfl) rfl (q_move (v := .int .i64 (tx_2)) rfl rfl) ?_
    refine ro_wp rfl (.free rfl) (wp_cl (d := (some 10)) rfl (q_call (k := 28) (l := [.pointer (t_1), .int .i64 (tx_2)]) rfl ent28 rfl) h ?_)
    intro r4 w3 h
    refine ro_nil ?_
    refine wp_seq ?_
    refine wp_text [0, 1, 2, 3, 4, 5] rfl ?_
    refine ro_val (d := (some 11)) rfl (.free rfl) rfl (q_move (v := .pointer (t_1)) rfl rfl) ?_
    obtain ⟨a5, ha5, h⟩ := h
    refine ro_val (d := (some 12)) rfl (.free rfl) rfl (q_nilCheck (a := a5) rfl (congrArg Value.pointer ha5)) ?_
    refine ro_val (d := (some 13)) rfl (.free rfl) rfl (q_fieldAddr (a := a5) (off := 2) rfl Try.underlying62 rfl rfl ok60 (by decide) rfl) ?_
    obtain ⟨x6, hx6, h⟩ := h
    refine ro_val (d := (some 14)) rfl (.free rfl) rfl (q_load (T := tMap) (u := x6) (a := (a5.add 2)) rfl ok60 rfl hx6) ?_
    refine ro_val (d := (some 15)) rfl (.free rfl) rfl (q_move (v := .int .i64 (tx_2)) rfl rfl) ?_
    refine ro_wp rfl (.free rfl) (wp_mdel (T := T77) (r := x6) (key := tx_2) (d := none) rfl rfl Try.underlying60 Try.underlying3 rfl rfl h ?_)
    intro w7 h
    refine ro_nil ?_
    refine wp_seq ?_
    refine wp_text [0, 1, 2, 3] rfl ?_
    refine ro_val (d := (some 16)) rfl (.free rfl) rfl (q_move (v := .pointer (t_1)) rfl rfl) ?_
    refine ro_wp rfl (.free rfl) (wp_cl (d := (some 17)) rfl (q_call (k := 29) (l := [.pointer (t_1)]) rfl ent29 rfl) h ?_)
    intro r9 w8 h
    refine ro_val (d := (some 4)) rfl (.free rfl) rfl (q_assign (v := tSlc.enc (r9)) rfl rfl) ?_
    refine ro_val (d := (some 5)) rfl (.free rfl) rfl (q_assign (v := .int .i64 ((0 : Int))) rfl rfl) ?_
    refine ro_nil ?_
    refine wp_ret ?_
    exact ret_ok rfl (.cons (.tmp (v := tSlc.enc (r9)) rfl) (.cons (.tmp (v := .int .i64 ((0 : Int))) rfl) .nil)) ⟨(r9, (0 : Int)), rfl, h⟩

-- moiety/moietyref13.End
def F16_j2 (i_13 : Int) (dead_17 : Slc) (w18 : World) (K15 : Slc × Int → World → Prop) (R : (S27 × Slc × Int) → World → Prop) : Prop :=
  K15 (dead_17, (IntKind.i64.wrap (i_13 + (1 : Int)))) w18
def F16_l1 (tx_2 : Int) (a3 : Addr) (a5 : Addr) (dead_12 : Slc) (i_13 : Int) (w14 : World) (K15 : Slc × Int → World → Prop) (R : (S27 × Slc × Int) → World → Prop) : Prop :=
  ex (RdAt tSlc (a3.add 2) w14) fun x16 =>
  if (decide (i_13 < (x16.len : Int))) = true then (
    ex (RdAt tSlc (a3.add 2) w14) fun x19 =>
    ex (IxA x19 1 i_13) fun a20 =>
    ex (RdAt (tInt .i64) a20 w14) fun x21 =>
    if (x21 != tx_2) = true then (
      ex (RdAt tSlc (a3.add 2) w14) fun x22 =>
      ex (IxA x22 1 i_13) fun a23 =>
      ex (RdAt (tInt .i64) a23 w14) fun x24 =>
      apl 3 (tInt .i64) 1 8 dead_12 [x24] w14 fun r28 w27 =>
      F16_j2 i_13 r28 w27 K15 R
    ) else (
      F16_j2 i_13 dead_12 w14 K15 R
    )
  ) else (
    dr w14 fun w30 =>
    ex (RdAt tSlc (a3.add 0) w30) fun x31 =>
    ex (RdAt tSlc (a3.add 1) w30) fun x32 =>
    cl Try.prog 31 [tSlc.enc (x31), .int .i64 (tx_2)] tSlc w30 fun r34 w33 =>
    kp ((RdAt tSlc (a3.add 1) w33) x32) <|
    cl Try.prog 31 [tSlc.enc (x32), .int .i64 (tx_2)] tSlc w33 fun r37 w36 =>
    kp ((RdAt tSlc (a3.add 0) w36) x31) <|
    st tSlc (a3.add 0) r34 w36 fun w39 =>
    st tSlc (a3.add 1) r37 w39 fun w40 =>
    st tSlc (a3.add 2) dead_12 w40 fun w41 =>
    ex (RdAt T27 a3 w41) fun x42 =>
    cl Try.prog 33 [T27.enc (x42)] (tTup2 T27 tSlc) w41 fun r44 w43 =>
    st T27 a3 r44.1 w43 fun w45 =>
    ex (RdAt T27 a3 w45) fun x46 =>
    st T27 a5 x46 w45 fun w47 =>
    ex (RdAt T27 a5 w47) fun x48 =>
    R (x48, r44.2, (0 : Int)) w47
  )
def F16 (t_1 : S27) (tx_2 : Int) (w : World) (R : (S27 × Slc × Int) → World → Prop) : Prop :=
  nw 28 T27 t_1 w fun a3 w4 =>
  nw 28 T27 Z27 w4 fun a5 w6 =>
  if (decide (tx_2 < (1 : Int))) = true then (
    ex (RdAt T27 a3 w6) fun x7 =>
    st T27 a5 x7 w6 fun w8 =>
    ex (RdAt T27 a5 w8) fun x9 =>
    R (x9, (⟨none, 0, 0⟩ : Slc), (130 : Int)) w8
  ) else (
    nwS 3 (tInt .i64) ([] : List Int) w6 fun a10 w11 =>
    lp (fun (s : Slc × Int) w K => F16_l1 tx_2 a3 a5 s.1 s.2 w K R) ((⟨some a10, 0, 0⟩ : Slc), (0 : Int)) w11
  )
theorem F16_ok {t_1 : S27} {tx_2 : Int} {w : World} {R : (S27 × Slc × Int) → World → Prop} (h : F16 t_1 tx_2 w R) : cl Try.prog 16 [T27.enc (t_1), .int .i64 (tx_2)] (tTup3 T27 tSlc (tInt .i64)) w R := by
  unfold F16 at h
  refine calls_start 55 Try.func16 rfl rfl (Nat.le_of_ble_eq_true rfl) ?_
  refine wp_seq ?_
  refine wp_text [0, 1, 2, 3] rfl ?_
  obtain ⟨a3, w4, ha3, hw4, h⟩ := nw_open h
  refine ro_val (d := (some 2)) rfl (.free rfl) rfl (q_box (u := t_1) rfl ok28 rfl ha3 hw4) ?_
  obtain ⟨a5, w6, ha5, hw6, h⟩ := nw_open h
  refine ro_val (d := (some 4)) rfl (.free rfl) rfl (q_alloc (u := Z27) rfl ok28 inf28 ha5 hw6) ?_
  refine ro_val (d := (some 5)) rfl (.free rfl) rfl (q_assign (v := tSlc.enc ((⟨none, 0, 0⟩ : Slc))) rfl rfl) ?_
  refine ro_val (d := (some 6)) rfl (.free rfl) rfl (q_assign (v := .int .i64 ((0 : Int))) rfl rfl) ?_
  refine ro_nil ?_
  refine wp_seq ?_
  refine wp_seq ?_
  refine wp_text [0, 1] rfl ?_
  refine ro_val (d := (some 10)) rfl (.free rfl) rfl (q_move (v := .int .i64 (tx_2)) rfl rfl) ?_
  refine ro_val (d := (some 11)) rfl (.free rfl) rfl (q_lss (a := tx_2) (b := (1 : Int)) rfl rfl rfl) ?_
  refine ro_nil ?_
  refine wp_if (b := (decide (tx_2 < (1 : Int)))) rfl h (fun hb50 h => ?_) (fun hb50 h => ?_)
  · refine wp_seq ?_
    refine wp_text [0, 1, 2, 3] rfl ?_
    obtain ⟨x7, hx7, h⟩ := h
    refine ro_val (d := (some 12)) rfl (.free rfl) rfl (q_load (T := T27) (u := x7) (a := a3) rfl ok28 rfl hx7) ?_
    obtain ⟨w8, hw8, hrw8, h⟩ := st_open h
    refine ro_skip (d := none) rfl (.free rfl) rfl (q_store (T := T27) (u := x7) (a := a5) rfl ok28 rfl rfl hrw8 hw8) ?_
    refine ro_val (d := (some 5)) rfl (.free rfl) rfl (q_assign (v := tSlc.enc ((⟨none, 0, 0⟩ : Slc))) rfl rfl) ?_
    refine ro_val (d := (some 6)) rfl (.free rfl) rfl (q_assign (v := .int .i64 ((130 : Int))) rfl rfl) ?_
    refine ro_nil ?_
    refine wp_ret ?_
    obtain ⟨x9, hx9, h⟩ := h
    exact ret_ok rfl (.cons (.cell (T := T27) (u := x9) (a := a5) ok28 rfl hx9) (.cons (.tmp (v := tSlc.enc ((⟨none, 0, 0⟩ : Slc))) rfl) (.cons (.tmp (v := .int .i64 ((130 : Int))) rfl) .nil))) ⟨(x9, (⟨none, 0, 0⟩ : Slc), (130 : Int)), rfl, h⟩
  · refine wp_skip ?_
    refine wp_seq ?_
    refine wp_text [0, 1] rfl ?_
    obtain ⟨a10, w11, ha10, hw11, h⟩ := nwS_open h
    refine ro_val (d := (some 13)) rfl (.free rfl) rfl (q_row0 (T := (tInt .i64)) rfl Try.underlying26 ok3 inf3 ha10 hw11) ?_
    refine ro_val (d := (some 7)) rfl (.free rfl) rfl (q_assign (v := tSlc.enc ((⟨some a10, 0, 0⟩ : Slc))) rfl rfl) ?_
    refine ro_nil ?_
    refine wp_seq ?_
    refine wp_seq ?_
    refine wp_text [0] rfl ?_
    refine ro_val (d := (some 8)) rfl (.free rfl) rfl (q_assign (v := .int .i64 ((0 : Int))) rfl rfl) ?_
    refine ro_nil ?_
    refine wp_block ?_
    refine loop_at (σ := Slc × Int) (fr := fun g (s : Slc × Int) => upd (upd (upd (upd (upd (g) 1 (.int .i64 (tx_2))) 2 (.pointer (some a3))) 4 (.pointer (some a5))) 7 (tSlc.enc (s.1))) 8 (.int .i64 (s.2))) (s0 := ((⟨some a10, 0, 0⟩ : Slc), (0 : Int))) (upd_step (upd_step (upd_step (upd_step (upd_step rfl rfl) rfl) rfl) rfl) rfl) h ?_
    rintro ⟨dead_12, i_13⟩ g w14 K15 h
    unfold F16_l1 at h
    refine wp_seq ?_
    refine wp_seq ?_
    refine wp_text [0, 1, 2, 3, 4] rfl ?_
    refine ro_val (d := (some 14)) rfl (.free rfl) rfl (q_move (v := .int .i64 (i_13)) rfl rfl) ?_
    refine ro_val (d := (some 15)) rfl (.free rfl) rfl (q_fieldAddr (a := a3) (off := 2) rfl Try.underlying28 rfl rfl ok26 (by decide) rfl) ?_
    obtain ⟨x16, hx16, h⟩ := h
    refine ro_val (d := (some 16)) rfl (.free rfl) rfl (q_load (T := tSlc) (u := x16) (a := (a3.add 2)) rfl ok26 rfl hx16) ?_
    refine ro_val (d := (some 17)) rfl (.free rfl) rfl (q_len (s := x16) rfl Try.underlying26 rfl) ?_
    refine ro_val (d := (some 18)) rfl (.free rfl) rfl (q_lss (a := i_13) (b := (x16.len : Int)) rfl rfl rfl) ?_
    refine ro_nil ?_
    refine wp_if (b := (decide (i_13 < (x16.len : Int)))) rfl h (fun hb49 h => ?_) (fun hb49 h => ?_)
    · refine wp_skip ?_
      refine seq_join (σ := Slc) (J := fun (s : Slc) w => F16_j2 i_13 s w K15 R) (fr := fun g (s : Slc) => upd (upd (upd (upd (upd (g) 1 (.int .i64 (tx_2))) 2 (.pointer (some a3))) 4 (.pointer (some a5))) 8 (.int .i64 (i_13))) 7 (tSlc.enc (s))) ?_ ?_
      · rintro dead_17 g w18 h
        unfold F16_j2 at h
        refine wp_text [0, 1, 2] rfl ?_
        refine ro_val (d := (some 19)) rfl (.free rfl) rfl (q_move (v := .int .i64 (i_13)) rfl rfl) ?_
        refine ro_val (d := (some 20)) rfl (.free rfl) rfl (q_add (a := i_13) (b := (1 : Int)) rfl rfl rfl) ?_
        refine ro_val (d := (some 8)) rfl (.free rfl) rfl (q_assign (v := .int .i64 ((IntKind.i64.wrap (i_13 + (1 : Int))))) rfl rfl) ?_
        refine ro_nil ?_
        exact ⟨(dead_17, (IntKind.i64.wrap (i_13 + (1 : Int)))), _, arr (upd_step (upd_step (upd_step (upd_step (upd_step rfl rfl) rfl) rfl) rfl) rfl), h⟩
      · refine wp_block ?_
        refine wp_seq ?_
        refine wp_text [0, 1, 2, 3, 4, 5, 6] rfl ?_
        refine ro_val (d := (some 21)) rfl (.free rfl) rfl (q_fieldAddr (a := a3) (off := 2) rfl Try.underlying28 rfl rfl ok26 (by decide) rfl) ?_
        obtain ⟨x19, hx19, h⟩ := h
        refine ro_val (d := (some 22)) rfl (.free rfl) rfl (q_load (T := tSlc) (u := x19) (a := (a3.add 2)) rfl ok26 rfl hx19) ?_
        refine ro_val (d := (some 23)) rfl (.free rfl) rfl (q_move (v := .int .i64 (i_13)) rfl rfl) ?_
        obtain ⟨a20, ha20, h⟩ := h
        refine ro_val (d := (some 24)) rfl (.free rfl) rfl (q_indexAddr (s := x19) (i := i_13) rfl Try.underlying26 ok3 rfl rfl ha20) ?_
        obtain ⟨x21, hx21, h⟩ := h
        refine ro_val (d := (some 25)) rfl (.free rfl) rfl (q_load (T := (tInt .i64)) (u := x21) (a := a20) rfl ok3 rfl hx21) ?_
        refine ro_val (d := (some 26)) rfl (.free rfl) rfl (q_move (v := .int .i64 (tx_2)) rfl rfl) ?_
        refine ro_val (d := (some 27)) rfl (.free rfl) rfl (q_neq (a := x21) (b := tx_2) rfl rfl rfl) ?_
        refine ro_nil ?_
        refine wp_if (b := (x21 != tx_2)) rfl h (fun hb29 h => ?_) (fun hb29 h => ?_)
        · refine wp_text [0, 1, 2, 3, 4, 5, 6, 7, 8] rfl ?_
          refine ro_val (d := (some 28)) rfl (.free rfl) rfl (q_move (v := tSlc.enc (dead_12)) rfl rfl) ?_
          refine ro_val (d := (some 29)) rfl (.free rfl) rfl (q_fieldAddr (a := a3) (off := 2) rfl Try.underlying28 rfl rfl ok26 (by decide) rfl) ?_
          obtain ⟨x22, hx22, h⟩ := h
          refine ro_val (d := (some 30)) rfl (.free rfl) rfl (q_load (T := tSlc) (u := x22) (a := (a3.add 2)) rfl ok26 rfl hx22) ?_
          refine ro_val (d := (some 31)) rfl (.free rfl) rfl (q_move (v := .int .i64 (i_13)) rfl rfl) ?_
          obtain ⟨a23, ha23, h⟩ := h
          refine ro_val (d := (some 32)) rfl (.free rfl) rfl (q_indexAddr (s := x22) (i := i_13) rfl Try.underlying26 ok3 rfl rfl ha23) ?_
          obtain ⟨x24, hx24, h⟩ := h
          refine ro_val (d := (some 33)) rfl (.free rfl) rfl (q_load (T := (tInt .i64)) (u := x24) (a := a23) rfl ok3 rfl hx24) ?_
          obtain ⟨a25, w26, ha25, hw26, h⟩ := apl_open h
          refine ro_val (d := (some 34)) rfl (.free rfl) rfl (q_rowOf (T := (tInt .i64)) (xs := [x24]) rfl Try.underlying26 ok3 inf3 rfl (by decide) (by decide) rfl ha25 hw26) ?_
          refine ro_wp rfl (.free rfl) (wp_append (d := (some 35)) (T := (tInt .i64)) rfl rfl Try.underlying26 ⟨_, Try.underlying26⟩ ok3 inf3 rfl rfl (Nat.lt_of_lt_of_le Nat.zero_lt_one (Nat.le_of_ble_eq_true rfl)) rfl rfl h ?_)
          intro r28 w27 h
          refine ro_val (d := (some 7)) rfl (.free rfl) rfl (q_assign (v := tSlc.enc (r28)) rfl rfl) ?_
          refine ro_nil ?_
          exact ⟨(r28), _, arr (upd_step (upd_step (upd_step (upd_step (upd_step rfl rfl) rfl) rfl) rfl) rfl), h⟩
        · refine wp_skip ?_
          exact ⟨(dead_12), _, arr (upd_step (upd_step (upd_step (upd_step (upd_step rfl rfl) rfl) rfl) rfl) rfl), h⟩
    · refine wp_exit ?_
      refine wp_seq ?_
      obtain ⟨w30, hw30, h⟩ := dr_open h
      refine wp_drawn 15 mixed rfl (by kernel_rfl) (by intro c a d v w h; cases d <;> exact h) hw30 (fun hD => ?_)
      refine rd_pure (i := 0) (d := (some 36)) hD (by kernel_rfl) (by kernel_rfl) rfl (.free rfl) rfl (fun _ => q_fieldAddr (a := a3) (off := 0) rfl Try.underlying28 rfl rfl ok25 (by decide) rfl) ?_
      refine rd_pure (i := 2) (d := (some 38)) hD (by kernel_rfl) (by kernel_rfl) rfl (.free rfl) rfl (fun _ => q_move (v := .int .i64 (tx_2)) rfl rfl) ?_
      refine rd_pure (i := 4) (d := (some 40)) hD (by kernel_rfl) (by kernel_rfl) rfl (.free rfl) rfl (fun _ => q_fieldAddr (a := a3) (off := 1) rfl Try.underlying28 rfl rfl ok25 (by decide) rfl) ?_
      refine rd_pure (i := 6) (d := (some 42)) hD (by kernel_rfl) (by kernel_rfl) rfl (.free rfl) rfl (fun _ => q_move (v := .int .i64 (tx_2)) rfl rfl) ?_
      refine rd_pure (i := 8) (d := (some 44)) hD (by kernel_rfl) (by kernel_rfl) rfl (.free rfl) rfl (fun _ => q_move (v := tSlc.enc (dead_12)) rfl rfl) ?_
      obtain ⟨x31, hx31, h⟩ := h
      refine rd_read (i := 1) (d := (some 37)) (fun W => (RdAt tSlc (a3.add 0) W) x31) hD (by kernel_rfl) (by kernel_rfl) rfl (.free rfl) rfl (fun W hr => q_load (T := tSlc) (u := x31) (a := (a3.add 0)) rfl ok25 rfl hr) hx31 ?_
      obtain ⟨x32, hx32, h⟩ := h
      refine rd_read (i := 5) (d := (some 41)) (fun W => (RdAt tSlc (a3.add 1) W) x32) hD (by kernel_rfl) (by kernel_rfl) rfl (.free rfl) rfl (fun W hr => q_load (T := tSlc) (u := x32) (a := (a3.add 1)) rfl ok25 rfl hr) hx32 ?_
      refine rd_one (i := 3) (by kernel_rfl) ?_
      refine po_wp rfl (.free rfl) (wp_cl (d := (some 39)) rfl (q_call (k := 31) (l := [tSlc.enc (x31), .int .i64 (tx_2)]) rfl ent31 rfl) h ?_)
      intro r34 w33 h
      obtain ⟨hk35, h⟩ := h
      refine ⟨(hk_keep (fun _ => hk35) (hk_wait (by kernel_rfl) hk_nil)), ?_⟩
      refine rd_pure (i := 9) (d := (some 45)) hD (by kernel_rfl) (by kernel_rfl) rfl (.free rfl) rfl (fun _ => q_fieldAddr (a := a3) (off := 0) rfl Try.underlying28 rfl rfl ok25 (by decide) rfl) ?_
      refine rd_one (i := 7) (by kernel_rfl) ?_
      refine po_wp rfl (.free rfl) (wp_cl (d := (some 43)) rfl (q_call (k := 31) (l := [tSlc.enc (x32), .int .i64 (tx_2)]) rfl ent31 rfl) h ?_)
      intro r37 w36 h
      obtain ⟨hk38, h⟩ := h
      refine ⟨(hk_wait (by kernel_rfl) (hk_keep (fun _ => hk38) hk_nil)), ?_⟩
      refine rd_one (i := 10) (by kernel_rfl) ?_
      obtain ⟨w39, hw39, hrw39, h⟩ := st_open h
      refine po_skip (d := none) rfl (.free rfl) rfl (q_store (T := tSlc) (u := r34) (a := (a3.add 0)) rfl ok25 rfl rfl hrw39 hw39) ⟨(hk_wait (by kernel_rfl) (hk_wait (by kernel_rfl) hk_nil)), ?_⟩
      refine rd_pure (i := 11) (d := (some 46)) hD (by kernel_rfl) (by kernel_rfl) rfl (.free rfl) rfl (fun _ => q_fieldAddr (a := a3) (off := 1) rfl Try.underlying28 rfl rfl ok25 (by decide) rfl) ?_
      refine rd_one (i := 12) (by kernel_rfl) ?_
      obtain ⟨w40, hw40, hrw40, h⟩ := st_open h
      refine po_skip (d := none) rfl (.free rfl) rfl (q_store (T := tSlc) (u := r37) (a := (a3.add 1)) rfl ok25 rfl rfl hrw40 hw40) ⟨(hk_wait (by kernel_rfl) (hk_wait (by kernel_rfl) hk_nil)), ?_⟩
      refine rd_pure (i := 13) (d := (some 47)) hD (by kernel_rfl) (by kernel_rfl) rfl (.free rfl) rfl (fun _ => q_fieldAddr (a := a3) (off := 2) rfl Try.underlying28 rfl rfl ok26 (by decide) rfl) ?_
      refine rd_one (i := 14) (by kernel_rfl) ?_
      obtain ⟨w41, hw41, hrw41, h⟩ := st_open h
      refine po_skip (d := none) rfl (.free rfl) rfl (q_store (T := tSlc) (u := dead_12) (a := (a3.add 2)) rfl ok26 rfl rfl hrw41 hw41) ⟨(hk_wait (by kernel_rfl) (hk_wait (by kernel_rfl) hk_nil)), ?_⟩
      refine rd_nil (by kernel_rfl) ?_
      refine wp_seq ?_
      refine wp_text [0, 1, 2, 3, 4, 5, 6] rfl ?_
      obtain ⟨x42, hx42, h⟩ := h
      refine ro_val (d := (some 49)) rfl (.free rfl) rfl (q_load (T := T27) (u := x42) (a := a3) rfl ok28 rfl hx42) ?_
      refine ro_wp rfl (.free rfl) (wp_cl (d := (some 50)) rfl (q_call (k := 33) (l := [T27.enc (x42)]) rfl ent33 rfl) h ?_)
      intro r44 w43 h
      refine ro_val (d := (some 48)) rfl (.free rfl) rfl (q_move (v := (tTup2 T27 tSlc).enc (r44)) rfl rfl) ?_
      refine ro_val (d := (some 51)) rfl (.free rfl) rfl (q_extract (vs := #[T27.enc (r44.1), tSlc.enc (r44.2)]) (v := T27.enc (r44.1)) rfl rfl rfl) ?_
      refine ro_val (d := (some 52)) rfl (.free rfl) rfl (q_extract (vs := #[T27.enc (r44.1), tSlc.enc (r44.2)]) (v := tSlc.enc (r44.2)) rfl rfl rfl) ?_
      obtain ⟨w45, hw45, hrw45, h⟩ := st_open h
      refine ro_skip (d := none) rfl (.free rfl) rfl (q_store (T := T27) (u := r44.1) (a := a3) rfl ok28 rfl rfl hrw45 hw45) ?_
      refine ro_val (d := (some 9)) rfl (.free rfl) rfl (q_assign (v := tSlc.enc (r44.2)) rfl rfl) ?_
      refine ro_nil ?_
      refine wp_seq ?_
      refine wp_text [0, 1, 2, 3, 4] rfl ?_
      obtain ⟨x46, hx46, h⟩ := h
      refine ro_val (d := (some 53)) rfl (.free rfl) rfl (q_load (T := T27) (u := x46) (a := a3) rfl ok28 rfl hx46) ?_
      refine ro_val (d := (some 54)) rfl (.free rfl) rfl (q_move (v := tSlc.enc (r44.2)) rfl rfl) ?_
      obtain ⟨w47, hw47, hrw47, h⟩ := st_open h
      refine ro_skip (d := none) rfl (.free rfl) rfl (q_store (T := T27) (u := x46) (a := a5) rfl ok28 rfl rfl hrw47 hw47) ?_
      refine ro_val (d := (some 5)) rfl (.free rfl) rfl (q_assign (v := tSlc.enc (r44.2)) rfl rfl) ?_
      refine ro_val (d := (some 6)) rfl (.free rfl) rfl (q_assign (v := .int .i64 ((0 : Int))) rfl rfl) ?_
      refine ro_nil ?_
      refine wp_ret ?_
      obtain ⟨x48, hx48, h⟩ := h
      exact ret_ok rfl (.cons (.cell (T := T27) (u := x48) (a := a5) ok28 rfl hx48) (.cons (.tmp (v := tSlc.enc (r44.2)) rfl) (.cons (.tmp (v := .int .i64 ((0 : Int))) rfl) .nil))) ⟨(x48, r44.2, (0 : Int)), rfl, h⟩

-- moiety/moietylaw13.told
def F17_j1 (t_6 : Bool) (w7 : World) (R : Bool → World → Prop) : Prop :=
  R t_6 w7
def F17 (t_1 : (Option Addr)) (m_2 : S27) (key_3 : Int) (w : World) (R : Bool → World → Prop) : Prop :=
  nw 28 T27 m_2 w fun a4 w5 =>
  dr w5 fun w8 =>
  ex (RdAt tSlc (a4.add 0) w8) fun x9 =>
  cl Try.prog 21 [.pointer (t_1), .int .i64 (key_3)] tSlc w8 fun r11 w10 =>
  kp ((RdAt tSlc (a4.add 0) w10) x9) <|
  cl Try.prog 34 [tSlc.enc (x9), .int .i64 (key_3)] tSlc w10 fun r14 w13 =>
  cl Try.prog 23 [tSlc.enc (r11), tSlc.enc (r14)] tBool w13 fun r16 w15 =>
  kp ((RdAt tSlc (a4.add 0) w15) x9) <|
  if r16 = true then (
    ex (RdAt tSlc (a4.add 1) w15) fun x19 =>
    cl Try.prog 22 [.pointer (t_1), .int .i64 (key_3)] tSlc w15 fun r21 w20 =>
    kp ((RdAt tSlc (a4.add 0) w20) x9) <|
    kp ((RdAt tSlc (a4.add 1) w20) x19) <|
    cl Try.prog 34 [tSlc.enc (x19), .int .i64 (key_3)] tSlc w20 fun r25 w24 =>
    kp ((RdAt tSlc (a4.add 0) w24) x9) <|
    cl Try.prog 23 [tSlc.enc (r21), tSlc.enc (r25)] tBool w24 fun r28 w27 =>
    kp ((RdAt tSlc (a4.add 0) w27) x9) <|
    kp ((RdAt tSlc (a4.add 1) w27) x19) <|
    F17_j1 r28 w27 R
  ) else (
    F17_j1 false w15 R
  )
theorem F17_ok {t_1 : (Option Addr)} {m_2 : S27} {key_3 : Int} {w : World} {R : Bool → World → Prop} (h : F17 t_1 m_2 key_3 w R) : cl Try.prog 17 [.pointer (t_1), T27.enc (m_2), .int .i64 (key_3)] tBool w R := by
  unfold F17 at h
  refine calls_start 25 Try.func17 rfl rfl (Nat.le_of_ble_eq_true rfl) ?_
  refine wp_seq ?_
  refine wp_text [0, 1] rfl ?_
  obtain ⟨a4, w5, ha4, hw5, h⟩ := nw_open h
  refine ro_val (d := (some 4)) rfl (.free rfl) rfl (q_box (u := m_2) rfl ok28 rfl ha4 hw5) ?_
  refine ro_val (d := (some 6)) rfl (.free rfl) rfl (q_assign (v := .bool (false)) rfl rfl) ?_
  refine ro_nil ?_
  refine seq_join (σ := Bool) (J := fun (s : Bool) w => F17_j1 s w R) (fr := fun g (s : Bool) => upd (g) 6 (.bool (s))) ?_ ?_
  · rintro t_6 g w7 h
    unfold F17_j1 at h
    refine wp_ret ?_
    exact ret_ok rfl (.cons (.tmp (v := .bool (t_6)) rfl) .nil) ⟨t_6, rfl, h⟩
  · obtain ⟨w8, hw8, h⟩ := dr_open h
    refine wp_drawn 19 mixed rfl (by kernel_rfl) (by intro c a d v w h; cases d <;> exact h) hw8 (fun hD => ?_)
    refine rd_pure (i := 0) (d := (some 7)) hD (by kernel_rfl) (by kernel_rfl) rfl (.free rfl) rfl (fun _ => q_move (v := .pointer (t_1)) rfl rfl) ?_
    refine rd_pure (i := 1) (d := (some 8)) hD (by kernel_rfl) (by kernel_rfl) rfl (.free rfl) rfl (fun _ => q_move (v := .int .i64 (key_3)) rfl rfl) ?_
    refine rd_pure (i := 3) (d := (some 10)) hD (by kernel_rfl) (by kernel_rfl) rfl (.free rfl) rfl (fun _ => q_fieldAddr (a := a4) (off := 0) rfl Try.underlying28 rfl rfl ok25 (by decide) rfl) ?_
    refine rd_pure (i := 5) (d := (some 12)) hD (by kernel_rfl) (by kernel_rfl) rfl (.free rfl) rfl (fun _ => q_move (v := .int .i64 (key_3)) rfl rfl) ?_
    obtain ⟨x9, hx9, h⟩ := h
    refine rd_read (i := 4) (d := (some 11)) (fun W => (RdAt tSlc (a4.add 0) W) x9) hD (by kernel_rfl) (by kernel_rfl) rfl (.free rfl) rfl (fun W hr => q_load (T := tSlc) (u := x9) (a := (a4.add 0)) rfl ok25 rfl hr) hx9 ?_
    refine rd_one (i := 2) (by kernel_rfl) ?_
    refine po_wp rfl (.free rfl) (wp_cl (d := (some 9)) rfl (q_call (k := 21) (l := [.pointer (t_1), .int .i64 (key_3)]) rfl ent21 rfl) h ?_)
    intro r11 w10 h
    obtain ⟨hk12, h⟩ := h
    refine ⟨(hk_keep (fun _ => hk12) hk_nil), ?_⟩
    refine rd_one (i := 6) (by kernel_rfl) ?_
    refine po_wp rfl (.free rfl) (wp_cl (d := (some 13)) rfl (q_call (k := 34) (l := [tSlc.enc (x9), .int .i64 (key_3)]) rfl ent34 rfl) h ?_)
    intro r14 w13 h
    refine ⟨(hk_wait (by kernel_rfl) hk_nil), ?_⟩
    refine rd_one (i := 7) (by kernel_rfl) ?_
    refine po_wp rfl (.free rfl) (wp_cl (d := (some 14)) rfl (q_call (k := 23) (l := [tSlc.enc (r11), tSlc.enc (r14)]) rfl ent23 rfl) h ?_)
    intro r16 w15 h
    obtain ⟨hk17, h⟩ := h
    refine ⟨(hk_keep (fun _ => hk17) hk_nil), ?_⟩
    refine rd_pure (i := 8) (d := (some 15)) hD (by kernel_rfl) (by kernel_rfl) rfl (.free rfl) rfl (fun _ => q_move (v := .bool (r16)) rfl rfl) ?_
    refine ro_if (b := r16) h (fun hb18 h => ?_) (fun hb18 h => ?_)
    · refine rd_pure (i := 9) (d := (some 16)) hD (by kernel_rfl) (by kernel_rfl) rfl (.by_ 8 true 15 r16 rfl rfl rfl hb18) rfl (fun _ => q_move (v := .pointer (t_1)) rfl rfl) ?_
      refine rd_pure (i := 10) (d := (some 17)) hD (by kernel_rfl) (by kernel_rfl) rfl (.by_ 8 true 15 r16 rfl rfl rfl hb18) rfl (fun _ => q_move (v := .int .i64 (key_3)) rfl rfl) ?_
      refine rd_pure (i := 12) (d := (some 19)) hD (by kernel_rfl) (by kernel_rfl) rfl (.by_ 8 true 15 r16 rfl rfl rfl hb18) rfl (fun _ => q_fieldAddr (a := a4) (off := 1) rfl Try.underlying28 rfl rfl ok25 (by decide) rfl) ?_
      refine rd_pure (i := 14) (d := (some 21)) hD (by kernel_rfl) (by kernel_rfl) rfl (.by_ 8 true 15 r16 rfl rfl rfl hb18) rfl (fun _ => q_move (v := .int .i64 (key_3)) rfl rfl) ?_
      obtain ⟨x19, hx19, h⟩ := h
      refine rd_read (i := 13) (d := (some 20)) (fun W => (RdAt tSlc (a4.add 1) W) x19) hD (by kernel_rfl) (by kernel_rfl) rfl (.by_ 8 true 15 r16 rfl rfl rfl hb18) rfl (fun W hr => q_load (T := tSlc) (u := x19) (a := (a4.add 1)) rfl ok25 rfl hr) hx19 ?_
      refine rd_one (i := 11) (by kernel_rfl) ?_
      refine po_wp rfl (.by_ 8 true 15 r16 rfl rfl rfl hb18) (wp_cl (d := (some 18)) rfl (q_call (k := 22) (l := [.pointer (t_1), .int .i64 (key_3)]) rfl ent22 rfl) h ?_)
      intro r21 w20 h
      obtain ⟨hk22, h⟩ := h
      obtain ⟨hk23, h⟩ := h
      refine ⟨(hk_keep (fun _ => hk23) (hk_keep (fun _ => hk22) hk_nil)), ?_⟩
      refine rd_one (i := 15) (by kernel_rfl) ?_
      refine po_wp rfl (.by_ 8 true 15 r16 rfl rfl rfl hb18) (wp_cl (d := (some 22)) rfl (q_call (k := 34) (l := [tSlc.enc (x19), .int .i64 (key_3)]) rfl ent34 rfl) h ?_)
      intro r25 w24 h
      obtain ⟨hk26, h⟩ := h
      refine ⟨(hk_wait (by kernel_rfl) (hk_keep (fun _ => hk26) hk_nil)), ?_⟩
      refine rd_one (i := 16) (by kernel_rfl) ?_
      refine po_wp rfl (.by_ 8 true 15 r16 rfl rfl rfl hb18) (wp_cl (d := (some 23)) rfl (q_call (k := 23) (l := [tSlc.enc (r21), tSlc.enc (r25)]) rfl ent23 rfl) h ?_)
      intro r28 w27 h
      obtain ⟨hk29, h⟩ := h
      obtain ⟨hk30, h⟩ := h
      refine ⟨(hk_keep (fun _ => hk30) (hk_keep (fun _ => hk29) hk_nil)), ?_⟩
      refine rd_pure (i := 17) (d := (some 24)) hD (by kernel_rfl) (by kernel_rfl) rfl (.free rfl) rfl (fun _ => q_pickT (v := .bool (r28)) (b := r16) rfl rfl hb18 rfl) ?_
      refine rd_pure (i := 18) (d := (some 6)) hD (by kernel_rfl) (by kernel_rfl) rfl (.free rfl) rfl (fun _ => q_assign (v := .bool (r28)) rfl rfl) ?_
      refine rd_nil (by kernel_rfl) ?_
      exact ⟨(r28), _, arr (upd_step rfl rfl), h⟩
    · refine rd_bar (i := 9) (d := (some 16)) hD (by kernel_rfl) (by kernel_rfl) rfl (.by_ 8 true 15 r16 rfl rfl rfl hb18) rfl ?_
      refine rd_bar (i := 10) (d := (some 17)) hD (by kernel_rfl) (by kernel_rfl) rfl (.by_ 8 true 15 r16 rfl rfl rfl hb18) rfl ?_
      refine rd_bar (i := 12) (d := (some 19)) hD (by kernel_rfl) (by kernel_rfl) rfl (.by_ 8 true 15 r16 rfl rfl rfl hb18) rfl ?_
      refine rd_bar (i := 14) (d := (some 21)) hD (by kernel_rfl) (by kernel_rfl) rfl (.by_ 8 true 15 r16 rfl rfl rfl hb18) rfl ?_
      refine rd_bar (i := 13) (d := (some 20)) hD (by kernel_rfl) (by kernel_rfl) rfl (.by_ 8 true 15 r16 rfl rfl rfl hb18) rfl ?_
      refine rd_one (i := 11) (by kernel_rfl) ?_
      refine po_bar (d := (some 18)) rfl (.by_ 8 true 15 r16 rfl rfl rfl hb18) rfl ⟨fun _ _ _ h => h, ?_⟩
      refine rd_one (i := 15) (by kernel_rfl) ?_
      refine po_bar (d := (some 22)) rfl (.by_ 8 true 15 r16 rfl rfl rfl hb18) rfl ⟨fun _ _ _ h => h, ?_⟩
      refine rd_one (i := 16) (by kernel_rfl) ?_
      refine po_bar (d := (some 23)) rfl (.by_ 8 true 15 r16 rfl rfl rfl hb18) rfl ⟨fun _ _ _ h => h, ?_⟩
      refine rd_pure (i := 17) (d := (some 24)) hD (by kernel_rfl) (by kernel_rfl) rfl (.free rfl) rfl (fun _ => q_pickF (v := .bool (false)) (b := r16) rfl rfl hb18 rfl) ?_
      refine rd_pure (i := 18) (d := (some 6)) hD (by kernel_rfl) (by kernel_rfl) rfl (.free rfl) rfl (fun _ => q_assign (v := .bool (false)) rfl rfl) ?_
      refine rd_nil (by kernel_rfl) ?_
      exact ⟨(false), _, arr (upd_step rfl rfl), h⟩

-- (*moiety/locks.Table).Dead
def F18 (t_1 : (Option Addr)) (tx_2 : Int) (w : World) (R : Bool → World → Prop) : Prop :=
  ex (NC t_1) fun a3 =>
  ex (RdAt tMap (a3.add 2) w) fun x4 =>
  ex (MapGet T77 .i64 x4 tx_2 w) fun m5 =>
  nw 77 T77 Z77 w fun a6 w7 =>
  st T77 a6 (((m5.getD Z77, m5.isSome)).1) w7 fun w8 =>
  R (((m5.getD Z77, m5.isSome)).2) w8
theorem F18_ok {t_1 : (Option Addr)} {tx_2 : Int} {w : World} {R : Bool → World → Prop} (h : F18 t_1 tx_2 w R) : cl Try.prog 18 [.pointer (t_1), .int .i64 (tx_2)] tBool w R := by
  unfold F18 at h
  refine calls_start 17 Try.func18 rfl rfl (Nat.le_of_ble_eq_true rfl) ?_
  refine wp_seq ?_
  refine wp_text [0] rfl ?_
  refine ro_val (d := (some 4)) rfl (.free rfl) rfl (q_assign (v := .bool (false)) rfl rfl) ?_
  refine ro_nil ?_
  refine wp_seq ?_
  refine wp_text [0, 1, 2, 3, 4, 5, 6, 7, 8, 9, 10, 11] rfl ?_
  refine ro_val (d := (some 8)) rfl (.free rfl) rfl (q_move (v := .pointer (t_1)) rfl rfl) ?_
  obtain ⟨a3, ha3, h⟩ := h
  refine ro_val (d := (some 9)) rfl (.free rfl) rfl (q_nilCheck (a := a3) rfl (congrArg Value.pointer ha3)) ?_
  refine ro_val (d := (some 10)) rfl (.free rfl) rfl (q_fieldAddr (a := a3) (off := 2) rfl Try.underlying62 rfl rfl ok60 (by decide) rfl) ?_
  obtain ⟨x4, hx4, h⟩ := h
  refine ro_val (d := (some 11)) rfl (.free rfl) rfl (q_load (T := tMap) (u := x4) (a := (a3.add 2)) rfl ok60 rfl hx4) ?_
  refine ro_val (d := (some 12)) rfl (.free rfl) rfl (q_move (v := .int .i64 (tx_2)) rfl rfl) ?_
  obtain ⟨m5, hm5, h⟩ := h
  refine ro_val (d := (some 13)) rfl (.free rfl) rfl (q_lookup2 (T := T77) (r := x4) (key := tx_2) (u := m5) (z := Z77) rfl Try.underlying60 Try.underlying3 (inf77) rfl rfl hm5) ?_
  refine ro_val (d := (some 7)) rfl (.free rfl) rfl (q_move (v := (tTup2 T77 tBool).enc (((m5.getD Z77, m5.isSome)))) rfl rfl) ?_
  refine ro_val (d := (some 14)) rfl (.free rfl) rfl (q_extract (vs := #[T77.enc (((m5.getD Z77, m5.isSome)).1), .bool (((m5.getD Z77, m5.isSome)).2)]) (v := T77.enc (((m5.getD Z77, m5.isSome)).1)) rfl rfl rfl) ?_
  refine ro_val (d := (some 15)) rfl (.free rfl) rfl (q_extract (vs := #[T77.enc (((m5.getD Z77, m5.isSome)).1), .bool (((m5.getD Z77, m5.isSome)).2)]) (v := .bool (((m5.getD Z77, m5.isSome)).2)) rfl rfl rfl) ?_
  obtain ⟨a6, w7, ha6, hw7, h⟩ := nw_open h
  refine ro_val (d := (some 5)) rfl (.free rfl) rfl (q_alloc (u := Z77) rfl ok77 inf77 ha6 hw7) ?_
  obtain ⟨w8, hw8, hrw8, h⟩ := st_open h
  refine ro_skip (d := none) rfl (.free rfl) rfl (q_store (T := T77) (u := ((m5.getD Z77, m5.isSome)).1) (a := a6) rfl ok77 rfl rfl hrw8 hw8) ?_
  refine ro_val (d := (some 6)) rfl (.free rfl) rfl (q_assign (v := .bool (((m5.getD Z77, m5.isSome)).2)) rfl rfl) ?_
  refine ro_nil ?_
  refine wp_seq ?_
  refine wp_text [0, 1] rfl ?_
  refine ro_val (d := (some 16)) rfl (.free rfl) rfl (q_move (v := .bool (((m5.getD Z77, m5.isSome)).2)) rfl rfl) ?_
  refine ro_val (d := (some 4)) rfl (.free rfl) rfl (q_assign (v := .bool (((m5.getD Z77, m5.isSome)).2)) rfl rfl) ?_
  refine ro_nil ?_
  refine wp_ret ?_
  exact ret_ok rfl (.cons (.tmp (v := .bool (((m5.getD Z77, m5.isSome)).2)) rfl) .nil) ⟨((m5.getD Z77, m5.isSome)).2, rfl, h⟩

-- moiety/moietyref13.In
def F19_l1 (l_1 : Slc) (n_2 : Int) (i_3 : Int) (w4 : World) (K5 : Int → World → Prop) (R : Bool → World → Prop) : Prop :=
  if (decide (i_3 < (l_1.len : Int))) = true then (
    ex (IxA l_1 1 i_3) fun a6 =>
    ex (RdAt (tInt .i64) a6 w4) fun x7 =>
    if (x7 == n_2) = true then (
      R true w4
    ) else (
      K5 ((IntKind.i64.wrap (i_3 + (1 : Int)))) w4
    )
  ) else (
    R false w4
  )
def F19 (l_1 : Slc) (n_2 : Int) (w : World) (R : Bool → World → Prop) : Prop :=
  lp (fun (s : Int) w K => F19_l1 l_1 n_2 s w K R) ((0 : Int)) w
theorem F19_ok {l_1 : Slc} {n_2 : Int} {w : World} {R : Bool → World → Prop} (h : F19 l_1 n_2 w R) : cl Try.prog 19 [tSlc.enc (l_1), .int .i64 (n_2)] tBool w R := by
  unfold F19 at h
  refine calls_start 18 Try.func19 rfl rfl (Nat.le_of_ble_eq_true rfl) ?_
  refine wp_seq ?_
  refine wp_text [0] rfl ?_
  refine ro_val (d := (some 4)) rfl (.free rfl) rfl (q_assign (v := .bool (false)) rfl rfl) ?_
  refine ro_nil ?_
  refine wp_seq ?_
  refine wp_seq ?_
  refine wp_text [0] rfl ?_
  refine ro_val (d := (some 5)) rfl (.free rfl) rfl (q_assign (v := .int .i64 ((0 : Int))) rfl rfl) ?_
  refine ro_nil ?_
  refine wp_block ?_
  refine loop_at (σ := Int) (fr := fun g (s : Int) => upd (upd (upd (g) 0 (tSlc.enc (l_1))) 1 (.int .i64 (n_2))) 5 (.int .i64 (s))) (s0 := ((0 : Int))) (upd_step (upd_step (upd_step rfl rfl) rfl) rfl) h ?_
  rintro i_3 g w4 K5 h
  unfold F19_l1 at h
  refine wp_seq ?_
  refine wp_seq ?_
  refine wp_text [0, 1, 2, 3] rfl ?_
  refine ro_val (d := (some 6)) rfl (.free rfl) rfl (q_move (v := .int .i64 (i_3)) rfl rfl) ?_
  refine ro_val (d := (some 7)) rfl (.free rfl) rfl (q_move (v := tSlc.enc (l_1)) rfl rfl) ?_
  refine ro_val (d := (some 8)) rfl (.free rfl) rfl (q_len (s := l_1) rfl Try.underlying26 rfl) ?_
  refine ro_val (d := (some 9)) rfl (.free rfl) rfl (q_lss (a := i_3) (b := (l_1.len : Int)) rfl rfl rfl) ?_
  refine ro_nil ?_
  refine wp_if (b := (decide (i_3 < (l_1.len : Int)))) rfl h (fun hb9 h => ?_) (fun hb9 h => ?_)
  · refine wp_skip ?_
    refine wp_seq ?_
    refine wp_block ?_
    refine wp_seq ?_
    refine wp_text [0, 1, 2, 3, 4, 5] rfl ?_
    refine ro_val (d := (some 12)) rfl (.free rfl) rfl (q_move (v := tSlc.enc (l_1)) rfl rfl) ?_
    refine ro_val (d := (some 13)) rfl (.free rfl) rfl (q_move (v := .int .i64 (i_3)) rfl rfl) ?_
    obtain ⟨a6, ha6, h⟩ := h
    refine ro_val (d := (some 14)) rfl (.free rfl) rfl (q_indexAddr (s := l_1) (i := i_3) rfl Try.underlying26 ok3 rfl rfl ha6) ?_
    obtain ⟨x7, hx7, h⟩ := h
    refine ro_val (d := (some 15)) rfl (.free rfl) rfl (q_load (T := (tInt .i64)) (u := x7) (a := a6) rfl ok3 rfl hx7) ?_
    refine ro_val (d := (some 16)) rfl (.free rfl) rfl (q_move (v := .int .i64 (n_2)) rfl rfl) ?_
    refine ro_val (d := (some 17)) rfl (.free rfl) rfl (q_eql (a := x7) (b := n_2) rfl rfl rfl) ?_
    refine ro_nil ?_
    refine wp_if (b := (x7 == n_2)) rfl h (fun hb8 h => ?_) (fun hb8 h => ?_)
    · refine wp_seq ?_
      refine wp_text [0] rfl ?_
      refine ro_val (d := (some 4)) rfl (.free rfl) rfl (q_assign (v := .bool (true)) rfl rfl) ?_
      refine ro_nil ?_
      refine wp_ret ?_
      exact ret_ok rfl (.cons (.tmp (v := .bool (true)) rfl) .nil) ⟨true, rfl, h⟩
    · refine wp_skip ?_
      refine wp_text [0, 1, 2] rfl ?_
      refine ro_val (d := (some 10)) rfl (.free rfl) rfl (q_move (v := .int .i64 (i_3)) rfl rfl) ?_
      refine ro_val (d := (some 11)) rfl (.free rfl) rfl (q_add (a := i_3) (b := (1 : Int)) rfl rfl rfl) ?_
      refine ro_val (d := (some 5)) rfl (.free rfl) rfl (q_assign (v := .int .i64 ((IntKind.i64.wrap (i_3 + (1 : Int))))) rfl rfl) ?_
      refine ro_nil ?_
      exact ⟨((IntKind.i64.wrap (i_3 + (1 : Int)))), _, arr (upd_step (upd_step (upd_step rfl rfl) rfl) rfl), h⟩
  · refine wp_exit ?_
    refine wp_seq ?_
    refine wp_text [0] rfl ?_
    refine ro_val (d := (some 4)) rfl (.free rfl) rfl (q_assign (v := .bool (false)) rfl rfl) ?_
    refine ro_nil ?_
    refine wp_ret ?_
    exact ret_ok rfl (.cons (.tmp (v := .bool (false)) rfl) .nil) ⟨false, rfl, h⟩

-- moiety/moietylaw13.does
def F20 (t_1 : (Option Addr)) (o_2 : S30) (w : World) (R : (S33 × Int) → World → Prop) : Prop :=
  nw 31 T30 o_2 w fun a3 w4 =>
  nw 34 T33 Z33 w4 fun a5 w6 =>
  ex (RdAt (tInt .i64) (a3.add 0) w6) fun x7 =>
  if (x7 == (0 : Int)) = true then (
    ex (RdAt (tInt .i64) (a3.add 1) w6) fun x8 =>
    ex (RdAt (tInt .i64) (a3.add 2) w6) fun x9 =>
    ex (RdAt tBool (a3.add 3) w6) fun x10 =>
    cl Try.prog 11 [.pointer (t_1), .int .i64 (x8), .int .i64 (x9), .bool (x10)] (tTup2 T33 (tInt .i64)) w6 fun r12 w11 =>
    st T33 a5 r12.1 w11 fun w13 =>
    ex (RdAt T33 a5 w13) fun x14 =>
    R (x14, r12.2) w13
  ) else (
    ex (RdAt (tInt .i64) (a3.add 1) w6) fun x15 =>
    cl Try.prog 15 [.pointer (t_1), .int .i64 (x15)] (tTup2 tSlc (tInt .i64)) w6 fun r17 w16 =>
    st T33 a5 (⟨false, (⟨none, 0, 0⟩ : Slc), r17.1⟩ : S33) w16 fun w18 =>
    ex (RdAt T33 a5 w18) fun x19 =>
    R (x19, r17.2) w18
  )
theorem F20_ok {t_1 : (Option Addr)} {o_2 : S30} {w : World} {R : (S33 × Int) → World → Prop} (h : F20 t_1 o_2 w R) : cl Try.prog 20 [.pointer (t_1), T30.enc (o_2)] (tTup2 T33 (tInt .i64)) w R := by
  unfold F20 at h
  refine calls_start 31 Try.func20 rfl rfl (Nat.le_of_ble_eq_true rfl) ?_
  refine wp_seq ?_
  refine wp_text [0, 1, 2] rfl ?_
  obtain ⟨a3, w4, ha3, hw4, h⟩ := nw_open h
  refine ro_val (d := (some 3)) rfl (.free rfl) rfl (q_box (u := o_2) rfl ok31 rfl ha3 hw4) ?_
  obtain ⟨a5, w6, ha5, hw6, h⟩ := nw_open h
  refine ro_val (d := (some 4)) rfl (.free rfl) rfl (q_alloc (u := Z33) rfl ok34 inf34 ha5 hw6) ?_
  refine ro_val (d := (some 5)) rfl (.free rfl) rfl (q_assign (v := .int .i64 ((0 : Int))) rfl rfl) ?_
  refine ro_nil ?_
  refine wp_seq ?_
  refine wp_seq ?_
  refine wp_text [0, 1, 2] rfl ?_
  refine ro_val (d := (some 8)) rfl (.free rfl) rfl (q_fieldAddr (a := a3) (off := 0) rfl Try.underlying31 rfl rfl ok3 (by decide) rfl) ?_
  obtain ⟨x7, hx7, h⟩ := h
  refine ro_val (d := (some 9)) rfl (.free rfl) rfl (q_load (T := (tInt .i64)) (u := x7) (a := (a3.add 0)) rfl ok3 rfl hx7) ?_
  refine ro_val (d := (some 10)) rfl (.free rfl) rfl (q_eql (a := x7) (b := (0 : Int)) rfl rfl rfl) ?_
  refine ro_nil ?_
  refine wp_if (b := (x7 == (0 : Int))) rfl h (fun hb20 h => ?_) (fun hb20 h => ?_)
  · refine wp_seq ?_
    refine wp_text [0, 1, 2, 3, 4, 5, 6, 7, 8, 9, 10, 11] rfl ?_
    refine ro_val (d := (some 11)) rfl (.free rfl) rfl (q_move (v := .pointer (t_1)) rfl rfl) ?_
    refine ro_val (d := (some 12)) rfl (.free rfl) rfl (q_fieldAddr (a := a3) (off := 1) rfl Try.underlying31 rfl rfl ok3 (by decide) rfl) ?_
    obtain ⟨x8, hx8, h⟩ := h
    refine ro_val (d := (some 13)) rfl (.free rfl) rfl (q_load (T := (tInt .i64)) (u := x8) (a := (a3.add 1)) rfl ok3 rfl hx8) ?_
    refine ro_val (d := (some 14)) rfl (.free rfl) rfl (q_fieldAddr (a := a3) (off := 2) rfl Try.underlying31 rfl rfl ok3 (by decide) rfl) ?_
    obtain ⟨x9, hx9, h⟩ := h
    refine ro_val (d := (some 15)) rfl (.free rfl) rfl (q_load (T := (tInt .i64)) (u := x9) (a := (a3.add 2)) rfl ok3 rfl hx9) ?_
    refine ro_val (d := (some 16)) rfl (.free rfl) rfl (q_fieldAddr (a := a3) (off := 3) rfl Try.underlying31 rfl rfl ok4 (by decide) rfl) ?_
    obtain ⟨x10, hx10, h⟩ := h
    refine ro_val (d := (some 17)) rfl (.free rfl) rfl (q_load (T := tBool) (u := x10) (a := (a3.add 3)) rfl ok4 rfl hx10) ?_
    refine ro_wp rfl (.free rfl) (wp_cl (d := (some 18)) rfl (q_call (k := 11) (l := [.pointer (t_1), .int .i64 (x8), .int .i64 (x9), .bool (x10)]) rfl ent11 rfl) h ?_)
    intro r12 w11 h
    refine ro_val (d := (some 19)) rfl (.free rfl) rfl (q_extract (vs := #[T33.enc (r12.1), .int .i64 (r12.2)]) (v := T33.enc (r12.1)) rfl rfl rfl) ?_
    refine ro_val (d := (some 20)) rfl (.free rfl) rfl (q_extract (vs := #[T33.enc (r12.1), .int .i64 (r12.2)]) (v := .int .i64 (r12.2)) rfl rfl rfl) ?_
    obtain ⟨w13, hw13, hrw13, h⟩ := st_open h
    refine ro_skip (d := none) rfl (.free rfl) rfl (q_store (T := T33) (u := r12.1) (a := a5) rfl ok34 rfl rfl hrw13 hw13) ?_
    refine ro_val (d := (some 5)) rfl (.free rfl) rfl (q_assign (v := .int .i64 (r12.2)) rfl rfl) ?_
    refine ro_nil ?_
    refine wp_ret ?_
    obtain ⟨x14, hx14, h⟩ := h
    exact ret_ok rfl (.cons (.cell (T := T33) (u := x14) (a := a5) ok34 rfl hx14) (.cons (.tmp (v := .int .i64 (r12.2)) rfl) .nil)) ⟨(x14, r12.2), rfl, h⟩
  · refine wp_skip ?_
    refine wp_seq ?_
    refine wp_text [0, 1, 2, 3, 4, 5, 6, 7, 8] rfl ?_
    refine ro_val (d := (some 22)) rfl (.free rfl) rfl (q_move (v := .pointer (t_1)) rfl rfl) ?_
    refine ro_val (d := (some 23)) rfl (.free rfl) rfl (q_fieldAddr (a := a3) (off := 1) rfl Try.underlying31 rfl rfl ok3 (by decide) rfl) ?_
    obtain ⟨x15, hx15, h⟩ := h
    refine ro_val (d := (some 24)) rfl (.free rfl) rfl (q_load (T := (tInt .i64)) (u := x15) (a := (a3.add 1)) rfl ok3 rfl hx15) ?_
    refine ro_wp rfl (.free rfl) (wp_cl (d := (some 25)) rfl (q_call (k := 15) (l := [.pointer (t_1), .int .i64 (x15)]) rfl ent15 rfl) h ?_)
    intro r17 w16 h
    refine ro_val (d := (some 21)) rfl (.free rfl) rfl (q_move (v := (tTup2 tSlc (tInt .i64)).enc (r17)) rfl rfl) ?_
    refine ro_val (d := (some 26)) rfl (.free rfl) rfl (q_extract (vs := #[tSlc.enc (r17.1), .int .i64 (r17.2)]) (v := tSlc.enc (r17.1)) rfl rfl rfl) ?_
    refine ro_val (d := (some 27)) rfl (.free rfl) rfl (q_extract (vs := #[tSlc.enc (r17.1), .int .i64 (r17.2)]) (v := .int .i64 (r17.2)) rfl rfl rfl) ?_
    refine ro_val (d := (some 6)) rfl (.free rfl) rfl (q_assign (v := tSlc.enc (r17.1)) rfl rfl) ?_
    refine ro_val (d := (some 7)) rfl (.free rfl) rfl (q_assign (v := .int .i64 (r17.2)) rfl rfl) ?_
    refine ro_nil ?_
    refine wp_seq ?_
    refine wp_text [0, 1, 2, 3, 4] rfl ?_
    refine ro_val (d := (some 28)) rfl (.free rfl) rfl (q_move (v := tSlc.enc (r17.1)) rfl rfl) ?_
    refine ro_val (d := (some 29)) rfl (.free rfl) rfl (q_build34_2 (v2 := r17.1) rfl rfl) ?_
    refine ro_val (d := (some 30)) rfl (.free rfl) rfl (q_move (v := .int .i64 (r17.2)) rfl rfl) ?_
    obtain ⟨w18, hw18, hrw18, h⟩ := st_open h
    refine ro_skip (d := none) rfl (.free rfl) rfl (q_store (T := T33) (u := (⟨false, (⟨none, 0, 0⟩ : Slc), r17.1⟩ : S33)) (a := a5) rfl ok34 rfl rfl hrw18 hw18) ?_
    refine ro_val (d := (some 5)) rfl (.free rfl) rfl (q_assign (v := .int .i64 (r17.2)) rfl rfl) ?_
    refine ro_nil ?_
    refine wp_ret ?_
    obtain ⟨x19, hx19, h⟩ := h
    exact ret_ok rfl (.cons (.cell (T := T33) (u := x19) (a := a5) ok34 rfl hx19) (.cons (.tmp (v := .int .i64 (r17.2)) rfl) .nil)) ⟨(x19, r17.2), rfl, h⟩

end Go.Proofs.Ytojcgejjdfcaaaa.Cf
