/- Characteristic formulae of Go functions, and that they are. Printed by gen.py (own tool). -/
import Derived.Test.YtjkmeooncmhonaaTy
namespace Go.Proofs.Ytjkmeooncmhonaa.Cf
open Go
set_option maxRecDepth 100000
set_option maxHeartbeats 1000000
set_option linter.unusedVariables false
set_option linter.unusedSimpArgs false

-- moiety/moietyref22.Same
def F9_l1 (a_1 : Slc) (b_2 : Slc) (i_3 : Int) (w4 : World) (K5 : Int → World → Prop) (R : Bool → World → Prop) : Prop :=
  if (decide (i_3 < (a_1.len : Int))) = true then (
    dr w4 fun w6 =>
    ex (IxA a_1 3 i_3) fun a7 =>
    ex (IxA b_2 3 i_3) fun a8 =>
    ex (RdAt (tInt .i64) (a7.add 0) w6) fun x9 =>
    ex (RdAt (tInt .i64) (a8.add 0) w6) fun x10 =>
    ex (fun x => (!(x9 != x10)) = true → (IxA a_1 3 i_3) x) fun a11 =>
    ex (fun x => (!(x9 != x10)) = true → (IxA b_2 3 i_3) x) fun a12 =>
    ex (fun x => (!(x9 != x10)) = true → (RdAt (tInt .i64) (a11.add 1) w6) x) fun x13 =>
    ex (fun x => (!(x9 != x10)) = true → (RdAt (tInt .i64) (a12.add 1) w6) x) fun x14 =>
    ex (fun x => (!((x9 != x10) || (x13 != x14))) = true → (IxA a_1 3 i_3) x) fun a15 =>
    ex (fun x => (!((x9 != x10) || (x13 != x14))) = true → (IxA b_2 3 i_3) x) fun a16 =>
    ex (fun x => (!((x9 != x10) || (x13 != x14))) = true → (RdAt tStr (a15.add 2) w6) x) fun x17 =>
    ex (fun x => (!((x9 != x10) || (x13 != x14))) = true → (RdAt tStr (a16.add 2) w6) x) fun x18 =>
    if (((x9 != x10) || (x13 != x14)) || (!(x17 == x18))) = true then (
      R false w6
    ) else (
      K5 ((IntKind.i64.wrap (i_3 + (1 : Int)))) w6
    )
  ) else (
    R true w4
  )
def F9 (a_1 : Slc) (b_2 : Slc) (w : World) (R : Bool → World → Prop) : Prop :=
  if ((a_1.len : Int) != (b_2.len : Int)) = true then (
    R false w
  ) else (
    lp (fun (s : Int) w K => F9_l1 a_1 b_2 s w K R) ((0 : Int)) w
  )
theorem F9_ok {a_1 : Slc} {b_2 : Slc} {w : World} {R : Bool → World → Prop} (h : F9 a_1 b_2 w R) : cl Try.prog 9 [tSlc.enc (a_1), tSlc.enc (b_2)] tBool w R := by
  unfold F9 at h
  refine calls_start 54 Try.func9 rfl rfl (Nat.le_of_ble_eq_true rfl) ?_
  refine wp_seq ?_
  refine wp_text [0] rfl ?_
  refine rv 4 rfl rfl rfl (q_assign (v := .bool (false)) rfl rfl) ?_
  refine ro_nil ?_
  refine wp_seq ?_
  refine wp_seq ?_
  refine wp_text [0, 1, 2, 3, 4] rfl ?_
  refine rv 6 rfl rfl rfl (q_move (v := tSlc.enc (a_1)) rfl rfl) ?_
  refine rv 7 rfl rfl rfl (q_len (s := a_1) rfl Try.underlying23 rfl) ?_
  refine rv 8 rfl rfl rfl (q_move (v := tSlc.enc (b_2)) rfl rfl) ?_
  refine rv 9 rfl rfl rfl (q_len (s := b_2) rfl Try.underlying23 rfl) ?_
  refine rv 10 rfl rfl rfl (q_neq (a := (a_1.len : Int)) (b := (b_2.len : Int)) rfl rfl rfl) ?_
  refine ro_nil ?_
  refine wp_if (b := ((a_1.len : Int) != (b_2.len : Int))) rfl h (fun hb21 h => ?_) (fun hb21 h => ?_)
  · refine wp_seq ?_
    refine wp_text [0] rfl ?_
    refine rv 4 rfl rfl rfl (q_assign (v := .bool (false)) rfl rfl) ?_
    refine ro_nil ?_
    refine wp_ret ?_
    exact ret_ok rfl (.cons (.tmp (v := .bool (false)) rfl) .nil) ⟨false, rfl, h⟩
  · refine wp_skip ?_
    refine wp_seq ?_
    refine wp_seq ?_
    refine wp_text [0] rfl ?_
    refine rv 5 rfl rfl rfl (q_assign (v := .int .i64 ((0 : Int))) rfl rfl) ?_
    refine ro_nil ?_
    refine wp_block ?_
    refine loop_at (σ := Int) (fr := fun g (s : Int) => upd (upd (upd (g) 0 (tSlc.enc (a_1))) 1 (tSlc.enc (b_2))) 5 (.int .i64 (s))) (s0 := ((0 : Int))) (upd_step (upd_step (upd_step rfl rfl) rfl) rfl) h ?_
    rintro i_3 g w4 K5 h
    unfold F9_l1 at h
    refine wp_seq ?_
    refine wp_seq ?_
    refine wp_text [0, 1, 2, 3] rfl ?_
    refine rv 11 rfl rfl rfl (q_move (v := .int .i64 (i_3)) rfl rfl) ?_
    refine rv 12 rfl rfl rfl (q_move (v := tSlc.enc (a_1)) rfl rfl) ?_
    refine rv 13 rfl rfl rfl (q_len (s := a_1) rfl Try.underlying23 rfl) ?_
    refine rv 14 rfl rfl rfl (q_lss (a := i_3) (b := (a_1.len : Int)) rfl rfl rfl) ?_
    refine ro_nil ?_
    refine wp_if (b := (decide (i_3 < (a_1.len : Int)))) rfl h (fun hb20 h => ?_) (fun hb20 h => ?_)
    · refine wp_skip ?_
      refine wp_seq ?_
      refine wp_block ?_
      refine wp_seq ?_
      obtain ⟨w6, hw6, h⟩ := dr_open h
      refine wp_drawn 37 mixed rfl (by kernel_rfl) (by intro c a d v w h; cases d <;> exact h) hw6 (fun hD => ?_)
      refine rp 0 17 hD rfl rfl rfl (fun _ => q_move (v := tSlc.enc (a_1)) rfl rfl) ?_
      refine rp 1 18 hD rfl rfl rfl (fun _ => q_move (v := .int .i64 (i_3)) rfl rfl) ?_
      obtain ⟨a7, ha7, h⟩ := h
      refine rp 2 19 hD rfl rfl rfl (fun _ => q_indexAddr (s := a_1) (i := i_3) rfl Try.underlying23 ok47 rfl rfl ha7) ?_
      refine rp 3 20 hD rfl rfl rfl (fun _ => q_fieldAddr (a := a7) (off := 0) rfl Try.underlying47 rfl rfl ok3 (by decide) rfl) ?_
      refine rp 5 22 hD rfl rfl rfl (fun _ => q_move (v := tSlc.enc (b_2)) rfl rfl) ?_
      refine rp 6 23 hD rfl rfl rfl (fun _ => q_move (v := .int .i64 (i_3)) rfl rfl) ?_
      obtain ⟨a8, ha8, h⟩ := h
      refine rp 7 24 hD rfl rfl rfl (fun _ => q_indexAddr (s := b_2) (i := i_3) rfl Try.underlying23 ok47 rfl rfl ha8) ?_
      refine rp 8 25 hD rfl rfl rfl (fun _ => q_fieldAddr (a := a8) (off := 0) rfl Try.underlying47 rfl rfl ok3 (by decide) rfl) ?_
      obtain ⟨x9, hx9, h⟩ := h
      refine rd_read (i := 4) (d := (some 21)) (fun W => (RdAt (tInt .i64) (a7.add 0) W) x9) hD (by kernel_rfl) (by kernel_rfl) rfl (.free rfl) rfl (fun W hr => q_load (T := (tInt .i64)) (u := x9) (a := (a7.add 0)) rfl ok3 rfl hr) hx9 ?_
      obtain ⟨x10, hx10, h⟩ := h
      refine rd_read (i := 9) (d := (some 26)) (fun W => (RdAt (tInt .i64) (a8.add 0) W) x10) hD (by kernel_rfl) (by kernel_rfl) rfl (.free rfl) rfl (fun W hr => q_load (T := (tInt .i64)) (u := x10) (a := (a8.add 0)) rfl ok3 rfl hr) hx10 ?_
      refine rp 10 27 hD rfl rfl rfl (fun _ => q_neq (a := x9) (b := x10) rfl rfl rfl) ?_
      refine rp 11 28 hD rfl rfl rfl (fun _ => q_move (v := .bool ((x9 != x10))) rfl rfl) ?_
      refine rd_gpure (i := 12) (g := (!(x9 != x10))) (d := (some 29)) hD (by kernel_rfl) (by kernel_rfl) rfl (.no 11 28 true (x9 != x10) rfl rfl rfl rfl) rfl (fun hg _ => q_move (v := tSlc.enc (a_1)) rfl rfl) ?_
      refine rd_gpure (i := 13) (g := (!(x9 != x10))) (d := (some 30)) hD (by kernel_rfl) (by kernel_rfl) rfl (.no 11 28 true (x9 != x10) rfl rfl rfl rfl) rfl (fun hg _ => q_move (v := .int .i64 (i_3)) rfl rfl) ?_
      obtain ⟨a11, ha11, h⟩ := h
      refine rd_gpure (i := 14) (g := (!(x9 != x10))) (d := (some 31)) hD (by kernel_rfl) (by kernel_rfl) rfl (.no 11 28 true (x9 != x10) rfl rfl rfl rfl) rfl (fun hg _ => q_indexAddr (s := a_1) (i := i_3) rfl Try.underlying23 ok47 (gvb_yes hg) (gvb_yes hg) (ha11 hg)) ?_
      refine rd_gpure (i := 15) (g := (!(x9 != x10))) (d := (some 32)) hD (by kernel_rfl) (by kernel_rfl) rfl (.no 11 28 true (x9 != x10) rfl rfl rfl rfl) rfl (fun hg _ => q_fieldAddr (a := a11) (off := 1) rfl Try.underlying47 rfl rfl ok2 (by decide) (gvb_yes hg)) ?_
      refine rd_gpure (i := 17) (g := (!(x9 != x10))) (d := (some 34)) hD (by kernel_rfl) (by kernel_rfl) rfl (.no 11 28 true (x9 != x10) rfl rfl rfl rfl) rfl (fun hg _ => q_move (v := tSlc.enc (b_2)) rfl rfl) ?_
      refine rd_gpure (i := 18) (g := (!(x9 != x10))) (d := (some 35)) hD (by kernel_rfl) (by kernel_rfl) rfl (.no 11 28 true (x9 != x10) rfl rfl rfl rfl) rfl (fun hg _ => q_move (v := .int .i64 (i_3)) rfl rfl) ?_
      obtain ⟨a12, ha12, h⟩ := h
      refine rd_gpure (i := 19) (g := (!(x9 != x10))) (d := (some 36)) hD (by kernel_rfl) (by kernel_rfl) rfl (.no 11 28 true (x9 != x10) rfl rfl rfl rfl) rfl (fun hg _ => q_indexAddr (s := b_2) (i := i_3) rfl Try.underlying23 ok47 (gvb_yes hg) (gvb_yes hg) (ha12 hg)) ?_
      refine rd_gpure (i := 20) (g := (!(x9 != x10))) (d := (some 37)) hD (by kernel_rfl) (by kernel_rfl) rfl (.no 11 28 true (x9 != x10) rfl rfl rfl rfl) rfl (fun hg _ => q_fieldAddr (a := a12) (off := 1) rfl Try.underlying47 rfl rfl ok2 (by decide) (gvb_yes hg)) ?_
      obtain ⟨x13, hx13, h⟩ := h
      refine rd_gread (i := 16) (g := (!(x9 != x10))) (d := (some 33)) (fun W => (RdAt (tInt .i64) (a11.add 1) W) x13) hD (by kernel_rfl) (by kernel_rfl) rfl (.no 11 28 true (x9 != x10) rfl rfl rfl rfl) rfl (fun hg W hr => q_load (T := (tInt .i64)) (u := x13) (a := (a11.add 1)) rfl ok2 (gvb_yes hg) hr) hx13 ?_
      obtain ⟨x14, hx14, h⟩ := h
      refine rd_gread (i := 21) (g := (!(x9 != x10))) (d := (some 38)) (fun W => (RdAt (tInt .i64) (a12.add 1) W) x14) hD (by kernel_rfl) (by kernel_rfl) rfl (.no 11 28 true (x9 != x10) rfl rfl rfl rfl) rfl (fun hg W hr => q_load (T := (tInt .i64)) (u := x14) (a := (a12.add 1)) rfl ok2 (gvb_yes hg) hr) hx14 ?_
      refine rd_gpure (i := 22) (g := (!(x9 != x10))) (d := (some 39)) hD (by kernel_rfl) (by kernel_rfl) rfl (.no 11 28 true (x9 != x10) rfl rfl rfl rfl) rfl (fun hg _ => q_neq (a := x13) (b := x14) rfl (gvb_yes hg) (gvb_yes hg)) ?_
      refine rp 23 40 hD rfl rfl rfl (fun _ => q_pickGF (a := (x9 != x10)) (c := (x13 != x14)) rfl rfl rfl rfl) ?_
      refine rp 24 41 hD rfl rfl rfl (fun _ => q_move (v := .bool (((x9 != x10) || (x13 != x14)))) rfl rfl) ?_
      refine rd_gpure (i := 25) (g := (!((x9 != x10) || (x13 != x14)))) (d := (some 42)) hD (by kernel_rfl) (by kernel_rfl) rfl (.no 24 41 true ((x9 != x10) || (x13 != x14)) rfl rfl rfl rfl) rfl (fun hg _ => q_move (v := tSlc.enc (a_1)) rfl rfl) ?_
      refine rd_gpure (i := 26) (g := (!((x9 != x10) || (x13 != x14)))) (d := (some 43)) hD (by kernel_rfl) (by kernel_rfl) rfl (.no 24 41 true ((x9 != x10) || (x13 != x14)) rfl rfl rfl rfl) rfl (fun hg _ => q_move (v := .int .i64 (i_3)) rfl rfl) ?_
      obtain ⟨a15, ha15, h⟩ := h
      refine rd_gpure (i := 27) (g := (!((x9 != x10) || (x13 != x14)))) (d := (some 44)) hD (by kernel_rfl) (by kernel_rfl) rfl (.no 24 41 true ((x9 != x10) || (x13 != x14)) rfl rfl rfl rfl) rfl (fun hg _ => q_indexAddr (s := a_1) (i := i_3) rfl Try.underlying23 ok47 (gvb_yes hg) (gvb_yes hg) (ha15 hg)) ?_
      refine rd_gpure (i := 28) (g := (!((x9 != x10) || (x13 != x14)))) (d := (some 45)) hD (by kernel_rfl) (by kernel_rfl) rfl (.no 24 41 true ((x9 != x10) || (x13 != x14)) rfl rfl rfl rfl) rfl (fun hg _ => q_fieldAddr (a := a15) (off := 2) rfl Try.underlying47 rfl rfl ok9 (by decide) (gvb_yes hg)) ?_
      refine rd_gpure (i := 30) (g := (!((x9 != x10) || (x13 != x14)))) (d := (some 47)) hD (by kernel_rfl) (by kernel_rfl) rfl (.no 24 41 true ((x9 != x10) || (x13 != x14)) rfl rfl rfl rfl) rfl (fun hg _ => q_move (v := tSlc.enc (b_2)) rfl rfl) ?_
      refine rd_gpure (i := 31) (g := (!((x9 != x10) || (x13 != x14)))) (d := (some 48)) hD (by kernel_rfl) (by kernel_rfl) rfl (.no 24 41 true ((x9 != x10) || (x13 != x14)) rfl rfl rfl rfl) rfl (fun hg _ => q_move (v := .int .i64 (i_3)) rfl rfl) ?_
      obtain ⟨a16, ha16, h⟩ := h
      refine rd_gpure (i := 32) (g := (!((x9 != x10) || (x13 != x14)))) (d := (some 49)) hD (by kernel_rfl) (by kernel_rfl) rfl (.no 24 41 true ((x9 != x10) || (x13 != x14)) rfl rfl rfl rfl) rfl (fun hg _ => q_indexAddr (s := b_2) (i := i_3) rfl Try.underlying23 ok47 (gvb_yes hg) (gvb_yes hg) (ha16 hg)) ?_
      refine rd_gpure (i := 33) (g := (!((x9 != x10) || (x13 != x14)))) (d := (some 50)) hD (by kernel_rfl) (by kernel_rfl) rfl (.no 24 41 true ((x9 != x10) || (x13 != x14)) rfl rfl rfl rfl) rfl (fun hg _ => q_fieldAddr (a := a16) (off := 2) rfl Try.underlying47 rfl rfl ok9 (by decide) (gvb_yes hg)) ?_
      obtain ⟨x17, hx17, h⟩ := h
      refine rd_gread (i := 29) (g := (!((x9 != x10) || (x13 != x14)))) (d := (some 46)) (fun W => (RdAt tStr (a15.add 2) W) x17) hD (by kernel_rfl) (by kernel_rfl) rfl (.no 24 41 true ((x9 != x10) || (x13 != x14)) rfl rfl rfl rfl) rfl (fun hg W hr => q_load (T := tStr) (u := x17) (a := (a15.add 2)) rfl ok9 (gvb_yes hg) hr) hx17 ?_
      obtain ⟨x18, hx18, h⟩ := h
      refine rd_gread (i := 34) (g := (!((x9 != x10) || (x13 != x14)))) (d := (some 51)) (fun W => (RdAt tStr (a16.add 2) W) x18) hD (by kernel_rfl) (by kernel_rfl) rfl (.no 24 41 true ((x9 != x10) || (x13 != x14)) rfl rfl rfl rfl) rfl (fun hg W hr => q_load (T := tStr) (u := x18) (a := (a16.add 2)) rfl ok9 (gvb_yes hg) hr) hx18 ?_
      refine rd_gpure (i := 35) (g := (!((x9 != x10) || (x13 != x14)))) (d := (some 52)) hD (by kernel_rfl) (by kernel_rfl) rfl (.no 24 41 true ((x9 != x10) || (x13 != x14)) rfl rfl rfl rfl) rfl (fun hg _ => q_neS (a := x17) (b := x18) rfl (gvb_yes hg) (gvb_yes hg)) ?_
      refine rp 36 53 hD rfl rfl rfl (fun _ => q_pickGF (a := ((x9 != x10) || (x13 != x14))) (c := (!(x17 == x18))) rfl rfl rfl rfl) ?_
      refine rd_nil (by kernel_rfl) ?_
      refine wp_if (b := (((x9 != x10) || (x13 != x14)) || (!(x17 == x18)))) rfl h (fun hb19 h => ?_) (fun hb19 h => ?_)
      · refine wp_seq ?_
        refine wp_text [0] rfl ?_
        refine rv 4 rfl rfl rfl (q_assign (v := .bool (false)) rfl rfl) ?_
        refine ro_nil ?_
        refine wp_ret ?_
        exact ret_ok rfl (.cons (.tmp (v := .bool (false)) rfl) .nil) ⟨false, rfl, h⟩
      · refine wp_skip ?_
        refine wp_text [0, 1, 2] rfl ?_
        refine rv 15 rfl rfl rfl (q_move (v := .int .i64 (i_3)) rfl rfl) ?_
        refine rv 16 rfl rfl rfl (q_add (a := i_3) (b := (1 : Int)) rfl rfl rfl) ?_
        refine rv 5 rfl rfl rfl (q_assign (v := .int .i64 ((IntKind.i64.wrap (i_3 + (1 : Int))))) rfl rfl) ?_
        refine ro_nil ?_
        exact ⟨((IntKind.i64.wrap (i_3 + (1 : Int)))), _, arr (upd_step (upd_step (upd_step rfl rfl) rfl) rfl), h⟩
    · refine wp_exit ?_
      refine wp_seq ?_
      refine wp_text [0] rfl ?_
      refine rv 4 rfl rfl rfl (q_assign (v := .bool (true)) rfl rfl) ?_
      refine ro_nil ?_
      refine wp_ret ?_
      exact ret_ok rfl (.cons (.tmp (v := .bool (true)) rfl) .nil) ⟨true, rfl, h⟩

-- moiety/moietyref22.Pick
def F10_j3 (i_15 : Int) (out_18 : Slc) (w19 : World) (K17 : Slc × Int → World → Prop) (R : Slc → World → Prop) : Prop :=
  K17 (out_18, (IntKind.i64.wrap (i_15 + (1 : Int)))) w19
def F10_j5 (k_21 : Int) (best_24 : Bool) (w25 : World) (K23 : Bool × Int → World → Prop) (R : Slc → World → Prop) : Prop :=
  K23 (best_24, (IntKind.i64.wrap (k_21 + (1 : Int)))) w25
def F10_l4 (all_4 : Slc) (out_14 : Slc) (i_15 : Int) (best_20 : Bool) (k_21 : Int) (w22 : World) (K17 : Slc × Int → World → Prop) (K23 : Bool × Int → World → Prop) (R : Slc → World → Prop) : Prop :=
  if (decide (k_21 < (all_4.len : Int))) = true then (
    dr w22 fun w26 =>
    ex (IxA all_4 3 k_21) fun a27 =>
    ex (IxA all_4 3 i_15) fun a28 =>
    ex (RdAt (tInt .i64) (a27.add 0) w26) fun x29 =>
    ex (RdAt (tInt .i64) (a28.add 0) w26) fun x30 =>
    ex (fun x => (x29 == x30) = true → (IxA all_4 3 k_21) x) fun a31 =>
    ex (fun x => (x29 == x30) = true → (IxA all_4 3 i_15) x) fun a32 =>
    ex (fun x => (x29 == x30) = true → (RdAt (tInt .i64) (a31.add 1) w26) x) fun x33 =>
    ex (fun x => (x29 == x30) = true → (RdAt (tInt .i64) (a32.add 1) w26) x) fun x34 =>
    ex (fun x => ((x29 == x30) && (!(decide (x33 > x34)))) = true → (IxA all_4 3 k_21) x) fun a35 =>
    ex (fun x => ((x29 == x30) && (!(decide (x33 > x34)))) = true → (IxA all_4 3 i_15) x) fun a36 =>
    ex (fun x => ((x29 == x30) && (!(decide (x33 > x34)))) = true → (RdAt (tInt .i64) (a35.add 1) w26) x) fun x37 =>
    ex (fun x => ((x29 == x30) && (!(decide (x33 > x34)))) = true → (RdAt (tInt .i64) (a36.add 1) w26) x) fun x38 =>
    if ((x29 == x30) && ((decide (x33 > x34)) || ((x37 == x38) && (decide (k_21 < i_15))))) = true then (
      F10_j5 k_21 false w26 K23 R
    ) else (
      F10_j5 k_21 best_20 w26 K23 R
    )
  ) else (
    if best_20 = true then (
      ex (IxA all_4 3 i_15) fun a40 =>
      ex (RdAt (tInt .i64) (a40.add 0) w22) fun x41 =>
      cl Try.prog 23 [tSlc.enc (out_14), .int .i64 (x41)] (tTup2 (tInt .i64) tBool) w22 fun r43 w42 =>
      dr w42 fun w44 =>
      ex (Sub out_14 3 0 r43.1 ((out_14).cap : Int)) fun s45 =>
      ex (IxA all_4 3 i_15) fun a46 =>
      ex (Sub out_14 3 r43.1 ((out_14).len : Int) ((out_14).cap : Int)) fun s47 =>
      ex (RdAt T46 a46 w44) fun x48 =>
      bth (
        nwS 47 T46 ([] : List S46) w44 fun a49 w50 =>
        bth (
          apd 47 T46 3 32 (⟨some a49, 0, 0⟩ : Slc) s45 w50 fun r52 w51 =>
          kp ((RdAt T46 a46 w51) x48) <|
          apl 47 T46 3 32 r52 [x48] w51 fun r57 w56 =>
          kp ((RdAt T46 a46 w56) x48) <|
          apd 47 T46 3 32 r57 s47 w56 fun r60 w59 =>
          kp ((RdAt T46 a46 w59) x48) <|
          F10_j3 i_15 r60 w59 K17 R
        ) (
          nwS 47 T46 [x48] w50 fun a62 w63 =>
          apd 47 T46 3 32 (⟨some a49, 0, 0⟩ : Slc) s45 w63 fun r65 w64 =>
          kp ((RdAt T46 a46 w64) x48) <|
          apd 47 T46 3 32 r65 (⟨some a62, 1, 1⟩ : Slc) w64 fun r68 w67 =>
          kp ((RdAt T46 a46 w67) x48) <|
          apd 47 T46 3 32 r68 s47 w67 fun r71 w70 =>
          kp ((RdAt T46 a46 w70) x48) <|
          F10_j3 i_15 r71 w70 K17 R
        )
      ) (
        nwS 47 T46 [x48] w44 fun a73 w74 =>
        nwS 47 T46 ([] : List S46) w74 fun a75 w76 =>
        apd 47 T46 3 32 (⟨some a75, 0, 0⟩ : Slc) s45 w76 fun r78 w77 =>
        kp ((RdAt T46 a46 w77) x48) <|
        apd 47 T46 3 32 r78 (⟨some a73, 1, 1⟩ : Slc) w77 fun r81 w80 =>
        kp ((RdAt T46 a46 w80) x48) <|
        apd 47 T46 3 32 r81 s47 w80 fun r84 w83 =>
        kp ((RdAt T46 a46 w83) x48) <|
        F10_j3 i_15 r84 w83 K17 R
      )
    ) else (
      F10_j3 i_15 out_14 w22 K17 R
    )
  )
def F10_l2 (all_4 : Slc) (out_14 : Slc) (i_15 : Int) (w16 : World) (K17 : Slc × Int → World → Prop) (R : Slc → World → Prop) : Prop :=
  if (decide (i_15 < (all_4.len : Int))) = true then (
    lp (fun (s : Bool × Int) w K => F10_l4 all_4 out_14 i_15 s.1 s.2 w K17 K R) (true, (0 : Int)) w16
  ) else (
    R out_14 w16
  )
def F10_l1 (l_1 : Slc) (all_4 : Slc) (i_5 : Int) (w6 : World) (K7 : Slc × Int → World → Prop) (R : Slc → World → Prop) : Prop :=
  if (decide (i_5 < (l_1.len : Int))) = true then (
    ex (IxA l_1 1 i_5) fun a8 =>
    ex (RdAt tSlc a8 w6) fun x9 =>
    apd 47 T46 3 32 all_4 x9 w6 fun r11 w10 =>
    K7 (r11, (IntKind.i64.wrap (i_5 + (1 : Int)))) w10
  ) else (
    nwS 47 T46 ([] : List S46) w6 fun a12 w13 =>
    lp (fun (s : Slc × Int) w K => F10_l2 all_4 s.1 s.2 w K R) ((⟨some a12, 0, 0⟩ : Slc), (0 : Int)) w13
  )
def F10 (l_1 : Slc) (w : World) (R : Slc → World → Prop) : Prop :=
  nwS 47 T46 ([] : List S46) w fun a2 w3 =>
  lp (fun (s : Slc × Int) w K => F10_l1 l_1 s.1 s.2 w K R) ((⟨some a2, 0, 0⟩ : Slc), (0 : Int)) w3
theorem F10_ok {l_1 : Slc} {w : World} {R : Slc → World → Prop} (h : F10 l_1 w R) : cl Try.prog 10 [tSlc.enc (l_1)] tSlc w R := by
  unfold F10 at h
  refine calls_start 106 Try.func10 rfl rfl (Nat.le_of_ble_eq_true rfl) ?_
  refine wp_seq ?_
  refine wp_text [0] rfl ?_
  refine rv 2 rfl rfl rfl (q_assign (v := tSlc.enc ((⟨none, 0, 0⟩ : Slc))) rfl rfl) ?_
  refine ro_nil ?_
  refine wp_seq ?_
  refine wp_text [0, 1] rfl ?_
  obtain ⟨a2, w3, ha2, hw3, h⟩ := nwS_open h
  refine rv 11 rfl rfl rfl (q_row0 (T := T46) rfl Try.underlying23 ok47 inf47 ha2 hw3) ?_
  refine rv 3 rfl rfl rfl (q_assign (v := tSlc.enc ((⟨some a2, 0, 0⟩ : Slc))) rfl rfl) ?_
  refine ro_nil ?_
  refine wp_seq ?_
  refine wp_seq ?_
  refine wp_text [0] rfl ?_
  refine rv 4 rfl rfl rfl (q_assign (v := .int .i64 ((0 : Int))) rfl rfl) ?_
  refine ro_nil ?_
  refine wp_block ?_
  refine loop_at (σ := Slc × Int) (fr := fun g (s : Slc × Int) => upd (upd (upd (g) 0 (tSlc.enc (l_1))) 3 (tSlc.enc (s.1))) 4 (.int .i64 (s.2))) (s0 := ((⟨some a2, 0, 0⟩ : Slc), (0 : Int))) (upd_step (upd_step (upd_step rfl rfl) rfl) rfl) h ?_
  rintro ⟨all_4, i_5⟩ g w6 K7 h
  unfold F10_l1 at h
  refine wp_seq ?_
  refine wp_seq ?_
  refine wp_text [0, 1, 2, 3] rfl ?_
  refine rv 12 rfl rfl rfl (q_move (v := .int .i64 (i_5)) rfl rfl) ?_
  refine rv 13 rfl rfl rfl (q_move (v := tSlc.enc (l_1)) rfl rfl) ?_
  refine rv 14 rfl rfl rfl (q_len (s := l_1) rfl Try.underlying22 rfl) ?_
  refine rv 15 rfl rfl rfl (q_lss (a := i_5) (b := (l_1.len : Int)) rfl rfl rfl) ?_
  refine ro_nil ?_
  refine wp_if (b := (decide (i_5 < (l_1.len : Int)))) rfl h (fun hb89 h => ?_) (fun hb89 h => ?_)
  · refine wp_skip ?_
    refine wp_seq ?_
    refine wp_block ?_
    refine wp_text [0, 1, 2, 3, 4, 5, 6] rfl ?_
    refine rv 18 rfl rfl rfl (q_move (v := tSlc.enc (all_4)) rfl rfl) ?_
    refine rv 19 rfl rfl rfl (q_move (v := tSlc.enc (l_1)) rfl rfl) ?_
    refine rv 20 rfl rfl rfl (q_move (v := .int .i64 (i_5)) rfl rfl) ?_
    obtain ⟨a8, ha8, h⟩ := h
    refine rv 21 rfl rfl rfl (q_indexAddr (s := l_1) (i := i_5) rfl Try.underlying22 ok23 rfl rfl ha8) ?_
    obtain ⟨x9, hx9, h⟩ := h
    refine rv 22 rfl rfl rfl (q_load (T := tSlc) (u := x9) (a := a8) rfl ok23 rfl hx9) ?_
    refine ro_wp rfl (.free rfl) (wp_append (d := (some 23)) (T := T46) rfl rfl Try.underlying23 ⟨_, Try.underlying23⟩ ok47 inf47 rfl rfl (Nat.lt_of_lt_of_le Nat.zero_lt_one (Nat.le_of_ble_eq_true rfl)) rfl rfl h ?_)
    intro r11 w10 h
    refine rv 3 rfl rfl rfl (q_assign (v := tSlc.enc (r11)) rfl rfl) ?_
    refine ro_nil ?_
    refine wp_text [0, 1, 2] rfl ?_
    refine rv 16 rfl rfl rfl (q_move (v := .int .i64 (i_5)) rfl rfl) ?_
    refine rv 17 rfl rfl rfl (q_add (a := i_5) (b := (1 : Int)) rfl rfl rfl) ?_
    refine rv 4 rfl rfl rfl (q_assign (v := .int .i64 ((IntKind.i64.wrap (i_5 + (1 : Int))))) rfl rfl) ?_
    refine ro_nil ?_
    exact ⟨(r11, (IntKind.i64.wrap (i_5 + (1 : Int)))), _, arr (upd_step (upd_step (upd_step rfl rfl) rfl) rfl), h⟩
  · refine wp_exit ?_
    refine wp_seq ?_
    refine wp_text [0, 1] rfl ?_
    obtain ⟨a12, w13, ha12, hw13, h⟩ := nwS_open h
    refine rv 24 rfl rfl rfl (q_row0 (T := T46) rfl Try.underlying23 ok47 inf47 ha12 hw13) ?_
    refine rv 5 rfl rfl rfl (q_assign (v := tSlc.enc ((⟨some a12, 0, 0⟩ : Slc))) rfl rfl) ?_
    refine ro_nil ?_
    refine wp_seq ?_
    refine wp_seq ?_
    refine wp_text [0] rfl ?_
    refine rv 6 rfl rfl rfl (q_assign (v := .int .i64 ((0 : Int))) rfl rfl) ?_
    refine ro_nil ?_
    refine wp_block ?_
    refine loop_at (σ := Slc × Int) (fr := fun g (s : Slc × Int) => upd (upd (upd (g) 3 (tSlc.enc (all_4))) 5 (tSlc.enc (s.1))) 6 (.int .i64 (s.2))) (s0 := ((⟨some a12, 0, 0⟩ : Slc), (0 : Int))) (upd_step (upd_step (upd_step rfl rfl) rfl) rfl) h ?_
    rintro ⟨out_14, i_15⟩ g w16 K17 h
    unfold F10_l2 at h
    refine wp_seq ?_
    refine wp_seq ?_
    refine wp_text [0, 1, 2, 3] rfl ?_
    refine rv 25 rfl rfl rfl (q_move (v := .int .i64 (i_15)) rfl rfl) ?_
    refine rv 26 rfl rfl rfl (q_move (v := tSlc.enc (all_4)) rfl rfl) ?_
    refine rv 27 rfl rfl rfl (q_len (s := all_4) rfl Try.underlying23 rfl) ?_
    refine rv 28 rfl rfl rfl (q_lss (a := i_15) (b := (all_4.len : Int)) rfl rfl rfl) ?_
    refine ro_nil ?_
    refine wp_if (b := (decide (i_15 < (all_4.len : Int)))) rfl h (fun hb88 h => ?_) (fun hb88 h => ?_)
    · refine wp_skip ?_
      refine seq_join (σ := Slc) (J := fun (s : Slc) w => F10_j3 i_15 s w K17 R) (fr := fun g (s : Slc) => upd (upd (upd (g) 3 (tSlc.enc (all_4))) 6 (.int .i64 (i_15))) 5 (tSlc.enc (s))) ?_ ?_
      · rintro out_18 g w19 h
        unfold F10_j3 at h
        refine wp_text [0, 1, 2] rfl ?_
        refine rv 29 rfl rfl rfl (q_move (v := .int .i64 (i_15)) rfl rfl) ?_
        refine rv 30 rfl rfl rfl (q_add (a := i_15) (b := (1 : Int)) rfl rfl rfl) ?_
        refine rv 6 rfl rfl rfl (q_assign (v := .int .i64 ((IntKind.i64.wrap (i_15 + (1 : Int))))) rfl rfl) ?_
        refine ro_nil ?_
        exact ⟨(out_18, (IntKind.i64.wrap (i_15 + (1 : Int)))), _, arr (upd_step (upd_step (upd_step rfl rfl) rfl) rfl), h⟩
      · refine wp_block ?_
        refine wp_seq ?_
        refine wp_text [0] rfl ?_
        refine rv 7 rfl rfl rfl (q_assign (v := .bool (true)) rfl rfl) ?_
        refine ro_nil ?_
        refine wp_seq ?_
        refine wp_seq ?_
        refine wp_text [0] rfl ?_
        refine rv 8 rfl rfl rfl (q_assign (v := .int .i64 ((0 : Int))) rfl rfl) ?_
        refine ro_nil ?_
        refine wp_block ?_
        refine loop_at (σ := Bool × Int) (fr := fun g (s : Bool × Int) => upd (upd (upd (upd (upd (g) 3 (tSlc.enc (all_4))) 5 (tSlc.enc (out_14))) 6 (.int .i64 (i_15))) 7 (.bool (s.1))) 8 (.int .i64 (s.2))) (s0 := (true, (0 : Int))) (upd_step (upd_step (upd_step (upd_step (upd_step rfl rfl) rfl) rfl) rfl) rfl) h ?_
        rintro ⟨best_20, k_21⟩ g w22 K23 h
        unfold F10_l4 at h
        refine wp_seq ?_
        refine wp_seq ?_
        refine wp_text [0, 1, 2, 3] rfl ?_
        refine rv 31 rfl rfl rfl (q_move (v := .int .i64 (k_21)) rfl rfl) ?_
        refine rv 32 rfl rfl rfl (q_move (v := tSlc.enc (all_4)) rfl rfl) ?_
        refine rv 33 rfl rfl rfl (q_len (s := all_4) rfl Try.underlying23 rfl) ?_
        refine rv 34 rfl rfl rfl (q_lss (a := k_21) (b := (all_4.len : Int)) rfl rfl rfl) ?_
        refine ro_nil ?_
        refine wp_if (b := (decide (k_21 < (all_4.len : Int)))) rfl h (fun hb87 h => ?_) (fun hb87 h => ?_)
        · refine wp_skip ?_
          refine seq_join (σ := Bool) (J := fun (s : Bool) w => F10_j5 k_21 s w K23 R) (fr := fun g (s : Bool) => upd (upd (upd (upd (upd (g) 3 (tSlc.enc (all_4))) 5 (tSlc.enc (out_14))) 6 (.int .i64 (i_15))) 8 (.int .i64 (k_21))) 7 (.bool (s))) ?_ ?_
          · rintro best_24 g w25 h
            unfold F10_j5 at h
            refine wp_text [0, 1, 2] rfl ?_
            refine rv 35 rfl rfl rfl (q_move (v := .int .i64 (k_21)) rfl rfl) ?_
            refine rv 36 rfl rfl rfl (q_add (a := k_21) (b := (1 : Int)) rfl rfl rfl) ?_
            refine rv 8 rfl rfl rfl (q_assign (v := .int .i64 ((IntKind.i64.wrap (k_21 + (1 : Int))))) rfl rfl) ?_
            refine ro_nil ?_
            exact ⟨(best_24, (IntKind.i64.wrap (k_21 + (1 : Int)))), _, arr (upd_step (upd_step (upd_step (upd_step (upd_step rfl rfl) rfl) rfl) rfl) rfl), h⟩
          · refine wp_block ?_
            refine wp_seq ?_
            obtain ⟨w26, hw26, h⟩ := dr_open h
            refine wp_drawn 42 mixed rfl (by kernel_rfl) (by intro c a d v w h; cases d <;> exact h) hw26 (fun hD => ?_)
            refine rp 0 37 hD rfl rfl rfl (fun _ => q_move (v := tSlc.enc (all_4)) rfl rfl) ?_
            refine rp 1 38 hD rfl rfl rfl (fun _ => q_move (v := .int .i64 (k_21)) rfl rfl) ?_
            obtain ⟨a27, ha27, h⟩ := h
            refine rp 2 39 hD rfl rfl rfl (fun _ => q_indexAddr (s := all_4) (i := k_21) rfl Try.underlying23 ok47 rfl rfl ha27) ?_
            refine rp 3 40 hD rfl rfl rfl (fun _ => q_fieldAddr (a := a27) (off := 0) rfl Try.underlying47 rfl rfl ok3 (by decide) rfl) ?_
            refine rp 5 42 hD rfl rfl rfl (fun _ => q_move (v := tSlc.enc (all_4)) rfl rfl) ?_
            refine rp 6 43 hD rfl rfl rfl (fun _ => q_move (v := .int .i64 (i_15)) rfl rfl) ?_
            obtain ⟨a28, ha28, h⟩ := h
            refine rp 7 44 hD rfl rfl rfl (fun _ => q_indexAddr (s := all_4) (i := i_15) rfl Try.underlying23 ok47 rfl rfl ha28) ?_
            refine rp 8 45 hD rfl rfl rfl (fun _ => q_fieldAddr (a := a28) (off := 0) rfl Try.underlying47 rfl rfl ok3 (by decide) rfl) ?_
            obtain ⟨x29, hx29, h⟩ := h
            refine rd_read (i := 4) (d := (some 41)) (fun W => (RdAt (tInt .i64) (a27.add 0) W) x29) hD (by kernel_rfl) (by kernel_rfl) rfl (.free rfl) rfl (fun W hr => q_load (T := (tInt .i64)) (u := x29) (a := (a27.add 0)) rfl ok3 rfl hr) hx29 ?_
            obtain ⟨x30, hx30, h⟩ := h
            refine rd_read (i := 9) (d := (some 46)) (fun W => (RdAt (tInt .i64) (a28.add 0) W) x30) hD (by kernel_rfl) (by kernel_rfl) rfl (.free rfl) rfl (fun W hr => q_load (T := (tInt .i64)) (u := x30) (a := (a28.add 0)) rfl ok3 rfl hr) hx30 ?_
            refine rp 10 47 hD rfl rfl rfl (fun _ => q_eql (a := x29) (b := x30) rfl rfl rfl) ?_
            refine rp 11 48 hD rfl rfl rfl (fun _ => q_move (v := .bool ((x29 == x30))) rfl rfl) ?_
            refine rd_gpure (i := 12) (g := (x29 == x30)) (d := (some 49)) hD (by kernel_rfl) (by kernel_rfl) rfl (.yes 11 48 true (x29 == x30) rfl rfl rfl rfl) rfl (fun hg _ => q_move (v := tSlc.enc (all_4)) rfl rfl) ?_
            refine rd_gpure (i := 13) (g := (x29 == x30)) (d := (some 50)) hD (by kernel_rfl) (by kernel_rfl) rfl (.yes 11 48 true (x29 == x30) rfl rfl rfl rfl) rfl (fun hg _ => q_move (v := .int .i64 (k_21)) rfl rfl) ?_
            obtain ⟨a31, ha31, h⟩ := h
            refine rd_gpure (i := 14) (g := (x29 == x30)) (d := (some 51)) hD (by kernel_rfl) (by kernel_rfl) rfl (.yes 11 48 true (x29 == x30) rfl rfl rfl rfl) rfl (fun hg _ => q_indexAddr (s := all_4) (i := k_21) rfl Try.underlying23 ok47 (gvb_yes hg) (gvb_yes hg) (ha31 hg)) ?_
            refine rd_gpure (i := 15) (g := (x29 == x30)) (d := (some 52)) hD (by kernel_rfl) (by kernel_rfl) rfl (.yes 11 48 true (x29 == x30) rfl rfl rfl rfl) rfl (fun hg _ => q_fieldAddr (a := a31) (off := 1) rfl Try.underlying47 rfl rfl ok2 (by decide) (gvb_yes hg)) ?_
            refine rd_gpure (i := 17) (g := (x29 == x30)) (d := (some 54)) hD (by kernel_rfl) (by kernel_rfl) rfl (.yes 11 48 true (x29 == x30) rfl rfl rfl rfl) rfl (fun hg _ => q_move (v := tSlc.enc (all_4)) rfl rfl) ?_
            refine rd_gpure (i := 18) (g := (x29 == x30)) (d := (some 55)) hD (by kernel_rfl) (by kernel_rfl) rfl (.yes 11 48 true (x29 == x30) rfl rfl rfl rfl) rfl (fun hg _ => q_move (v := .int .i64 (i_15)) rfl rfl) ?_
            obtain ⟨a32, ha32, h⟩ := h
            refine rd_gpure (i := 19) (g := (x29 == x30)) (d := (some 56)) hD (by kernel_rfl) (by kernel_rfl) rfl (.yes 11 48 true (x29 == x30) rfl rfl rfl rfl) rfl (fun hg _ => q_indexAddr (s := all_4) (i := i_15) rfl Try.underlying23 ok47 (gvb_yes hg) (gvb_yes hg) (ha32 hg)) ?_
            refine rd_gpure (i := 20) (g := (x29 == x30)) (d := (some 57)) hD (by kernel_rfl) (by kernel_rfl) rfl (.yes 11 48 true (x29 == x30) rfl rfl rfl rfl) rfl (fun hg _ => q_fieldAddr (a := a32) (off := 1) rfl Try.underlying47 rfl rfl ok2 (by decide) (gvb_yes hg)) ?_
            obtain ⟨x33, hx33, h⟩ := h
            refine rd_gread (i := 16) (g := (x29 == x30)) (d := (some 53)) (fun W => (RdAt (tInt .i64) (a31.add 1) W) x33) hD (by kernel_rfl) (by kernel_rfl) rfl (.yes 11 48 true (x29 == x30) rfl rfl rfl rfl) rfl (fun hg W hr => q_load (T := (tInt .i64)) (u := x33) (a := (a31.add 1)) rfl ok2 (gvb_yes hg) hr) hx33 ?_
            obtain ⟨x34, hx34, h⟩ := h
            refine rd_gread (i := 21) (g := (x29 == x30)) (d := (some 58)) (fun W => (RdAt (tInt .i64) (a32.add 1) W) x34) hD (by kernel_rfl) (by kernel_rfl) rfl (.yes 11 48 true (x29 == x30) rfl rfl rfl rfl) rfl (fun hg W hr => q_load (T := (tInt .i64)) (u := x34) (a := (a32.add 1)) rfl ok2 (gvb_yes hg) hr) hx34 ?_
            refine rd_gpure (i := 22) (g := (x29 == x30)) (d := (some 59)) hD (by kernel_rfl) (by kernel_rfl) rfl (.yes 11 48 true (x29 == x30) rfl rfl rfl rfl) rfl (fun hg _ => q_gtr (a := x33) (b := x34) rfl (gvb_yes hg) (gvb_yes hg)) ?_
            refine rd_gpure (i := 23) (g := (x29 == x30)) (d := (some 60)) hD (by kernel_rfl) (by kernel_rfl) rfl (.yes 11 48 true (x29 == x30) rfl rfl rfl rfl) rfl (fun hg _ => q_move (v := .bool ((decide (x33 > x34)))) rfl (gvb_yes hg)) ?_
            refine rd_gpure (i := 24) (g := ((x29 == x30) && (!(decide (x33 > x34))))) (d := (some 61)) hD (by kernel_rfl) (by kernel_rfl) rfl (.no 23 60 (x29 == x30) (decide (x33 > x34)) rfl rfl rfl rfl) rfl (fun hg _ => q_move (v := tSlc.enc (all_4)) rfl rfl) ?_
            refine rd_gpure (i := 25) (g := ((x29 == x30) && (!(decide (x33 > x34))))) (d := (some 62)) hD (by kernel_rfl) (by kernel_rfl) rfl (.no 23 60 (x29 == x30) (decide (x33 > x34)) rfl rfl rfl rfl) rfl (fun hg _ => q_move (v := .int .i64 (k_21)) rfl rfl) ?_
            obtain ⟨a35, ha35, h⟩ := h
            refine rd_gpure (i := 26) (g := ((x29 == x30) && (!(decide (x33 > x34))))) (d := (some 63)) hD (by kernel_rfl) (by kernel_rfl) rfl (.no 23 60 (x29 == x30) (decide (x33 > x34)) rfl rfl rfl rfl) rfl (fun hg _ => q_indexAddr (s := all_4) (i := k_21) rfl Try.underlying23 ok47 (gvb_yes hg) (gvb_yes hg) (ha35 hg)) ?_
            refine rd_gpure (i := 27) (g := ((x29 == x30) && (!(decide (x33 > x34))))) (d := (some 64)) hD (by kernel_rfl) (by kernel_rfl) rfl (.no 23 60 (x29 == x30) (decide (x33 > x34)) rfl rfl rfl rfl) rfl (fun hg _ => q_fieldAddr (a := a35) (off := 1) rfl Try.underlying47 rfl rfl ok2 (by decide) (gvb_yes hg)) ?_
            refine rd_gpure (i := 29) (g := ((x29 == x30) && (!(decide (x33 > x34))))) (d := (some 66)) hD (by kernel_rfl) (by kernel_rfl) rfl (.no 23 60 (x29 == x30) (decide (x33 > x34)) rfl rfl rfl rfl) rfl (fun hg _ => q_move (v := tSlc.enc (all_4)) rfl rfl) ?_
            refine rd_gpure (i := 30) (g := ((x29 == x30) && (!(decide (x33 > x34))))) (d := (some 67)) hD (by kernel_rfl) (by kernel_rfl) rfl (.no 23 60 (x29 == x30) (decide (x33 > x34)) rfl rfl rfl rfl) rfl (fun hg _ => q_move (v := .int .i64 (i_15)) rfl rfl) ?_
            obtain ⟨a36, ha36, h⟩ := h
            refine rd_gpure (i := 31) (g := ((x29 == x30) && (!(decide (x33 > x34))))) (d := (some 68)) hD (by kernel_rfl) (by kernel_rfl) rfl (.no 23 60 (x29 == x30) (decide (x33 > x34)) rfl rfl rfl rfl) rfl (fun hg _ => q_indexAddr (s := all_4) (i := i_15) rfl Try.underlying23 ok47 (gvb_yes hg) (gvb_yes hg) (ha36 hg)) ?_
            refine rd_gpure (i := 32) (g := ((x29 == x30) && (!(decide (x33 > x34))))) (d := (some 69)) hD (by kernel_rfl) (by kernel_rfl) rfl (.no 23 60 (x29 == x30) (decide (x33 > x34)) rfl rfl rfl rfl) rfl (fun hg _ => q_fieldAddr (a := a36) (off := 1) rfl Try.underlying47 rfl rfl ok2 (by decide) (gvb_yes hg)) ?_
            obtain ⟨x37, hx37, h⟩ := h
            refine rd_gread (i := 28) (g := ((x29 == x30) && (!(decide (x33 > x34))))) (d := (some 65)) (fun W => (RdAt (tInt .i64) (a35.add 1) W) x37) hD (by kernel_rfl) (by kernel_rfl) rfl (.no 23 60 (x29 == x30) (decide (x33 > x34)) rfl rfl rfl rfl) rfl (fun hg W hr => q_load (T := (tInt .i64)) (u := x37) (a := (a35.add 1)) rfl ok2 (gvb_yes hg) hr) hx37 ?_
            obtain ⟨x38, hx38, h⟩ := h
            refine rd_gread (i := 33) (g := ((x29 == x30) && (!(decide (x33 > x34))))) (d := (some 70)) (fun W => (RdAt (tInt .i64) (a36.add 1) W) x38) hD (by kernel_rfl) (by kernel_rfl) rfl (.no 23 60 (x29 == x30) (decide (x33 > x34)) rfl rfl rfl rfl) rfl (fun hg W hr => q_load (T := (tInt .i64)) (u := x38) (a := (a36.add 1)) rfl ok2 (gvb_yes hg) hr) hx38 ?_
            refine rd_gpure (i := 34) (g := ((x29 == x30) && (!(decide (x33 > x34))))) (d := (some 71)) hD (by kernel_rfl) (by kernel_rfl) rfl (.no 23 60 (x29 == x30) (decide (x33 > x34)) rfl rfl rfl rfl) rfl (fun hg _ => q_eql (a := x37) (b := x38) rfl (gvb_yes hg) (gvb_yes hg)) ?_
            refine rd_gpure (i := 35) (g := ((x29 == x30) && (!(decide (x33 > x34))))) (d := (some 72)) hD (by kernel_rfl) (by kernel_rfl) rfl (.no 23 60 (x29 == x30) (decide (x33 > x34)) rfl rfl rfl rfl) rfl (fun hg _ => q_move (v := .bool ((x37 == x38))) rfl (gvb_yes hg)) ?_
            refine rd_gpure (i := 36) (g := (((x29 == x30) && (!(decide (x33 > x34)))) && (x37 == x38))) (d := (some 73)) hD (by kernel_rfl) (by kernel_rfl) rfl (.yes 35 72 ((x29 == x30) && (!(decide (x33 > x34)))) (x37 == x38) rfl rfl rfl rfl) rfl (fun hg _ => q_move (v := .int .i64 (k_21)) rfl rfl) ?_
            refine rd_gpure (i := 37) (g := (((x29 == x30) && (!(decide (x33 > x34)))) && (x37 == x38))) (d := (some 74)) hD (by kernel_rfl) (by kernel_rfl) rfl (.yes 35 72 ((x29 == x30) && (!(decide (x33 > x34)))) (x37 == x38) rfl rfl rfl rfl) rfl (fun hg _ => q_move (v := .int .i64 (i_15)) rfl rfl) ?_
            refine rd_gpure (i := 38) (g := (((x29 == x30) && (!(decide (x33 > x34)))) && (x37 == x38))) (d := (some 75)) hD (by kernel_rfl) (by kernel_rfl) rfl (.yes 35 72 ((x29 == x30) && (!(decide (x33 > x34)))) (x37 == x38) rfl rfl rfl rfl) rfl (fun hg _ => q_lss (a := k_21) (b := i_15) rfl (gvb_yes hg) (gvb_yes hg)) ?_
            refine rd_gpure (i := 39) (g := ((x29 == x30) && (!(decide (x33 > x34))))) (d := (some 76)) hD (by kernel_rfl) (by kernel_rfl) rfl (.no 23 60 (x29 == x30) (decide (x33 > x34)) rfl rfl rfl rfl) rfl (fun hg _ => q_pickNT (g0 := ((x29 == x30) && (!(decide (x33 > x34))))) (a := (x37 == x38)) (b := (decide (k_21 < i_15))) hg rfl rfl rfl rfl) ?_
            refine rd_gpure (i := 40) (g := (x29 == x30)) (d := (some 77)) hD (by kernel_rfl) (by kernel_rfl) rfl (.yes 11 48 true (x29 == x30) rfl rfl rfl rfl) rfl (fun hg _ => q_pickNF (g0 := (x29 == x30)) (a := (decide (x33 > x34))) (c := ((x37 == x38) && (decide (k_21 < i_15)))) hg rfl rfl rfl rfl) ?_
            refine rp 41 78 hD rfl rfl rfl (fun _ => q_pickGT (a := (x29 == x30)) (b := ((decide (x33 > x34)) || ((x37 == x38) && (decide (k_21 < i_15))))) rfl rfl rfl rfl) ?_
            refine rd_nil (by kernel_rfl) ?_
            refine wp_if (b := ((x29 == x30) && ((decide (x33 > x34)) || ((x37 == x38) && (decide (k_21 < i_15)))))) rfl h (fun hb39 h => ?_) (fun hb39 h => ?_)
            · refine wp_text [0] rfl ?_
              refine rv 7 rfl rfl rfl (q_assign (v := .bool (false)) rfl rfl) ?_
              refine ro_nil ?_
              exact ⟨(false), _, arr (upd_step (upd_step (upd_step (upd_step (upd_step rfl rfl) rfl) rfl) rfl) rfl), h⟩
            · refine wp_skip ?_
              exact ⟨(best_20), _, arr (upd_step (upd_step (upd_step (upd_step (upd_step rfl rfl) rfl) rfl) rfl) rfl), h⟩
        · refine wp_exit ?_
          refine wp_seq ?_
          refine wp_text [0] rfl ?_
          refine rv 79 rfl rfl rfl (q_move (v := .bool (best_20)) rfl rfl) ?_
          refine ro_nil ?_
          refine wp_if (b := best_20) rfl h (fun hb86 h => ?_) (fun hb86 h => ?_)
          · refine wp_seq ?_
            refine wp_text [0, 1, 2, 3, 4, 5, 6, 7, 8, 9, 10, 11] rfl ?_
            refine rv 81 rfl rfl rfl (q_move (v := tSlc.enc (out_14)) rfl rfl) ?_
            refine rv 82 rfl rfl rfl (q_move (v := tSlc.enc (all_4)) rfl rfl) ?_
            refine rv 83 rfl rfl rfl (q_move (v := .int .i64 (i_15)) rfl rfl) ?_
            obtain ⟨a40, ha40, h⟩ := h
            refine rv 84 rfl rfl rfl (q_indexAddr (s := all_4) (i := i_15) rfl Try.underlying23 ok47 rfl rfl ha40) ?_
            refine rv 85 rfl rfl rfl (q_fieldAddr (a := a40) (off := 0) rfl Try.underlying47 rfl rfl ok3 (by decide) rfl) ?_
            obtain ⟨x41, hx41, h⟩ := h
            refine rv 86 rfl rfl rfl (q_load (T := (tInt .i64)) (u := x41) (a := (a40.add 0)) rfl ok3 rfl hx41) ?_
            refine ro_wp rfl (.free rfl) (wp_cl (d := (some 87)) rfl (q_call (k := 23) (l := [tSlc.enc (out_14), .int .i64 (x41)]) rfl ent23 rfl) h ?_)
            intro r43 w42 h
            refine rv 80 rfl rfl rfl (q_move (v := (tTup2 (tInt .i64) tBool).enc (r43)) rfl rfl) ?_
            refine rv 88 rfl rfl rfl (q_extract (vs := #[.int .i64 (r43.1), .bool (r43.2)]) (v := .int .i64 (r43.1)) rfl rfl rfl) ?_
            refine rv 89 rfl rfl rfl (q_extract (vs := #[.int .i64 (r43.1), .bool (r43.2)]) (v := .bool (r43.2)) rfl rfl rfl) ?_
            refine rv 9 rfl rfl rfl (q_assign (v := .int .i64 (r43.1)) rfl rfl) ?_
            refine rv 10 rfl rfl rfl (q_assign (v := .bool (r43.2)) rfl rfl) ?_
            refine ro_nil ?_
            obtain ⟨w44, hw44, h⟩ := dr_open h
            refine wp_drawn 16 mixed rfl (by kernel_rfl) (by intro c a d v w h; cases d <;> exact h) hw44 (fun hD => ?_)
            refine rp 1 91 hD rfl rfl rfl (fun _ => q_move (v := tSlc.enc (out_14)) rfl rfl) ?_
            refine rp 2 92 hD rfl rfl rfl (fun _ => q_move (v := .int .i64 (r43.1)) rfl rfl) ?_
            obtain ⟨s45, hs45, h⟩ := h
            refine rp 3 93 hD rfl rfl rfl (fun _ => q_sliceH (s := out_14) (h := r43.1) rfl Try.underlying23 ok47 rfl rfl hs45) ?_
            refine rp 5 95 hD rfl rfl rfl (fun _ => q_move (v := tSlc.enc (all_4)) rfl rfl) ?_
            refine rp 6 96 hD rfl rfl rfl (fun _ => q_move (v := .int .i64 (i_15)) rfl rfl) ?_
            obtain ⟨a46, ha46, h⟩ := h
            refine rp 7 97 hD rfl rfl rfl (fun _ => q_indexAddr (s := all_4) (i := i_15) rfl Try.underlying23 ok47 rfl rfl ha46) ?_
            refine rp 11 101 hD rfl rfl rfl (fun _ => q_move (v := tSlc.enc (out_14)) rfl rfl) ?_
            refine rp 12 102 hD rfl rfl rfl (fun _ => q_move (v := .int .i64 (r43.1)) rfl rfl) ?_
            obtain ⟨s47, hs47, h⟩ := h
            refine rp 13 103 hD rfl rfl rfl (fun _ => q_sliceL (s := out_14) (l := r43.1) rfl Try.underlying23 ok47 rfl rfl hs47) ?_
            obtain ⟨x48, hx48, h⟩ := h
            refine rd_read (i := 8) (d := (some 98)) (fun W => (RdAt T46 a46 W) x48) hD (by kernel_rfl) (by kernel_rfl) rfl (.free rfl) rfl (fun W hr => q_load (T := T46) (u := x48) (a := a46) rfl ok47 rfl hr) hx48 ?_
            obtain ⟨h, h'⟩ := h
            refine rd_two (i := 0) (j := 9) (by kernel_rfl) ?_ ?_
            · clear h'
              obtain ⟨a49, w50, ha49, hw50, h⟩ := nwS_open h
              refine po_val (d := (some 90)) rfl (.free rfl) rfl (q_row0 (T := T46) rfl Try.underlying23 ok47 inf47 ha49 hw50) ⟨(hk_keep (fun h => keep_RdAt hw50 h) hk_nil), ?_⟩
              obtain ⟨h, h'⟩ := h
              refine rd_two (i := 4) (j := 9) (by kernel_rfl) ?_ ?_
              · clear h'
                refine po_wp rfl (.free rfl) (wp_append (d := (some 94)) (T := T46) rfl rfl Try.underlying23 ⟨_, Try.underlying23⟩ ok47 inf47 rfl rfl (Nat.lt_of_lt_of_le Nat.zero_lt_one (Nat.le_of_ble_eq_true rfl)) rfl rfl h ?_)
                intro r52 w51 h
                obtain ⟨hk53, h⟩ := h
                refine ⟨(hk_keep (fun _ => hk53) hk_nil), ?_⟩
                refine rd_one (i := 9) (by kernel_rfl) ?_
                obtain ⟨a54, w55, ha54, hw55, h⟩ := apl_open h
                refine po_val (d := (some 99)) rfl (.free rfl) rfl (q_rowOf (T := T46) (xs := [x48]) rfl Try.underlying23 ok47 inf47 rfl (by decide) (by decide) rfl ha54 hw55) ⟨(hk_wait (by kernel_rfl) hk_nil), ?_⟩
                refine rd_one (i := 10) (by kernel_rfl) ?_
                refine po_wp rfl (.free rfl) (wp_append (d := (some 100)) (T := T46) rfl rfl Try.underlying23 ⟨_, Try.underlying23⟩ ok47 inf47 rfl rfl (Nat.lt_of_lt_of_le Nat.zero_lt_one (Nat.le_of_ble_eq_true rfl)) rfl rfl h ?_)
                intro r57 w56 h
                obtain ⟨hk58, h⟩ := h
                refine ⟨(hk_keep (fun _ => hk58) hk_nil), ?_⟩
                refine rd_one (i := 14) (by kernel_rfl) ?_
                refine po_wp rfl (.free rfl) (wp_append (d := (some 104)) (T := T46) rfl rfl Try.underlying23 ⟨_, Try.underlying23⟩ ok47 inf47 rfl rfl (Nat.lt_of_lt_of_le Nat.zero_lt_one (Nat.le_of_ble_eq_true rfl)) rfl rfl h ?_)
                intro r60 w59 h
                obtain ⟨hk61, h⟩ := h
                refine ⟨(hk_keep (fun _ => hk61) hk_nil), ?_⟩
                refine rp 15 5 hD rfl rfl rfl (fun _ => q_assign (v := tSlc.enc (r60)) rfl rfl) ?_
                refine rd_nil (by kernel_rfl) ?_
                exact ⟨(r60), _, arr (upd_step (upd_step (upd_step rfl rfl) rfl) rfl), h⟩
              · replace h := h'; clear h'
                obtain ⟨a62, w63, ha62, hw63, h⟩ := nwS_open h
                refine po_val (d := (some 99)) rfl (.free rfl) rfl (q_rowOf (T := T46) (xs := [x48]) rfl Try.underlying23 ok47 inf47 rfl (by decide) (by decide) rfl ha62 hw63) ⟨(hk_wait (by kernel_rfl) hk_nil), ?_⟩
                refine rd_one (i := 4) (by kernel_rfl) ?_
                refine po_wp rfl (.free rfl) (wp_append (d := (some 94)) (T := T46) rfl rfl Try.underlying23 ⟨_, Try.underlying23⟩ ok47 inf47 rfl rfl (Nat.lt_of_lt_of_le Nat.zero_lt_one (Nat.le_of_ble_eq_true rfl)) rfl rfl h ?_)
                intro r65 w64 h
                obtain ⟨hk66, h⟩ := h
                refine ⟨(hk_keep (fun _ => hk66) hk_nil), ?_⟩
                refine rd_one (i := 10) (by kernel_rfl) ?_
                refine po_wp rfl (.free rfl) (wp_append (d := (some 100)) (T := T46) rfl rfl Try.underlying23 ⟨_, Try.underlying23⟩ ok47 inf47 rfl rfl (Nat.lt_of_lt_of_le Nat.zero_lt_one (Nat.le_of_ble_eq_true rfl)) rfl rfl h ?_)
                intro r68 w67 h
                obtain ⟨hk69, h⟩ := h
                refine ⟨(hk_keep (fun _ => hk69) hk_nil), ?_⟩
                refine rd_one (i := 14) (by kernel_rfl) ?_
                refine po_wp rfl (.free rfl) (wp_append (d := (some 104)) (T := T46) rfl rfl Try.underlying23 ⟨_, Try.underlying23⟩ ok47 inf47 rfl rfl (Nat.lt_of_lt_of_le Nat.zero_lt_one (Nat.le_of_ble_eq_true rfl)) rfl rfl h ?_)
                intro r71 w70 h
                obtain ⟨hk72, h⟩ := h
                refine ⟨(hk_keep (fun _ => hk72) hk_nil), ?_⟩
                refine rp 15 5 hD rfl rfl rfl (fun _ => q_assign (v := tSlc.enc (r71)) rfl rfl) ?_
                refine rd_nil (by kernel_rfl) ?_
                exact ⟨(r71), _, arr (upd_step (upd_step (upd_step rfl rfl) rfl) rfl), h⟩
            · replace h := h'; clear h'
              obtain ⟨a73, w74, ha73, hw74, h⟩ := nwS_open h
              refine po_val (d := (some 99)) rfl (.free rfl) rfl (q_rowOf (T := T46) (xs := [x48]) rfl Try.underlying23 ok47 inf47 rfl (by decide) (by decide) rfl ha73 hw74) ⟨(hk_wait (by kernel_rfl) hk_nil), ?_⟩
              refine rd_one (i := 0) (by kernel_rfl) ?_
              obtain ⟨a75, w76, ha75, hw76, h⟩ := nwS_open h
              refine po_val (d := (some 90)) rfl (.free rfl) rfl (q_row0 (T := T46) rfl Try.underlying23 ok47 inf47 ha75 hw76) ⟨(hk_keep (fun h => keep_RdAt hw76 h) hk_nil), ?_⟩
              refine rd_one (i := 4) (by kernel_rfl) ?_
              refine po_wp rfl (.free rfl) (wp_append (d := (some 94)) (T := T46) rfl rfl Try.underlying23 ⟨_, Try.underlying23⟩ ok47 inf47 rfl rfl (Nat.lt_of_lt_of_le Nat.zero_lt_one (Nat.le_of_ble_eq_true rfl)) rfl rfl h ?_)
              intro r78 w77 h
              obtain ⟨hk79, h⟩ := h
              refine ⟨(hk_keep (fun _ => hk79) hk_nil), ?_⟩
              refine rd_one (i := 10) (by kernel_rfl) ?_
              refine po_wp rfl (.free rfl) (wp_append (d := (some 100)) (T := T46) rfl rfl Try.underlying23 ⟨_, Try.underlying23⟩ ok47 inf47 rfl rfl (Nat.lt_of_lt_of_le Nat.zero_lt_one (Nat.le_of_ble_eq_true rfl)) rfl rfl h ?_)
              intro r81 w80 h
              obtain ⟨hk82, h⟩ := h
              refine ⟨(hk_keep (fun _ => hk82) hk_nil), ?_⟩
              refine rd_one (i := 14) (by kernel_rfl) ?_
              refine po_wp rfl (.free rfl) (wp_append (d := (some 104)) (T := T46) rfl rfl Try.underlying23 ⟨_, Try.underlying23⟩ ok47 inf47 rfl rfl (Nat.lt_of_lt_of_le Nat.zero_lt_one (Nat.le_of_ble_eq_true rfl)) rfl rfl h ?_)
              intro r84 w83 h
              obtain ⟨hk85, h⟩ := h
              refine ⟨(hk_keep (fun _ => hk85) hk_nil), ?_⟩
              refine rp 15 5 hD rfl rfl rfl (fun _ => q_assign (v := tSlc.enc (r84)) rfl rfl) ?_
              refine rd_nil (by kernel_rfl) ?_
              exact ⟨(r84), _, arr (upd_step (upd_step (upd_step rfl rfl) rfl) rfl), h⟩
          · refine wp_skip ?_
            exact ⟨(out_14), _, arr (upd_step (upd_step (upd_step rfl rfl) rfl) rfl), h⟩
    · refine wp_exit ?_
      refine wp_seq ?_
      refine wp_text [0, 1] rfl ?_
      refine rv 105 rfl rfl rfl (q_move (v := tSlc.enc (out_14)) rfl rfl) ?_
      refine rv 2 rfl rfl rfl (q_assign (v := tSlc.enc (out_14)) rfl rfl) ?_
      refine ro_nil ?_
      refine wp_ret ?_
      exact ret_ok rfl (.cons (.tmp (v := tSlc.enc (out_14)) rfl) .nil) ⟨out_14, rfl, h⟩

-- moiety/disk.New
def F11 (n_1 : Int) (w : World) (R : ((Option Addr) × Int) → World → Prop) : Prop :=
  if ((decide (n_1 < (1 : Int))) || (decide (n_1 > (16 : Int)))) = true then (
    R ((none : Option Addr), (70 : Int)) w
  ) else (
    mkS 102 T101 32 Z101 n_1 n_1 w fun r3 w2 =>
    nw 80 T79 (⟨r3, (0 : Int), false, (0 : Int), (⟨none, 0, 0⟩ : Slc)⟩ : S79) w2 fun a4 w5 =>
    R ((some a4), (0 : Int)) w5
  )
theorem F11_ok {n_1 : Int} {w : World} {R : ((Option Addr) × Int) → World → Prop} (h : F11 n_1 w R) : cl Try.prog 11 [.int .i64 (n_1)] (tTup2 tPtr (tInt .i64)) w R := by
  unfold F11 at h
  refine calls_start 14 Try.func11 rfl rfl (Nat.le_of_ble_eq_true rfl) ?_
  refine wp_seq ?_
  refine wp_text [0, 1] rfl ?_
  refine rv 2 rfl rfl rfl (q_assign (v := .pointer ((none : Option Addr))) rfl rfl) ?_
  refine rv 3 rfl rfl rfl (q_assign (v := .int .i64 ((0 : Int))) rfl rfl) ?_
  refine ro_nil ?_
  refine wp_seq ?_
  refine wp_seq ?_
  refine wp_text [0, 1, 2, 3, 4, 5] rfl ?_
  refine rv 4 rfl rfl rfl (q_move (v := .int .i64 (n_1)) rfl rfl) ?_
  refine rv 5 rfl rfl rfl (q_lss (a := n_1) (b := (1 : Int)) rfl rfl rfl) ?_
  refine rv 6 rfl rfl rfl (q_move (v := .bool ((decide (n_1 < (1 : Int))))) rfl rfl) ?_
  refine ro_gval (g := (!(decide (n_1 < (1 : Int))))) (d := (some 7)) rfl (.no 2 6 true (decide (n_1 < (1 : Int))) rfl rfl rfl rfl) rfl (fun hg => q_move (v := .int .i64 (n_1)) rfl rfl) ?_
  refine ro_gval (g := (!(decide (n_1 < (1 : Int))))) (d := (some 8)) rfl (.no 2 6 true (decide (n_1 < (1 : Int))) rfl rfl rfl rfl) rfl (fun hg => q_gtr (a := n_1) (b := (16 : Int)) rfl (gvb_yes hg) rfl) ?_
  refine rv 9 rfl rfl rfl (q_pickGF (a := (decide (n_1 < (1 : Int)))) (c := (decide (n_1 > (16 : Int)))) rfl rfl rfl rfl) ?_
  refine ro_nil ?_
  refine wp_if (b := ((decide (n_1 < (1 : Int))) || (decide (n_1 > (16 : Int))))) rfl h (fun hb6 h => ?_) (fun hb6 h => ?_)
  · refine wp_seq ?_
    refine wp_text [0, 1] rfl ?_
    refine rv 2 rfl rfl rfl (q_assign (v := .pointer ((none : Option Addr))) rfl rfl) ?_
    refine rv 3 rfl rfl rfl (q_assign (v := .int .i64 ((70 : Int))) rfl rfl) ?_
    refine ro_nil ?_
    refine wp_ret ?_
    exact ret_ok rfl (.cons (.tmp (v := .pointer ((none : Option Addr))) rfl) (.cons (.tmp (v := .int .i64 ((70 : Int))) rfl) .nil)) ⟨((none : Option Addr), (70 : Int)), rfl, h⟩
  · refine wp_skip ?_
    refine wp_seq ?_
    refine wp_text [0, 1, 2, 3, 4, 5] rfl ?_
    refine rv 10 rfl rfl rfl (q_move (v := .int .i64 (n_1)) rfl rfl) ?_
    refine ro_wp rfl (.free rfl) (wp_mkS (T := T101) (z := Z101) (l := n_1) (c := n_1) (d := (some 11)) rfl rfl Try.underlying78 ok102 inf102 rfl rfl h ?_)
    intro r3 w2 h
    refine rv 12 rfl rfl rfl (q_build80_0 (v0 := r3) rfl rfl) ?_
    obtain ⟨a4, w5, ha4, hw5, h⟩ := nw_open h
    refine rv 13 rfl rfl rfl (q_box (u := (⟨r3, (0 : Int), false, (0 : Int), (⟨none, 0, 0⟩ : Slc)⟩ : S79)) rfl ok80 rfl ha4 hw5) ?_
    refine rv 2 rfl rfl rfl (q_assign (v := .pointer (some a4)) rfl rfl) ?_
    refine rv 3 rfl rfl rfl (q_assign (v := .int .i64 ((0 : Int))) rfl rfl) ?_
    refine ro_nil ?_
    refine wp_ret ?_
    exact ret_ok rfl (.cons (.tmp (v := .pointer ((some a4))) rfl) (.cons (.tmp (v := .int .i64 ((0 : Int))) rfl) .nil)) ⟨((some a4), (0 : Int)), rfl, h⟩

-- moiety/ballot.Open
def F12_l1 (r4 : ((Option Addr) × Slc × Int)) (a7 : Addr) (t_9 : Int) (w10 : World) (K11 : Int → World → Prop) (R : ((Option Addr) × Int) → World → Prop) : Prop :=
  if (decide (t_9 < (r4.2.1.len : Int))) = true then (
    ex (IxA r4.2.1 1 t_9) fun a12 =>
    ex (RdAt tSlc a12 w10) fun x13 =>
    cl Try.prog 25 [.pointer ((some a7)), tSlc.enc (x13)] tBool w10 fun r15 w14 =>
    if (!r15) = true then (
      R ((none : Option Addr), (230 : Int)) w14
    ) else (
      K11 ((IntKind.i64.wrap (t_9 + (1 : Int)))) w14
    )
  ) else (
    R ((some a7), (0 : Int)) w10
  )
def F12 (d_1 : (Option Addr)) (log_2 : Int) (w : World) (R : ((Option Addr) × Int) → World → Prop) : Prop :=
  cl Try.prog 24 [.pointer (d_1), .int .i64 (log_2)] (tTup3 tPtr tSlc (tInt .i64)) w fun r4 w3 =>
  if (r4.2.2 != (0 : Int)) = true then (
    R ((none : Option Addr), r4.2.2) w3
  ) else (
    nwMap w3 fun m6 w5 =>
    nw 53 T52 (⟨r4.1, (0 : Int), (some m6)⟩ : S52) w5 fun a7 w8 =>
    lp (fun (s : Int) w K => F12_l1 r4 a7 s w K R) ((0 : Int)) w8
  )
theorem F12_ok {d_1 : (Option Addr)} {log_2 : Int} {w : World} {R : ((Option Addr) × Int) → World → Prop} (h : F12 d_1 log_2 w R) : cl Try.prog 12 [.pointer (d_1), .int .i64 (log_2)] (tTup2 tPtr (tInt .i64)) w R := by
  unfold F12 at h
  refine calls_start 38 Try.func12 rfl rfl (Nat.le_of_ble_eq_true rfl) ?_
  refine wp_seq ?_
  refine wp_text [0, 1] rfl ?_
  refine rv 4 rfl rfl rfl (q_assign (v := .pointer ((none : Option Addr))) rfl rfl) ?_
  refine rv 5 rfl rfl rfl (q_assign (v := .int .i64 ((0 : Int))) rfl rfl) ?_
  refine ro_nil ?_
  refine wp_seq ?_
  refine wp_text [0, 1, 2, 3, 4, 5, 6, 7, 8, 9] rfl ?_
  refine rv 13 rfl rfl rfl (q_move (v := .pointer (d_1)) rfl rfl) ?_
  refine rv 14 rfl rfl rfl (q_move (v := .int .i64 (log_2)) rfl rfl) ?_
  refine ro_wp rfl (.free rfl) (wp_cl (d := (some 15)) rfl (q_call (k := 24) (l := [.pointer (d_1), .int .i64 (log_2)]) rfl ent24 rfl) h ?_)
  intro r4 w3 h
  refine rv 12 rfl rfl rfl (q_move (v := (tTup3 tPtr tSlc (tInt .i64)).enc (r4)) rfl rfl) ?_
  refine rv 16 rfl rfl rfl (q_extract (vs := #[.pointer (r4.1), tSlc.enc (r4.2.1), .int .i64 (r4.2.2)]) (v := .pointer (r4.1)) rfl rfl rfl) ?_
  refine rv 17 rfl rfl rfl (q_extract (vs := #[.pointer (r4.1), tSlc.enc (r4.2.1), .int .i64 (r4.2.2)]) (v := tSlc.enc (r4.2.1)) rfl rfl rfl) ?_
  refine rv 18 rfl rfl rfl (q_extract (vs := #[.pointer (r4.1), tSlc.enc (r4.2.1), .int .i64 (r4.2.2)]) (v := .int .i64 (r4.2.2)) rfl rfl rfl) ?_
  refine rv 6 rfl rfl rfl (q_assign (v := .pointer (r4.1)) rfl rfl) ?_
  refine rv 7 rfl rfl rfl (q_assign (v := tSlc.enc (r4.2.1)) rfl rfl) ?_
  refine rv 8 rfl rfl rfl (q_assign (v := .int .i64 (r4.2.2)) rfl rfl) ?_
  refine ro_nil ?_
  refine wp_seq ?_
  refine wp_seq ?_
  refine wp_text [0, 1] rfl ?_
  refine rv 19 rfl rfl rfl (q_move (v := .int .i64 (r4.2.2)) rfl rfl) ?_
  refine rv 20 rfl rfl rfl (q_neq (a := r4.2.2) (b := (0 : Int)) rfl rfl rfl) ?_
  refine ro_nil ?_
  refine wp_if (b := (r4.2.2 != (0 : Int))) rfl h (fun hb18 h => ?_) (fun hb18 h => ?_)
  · refine wp_seq ?_
    refine wp_text [0, 1, 2] rfl ?_
    refine rv 21 rfl rfl rfl (q_move (v := .int .i64 (r4.2.2)) rfl rfl) ?_
    refine rv 4 rfl rfl rfl (q_assign (v := .pointer ((none : Option Addr))) rfl rfl) ?_
    refine rv 5 rfl rfl rfl (q_assign (v := .int .i64 (r4.2.2)) rfl rfl) ?_
    refine ro_nil ?_
    refine wp_ret ?_
    exact ret_ok rfl (.cons (.tmp (v := .pointer ((none : Option Addr))) rfl) (.cons (.tmp (v := .int .i64 (r4.2.2)) rfl) .nil)) ⟨((none : Option Addr), r4.2.2), rfl, h⟩
  · refine wp_skip ?_
    refine wp_seq ?_
    refine wp_text [0, 1, 2, 3, 4] rfl ?_
    refine rv 22 rfl rfl rfl (q_move (v := .pointer (r4.1)) rfl rfl) ?_
    obtain ⟨m6, w5, hm6, hw5, h⟩ := nwMap_open h
    refine rv 23 rfl rfl rfl (q_makeMap rfl hm6 hw5) ?_
    refine rv 24 rfl rfl rfl (q_build53_0_2 (v0 := r4.1) (v2 := (some m6)) rfl rfl rfl) ?_
    obtain ⟨a7, w8, ha7, hw8, h⟩ := nw_open h
    refine rv 25 rfl rfl rfl (q_box (u := (⟨r4.1, (0 : Int), (some m6)⟩ : S52)) rfl ok53 rfl ha7 hw8) ?_
    refine rv 9 rfl rfl rfl (q_assign (v := .pointer (some a7)) rfl rfl) ?_
    refine ro_nil ?_
    refine wp_seq ?_
    refine wp_seq ?_
    refine wp_text [0, 1, 2] rfl ?_
    refine rv 26 rfl rfl rfl (q_move (v := tSlc.enc (r4.2.1)) rfl rfl) ?_
    refine rv 27 rfl rfl rfl (q_len (s := r4.2.1) rfl Try.underlying81 rfl) ?_
    refine rv 28 rfl rfl rfl (q_move (v := .int .i64 ((0 : Int))) rfl rfl) ?_
    refine ro_nil ?_
    refine wp_block ?_
    refine loop_at (σ := Int) (fr := fun g (s : Int) => upd (upd (upd (upd (g) 9 (.pointer ((some a7)))) 26 (tSlc.enc (r4.2.1))) 27 (.int .i64 ((r4.2.1.len : Int)))) 28 (.int .i64 (s))) (s0 := ((0 : Int))) (upd_step (upd_step (upd_step (upd_step rfl rfl) rfl) rfl) rfl) h ?_
    rintro t_9 g w10 K11 h
    unfold F12_l1 at h
    refine wp_seq ?_
    refine wp_text [0] rfl ?_
    refine rv 29 rfl rfl rfl (q_lss (a := t_9) (b := (r4.2.1.len : Int)) rfl rfl rfl) ?_
    refine ro_nil ?_
    refine wp_seq ?_
    refine wp_if (b := (decide (t_9 < (r4.2.1.len : Int)))) rfl h (fun hb17 h => ?_) (fun hb17 h => ?_)
    · refine wp_skip ?_
      refine wp_seq ?_
      refine wp_block ?_
      refine wp_seq ?_
      refine wp_text [0, 1, 2] rfl ?_
      obtain ⟨a12, ha12, h⟩ := h
      refine rv 30 rfl rfl rfl (q_indexAddr (s := r4.2.1) (i := t_9) rfl Try.underlying81 ok72 rfl rfl ha12) ?_
      obtain ⟨x13, hx13, h⟩ := h
      refine rv 31 rfl rfl rfl (q_load (T := tSlc) (u := x13) (a := a12) rfl ok72 rfl hx13) ?_
      refine rv 11 rfl rfl rfl (q_assign (v := tSlc.enc (x13)) rfl rfl) ?_
      refine ro_nil ?_
      refine wp_seq ?_
      refine wp_text [0, 1, 2, 3] rfl ?_
      refine rv 32 rfl rfl rfl (q_move (v := .pointer ((some a7))) rfl rfl) ?_
      refine rv 33 rfl rfl rfl (q_move (v := tSlc.enc (x13)) rfl rfl) ?_
      refine ro_wp rfl (.free rfl) (wp_cl (d := (some 34)) rfl (q_call (k := 25) (l := [.pointer ((some a7)), tSlc.enc (x13)]) rfl ent25 rfl) h ?_)
      intro r15 w14 h
      refine rv 35 rfl rfl rfl (q_not (b := r15) rfl rfl) ?_
      refine ro_nil ?_
      refine wp_if (b := (!r15)) rfl h (fun hb16 h => ?_) (fun hb16 h => ?_)
      · refine wp_seq ?_
        refine wp_text [0, 1] rfl ?_
        refine rv 4 rfl rfl rfl (q_assign (v := .pointer ((none : Option Addr))) rfl rfl) ?_
        refine rv 5 rfl rfl rfl (q_assign (v := .int .i64 ((230 : Int))) rfl rfl) ?_
        refine ro_nil ?_
        refine wp_ret ?_
        exact ret_ok rfl (.cons (.tmp (v := .pointer ((none : Option Addr))) rfl) (.cons (.tmp (v := .int .i64 ((230 : Int))) rfl) .nil)) ⟨((none : Option Addr), (230 : Int)), rfl, h⟩
      · refine wp_skip ?_
        refine wp_text [0, 1] rfl ?_
        refine rv 36 rfl rfl rfl (q_add (a := t_9) (b := (1 : Int)) rfl rfl rfl) ?_
        refine rv 28 rfl rfl rfl (q_move (v := .int .i64 ((IntKind.i64.wrap (t_9 + (1 : Int))))) rfl rfl) ?_
        refine ro_nil ?_
        exact ⟨((IntKind.i64.wrap (t_9 + (1 : Int)))), _, arr (upd_step (upd_step (upd_step (upd_step rfl rfl) rfl) rfl) rfl), h⟩
    · refine wp_exit ?_
      refine wp_seq ?_
      refine wp_text [0, 1, 2] rfl ?_
      refine rv 37 rfl rfl rfl (q_move (v := .pointer ((some a7))) rfl rfl) ?_
      refine rv 4 rfl rfl rfl (q_assign (v := .pointer ((some a7))) rfl rfl) ?_
      refine rv 5 rfl rfl rfl (q_assign (v := .int .i64 ((0 : Int))) rfl rfl) ?_
      refine ro_nil ?_
      refine wp_ret ?_
      exact ret_ok rfl (.cons (.tmp (v := .pointer ((some a7))) rfl) (.cons (.tmp (v := .int .i64 ((0 : Int))) rfl) .nil)) ⟨((some a7), (0 : Int)), rfl, h⟩

end Go.Proofs.Ytjkmeooncmhonaa.Cf
