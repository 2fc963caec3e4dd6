/- Characteristic formulae of Go functions, and that they are. Printed by gen.py (own tool). -/
import Derived.Test.YtpflfnaflacfgaaTy
namespace Go.Proofs.Ytpflfnaflacfgaa.Cf
open Go
set_option maxRecDepth 100000
set_option maxHeartbeats 1000000
set_option linter.unusedVariables false
set_option linter.unusedSimpArgs false

-- moiety/moietylaw09.PostFull
def F8_j4 (t_29 : Bool) (w30 : World) (R : Bool → World → Prop) : Prop :=
  R t_29 w30
def F8_j3 (r4 : ((Option Addr) × Int)) (t_27 : Bool) (w28 : World) (R : Bool → World → Prop) : Prop :=
  if t_27 = true then (
    cl Try.prog 26 [.pointer (r4.1)] tSlc w28 fun r33 w32 =>
    F8_j4 ((r33.len : Int) == (0 : Int)) w32 R
  ) else (
    F8_j4 false w28 R
  )
def F8_j2 (r4 : ((Option Addr) × Int)) (r22 : Slc) (k_23 : Int) (w24 : World) (R : Bool → World → Prop) : Prop :=
  ex (IxA r22 4 (IntKind.i64.wrap ((r22.len : Int) - (1 : Int)))) fun a25 =>
  ex (RdAt (tInt .i64) (a25.add 3) w24) fun x26 =>
  if (x26 == k_23) = true then (
    cl Try.prog 27 [.pointer (r4.1), .int .i64 ((0 : Int))] (tInt .i64) w24 fun r36 w35 =>
    F8_j3 r4 (r36 == (0 : Int)) w35 R
  ) else (
    F8_j3 r4 false w24 R
  )
def F8_l1 (more_1 : Int) (lose_2 : Int) (r4 : ((Option Addr) × Int)) (i_7 : Int) (w8 : World) (K9 : Int → World → Prop) (R : Bool → World → Prop) : Prop :=
  if (decide (i_7 < (1000 : Int))) = true then (
    cl Try.prog 23 [.pointer (r4.1), .int .i64 ((0 : Int)), .int .i64 ((0 : Int)), .int .i64 (i_7)] (tTup2 (tInt .i64) (tInt .i64)) w8 fun r11 w10 =>
    if ((r11.2 != (0 : Int)) || (r11.1 != (IntKind.i64.wrap (i_7 + (1 : Int))))) = true then (
      R false w10
    ) else (
      K9 ((IntKind.i64.wrap (i_7 + (1 : Int)))) w10
    )
  ) else (
    cl Try.prog 23 [.pointer (r4.1), .int .i64 ((0 : Int)), .int .i64 ((0 : Int)), .int .i64 ((7 : Int))] (tTup2 (tInt .i64) (tInt .i64)) w8 fun r14 w13 =>
    cl Try.prog 24 [.pointer (r4.1), .int .i64 ((IntKind.i64.wrap more_1))] (tInt .i64) w13 fun r16 w15 =>
    cl Try.prog 25 [.pointer (r4.1), .int .i64 ((IntKind.i64.wrap lose_2))] (tInt .i64) w15 fun r18 w17 =>
    cl Try.prog 24 [.pointer (r4.1), .int .i64 ((IntKind.i64.wrap more_1))] (tInt .i64) w17 fun r20 w19 =>
    cl Try.prog 26 [.pointer (r4.1)] tSlc w19 fun r22 w21 =>
    if (((((r14.2 != (91 : Int)) || (r16 != (91 : Int))) || (r18 != (0 : Int))) || (r20 != (0 : Int))) || ((r22.len : Int) != (1000 : Int))) = true then (
      R false w21
    ) else (
      if (decide ((IntKind.i64.wrap more_1) ≥ (IntKind.i64.wrap lose_2))) = true then (
        F8_j2 r4 r22 (IntKind.i64.wrap ((IntKind.i64.wrap more_1) + (1 : Int))) w21 R
      ) else (
        F8_j2 r4 r22 (IntKind.i64.wrap more_1) w21 R
      )
    )
  )
def F8 (more_1 : Int) (lose_2 : Int) (w : World) (R : Bool → World → Prop) : Prop :=
  cl Try.prog 22 [.int .i64 ((1 : Int))] (tTup2 tPtr (tInt .i64)) w fun r4 w3 =>
  cl Try.prog 10 [] tBool w3 fun r6 w5 =>
  if (((!r6) || (r4.2 != (0 : Int))) || r4.1.isNone) = true then (
    R false w5
  ) else (
    lp (fun (s : Int) w K => F8_l1 more_1 lose_2 r4 s w K R) ((0 : Int)) w5
  )
theorem F8_ok {more_1 : Int} {lose_2 : Int} {w : World} {R : Bool → World → Prop} (h : F8 more_1 lose_2 w R) : cl Try.prog 8 [.int .u8 (more_1), .int .u8 (lose_2)] tBool w R := by
  unfold F8 at h
  refine calls_start 115 Try.func8 rfl rfl (Nat.le_of_ble_eq_true rfl) ?_
  refine wp_seq ?_
  refine wp_text [0] rfl ?_
  refine ro_val (d := (some 4)) rfl (.free rfl) rfl (q_assign (v := .bool (false)) rfl rfl) ?_
  refine ro_nil ?_
  refine wp_seq ?_
  refine wp_text [0, 1, 2, 3, 4, 5] rfl ?_
  refine ro_wp rfl (.free rfl) (wp_cl (d := (some 18)) rfl (q_call (k := 22) (l := [.int .i64 ((1 : Int))]) rfl ent22 rfl) h ?_)
  intro r4 w3 h
  refine ro_val (d := (some 17)) rfl (.free rfl) rfl (q_move (v := (tTup2 tPtr (tInt .i64)).enc (r4)) rfl rfl) ?_
  refine ro_val (d := (some 19)) rfl (.free rfl) rfl (q_extract (vs := #[.pointer (r4.1), .int .i64 (r4.2)]) (v := .pointer (r4.1)) rfl rfl rfl) ?_
  refine ro_val (d := (some 20)) rfl (.free rfl) rfl (q_extract (vs := #[.pointer (r4.1), .int .i64 (r4.2)]) (v := .int .i64 (r4.2)) rfl rfl rfl) ?_
  refine ro_val (d := (some 5)) rfl (.free rfl) rfl (q_assign (v := .pointer (r4.1)) rfl rfl) ?_
  refine ro_val (d := (some 6)) rfl (.free rfl) rfl (q_assign (v := .int .i64 (r4.2)) rfl rfl) ?_
  refine ro_nil ?_
  refine wp_seq ?_
  refine wp_seq ?_
  refine wp_text [0, 1, 2, 3, 4, 5, 6, 7, 8, 9] rfl ?_
  refine ro_wp rfl (.free rfl) (wp_cl (d := (some 21)) rfl (q_call (k := 10) (l := []) rfl ent10 rfl) h ?_)
  intro r6 w5 h
  refine ro_val (d := (some 22)) rfl (.free rfl) rfl (q_not (b := r6) rfl rfl) ?_
  refine ro_val (d := (some 23)) rfl (.free rfl) rfl (q_move (v := .bool ((!r6))) rfl rfl) ?_
  refine ro_gval (g := (!(!r6))) (d := (some 24)) rfl (.no 2 23 true (!r6) rfl rfl rfl rfl) rfl (fun hg => q_move (v := .int .i64 (r4.2)) rfl rfl) ?_
  refine ro_gval (g := (!(!r6))) (d := (some 25)) rfl (.no 2 23 true (!r6) rfl rfl rfl rfl) rfl (fun hg => q_neq (a := r4.2) (b := (0 : Int)) rfl (gvb_yes hg) rfl) ?_
  refine ro_val (d := (some 26)) rfl (.free rfl) rfl (q_pickGF (a := (!r6)) (c := (r4.2 != (0 : Int))) rfl rfl rfl rfl) ?_
  refine ro_val (d := (some 27)) rfl (.free rfl) rfl (q_move (v := .bool (((!r6) || (r4.2 != (0 : Int))))) rfl rfl) ?_
  refine ro_gval (g := (!((!r6) || (r4.2 != (0 : Int))))) (d := (some 28)) rfl (.no 6 27 true ((!r6) || (r4.2 != (0 : Int))) rfl rfl rfl rfl) rfl (fun hg => q_move (v := .pointer (r4.1)) rfl rfl) ?_
  refine ro_gval (g := (!((!r6) || (r4.2 != (0 : Int))))) (d := (some 29)) rfl (.no 6 27 true ((!r6) || (r4.2 != (0 : Int))) rfl rfl rfl rfl) rfl (fun hg => q_eqP0 (a := r4.1) rfl Try.underlying54 (gvb_yes hg) rfl) ?_
  refine ro_val (d := (some 30)) rfl (.free rfl) rfl (q_pickGF (a := ((!r6) || (r4.2 != (0 : Int)))) (c := r4.1.isNone) rfl rfl rfl rfl) ?_
  refine ro_nil ?_
  refine wp_if (b := (((!r6) || (r4.2 != (0 : Int))) || r4.1.isNone)) rfl h (fun hb40 h => ?_) (fun hb40 h => ?_)
  · refine wp_seq ?_
    refine wp_text [0] rfl ?_
    refine ro_val (d := (some 4)) rfl (.free rfl) rfl (q_assign (v := .bool (false)) rfl rfl) ?_
    refine ro_nil ?_
    refine wp_ret ?_
    exact ret_ok rfl (.cons (.tmp (v := .bool (false)) rfl) .nil) ⟨false, rfl, h⟩
  · refine wp_skip ?_
    refine wp_seq ?_
    refine wp_seq ?_
    refine wp_text [0] rfl ?_
    refine ro_val (d := (some 7)) rfl (.free rfl) rfl (q_assign (v := .int .i64 ((0 : Int))) rfl rfl) ?_
    refine ro_nil ?_
    refine wp_block ?_
    refine loop_at (σ := Int) (fr := fun g (s : Int) => upd (upd (upd (upd (g) 0 (.int .u8 (more_1))) 1 (.int .u8 (lose_2))) 5 (.pointer (r4.1))) 7 (.int .i64 (s))) (s0 := ((0 : Int))) (upd_step (upd_step (upd_step (upd_step rfl rfl) rfl) rfl) rfl) h ?_
    rintro i_7 g w8 K9 h
    unfold F8_l1 at h
    refine wp_seq ?_
    refine wp_seq ?_
    refine wp_text [0, 1] rfl ?_
    refine ro_val (d := (some 31)) rfl (.free rfl) rfl (q_move (v := .int .i64 (i_7)) rfl rfl) ?_
    refine ro_val (d := (some 32)) rfl (.free rfl) rfl (q_lss (a := i_7) (b := (1000 : Int)) rfl rfl rfl) ?_
    refine ro_nil ?_
    refine wp_if (b := (decide (i_7 < (1000 : Int)))) rfl h (fun hb39 h => ?_) (fun hb39 h => ?_)
    · refine wp_skip ?_
      refine wp_seq ?_
      refine wp_block ?_
      refine wp_seq ?_
      refine wp_text [0, 1, 2, 3, 4, 5, 6, 7] rfl ?_
      refine ro_val (d := (some 36)) rfl (.free rfl) rfl (q_move (v := .pointer (r4.1)) rfl rfl) ?_
      refine ro_val (d := (some 37)) rfl (.free rfl) rfl (q_move (v := .int .i64 (i_7)) rfl rfl) ?_
      refine ro_wp rfl (.free rfl) (wp_cl (d := (some 38)) rfl (q_call (k := 23) (l := [.pointer (r4.1), .int .i64 ((0 : Int)), .int .i64 ((0 : Int)), .int .i64 (i_7)]) rfl ent23 rfl) h ?_)
      intro r11 w10 h
      refine ro_val (d := (some 35)) rfl (.free rfl) rfl (q_move (v := (tTup2 (tInt .i64) (tInt .i64)).enc (r11)) rfl rfl) ?_
      refine ro_val (d := (some 39)) rfl (.free rfl) rfl (q_extract (vs := #[.int .i64 (r11.1), .int .i64 (r11.2)]) (v := .int .i64 (r11.1)) rfl rfl rfl) ?_
      refine ro_val (d := (some 40)) rfl (.free rfl) rfl (q_extract (vs := #[.int .i64 (r11.1), .int .i64 (r11.2)]) (v := .int .i64 (r11.2)) rfl rfl rfl) ?_
      refine ro_val (d := (some 8)) rfl (.free rfl) rfl (q_assign (v := .int .i64 (r11.1)) rfl rfl) ?_
      refine ro_val (d := (some 9)) rfl (.free rfl) rfl (q_assign (v := .int .i64 (r11.2)) rfl rfl) ?_
      refine ro_nil ?_
      refine wp_seq ?_
      refine wp_text [0, 1, 2, 3, 4, 5, 6, 7] rfl ?_
      refine ro_val (d := (some 41)) rfl (.free rfl) rfl (q_move (v := .int .i64 (r11.2)) rfl rfl) ?_
      refine ro_val (d := (some 42)) rfl (.free rfl) rfl (q_neq (a := r11.2) (b := (0 : Int)) rfl rfl rfl) ?_
      refine ro_val (d := (some 43)) rfl (.free rfl) rfl (q_move (v := .bool ((r11.2 != (0 : Int)))) rfl rfl) ?_
      refine ro_gval (g := (!(r11.2 != (0 : Int)))) (d := (some 44)) rfl (.no 2 43 true (r11.2 != (0 : Int)) rfl rfl rfl rfl) rfl (fun hg => q_move (v := .int .i64 (r11.1)) rfl rfl) ?_
      refine ro_gval (g := (!(r11.2 != (0 : Int)))) (d := (some 45)) rfl (.no 2 43 true (r11.2 != (0 : Int)) rfl rfl rfl rfl) rfl (fun hg => q_move (v := .int .i64 (i_7)) rfl rfl) ?_
      refine ro_gval (g := (!(r11.2 != (0 : Int)))) (d := (some 46)) rfl (.no 2 43 true (r11.2 != (0 : Int)) rfl rfl rfl rfl) rfl (fun hg => q_add (a := i_7) (b := (1 : Int)) rfl (gvb_yes hg) rfl) ?_
      refine ro_gval (g := (!(r11.2 != (0 : Int)))) (d := (some 47)) rfl (.no 2 43 true (r11.2 != (0 : Int)) rfl rfl rfl rfl) rfl (fun hg => q_neq (a := r11.1) (b := (IntKind.i64.wrap (i_7 + (1 : Int)))) rfl (gvb_yes hg) (gvb_yes hg)) ?_
      refine ro_val (d := (some 48)) rfl (.free rfl) rfl (q_pickGF (a := (r11.2 != (0 : Int))) (c := (r11.1 != (IntKind.i64.wrap (i_7 + (1 : Int))))) rfl rfl rfl rfl) ?_
      refine ro_nil ?_
      refine wp_if (b := ((r11.2 != (0 : Int)) || (r11.1 != (IntKind.i64.wrap (i_7 + (1 : Int)))))) rfl h (fun hb12 h => ?_) (fun hb12 h => ?_)
      · refine wp_seq ?_
        refine wp_text [0] rfl ?_
        refine ro_val (d := (some 4)) rfl (.free rfl) rfl (q_assign (v := .bool (false)) rfl rfl) ?_
        refine ro_nil ?_
        refine wp_ret ?_
        exact ret_ok rfl (.cons (.tmp (v := .bool (false)) rfl) .nil) ⟨false, rfl, h⟩
      · refine wp_skip ?_
        refine wp_text [0, 1, 2] rfl ?_
        refine ro_val (d := (some 33)) rfl (.free rfl) rfl (q_move (v := .int .i64 (i_7)) rfl rfl) ?_
        refine ro_val (d := (some 34)) rfl (.free rfl) rfl (q_add (a := i_7) (b := (1 : Int)) rfl rfl rfl) ?_
        refine ro_val (d := (some 7)) rfl (.free rfl) rfl (q_assign (v := .int .i64 ((IntKind.i64.wrap (i_7 + (1 : Int))))) rfl rfl) ?_
        refine ro_nil ?_
        exact ⟨((IntKind.i64.wrap (i_7 + (1 : Int)))), _, arr (upd_step (upd_step (upd_step (upd_step rfl rfl) rfl) rfl) rfl), h⟩
    · refine wp_exit ?_
      refine wp_seq ?_
      refine wp_text [0, 1, 2, 3, 4, 5, 6] rfl ?_
      refine ro_val (d := (some 50)) rfl (.free rfl) rfl (q_move (v := .pointer (r4.1)) rfl rfl) ?_
      refine ro_wp rfl (.free rfl) (wp_cl (d := (some 51)) rfl (q_call (k := 23) (l := [.pointer (r4.1), .int .i64 ((0 : Int)), .int .i64 ((0 : Int)), .int .i64 ((7 : Int))]) rfl ent23 rfl) h ?_)
      intro r14 w13 h
      refine ro_val (d := (some 49)) rfl (.free rfl) rfl (q_move (v := (tTup2 (tInt .i64) (tInt .i64)).enc (r14)) rfl rfl) ?_
      refine ro_val (d := (some 52)) rfl (.free rfl) rfl (q_extract (vs := #[.int .i64 (r14.1), .int .i64 (r14.2)]) (v := .int .i64 (r14.1)) rfl rfl rfl) ?_
      refine ro_val (d := (some 53)) rfl (.free rfl) rfl (q_extract (vs := #[.int .i64 (r14.1), .int .i64 (r14.2)]) (v := .int .i64 (r14.2)) rfl rfl rfl) ?_
      refine ro_val (d := (some 10)) rfl (.free rfl) rfl (q_assign (v := .int .i64 (r14.1)) rfl rfl) ?_
      refine ro_val (d := (some 11)) rfl (.free rfl) rfl (q_assign (v := .int .i64 (r14.2)) rfl rfl) ?_
      refine ro_nil ?_
      refine wp_seq ?_
      refine wp_text [0, 1, 2, 3, 4] rfl ?_
      refine ro_val (d := (some 54)) rfl (.free rfl) rfl (q_move (v := .pointer (r4.1)) rfl rfl) ?_
      refine ro_val (d := (some 55)) rfl (.free rfl) rfl (q_move (v := .int .u8 (more_1)) rfl rfl) ?_
      refine ro_val (d := (some 56)) rfl (.free rfl) rfl (q_cvtI (a := more_1) rfl Try.underlying5 Try.underlying3 rfl) ?_
      refine ro_wp rfl (.free rfl) (wp_cl (d := (some 57)) rfl (q_call (k := 24) (l := [.pointer (r4.1), .int .i64 ((IntKind.i64.wrap more_1))]) rfl ent24 rfl) h ?_)
      intro r16 w15 h
      refine ro_val (d := (some 12)) rfl (.free rfl) rfl (q_assign (v := .int .i64 (r16)) rfl rfl) ?_
      refine ro_nil ?_
      refine wp_seq ?_
      refine wp_text [0, 1, 2, 3, 4] rfl ?_
      refine ro_val (d := (some 58)) rfl (.free rfl) rfl (q_move (v := .pointer (r4.1)) rfl rfl) ?_
      refine ro_val (d := (some 59)) rfl (.free rfl) rfl (q_move (v := .int .u8 (lose_2)) rfl rfl) ?_
      refine ro_val (d := (some 60)) rfl (.free rfl) rfl (q_cvtI (a := lose_2) rfl Try.underlying5 Try.underlying3 rfl) ?_
      refine ro_wp rfl (.free rfl) (wp_cl (d := (some 61)) rfl (q_call (k := 25) (l := [.pointer (r4.1), .int .i64 ((IntKind.i64.wrap lose_2))]) rfl ent25 rfl) h ?_)
      intro r18 w17 h
      refine ro_val (d := (some 13)) rfl (.free rfl) rfl (q_assign (v := .int .i64 (r18)) rfl rfl) ?_
      refine ro_nil ?_
      refine wp_seq ?_
      refine wp_text [0, 1, 2, 3, 4] rfl ?_
      refine ro_val (d := (some 62)) rfl (.free rfl) rfl (q_move (v := .pointer (r4.1)) rfl rfl) ?_
      refine ro_val (d := (some 63)) rfl (.free rfl) rfl (q_move (v := .int .u8 (more_1)) rfl rfl) ?_
      refine ro_val (d := (some 64)) rfl (.free rfl) rfl (q_cvtI (a := more_1) rfl Try.underlying5 Try.underlying3 rfl) ?_
      refine ro_wp rfl (.free rfl) (wp_cl (d := (some 65)) rfl (q_call (k := 24) (l := [.pointer (r4.1), .int .i64 ((IntKind.i64.wrap more_1))]) rfl ent24 rfl) h ?_)
      intro r20 w19 h
      refine ro_val (d := (some 14)) rfl (.free rfl) rfl (q_assign (v := .int .i64 (r20)) rfl rfl) ?_
      refine ro_nil ?_
      refine wp_seq ?_
      refine wp_text [0, 1, 2] rfl ?_
      refine ro_val (d := (some 66)) rfl (.free rfl) rfl (q_move (v := .pointer (r4.1)) rfl rfl) ?_
      refine ro_wp rfl (.free rfl) (wp_cl (d := (some 67)) rfl (q_call (k := 26) (l := [.pointer (r4.1)]) rfl ent26 rfl) h ?_)
      intro r22 w21 h
      refine ro_val (d := (some 15)) rfl (.free rfl) rfl (q_assign (v := tSlc.enc (r22)) rfl rfl) ?_
      refine ro_nil ?_
      refine wp_seq ?_
      refine wp_seq ?_
      refine wp_text [0, 1, 2, 3, 4, 5, 6, 7, 8, 9, 10, 11, 12, 13, 14, 15, 16, 17, 18] rfl ?_
      refine ro_val (d := (some 68)) rfl (.free rfl) rfl (q_move (v := .int .i64 (r14.2)) rfl rfl) ?_
      refine ro_val (d := (some 69)) rfl (.free rfl) rfl (q_neq (a := r14.2) (b := (91 : Int)) rfl rfl rfl) ?_
      refine ro_val (d := (some 70)) rfl (.free rfl) rfl (q_move (v := .bool ((r14.2 != (91 : Int)))) rfl rfl) ?_
      refine ro_gval (g := (!(r14.2 != (91 : Int)))) (d := (some 71)) rfl (.no 2 70 true (r14.2 != (91 : Int)) rfl rfl rfl rfl) rfl (fun hg => q_move (v := .int .i64 (r16)) rfl rfl) ?_
      refine ro_gval (g := (!(r14.2 != (91 : Int)))) (d := (some 72)) rfl (.no 2 70 true (r14.2 != (91 : Int)) rfl rfl rfl rfl) rfl (fun hg => q_neq (a := r16) (b := (91 : Int)) rfl (gvb_yes hg) rfl) ?_
      refine ro_val (d := (some 73)) rfl (.free rfl) rfl (q_pickGF (a := (r14.2 != (91 : Int))) (c := (r16 != (91 : Int))) rfl rfl rfl rfl) ?_
      refine ro_val (d := (some 74)) rfl (.free rfl) rfl (q_move (v := .bool (((r14.2 != (91 : Int)) || (r16 != (91 : Int))))) rfl rfl) ?_
      refine ro_gval (g := (!((r14.2 != (91 : Int)) || (r16 != (91 : Int))))) (d := (some 75)) rfl (.no 6 74 true ((r14.2 != (91 : Int)) || (r16 != (91 : Int))) rfl rfl rfl rfl) rfl (fun hg => q_move (v := .int .i64 (r18)) rfl rfl) ?_
      refine ro_gval (g := (!((r14.2 != (91 : Int)) || (r16 != (91 : Int))))) (d := (some 76)) rfl (.no 6 74 true ((r14.2 != (91 : Int)) || (r16 != (91 : Int))) rfl rfl rfl rfl) rfl (fun hg => q_neq (a := r18) (b := (0 : Int)) rfl (gvb_yes hg) rfl) ?_
      refine ro_val (d := (some 77)) rfl (.free rfl) rfl (q_pickGF (a := ((r14.2 != (91 : Int)) || (r16 != (91 : Int)))) (c := (r18 != (0 : Int))) rfl rfl rfl rfl) ?_
      refine ro_val (d := (some 78)) rfl (.free rfl) rfl (q_move (v := .bool ((((r14.2 != (91 : Int)) || (r16 != (91 : Int))) || (r18 != (0 : Int))))) rfl rfl) ?_
      refine ro_gval (g := (!(((r14.2 != (91 : Int)) || (r16 != (91 : Int))) || (r18 != (0 : Int))))) (d := (some 79)) rfl (.no 10 78 true (((r14.2 != (91 : Int)) || (r16 != (91 : Int))) || (r18 != (0 : Int))) rfl rfl rfl rfl) rfl (fun hg => q_move (v := .int .i64 (r20)) rfl rfl) ?_
      refine ro_gval (g := (!(((r14.2 != (91 : Int)) || (r16 != (91 : Int))) || (r18 != (0 : Int))))) (d := (some 80)) rfl (.no 10 78 true (((r14.2 != (91 : Int)) || (r16 != (91 : Int))) || (r18 != (0 : Int))) rfl rfl rfl rfl) rfl (fun hg => q_neq (a := r20) (b := (0 : Int)) rfl (gvb_yes hg) rfl) ?_
      refine ro_val (d := (some 81)) rfl (.free rfl) rfl (q_pickGF (a := (((r14.2 != (91 : Int)) || (r16 != (91 : Int))) || (r18 != (0 : Int)))) (c := (r20 != (0 : Int))) rfl rfl rfl rfl) ?_
      refine ro_val (d := (some 82)) rfl (.free rfl) rfl (q_move (v := .bool (((((r14.2 != (91 : Int)) || (r16 != (91 : Int))) || (r18 != (0 : Int))) || (r20 != (0 : Int))))) rfl rfl) ?_
      refine ro_gval (g := (!((((r14.2 != (91 : Int)) || (r16 != (91 : Int))) || (r18 != (0 : Int))) || (r20 != (0 : Int))))) (d := (some 83)) rfl (.no 14 82 true ((((r14.2 != (91 : Int)) || (r16 != (91 : Int))) || (r18 != (0 : Int))) || (r20 != (0 : Int))) rfl rfl rfl rfl) rfl (fun hg => q_move (v := tSlc.enc (r22)) rfl rfl) ?_
      refine ro_gval (g := (!((((r14.2 != (91 : Int)) || (r16 != (91 : Int))) || (r18 != (0 : Int))) || (r20 != (0 : Int))))) (d := (some 84)) rfl (.no 14 82 true ((((r14.2 != (91 : Int)) || (r16 != (91 : Int))) || (r18 != (0 : Int))) || (r20 != (0 : Int))) rfl rfl rfl rfl) rfl (fun hg => q_len (s := r22) rfl Try.underlying58 (gvb_yes hg)) ?_
      refine ro_gval (g := (!((((r14.2 != (91 : Int)) || (r16 != (91 : Int))) || (r18 != (0 : Int))) || (r20 != (0 : Int))))) (d := (some 85)) rfl (.no 14 82 true ((((r14.2 != (91 : Int)) || (r16 != (91 : Int))) || (r18 != (0 : Int))) || (r20 != (0 : Int))) rfl rfl rfl rfl) rfl (fun hg => q_neq (a := (r22.len : Int)) (b := (1000 : Int)) rfl (gvb_yes hg) rfl) ?_
      refine ro_val (d := (some 86)) rfl (.free rfl) rfl (q_pickGF (a := ((((r14.2 != (91 : Int)) || (r16 != (91 : Int))) || (r18 != (0 : Int))) || (r20 != (0 : Int)))) (c := ((r22.len : Int) != (1000 : Int))) rfl rfl rfl rfl) ?_
      refine ro_nil ?_
      refine wp_if (b := (((((r14.2 != (91 : Int)) || (r16 != (91 : Int))) || (r18 != (0 : Int))) || (r20 != (0 : Int))) || ((r22.len : Int) != (1000 : Int)))) rfl h (fun hb38 h => ?_) (fun hb38 h => ?_)
      · refine wp_seq ?_
        refine wp_text [0] rfl ?_
        refine ro_val (d := (some 4)) rfl (.free rfl) rfl (q_assign (v := .bool (false)) rfl rfl) ?_
        refine ro_nil ?_
        refine wp_ret ?_
        exact ret_ok rfl (.cons (.tmp (v := .bool (false)) rfl) .nil) ⟨false, rfl, h⟩
      · refine wp_skip ?_
        refine wp_seq ?_
        refine wp_text [0, 1, 2] rfl ?_
        refine ro_val (d := (some 87)) rfl (.free rfl) rfl (q_move (v := .int .u8 (more_1)) rfl rfl) ?_
        refine ro_val (d := (some 88)) rfl (.free rfl) rfl (q_cvtI (a := more_1) rfl Try.underlying5 Try.underlying3 rfl) ?_
        refine ro_val (d := (some 16)) rfl (.free rfl) rfl (q_assign (v := .int .i64 ((IntKind.i64.wrap more_1))) rfl rfl) ?_
        refine ro_nil ?_
        refine seq_join (σ := Int) (J := fun (s : Int) w => F8_j2 r4 r22 s w R) (fr := fun g (s : Int) => upd (upd (upd (g) 5 (.pointer (r4.1))) 15 (tSlc.enc (r22))) 16 (.int .i64 (s))) ?_ ?_
        · rintro k_23 g w24 h
          unfold F8_j2 at h
          refine wp_seq ?_
          refine wp_text [0, 1, 2, 3, 4, 5, 6, 7, 8, 9, 10, 11, 12, 13, 14, 15, 16, 17, 18, 19, 20] rfl ?_
          refine ro_val (d := (some 95)) rfl (.free rfl) rfl (q_move (v := tSlc.enc (r22)) rfl rfl) ?_
          refine ro_val (d := (some 96)) rfl (.free rfl) rfl (q_move (v := tSlc.enc (r22)) rfl rfl) ?_
          refine ro_val (d := (some 97)) rfl (.free rfl) rfl (q_len (s := r22) rfl Try.underlying58 rfl) ?_
          refine ro_val (d := (some 98)) rfl (.free rfl) rfl (q_sub (a := (r22.len : Int)) (b := (1 : Int)) rfl rfl rfl) ?_
          obtain ⟨a25, ha25, h⟩ := h
          refine ro_val (d := (some 99)) rfl (.free rfl) rfl (q_indexAddr (s := r22) (i := (IntKind.i64.wrap ((r22.len : Int) - (1 : Int)))) rfl Try.underlying58 ok61 rfl rfl ha25) ?_
          refine ro_val (d := (some 100)) rfl (.free rfl) rfl (q_fieldAddr (a := a25) (off := 3) rfl Try.underlying61 rfl rfl ok3 (by decide) rfl) ?_
          obtain ⟨x26, hx26, h⟩ := h
          refine ro_val (d := (some 101)) rfl (.free rfl) rfl (q_load (T := (tInt .i64)) (u := x26) (a := (a25.add 3)) rfl ok3 rfl hx26) ?_
          refine ro_val (d := (some 102)) rfl (.free rfl) rfl (q_move (v := .int .i64 (k_23)) rfl rfl) ?_
          refine ro_val (d := (some 103)) rfl (.free rfl) rfl (q_eql (a := x26) (b := k_23) rfl rfl rfl) ?_
          refine ro_val (d := (some 104)) rfl (.free rfl) rfl (q_move (v := .bool ((x26 == k_23))) rfl rfl) ?_
          refine ro_join (σ := Bool) (J := fun (s : Bool) w => F8_j3 r4 s w R) (fr := fun g (s : Bool) => upd (upd (g) 5 (.pointer (r4.1))) 108 (.bool (s))) [10, 11, 12, 13] [14, 15, 16, 17, 18, 19, 20] ?_ ?_
          · rintro t_27 g w28 h
            unfold F8_j3 at h
            refine ro_val (d := (some 109)) rfl (.free rfl) rfl (q_move (v := .bool (t_27)) rfl rfl) ?_
            refine ro_join (σ := Bool) (J := fun (s : Bool) w => F8_j4 s w R) (fr := fun g (s : Bool) => upd (g) 114 (.bool (s))) [15, 16, 17, 18, 19] [20] ?_ ?_
            · rintro t_29 g w30 h
              unfold F8_j4 at h
              refine ro_val (d := (some 4)) rfl (.free rfl) rfl (q_assign (v := .bool (t_29)) rfl rfl) ?_
              refine ro_nil ?_
              refine wp_ret ?_
              exact ret_ok rfl (.cons (.tmp (v := .bool (t_29)) rfl) .nil) ⟨t_29, rfl, h⟩
            · refine ro_if (b := t_27) h (fun hb31 h => ?_) (fun hb31 h => ?_)
              · refine ro_val (d := (some 110)) rfl (.by_ 14 true 109 t_27 rfl rfl rfl hb31) rfl (q_move (v := .pointer (r4.1)) rfl rfl) ?_
                refine ro_wp rfl (.by_ 14 true 109 t_27 rfl rfl rfl hb31) (wp_cl (d := (some 111)) rfl (q_call (k := 26) (l := [.pointer (r4.1)]) rfl ent26 rfl) h ?_)
                intro r33 w32 h
                refine ro_val (d := (some 112)) rfl (.by_ 14 true 109 t_27 rfl rfl rfl hb31) rfl (q_len (s := r33) rfl Try.underlying58 rfl) ?_
                refine ro_val (d := (some 113)) rfl (.by_ 14 true 109 t_27 rfl rfl rfl hb31) rfl (q_eql (a := (r33.len : Int)) (b := (0 : Int)) rfl rfl rfl) ?_
                refine ro_val (d := (some 114)) rfl (.free rfl) rfl (q_pickT (v := .bool (((r33.len : Int) == (0 : Int)))) (b := t_27) rfl rfl hb31 rfl) ?_
                refine ro_nil ?_
                exact ⟨(((r33.len : Int) == (0 : Int))), _, arr (upd_step rfl rfl), h⟩
              · refine ro_bar (d := (some 110)) rfl (.by_ 14 true 109 t_27 rfl rfl rfl hb31) rfl ?_
                refine ro_bar (d := (some 111)) rfl (.by_ 14 true 109 t_27 rfl rfl rfl hb31) rfl ?_
                refine ro_bar (d := (some 112)) rfl (.by_ 14 true 109 t_27 rfl rfl rfl hb31) rfl ?_
                refine ro_bar (d := (some 113)) rfl (.by_ 14 true 109 t_27 rfl rfl rfl hb31) rfl ?_
                refine ro_val (d := (some 114)) rfl (.free rfl) rfl (q_pickF (v := .bool (false)) (b := t_27) rfl rfl hb31 rfl) ?_
                refine ro_nil ?_
                exact ⟨(false), _, arr (upd_step rfl rfl), h⟩
          · refine ro_if (b := (x26 == k_23)) h (fun hb34 h => ?_) (fun hb34 h => ?_)
            · refine ro_val (d := (some 105)) rfl (.by_ 9 true 104 (x26 == k_23) rfl rfl rfl hb34) rfl (q_move (v := .pointer (r4.1)) rfl rfl) ?_
              refine ro_wp rfl (.by_ 9 true 104 (x26 == k_23) rfl rfl rfl hb34) (wp_cl (d := (some 106)) rfl (q_call (k := 27) (l := [.pointer (r4.1), .int .i64 ((0 : Int))]) rfl ent27 rfl) h ?_)
              intro r36 w35 h
              refine ro_val (d := (some 107)) rfl (.by_ 9 true 104 (x26 == k_23) rfl rfl rfl hb34) rfl (q_eql (a := r36) (b := (0 : Int)) rfl rfl rfl) ?_
              refine ro_val (d := (some 108)) rfl (.free rfl) rfl (q_pickT (v := .bool ((r36 == (0 : Int)))) (b := (x26 == k_23)) rfl rfl hb34 rfl) ?_
              refine ro_nil ?_
              exact ⟨((r36 == (0 : Int))), _, arr (upd_step (upd_step rfl rfl) rfl), h⟩
            · refine ro_bar (d := (some 105)) rfl (.by_ 9 true 104 (x26 == k_23) rfl rfl rfl hb34) rfl ?_
              refine ro_bar (d := (some 106)) rfl (.by_ 9 true 104 (x26 == k_23) rfl rfl rfl hb34) rfl ?_
              refine ro_bar (d := (some 107)) rfl (.by_ 9 true 104 (x26 == k_23) rfl rfl rfl hb34) rfl ?_
              refine ro_val (d := (some 108)) rfl (.free rfl) rfl (q_pickF (v := .bool (false)) (b := (x26 == k_23)) rfl rfl hb34 rfl) ?_
              refine ro_nil ?_
              exact ⟨(false), _, arr (upd_step (upd_step rfl rfl) rfl), h⟩
        · refine wp_seq ?_
          refine wp_text [0, 1, 2, 3] rfl ?_
          refine ro_val (d := (some 89)) rfl (.free rfl) rfl (q_move (v := .int .i64 ((IntKind.i64.wrap more_1))) rfl rfl) ?_
          refine ro_val (d := (some 90)) rfl (.free rfl) rfl (q_move (v := .int .u8 (lose_2)) rfl rfl) ?_
          refine ro_val (d := (some 91)) rfl (.free rfl) rfl (q_cvtI (a := lose_2) rfl Try.underlying5 Try.underlying3 rfl) ?_
          refine ro_val (d := (some 92)) rfl (.free rfl) rfl (q_geq (a := (IntKind.i64.wrap more_1)) (b := (IntKind.i64.wrap lose_2)) rfl rfl rfl) ?_
          refine ro_nil ?_
          refine wp_if (b := (decide ((IntKind.i64.wrap more_1) ≥ (IntKind.i64.wrap lose_2)))) rfl h (fun hb37 h => ?_) (fun hb37 h => ?_)
          · refine wp_text [0, 1, 2] rfl ?_
            refine ro_val (d := (some 93)) rfl (.free rfl) rfl (q_move (v := .int .i64 ((IntKind.i64.wrap more_1))) rfl rfl) ?_
            refine ro_val (d := (some 94)) rfl (.free rfl) rfl (q_add (a := (IntKind.i64.wrap more_1)) (b := (1 : Int)) rfl rfl rfl) ?_
            refine ro_val (d := (some 16)) rfl (.free rfl) rfl (q_assign (v := .int .i64 ((IntKind.i64.wrap ((IntKind.i64.wrap more_1) + (1 : Int))))) rfl rfl) ?_
            refine ro_nil ?_
            exact ⟨((IntKind.i64.wrap ((IntKind.i64.wrap more_1) + (1 : Int)))), _, arr (upd_step (upd_step (upd_step rfl rfl) rfl) rfl), h⟩
          · refine wp_skip ?_
            exact ⟨((IntKind.i64.wrap more_1)), _, arr (upd_step (upd_step (upd_step rfl rfl) rfl) rfl), h⟩

-- moiety/post.New[string]
def F9 (nodes_1 : Int) (w : World) (R : ((Option Addr) × Int) → World → Prop) : Prop :=
  if ((decide (nodes_1 < (1 : Int))) || (decide (nodes_1 > (64 : Int)))) = true then (
    R ((none : Option Addr), (90 : Int)) w
  ) else (
    nwMap w fun m3 w2 =>
    nw 65 T64 (⟨nodes_1, (0 : Int), (⟨none, 0, 0⟩ : Slc), (some m3)⟩ : S64) w2 fun a4 w5 =>
    R ((some a4), (0 : Int)) w5
  )
theorem F9_ok {nodes_1 : Int} {w : World} {R : ((Option Addr) × Int) → World → Prop} (h : F9 nodes_1 w R) : cl Try.prog 9 [.int .i64 (nodes_1)] (tTup2 tPtr (tInt .i64)) w R := by
  unfold F9 at h
  refine calls_start 14 Try.func9 rfl rfl (Nat.le_of_ble_eq_true rfl) ?_
  refine wp_seq ?_
  refine wp_text [0, 1] rfl ?_
  refine ro_val (d := (some 2)) rfl (.free rfl) rfl (q_assign (v := .pointer ((none : Option Addr))) rfl rfl) ?_
  refine ro_val (d := (some 3)) rfl (.free rfl) rfl (q_assign (v := .int .i64 ((0 : Int))) rfl rfl) ?_
  refine ro_nil ?_
  refine wp_seq ?_
  refine wp_seq ?_
  refine wp_text [0, 1, 2, 3, 4, 5] rfl ?_
  refine ro_val (d := (some 4)) rfl (.free rfl) rfl (q_move (v := .int .i64 (nodes_1)) rfl rfl) ?_
  refine ro_val (d := (some 5)) rfl (.free rfl) rfl (q_lss (a := nodes_1) (b := (1 : Int)) rfl rfl rfl) ?_
  refine ro_val (d := (some 6)) rfl (.free rfl) rfl (q_move (v := .bool ((decide (nodes_1 < (1 : Int))))) rfl rfl) ?_
  refine ro_gval (g := (!(decide (nodes_1 < (1 : Int))))) (d := (some 7)) rfl (.no 2 6 true (decide (nodes_1 < (1 : Int))) rfl rfl rfl rfl) rfl (fun hg => q_move (v := .int .i64 (nodes_1)) rfl rfl) ?_
  refine ro_gval (g := (!(decide (nodes_1 < (1 : Int))))) (d := (some 8)) rfl (.no 2 6 true (decide (nodes_1 < (1 : Int))) rfl rfl rfl rfl) rfl (fun hg => q_gtr (a := nodes_1) (b := (64 : Int)) rfl (gvb_yes hg) rfl) ?_
  refine ro_val (d := (some 9)) rfl (.free rfl) rfl (q_pickGF (a := (decide (nodes_1 < (1 : Int)))) (c := (decide (nodes_1 > (64 : Int)))) rfl rfl rfl rfl) ?_
  refine ro_nil ?_
  refine wp_if (b := ((decide (nodes_1 < (1 : Int))) || (decide (nodes_1 > (64 : Int))))) rfl h (fun hb6 h => ?_) (fun hb6 h => ?_)
  · refine wp_seq ?_
    refine wp_text [0, 1] rfl ?_
    refine ro_val (d := (some 2)) rfl (.free rfl) rfl (q_assign (v := .pointer ((none : Option Addr))) rfl rfl) ?_
    refine ro_val (d := (some 3)) rfl (.free rfl) rfl (q_assign (v := .int .i64 ((90 : Int))) rfl rfl) ?_
    refine ro_nil ?_
    refine wp_ret ?_
    exact ret_ok rfl (.cons (.tmp (v := .pointer ((none : Option Addr))) rfl) (.cons (.tmp (v := .int .i64 ((90 : Int))) rfl) .nil)) ⟨((none : Option Addr), (90 : Int)), rfl, h⟩
  · refine wp_skip ?_
    refine wp_seq ?_
    refine wp_text [0, 1, 2, 3, 4, 5] rfl ?_
    refine ro_val (d := (some 10)) rfl (.free rfl) rfl (q_move (v := .int .i64 (nodes_1)) rfl rfl) ?_
    obtain ⟨m3, w2, hm3, hw2, h⟩ := nwMap_open h
    refine ro_val (d := (some 11)) rfl (.free rfl) rfl (q_makeMap rfl hm3 hw2) ?_
    refine ro_val (d := (some 12)) rfl (.free rfl) rfl (q_build65_0_3 (v0 := nodes_1) (v3 := (some m3)) rfl rfl rfl) ?_
    obtain ⟨a4, w5, ha4, hw5, h⟩ := nw_open h
    refine ro_val (d := (some 13)) rfl (.free rfl) rfl (q_box (u := (⟨nodes_1, (0 : Int), (⟨none, 0, 0⟩ : Slc), (some m3)⟩ : S64)) rfl ok65 rfl ha4 hw5) ?_
    refine ro_val (d := (some 2)) rfl (.free rfl) rfl (q_assign (v := .pointer (some a4)) rfl rfl) ?_
    refine ro_val (d := (some 3)) rfl (.free rfl) rfl (q_assign (v := .int .i64 ((0 : Int))) rfl rfl) ?_
    refine ro_nil ?_
    refine wp_ret ?_
    exact ret_ok rfl (.cons (.tmp (v := .pointer ((some a4))) rfl) (.cons (.tmp (v := .int .i64 ((0 : Int))) rfl) .nil)) ⟨((some a4), (0 : Int)), rfl, h⟩

end Go.Proofs.Ytpflfnaflacfgaa.Cf
