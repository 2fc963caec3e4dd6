/- Characteristic formulae of Go functions, and that they are. Printed by gen.py (own tool). -/
import Derived.Test.YtojcgejjdfcaaaaTy
namespace Go.Proofs.Ytojcgejjdfcaaaa.Cf
open Go
set_option maxRecDepth 100000
set_option maxHeartbeats 1000000
set_option linter.unusedVariables false
set_option linter.unusedSimpArgs false

-- moiety/moietylaw13.LocksEnds
def F7_l5 (l_1 : Slc) (i_13 : Int) (k_20 : Int) (r32 : Slc) (a_43 : Int) (w44 : World) (K22 : Int → World → Prop) (K45 : Int → World → Prop) (R : Bool → World → Prop) : Prop :=
  if (decide (a_43 < (r32.len : Int))) = true then (
    dr w44 fun w46 =>
    ex (IxA r32 2 a_43) fun a47 =>
    ex (IxA l_1 4 i_13) fun a48 =>
    ex (RdAt (tInt .i64) (a47.add 0) w46) fun x49 =>
    ex (RdAt (tInt .i64) (a48.add 1) w46) fun x50 =>
    if (x49 == x50) = true then (
      R false w46
    ) else (
      K45 ((IntKind.i64.wrap (a_43 + (1 : Int)))) w46
    )
  ) else (
    K22 ((IntKind.i64.wrap (k_20 + (1 : Int)))) w44
  )
def F7_l4 (l_1 : Slc) (i_13 : Int) (k_20 : Int) (r29 : Slc) (r32 : Slc) (a_34 : Int) (w35 : World) (K22 : Int → World → Prop) (K36 : Int → World → Prop) (R : Bool → World → Prop) : Prop :=
  if (decide (a_34 < (r29.len : Int))) = true then (
    dr w35 fun w37 =>
    ex (IxA r29 2 a_34) fun a38 =>
    ex (IxA l_1 4 i_13) fun a39 =>
    ex (RdAt (tInt .i64) (a38.add 0) w37) fun x40 =>
    ex (RdAt (tInt .i64) (a39.add 1) w37) fun x41 =>
    if (x40 == x41) = true then (
      R false w37
    ) else (
      K36 ((IntKind.i64.wrap (a_34 + (1 : Int)))) w37
    )
  ) else (
    lp (fun (s : Int) w K => F7_l5 l_1 i_13 k_20 r32 s w K22 K R) ((0 : Int)) w35
  )
def F7_l3 (l_1 : Slc) (r3 : (Option Addr)) (i_13 : Int) (k_20 : Int) (w21 : World) (K15 : Int → World → Prop) (K22 : Int → World → Prop) (R : Bool → World → Prop) : Prop :=
  if ((decide (k_20 < (l_1.len : Int))) && (decide (k_20 < (40 : Int)))) = true then (
    dr w21 fun w23 =>
    ex (IxA l_1 4 k_20) fun a24 =>
    ex (IxA l_1 4 k_20) fun a25 =>
    ex (RdAt (tInt .i64) (a24.add 2) w23) fun x26 =>
    ex (RdAt (tInt .i64) (a25.add 2) w23) fun x27 =>
    cl Try.prog 21 [.pointer (r3), .int .i64 (x26)] tSlc w23 fun r29 w28 =>
    kp ((RdAt (tInt .i64) (a25.add 2) w28) x27) <|
    cl Try.prog 22 [.pointer (r3), .int .i64 (x27)] tSlc w28 fun r32 w31 =>
    kp ((RdAt (tInt .i64) (a24.add 2) w31) x26) <|
    if (((r29.len : Int) == (0 : Int)) && (decide ((r32.len : Int) > (0 : Int)))) = true then (
      R false w31
    ) else (
      lp (fun (s : Int) w K => F7_l4 l_1 i_13 k_20 r29 r32 s w K22 K R) ((0 : Int)) w31
    )
  ) else (
    K15 ((IntKind.i64.wrap (i_13 + (1 : Int)))) w21
  )
def F7_j7 (k_56 : Int) (t_59 : Bool) (w60 : World) (K58 : Int → World → Prop) (R : Bool → World → Prop) : Prop :=
  if t_59 = true then (
    R false w60
  ) else (
    K58 ((IntKind.i64.wrap (k_56 + (1 : Int)))) w60
  )
def F7_l6 (l_1 : Slc) (r3 : (Option Addr)) (k_56 : Int) (w57 : World) (K58 : Int → World → Prop) (R : Bool → World → Prop) : Prop :=
  if ((decide (k_56 < (l_1.len : Int))) && (decide (k_56 < (40 : Int)))) = true then (
    dr w57 fun w62 =>
    ex (IxA l_1 4 k_56) fun a63 =>
    ex (IxA l_1 4 k_56) fun a64 =>
    ex (RdAt (tInt .i64) (a63.add 2) w62) fun x65 =>
    ex (RdAt (tInt .i64) (a64.add 2) w62) fun x66 =>
    cl Try.prog 21 [.pointer (r3), .int .i64 (x65)] tSlc w62 fun r68 w67 =>
    kp ((RdAt (tInt .i64) (a64.add 2) w67) x66) <|
    cl Try.prog 22 [.pointer (r3), .int .i64 (x66)] tSlc w67 fun r71 w70 =>
    kp ((RdAt (tInt .i64) (a63.add 2) w70) x65) <|
    if (decide ((IntKind.i64.wrap ((r68.len : Int) + (r71.len : Int))) > (0 : Int))) = true then (
      F7_j7 k_56 true w70 K58 R
    ) else (
      ex (IxA l_1 4 k_56) fun a74 =>
      ex (RdAt (tInt .i64) (a74.add 1) w70) fun x75 =>
      cl Try.prog 18 [.pointer (r3), .int .i64 (x75)] tBool w70 fun r77 w76 =>
      kp ((RdAt (tInt .i64) (a63.add 2) w76) x65) <|
      kp ((RdAt (tInt .i64) (a64.add 2) w76) x66) <|
      F7_j7 k_56 r77 w76 K58 R
    )
  ) else (
    R true w57
  )
def F7_l2 (l_1 : Slc) (r3 : (Option Addr)) (i_13 : Int) (w14 : World) (K15 : Int → World → Prop) (R : Bool → World → Prop) : Prop :=
  if ((decide (i_13 < (l_1.len : Int))) && (decide (i_13 < (40 : Int)))) = true then (
    ex (IxA l_1 4 i_13) fun a16 =>
    ex (RdAt (tInt .i64) (a16.add 1) w14) fun x17 =>
    cl Try.prog 15 [.pointer (r3), .int .i64 (x17)] (tTup2 tSlc (tInt .i64)) w14 fun r19 w18 =>
    lp (fun (s : Int) w K => F7_l3 l_1 r3 i_13 s w K15 K R) ((0 : Int)) w18
  ) else (
    lp (fun (s : Int) w K => F7_l6 l_1 r3 s w K R) ((0 : Int)) w14
  )
def F7_l1 (l_1 : Slc) (r3 : (Option Addr)) (i_6 : Int) (w7 : World) (K8 : Int → World → Prop) (R : Bool → World → Prop) : Prop :=
  if ((decide (i_6 < (l_1.len : Int))) && (decide (i_6 < (40 : Int)))) = true then (
    ex (IxA l_1 4 i_6) fun a9 =>
    ex (RdAt T30 a9 w7) fun x10 =>
    cl Try.prog 20 [.pointer (r3), T30.enc (x10)] (tTup2 T33 (tInt .i64)) w7 fun r12 w11 =>
    K8 ((IntKind.i64.wrap (i_6 + (1 : Int)))) w11
  ) else (
    lp (fun (s : Int) w K => F7_l2 l_1 r3 s w K R) ((0 : Int)) w7
  )
def F7 (l_1 : Slc) (w : World) (R : Bool → World → Prop) : Prop :=
  cl Try.prog 9 [] tPtr w fun r3 w2 =>
  cl Try.prog 10 [] tBool w2 fun r5 w4 =>
  if ((!r5) || r3.isNone) = true then (
    R false w4
  ) else (
    lp (fun (s : Int) w K => F7_l1 l_1 r3 s w K R) ((0 : Int)) w4
  )
theorem F7_ok {l_1 : Slc} {w : World} {R : Bool → World → Prop} (h : F7 l_1 w R) : cl Try.prog 7 [tSlc.enc (l_1)] tBool w R := by
  unfold F7 at h
  refine calls_start 155 Try.func7 rfl rfl (Nat.le_of_ble_eq_true rfl) ?_
  refine wp_seq ?_
  refine wp_text [0] rfl ?_
  refine ro_val (d := (some 2)) rfl (.free rfl) rfl (q_assign (v := .bool (false)) rfl rfl) ?_
  refine ro_nil ?_
  refine wp_seq ?_
  refine wp_text [0, 1] rfl ?_
  refine ro_wp rfl (.free rfl) (wp_cl (d := (some 12)) rfl (q_call (k := 9) (l := []) rfl ent9 rfl) h ?_)
  intro r3 w2 h
  refine ro_val (d := (some 3)) rfl (.free rfl) rfl (q_assign (v := .pointer (r3)) rfl rfl) ?_
  refine ro_nil ?_
  refine wp_seq ?_
  refine wp_seq ?_
  refine wp_text [0, 1, 2, 3, 4, 5] rfl ?_
  refine ro_wp rfl (.free rfl) (wp_cl (d := (some 13)) rfl (q_call (k := 10) (l := []) rfl ent10 rfl) h ?_)
  intro r5 w4 h
  refine ro_val (d := (some 14)) rfl (.free rfl) rfl (q_not (b := r5) rfl rfl) ?_
  refine ro_val (d := (some 15)) rfl (.free rfl) rfl (q_move (v := .bool ((!r5))) rfl rfl) ?_
  refine ro_gval (g := (!(!r5))) (d := (some 16)) rfl (.no 2 15 true (!r5) rfl rfl rfl rfl) rfl (fun hg => q_move (v := .pointer (r3)) rfl rfl) ?_
  refine ro_gval (g := (!(!r5))) (d := (some 17)) rfl (.no 2 15 true (!r5) rfl rfl rfl rfl) rfl (fun hg => q_eqP0 (a := r3) rfl Try.underlying23 (gvb_yes hg) rfl) ?_
  refine ro_val (d := (some 18)) rfl (.free rfl) rfl (q_pickGF (a := (!r5)) (c := r3.isNone) rfl rfl rfl rfl) ?_
  refine ro_nil ?_
  refine wp_if (b := ((!r5) || r3.isNone)) rfl h (fun hb83 h => ?_) (fun hb83 h => ?_)
  · refine wp_seq ?_
    refine wp_text [0] rfl ?_
    refine ro_val (d := (some 2)) rfl (.free rfl) rfl (q_assign (v := .bool (false)) rfl rfl) ?_
    refine ro_nil ?_
    refine wp_ret ?_
    exact ret_ok rfl (.cons (.tmp (v := .bool (false)) rfl) .nil) ⟨false, rfl, h⟩
  · refine wp_skip ?_
    refine wp_seq ?_
    refine wp_seq ?_
    refine wp_text [0] rfl ?_
    refine ro_val (d := (some 4)) rfl (.free rfl) rfl (q_assign (v := .int .i64 ((0 : Int))) rfl rfl) ?_
    refine ro_nil ?_
    refine wp_block ?_
    refine loop_at (σ := Int) (fr := fun g (s : Int) => upd (upd (upd (g) 0 (tSlc.enc (l_1))) 3 (.pointer (r3))) 4 (.int .i64 (s))) (s0 := ((0 : Int))) (upd_step (upd_step (upd_step rfl rfl) rfl) rfl) h ?_
    rintro i_6 g w7 K8 h
    unfold F7_l1 at h
    refine wp_seq ?_
    refine wp_seq ?_
    refine wp_text [0, 1, 2, 3, 4, 5, 6, 7] rfl ?_
    refine ro_val (d := (some 19)) rfl (.free rfl) rfl (q_move (v := .int .i64 (i_6)) rfl rfl) ?_
    refine ro_val (d := (some 20)) rfl (.free rfl) rfl (q_move (v := tSlc.enc (l_1)) rfl rfl) ?_
    refine ro_val (d := (some 21)) rfl (.free rfl) rfl (q_len (s := l_1) rfl Try.underlying22 rfl) ?_
    refine ro_val (d := (some 22)) rfl (.free rfl) rfl (q_lss (a := i_6) (b := (l_1.len : Int)) rfl rfl rfl) ?_
    refine ro_val (d := (some 23)) rfl (.free rfl) rfl (q_move (v := .bool ((decide (i_6 < (l_1.len : Int))))) rfl rfl) ?_
    refine ro_gval (g := (decide (i_6 < (l_1.len : Int)))) (d := (some 24)) rfl (.yes 4 23 true (decide (i_6 < (l_1.len : Int))) rfl rfl rfl rfl) rfl (fun hg => q_move (v := .int .i64 (i_6)) rfl rfl) ?_
    refine ro_gval (g := (decide (i_6 < (l_1.len : Int)))) (d := (some 25)) rfl (.yes 4 23 true (decide (i_6 < (l_1.len : Int))) rfl rfl rfl rfl) rfl (fun hg => q_lss (a := i_6) (b := (40 : Int)) rfl (gvb_yes hg) rfl) ?_
    refine ro_val (d := (some 26)) rfl (.free rfl) rfl (q_pickGT (a := (decide (i_6 < (l_1.len : Int)))) (b := (decide (i_6 < (40 : Int)))) rfl rfl rfl rfl) ?_
    refine ro_nil ?_
    refine wp_if (b := ((decide (i_6 < (l_1.len : Int))) && (decide (i_6 < (40 : Int))))) rfl h (fun hb82 h => ?_) (fun hb82 h => ?_)
    · refine wp_skip ?_
      refine wp_seq ?_
      refine wp_block ?_
      refine wp_text [0, 1, 2, 3, 4, 5] rfl ?_
      refine ro_val (d := (some 29)) rfl (.free rfl) rfl (q_move (v := .pointer (r3)) rfl rfl) ?_
      refine ro_val (d := (some 30)) rfl (.free rfl) rfl (q_move (v := tSlc.enc (l_1)) rfl rfl) ?_
      refine ro_val (d := (some 31)) rfl (.free rfl) rfl (q_move (v := .int .i64 (i_6)) rfl rfl) ?_
      obtain ⟨a9, ha9, h⟩ := h
      refine ro_val (d := (some 32)) rfl (.free rfl) rfl (q_indexAddr (s := l_1) (i := i_6) rfl Try.underlying22 ok31 rfl rfl ha9) ?_
      obtain ⟨x10, hx10, h⟩ := h
      refine ro_val (d := (some 33)) rfl (.free rfl) rfl (q_load (T := T30) (u := x10) (a := a9) rfl ok31 rfl hx10) ?_
      refine ro_wp rfl (.free rfl) (wp_cl (d := (some 34)) rfl (q_call (k := 20) (l := [.pointer (r3), T30.enc (x10)]) rfl ent20 rfl) h ?_)
      intro r12 w11 h
      refine ro_nil ?_
      refine wp_text [0, 1, 2] rfl ?_
      refine ro_val (d := (some 27)) rfl (.free rfl) rfl (q_move (v := .int .i64 (i_6)) rfl rfl) ?_
      refine ro_val (d := (some 28)) rfl (.free rfl) rfl (q_add (a := i_6) (b := (1 : Int)) rfl rfl rfl) ?_
      refine ro_val (d := (some 4)) rfl (.free rfl) rfl (q_assign (v := .int .i64 ((IntKind.i64.wrap (i_6 + (1 : Int))))) rfl rfl) ?_
      refine ro_nil ?_
      exact ⟨((IntKind.i64.wrap (i_6 + (1 : Int)))), _, arr (upd_step (upd_step (upd_step rfl rfl) rfl) rfl), h⟩
    · refine wp_exit ?_
      refine wp_seq ?_
      refine wp_seq ?_
      refine wp_text [0] rfl ?_
      refine ro_val (d := (some 5)) rfl (.free rfl) rfl (q_assign (v := .int .i64 ((0 : Int))) rfl rfl) ?_
      refine ro_nil ?_
      refine wp_block ?_
      refine loop_at (σ := Int) (fr := fun g (s : Int) => upd (upd (upd (g) 0 (tSlc.enc (l_1))) 3 (.pointer (r3))) 5 (.int .i64 (s))) (s0 := ((0 : Int))) (upd_step (upd_step (upd_step rfl rfl) rfl) rfl) h ?_
      rintro i_13 g w14 K15 h
      unfold F7_l2 at h
      refine wp_seq ?_
      refine wp_seq ?_
      refine wp_text [0, 1, 2, 3, 4, 5, 6, 7] rfl ?_
      refine ro_val (d := (some 35)) rfl (.free rfl) rfl (q_move (v := .int .i64 (i_13)) rfl rfl) ?_
      refine ro_val (d := (some 36)) rfl (.free rfl) rfl (q_move (v := tSlc.enc (l_1)) rfl rfl) ?_
      refine ro_val (d := (some 37)) rfl (.free rfl) rfl (q_len (s := l_1) rfl Try.underlying22 rfl) ?_
      refine ro_val (d := (some 38)) rfl (.free rfl) rfl (q_lss (a := i_13) (b := (l_1.len : Int)) rfl rfl rfl) ?_
      refine ro_val (d := (some 39)) rfl (.free rfl) rfl (q_move (v := .bool ((decide (i_13 < (l_1.len : Int))))) rfl rfl) ?_
      refine ro_gval (g := (decide (i_13 < (l_1.len : Int)))) (d := (some 40)) rfl (.yes 4 39 true (decide (i_13 < (l_1.len : Int))) rfl rfl rfl rfl) rfl (fun hg => q_move (v := .int .i64 (i_13)) rfl rfl) ?_
      refine ro_gval (g := (decide (i_13 < (l_1.len : Int)))) (d := (some 41)) rfl (.yes 4 39 true (decide (i_13 < (l_1.len : Int))) rfl rfl rfl rfl) rfl (fun hg => q_lss (a := i_13) (b := (40 : Int)) rfl (gvb_yes hg) rfl) ?_
      refine ro_val (d := (some 42)) rfl (.free rfl) rfl (q_pickGT (a := (decide (i_13 < (l_1.len : Int)))) (b := (decide (i_13 < (40 : Int)))) rfl rfl rfl rfl) ?_
      refine ro_nil ?_
      refine wp_if (b := ((decide (i_13 < (l_1.len : Int))) && (decide (i_13 < (40 : Int))))) rfl h (fun hb81 h => ?_) (fun hb81 h => ?_)
      · refine wp_skip ?_
        refine wp_seq ?_
        refine wp_block ?_
        refine wp_seq ?_
        refine wp_text [0, 1, 2, 3, 4, 5, 6] rfl ?_
        refine ro_val (d := (some 45)) rfl (.free rfl) rfl (q_move (v := .pointer (r3)) rfl rfl) ?_
        refine ro_val (d := (some 46)) rfl (.free rfl) rfl (q_move (v := tSlc.enc (l_1)) rfl rfl) ?_
        refine ro_val (d := (some 47)) rfl (.free rfl) rfl (q_move (v := .int .i64 (i_13)) rfl rfl) ?_
        obtain ⟨a16, ha16, h⟩ := h
        refine ro_val (d := (some 48)) rfl (.free rfl) rfl (q_indexAddr (s := l_1) (i := i_13) rfl Try.underlying22 ok31 rfl rfl ha16) ?_
        refine ro_val (d := (some 49)) rfl (.free rfl) rfl (q_fieldAddr (a := a16) (off := 1) rfl Try.underlying31 rfl rfl ok3 (by decide) rfl) ?_
        obtain ⟨x17, hx17, h⟩ := h
        refine ro_val (d := (some 50)) rfl (.free rfl) rfl (q_load (T := (tInt .i64)) (u := x17) (a := (a16.add 1)) rfl ok3 rfl hx17) ?_
        refine ro_wp rfl (.free rfl) (wp_cl (d := (some 51)) rfl (q_call (k := 15) (l := [.pointer (r3), .int .i64 (x17)]) rfl ent15 rfl) h ?_)
        intro r19 w18 h
        refine ro_nil ?_
        refine wp_seq ?_
        refine wp_text [0] rfl ?_
        refine ro_val (d := (some 6)) rfl (.free rfl) rfl (q_assign (v := .int .i64 ((0 : Int))) rfl rfl) ?_
        refine ro_nil ?_
        refine wp_block ?_
        refine loop_at (σ := Int) (fr := fun g (s : Int) => upd (upd (upd (upd (g) 0 (tSlc.enc (l_1))) 3 (.pointer (r3))) 5 (.int .i64 (i_13))) 6 (.int .i64 (s))) (s0 := ((0 : Int))) (upd_step (upd_step (upd_step (upd_step rfl rfl) rfl) rfl) rfl) h ?_
        rintro k_20 g w21 K22 h
        unfold F7_l3 at h
        refine wp_seq ?_
        refine wp_seq ?_
        refine wp_text [0, 1, 2, 3, 4, 5, 6, 7] rfl ?_
        refine ro_val (d := (some 52)) rfl (.free rfl) rfl (q_move (v := .int .i64 (k_20)) rfl rfl) ?_
        refine ro_val (d := (some 53)) rfl (.free rfl) rfl (q_move (v := tSlc.enc (l_1)) rfl rfl) ?_
        refine ro_val (d := (some 54)) rfl (.free rfl) rfl (q_len (s := l_1) rfl Try.underlying22 rfl) ?_
        refine ro_val (d := (some 55)) rfl (.free rfl) rfl (q_lss (a := k_20) (b := (l_1.len : Int)) rfl rfl rfl) ?_
        refine ro_val (d := (some 56)) rfl (.free rfl) rfl (q_move (v := .bool ((decide (k_20 < (l_1.len : Int))))) rfl rfl) ?_
        refine ro_gval (g := (decide (k_20 < (l_1.len : Int)))) (d := (some 57)) rfl (.yes 4 56 true (decide (k_20 < (l_1.len : Int))) rfl rfl rfl rfl) rfl (fun hg => q_move (v := .int .i64 (k_20)) rfl rfl) ?_
        refine ro_gval (g := (decide (k_20 < (l_1.len : Int)))) (d := (some 58)) rfl (.yes 4 56 true (decide (k_20 < (l_1.len : Int))) rfl rfl rfl rfl) rfl (fun hg => q_lss (a := k_20) (b := (40 : Int)) rfl (gvb_yes hg) rfl) ?_
        refine ro_val (d := (some 59)) rfl (.free rfl) rfl (q_pickGT (a := (decide (k_20 < (l_1.len : Int)))) (b := (decide (k_20 < (40 : Int)))) rfl rfl rfl rfl) ?_
        refine ro_nil ?_
        refine wp_if (b := ((decide (k_20 < (l_1.len : Int))) && (decide (k_20 < (40 : Int))))) rfl h (fun hb55 h => ?_) (fun hb55 h => ?_)
        · refine wp_skip ?_
          refine wp_seq ?_
          refine wp_block ?_
          refine wp_seq ?_
          obtain ⟨w23, hw23, h⟩ := dr_open h
          refine wp_drawn 16 mixed rfl (by kernel_rfl) (by intro c a d v w h; cases d <;> exact h) hw23 (fun hD => ?_)
          refine rd_pure (i := 0) (d := (some 62)) hD (by kernel_rfl) (by kernel_rfl) rfl (.free rfl) rfl (fun _ => q_move (v := .pointer (r3)) rfl rfl) ?_
          refine rd_pure (i := 1) (d := (some 63)) hD (by kernel_rfl) (by kernel_rfl) rfl (.free rfl) rfl (fun _ => q_move (v := tSlc.enc (l_1)) rfl rfl) ?_
          refine rd_pure (i := 2) (d := (some 64)) hD (by kernel_rfl) (by kernel_rfl) rfl (.free rfl) rfl (fun _ => q_move (v := .int .i64 (k_20)) rfl rfl) ?_
          obtain ⟨a24, ha24, h⟩ := h
          refine rd_pure (i := 3) (d := (some 65)) hD (by kernel_rfl) (by kernel_rfl) rfl (.free rfl) rfl (fun _ => q_indexAddr (s := l_1) (i := k_20) rfl Try.underlying22 ok31 rfl rfl ha24) ?_
          refine rd_pure (i := 4) (d := (some 66)) hD (by kernel_rfl) (by kernel_rfl) rfl (.free rfl) rfl (fun _ => q_fieldAddr (a := a24) (off := 2) rfl Try.underlying31 rfl rfl ok3 (by decide) rfl) ?_
          refine rd_pure (i := 7) (d := (some 69)) hD (by kernel_rfl) (by kernel_rfl) rfl (.free rfl) rfl (fun _ => q_move (v := .pointer (r3)) rfl rfl) ?_
          refine rd_pure (i := 8) (d := (some 70)) hD (by kernel_rfl) (by kernel_rfl) rfl (.free rfl) rfl (fun _ => q_move (v := tSlc.enc (l_1)) rfl rfl) ?_
          refine rd_pure (i := 9) (d := (some 71)) hD (by kernel_rfl) (by kernel_rfl) rfl (.free rfl) rfl (fun _ => q_move (v := .int .i64 (k_20)) rfl rfl) ?_
          obtain ⟨a25, ha25, h⟩ := h
          refine rd_pure (i := 10) (d := (some 72)) hD (by kernel_rfl) (by kernel_rfl) rfl (.free rfl) rfl (fun _ => q_indexAddr (s := l_1) (i := k_20) rfl Try.underlying22 ok31 rfl rfl ha25) ?_
          refine rd_pure (i := 11) (d := (some 73)) hD (by kernel_rfl) (by kernel_rfl) rfl (.free rfl) rfl (fun _ => q_fieldAddr (a := a25) (off := 2) rfl Try.underlying31 rfl rfl ok3 (by decide) rfl) ?_
          obtain ⟨x26, hx26, h⟩ := h
          refine rd_read (i := 5) (d := (some 67)) (fun W => (RdAt (tInt .i64) (a24.add 2) W) x26) hD (by kernel_rfl) (by kernel_rfl) rfl (.free rfl) rfl (fun W hr => q_load (T := (tInt .i64)) (u := x26) (a := (a24.add 2)) rfl ok3 rfl hr) hx26 ?_
          obtain ⟨x27, hx27, h⟩ := h
          refine rd_read (i := 12) (d := (some 74)) (fun W => (RdAt (tInt .i64) (a25.add 2) W) x27) hD (by kernel_rfl) (by kernel_rfl) rfl (.free rfl) rfl (fun W hr => q_load (T := (tInt .i64)) (u := x27) (a := (a25.add 2)) rfl ok3 rfl hr) hx27 ?_
          refine rd_one (i := 6) (by kernel_rfl) ?_
          refine po_wp rfl (.free rfl) (wp_cl (d := (some 68)) rfl (q_call (k := 21) (l := [.pointer (r3), .int .i64 (x26)]) rfl ent21 rfl) h ?_)
          intro r29 w28 h
          obtain ⟨hk30, h⟩ := h
          refine ⟨(hk_keep (fun _ => hk30) (hk_wait (by kernel_rfl) hk_nil)), ?_⟩
          refine rd_one (i := 13) (by kernel_rfl) ?_
          refine po_wp rfl (.free rfl) (wp_cl (d := (some 75)) rfl (q_call (k := 22) (l := [.pointer (r3), .int .i64 (x27)]) rfl ent22 rfl) h ?_)
          intro r32 w31 h
          obtain ⟨hk33, h⟩ := h
          refine ⟨(hk_wait (by kernel_rfl) (hk_keep (fun _ => hk33) hk_nil)), ?_⟩
          refine rd_pure (i := 14) (d := (some 7)) hD (by kernel_rfl) (by kernel_rfl) rfl (.free rfl) rfl (fun _ => q_assign (v := tSlc.enc (r29)) rfl rfl) ?_
          refine rd_pure (i := 15) (d := (some 8)) hD (by kernel_rfl) (by kernel_rfl) rfl (.free rfl) rfl (fun _ => q_assign (v := tSlc.enc (r32)) rfl rfl) ?_
          refine rd_nil (by kernel_rfl) ?_
          refine wp_seq ?_
          refine wp_seq ?_
          refine wp_text [0, 1, 2, 3, 4, 5, 6, 7] rfl ?_
          refine ro_val (d := (some 76)) rfl (.free rfl) rfl (q_move (v := tSlc.enc (r29)) rfl rfl) ?_
          refine ro_val (d := (some 77)) rfl (.free rfl) rfl (q_len (s := r29) rfl Try.underlying51 rfl) ?_
          refine ro_val (d := (some 78)) rfl (.free rfl) rfl (q_eql (a := (r29.len : Int)) (b := (0 : Int)) rfl rfl rfl) ?_
          refine ro_val (d := (some 79)) rfl (.free rfl) rfl (q_move (v := .bool (((r29.len : Int) == (0 : Int)))) rfl rfl) ?_
          refine ro_gval (g := ((r29.len : Int) == (0 : Int))) (d := (some 80)) rfl (.yes 3 79 true ((r29.len : Int) == (0 : Int)) rfl rfl rfl rfl) rfl (fun hg => q_move (v := tSlc.enc (r32)) rfl rfl) ?_
          refine ro_gval (g := ((r29.len : Int) == (0 : Int))) (d := (some 81)) rfl (.yes 3 79 true ((r29.len : Int) == (0 : Int)) rfl rfl rfl rfl) rfl (fun hg => q_len (s := r32) rfl Try.underlying51 (gvb_yes hg)) ?_
          refine ro_gval (g := ((r29.len : Int) == (0 : Int))) (d := (some 82)) rfl (.yes 3 79 true ((r29.len : Int) == (0 : Int)) rfl rfl rfl rfl) rfl (fun hg => q_gtr (a := (r32.len : Int)) (b := (0 : Int)) rfl (gvb_yes hg) rfl) ?_
          refine ro_val (d := (some 83)) rfl (.free rfl) rfl (q_pickGT (a := ((r29.len : Int) == (0 : Int))) (b := (decide ((r32.len : Int) > (0 : Int)))) rfl rfl rfl rfl) ?_
          refine ro_nil ?_
          refine wp_if (b := (((r29.len : Int) == (0 : Int)) && (decide ((r32.len : Int) > (0 : Int))))) rfl h (fun hb54 h => ?_) (fun hb54 h => ?_)
          · refine wp_seq ?_
            refine wp_text [0] rfl ?_
            refine ro_val (d := (some 2)) rfl (.free rfl) rfl (q_assign (v := .bool (false)) rfl rfl) ?_
            refine ro_nil ?_
            refine wp_ret ?_
            exact ret_ok rfl (.cons (.tmp (v := .bool (false)) rfl) .nil) ⟨false, rfl, h⟩
          · refine wp_skip ?_
            refine wp_seq ?_
            refine wp_seq ?_
            refine wp_text [0] rfl ?_
            refine ro_val (d := (some 9)) rfl (.free rfl) rfl (q_assign (v := .int .i64 ((0 : Int))) rfl rfl) ?_
            refine ro_nil ?_
            refine wp_block ?_
            refine loop_at (σ := Int) (fr := fun g (s : Int) => upd (upd (upd (upd (upd (upd (upd (g) 0 (tSlc.enc (l_1))) 3 (.pointer (r3))) 5 (.int .i64 (i_13))) 6 (.int .i64 (k_20))) 7 (tSlc.enc (r29))) 8 (tSlc.enc (r32))) 9 (.int .i64 (s))) (s0 := ((0 : Int))) (upd_step (upd_step (upd_step (upd_step (upd_step (upd_step (upd_step rfl rfl) rfl) rfl) rfl) rfl) rfl) rfl) h ?_
            rintro a_34 g w35 K36 h
            unfold F7_l4 at h
            refine wp_seq ?_
            refine wp_seq ?_
            refine wp_text [0, 1, 2, 3] rfl ?_
            refine ro_val (d := (some 84)) rfl (.free rfl) rfl (q_move (v := .int .i64 (a_34)) rfl rfl) ?_
            refine ro_val (d := (some 85)) rfl (.free rfl) rfl (q_move (v := tSlc.enc (r29)) rfl rfl) ?_
            refine ro_val (d := (some 86)) rfl (.free rfl) rfl (q_len (s := r29) rfl Try.underlying51 rfl) ?_
            refine ro_val (d := (some 87)) rfl (.free rfl) rfl (q_lss (a := a_34) (b := (r29.len : Int)) rfl rfl rfl) ?_
            refine ro_nil ?_
            refine wp_if (b := (decide (a_34 < (r29.len : Int)))) rfl h (fun hb53 h => ?_) (fun hb53 h => ?_)
            · refine wp_skip ?_
              refine wp_seq ?_
              refine wp_block ?_
              refine wp_seq ?_
              obtain ⟨w37, hw37, h⟩ := dr_open h
              refine wp_drawn 11 mixed rfl (by kernel_rfl) (by intro c a d v w h; cases d <;> exact h) hw37 (fun hD => ?_)
              refine rd_pure (i := 0) (d := (some 90)) hD (by kernel_rfl) (by kernel_rfl) rfl (.free rfl) rfl (fun _ => q_move (v := tSlc.enc (r29)) rfl rfl) ?_
              refine rd_pure (i := 1) (d := (some 91)) hD (by kernel_rfl) (by kernel_rfl) rfl (.free rfl) rfl (fun _ => q_move (v := .int .i64 (a_34)) rfl rfl) ?_
              obtain ⟨a38, ha38, h⟩ := h
              refine rd_pure (i := 2) (d := (some 92)) hD (by kernel_rfl) (by kernel_rfl) rfl (.free rfl) rfl (fun _ => q_indexAddr (s := r29) (i := a_34) rfl Try.underlying51 ok54 rfl rfl ha38) ?_
              refine rd_pure (i := 3) (d := (some 93)) hD (by kernel_rfl) (by kernel_rfl) rfl (.free rfl) rfl (fun _ => q_fieldAddr (a := a38) (off := 0) rfl Try.underlying54 rfl rfl ok3 (by decide) rfl) ?_
              refine rd_pure (i := 5) (d := (some 95)) hD (by kernel_rfl) (by kernel_rfl) rfl (.free rfl) rfl (fun _ => q_move (v := tSlc.enc (l_1)) rfl rfl) ?_
              refine rd_pure (i := 6) (d := (some 96)) hD (by kernel_rfl) (by kernel_rfl) rfl (.free rfl) rfl (fun _ => q_move (v := .int .i64 (i_13)) rfl rfl) ?_
              obtain ⟨a39, ha39, h⟩ := h
              refine rd_pure (i := 7) (d := (some 97)) hD (by kernel_rfl) (by kernel_rfl) rfl (.free rfl) rfl (fun _ => q_indexAddr (s := l_1) (i := i_13) rfl Try.underlying22 ok31 rfl rfl ha39) ?_
              refine rd_pure (i := 8) (d := (some 98)) hD (by kernel_rfl) (by kernel_rfl) rfl (.free rfl) rfl (fun _ => q_fieldAddr (a := a39) (off := 1) rfl Try.underlying31 rfl rfl ok3 (by decide) rfl) ?_
              obtain ⟨x40, hx40, h⟩ := h
              refine rd_read (i := 4) (d := (some 94)) (fun W => (RdAt (tInt .i64) (a38.add 0) W) x40) hD (by kernel_rfl) (by kernel_rfl) rfl (.free rfl) rfl (fun W hr => q_load (T := (tInt .i64)) (u := x40) (a := (a38.add 0)) rfl ok3 rfl hr) hx40 ?_
              obtain ⟨x41, hx41, h⟩ := h
              refine rd_read (i := 9) (d := (some 99)) (fun W => (RdAt (tInt .i64) (a39.add 1) W) x41) hD (by kernel_rfl) (by kernel_rfl) rfl (.free rfl) rfl (fun W hr => q_load (T := (tInt .i64)) (u := x41) (a := (a39.add 1)) rfl ok3 rfl hr) hx41 ?_
              refine rd_pure (i := 10) (d := (some 100)) hD (by kernel_rfl) (by kernel_rfl) rfl (.free rfl) rfl (fun _ => q_eql (a := x40) (b := x41) rfl rfl rfl) ?_
              refine rd_nil (by kernel_rfl) ?_
              refine wp_if (b := (x40 == x41)) rfl h (fun hb42 h => ?_) (fun hb42 h => ?_)
              · refine wp_seq ?_
                refine wp_text [0] rfl ?_
                refine ro_val (d := (some 2)) rfl (.free rfl) rfl (q_assign (v := .bool (false)) rfl rfl) ?_
                refine ro_nil ?_
                refine wp_ret ?_
                exact ret_ok rfl (.cons (.tmp (v := .bool (false)) rfl) .nil) ⟨false, rfl, h⟩
              · refine wp_skip ?_
                refine wp_text [0, 1, 2] rfl ?_
                refine ro_val (d := (some 88)) rfl (.free rfl) rfl (q_move (v := .int .i64 (a_34)) rfl rfl) ?_
                refine ro_val (d := (some 89)) rfl (.free rfl) rfl (q_add (a := a_34) (b := (1 : Int)) rfl rfl rfl) ?_
                refine ro_val (d := (some 9)) rfl (.free rfl) rfl (q_assign (v := .int .i64 ((IntKind.i64.wrap (a_34 + (1 : Int))))) rfl rfl) ?_
                refine ro_nil ?_
                exact ⟨((IntKind.i64.wrap (a_34 + (1 : Int)))), _, arr (upd_step (upd_step (upd_step (upd_step (upd_step (upd_step (upd_step rfl rfl) rfl) rfl) rfl) rfl) rfl) rfl), h⟩
            · refine wp_exit ?_
              refine wp_seq ?_
              refine wp_text [0] rfl ?_
              refine ro_val (d := (some 10)) rfl (.free rfl) rfl (q_assign (v := .int .i64 ((0 : Int))) rfl rfl) ?_
              refine ro_nil ?_
              refine wp_block ?_
              refine loop_at (σ := Int) (fr := fun g (s : Int) => upd (upd (upd (upd (upd (upd (g) 0 (tSlc.enc (l_1))) 3 (.pointer (r3))) 5 (.int .i64 (i_13))) 6 (.int .i64 (k_20))) 8 (tSlc.enc (r32))) 10 (.int .i64 (s))) (s0 := ((0 : Int))) (upd_step (upd_step (upd_step (upd_step (upd_step (upd_step rfl rfl) rfl) rfl) rfl) rfl) rfl) h ?_
              rintro a_43 g w44 K45 h
              unfold F7_l5 at h
              refine wp_seq ?_
              refine wp_seq ?_
              refine wp_text [0, 1, 2, 3] rfl ?_
              refine ro_val (d := (some 101)) rfl (.free rfl) rfl (q_move (v := .int .i64 (a_43)) rfl rfl) ?_
              refine ro_val (d := (some 102)) rfl (.free rfl) rfl (q_move (v := tSlc.enc (r32)) rfl rfl) ?_
              refine ro_val (d := (some 103)) rfl (.free rfl) rfl (q_len (s := r32) rfl Try.underlying51 rfl) ?_
              refine ro_val (d := (some 104)) rfl (.free rfl) rfl (q_lss (a := a_43) (b := (r32.len : Int)) rfl rfl rfl) ?_
              refine ro_nil ?_
              refine wp_if (b := (decide (a_43 < (r32.len : Int)))) rfl h (fun hb52 h => ?_) (fun hb52 h => ?_)
              · refine wp_skip ?_
                refine wp_seq ?_
                refine wp_block ?_
                refine wp_seq ?_
                obtain ⟨w46, hw46, h⟩ := dr_open h
                refine wp_drawn 11 mixed rfl (by kernel_rfl) (by intro c a d v w h; cases d <;> exact h) hw46 (fun hD => ?_)
                refine rd_pure (i := 0) (d := (some 107)) hD (by kernel_rfl) (by kernel_rfl) rfl (.free rfl) rfl (fun _ => q_move (v := tSlc.enc (r32)) rfl rfl) ?_
                refine rd_pure (i := 1) (d := (some 108)) hD (by kernel_rfl) (by kernel_rfl) rfl (.free rfl) rfl (fun _ => q_move (v := .int .i64 (a_43)) rfl rfl) ?_
                obtain ⟨a47, ha47, h⟩ := h
                refine rd_pure (i := 2) (d := (some 109)) hD (by kernel_rfl) (by kernel_rfl) rfl (.free rfl) rfl (fun _ => q_indexAddr (s := r32) (i := a_43) rfl Try.underlying51 ok54 rfl rfl ha47) ?_
                refine rd_pure (i := 3) (d := (some 110)) hD (by kernel_rfl) (by kernel_rfl) rfl (.free rfl) rfl (fun _ => q_fieldAddr (a := a47) (off := 0) rfl Try.underlying54 rfl rfl ok3 (by decide) rfl) ?_
                refine rd_pure (i := 5) (d := (some 112)) hD (by kernel_rfl) (by kernel_rfl) rfl (.free rfl) rfl (fun _ => q_move (v := tSlc.enc (l_1)) rfl rfl) ?_
                refine rd_pure (i := 6) (d := (some 113)) hD (by kernel_rfl) (by kernel_rfl) rfl (.free rfl) rfl (fun _ => q_move (v := .int .i64 (i_13)) rfl rfl) ?_
                obtain ⟨a48, ha48, h⟩ := h
                refine rd_pure (i := 7) (d := (some 114)) hD (by kernel_rfl) (by kernel_rfl) rfl (.free rfl) rfl (fun _ => q_indexAddr (s := l_1) (i := i_13) rfl Try.underlying22 ok31 rfl rfl ha48) ?_
                refine rd_pure (i := 8) (d := (some 115)) hD (by kernel_rfl) (by kernel_rfl) rfl (.free rfl) rfl (fun _ => q_fieldAddr (a := a48) (off := 1) rfl Try.underlying31 rfl rfl ok3 (by decide) rfl) ?_
                obtain ⟨x49, hx49, h⟩ := h
                refine rd_read (i := 4) (d := (some 111)) (fun W => (RdAt (tInt .i64) (a47.add 0) W) x49) hD (by kernel_rfl) (by kernel_rfl) rfl (.free rfl) rfl (fun W hr => q_load (T := (tInt .i64)) (u := x49) (a := (a47.add 0)) rfl ok3 rfl hr) hx49 ?_
                obtain ⟨x50, hx50, h⟩ := h
                refine rd_read (i := 9) (d := (some 116)) (fun W => (RdAt (tInt .i64) (a48.add 1) W) x50) hD (by kernel_rfl) (by kernel_rfl) rfl (.free rfl) rfl (fun W hr => q_load (T := (tInt .i64)) (u := x50) (a := (a48.add 1)) rfl ok3 rfl hr) hx50 ?_
                refine rd_pure (i := 10) (d := (some 117)) hD (by kernel_rfl) (by kernel_rfl) rfl (.free rfl) rfl (fun _ => q_eql (a := x49) (b := x50) rfl rfl rfl) ?_
                refine rd_nil (by kernel_rfl) ?_
                refine wp_if (b := (x49 == x50)) rfl h (fun hb51 h => ?_) (fun hb51 h => ?_)
                · refine wp_seq ?_
                  refine wp_text [0] rfl ?_
                  refine ro_val (d := (some 2)) rfl (.free rfl) rfl (q_assign (v := .bool (false)) rfl rfl) ?_
                  refine ro_nil ?_
                  refine wp_ret ?_
                  exact ret_ok rfl (.cons (.tmp (v := .bool (false)) rfl) .nil) ⟨false, rfl, h⟩
                · refine wp_skip ?_
                  refine wp_text [0, 1, 2] rfl ?_
                  refine ro_val (d := (some 105)) rfl (.free rfl) rfl (q_move (v := .int .i64 (a_43)) rfl rfl) ?_
                  refine ro_val (d := (some 106)) rfl (.free rfl) rfl (q_add (a := a_43) (b := (1 : Int)) rfl rfl rfl) ?_
                  refine ro_val (d := (some 10)) rfl (.free rfl) rfl (q_assign (v := .int .i64 ((IntKind.i64.wrap (a_43 + (1 : Int))))) rfl rfl) ?_
                  refine ro_nil ?_
                  exact ⟨((IntKind.i64.wrap (a_43 + (1 : Int)))), _, arr (upd_step (upd_step (upd_step (upd_step (upd_step (upd_step rfl rfl) rfl) rfl) rfl) rfl) rfl), h⟩
              · refine wp_exit ?_
                refine wp_text [0, 1, 2] rfl ?_
                refine ro_val (d := (some 60)) rfl (.free rfl) rfl (q_move (v := .int .i64 (k_20)) rfl rfl) ?_
                refine ro_val (d := (some 61)) rfl (.free rfl) rfl (q_add (a := k_20) (b := (1 : Int)) rfl rfl rfl) ?_
                refine ro_val (d := (some 6)) rfl (.free rfl) rfl (q_assign (v := .int .i64 ((IntKind.i64.wrap (k_20 + (1 : Int))))) rfl rfl) ?_
                refine ro_nil ?_
                exact ⟨((IntKind.i64.wrap (k_20 + (1 : Int)))), _, arr (upd_step (upd_step (upd_step (upd_step rfl rfl) rfl) rfl) rfl), h⟩
        · refine wp_exit ?_
          refine wp_text [0, 1, 2] rfl ?_
          refine ro_val (d := (some 43)) rfl (.free rfl) rfl (q_move (v := .int .i64 (i_13)) rfl rfl) ?_
          refine ro_val (d := (some 44)) rfl (.free rfl) rfl (q_add (a := i_13) (b := (1 : Int)) rfl rfl rfl) ?_
          refine ro_val (d := (some 5)) rfl (.free rfl) rfl (q_assign (v := .int .i64 ((IntKind.i64.wrap (i_13 + (1 : Int))))) rfl rfl) ?_
          refine ro_nil ?_
          exact ⟨((IntKind.i64.wrap (i_13 + (1 : Int)))), _, arr (upd_step (upd_step (upd_step rfl rfl) rfl) rfl), h⟩
      · refine wp_exit ?_
        refine wp_seq ?_
        refine wp_seq ?_
        refine wp_text [0] rfl ?_
        refine ro_val (d := (some 11)) rfl (.free rfl) rfl (q_assign (v := .int .i64 ((0 : Int))) rfl rfl) ?_
        refine ro_nil ?_
        refine wp_block ?_
        refine loop_at (σ := Int) (fr := fun g (s : Int) => upd (upd (upd (g) 0 (tSlc.enc (l_1))) 3 (.pointer (r3))) 11 (.int .i64 (s))) (s0 := ((0 : Int))) (upd_step (upd_step (upd_step rfl rfl) rfl) rfl) h ?_
        rintro k_56 g w57 K58 h
        unfold F7_l6 at h
        refine wp_seq ?_
        refine wp_seq ?_
        refine wp_text [0, 1, 2, 3, 4, 5, 6, 7] rfl ?_
        refine ro_val (d := (some 118)) rfl (.free rfl) rfl (q_move (v := .int .i64 (k_56)) rfl rfl) ?_
        refine ro_val (d := (some 119)) rfl (.free rfl) rfl (q_move (v := tSlc.enc (l_1)) rfl rfl) ?_
        refine ro_val (d := (some 120)) rfl (.free rfl) rfl (q_len (s := l_1) rfl Try.underlying22 rfl) ?_
        refine ro_val (d := (some 121)) rfl (.free rfl) rfl (q_lss (a := k_56) (b := (l_1.len : Int)) rfl rfl rfl) ?_
        refine ro_val (d := (some 122)) rfl (.free rfl) rfl (q_move (v := .bool ((decide (k_56 < (l_1.len : Int))))) rfl rfl) ?_
        refine ro_gval (g := (decide (k_56 < (l_1.len : Int)))) (d := (some 123)) rfl (.yes 4 122 true (decide (k_56 < (l_1.len : Int))) rfl rfl rfl rfl) rfl (fun hg => q_move (v := .int .i64 (k_56)) rfl rfl) ?_
        refine ro_gval (g := (decide (k_56 < (l_1.len : Int)))) (d := (some 124)) rfl (.yes 4 122 true (decide (k_56 < (l_1.len : Int))) rfl rfl rfl rfl) rfl (fun hg => q_lss (a := k_56) (b := (40 : Int)) rfl (gvb_yes hg) rfl) ?_
        refine ro_val (d := (some 125)) rfl (.free rfl) rfl (q_pickGT (a := (decide (k_56 < (l_1.len : Int)))) (b := (decide (k_56 < (40 : Int)))) rfl rfl rfl rfl) ?_
        refine ro_nil ?_
        refine wp_if (b := ((decide (k_56 < (l_1.len : Int))) && (decide (k_56 < (40 : Int))))) rfl h (fun hb80 h => ?_) (fun hb80 h => ?_)
        · refine wp_skip ?_
          refine wp_seq ?_
          refine wp_block ?_
          refine seq_join (σ := Bool) (J := fun (s : Bool) w => F7_j7 k_56 s w K58 R) (fr := fun g (s : Bool) => upd (upd (upd (upd (g) 0 (tSlc.enc (l_1))) 3 (.pointer (r3))) 11 (.int .i64 (k_56))) 154 (.bool (s))) ?_ ?_
          · rintro t_59 g w60 h
            unfold F7_j7 at h
            refine wp_if (b := t_59) rfl h (fun hb61 h => ?_) (fun hb61 h => ?_)
            · refine wp_seq ?_
              refine wp_text [0] rfl ?_
              refine ro_val (d := (some 2)) rfl (.free rfl) rfl (q_assign (v := .bool (false)) rfl rfl) ?_
              refine ro_nil ?_
              refine wp_ret ?_
              exact ret_ok rfl (.cons (.tmp (v := .bool (false)) rfl) .nil) ⟨false, rfl, h⟩
            · refine wp_skip ?_
              refine wp_text [0, 1, 2] rfl ?_
              refine ro_val (d := (some 126)) rfl (.free rfl) rfl (q_move (v := .int .i64 (k_56)) rfl rfl) ?_
              refine ro_val (d := (some 127)) rfl (.free rfl) rfl (q_add (a := k_56) (b := (1 : Int)) rfl rfl rfl) ?_
              refine ro_val (d := (some 11)) rfl (.free rfl) rfl (q_assign (v := .int .i64 ((IntKind.i64.wrap (k_56 + (1 : Int))))) rfl rfl) ?_
              refine ro_nil ?_
              exact ⟨((IntKind.i64.wrap (k_56 + (1 : Int)))), _, arr (upd_step (upd_step (upd_step rfl rfl) rfl) rfl), h⟩
          · obtain ⟨w62, hw62, h⟩ := dr_open h
            refine wp_drawn 27 mixed rfl (by kernel_rfl) (by intro c a d v w h; cases d <;> exact h) hw62 (fun hD => ?_)
            refine rd_pure (i := 0) (d := (some 128)) hD (by kernel_rfl) (by kernel_rfl) rfl (.free rfl) rfl (fun _ => q_move (v := .pointer (r3)) rfl rfl) ?_
            refine rd_pure (i := 1) (d := (some 129)) hD (by kernel_rfl) (by kernel_rfl) rfl (.free rfl) rfl (fun _ => q_move (v := tSlc.enc (l_1)) rfl rfl) ?_
            refine rd_pure (i := 2) (d := (some 130)) hD (by kernel_rfl) (by kernel_rfl) rfl (.free rfl) rfl (fun _ => q_move (v := .int .i64 (k_56)) rfl rfl) ?_
            obtain ⟨a63, ha63, h⟩ := h
            refine rd_pure (i := 3) (d := (some 131)) hD (by kernel_rfl) (by kernel_rfl) rfl (.free rfl) rfl (fun _ => q_indexAddr (s := l_1) (i := k_56) rfl Try.underlying22 ok31 rfl rfl ha63) ?_
            refine rd_pure (i := 4) (d := (some 132)) hD (by kernel_rfl) (by kernel_rfl) rfl (.free rfl) rfl (fun _ => q_fieldAddr (a := a63) (off := 2) rfl Try.underlying31 rfl rfl ok3 (by decide) rfl) ?_
            refine rd_pure (i := 8) (d := (some 136)) hD (by kernel_rfl) (by kernel_rfl) rfl (.free rfl) rfl (fun _ => q_move (v := .pointer (r3)) rfl rfl) ?_
            refine rd_pure (i := 9) (d := (some 137)) hD (by kernel_rfl) (by kernel_rfl) rfl (.free rfl) rfl (fun _ => q_move (v := tSlc.enc (l_1)) rfl rfl) ?_
            refine rd_pure (i := 10) (d := (some 138)) hD (by kernel_rfl) (by kernel_rfl) rfl (.free rfl) rfl (fun _ => q_move (v := .int .i64 (k_56)) rfl rfl) ?_
            obtain ⟨a64, ha64, h⟩ := h
            refine rd_pure (i := 11) (d := (some 139)) hD (by kernel_rfl) (by kernel_rfl) rfl (.free rfl) rfl (fun _ => q_indexAddr (s := l_1) (i := k_56) rfl Try.underlying22 ok31 rfl rfl ha64) ?_
            refine rd_pure (i := 12) (d := (some 140)) hD (by kernel_rfl) (by kernel_rfl) rfl (.free rfl) rfl (fun _ => q_fieldAddr (a := a64) (off := 2) rfl Try.underlying31 rfl rfl ok3 (by decide) rfl) ?_
            obtain ⟨x65, hx65, h⟩ := h
            refine rd_read (i := 5) (d := (some 133)) (fun W => (RdAt (tInt .i64) (a63.add 2) W) x65) hD (by kernel_rfl) (by kernel_rfl) rfl (.free rfl) rfl (fun W hr => q_load (T := (tInt .i64)) (u := x65) (a := (a63.add 2)) rfl ok3 rfl hr) hx65 ?_
            obtain ⟨x66, hx66, h⟩ := h
            refine rd_read (i := 13) (d := (some 141)) (fun W => (RdAt (tInt .i64) (a64.add 2) W) x66) hD (by kernel_rfl) (by kernel_rfl) rfl (.free rfl) rfl (fun W hr => q_load (T := (tInt .i64)) (u := x66) (a := (a64.add 2)) rfl ok3 rfl hr) hx66 ?_
            refine rd_one (i := 6) (by kernel_rfl) ?_
            refine po_wp rfl (.free rfl) (wp_cl (d := (some 134)) rfl (q_call (k := 21) (l := [.pointer (r3), .int .i64 (x65)]) rfl ent21 rfl) h ?_)
            intro r68 w67 h
            obtain ⟨hk69, h⟩ := h
            refine ⟨(hk_keep (fun _ => hk69) (hk_wait (by kernel_rfl) hk_nil)), ?_⟩
            refine rd_pure (i := 7) (d := (some 135)) hD (by kernel_rfl) (by kernel_rfl) rfl (.free rfl) rfl (fun _ => q_len (s := r68) rfl Try.underlying51 rfl) ?_
            refine rd_one (i := 14) (by kernel_rfl) ?_
            refine po_wp rfl (.free rfl) (wp_cl (d := (some 142)) rfl (q_call (k := 22) (l := [.pointer (r3), .int .i64 (x66)]) rfl ent22 rfl) h ?_)
            intro r71 w70 h
            obtain ⟨hk72, h⟩ := h
            refine ⟨(hk_wait (by kernel_rfl) (hk_keep (fun _ => hk72) hk_nil)), ?_⟩
            refine rd_pure (i := 15) (d := (some 143)) hD (by kernel_rfl) (by kernel_rfl) rfl (.free rfl) rfl (fun _ => q_len (s := r71) rfl Try.underlying51 rfl) ?_
            refine rd_pure (i := 16) (d := (some 144)) hD (by kernel_rfl) (by kernel_rfl) rfl (.free rfl) rfl (fun _ => q_add (a := (r68.len : Int)) (b := (r71.len : Int)) rfl rfl rfl) ?_
            refine rd_pure (i := 17) (d := (some 145)) hD (by kernel_rfl) (by kernel_rfl) rfl (.free rfl) rfl (fun _ => q_gtr (a := (IntKind.i64.wrap ((r68.len : Int) + (r71.len : Int)))) (b := (0 : Int)) rfl rfl rfl) ?_
            refine rd_pure (i := 18) (d := (some 146)) hD (by kernel_rfl) (by kernel_rfl) rfl (.free rfl) rfl (fun _ => q_move (v := .bool ((decide ((IntKind.i64.wrap ((r68.len : Int) + (r71.len : Int))) > (0 : Int))))) rfl rfl) ?_
            refine ro_if (b := (decide ((IntKind.i64.wrap ((r68.len : Int) + (r71.len : Int))) > (0 : Int)))) h (fun hb73 h => ?_) (fun hb73 h => ?_)
            · refine rd_bar (i := 19) (d := (some 147)) hD (by kernel_rfl) (by kernel_rfl) rfl (.by_ 18 false 146 (decide ((IntKind.i64.wrap ((r68.len : Int) + (r71.len : Int))) > (0 : Int))) rfl rfl rfl hb73) rfl ?_
              refine rd_bar (i := 20) (d := (some 148)) hD (by kernel_rfl) (by kernel_rfl) rfl (.by_ 18 false 146 (decide ((IntKind.i64.wrap ((r68.len : Int) + (r71.len : Int))) > (0 : Int))) rfl rfl rfl hb73) rfl ?_
              refine rd_bar (i := 21) (d := (some 149)) hD (by kernel_rfl) (by kernel_rfl) rfl (.by_ 18 false 146 (decide ((IntKind.i64.wrap ((r68.len : Int) + (r71.len : Int))) > (0 : Int))) rfl rfl rfl hb73) rfl ?_
              refine rd_bar (i := 22) (d := (some 150)) hD (by kernel_rfl) (by kernel_rfl) rfl (.by_ 18 false 146 (decide ((IntKind.i64.wrap ((r68.len : Int) + (r71.len : Int))) > (0 : Int))) rfl rfl rfl hb73) rfl ?_
              refine rd_bar (i := 23) (d := (some 151)) hD (by kernel_rfl) (by kernel_rfl) rfl (.by_ 18 false 146 (decide ((IntKind.i64.wrap ((r68.len : Int) + (r71.len : Int))) > (0 : Int))) rfl rfl rfl hb73) rfl ?_
              refine rd_bar (i := 24) (d := (some 152)) hD (by kernel_rfl) (by kernel_rfl) rfl (.by_ 18 false 146 (decide ((IntKind.i64.wrap ((r68.len : Int) + (r71.len : Int))) > (0 : Int))) rfl rfl rfl hb73) rfl ?_
              refine rd_one (i := 25) (by kernel_rfl) ?_
              refine po_bar (d := (some 153)) rfl (.by_ 18 false 146 (decide ((IntKind.i64.wrap ((r68.len : Int) + (r71.len : Int))) > (0 : Int))) rfl rfl rfl hb73) rfl ⟨fun _ _ _ h => h, ?_⟩
              refine rd_pure (i := 26) (d := (some 154)) hD (by kernel_rfl) (by kernel_rfl) rfl (.free rfl) rfl (fun _ => q_pickT (v := .bool (true)) (b := (decide ((IntKind.i64.wrap ((r68.len : Int) + (r71.len : Int))) > (0 : Int)))) rfl rfl hb73 rfl) ?_
              refine rd_nil (by kernel_rfl) ?_
              exact ⟨(true), _, arr (upd_step (upd_step (upd_step (upd_step rfl rfl) rfl) rfl) rfl), h⟩
            · refine rd_pure (i := 19) (d := (some 147)) hD (by kernel_rfl) (by kernel_rfl) rfl (.by_ 18 false 146 (decide ((IntKind.i64.wrap ((r68.len : Int) + (r71.len : Int))) > (0 : Int))) rfl rfl rfl hb73) rfl (fun _ => q_move (v := .pointer (r3)) rfl rfl) ?_
              refine rd_pure (i := 20) (d := (some 148)) hD (by kernel_rfl) (by kernel_rfl) rfl (.by_ 18 false 146 (decide ((IntKind.i64.wrap ((r68.len : Int) + (r71.len : Int))) > (0 : Int))) rfl rfl rfl hb73) rfl (fun _ => q_move (v := tSlc.enc (l_1)) rfl rfl) ?_
              refine rd_pure (i := 21) (d := (some 149)) hD (by kernel_rfl) (by kernel_rfl) rfl (.by_ 18 false 146 (decide ((IntKind.i64.wrap ((r68.len : Int) + (r71.len : Int))) > (0 : Int))) rfl rfl rfl hb73) rfl (fun _ => q_move (v := .int .i64 (k_56)) rfl rfl) ?_
              obtain ⟨a74, ha74, h⟩ := h
              refine rd_pure (i := 22) (d := (some 150)) hD (by kernel_rfl) (by kernel_rfl) rfl (.by_ 18 false 146 (decide ((IntKind.i64.wrap ((r68.len : Int) + (r71.len : Int))) > (0 : Int))) rfl rfl rfl hb73) rfl (fun _ => q_indexAddr (s := l_1) (i := k_56) rfl Try.underlying22 ok31 rfl rfl ha74) ?_
              refine rd_pure (i := 23) (d := (some 151)) hD (by kernel_rfl) (by kernel_rfl) rfl (.by_ 18 false 146 (decide ((IntKind.i64.wrap ((r68.len : Int) + (r71.len : Int))) > (0 : Int))) rfl rfl rfl hb73) rfl (fun _ => q_fieldAddr (a := a74) (off := 1) rfl Try.underlying31 rfl rfl ok3 (by decide) rfl) ?_
              obtain ⟨x75, hx75, h⟩ := h
              refine rd_read (i := 24) (d := (some 152)) (fun W => (RdAt (tInt .i64) (a74.add 1) W) x75) hD (by kernel_rfl) (by kernel_rfl) rfl (.by_ 18 false 146 (decide ((IntKind.i64.wrap ((r68.len : Int) + (r71.len : Int))) > (0 : Int))) rfl rfl rfl hb73) rfl (fun W hr => q_load (T := (tInt .i64)) (u := x75) (a := (a74.add 1)) rfl ok3 rfl hr) hx75 ?_
              refine rd_one (i := 25) (by kernel_rfl) ?_
              refine po_wp rfl (.by_ 18 false 146 (decide ((IntKind.i64.wrap ((r68.len : Int) + (r71.len : Int))) > (0 : Int))) rfl rfl rfl hb73) (wp_cl (d := (some 153)) rfl (q_call (k := 18) (l := [.pointer (r3), .int .i64 (x75)]) rfl ent18 rfl) h ?_)
              intro r77 w76 h
              obtain ⟨hk78, h⟩ := h
              obtain ⟨hk79, h⟩ := h
              refine ⟨(hk_wait (by kernel_rfl) (hk_keep (fun _ => hk79) (hk_keep (fun _ => hk78) hk_nil))), ?_⟩
              refine rd_pure (i := 26) (d := (some 154)) hD (by kernel_rfl) (by kernel_rfl) rfl (.free rfl) rfl (fun _ => q_pickF (v := .bool (r77)) (b := (decide ((IntKind.i64.wrap ((r68.len : Int) + (r71.len : Int))) > (0 : Int)))) rfl rfl hb73 rfl) ?_
              refine rd_nil (by kernel_rfl) ?_
              exact ⟨(r77), _, arr (upd_step (upd_step (upd_step (upd_step rfl rfl) rfl) rfl) rfl), h⟩
        · refine wp_exit ?_
          refine wp_seq ?_
          refine wp_text [0] rfl ?_
          refine ro_val (d := (some 2)) rfl (.free rfl) rfl (q_assign (v := .bool (true)) rfl rfl) ?_
          refine ro_nil ?_
          refine wp_ret ?_
          exact ret_ok rfl (.cons (.tmp (v := .bool (true)) rfl) .nil) ⟨true, rfl, h⟩

end Go.Proofs.Ytojcgejjdfcaaaa.Cf
