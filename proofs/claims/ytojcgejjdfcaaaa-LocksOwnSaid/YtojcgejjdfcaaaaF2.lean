/- Characteristic formulae of Go functions, and that they are. Printed by gen.py (own tool). -/
import Derived.Test.YtojcgejjdfcaaaaTy
namespace Go.Proofs.Ytojcgejjdfcaaaa.Cf
open Go
set_option maxRecDepth 100000
set_option maxHeartbeats 1000000
set_option linter.unusedVariables false
set_option linter.unusedSimpArgs false

-- moiety/moietylaw13.LocksElder
def F5_j6 (a_27 : Int) (t_61 : Bool) (w62 : World) (K29 : Int → World → Prop) (R : Bool → World → Prop) : Prop :=
  if t_61 = true then (
    R false w62
  ) else (
    K29 ((IntKind.i64.wrap (a_27 + (1 : Int)))) w62
  )
def F5_l5 (r3 : (Option Addr)) (r25 : Slc) (a_27 : Int) (elder_53 : Bool) (b_54 : Int) (w55 : World) (K29 : Int → World → Prop) (K56 : Bool × Int → World → Prop) (R : Bool → World → Prop) : Prop :=
  if (decide (b_54 < a_27)) = true then (
    ex (fun x => (!elder_53) = true → (IxA r25 2 b_54) x) fun a57 =>
    ex (fun x => (!elder_53) = true → (RdAt tBool (a57.add 1) w55) x) fun x58 =>
    ex (fun x => (!(elder_53 || x58)) = true → (IxA r25 2 a_27) x) fun a59 =>
    ex (fun x => (!(elder_53 || x58)) = true → (RdAt tBool (a59.add 1) w55) x) fun x60 =>
    K56 (((elder_53 || x58) || x60), (IntKind.i64.wrap (b_54 + (1 : Int)))) w55
  ) else (
    if (!elder_53) = true then (
      F5_j6 a_27 true w55 K29 R
    ) else (
      ex (IxA r25 2 a_27) fun a65 =>
      ex (RdAt (tInt .i64) (a65.add 0) w55) fun x66 =>
      cl Try.prog 18 [.pointer (r3), .int .i64 (x66)] tBool w55 fun r68 w67 =>
      F5_j6 a_27 r68 w67 K29 R
    )
  )
def F5_l4 (r3 : (Option Addr)) (r22 : Slc) (r25 : Slc) (a_27 : Int) (elder_30 : Bool) (b_31 : Int) (w32 : World) (K29 : Int → World → Prop) (K33 : Bool × Int → World → Prop) (R : Bool → World → Prop) : Prop :=
  if (decide (b_31 < (r22.len : Int))) = true then (
    dr w32 fun w34 =>
    ex (fun x => (!elder_30) = true → (IxA r22 2 b_31) x) fun a35 =>
    ex (fun x => (!elder_30) = true → (IxA r25 2 a_27) x) fun a36 =>
    ex (fun x => (!elder_30) = true → (RdAt (tInt .i64) (a35.add 0) w34) x) fun x37 =>
    ex (fun x => (!elder_30) = true → (RdAt (tInt .i64) (a36.add 0) w34) x) fun x38 =>
    ex (fun x => ((!elder_30) && (decide (x37 < x38))) = true → (IxA r22 2 b_31) x) fun a39 =>
    ex (fun x => ((!elder_30) && (decide (x37 < x38))) = true → (RdAt tBool (a39.add 1) w34) x) fun x40 =>
    ex (fun x => (((!elder_30) && (decide (x37 < x38))) && (!x40)) = true → (IxA r25 2 a_27) x) fun a41 =>
    ex (fun x => (((!elder_30) && (decide (x37 < x38))) && (!x40)) = true → (RdAt tBool (a41.add 1) w34) x) fun x42 =>
    dr w34 fun w43 =>
    ex (IxA r22 2 b_31) fun a44 =>
    ex (IxA r25 2 a_27) fun a45 =>
    ex (RdAt (tInt .i64) (a44.add 0) w43) fun x46 =>
    ex (RdAt (tInt .i64) (a45.add 0) w43) fun x47 =>
    ex (fun x => (decide (x46 > x47)) = true → (IxA r22 2 b_31) x) fun a48 =>
    ex (fun x => (decide (x46 > x47)) = true → (RdAt tBool (a48.add 1) w43) x) fun x49 =>
    ex (fun x => ((decide (x46 > x47)) && (!x49)) = true → (IxA r25 2 a_27) x) fun a50 =>
    ex (fun x => ((decide (x46 > x47)) && (!x49)) = true → (RdAt tBool (a50.add 1) w43) x) fun x51 =>
    if ((decide (x46 > x47)) && (x49 || x51)) = true then (
      R false w43
    ) else (
      K33 ((elder_30 || ((decide (x37 < x38)) && (x40 || x42))), (IntKind.i64.wrap (b_31 + (1 : Int)))) w43
    )
  ) else (
    lp (fun (s : Bool × Int) w K => F5_l5 r3 r25 a_27 s.1 s.2 w K29 K R) (elder_30, (0 : Int)) w32
  )
def F5_l3 (r3 : (Option Addr)) (k_13 : Int) (r22 : Slc) (r25 : Slc) (a_27 : Int) (w28 : World) (K15 : Int → World → Prop) (K29 : Int → World → Prop) (R : Bool → World → Prop) : Prop :=
  if (decide (a_27 < (r25.len : Int))) = true then (
    lp (fun (s : Bool × Int) w K => F5_l4 r3 r22 r25 a_27 s.1 s.2 w K29 K R) (false, (0 : Int)) w28
  ) else (
    K15 ((IntKind.i64.wrap (k_13 + (1 : Int)))) w28
  )
def F5_l2 (l_1 : Slc) (r3 : (Option Addr)) (i_6 : Int) (k_13 : Int) (w14 : World) (K8 : Int → World → Prop) (K15 : Int → World → Prop) (R : Bool → World → Prop) : Prop :=
  if (decide (k_13 ≤ i_6)) = true then (
    dr w14 fun w16 =>
    ex (IxA l_1 4 k_13) fun a17 =>
    ex (IxA l_1 4 k_13) fun a18 =>
    ex (RdAt (tInt .i64) (a17.add 2) w16) fun x19 =>
    ex (RdAt (tInt .i64) (a18.add 2) w16) fun x20 =>
    cl Try.prog 21 [.pointer (r3), .int .i64 (x19)] tSlc w16 fun r22 w21 =>
    kp ((RdAt (tInt .i64) (a18.add 2) w21) x20) <|
    cl Try.prog 22 [.pointer (r3), .int .i64 (x20)] tSlc w21 fun r25 w24 =>
    kp ((RdAt (tInt .i64) (a17.add 2) w24) x19) <|
    lp (fun (s : Int) w K => F5_l3 r3 k_13 r22 r25 s w K15 K R) ((0 : Int)) w24
  ) else (
    K8 ((IntKind.i64.wrap (i_6 + (1 : Int)))) w14
  )
def F5_l1 (l_1 : Slc) (r3 : (Option Addr)) (i_6 : Int) (w7 : World) (K8 : Int → World → Prop) (R : Bool → World → Prop) : Prop :=
  if ((decide (i_6 < (l_1.len : Int))) && (decide (i_6 < (40 : Int)))) = true then (
    ex (IxA l_1 4 i_6) fun a9 =>
    ex (RdAt T30 a9 w7) fun x10 =>
    cl Try.prog 20 [.pointer (r3), T30.enc (x10)] (tTup2 T33 (tInt .i64)) w7 fun r12 w11 =>
    lp (fun (s : Int) w K => F5_l2 l_1 r3 i_6 s w K8 K R) ((0 : Int)) w11
  ) else (
    R true w7
  )
def F5 (l_1 : Slc) (w : World) (R : Bool → World → Prop) : Prop :=
  cl Try.prog 9 [] tPtr w fun r3 w2 =>
  cl Try.prog 10 [] tBool w2 fun r5 w4 =>
  if ((!r5) || r3.isNone) = true then (
    R false w4
  ) else (
    lp (fun (s : Int) w K => F5_l1 l_1 r3 s w K R) ((0 : Int)) w4
  )
theorem F5_ok {l_1 : Slc} {w : World} {R : Bool → World → Prop} (h : F5 l_1 w R) : cl Try.prog 5 [tSlc.enc (l_1)] tBool w R := by
  unfold F5 at h
  refine calls_start 150 Try.func5 rfl rfl (Nat.le_of_ble_eq_true rfl) ?_
  refine wp_seq ?_
  refine wp_text [0] rfl ?_
  refine ro_val (d := (some 2)) rfl (.free rfl) rfl (q_assign (v := .bool (false)) rfl rfl) ?_
  refine ro_nil ?_
  refine wp_seq ?_
  refine wp_text [0, 1] rfl ?_
  refine ro_wp rfl (.free rfl) (wp_cl (d := (some 12)) rfl (q_call (k := 9) (l := []) rfl ent9 rfl) h ?_)
  intro r3 w2 h
  refine ro_val (d := (some 3)) rfl (.free rfl) rfl (q_assign (v := .pointer (r3)) rfl rfl) ?_
  refine ro_nil ?_
  refine wp_seq ?_
  refine wp_seq ?_
  refine wp_text [0, 1, 2, 3, 4, 5] rfl ?_
  refine ro_wp rfl (.free rfl) (wp_cl (d := (some 13)) rfl (q_call (k := 10) (l := []) rfl ent10 rfl) h ?_)
  intro r5 w4 h
  refine ro_val (d := (some 14)) rfl (.free rfl) rfl (q_not (b := r5) rfl rfl) ?_
  refine ro_val (d := (some 15)) rfl (.free rfl) rfl (q_move (v := .bool ((!r5))) rfl rfl) ?_
  refine ro_gval (g := (!(!r5))) (d := (some 16)) rfl (.no 2 15 true (!r5) rfl rfl rfl rfl) rfl (fun hg => q_move (v := .pointer (r3)) rfl rfl) ?_
  refine ro_gval (g := (!(!r5))) (d := (some 17)) rfl (.no 2 15 true (!r5) rfl rfl rfl rfl) rfl (fun hg => q_eqP0 (a := r3) rfl Try.underlying23 (gvb_yes hg) rfl) ?_
  refine ro_val (d := (some 18)) rfl (.free rfl) rfl (q_pickGF (a := (!r5)) (c := r3.isNone) rfl rfl rfl rfl) ?_
  refine ro_nil ?_
  refine wp_if (b := ((!r5) || r3.isNone)) rfl h (fun hb74 h => ?_) (fun hb74 h => ?_)
  · refine wp_seq ?_
    refine wp_text [0] rfl ?_
    refine ro_val (d := (some 2)) rfl (.free rfl) rfl (q_assign (v := .bool (false)) rfl rfl) ?_
    refine ro_nil ?_
    refine wp_ret ?_
    exact ret_ok rfl (.cons (.tmp (v := .bool (false)) rfl) .nil) ⟨false, rfl, h⟩
  · refine wp_skip ?_
    refine wp_seq ?_
    refine wp_seq ?_
    refine wp_text [0] rfl ?_
    refine ro_val (d := (some 4)) rfl (.free rfl) rfl (q_assign (v := .int .i64 ((0 : Int))) rfl rfl) ?_
    refine ro_nil ?_
    refine wp_block ?_
    refine loop_at (σ := Int) (fr := fun g (s : Int) => upd (upd (upd (g) 0 (tSlc.enc (l_1))) 3 (.pointer (r3))) 4 (.int .i64 (s))) (s0 := ((0 : Int))) (upd_step (upd_step (upd_step rfl rfl) rfl) rfl) h ?_
    rintro i_6 g w7 K8 h
    unfold F5_l1 at h
    refine wp_seq ?_
    refine wp_seq ?_
    refine wp_text [0, 1, 2, 3, 4, 5, 6, 7] rfl ?_
    refine ro_val (d := (some 19)) rfl (.free rfl) rfl (q_move (v := .int .i64 (i_6)) rfl rfl) ?_
    refine ro_val (d := (some 20)) rfl (.free rfl) rfl (q_move (v := tSlc.enc (l_1)) rfl rfl) ?_
    refine ro_val (d := (some 21)) rfl (.free rfl) rfl (q_len (s := l_1) rfl Try.underlying22 rfl) ?_
    refine ro_val (d := (some 22)) rfl (.free rfl) rfl (q_lss (a := i_6) (b := (l_1.len : Int)) rfl rfl rfl) ?_
    refine ro_val (d := (some 23)) rfl (.free rfl) rfl (q_move (v := .bool ((decide (i_6 < (l_1.len : Int))))) rfl rfl) ?_
    refine ro_gval (g := (decide (i_6 < (l_1.len : Int)))) (d := (some 24)) rfl (.yes 4 23 true (decide (i_6 < (l_1.len : Int))) rfl rfl rfl rfl) rfl (fun hg => q_move (v := .int .i64 (i_6)) rfl rfl) ?_
    refine ro_gval (g := (decide (i_6 < (l_1.len : Int)))) (d := (some 25)) rfl (.yes 4 23 true (decide (i_6 < (l_1.len : Int))) rfl rfl rfl rfl) rfl (fun hg => q_lss (a := i_6) (b := (40 : Int)) rfl (gvb_yes hg) rfl) ?_
    refine ro_val (d := (some 26)) rfl (.free rfl) rfl (q_pickGT (a := (decide (i_6 < (l_1.len : Int)))) (b := (decide (i_6 < (40 : Int)))) rfl rfl rfl rfl) ?_
    refine ro_nil ?_
    refine wp_if (b := ((decide (i_6 < (l_1.len : Int))) && (decide (i_6 < (40 : Int))))) rfl h (fun hb73 h => ?_) (fun hb73 h => ?_)
    · refine wp_skip ?_
      refine wp_seq ?_
      refine wp_block ?_
      refine wp_seq ?_
      refine wp_text [0, 1, 2, 3, 4, 5] rfl ?_
      refine ro_val (d := (some 29)) rfl (.free rfl) rfl (q_move (v := .pointer (r3)) rfl rfl) ?_
      refine ro_val (d := (some 30)) rfl (.free rfl) rfl (q_move (v := tSlc.enc (l_1)) rfl rfl) ?_
      refine ro_val (d := (some 31)) rfl (.free rfl) rfl (q_move (v := .int .i64 (i_6)) rfl rfl) ?_
      obtain ⟨a9, ha9, h⟩ := h
      refine ro_val (d := (some 32)) rfl (.free rfl) rfl (q_indexAddr (s := l_1) (i := i_6) rfl Try.underlying22 ok31 rfl rfl ha9) ?_
      obtain ⟨x10, hx10, h⟩ := h
      refine ro_val (d := (some 33)) rfl (.free rfl) rfl (q_load (T := T30) (u := x10) (a := a9) rfl ok31 rfl hx10) ?_
      refine ro_wp rfl (.free rfl) (wp_cl (d := (some 34)) rfl (q_call (k := 20) (l := [.pointer (r3), T30.enc (x10)]) rfl ent20 rfl) h ?_)
      intro r12 w11 h
      refine ro_nil ?_
      refine wp_seq ?_
      refine wp_text [0] rfl ?_
      refine ro_val (d := (some 5)) rfl (.free rfl) rfl (q_assign (v := .int .i64 ((0 : Int))) rfl rfl) ?_
      refine ro_nil ?_
      refine wp_block ?_
      refine loop_at (σ := Int) (fr := fun g (s : Int) => upd (upd (upd (upd (g) 0 (tSlc.enc (l_1))) 3 (.pointer (r3))) 4 (.int .i64 (i_6))) 5 (.int .i64 (s))) (s0 := ((0 : Int))) (upd_step (upd_step (upd_step (upd_step rfl rfl) rfl) rfl) rfl) h ?_
      rintro k_13 g w14 K15 h
      unfold F5_l2 at h
      refine wp_seq ?_
      refine wp_seq ?_
      refine wp_text [0, 1, 2] rfl ?_
      refine ro_val (d := (some 35)) rfl (.free rfl) rfl (q_move (v := .int .i64 (k_13)) rfl rfl) ?_
      refine ro_val (d := (some 36)) rfl (.free rfl) rfl (q_move (v := .int .i64 (i_6)) rfl rfl) ?_
      refine ro_val (d := (some 37)) rfl (.free rfl) rfl (q_leq (a := k_13) (b := i_6) rfl rfl rfl) ?_
      refine ro_nil ?_
      refine wp_if (b := (decide (k_13 ≤ i_6))) rfl h (fun hb72 h => ?_) (fun hb72 h => ?_)
      · refine wp_skip ?_
        refine wp_seq ?_
        refine wp_block ?_
        refine wp_seq ?_
        obtain ⟨w16, hw16, h⟩ := dr_open h
        refine wp_drawn 16 mixed rfl (by kernel_rfl) (by intro c a d v w h; cases d <;> exact h) hw16 (fun hD => ?_)
        refine rd_pure (i := 0) (d := (some 40)) hD (by kernel_rfl) (by kernel_rfl) rfl (.free rfl) rfl (fun _ => q_move (v := .pointer (r3)) rfl rfl) ?_
        refine rd_pure (i := 1) (d := (some 41)) hD (by kernel_rfl) (by kernel_rfl) rfl (.free rfl) rfl (fun _ => q_move (v := tSlc.enc (l_1)) rfl rfl) ?_
        refine rd_pure (i := 2) (d := (some 42)) hD (by kernel_rfl) (by kernel_rfl) rfl (.free rfl) rfl (fun _ => q_move (v := .int .i64 (k_13)) rfl rfl) ?_
        obtain ⟨a17, ha17, h⟩ := h
        refine rd_pure (i := 3) (d := (some 43)) hD (by kernel_rfl) (by kernel_rfl) rfl (.free rfl) rfl (fun _ => q_indexAddr (s := l_1) (i := k_13) rfl Try.underlying22 ok31 rfl rfl ha17) ?_
        refine rd_pure (i := 4) (d := (some 44)) hD (by kernel_rfl) (by kernel_rfl) rfl (.free rfl) rfl (fun _ => q_fieldAddr (a := a17) (off := 2) rfl Try.underlying31 rfl rfl ok3 (by decide) rfl) ?_
        refine rd_pure (i := 7) (d := (some 47)) hD (by kernel_rfl) (by kernel_rfl) rfl (.free rfl) rfl (fun _ => q_move (v := .pointer (r3)) rfl rfl) ?_
        refine rd_pure (i := 8) (d := (some 48)) hD (by kernel_rfl) (by kernel_rfl) rfl (.free rfl) rfl (fun _ => q_move (v := tSlc.enc (l_1)) rfl rfl) ?_
        refine rd_pure (i := 9) (d := (some 49)) hD (by kernel_rfl) (by kernel_rfl) rfl (.free rfl) rfl (fun _ => q_move (v := .int .i64 (k_13)) rfl rfl) ?_
        obtain ⟨a18, ha18, h⟩ := h
        refine rd_pure (i := 10) (d := (some 50)) hD (by kernel_rfl) (by kernel_rfl) rfl (.free rfl) rfl (fun _ => q_indexAddr (s := l_1) (i := k_13) rfl Try.underlying22 ok31 rfl rfl ha18) ?_
        refine rd_pure (i := 11) (d := (some 51)) hD (by kernel_rfl) (by kernel_rfl) rfl (.free rfl) rfl (fun _ => q_fieldAddr (a := a18) (off := 2) rfl Try.underlying31 rfl rfl ok3 (by decide) rfl) ?_
        obtain ⟨x19, hx19, h⟩ := h
        refine rd_read (i := 5) (d := (some 45)) (fun W => (RdAt (tInt .i64) (a17.add 2) W) x19) hD (by kernel_rfl) (by kernel_rfl) rfl (.free rfl) rfl (fun W hr => q_load (T := (tInt .i64)) (u := x19) (a := (a17.add 2)) rfl ok3 rfl hr) hx19 ?_
        obtain ⟨x20, hx20, h⟩ := h
        refine rd_read (i := 12) (d := (some 52)) (fun W => (RdAt (tInt .i64) (a18.add 2) W) x20) hD (by kernel_rfl) (by kernel_rfl) rfl (.free rfl) rfl (fun W hr => q_load (T := (tInt .i64)) (u := x20) (a := (a18.add 2)) rfl ok3 rfl hr) hx20 ?_
        refine rd_one (i := 6) (by kernel_rfl) ?_
        refine po_wp rfl (.free rfl) (wp_cl (d := (some 46)) rfl (q_call (k := 21) (l := [.pointer (r3), .int .i64 (x19)]) rfl ent21 rfl) h ?_)
        intro r22 w21 h
        obtain ⟨hk23, h⟩ := h
        refine ⟨(hk_keep (fun _ => hk23) (hk_wait (by kernel_rfl) hk_nil)), ?_⟩
        refine rd_one (i := 13) (by kernel_rfl) ?_
        refine po_wp rfl (.free rfl) (wp_cl (d := (some 53)) rfl (q_call (k := 22) (l := [.pointer (r3), .int .i64 (x20)]) rfl ent22 rfl) h ?_)
        intro r25 w24 h
        obtain ⟨hk26, h⟩ := h
        refine ⟨(hk_wait (by kernel_rfl) (hk_keep (fun _ => hk26) hk_nil)), ?_⟩
        refine rd_pure (i := 14) (d := (some 6)) hD (by kernel_rfl) (by kernel_rfl) rfl (.free rfl) rfl (fun _ => q_assign (v := tSlc.enc (r22)) rfl rfl) ?_
        refine rd_pure (i := 15) (d := (some 7)) hD (by kernel_rfl) (by kernel_rfl) rfl (.free rfl) rfl (fun _ => q_assign (v := tSlc.enc (r25)) rfl rfl) ?_
        refine rd_nil (by kernel_rfl) ?_
        refine wp_seq ?_
        refine wp_text [0] rfl ?_
        refine ro_val (d := (some 8)) rfl (.free rfl) rfl (q_assign (v := .int .i64 ((0 : Int))) rfl rfl) ?_
        refine ro_nil ?_
        refine wp_block ?_
        refine loop_at (σ := Int) (fr := fun g (s : Int) => upd (upd (upd (upd (upd (upd (upd (g) 0 (tSlc.enc (l_1))) 3 (.pointer (r3))) 4 (.int .i64 (i_6))) 5 (.int .i64 (k_13))) 6 (tSlc.enc (r22))) 7 (tSlc.enc (r25))) 8 (.int .i64 (s))) (s0 := ((0 : Int))) (upd_step (upd_step (upd_step (upd_step (upd_step (upd_step (upd_step rfl rfl) rfl) rfl) rfl) rfl) rfl) rfl) h ?_
        rintro a_27 g w28 K29 h
        unfold F5_l3 at h
        refine wp_seq ?_
        refine wp_seq ?_
        refine wp_text [0, 1, 2, 3] rfl ?_
        refine ro_val (d := (some 54)) rfl (.free rfl) rfl (q_move (v := .int .i64 (a_27)) rfl rfl) ?_
        refine ro_val (d := (some 55)) rfl (.free rfl) rfl (q_move (v := tSlc.enc (r25)) rfl rfl) ?_
        refine ro_val (d := (some 56)) rfl (.free rfl) rfl (q_len (s := r25) rfl Try.underlying51 rfl) ?_
        refine ro_val (d := (some 57)) rfl (.free rfl) rfl (q_lss (a := a_27) (b := (r25.len : Int)) rfl rfl rfl) ?_
        refine ro_nil ?_
        refine wp_if (b := (decide (a_27 < (r25.len : Int)))) rfl h (fun hb71 h => ?_) (fun hb71 h => ?_)
        · refine wp_skip ?_
          refine wp_seq ?_
          refine wp_block ?_
          refine wp_seq ?_
          refine wp_text [0] rfl ?_
          refine ro_val (d := (some 9)) rfl (.free rfl) rfl (q_assign (v := .bool (false)) rfl rfl) ?_
          refine ro_nil ?_
          refine wp_seq ?_
          refine wp_seq ?_
          refine wp_text [0] rfl ?_
          refine ro_val (d := (some 10)) rfl (.free rfl) rfl (q_assign (v := .int .i64 ((0 : Int))) rfl rfl) ?_
          refine ro_nil ?_
          refine wp_block ?_
          refine loop_at (σ := Bool × Int) (fr := fun g (s : Bool × Int) => upd (upd (upd (upd (upd (upd (upd (upd (upd (g) 0 (tSlc.enc (l_1))) 3 (.pointer (r3))) 4 (.int .i64 (i_6))) 5 (.int .i64 (k_13))) 6 (tSlc.enc (r22))) 7 (tSlc.enc (r25))) 8 (.int .i64 (a_27))) 9 (.bool (s.1))) 10 (.int .i64 (s.2))) (s0 := (false, (0 : Int))) (upd_step (upd_step (upd_step (upd_step (upd_step (upd_step (upd_step (upd_step (upd_step rfl rfl) rfl) rfl) rfl) rfl) rfl) rfl) rfl) rfl) h ?_
          rintro ⟨elder_30, b_31⟩ g w32 K33 h
          unfold F5_l4 at h
          refine wp_seq ?_
          refine wp_seq ?_
          refine wp_text [0, 1, 2, 3] rfl ?_
          refine ro_val (d := (some 60)) rfl (.free rfl) rfl (q_move (v := .int .i64 (b_31)) rfl rfl) ?_
          refine ro_val (d := (some 61)) rfl (.free rfl) rfl (q_move (v := tSlc.enc (r22)) rfl rfl) ?_
          refine ro_val (d := (some 62)) rfl (.free rfl) rfl (q_len (s := r22) rfl Try.underlying51 rfl) ?_
          refine ro_val (d := (some 63)) rfl (.free rfl) rfl (q_lss (a := b_31) (b := (r22.len : Int)) rfl rfl rfl) ?_
          refine ro_nil ?_
          refine wp_if (b := (decide (b_31 < (r22.len : Int)))) rfl h (fun hb70 h => ?_) (fun hb70 h => ?_)
          · refine wp_skip ?_
            refine wp_seq ?_
            refine wp_block ?_
            refine wp_seq ?_
            obtain ⟨w34, hw34, h⟩ := dr_open h
            refine wp_drawn 29 mixed rfl (by kernel_rfl) (by intro c a d v w h; cases d <;> exact h) hw34 (fun hD => ?_)
            refine rd_pure (i := 0) (d := (some 66)) hD (by kernel_rfl) (by kernel_rfl) rfl (.free rfl) rfl (fun _ => q_move (v := .bool (elder_30)) rfl rfl) ?_
            refine rd_pure (i := 1) (d := (some 67)) hD (by kernel_rfl) (by kernel_rfl) rfl (.free rfl) rfl (fun _ => q_move (v := .bool (elder_30)) rfl rfl) ?_
            refine rd_gpure (i := 2) (g := (!elder_30)) (d := (some 68)) hD (by kernel_rfl) (by kernel_rfl) rfl (.no 1 67 true elder_30 rfl rfl rfl rfl) rfl (fun hg _ => q_move (v := tSlc.enc (r22)) rfl rfl) ?_
            refine rd_gpure (i := 3) (g := (!elder_30)) (d := (some 69)) hD (by kernel_rfl) (by kernel_rfl) rfl (.no 1 67 true elder_30 rfl rfl rfl rfl) rfl (fun hg _ => q_move (v := .int .i64 (b_31)) rfl rfl) ?_
            obtain ⟨a35, ha35, h⟩ := h
            refine rd_gpure (i := 4) (g := (!elder_30)) (d := (some 70)) hD (by kernel_rfl) (by kernel_rfl) rfl (.no 1 67 true elder_30 rfl rfl rfl rfl) rfl (fun hg _ => q_indexAddr (s := r22) (i := b_31) rfl Try.underlying51 ok54 (gvb_yes hg) (gvb_yes hg) (ha35 hg)) ?_
            refine rd_gpure (i := 5) (g := (!elder_30)) (d := (some 71)) hD (by kernel_rfl) (by kernel_rfl) rfl (.no 1 67 true elder_30 rfl rfl rfl rfl) rfl (fun hg _ => q_fieldAddr (a := a35) (off := 0) rfl Try.underlying54 rfl rfl ok3 (by decide) (gvb_yes hg)) ?_
            refine rd_gpure (i := 7) (g := (!elder_30)) (d := (some 73)) hD (by kernel_rfl) (by kernel_rfl) rfl (.no 1 67 true elder_30 rfl rfl rfl rfl) rfl (fun hg _ => q_move (v := tSlc.enc (r25)) rfl rfl) ?_
            refine rd_gpure (i := 8) (g := (!elder_30)) (d := (some 74)) hD (by kernel_rfl) (by kernel_rfl) rfl (.no 1 67 true elder_30 rfl rfl rfl rfl) rfl (fun hg _ => q_move (v := .int .i64 (a_27)) rfl rfl) ?_
            obtain ⟨a36, ha36, h⟩ := h
            refine rd_gpure (i := 9) (g := (!elder_30)) (d := (some 75)) hD (by kernel_rfl) (by kernel_rfl) rfl (.no 1 67 true elder_30 rfl rfl rfl rfl) rfl (fun hg _ => q_indexAddr (s := r25) (i := a_27) rfl Try.underlying51 ok54 (gvb_yes hg) (gvb_yes hg) (ha36 hg)) ?_
            refine rd_gpure (i := 10) (g := (!elder_30)) (d := (some 76)) hD (by kernel_rfl) (by kernel_rfl) rfl (.no 1 67 true elder_30 rfl rfl rfl rfl) rfl (fun hg _ => q_fieldAddr (a := a36) (off := 0) rfl Try.underlying54 rfl rfl ok3 (by decide) (gvb_yes hg)) ?_
            obtain ⟨x37, hx37, h⟩ := h
            refine rd_gread (i := 6) (g := (!elder_30)) (d := (some 72)) (fun W => (RdAt (tInt .i64) (a35.add 0) W) x37) hD (by kernel_rfl) (by kernel_rfl) rfl (.no 1 67 true elder_30 rfl rfl rfl rfl) rfl (fun hg W hr => q_load (T := (tInt .i64)) (u := x37) (a := (a35.add 0)) rfl ok3 (gvb_yes hg) hr) hx37 ?_
            obtain ⟨x38, hx38, h⟩ := h
            refine rd_gread (i := 11) (g := (!elder_30)) (d := (some 77)) (fun W => (RdAt (tInt .i64) (a36.add 0) W) x38) hD (by kernel_rfl) (by kernel_rfl) rfl (.no 1 67 true elder_30 rfl rfl rfl rfl) rfl (fun hg W hr => q_load (T := (tInt .i64)) (u := x38) (a := (a36.add 0)) rfl ok3 (gvb_yes hg) hr) hx38 ?_
            refine rd_gpure (i := 12) (g := (!elder_30)) (d := (some 78)) hD (by kernel_rfl) (by kernel_rfl) rfl (.no 1 67 true elder_30 rfl rfl rfl rfl) rfl (fun hg _ => q_lss (a := x37) (b := x38) rfl (gvb_yes hg) (gvb_yes hg)) ?_
            refine rd_gpure (i := 13) (g := (!elder_30)) (d := (some 79)) hD (by kernel_rfl) (by kernel_rfl) rfl (.no 1 67 true elder_30 rfl rfl rfl rfl) rfl (fun hg _ => q_move (v := .bool ((decide (x37 < x38)))) rfl (gvb_yes hg)) ?_
            refine rd_gpure (i := 14) (g := ((!elder_30) && (decide (x37 < x38)))) (d := (some 80)) hD (by kernel_rfl) (by kernel_rfl) rfl (.yes 13 79 (!elder_30) (decide (x37 < x38)) rfl rfl rfl rfl) rfl (fun hg _ => q_move (v := tSlc.enc (r22)) rfl rfl) ?_
            refine rd_gpure (i := 15) (g := ((!elder_30) && (decide (x37 < x38)))) (d := (some 81)) hD (by kernel_rfl) (by kernel_rfl) rfl (.yes 13 79 (!elder_30) (decide (x37 < x38)) rfl rfl rfl rfl) rfl (fun hg _ => q_move (v := .int .i64 (b_31)) rfl rfl) ?_
            obtain ⟨a39, ha39, h⟩ := h
            refine rd_gpure (i := 16) (g := ((!elder_30) && (decide (x37 < x38)))) (d := (some 82)) hD (by kernel_rfl) (by kernel_rfl) rfl (.yes 13 79 (!elder_30) (decide (x37 < x38)) rfl rfl rfl rfl) rfl (fun hg _ => q_indexAddr (s := r22) (i := b_31) rfl Try.underlying51 ok54 (gvb_yes hg) (gvb_yes hg) (ha39 hg)) ?_
            refine rd_gpure (i := 17) (g := ((!elder_30) && (decide (x37 < x38)))) (d := (some 83)) hD (by kernel_rfl) (by kernel_rfl) rfl (.yes 13 79 (!elder_30) (decide (x37 < x38)) rfl rfl rfl rfl) rfl (fun hg _ => q_fieldAddr (a := a39) (off := 1) rfl Try.underlying54 rfl rfl ok4 (by decide) (gvb_yes hg)) ?_
            obtain ⟨x40, hx40, h⟩ := h
            refine rd_gread (i := 18) (g := ((!elder_30) && (decide (x37 < x38)))) (d := (some 84)) (fun W => (RdAt tBool (a39.add 1) W) x40) hD (by kernel_rfl) (by kernel_rfl) rfl (.yes 13 79 (!elder_30) (decide (x37 < x38)) rfl rfl rfl rfl) rfl (fun hg W hr => q_load (T := tBool) (u := x40) (a := (a39.add 1)) rfl ok4 (gvb_yes hg) hr) hx40 ?_
            refine rd_gpure (i := 19) (g := ((!elder_30) && (decide (x37 < x38)))) (d := (some 85)) hD (by kernel_rfl) (by kernel_rfl) rfl (.yes 13 79 (!elder_30) (decide (x37 < x38)) rfl rfl rfl rfl) rfl (fun hg _ => q_move (v := .bool (x40)) rfl (gvb_yes hg)) ?_
            refine rd_gpure (i := 20) (g := (((!elder_30) && (decide (x37 < x38))) && (!x40))) (d := (some 86)) hD (by kernel_rfl) (by kernel_rfl) rfl (.no 19 85 ((!elder_30) && (decide (x37 < x38))) x40 rfl rfl rfl rfl) rfl (fun hg _ => q_move (v := tSlc.enc (r25)) rfl rfl) ?_
            refine rd_gpure (i := 21) (g := (((!elder_30) && (decide (x37 < x38))) && (!x40))) (d := (some 87)) hD (by kernel_rfl) (by kernel_rfl) rfl (.no 19 85 ((!elder_30) && (decide (x37 < x38))) x40 rfl rfl rfl rfl) rfl (fun hg _ => q_move (v := .int .i64 (a_27)) rfl rfl) ?_
            obtain ⟨a41, ha41, h⟩ := h
            refine rd_gpure (i := 22) (g := (((!elder_30) && (decide (x37 < x38))) && (!x40))) (d := (some 88)) hD (by kernel_rfl) (by kernel_rfl) rfl (.no 19 85 ((!elder_30) && (decide (x37 < x38))) x40 rfl rfl rfl rfl) rfl (fun hg _ => q_indexAddr (s := r25) (i := a_27) rfl Try.underlying51 ok54 (gvb_yes hg) (gvb_yes hg) (ha41 hg)) ?_
            refine rd_gpure (i := 23) (g := (((!elder_30) && (decide (x37 < x38))) && (!x40))) (d := (some 89)) hD (by kernel_rfl) (by kernel_rfl) rfl (.no 19 85 ((!elder_30) && (decide (x37 < x38))) x40 rfl rfl rfl rfl) rfl (fun hg _ => q_fieldAddr (a := a41) (off := 1) rfl Try.underlying54 rfl rfl ok4 (by decide) (gvb_yes hg)) ?_
            obtain ⟨x42, hx42, h⟩ := h
            refine rd_gread (i := 24) (g := (((!elder_30) && (decide (x37 < x38))) && (!x40))) (d := (some 90)) (fun W => (RdAt tBool (a41.add 1) W) x42) hD (by kernel_rfl) (by kernel_rfl) rfl (.no 19 85 ((!elder_30) && (decide (x37 < x38))) x40 rfl rfl rfl rfl) rfl (fun hg W hr => q_load (T := tBool) (u := x42) (a := (a41.add 1)) rfl ok4 (gvb_yes hg) hr) hx42 ?_
            refine rd_gpure (i := 25) (g := ((!elder_30) && (decide (x37 < x38)))) (d := (some 91)) hD (by kernel_rfl) (by kernel_rfl) rfl (.yes 13 79 (!elder_30) (decide (x37 < x38)) rfl rfl rfl rfl) rfl (fun hg _ => q_pickNF (g0 := ((!elder_30) && (decide (x37 < x38)))) (a := x40) (c := x42) hg rfl rfl rfl rfl) ?_
            refine rd_gpure (i := 26) (g := (!elder_30)) (d := (some 92)) hD (by kernel_rfl) (by kernel_rfl) rfl (.no 1 67 true elder_30 rfl rfl rfl rfl) rfl (fun hg _ => q_pickNT (g0 := (!elder_30)) (a := (decide (x37 < x38))) (b := (x40 || x42)) hg rfl rfl rfl rfl) ?_
            refine rd_pure (i := 27) (d := (some 93)) hD (by kernel_rfl) (by kernel_rfl) rfl (.free rfl) rfl (fun _ => q_pickGF (a := elder_30) (c := ((decide (x37 < x38)) && (x40 || x42))) rfl rfl rfl rfl) ?_
            refine rd_pure (i := 28) (d := (some 9)) hD (by kernel_rfl) (by kernel_rfl) rfl (.free rfl) rfl (fun _ => q_assign (v := .bool ((elder_30 || ((decide (x37 < x38)) && (x40 || x42))))) rfl rfl) ?_
            refine rd_nil (by kernel_rfl) ?_
            refine wp_seq ?_
            obtain ⟨w43, hw43, h⟩ := dr_open h
            refine wp_drawn 25 mixed rfl (by kernel_rfl) (by intro c a d v w h; cases d <;> exact h) hw43 (fun hD => ?_)
            refine rd_pure (i := 0) (d := (some 94)) hD (by kernel_rfl) (by kernel_rfl) rfl (.free rfl) rfl (fun _ => q_move (v := tSlc.enc (r22)) rfl rfl) ?_
            refine rd_pure (i := 1) (d := (some 95)) hD (by kernel_rfl) (by kernel_rfl) rfl (.free rfl) rfl (fun _ => q_move (v := .int .i64 (b_31)) rfl rfl) ?_
            obtain ⟨a44, ha44, h⟩ := h
            refine rd_pure (i := 2) (d := (some 96)) hD (by kernel_rfl) (by kernel_rfl) rfl (.free rfl) rfl (fun _ => q_indexAddr (s := r22) (i := b_31) rfl Try.underlying51 ok54 rfl rfl ha44) ?_
            refine rd_pure (i := 3) (d := (some 97)) hD (by kernel_rfl) (by kernel_rfl) rfl (.free rfl) rfl (fun _ => q_fieldAddr (a := a44) (off := 0) rfl Try.underlying54 rfl rfl ok3 (by decide) rfl) ?_
            refine rd_pure (i := 5) (d := (some 99)) hD (by kernel_rfl) (by kernel_rfl) rfl (.free rfl) rfl (fun _ => q_move (v := tSlc.enc (r25)) rfl rfl) ?_
            refine rd_pure (i := 6) (d := (some 100)) hD (by kernel_rfl) (by kernel_rfl) rfl (.free rfl) rfl (fun _ => q_move (v := .int .i64 (a_27)) rfl rfl) ?_
            obtain ⟨a45, ha45, h⟩ := h
            refine rd_pure (i := 7) (d := (some 101)) hD (by kernel_rfl) (by kernel_rfl) rfl (.free rfl) rfl (fun _ => q_indexAddr (s := r25) (i := a_27) rfl Try.underlying51 ok54 rfl rfl ha45) ?_
            refine rd_pure (i := 8) (d := (some 102)) hD (by kernel_rfl) (by kernel_rfl) rfl (.free rfl) rfl (fun _ => q_fieldAddr (a := a45) (off := 0) rfl Try.underlying54 rfl rfl ok3 (by decide) rfl) ?_
            obtain ⟨x46, hx46, h⟩ := h
            refine rd_read (i := 4) (d := (some 98)) (fun W => (RdAt (tInt .i64) (a44.add 0) W) x46) hD (by kernel_rfl) (by kernel_rfl) rfl (.free rfl) rfl (fun W hr => q_load (T := (tInt .i64)) (u := x46) (a := (a44.add 0)) rfl ok3 rfl hr) hx46 ?_
            obtain ⟨x47, hx47, h⟩ := h
            refine rd_read (i := 9) (d := (some 103)) (fun W => (RdAt (tInt .i64) (a45.add 0) W) x47) hD (by kernel_rfl) (by kernel_rfl) rfl (.free rfl) rfl (fun W hr => q_load (T := (tInt .i64)) (u := x47) (a := (a45.add 0)) rfl ok3 rfl hr) hx47 ?_
            refine rd_pure (i := 10) (d := (some 104)) hD (by kernel_rfl) (by kernel_rfl) rfl (.free rfl) rfl (fun _ => q_gtr (a := x46) (b := x47) rfl rfl rfl) ?_
            refine rd_pure (i := 11) (d := (some 105)) hD (by kernel_rfl) (by kernel_rfl) rfl (.free rfl) rfl (fun _ => q_move (v := .bool ((decide (x46 > x47)))) rfl rfl) ?_
            refine rd_gpure (i := 12) (g := (decide (x46 > x47))) (d := (some 106)) hD (by kernel_rfl) (by kernel_rfl) rfl (.yes 11 105 true (decide (x46 > x47)) rfl rfl rfl rfl) rfl (fun hg _ => q_move (v := tSlc.enc (r22)) rfl rfl) ?_
            refine rd_gpure (i := 13) (g := (decide (x46 > x47))) (d := (some 107)) hD (by kernel_rfl) (by kernel_rfl) rfl (.yes 11 105 true (decide (x46 > x47)) rfl rfl rfl rfl) rfl (fun hg _ => q_move (v := .int .i64 (b_31)) rfl rfl) ?_
            obtain ⟨a48, ha48, h⟩ := h
            refine rd_gpure (i := 14) (g := (decide (x46 > x47))) (d := (some 108)) hD (by kernel_rfl) (by kernel_rfl) rfl (.yes 11 105 true (decide (x46 > x47)) rfl rfl rfl rfl) rfl (fun hg _ => q_indexAddr (s := r22) (i := b_31) rfl Try.underlying51 ok54 (gvb_yes hg) (gvb_yes hg) (ha48 hg)) ?_
            refine rd_gpure (i := 15) (g := (decide (x46 > x47))) (d := (some 109)) hD (by kernel_rfl) (by kernel_rfl) rfl (.yes 11 105 true (decide (x46 > x47)) rfl rfl rfl rfl) rfl (fun hg _ => q_fieldAddr (a := a48) (off := 1) rfl Try.underlying54 rfl rfl ok4 (by decide) (gvb_yes hg)) ?_
            obtain ⟨x49, hx49, h⟩ := h
            refine rd_gread (i := 16) (g := (decide (x46 > x47))) (d := (some 110)) (fun W => (RdAt tBool (a48.add 1) W) x49) hD (by kernel_rfl) (by kernel_rfl) rfl (.yes 11 105 true (decide (x46 > x47)) rfl rfl rfl rfl) rfl (fun hg W hr => q_load (T := tBool) (u := x49) (a := (a48.add 1)) rfl ok4 (gvb_yes hg) hr) hx49 ?_
            refine rd_gpure (i := 17) (g := (decide (x46 > x47))) (d := (some 111)) hD (by kernel_rfl) (by kernel_rfl) rfl (.yes 11 105 true (decide (x46 > x47)) rfl rfl rfl rfl) rfl (fun hg _ => q_move (v := .bool (x49)) rfl (gvb_yes hg)) ?_
            refine rd_gpure (i := 18) (g := ((decide (x46 > x47)) && (!x49))) (d := (some 112)) hD (by kernel_rfl) (by kernel_rfl) rfl (.no 17 111 (decide (x46 > x47)) x49 rfl rfl rfl rfl) rfl (fun hg _ => q_move (v := tSlc.enc (r25)) rfl rfl) ?_
            refine rd_gpure (i := 19) (g := ((decide (x46 > x47)) && (!x49))) (d := (some 113)) hD (by kernel_rfl) (by kernel_rfl) rfl (.no 17 111 (decide (x46 > x47)) x49 rfl rfl rfl rfl) rfl (fun hg _ => q_move (v := .int .i64 (a_27)) rfl rfl) ?_
            obtain ⟨a50, ha50, h⟩ := h
            refine rd_gpure (i := 20) (g := ((decide (x46 > x47)) && (!x49))) (d := (some 114)) hD (by kernel_rfl) (by kernel_rfl) rfl (.no 17 111 (decide (x46 > x47)) x49 rfl rfl rfl rfl) rfl (fun hg _ => q_indexAddr (s := r25) (i := a_27) rfl Try.underlying51 ok54 (gvb_yes hg) (gvb_yes hg) (ha50 hg)) ?_
            refine rd_gpure (i := 21) (g := ((decide (x46 > x47)) && (!x49))) (d := (some 115)) hD (by kernel_rfl) (by kernel_rfl) rfl (.no 17 111 (decide (x46 > x47)) x49 rfl rfl rfl rfl) rfl (fun hg _ => q_fieldAddr (a := a50) (off := 1) rfl Try.underlying54 rfl rfl ok4 (by decide) (gvb_yes hg)) ?_
            obtain ⟨x51, hx51, h⟩ := h
            refine rd_gread (i := 22) (g := ((decide (x46 > x47)) && (!x49))) (d := (some 116)) (fun W => (RdAt tBool (a50.add 1) W) x51) hD (by kernel_rfl) (by kernel_rfl) rfl (.no 17 111 (decide (x46 > x47)) x49 rfl rfl rfl rfl) rfl (fun hg W hr => q_load (T := tBool) (u := x51) (a := (a50.add 1)) rfl ok4 (gvb_yes hg) hr) hx51 ?_
            refine rd_gpure (i := 23) (g := (decide (x46 > x47))) (d := (some 117)) hD (by kernel_rfl) (by kernel_rfl) rfl (.yes 11 105 true (decide (x46 > x47)) rfl rfl rfl rfl) rfl (fun hg _ => q_pickNF (g0 := (decide (x46 > x47))) (a := x49) (c := x51) hg rfl rfl rfl rfl) ?_
            refine rd_pure (i := 24) (d := (some 118)) hD (by kernel_rfl) (by kernel_rfl) rfl (.free rfl) rfl (fun _ => q_pickGT (a := (decide (x46 > x47))) (b := (x49 || x51)) rfl rfl rfl rfl) ?_
            refine rd_nil (by kernel_rfl) ?_
            refine wp_if (b := ((decide (x46 > x47)) && (x49 || x51))) rfl h (fun hb52 h => ?_) (fun hb52 h => ?_)
            · refine wp_seq ?_
              refine wp_text [0] rfl ?_
              refine ro_val (d := (some 2)) rfl (.free rfl) rfl (q_assign (v := .bool (false)) rfl rfl) ?_
              refine ro_nil ?_
              refine wp_ret ?_
              exact ret_ok rfl (.cons (.tmp (v := .bool (false)) rfl) .nil) ⟨false, rfl, h⟩
            · refine wp_skip ?_
              refine wp_text [0, 1, 2] rfl ?_
              refine ro_val (d := (some 64)) rfl (.free rfl) rfl (q_move (v := .int .i64 (b_31)) rfl rfl) ?_
              refine ro_val (d := (some 65)) rfl (.free rfl) rfl (q_add (a := b_31) (b := (1 : Int)) rfl rfl rfl) ?_
              refine ro_val (d := (some 10)) rfl (.free rfl) rfl (q_assign (v := .int .i64 ((IntKind.i64.wrap (b_31 + (1 : Int))))) rfl rfl) ?_
              refine ro_nil ?_
              exact ⟨((elder_30 || ((decide (x37 < x38)) && (x40 || x42))), (IntKind.i64.wrap (b_31 + (1 : Int)))), _, arr (upd_step (upd_step (upd_step (upd_step (upd_step (upd_step (upd_step (upd_step (upd_step rfl rfl) rfl) rfl) rfl) rfl) rfl) rfl) rfl) rfl), h⟩
          · refine wp_exit ?_
            refine wp_seq ?_
            refine wp_seq ?_
            refine wp_text [0] rfl ?_
            refine ro_val (d := (some 11)) rfl (.free rfl) rfl (q_assign (v := .int .i64 ((0 : Int))) rfl rfl) ?_
            refine ro_nil ?_
            refine wp_block ?_
            refine loop_at (σ := Bool × Int) (fr := fun g (s : Bool × Int) => upd (upd (upd (upd (upd (upd (upd (upd (upd (g) 0 (tSlc.enc (l_1))) 3 (.pointer (r3))) 4 (.int .i64 (i_6))) 5 (.int .i64 (k_13))) 6 (tSlc.enc (r22))) 7 (tSlc.enc (r25))) 8 (.int .i64 (a_27))) 9 (.bool (s.1))) 11 (.int .i64 (s.2))) (s0 := (elder_30, (0 : Int))) (upd_step (upd_step (upd_step (upd_step (upd_step (upd_step (upd_step (upd_step (upd_step rfl rfl) rfl) rfl) rfl) rfl) rfl) rfl) rfl) rfl) h ?_
            rintro ⟨elder_53, b_54⟩ g w55 K56 h
            unfold F5_l5 at h
            refine wp_seq ?_
            refine wp_seq ?_
            refine wp_text [0, 1, 2] rfl ?_
            refine ro_val (d := (some 119)) rfl (.free rfl) rfl (q_move (v := .int .i64 (b_54)) rfl rfl) ?_
            refine ro_val (d := (some 120)) rfl (.free rfl) rfl (q_move (v := .int .i64 (a_27)) rfl rfl) ?_
            refine ro_val (d := (some 121)) rfl (.free rfl) rfl (q_lss (a := b_54) (b := a_27) rfl rfl rfl) ?_
            refine ro_nil ?_
            refine wp_if (b := (decide (b_54 < a_27))) rfl h (fun hb69 h => ?_) (fun hb69 h => ?_)
            · refine wp_skip ?_
              refine wp_seq ?_
              refine wp_block ?_
              refine wp_text [0, 1, 2, 3, 4, 5, 6, 7, 8, 9, 10, 11, 12, 13, 14, 15] rfl ?_
              refine ro_val (d := (some 124)) rfl (.free rfl) rfl (q_move (v := .bool (elder_53)) rfl rfl) ?_
              refine ro_val (d := (some 125)) rfl (.free rfl) rfl (q_move (v := .bool (elder_53)) rfl rfl) ?_
              refine ro_gval (g := (!elder_53)) (d := (some 126)) rfl (.no 1 125 true elder_53 rfl rfl rfl rfl) rfl (fun hg => q_move (v := tSlc.enc (r25)) rfl rfl) ?_
              refine ro_gval (g := (!elder_53)) (d := (some 127)) rfl (.no 1 125 true elder_53 rfl rfl rfl rfl) rfl (fun hg => q_move (v := .int .i64 (b_54)) rfl rfl) ?_
              obtain ⟨a57, ha57, h⟩ := h
              refine ro_gval (g := (!elder_53)) (d := (some 128)) rfl (.no 1 125 true elder_53 rfl rfl rfl rfl) rfl (fun hg => q_indexAddr (s := r25) (i := b_54) rfl Try.underlying51 ok54 (gvb_yes hg) (gvb_yes hg) (ha57 hg)) ?_
              refine ro_gval (g := (!elder_53)) (d := (some 129)) rfl (.no 1 125 true elder_53 rfl rfl rfl rfl) rfl (fun hg => q_fieldAddr (a := a57) (off := 1) rfl Try.underlying54 rfl rfl ok4 (by decide) (gvb_yes hg)) ?_
              obtain ⟨x58, hx58, h⟩ := h
              refine ro_gval (g := (!elder_53)) (d := (some 130)) rfl (.no 1 125 true elder_53 rfl rfl rfl rfl) rfl (fun hg => q_load (T := tBool) (u := x58) (a := (a57.add 1)) rfl ok4 (gvb_yes hg) (hx58 hg)) ?_
              refine ro_val (d := (some 131)) rfl (.free rfl) rfl (q_pickGF (a := elder_53) (c := x58) rfl rfl rfl rfl) ?_
              refine ro_val (d := (some 132)) rfl (.free rfl) rfl (q_move (v := .bool ((elder_53 || x58))) rfl rfl) ?_
              refine ro_gval (g := (!(elder_53 || x58))) (d := (some 133)) rfl (.no 8 132 true (elder_53 || x58) rfl rfl rfl rfl) rfl (fun hg => q_move (v := tSlc.enc (r25)) rfl rfl) ?_
              refine ro_gval (g := (!(elder_53 || x58))) (d := (some 134)) rfl (.no 8 132 true (elder_53 || x58) rfl rfl rfl rfl) rfl (fun hg => q_move (v := .int .i64 (a_27)) rfl rfl) ?_
              obtain ⟨a59, ha59, h⟩ := h
              refine ro_gval (g := (!(elder_53 || x58))) (d := (some 135)) rfl (.no 8 132 true (elder_53 || x58) rfl rfl rfl rfl) rfl (fun hg => q_indexAddr (s := r25) (i := a_27) rfl Try.underlying51 ok54 (gvb_yes hg) (gvb_yes hg) (ha59 hg)) ?_
              refine ro_gval (g := (!(elder_53 || x58))) (d := (some 136)) rfl (.no 8 132 true (elder_53 || x58) rfl rfl rfl rfl) rfl (fun hg => q_fieldAddr (a := a59) (off := 1) rfl Try.underlying54 rfl rfl ok4 (by decide) (gvb_yes hg)) ?_
              obtain ⟨x60, hx60, h⟩ := h
              refine ro_gval (g := (!(elder_53 || x58))) (d := (some 137)) rfl (.no 8 132 true (elder_53 || x58) rfl rfl rfl rfl) rfl (fun hg => q_load (T := tBool) (u := x60) (a := (a59.add 1)) rfl ok4 (gvb_yes hg) (hx60 hg)) ?_
              refine ro_val (d := (some 138)) rfl (.free rfl) rfl (q_pickGF (a := (elder_53 || x58)) (c := x60) rfl rfl rfl rfl) ?_
              refine ro_val (d := (some 9)) rfl (.free rfl) rfl (q_assign (v := .bool (((elder_53 || x58) || x60))) rfl rfl) ?_
              refine ro_nil ?_
              refine wp_text [0, 1, 2] rfl ?_
              refine ro_val (d := (some 122)) rfl (.free rfl) rfl (q_move (v := .int .i64 (b_54)) rfl rfl) ?_
              refine ro_val (d := (some 123)) rfl (.free rfl) rfl (q_add (a := b_54) (b := (1 : Int)) rfl rfl rfl) ?_
              refine ro_val (d := (some 11)) rfl (.free rfl) rfl (q_assign (v := .int .i64 ((IntKind.i64.wrap (b_54 + (1 : Int))))) rfl rfl) ?_
              refine ro_nil ?_
              exact ⟨(((elder_53 || x58) || x60), (IntKind.i64.wrap (b_54 + (1 : Int)))), _, arr (upd_step (upd_step (upd_step (upd_step (upd_step (upd_step (upd_step (upd_step (upd_step rfl rfl) rfl) rfl) rfl) rfl) rfl) rfl) rfl) rfl), h⟩
            · refine wp_exit ?_
              refine wp_seq ?_
              refine wp_text [0, 1, 2, 3, 4, 5, 6, 7, 8, 9, 10] rfl ?_
              refine ro_val (d := (some 139)) rfl (.free rfl) rfl (q_move (v := .bool (elder_53)) rfl rfl) ?_
              refine ro_val (d := (some 140)) rfl (.free rfl) rfl (q_not (b := elder_53) rfl rfl) ?_
              refine ro_val (d := (some 141)) rfl (.free rfl) rfl (q_move (v := .bool ((!elder_53))) rfl rfl) ?_
              refine ro_join (σ := Bool) (J := fun (s : Bool) w => F5_j6 a_27 s w K29 R) (fr := fun g (s : Bool) => upd (upd (upd (upd (upd (upd (upd (upd (g) 0 (tSlc.enc (l_1))) 3 (.pointer (r3))) 4 (.int .i64 (i_6))) 5 (.int .i64 (k_13))) 6 (tSlc.enc (r22))) 7 (tSlc.enc (r25))) 8 (.int .i64 (a_27))) 149 (.bool (s))) [3, 4, 5, 6, 7, 8, 9, 10] [] ?_ ?_
              · rintro t_61 g w62 h
                unfold F5_j6 at h
                refine ro_nil ?_
                refine wp_if (b := t_61) rfl h (fun hb63 h => ?_) (fun hb63 h => ?_)
                · refine wp_seq ?_
                  refine wp_text [0] rfl ?_
                  refine ro_val (d := (some 2)) rfl (.free rfl) rfl (q_assign (v := .bool (false)) rfl rfl) ?_
                  refine ro_nil ?_
                  refine wp_ret ?_
                  exact ret_ok rfl (.cons (.tmp (v := .bool (false)) rfl) .nil) ⟨false, rfl, h⟩
                · refine wp_skip ?_
                  refine wp_text [0, 1, 2] rfl ?_
                  refine ro_val (d := (some 58)) rfl (.free rfl) rfl (q_move (v := .int .i64 (a_27)) rfl rfl) ?_
                  refine ro_val (d := (some 59)) rfl (.free rfl) rfl (q_add (a := a_27) (b := (1 : Int)) rfl rfl rfl) ?_
                  refine ro_val (d := (some 8)) rfl (.free rfl) rfl (q_assign (v := .int .i64 ((IntKind.i64.wrap (a_27 + (1 : Int))))) rfl rfl) ?_
                  refine ro_nil ?_
                  exact ⟨((IntKind.i64.wrap (a_27 + (1 : Int)))), _, arr (upd_step (upd_step (upd_step (upd_step (upd_step (upd_step (upd_step rfl rfl) rfl) rfl) rfl) rfl) rfl) rfl), h⟩
              · refine ro_if (b := (!elder_53)) h (fun hb64 h => ?_) (fun hb64 h => ?_)
                · refine ro_bar (d := (some 142)) rfl (.by_ 2 false 141 (!elder_53) rfl rfl rfl hb64) rfl ?_
                  refine ro_bar (d := (some 143)) rfl (.by_ 2 false 141 (!elder_53) rfl rfl rfl hb64) rfl ?_
                  refine ro_bar (d := (some 144)) rfl (.by_ 2 false 141 (!elder_53) rfl rfl rfl hb64) rfl ?_
                  refine ro_bar (d := (some 145)) rfl (.by_ 2 false 141 (!elder_53) rfl rfl rfl hb64) rfl ?_
                  refine ro_bar (d := (some 146)) rfl (.by_ 2 false 141 (!elder_53) rfl rfl rfl hb64) rfl ?_
                  refine ro_bar (d := (some 147)) rfl (.by_ 2 false 141 (!elder_53) rfl rfl rfl hb64) rfl ?_
                  refine ro_bar (d := (some 148)) rfl (.by_ 2 false 141 (!elder_53) rfl rfl rfl hb64) rfl ?_
                  refine ro_val (d := (some 149)) rfl (.free rfl) rfl (q_pickT (v := .bool (true)) (b := (!elder_53)) rfl rfl hb64 rfl) ?_
                  refine ro_nil ?_
                  exact ⟨(true), _, arr (upd_step (upd_step (upd_step (upd_step (upd_step (upd_step (upd_step (upd_step rfl rfl) rfl) rfl) rfl) rfl) rfl) rfl) rfl), h⟩
                · refine ro_val (d := (some 142)) rfl (.by_ 2 false 141 (!elder_53) rfl rfl rfl hb64) rfl (q_move (v := .pointer (r3)) rfl rfl) ?_
                  refine ro_val (d := (some 143)) rfl (.by_ 2 false 141 (!elder_53) rfl rfl rfl hb64) rfl (q_move (v := tSlc.enc (r25)) rfl rfl) ?_
                  refine ro_val (d := (some 144)) rfl (.by_ 2 false 141 (!elder_53) rfl rfl rfl hb64) rfl (q_move (v := .int .i64 (a_27)) rfl rfl) ?_
                  obtain ⟨a65, ha65, h⟩ := h
                  refine ro_val (d := (some 145)) rfl (.by_ 2 false 141 (!elder_53) rfl rfl rfl hb64) rfl (q_indexAddr (s := r25) (i := a_27) rfl Try.underlying51 ok54 rfl rfl ha65) ?_
                  refine ro_val (d := (some 146)) rfl (.by_ 2 false 141 (!elder_53) rfl rfl rfl hb64) rfl (q_fieldAddr (a := a65) (off := 0) rfl Try.underlying54 rfl rfl ok3 (by decide) rfl) ?_
                  obtain ⟨x66, hx66, h⟩ := h
                  refine ro_val (d := (some 147)) rfl (.by_ 2 false 141 (!elder_53) rfl rfl rfl hb64) rfl (q_load (T := (tInt .i64)) (u := x66) (a := (a65.add 0)) rfl ok3 rfl hx66) ?_
                  refine ro_wp rfl (.by_ 2 false 141 (!elder_53) rfl rfl rfl hb64) (wp_cl (d := (some 148)) rfl (q_call (k := 18) (l := [.pointer (r3), .int .i64 (x66)]) rfl ent18 rfl) h ?_)
                  intro r68 w67 h
                  refine ro_val (d := (some 149)) rfl (.free rfl) rfl (q_pickF (v := .bool (r68)) (b := (!elder_53)) rfl rfl hb64 rfl) ?_
                  refine ro_nil ?_
                  exact ⟨(r68), _, arr (upd_step (upd_step (upd_step (upd_step (upd_step (upd_step (upd_step (upd_step rfl rfl) rfl) rfl) rfl) rfl) rfl) rfl) rfl), h⟩
        · refine wp_exit ?_
          refine wp_text [0, 1, 2] rfl ?_
          refine ro_val (d := (some 38)) rfl (.free rfl) rfl (q_move (v := .int .i64 (k_13)) rfl rfl) ?_
          refine ro_val (d := (some 39)) rfl (.free rfl) rfl (q_add (a := k_13) (b := (1 : Int)) rfl rfl rfl) ?_
          refine ro_val (d := (some 5)) rfl (.free rfl) rfl (q_assign (v := .int .i64 ((IntKind.i64.wrap (k_13 + (1 : Int))))) rfl rfl) ?_
          refine ro_nil ?_
          exact ⟨((IntKind.i64.wrap (k_13 + (1 : Int)))), _, arr (upd_step (upd_step (upd_step (upd_step rfl rfl) rfl) rfl) rfl), h⟩
      · refine wp_exit ?_
        refine wp_text [0, 1, 2] rfl ?_
        refine ro_val (d := (some 27)) rfl (.free rfl) rfl (q_move (v := .int .i64 (i_6)) rfl rfl) ?_
        refine ro_val (d := (some 28)) rfl (.free rfl) rfl (q_add (a := i_6) (b := (1 : Int)) rfl rfl rfl) ?_
        refine ro_val (d := (some 4)) rfl (.free rfl) rfl (q_assign (v := .int .i64 ((IntKind.i64.wrap (i_6 + (1 : Int))))) rfl rfl) ?_
        refine ro_nil ?_
        exact ⟨((IntKind.i64.wrap (i_6 + (1 : Int)))), _, arr (upd_step (upd_step (upd_step rfl rfl) rfl) rfl), h⟩
    · refine wp_exit ?_
      refine wp_seq ?_
      refine wp_text [0] rfl ?_
      refine ro_val (d := (some 2)) rfl (.free rfl) rfl (q_assign (v := .bool (true)) rfl rfl) ?_
      refine ro_nil ?_
      refine wp_ret ?_
      exact ret_ok rfl (.cons (.tmp (v := .bool (true)) rfl) .nil) ⟨true, rfl, h⟩

end Go.Proofs.Ytojcgejjdfcaaaa.Cf
