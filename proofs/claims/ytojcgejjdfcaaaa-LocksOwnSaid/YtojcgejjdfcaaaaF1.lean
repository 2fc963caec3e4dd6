/- Characteristic formulae of Go functions, and that they are. Printed by gen.py (own tool). -/
import Derived.Test.YtojcgejjdfcaaaaTy
namespace Go.Proofs.Ytojcgejjdfcaaaa.Cf
open Go
set_option maxRecDepth 100000
set_option maxHeartbeats 1000000
set_option linter.unusedVariables false
set_option linter.unusedSimpArgs false

-- moiety/moietylaw13.LocksApart
def F4_l3 (r3 : (Option Addr)) (k_13 : Int) (r19 : Slc) (a_20 : Int) (w21 : World) (K15 : Int → World → Prop) (K22 : Int → World → Prop) (R : Bool → World → Prop) : Prop :=
  if (decide (a_20 < (r19.len : Int))) = true then (
    dr w21 fun w23 =>
    ex (IxA r19 2 a_20) fun a24 =>
    ex (RdAt (tInt .i64) (a24.add 0) w23) fun x25 =>
    cl Try.prog 18 [.pointer (r3), .int .i64 (x25)] tBool w23 fun r27 w26 =>
    ex (fun x => ((!r27) && (decide (a_20 > (0 : Int)))) = true → (IxA r19 2 (IntKind.i64.wrap (a_20 - (1 : Int)))) x) fun a28 =>
    ex (fun x => ((!r27) && (decide (a_20 > (0 : Int)))) = true → (IxA r19 2 a_20) x) fun a29 =>
    ex (fun x => ((!r27) && (decide (a_20 > (0 : Int)))) = true → (RdAt (tInt .i64) (a28.add 0) w26) x) fun x30 =>
    ex (fun x => ((!r27) && (decide (a_20 > (0 : Int)))) = true → (RdAt (tInt .i64) (a29.add 0) w26) x) fun x31 =>
    ex (fun x => (((!r27) && (decide (a_20 > (0 : Int)))) && (!(decide (x30 ≥ x31)))) = true → (IxA r19 2 a_20) x) fun a32 =>
    ex (fun x => (((!r27) && (decide (a_20 > (0 : Int)))) && (!(decide (x30 ≥ x31)))) = true → (RdAt tBool (a32.add 1) w26) x) fun x33 =>
    ex (fun x => (((!r27) && (decide (a_20 > (0 : Int)))) && (!((decide (x30 ≥ x31)) || x33))) = true → (IxA r19 2 (IntKind.i64.wrap (a_20 - (1 : Int)))) x) fun a34 =>
    ex (fun x => (((!r27) && (decide (a_20 > (0 : Int)))) && (!((decide (x30 ≥ x31)) || x33))) = true → (RdAt tBool (a34.add 1) w26) x) fun x35 =>
    if (r27 || ((decide (a_20 > (0 : Int))) && (((decide (x30 ≥ x31)) || x33) || x35))) = true then (
      R false w26
    ) else (
      K22 ((IntKind.i64.wrap (a_20 + (1 : Int)))) w26
    )
  ) else (
    K15 ((IntKind.i64.wrap (k_13 + (1 : Int)))) w21
  )
def F4_l2 (l_1 : Slc) (r3 : (Option Addr)) (i_6 : Int) (k_13 : Int) (w14 : World) (K8 : Int → World → Prop) (K15 : Int → World → Prop) (R : Bool → World → Prop) : Prop :=
  if (decide (k_13 ≤ i_6)) = true then (
    ex (IxA l_1 4 k_13) fun a16 =>
    ex (RdAt (tInt .i64) (a16.add 2) w14) fun x17 =>
    cl Try.prog 21 [.pointer (r3), .int .i64 (x17)] tSlc w14 fun r19 w18 =>
    lp (fun (s : Int) w K => F4_l3 r3 k_13 r19 s w K15 K R) ((0 : Int)) w18
  ) else (
    K8 ((IntKind.i64.wrap (i_6 + (1 : Int)))) w14
  )
def F4_l1 (l_1 : Slc) (r3 : (Option Addr)) (i_6 : Int) (w7 : World) (K8 : Int → World → Prop) (R : Bool → World → Prop) : Prop :=
  if ((decide (i_6 < (l_1.len : Int))) && (decide (i_6 < (40 : Int)))) = true then (
    ex (IxA l_1 4 i_6) fun a9 =>
    ex (RdAt T30 a9 w7) fun x10 =>
    cl Try.prog 20 [.pointer (r3), T30.enc (x10)] (tTup2 T33 (tInt .i64)) w7 fun r12 w11 =>
    lp (fun (s : Int) w K => F4_l2 l_1 r3 i_6 s w K8 K R) ((0 : Int)) w11
  ) else (
    R true w7
  )
def F4 (l_1 : Slc) (w : World) (R : Bool → World → Prop) : Prop :=
  cl Try.prog 9 [] tPtr w fun r3 w2 =>
  cl Try.prog 10 [] tBool w2 fun r5 w4 =>
  if ((!r5) || r3.isNone) = true then (
    R false w4
  ) else (
    lp (fun (s : Int) w K => F4_l1 l_1 r3 s w K R) ((0 : Int)) w4
  )
theorem F4_ok {l_1 : Slc} {w : World} {R : Bool → World → Prop} (h : F4 l_1 w R) : cl Try.prog 4 [tSlc.enc (l_1)] tBool w R := by
  unfold F4 at h
  refine calls_start 89 Try.func4 rfl rfl (Nat.le_of_ble_eq_true rfl) ?_
  refine wp_seq ?_
  refine wp_text [0] rfl ?_
  refine ro_val (d := (some 2)) rfl (.free rfl) rfl (q_assign (v := .bool (false)) rfl rfl) ?_
  refine ro_nil ?_
  refine wp_seq ?_
  refine wp_text [0, 1] rfl ?_
  refine ro_wp rfl (.free rfl) (wp_cl (d := (some 8)) rfl (q_call (k := 9) (l := []) rfl ent9 rfl) h ?_)
  intro r3 w2 h
  refine ro_val (d := (some 3)) rfl (.free rfl) rfl (q_assign (v := .pointer (r3)) rfl rfl) ?_
  refine ro_nil ?_
  refine wp_seq ?_
  refine wp_seq ?_
  refine wp_text [0, 1, 2, 3, 4, 5] rfl ?_
  refine ro_wp rfl (.free rfl) (wp_cl (d := (some 9)) rfl (q_call (k := 10) (l := []) rfl ent10 rfl) h ?_)
  intro r5 w4 h
  refine ro_val (d := (some 10)) rfl (.free rfl) rfl (q_not (b := r5) rfl rfl) ?_
  refine ro_val (d := (some 11)) rfl (.free rfl) rfl (q_move (v := .bool ((!r5))) rfl rfl) ?_
  refine ro_gval (g := (!(!r5))) (d := (some 12)) rfl (.no 2 11 true (!r5) rfl rfl rfl rfl) rfl (fun hg => q_move (v := .pointer (r3)) rfl rfl) ?_
  refine ro_gval (g := (!(!r5))) (d := (some 13)) rfl (.no 2 11 true (!r5) rfl rfl rfl rfl) rfl (fun hg => q_eqP0 (a := r3) rfl Try.underlying23 (gvb_yes hg) rfl) ?_
  refine ro_val (d := (some 14)) rfl (.free rfl) rfl (q_pickGF (a := (!r5)) (c := r3.isNone) rfl rfl rfl rfl) ?_
  refine ro_nil ?_
  refine wp_if (b := ((!r5) || r3.isNone)) rfl h (fun hb40 h => ?_) (fun hb40 h => ?_)
  · refine wp_seq ?_
    refine wp_text [0] rfl ?_
    refine ro_val (d := (some 2)) rfl (.free rfl) rfl (q_assign (v := .bool (false)) rfl rfl) ?_
    refine ro_nil ?_
    refine wp_ret ?_
    exact ret_ok rfl (.cons (.tmp (v := .bool (false)) rfl) .nil) ⟨false, rfl, h⟩
  · refine wp_skip ?_
    refine wp_seq ?_
    refine wp_seq ?_
    refine wp_text [0] rfl ?_
    refine ro_val (d := (some 4)) rfl (.free rfl) rfl (q_assign (v := .int .i64 ((0 : Int))) rfl rfl) ?_
    refine ro_nil ?_
    refine wp_block ?_
    refine loop_at (σ := Int) (fr := fun g (s : Int) => upd (upd (upd (g) 0 (tSlc.enc (l_1))) 3 (.pointer (r3))) 4 (.int .i64 (s))) (s0 := ((0 : Int))) (upd_step (upd_step (upd_step rfl rfl) rfl) rfl) h ?_
    rintro i_6 g w7 K8 h
    unfold F4_l1 at h
    refine wp_seq ?_
    refine wp_seq ?_
    refine wp_text [0, 1, 2, 3, 4, 5, 6, 7] rfl ?_
    refine ro_val (d := (some 15)) rfl (.free rfl) rfl (q_move (v := .int .i64 (i_6)) rfl rfl) ?_
    refine ro_val (d := (some 16)) rfl (.free rfl) rfl (q_move (v := tSlc.enc (l_1)) rfl rfl) ?_
    refine ro_val (d := (some 17)) rfl (.free rfl) rfl (q_len (s := l_1) rfl Try.underlying22 rfl) ?_
    refine ro_val (d := (some 18)) rfl (.free rfl) rfl (q_lss (a := i_6) (b := (l_1.len : Int)) rfl rfl rfl) ?_
    refine ro_val (d := (some 19)) rfl (.free rfl) rfl (q_move (v := .bool ((decide (i_6 < (l_1.len : Int))))) rfl rfl) ?_
    refine ro_gval (g := (decide (i_6 < (l_1.len : Int)))) (d := (some 20)) rfl (.yes 4 19 true (decide (i_6 < (l_1.len : Int))) rfl rfl rfl rfl) rfl (fun hg => q_move (v := .int .i64 (i_6)) rfl rfl) ?_
    refine ro_gval (g := (decide (i_6 < (l_1.len : Int)))) (d := (some 21)) rfl (.yes 4 19 true (decide (i_6 < (l_1.len : Int))) rfl rfl rfl rfl) rfl (fun hg => q_lss (a := i_6) (b := (40 : Int)) rfl (gvb_yes hg) rfl) ?_
    refine ro_val (d := (some 22)) rfl (.free rfl) rfl (q_pickGT (a := (decide (i_6 < (l_1.len : Int)))) (b := (decide (i_6 < (40 : Int)))) rfl rfl rfl rfl) ?_
    refine ro_nil ?_
    refine wp_if (b := ((decide (i_6 < (l_1.len : Int))) && (decide (i_6 < (40 : Int))))) rfl h (fun hb39 h => ?_) (fun hb39 h => ?_)
    · refine wp_skip ?_
      refine wp_seq ?_
      refine wp_block ?_
      refine wp_seq ?_
      refine wp_text [0, 1, 2, 3, 4, 5] rfl ?_
      refine ro_val (d := (some 25)) rfl (.free rfl) rfl (q_move (v := .pointer (r3)) rfl rfl) ?_
      refine ro_val (d := (some 26)) rfl (.free rfl) rfl (q_move (v := tSlc.enc (l_1)) rfl rfl) ?_
      refine ro_val (d := (some 27)) rfl (.free rfl) rfl (q_move (v := .int .i64 (i_6)) rfl rfl) ?_
      obtain ⟨a9, ha9, h⟩ := h
      refine ro_val (d := (some 28)) rfl (.free rfl) rfl (q_indexAddr (s := l_1) (i := i_6) rfl Try.underlying22 ok31 rfl rfl ha9) ?_
      obtain ⟨x10, hx10, h⟩ := h
      refine ro_val (d := (some 29)) rfl (.free rfl) rfl (q_load (T := T30) (u := x10) (a := a9) rfl ok31 rfl hx10) ?_
      refine ro_wp rfl (.free rfl) (wp_cl (d := (some 30)) rfl (q_call (k := 20) (l := [.pointer (r3), T30.enc (x10)]) rfl ent20 rfl) h ?_)
      intro r12 w11 h
      refine ro_nil ?_
      refine wp_seq ?_
      refine wp_text [0] rfl ?_
      refine ro_val (d := (some 5)) rfl (.free rfl) rfl (q_assign (v := .int .i64 ((0 : Int))) rfl rfl) ?_
      refine ro_nil ?_
      refine wp_block ?_
      refine loop_at (σ := Int) (fr := fun g (s : Int) => upd (upd (upd (upd (g) 0 (tSlc.enc (l_1))) 3 (.pointer (r3))) 4 (.int .i64 (i_6))) 5 (.int .i64 (s))) (s0 := ((0 : Int))) (upd_step (upd_step (upd_step (upd_step rfl rfl) rfl) rfl) rfl) h ?_
      rintro k_13 g w14 K15 h
      unfold F4_l2 at h
      refine wp_seq ?_
      refine wp_seq ?_
      refine wp_text [0, 1, 2] rfl ?_
      refine ro_val (d := (some 31)) rfl (.free rfl) rfl (q_move (v := .int .i64 (k_13)) rfl rfl) ?_
      refine ro_val (d := (some 32)) rfl (.free rfl) rfl (q_move (v := .int .i64 (i_6)) rfl rfl) ?_
      refine ro_val (d := (some 33)) rfl (.free rfl) rfl (q_leq (a := k_13) (b := i_6) rfl rfl rfl) ?_
      refine ro_nil ?_
      refine wp_if (b := (decide (k_13 ≤ i_6))) rfl h (fun hb38 h => ?_) (fun hb38 h => ?_)
      · refine wp_skip ?_
        refine wp_seq ?_
        refine wp_block ?_
        refine wp_seq ?_
        refine wp_text [0, 1, 2, 3, 4, 5, 6, 7] rfl ?_
        refine ro_val (d := (some 36)) rfl (.free rfl) rfl (q_move (v := .pointer (r3)) rfl rfl) ?_
        refine ro_val (d := (some 37)) rfl (.free rfl) rfl (q_move (v := tSlc.enc (l_1)) rfl rfl) ?_
        refine ro_val (d := (some 38)) rfl (.free rfl) rfl (q_move (v := .int .i64 (k_13)) rfl rfl) ?_
        obtain ⟨a16, ha16, h⟩ := h
        refine ro_val (d := (some 39)) rfl (.free rfl) rfl (q_indexAddr (s := l_1) (i := k_13) rfl Try.underlying22 ok31 rfl rfl ha16) ?_
        refine ro_val (d := (some 40)) rfl (.free rfl) rfl (q_fieldAddr (a := a16) (off := 2) rfl Try.underlying31 rfl rfl ok3 (by decide) rfl) ?_
        obtain ⟨x17, hx17, h⟩ := h
        refine ro_val (d := (some 41)) rfl (.free rfl) rfl (q_load (T := (tInt .i64)) (u := x17) (a := (a16.add 2)) rfl ok3 rfl hx17) ?_
        refine ro_wp rfl (.free rfl) (wp_cl (d := (some 42)) rfl (q_call (k := 21) (l := [.pointer (r3), .int .i64 (x17)]) rfl ent21 rfl) h ?_)
        intro r19 w18 h
        refine ro_val (d := (some 6)) rfl (.free rfl) rfl (q_assign (v := tSlc.enc (r19)) rfl rfl) ?_
        refine ro_nil ?_
        refine wp_seq ?_
        refine wp_text [0] rfl ?_
        refine ro_val (d := (some 7)) rfl (.free rfl) rfl (q_assign (v := .int .i64 ((0 : Int))) rfl rfl) ?_
        refine ro_nil ?_
        refine wp_block ?_
        refine loop_at (σ := Int) (fr := fun g (s : Int) => upd (upd (upd (upd (upd (upd (g) 0 (tSlc.enc (l_1))) 3 (.pointer (r3))) 4 (.int .i64 (i_6))) 5 (.int .i64 (k_13))) 6 (tSlc.enc (r19))) 7 (.int .i64 (s))) (s0 := ((0 : Int))) (upd_step (upd_step (upd_step (upd_step (upd_step (upd_step rfl rfl) rfl) rfl) rfl) rfl) rfl) h ?_
        rintro a_20 g w21 K22 h
        unfold F4_l3 at h
        refine wp_seq ?_
        refine wp_seq ?_
        refine wp_text [0, 1, 2, 3] rfl ?_
        refine ro_val (d := (some 43)) rfl (.free rfl) rfl (q_move (v := .int .i64 (a_20)) rfl rfl) ?_
        refine ro_val (d := (some 44)) rfl (.free rfl) rfl (q_move (v := tSlc.enc (r19)) rfl rfl) ?_
        refine ro_val (d := (some 45)) rfl (.free rfl) rfl (q_len (s := r19) rfl Try.underlying51 rfl) ?_
        refine ro_val (d := (some 46)) rfl (.free rfl) rfl (q_lss (a := a_20) (b := (r19.len : Int)) rfl rfl rfl) ?_
        refine ro_nil ?_
        refine wp_if (b := (decide (a_20 < (r19.len : Int)))) rfl h (fun hb37 h => ?_) (fun hb37 h => ?_)
        · refine wp_skip ?_
          refine wp_seq ?_
          refine wp_block ?_
          refine wp_seq ?_
          obtain ⟨w23, hw23, h⟩ := dr_open h
          refine wp_drawn 40 mixed rfl (by kernel_rfl) (by intro c a d v w h; cases d <;> exact h) hw23 (fun hD => ?_)
          refine rd_pure (i := 0) (d := (some 49)) hD (by kernel_rfl) (by kernel_rfl) rfl (.free rfl) rfl (fun _ => q_move (v := .pointer (r3)) rfl rfl) ?_
          refine rd_pure (i := 1) (d := (some 50)) hD (by kernel_rfl) (by kernel_rfl) rfl (.free rfl) rfl (fun _ => q_move (v := tSlc.enc (r19)) rfl rfl) ?_
          refine rd_pure (i := 2) (d := (some 51)) hD (by kernel_rfl) (by kernel_rfl) rfl (.free rfl) rfl (fun _ => q_move (v := .int .i64 (a_20)) rfl rfl) ?_
          obtain ⟨a24, ha24, h⟩ := h
          refine rd_pure (i := 3) (d := (some 52)) hD (by kernel_rfl) (by kernel_rfl) rfl (.free rfl) rfl (fun _ => q_indexAddr (s := r19) (i := a_20) rfl Try.underlying51 ok54 rfl rfl ha24) ?_
          refine rd_pure (i := 4) (d := (some 53)) hD (by kernel_rfl) (by kernel_rfl) rfl (.free rfl) rfl (fun _ => q_fieldAddr (a := a24) (off := 0) rfl Try.underlying54 rfl rfl ok3 (by decide) rfl) ?_
          obtain ⟨x25, hx25, h⟩ := h
          refine rd_read (i := 5) (d := (some 54)) (fun W => (RdAt (tInt .i64) (a24.add 0) W) x25) hD (by kernel_rfl) (by kernel_rfl) rfl (.free rfl) rfl (fun W hr => q_load (T := (tInt .i64)) (u := x25) (a := (a24.add 0)) rfl ok3 rfl hr) hx25 ?_
          refine rd_one (i := 6) (by kernel_rfl) ?_
          refine po_wp rfl (.free rfl) (wp_cl (d := (some 55)) rfl (q_call (k := 18) (l := [.pointer (r3), .int .i64 (x25)]) rfl ent18 rfl) h ?_)
          intro r27 w26 h
          refine ⟨(hk_wait (by kernel_rfl) hk_nil), ?_⟩
          refine rd_pure (i := 7) (d := (some 56)) hD (by kernel_rfl) (by kernel_rfl) rfl (.free rfl) rfl (fun _ => q_move (v := .bool (r27)) rfl rfl) ?_
          refine rd_gpure (i := 8) (g := (!r27)) (d := (some 57)) hD (by kernel_rfl) (by kernel_rfl) rfl (.no 7 56 true r27 rfl rfl rfl rfl) rfl (fun hg _ => q_move (v := .int .i64 (a_20)) rfl rfl) ?_
          refine rd_gpure (i := 9) (g := (!r27)) (d := (some 58)) hD (by kernel_rfl) (by kernel_rfl) rfl (.no 7 56 true r27 rfl rfl rfl rfl) rfl (fun hg _ => q_gtr (a := a_20) (b := (0 : Int)) rfl (gvb_yes hg) rfl) ?_
          refine rd_gpure (i := 10) (g := (!r27)) (d := (some 59)) hD (by kernel_rfl) (by kernel_rfl) rfl (.no 7 56 true r27 rfl rfl rfl rfl) rfl (fun hg _ => q_move (v := .bool ((decide (a_20 > (0 : Int))))) rfl (gvb_yes hg)) ?_
          refine rd_gpure (i := 11) (g := ((!r27) && (decide (a_20 > (0 : Int))))) (d := (some 60)) hD (by kernel_rfl) (by kernel_rfl) rfl (.yes 10 59 (!r27) (decide (a_20 > (0 : Int))) rfl rfl rfl rfl) rfl (fun hg _ => q_move (v := tSlc.enc (r19)) rfl rfl) ?_
          refine rd_gpure (i := 12) (g := ((!r27) && (decide (a_20 > (0 : Int))))) (d := (some 61)) hD (by kernel_rfl) (by kernel_rfl) rfl (.yes 10 59 (!r27) (decide (a_20 > (0 : Int))) rfl rfl rfl rfl) rfl (fun hg _ => q_move (v := .int .i64 (a_20)) rfl rfl) ?_
          refine rd_gpure (i := 13) (g := ((!r27) && (decide (a_20 > (0 : Int))))) (d := (some 62)) hD (by kernel_rfl) (by kernel_rfl) rfl (.yes 10 59 (!r27) (decide (a_20 > (0 : Int))) rfl rfl rfl rfl) rfl (fun hg _ => q_sub (a := a_20) (b := (1 : Int)) rfl (gvb_yes hg) rfl) ?_
          obtain ⟨a28, ha28, h⟩ := h
          refine rd_gpure (i := 14) (g := ((!r27) && (decide (a_20 > (0 : Int))))) (d := (some 63)) hD (by kernel_rfl) (by kernel_rfl) rfl (.yes 10 59 (!r27) (decide (a_20 > (0 : Int))) rfl rfl rfl rfl) rfl (fun hg _ => q_indexAddr (s := r19) (i := (IntKind.i64.wrap (a_20 - (1 : Int)))) rfl Try.underlying51 ok54 (gvb_yes hg) (gvb_yes hg) (ha28 hg)) ?_
          refine rd_gpure (i := 15) (g := ((!r27) && (decide (a_20 > (0 : Int))))) (d := (some 64)) hD (by kernel_rfl) (by kernel_rfl) rfl (.yes 10 59 (!r27) (decide (a_20 > (0 : Int))) rfl rfl rfl rfl) rfl (fun hg _ => q_fieldAddr (a := a28) (off := 0) rfl Try.underlying54 rfl rfl ok3 (by decide) (gvb_yes hg)) ?_
          refine rd_gpure (i := 17) (g := ((!r27) && (decide (a_20 > (0 : Int))))) (d := (some 66)) hD (by kernel_rfl) (by kernel_rfl) rfl (.yes 10 59 (!r27) (decide (a_20 > (0 : Int))) rfl rfl rfl rfl) rfl (fun hg _ => q_move (v := tSlc.enc (r19)) rfl rfl) ?_
          refine rd_gpure (i := 18) (g := ((!r27) && (decide (a_20 > (0 : Int))))) (d := (some 67)) hD (by kernel_rfl) (by kernel_rfl) rfl (.yes 10 59 (!r27) (decide (a_20 > (0 : Int))) rfl rfl rfl rfl) rfl (fun hg _ => q_move (v := .int .i64 (a_20)) rfl rfl) ?_
          obtain ⟨a29, ha29, h⟩ := h
          refine rd_gpure (i := 19) (g := ((!r27) && (decide (a_20 > (0 : Int))))) (d := (some 68)) hD (by kernel_rfl) (by kernel_rfl) rfl (.yes 10 59 (!r27) (decide (a_20 > (0 : Int))) rfl rfl rfl rfl) rfl (fun hg _ => q_indexAddr (s := r19) (i := a_20) rfl Try.underlying51 ok54 (gvb_yes hg) (gvb_yes hg) (ha29 hg)) ?_
          refine rd_gpure (i := 20) (g := ((!r27) && (decide (a_20 > (0 : Int))))) (d := (some 69)) hD (by kernel_rfl) (by kernel_rfl) rfl (.yes 10 59 (!r27) (decide (a_20 > (0 : Int))) rfl rfl rfl rfl) rfl (fun hg _ => q_fieldAddr (a := a29) (off := 0) rfl Try.underlying54 rfl rfl ok3 (by decide) (gvb_yes hg)) ?_
          obtain ⟨x30, hx30, h⟩ := h
          refine rd_gread (i := 16) (g := ((!r27) && (decide (a_20 > (0 : Int))))) (d := (some 65)) (fun W => (RdAt (tInt .i64) (a28.add 0) W) x30) hD (by kernel_rfl) (by kernel_rfl) rfl (.yes 10 59 (!r27) (decide (a_20 > (0 : Int))) rfl rfl rfl rfl) rfl (fun hg W hr => q_load (T := (tInt .i64)) (u := x30) (a := (a28.add 0)) rfl ok3 (gvb_yes hg) hr) hx30 ?_
          obtain ⟨x31, hx31, h⟩ := h
          refine rd_gread (i := 21) (g := ((!r27) && (decide (a_20 > (0 : Int))))) (d := (some 70)) (fun W => (RdAt (tInt .i64) (a29.add 0) W) x31) hD (by kernel_rfl) (by kernel_rfl) rfl (.yes 10 59 (!r27) (decide (a_20 > (0 : Int))) rfl rfl rfl rfl) rfl (fun hg W hr => q_load (T := (tInt .i64)) (u := x31) (a := (a29.add 0)) rfl ok3 (gvb_yes hg) hr) hx31 ?_
          refine rd_gpure (i := 22) (g := ((!r27) && (decide (a_20 > (0 : Int))))) (d := (some 71)) hD (by kernel_rfl) (by kernel_rfl) rfl (.yes 10 59 (!r27) (decide (a_20 > (0 : Int))) rfl rfl rfl rfl) rfl (fun hg _ => q_geq (a := x30) (b := x31) rfl (gvb_yes hg) (gvb_yes hg)) ?_
          refine rd_gpure (i := 23) (g := ((!r27) && (decide (a_20 > (0 : Int))))) (d := (some 72)) hD (by kernel_rfl) (by kernel_rfl) rfl (.yes 10 59 (!r27) (decide (a_20 > (0 : Int))) rfl rfl rfl rfl) rfl (fun hg _ => q_move (v := .bool ((decide (x30 ≥ x31)))) rfl (gvb_yes hg)) ?_
          refine rd_gpure (i := 24) (g := (((!r27) && (decide (a_20 > (0 : Int)))) && (!(decide (x30 ≥ x31))))) (d := (some 73)) hD (by kernel_rfl) (by kernel_rfl) rfl (.no 23 72 ((!r27) && (decide (a_20 > (0 : Int)))) (decide (x30 ≥ x31)) rfl rfl rfl rfl) rfl (fun hg _ => q_move (v := tSlc.enc (r19)) rfl rfl) ?_
          refine rd_gpure (i := 25) (g := (((!r27) && (decide (a_20 > (0 : Int)))) && (!(decide (x30 ≥ x31))))) (d := (some 74)) hD (by kernel_rfl) (by kernel_rfl) rfl (.no 23 72 ((!r27) && (decide (a_20 > (0 : Int)))) (decide (x30 ≥ x31)) rfl rfl rfl rfl) rfl (fun hg _ => q_move (v := .int .i64 (a_20)) rfl rfl) ?_
          obtain ⟨a32, ha32, h⟩ := h
          refine rd_gpure (i := 26) (g := (((!r27) && (decide (a_20 > (0 : Int)))) && (!(decide (x30 ≥ x31))))) (d := (some 75)) hD (by kernel_rfl) (by kernel_rfl) rfl (.no 23 72 ((!r27) && (decide (a_20 > (0 : Int)))) (decide (x30 ≥ x31)) rfl rfl rfl rfl) rfl (fun hg _ => q_indexAddr (s := r19) (i := a_20) rfl Try.underlying51 ok54 (gvb_yes hg) (gvb_yes hg) (ha32 hg)) ?_
          refine rd_gpure (i := 27) (g := (((!r27) && (decide (a_20 > (0 : Int)))) && (!(decide (x30 ≥ x31))))) (d := (some 76)) hD (by kernel_rfl) (by kernel_rfl) rfl (.no 23 72 ((!r27) && (decide (a_20 > (0 : Int)))) (decide (x30 ≥ x31)) rfl rfl rfl rfl) rfl (fun hg _ => q_fieldAddr (a := a32) (off := 1) rfl Try.underlying54 rfl rfl ok4 (by decide) (gvb_yes hg)) ?_
          obtain ⟨x33, hx33, h⟩ := h
          refine rd_gread (i := 28) (g := (((!r27) && (decide (a_20 > (0 : Int)))) && (!(decide (x30 ≥ x31))))) (d := (some 77)) (fun W => (RdAt tBool (a32.add 1) W) x33) hD (by kernel_rfl) (by kernel_rfl) rfl (.no 23 72 ((!r27) && (decide (a_20 > (0 : Int)))) (decide (x30 ≥ x31)) rfl rfl rfl rfl) rfl (fun hg W hr => q_load (T := tBool) (u := x33) (a := (a32.add 1)) rfl ok4 (gvb_yes hg) hr) hx33 ?_
          refine rd_gpure (i := 29) (g := ((!r27) && (decide (a_20 > (0 : Int))))) (d := (some 78)) hD (by kernel_rfl) (by kernel_rfl) rfl (.yes 10 59 (!r27) (decide (a_20 > (0 : Int))) rfl rfl rfl rfl) rfl (fun hg _ => q_pickNF (g0 := ((!r27) && (decide (a_20 > (0 : Int))))) (a := (decide (x30 ≥ x31))) (c := x33) hg rfl rfl rfl rfl) ?_
          refine rd_gpure (i := 30) (g := ((!r27) && (decide (a_20 > (0 : Int))))) (d := (some 79)) hD (by kernel_rfl) (by kernel_rfl) rfl (.yes 10 59 (!r27) (decide (a_20 > (0 : Int))) rfl rfl rfl rfl) rfl (fun hg _ => q_move (v := .bool (((decide (x30 ≥ x31)) || x33))) rfl (gvb_yes hg)) ?_
          refine rd_gpure (i := 31) (g := (((!r27) && (decide (a_20 > (0 : Int)))) && (!((decide (x30 ≥ x31)) || x33)))) (d := (some 80)) hD (by kernel_rfl) (by kernel_rfl) rfl (.no 30 79 ((!r27) && (decide (a_20 > (0 : Int)))) ((decide (x30 ≥ x31)) || x33) rfl rfl rfl rfl) rfl (fun hg _ => q_move (v := tSlc.enc (r19)) rfl rfl) ?_
          refine rd_gpure (i := 32) (g := (((!r27) && (decide (a_20 > (0 : Int)))) && (!((decide (x30 ≥ x31)) || x33)))) (d := (some 81)) hD (by kernel_rfl) (by kernel_rfl) rfl (.no 30 79 ((!r27) && (decide (a_20 > (0 : Int)))) ((decide (x30 ≥ x31)) || x33) rfl rfl rfl rfl) rfl (fun hg _ => q_move (v := .int .i64 (a_20)) rfl rfl) ?_
          refine rd_gpure (i := 33) (g := (((!r27) && (decide (a_20 > (0 : Int)))) && (!((decide (x30 ≥ x31)) || x33)))) (d := (some 82)) hD (by kernel_rfl) (by kernel_rfl) rfl (.no 30 79 ((!r27) && (decide (a_20 > (0 : Int)))) ((decide (x30 ≥ x31)) || x33) rfl rfl rfl rfl) rfl (fun hg _ => q_sub (a := a_20) (b := (1 : Int)) rfl (gvb_yes hg) rfl) ?_
          obtain ⟨a34, ha34, h⟩ := h
          refine rd_gpure (i := 34) (g := (((!r27) && (decide (a_20 > (0 : Int)))) && (!((decide (x30 ≥ x31)) || x33)))) (d := (some 83)) hD (by kernel_rfl) (by kernel_rfl) rfl (.no 30 79 ((!r27) && (decide (a_20 > (0 : Int)))) ((decide (x30 ≥ x31)) || x33) rfl rfl rfl rfl) rfl (fun hg _ => q_indexAddr (s := r19) (i := (IntKind.i64.wrap (a_20 - (1 : Int)))) rfl Try.underlying51 ok54 (gvb_yes hg) (gvb_yes hg) (ha34 hg)) ?_
          refine rd_gpure (i := 35) (g := (((!r27) && (decide (a_20 > (0 : Int)))) && (!((decide (x30 ≥ x31)) || x33)))) (d := (some 84)) hD (by kernel_rfl) (by kernel_rfl) rfl (.no 30 79 ((!r27) && (decide (a_20 > (0 : Int)))) ((decide (x30 ≥ x31)) || x33) rfl rfl rfl rfl) rfl (fun hg _ => q_fieldAddr (a := a34) (off := 1) rfl Try.underlying54 rfl rfl ok4 (by decide) (gvb_yes hg)) ?_
          obtain ⟨x35, hx35, h⟩ := h
          refine rd_gread (i := 36) (g := (((!r27) && (decide (a_20 > (0 : Int)))) && (!((decide (x30 ≥ x31)) || x33)))) (d := (some 85)) (fun W => (RdAt tBool (a34.add 1) W) x35) hD (by kernel_rfl) (by kernel_rfl) rfl (.no 30 79 ((!r27) && (decide (a_20 > (0 : Int)))) ((decide (x30 ≥ x31)) || x33) rfl rfl rfl rfl) rfl (fun hg W hr => q_load (T := tBool) (u := x35) (a := (a34.add 1)) rfl ok4 (gvb_yes hg) hr) hx35 ?_
          refine rd_gpure (i := 37) (g := ((!r27) && (decide (a_20 > (0 : Int))))) (d := (some 86)) hD (by kernel_rfl) (by kernel_rfl) rfl (.yes 10 59 (!r27) (decide (a_20 > (0 : Int))) rfl rfl rfl rfl) rfl (fun hg _ => q_pickNF (g0 := ((!r27) && (decide (a_20 > (0 : Int))))) (a := ((decide (x30 ≥ x31)) || x33)) (c := x35) hg rfl rfl rfl rfl) ?_
          refine rd_gpure (i := 38) (g := (!r27)) (d := (some 87)) hD (by kernel_rfl) (by kernel_rfl) rfl (.no 7 56 true r27 rfl rfl rfl rfl) rfl (fun hg _ => q_pickNT (g0 := (!r27)) (a := (decide (a_20 > (0 : Int)))) (b := (((decide (x30 ≥ x31)) || x33) || x35)) hg rfl rfl rfl rfl) ?_
          refine rd_pure (i := 39) (d := (some 88)) hD (by kernel_rfl) (by kernel_rfl) rfl (.free rfl) rfl (fun _ => q_pickGF (a := r27) (c := ((decide (a_20 > (0 : Int))) && (((decide (x30 ≥ x31)) || x33) || x35))) rfl rfl rfl rfl) ?_
          refine rd_nil (by kernel_rfl) ?_
          refine wp_if (b := (r27 || ((decide (a_20 > (0 : Int))) && (((decide (x30 ≥ x31)) || x33) || x35)))) rfl h (fun hb36 h => ?_) (fun hb36 h => ?_)
          · refine wp_seq ?_
            refine wp_text [0] rfl ?_
            refine ro_val (d := (some 2)) rfl (.free rfl) rfl (q_assign (v := .bool (false)) rfl rfl) ?_
            refine ro_nil ?_
            refine wp_ret ?_
            exact ret_ok rfl (.cons (.tmp (v := .bool (false)) rfl) .nil) ⟨false, rfl, h⟩
          · refine wp_skip ?_
            refine wp_text [0, 1, 2] rfl ?_
            refine ro_val (d := (some 47)) rfl (.free rfl) rfl (q_move (v := .int .i64 (a_20)) rfl rfl) ?_
            refine ro_val (d := (some 48)) rfl (.free rfl) rfl (q_add (a := a_20) (b := (1 : Int)) rfl rfl rfl) ?_
            refine ro_val (d := (some 7)) rfl (.free rfl) rfl (q_assign (v := .int .i64 ((IntKind.i64.wrap (a_20 + (1 : Int))))) rfl rfl) ?_
            refine ro_nil ?_
            exact ⟨((IntKind.i64.wrap (a_20 + (1 : Int)))), _, arr (upd_step (upd_step (upd_step (upd_step (upd_step (upd_step rfl rfl) rfl) rfl) rfl) rfl) rfl), h⟩
        · refine wp_exit ?_
          refine wp_text [0, 1, 2] rfl ?_
          refine ro_val (d := (some 34)) rfl (.free rfl) rfl (q_move (v := .int .i64 (k_13)) rfl rfl) ?_
          refine ro_val (d := (some 35)) rfl (.free rfl) rfl (q_add (a := k_13) (b := (1 : Int)) rfl rfl rfl) ?_
          refine ro_val (d := (some 5)) rfl (.free rfl) rfl (q_assign (v := .int .i64 ((IntKind.i64.wrap (k_13 + (1 : Int))))) rfl rfl) ?_
          refine ro_nil ?_
          exact ⟨((IntKind.i64.wrap (k_13 + (1 : Int)))), _, arr (upd_step (upd_step (upd_step (upd_step rfl rfl) rfl) rfl) rfl), h⟩
      · refine wp_exit ?_
        refine wp_text [0, 1, 2] rfl ?_
        refine ro_val (d := (some 23)) rfl (.free rfl) rfl (q_move (v := .int .i64 (i_6)) rfl rfl) ?_
        refine ro_val (d := (some 24)) rfl (.free rfl) rfl (q_add (a := i_6) (b := (1 : Int)) rfl rfl rfl) ?_
        refine ro_val (d := (some 4)) rfl (.free rfl) rfl (q_assign (v := .int .i64 ((IntKind.i64.wrap (i_6 + (1 : Int))))) rfl rfl) ?_
        refine ro_nil ?_
        exact ⟨((IntKind.i64.wrap (i_6 + (1 : Int)))), _, arr (upd_step (upd_step (upd_step rfl rfl) rfl) rfl), h⟩
    · refine wp_exit ?_
      refine wp_seq ?_
      refine wp_text [0] rfl ?_
      refine ro_val (d := (some 2)) rfl (.free rfl) rfl (q_assign (v := .bool (true)) rfl rfl) ?_
      refine ro_nil ?_
      refine wp_ret ?_
      exact ret_ok rfl (.cons (.tmp (v := .bool (true)) rfl) .nil) ⟨true, rfl, h⟩

end Go.Proofs.Ytojcgejjdfcaaaa.Cf
