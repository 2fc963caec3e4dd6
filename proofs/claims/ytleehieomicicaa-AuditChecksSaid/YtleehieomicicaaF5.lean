/- Characteristic formulae of Go functions, and that they are. Printed by gen.py (own tool). -/
import Derived.Test.YtleehieomicicaaTy
namespace Go.Proofs.Ytleehieomicicaa.Cf
open Go
set_option maxRecDepth 100000
set_option maxHeartbeats 1000000
set_option linter.unusedVariables false
set_option linter.unusedSimpArgs false

-- moiety/moietyref12.Same
def F16_l1 (a_1 : Slc) (b_2 : Slc) (i_3 : Int) (w4 : World) (K5 : Int → World → Prop) (R : Bool → World → Prop) : Prop :=
  if (decide (i_3 < (a_1.len : Int))) = true then (
    dr w4 fun w6 =>
    ex (IxA a_1 2 i_3) fun a7 =>
    ex (IxA b_2 2 i_3) fun a8 =>
    ex (RdAt (tInt .i64) (a7.add 0) w6) fun x9 =>
    ex (RdAt (tInt .i64) (a8.add 0) w6) fun x10 =>
    ex (fun x => (!(x9 != x10)) = true → (IxA a_1 2 i_3) x) fun a11 =>
    ex (fun x => (!(x9 != x10)) = true → (IxA b_2 2 i_3) x) fun a12 =>
    ex (fun x => (!(x9 != x10)) = true → (RdAt (tInt .i64) (a11.add 1) w6) x) fun x13 =>
    ex (fun x => (!(x9 != x10)) = true → (RdAt (tInt .i64) (a12.add 1) w6) x) fun x14 =>
    if ((x9 != x10) || (x13 != x14)) = true then (
      R false w6
    ) else (
      K5 ((IntKind.i64.wrap (i_3 + (1 : Int)))) w6
    )
  ) else (
    R true w4
  )
def F16 (a_1 : Slc) (b_2 : Slc) (w : World) (R : Bool → World → Prop) : Prop :=
  if ((a_1.len : Int) != (b_2.len : Int)) = true then (
    R false w
  ) else (
    lp (fun (s : Int) w K => F16_l1 a_1 b_2 s w K R) ((0 : Int)) w
  )
theorem F16_ok {a_1 : Slc} {b_2 : Slc} {w : World} {R : Bool → World → Prop} (h : F16 a_1 b_2 w R) : cl Try.prog 16 [tSlc.enc (a_1), tSlc.enc (b_2)] tBool w R := by
  unfold F16 at h
  refine calls_start 41 Try.func16 rfl rfl (Nat.le_of_ble_eq_true rfl) ?_
  refine wp_seq ?_
  refine wp_text [0] rfl ?_
  refine ro_val (d := (some 4)) rfl (.free rfl) rfl (q_assign (v := .bool (false)) rfl rfl) ?_
  refine ro_nil ?_
  refine wp_seq ?_
  refine wp_seq ?_
  refine wp_text [0, 1, 2, 3, 4] rfl ?_
  refine ro_val (d := (some 6)) rfl (.free rfl) rfl (q_move (v := tSlc.enc (a_1)) rfl rfl) ?_
  refine ro_val (d := (some 7)) rfl (.free rfl) rfl (q_len (s := a_1) rfl Try.underlying31 rfl) ?_
  refine ro_val (d := (some 8)) rfl (.free rfl) rfl (q_move (v := tSlc.enc (b_2)) rfl rfl) ?_
  refine ro_val (d := (some 9)) rfl (.free rfl) rfl (q_len (s := b_2) rfl Try.underlying31 rfl) ?_
  refine ro_val (d := (some 10)) rfl (.free rfl) rfl (q_neq (a := (a_1.len : Int)) (b := (b_2.len : Int)) rfl rfl rfl) ?_
  refine ro_nil ?_
  refine wp_if (b := ((a_1.len : Int) != (b_2.len : Int))) rfl h (fun hb17 h => ?_) (fun hb17 h => ?_)
  · refine wp_seq ?_
    refine wp_text [0] rfl ?_
    refine ro_val (d := (some 4)) rfl (.free rfl) rfl (q_assign (v := .bool (false)) rfl rfl) ?_
    refine ro_nil ?_
    refine wp_ret ?_
    exact ret_ok rfl (.cons (.tmp (v := .bool (false)) rfl) .nil) ⟨false, rfl, h⟩
  · refine wp_skip ?_
    refine wp_seq ?_
    refine wp_seq ?_
    refine wp_text [0] rfl ?_
    refine ro_val (d := (some 5)) rfl (.free rfl) rfl (q_assign (v := .int .i64 ((0 : Int))) rfl rfl) ?_
    refine ro_nil ?_
    refine wp_block ?_
    refine loop_at (σ := Int) (fr := fun g (s : Int) => upd (upd (upd (g) 0 (tSlc.enc (a_1))) 1 (tSlc.enc (b_2))) 5 (.int .i64 (s))) (s0 := ((0 : Int))) (upd_step (upd_step (upd_step rfl rfl) rfl) rfl) h ?_
    rintro i_3 g w4 K5 h
    unfold F16_l1 at h
    refine wp_seq ?_
    refine wp_seq ?_
    refine wp_text [0, 1, 2, 3] rfl ?_
    refine ro_val (d := (some 11)) rfl (.free rfl) rfl (q_move (v := .int .i64 (i_3)) rfl rfl) ?_
    refine ro_val (d := (some 12)) rfl (.free rfl) rfl (q_move (v := tSlc.enc (a_1)) rfl rfl) ?_
    refine ro_val (d := (some 13)) rfl (.free rfl) rfl (q_len (s := a_1) rfl Try.underlying31 rfl) ?_
    refine ro_val (d := (some 14)) rfl (.free rfl) rfl (q_lss (a := i_3) (b := (a_1.len : Int)) rfl rfl rfl) ?_
    refine ro_nil ?_
    refine wp_if (b := (decide (i_3 < (a_1.len : Int)))) rfl h (fun hb16 h => ?_) (fun hb16 h => ?_)
    · refine wp_skip ?_
      refine wp_seq ?_
      refine wp_block ?_
      refine wp_seq ?_
      obtain ⟨w6, hw6, h⟩ := dr_open h
      refine wp_drawn 24 mixed rfl (by kernel_rfl) (by intro c a d v w h; cases d <;> exact h) hw6 (fun hD => ?_)
      refine rd_pure (i := 0) (d := (some 17)) hD (by kernel_rfl) (by kernel_rfl) rfl (.free rfl) rfl (fun _ => q_move (v := tSlc.enc (a_1)) rfl rfl) ?_
      refine rd_pure (i := 1) (d := (some 18)) hD (by kernel_rfl) (by kernel_rfl) rfl (.free rfl) rfl (fun _ => q_move (v := .int .i64 (i_3)) rfl rfl) ?_
      obtain ⟨a7, ha7, h⟩ := h
      refine rd_pure (i := 2) (d := (some 19)) hD (by kernel_rfl) (by kernel_rfl) rfl (.free rfl) rfl (fun _ => q_indexAddr (s := a_1) (i := i_3) rfl Try.underlying31 ok37 rfl rfl ha7) ?_
      refine rd_pure (i := 3) (d := (some 20)) hD (by kernel_rfl) (by kernel_rfl) rfl (.free rfl) rfl (fun _ => q_fieldAddr (a := a7) (off := 0) rfl Try.underlying37 rfl rfl ok3 (by decide) rfl) ?_
      refine rd_pure (i := 5) (d := (some 22)) hD (by kernel_rfl) (by kernel_rfl) rfl (.free rfl) rfl (fun _ => q_move (v := tSlc.enc (b_2)) rfl rfl) ?_
      refine rd_pure (i := 6) (d := (some 23)) hD (by kernel_rfl) (by kernel_rfl) rfl (.free rfl) rfl (fun _ => q_move (v := .int .i64 (i_3)) rfl rfl) ?_
      obtain ⟨a8, ha8, h⟩ := h
      refine rd_pure (i := 7) (d := (some 24)) hD (by kernel_rfl) (by kernel_rfl) rfl (.free rfl) rfl (fun _ => q_indexAddr (s := b_2) (i := i_3) rfl Try.underlying31 ok37 rfl rfl ha8) ?_
      refine rd_pure (i := 8) (d := (some 25)) hD (by kernel_rfl) (by kernel_rfl) rfl (.free rfl) rfl (fun _ => q_fieldAddr (a := a8) (off := 0) rfl Try.underlying37 rfl rfl ok3 (by decide) rfl) ?_
      obtain ⟨x9, hx9, h⟩ := h
      refine rd_read (i := 4) (d := (some 21)) (fun W => (RdAt (tInt .i64) (a7.add 0) W) x9) hD (by kernel_rfl) (by kernel_rfl) rfl (.free rfl) rfl (fun W hr => q_load (T := (tInt .i64)) (u := x9) (a := (a7.add 0)) rfl ok3 rfl hr) hx9 ?_
      obtain ⟨x10, hx10, h⟩ := h
      refine rd_read (i := 9) (d := (some 26)) (fun W => (RdAt (tInt .i64) (a8.add 0) W) x10) hD (by kernel_rfl) (by kernel_rfl) rfl (.free rfl) rfl (fun W hr => q_load (T := (tInt .i64)) (u := x10) (a := (a8.add 0)) rfl ok3 rfl hr) hx10 ?_
      refine rd_pure (i := 10) (d := (some 27)) hD (by kernel_rfl) (by kernel_rfl) rfl (.free rfl) rfl (fun _ => q_neq (a := x9) (b := x10) rfl rfl rfl) ?_
      refine rd_pure (i := 11) (d := (some 28)) hD (by kernel_rfl) (by kernel_rfl) rfl (.free rfl) rfl (fun _ => q_move (v := .bool ((x9 != x10))) rfl rfl) ?_
      refine rd_gpure (i := 12) (g := (!(x9 != x10))) (d := (some 29)) hD (by kernel_rfl) (by kernel_rfl) rfl (.no 11 28 true (x9 != x10) rfl rfl rfl rfl) rfl (fun hg _ => q_move (v := tSlc.enc (a_1)) rfl rfl) ?_
      refine rd_gpure (i := 13) (g := (!(x9 != x10))) (d := (some 30)) hD (by kernel_rfl) (by kernel_rfl) rfl (.no 11 28 true (x9 != x10) rfl rfl rfl rfl) rfl (fun hg _ => q_move (v := .int .i64 (i_3)) rfl rfl) ?_
      obtain ⟨a11, ha11, h⟩ := h
      refine rd_gpure (i := 14) (g := (!(x9 != x10))) (d := (some 31)) hD (by kernel_rfl) (by kernel_rfl) rfl (.no 11 28 true (x9 != x10) rfl rfl rfl rfl) rfl (fun hg _ => q_indexAddr (s := a_1) (i := i_3) rfl Try.underlying31 ok37 (gvb_yes hg) (gvb_yes hg) (ha11 hg)) ?_
      refine rd_gpure (i := 15) (g := (!(x9 != x10))) (d := (some 32)) hD (by kernel_rfl) (by kernel_rfl) rfl (.no 11 28 true (x9 != x10) rfl rfl rfl rfl) rfl (fun hg _ => q_fieldAddr (a := a11) (off := 1) rfl Try.underlying37 rfl rfl ok2 (by decide) (gvb_yes hg)) ?_
      refine rd_gpure (i := 17) (g := (!(x9 != x10))) (d := (some 34)) hD (by kernel_rfl) (by kernel_rfl) rfl (.no 11 28 true (x9 != x10) rfl rfl rfl rfl) rfl (fun hg _ => q_move (v := tSlc.enc (b_2)) rfl rfl) ?_
      refine rd_gpure (i := 18) (g := (!(x9 != x10))) (d := (some 35)) hD (by kernel_rfl) (by kernel_rfl) rfl (.no 11 28 true (x9 != x10) rfl rfl rfl rfl) rfl (fun hg _ => q_move (v := .int .i64 (i_3)) rfl rfl) ?_
      obtain ⟨a12, ha12, h⟩ := h
      refine rd_gpure (i := 19) (g := (!(x9 != x10))) (d := (some 36)) hD (by kernel_rfl) (by kernel_rfl) rfl (.no 11 28 true (x9 != x10) rfl rfl rfl rfl) rfl (fun hg _ => q_indexAddr (s := b_2) (i := i_3) rfl Try.underlying31 ok37 (gvb_yes hg) (gvb_yes hg) (ha12 hg)) ?_
      refine rd_gpure (i := 20) (g := (!(x9 != x10))) (d := (some 37)) hD (by kernel_rfl) (by kernel_rfl) rfl (.no 11 28 true (x9 != x10) rfl rfl rfl rfl) rfl (fun hg _ => q_fieldAddr (a := a12) (off := 1) rfl Try.underlying37 rfl rfl ok2 (by decide) (gvb_yes hg)) ?_
      obtain ⟨x13, hx13, h⟩ := h
      refine rd_gread (i := 16) (g := (!(x9 != x10))) (d := (some 33)) (fun W => (RdAt (tInt .i64) (a11.add 1) W) x13) hD (by kernel_rfl) (by kernel_rfl) rfl (.no 11 28 true (x9 != x10) rfl rfl rfl rfl) rfl (fun hg W hr => q_load (T := (tInt .i64)) (u := x13) (a := (a11.add 1)) rfl ok2 (gvb_yes hg) hr) hx13 ?_
      obtain ⟨x14, hx14, h⟩ := h
      refine rd_gread (i := 21) (g := (!(x9 != x10))) (d := (some 38)) (fun W => (RdAt (tInt .i64) (a12.add 1) W) x14) hD (by kernel_rfl) (by kernel_rfl) rfl (.no 11 28 true (x9 != x10) rfl rfl rfl rfl) rfl (fun hg W hr => q_load (T := (tInt .i64)) (u := x14) (a := (a12.add 1)) rfl ok2 (gvb_yes hg) hr) hx14 ?_
      refine rd_gpure (i := 22) (g := (!(x9 != x10))) (d := (some 39)) hD (by kernel_rfl) (by kernel_rfl) rfl (.no 11 28 true (x9 != x10) rfl rfl rfl rfl) rfl (fun hg _ => q_neq (a := x13) (b := x14) rfl (gvb_yes hg) (gvb_yes hg)) ?_
      refine rd_pure (i := 23) (d := (some 40)) hD (by kernel_rfl) (by kernel_rfl) rfl (.free rfl) rfl (fun _ => q_pickGF (a := (x9 != x10)) (c := (x13 != x14)) rfl rfl rfl rfl) ?_
      refine rd_nil (by kernel_rfl) ?_
      refine wp_if (b := ((x9 != x10) || (x13 != x14))) rfl h (fun hb15 h => ?_) (fun hb15 h => ?_)
      · refine wp_seq ?_
        refine wp_text [0] rfl ?_
        refine ro_val (d := (some 4)) rfl (.free rfl) rfl (q_assign (v := .bool (false)) rfl rfl) ?_
        refine ro_nil ?_
        refine wp_ret ?_
        exact ret_ok rfl (.cons (.tmp (v := .bool (false)) rfl) .nil) ⟨false, rfl, h⟩
      · refine wp_skip ?_
        refine wp_text [0, 1, 2] rfl ?_
        refine ro_val (d := (some 15)) rfl (.free rfl) rfl (q_move (v := .int .i64 (i_3)) rfl rfl) ?_
        refine ro_val (d := (some 16)) rfl (.free rfl) rfl (q_add (a := i_3) (b := (1 : Int)) rfl rfl rfl) ?_
        refine ro_val (d := (some 5)) rfl (.free rfl) rfl (q_assign (v := .int .i64 ((IntKind.i64.wrap (i_3 + (1 : Int))))) rfl rfl) ?_
        refine ro_nil ?_
        exact ⟨((IntKind.i64.wrap (i_3 + (1 : Int)))), _, arr (upd_step (upd_step (upd_step rfl rfl) rfl) rfl), h⟩
    · refine wp_exit ?_
      refine wp_seq ?_
      refine wp_text [0] rfl ?_
      refine ro_val (d := (some 4)) rfl (.free rfl) rfl (q_assign (v := .bool (true)) rfl rfl) ?_
      refine ro_nil ?_
      refine wp_ret ?_
      exact ret_ok rfl (.cons (.tmp (v := .bool (true)) rfl) .nil) ⟨true, rfl, h⟩

-- moiety/audit.Diff
def F17_l4 (a_1 : Slc) (m12 : Nat) (t_24 : Int) (w25 : World) (K26 : Int → World → Prop) (R : (Slc × Int) → World → Prop) : Prop :=
  if (decide (t_24 < (a_1.len : Int))) = true then (
    ex (IxA a_1 2 t_24) fun a27 =>
    ex (RdAt T36 a27 w25) fun x28 =>
    nw 37 T36 Z36 w25 fun a29 w30 =>
    st T36 a29 x28 w30 fun w31 =>
    ex (RdAt (tInt .i64) (a29.add 0) w31) fun x32 =>
    ex (MapGet (tInt .i64) .i64 (some m12) x32 w31) fun m33 =>
    ex (RdAt (tInt .i64) (a29.add 1) w31) fun x34 =>
    mput (tInt .i64) .i64 (some m12) x32 (IntKind.i64.wrap ((m33.getD (0 : Int)) - x34)) w31 fun w35 =>
    K26 ((IntKind.i64.wrap (t_24 + (1 : Int)))) w35
  ) else (
    cl Try.prog 26 [.map ((some m12)), ((Fv.mk (.func 27) #[] #[])).enc] tUnit w25 fun r37 w36 =>
    cl Try.prog 22 [.map ((some m12))] tSlc w36 fun r39 w38 =>
    R (r39, (0 : Int)) w38
  )
def F17_l3 (a_1 : Slc) (b_2 : Slc) (m12 : Nat) (t_13 : Int) (w14 : World) (K15 : Int → World → Prop) (R : (Slc × Int) → World → Prop) : Prop :=
  if (decide (t_13 < (b_2.len : Int))) = true then (
    ex (IxA b_2 2 t_13) fun a16 =>
    ex (RdAt T36 a16 w14) fun x17 =>
    nw 37 T36 Z36 w14 fun a18 w19 =>
    st T36 a18 x17 w19 fun w20 =>
    ex (RdAt (tInt .i64) (a18.add 0) w20) fun x21 =>
    ex (RdAt (tInt .i64) (a18.add 1) w20) fun x22 =>
    mput (tInt .i64) .i64 (some m12) x21 x22 w20 fun w23 =>
    K15 ((IntKind.i64.wrap (t_13 + (1 : Int)))) w23
  ) else (
    lp (fun (s : Int) w K => F17_l4 a_1 m12 s w K R) ((0 : Int)) w14
  )
def F17_j2 (a_1 : Slc) (b_2 : Slc) (t_9 : Bool) (w10 : World) (R : (Slc × Int) → World → Prop) : Prop :=
  if t_9 = true then (
    R ((⟨none, 0, 0⟩ : Slc), (183 : Int)) w10
  ) else (
    nwMap w10 fun m12 w11 =>
    lp (fun (s : Int) w K => F17_l3 a_1 b_2 m12 s w K R) ((0 : Int)) w11
  )
def F17_j1 (a_1 : Slc) (b_2 : Slc) (t_5 : Bool) (w6 : World) (R : (Slc × Int) → World → Prop) : Prop :=
  if t_5 = true then (
    R ((⟨none, 0, 0⟩ : Slc), (185 : Int)) w6
  ) else (
    cl Try.prog 25 [tSlc.enc (a_1)] tBool w6 fun r8 w7 =>
    if (!r8) = true then (
      F17_j2 a_1 b_2 true w7 R
    ) else (
      cl Try.prog 25 [tSlc.enc (b_2)] tBool w7 fun r45 w44 =>
      F17_j2 a_1 b_2 (!r45) w44 R
    )
  )
def F17 (a_1 : Slc) (b_2 : Slc) (w : World) (R : (Slc × Int) → World → Prop) : Prop :=
  cl Try.prog 24 [tSlc.enc (a_1)] tBool w fun r4 w3 =>
  if (!r4) = true then (
    F17_j1 a_1 b_2 true w3 R
  ) else (
    cl Try.prog 24 [tSlc.enc (b_2)] tBool w3 fun r49 w48 =>
    F17_j1 a_1 b_2 (!r49) w48 R
  )
theorem F17_ok {a_1 : Slc} {b_2 : Slc} {w : World} {R : (Slc × Int) → World → Prop} (h : F17 a_1 b_2 w R) : cl Try.prog 17 [tSlc.enc (a_1), tSlc.enc (b_2)] (tTup2 tSlc (tInt .i64)) w R := by
  unfold F17 at h
  refine calls_start 60 Try.func17 rfl rfl (Nat.le_of_ble_eq_true rfl) ?_
  refine wp_seq ?_
  refine wp_text [0, 1] rfl ?_
  refine ro_val (d := (some 4)) rfl (.free rfl) rfl (q_assign (v := tSlc.enc ((⟨none, 0, 0⟩ : Slc))) rfl rfl) ?_
  refine ro_val (d := (some 5)) rfl (.free rfl) rfl (q_assign (v := .int .i64 ((0 : Int))) rfl rfl) ?_
  refine ro_nil ?_
  refine wp_seq ?_
  refine wp_block ?_
  refine wp_seq ?_
  refine wp_text [0, 1, 2, 3, 4, 5, 6, 7, 8] rfl ?_
  refine ro_val (d := (some 12)) rfl (.free rfl) rfl (q_move (v := tSlc.enc (a_1)) rfl rfl) ?_
  refine ro_wp rfl (.free rfl) (wp_cl (d := (some 13)) rfl (q_call (k := 24) (l := [tSlc.enc (a_1)]) rfl ent24 rfl) h ?_)
  intro r4 w3 h
  refine ro_val (d := (some 14)) rfl (.free rfl) rfl (q_not (b := r4) rfl rfl) ?_
  refine ro_val (d := (some 15)) rfl (.free rfl) rfl (q_move (v := .bool ((!r4))) rfl rfl) ?_
  refine ro_join (σ := Bool) (J := fun (s : Bool) w => F17_j1 a_1 b_2 s w R) (fr := fun g (s : Bool) => upd (upd (upd (g) 0 (tSlc.enc (a_1))) 1 (tSlc.enc (b_2))) 19 (.bool (s))) [4, 5, 6, 7] [8] ?_ ?_
  · rintro t_5 g w6 h
    unfold F17_j1 at h
    refine ro_val (d := (some 11)) rfl (.free rfl) rfl (q_assign (v := .bool (t_5)) rfl rfl) ?_
    refine ro_nil ?_
    refine wp_if (b := t_5) rfl h (fun hb46 h => ?_) (fun hb46 h => ?_)
    · refine wp_seq ?_
      refine wp_text [0, 1] rfl ?_
      refine ro_val (d := (some 4)) rfl (.free rfl) rfl (q_assign (v := tSlc.enc ((⟨none, 0, 0⟩ : Slc))) rfl rfl) ?_
      refine ro_val (d := (some 5)) rfl (.free rfl) rfl (q_assign (v := .int .i64 ((185 : Int))) rfl rfl) ?_
      refine ro_nil ?_
      refine wp_ret ?_
      exact ret_ok rfl (.cons (.tmp (v := tSlc.enc ((⟨none, 0, 0⟩ : Slc))) rfl) (.cons (.tmp (v := .int .i64 ((185 : Int))) rfl) .nil)) ⟨((⟨none, 0, 0⟩ : Slc), (185 : Int)), rfl, h⟩
    · refine wp_seq ?_
      refine wp_text [0, 1, 2, 3, 4, 5, 6, 7, 8] rfl ?_
      refine ro_val (d := (some 21)) rfl (.free rfl) rfl (q_move (v := tSlc.enc (a_1)) rfl rfl) ?_
      refine ro_wp rfl (.free rfl) (wp_cl (d := (some 22)) rfl (q_call (k := 25) (l := [tSlc.enc (a_1)]) rfl ent25 rfl) h ?_)
      intro r8 w7 h
      refine ro_val (d := (some 23)) rfl (.free rfl) rfl (q_not (b := r8) rfl rfl) ?_
      refine ro_val (d := (some 24)) rfl (.free rfl) rfl (q_move (v := .bool ((!r8))) rfl rfl) ?_
      refine ro_join (σ := Bool) (J := fun (s : Bool) w => F17_j2 a_1 b_2 s w R) (fr := fun g (s : Bool) => upd (upd (upd (g) 0 (tSlc.enc (a_1))) 1 (tSlc.enc (b_2))) 28 (.bool (s))) [4, 5, 6, 7] [8] ?_ ?_
      · rintro t_9 g w10 h
        unfold F17_j2 at h
        refine ro_val (d := (some 20)) rfl (.free rfl) rfl (q_assign (v := .bool (t_9)) rfl rfl) ?_
        refine ro_nil ?_
        refine wp_if (b := t_9) rfl h (fun hb42 h => ?_) (fun hb42 h => ?_)
        · refine wp_seq ?_
          refine wp_text [0, 1] rfl ?_
          refine ro_val (d := (some 4)) rfl (.free rfl) rfl (q_assign (v := tSlc.enc ((⟨none, 0, 0⟩ : Slc))) rfl rfl) ?_
          refine ro_val (d := (some 5)) rfl (.free rfl) rfl (q_assign (v := .int .i64 ((183 : Int))) rfl rfl) ?_
          refine ro_nil ?_
          refine wp_ret ?_
          exact ret_ok rfl (.cons (.tmp (v := tSlc.enc ((⟨none, 0, 0⟩ : Slc))) rfl) (.cons (.tmp (v := .int .i64 ((183 : Int))) rfl) .nil)) ⟨((⟨none, 0, 0⟩ : Slc), (183 : Int)), rfl, h⟩
        · refine wp_skip ?_
          refine wp_seq ?_
          refine wp_text [0, 1] rfl ?_
          obtain ⟨m12, w11, hm12, hw11, h⟩ := nwMap_open h
          refine ro_val (d := (some 29)) rfl (.free rfl) rfl (q_makeMap rfl hm12 hw11) ?_
          refine ro_val (d := (some 6)) rfl (.free rfl) rfl (q_assign (v := .map ((some m12))) rfl rfl) ?_
          refine ro_nil ?_
          refine wp_seq ?_
          refine wp_seq ?_
          refine wp_text [0, 1, 2] rfl ?_
          refine ro_val (d := (some 30)) rfl (.free rfl) rfl (q_move (v := tSlc.enc (b_2)) rfl rfl) ?_
          refine ro_val (d := (some 31)) rfl (.free rfl) rfl (q_len (s := b_2) rfl Try.underlying31 rfl) ?_
          refine ro_val (d := (some 32)) rfl (.free rfl) rfl (q_move (v := .int .i64 ((0 : Int))) rfl rfl) ?_
          refine ro_nil ?_
          refine wp_block ?_
          refine loop_at (σ := Int) (fr := fun g (s : Int) => upd (upd (upd (upd (upd (g) 0 (tSlc.enc (a_1))) 6 (.map ((some m12)))) 30 (tSlc.enc (b_2))) 31 (.int .i64 ((b_2.len : Int)))) 32 (.int .i64 (s))) (s0 := ((0 : Int))) (upd_step (upd_step (upd_step (upd_step (upd_step rfl rfl) rfl) rfl) rfl) rfl) h ?_
          rintro t_13 g w14 K15 h
          unfold F17_l3 at h
          refine wp_seq ?_
          refine wp_text [0] rfl ?_
          refine ro_val (d := (some 33)) rfl (.free rfl) rfl (q_lss (a := t_13) (b := (b_2.len : Int)) rfl rfl rfl) ?_
          refine ro_nil ?_
          refine wp_seq ?_
          refine wp_if (b := (decide (t_13 < (b_2.len : Int)))) rfl h (fun hb41 h => ?_) (fun hb41 h => ?_)
          · refine wp_skip ?_
            refine wp_seq ?_
            refine wp_block ?_
            refine wp_seq ?_
            refine wp_text [0, 1, 2, 3] rfl ?_
            obtain ⟨a16, ha16, h⟩ := h
            refine ro_val (d := (some 34)) rfl (.free rfl) rfl (q_indexAddr (s := b_2) (i := t_13) rfl Try.underlying31 ok37 rfl rfl ha16) ?_
            obtain ⟨x17, hx17, h⟩ := h
            refine ro_val (d := (some 35)) rfl (.free rfl) rfl (q_load (T := T36) (u := x17) (a := a16) rfl ok37 rfl hx17) ?_
            obtain ⟨a18, w19, ha18, hw19, h⟩ := nw_open h
            refine ro_val (d := (some 8)) rfl (.free rfl) rfl (q_alloc (u := Z36) rfl ok37 inf37 ha18 hw19) ?_
            obtain ⟨w20, hw20, hrw20, h⟩ := st_open h
            refine ro_skip (d := none) rfl (.free rfl) rfl (q_store (T := T36) (u := x17) (a := a18) rfl ok37 rfl rfl hrw20 hw20) ?_
            refine ro_nil ?_
            refine wp_text [0, 1, 2, 3, 4, 5] rfl ?_
            refine ro_val (d := (some 36)) rfl (.free rfl) rfl (q_move (v := .map ((some m12))) rfl rfl) ?_
            refine ro_val (d := (some 37)) rfl (.free rfl) rfl (q_fieldAddr (a := a18) (off := 0) rfl Try.underlying37 rfl rfl ok3 (by decide) rfl) ?_
            obtain ⟨x21, hx21, h⟩ := h
            refine ro_val (d := (some 38)) rfl (.free rfl) rfl (q_load (T := (tInt .i64)) (u := x21) (a := (a18.add 0)) rfl ok3 rfl hx21) ?_
            refine ro_val (d := (some 39)) rfl (.free rfl) rfl (q_fieldAddr (a := a18) (off := 1) rfl Try.underlying37 rfl rfl ok2 (by decide) rfl) ?_
            obtain ⟨x22, hx22, h⟩ := h
            refine ro_val (d := (some 40)) rfl (.free rfl) rfl (q_load (T := (tInt .i64)) (u := x22) (a := (a18.add 1)) rfl ok2 rfl hx22) ?_
            refine ro_wp rfl (.free rfl) (wp_mput (T := (tInt .i64)) (r := (some m12)) (key := x21) (v := x22) (d := none) rfl (.inl rfl) Try.underlying43 Try.underlying3 rfl rfl rfl h ?_)
            intro w23 h
            refine ro_nil ?_
            refine wp_text [0, 1] rfl ?_
            refine ro_val (d := (some 41)) rfl (.free rfl) rfl (q_add (a := t_13) (b := (1 : Int)) rfl rfl rfl) ?_
            refine ro_val (d := (some 32)) rfl (.free rfl) rfl (q_move (v := .int .i64 ((IntKind.i64.wrap (t_13 + (1 : Int))))) rfl rfl) ?_
            refine ro_nil ?_
            exact ⟨((IntKind.i64.wrap (t_13 + (1 : Int)))), _, arr (upd_step (upd_step (upd_step (upd_step (upd_step rfl rfl) rfl) rfl) rfl) rfl), h⟩
          · refine wp_exit ?_
            refine wp_seq ?_
            refine wp_seq ?_
            refine wp_text [0, 1, 2] rfl ?_
            refine ro_val (d := (some 42)) rfl (.free rfl) rfl (q_move (v := tSlc.enc (a_1)) rfl rfl) ?_
            refine ro_val (d := (some 43)) rfl (.free rfl) rfl (q_len (s := a_1) rfl Try.underlying31 rfl) ?_
            refine ro_val (d := (some 44)) rfl (.free rfl) rfl (q_move (v := .int .i64 ((0 : Int))) rfl rfl) ?_
            refine ro_nil ?_
            refine wp_block ?_
            refine loop_at (σ := Int) (fr := fun g (s : Int) => upd (upd (upd (upd (g) 6 (.map ((some m12)))) 42 (tSlc.enc (a_1))) 43 (.int .i64 ((a_1.len : Int)))) 44 (.int .i64 (s))) (s0 := ((0 : Int))) (upd_step (upd_step (upd_step (upd_step rfl rfl) rfl) rfl) rfl) h ?_
            rintro t_24 g w25 K26 h
            unfold F17_l4 at h
            refine wp_seq ?_
            refine wp_text [0] rfl ?_
            refine ro_val (d := (some 45)) rfl (.free rfl) rfl (q_lss (a := t_24) (b := (a_1.len : Int)) rfl rfl rfl) ?_
            refine ro_nil ?_
            refine wp_seq ?_
            refine wp_if (b := (decide (t_24 < (a_1.len : Int)))) rfl h (fun hb40 h => ?_) (fun hb40 h => ?_)
            · refine wp_skip ?_
              refine wp_seq ?_
              refine wp_block ?_
              refine wp_seq ?_
              refine wp_text [0, 1, 2, 3] rfl ?_
              obtain ⟨a27, ha27, h⟩ := h
              refine ro_val (d := (some 46)) rfl (.free rfl) rfl (q_indexAddr (s := a_1) (i := t_24) rfl Try.underlying31 ok37 rfl rfl ha27) ?_
              obtain ⟨x28, hx28, h⟩ := h
              refine ro_val (d := (some 47)) rfl (.free rfl) rfl (q_load (T := T36) (u := x28) (a := a27) rfl ok37 rfl hx28) ?_
              obtain ⟨a29, w30, ha29, hw30, h⟩ := nw_open h
              refine ro_val (d := (some 10)) rfl (.free rfl) rfl (q_alloc (u := Z36) rfl ok37 inf37 ha29 hw30) ?_
              obtain ⟨w31, hw31, hrw31, h⟩ := st_open h
              refine ro_skip (d := none) rfl (.free rfl) rfl (q_store (T := T36) (u := x28) (a := a29) rfl ok37 rfl rfl hrw31 hw31) ?_
              refine ro_nil ?_
              refine wp_text [0, 1, 2, 3, 4, 5, 6, 7] rfl ?_
              refine ro_val (d := (some 48)) rfl (.free rfl) rfl (q_move (v := .map ((some m12))) rfl rfl) ?_
              refine ro_val (d := (some 49)) rfl (.free rfl) rfl (q_fieldAddr (a := a29) (off := 0) rfl Try.underlying37 rfl rfl ok3 (by decide) rfl) ?_
              obtain ⟨x32, hx32, h⟩ := h
              refine ro_val (d := (some 50)) rfl (.free rfl) rfl (q_load (T := (tInt .i64)) (u := x32) (a := (a29.add 0)) rfl ok3 rfl hx32) ?_
              obtain ⟨m33, hm33, h⟩ := h
              refine ro_val (d := (some 51)) rfl (.free rfl) rfl (q_lookup (T := (tInt .i64)) (r := (some m12)) (key := x32) (u := m33) (z := (0 : Int)) rfl Try.underlying43 Try.underlying3 (inf2) rfl rfl hm33) ?_
              refine ro_val (d := (some 52)) rfl (.free rfl) rfl (q_fieldAddr (a := a29) (off := 1) rfl Try.underlying37 rfl rfl ok2 (by decide) rfl) ?_
              obtain ⟨x34, hx34, h⟩ := h
              refine ro_val (d := (some 53)) rfl (.free rfl) rfl (q_load (T := (tInt .i64)) (u := x34) (a := (a29.add 1)) rfl ok2 rfl hx34) ?_
              refine ro_val (d := (some 54)) rfl (.free rfl) rfl (q_sub (a := (m33.getD (0 : Int))) (b := x34) rfl rfl rfl) ?_
              refine ro_wp rfl (.free rfl) (wp_mput (T := (tInt .i64)) (r := (some m12)) (key := x32) (v := (IntKind.i64.wrap ((m33.getD (0 : Int)) - x34))) (d := none) rfl (.inl rfl) Try.underlying43 Try.underlying3 rfl rfl rfl h ?_)
              intro w35 h
              refine ro_nil ?_
              refine wp_text [0, 1] rfl ?_
              refine ro_val (d := (some 55)) rfl (.free rfl) rfl (q_add (a := t_24) (b := (1 : Int)) rfl rfl rfl) ?_
              refine ro_val (d := (some 44)) rfl (.free rfl) rfl (q_move (v := .int .i64 ((IntKind.i64.wrap (t_24 + (1 : Int))))) rfl rfl) ?_
              refine ro_nil ?_
              exact ⟨((IntKind.i64.wrap (t_24 + (1 : Int)))), _, arr (upd_step (upd_step (upd_step (upd_step rfl rfl) rfl) rfl) rfl), h⟩
            · refine wp_exit ?_
              refine wp_seq ?_
              refine wp_text [0, 1] rfl ?_
              refine ro_val (d := (some 56)) rfl (.free rfl) rfl (q_move (v := .map ((some m12))) rfl rfl) ?_
              refine ro_wp rfl (.free rfl) (wp_cl (d := (some 57)) rfl (q_call (k := 26) (l := [.map ((some m12)), ((Fv.mk (.func 27) #[] #[])).enc]) rfl ent26 rfl) h ?_)
              intro r37 w36 h
              refine ro_nil ?_
              refine wp_seq ?_
              refine wp_text [0, 1, 2, 3] rfl ?_
              refine ro_val (d := (some 58)) rfl (.free rfl) rfl (q_move (v := .map ((some m12))) rfl rfl) ?_
              refine ro_wp rfl (.free rfl) (wp_cl (d := (some 59)) rfl (q_call (k := 22) (l := [.map ((some m12))]) rfl ent22 rfl) h ?_)
              intro r39 w38 h
              refine ro_val (d := (some 4)) rfl (.free rfl) rfl (q_assign (v := tSlc.enc (r39)) rfl rfl) ?_
              refine ro_val (d := (some 5)) rfl (.free rfl) rfl (q_assign (v := .int .i64 ((0 : Int))) rfl rfl) ?_
              refine ro_nil ?_
              refine wp_ret ?_
              exact ret_ok rfl (.cons (.tmp (v := tSlc.enc (r39)) rfl) (.cons (.tmp (v := .int .i64 ((0 : Int))) rfl) .nil)) ⟨(r39, (0 : Int)), rfl, h⟩
      · refine ro_if (b := (!r8)) h (fun hb43 h => ?_) (fun hb43 h => ?_)
        · refine ro_bar (d := (some 25)) rfl (.by_ 3 false 24 (!r8) rfl rfl rfl hb43) rfl ?_
          refine ro_bar (d := (some 26)) rfl (.by_ 3 false 24 (!r8) rfl rfl rfl hb43) rfl ?_
          refine ro_bar (d := (some 27)) rfl (.by_ 3 false 24 (!r8) rfl rfl rfl hb43) rfl ?_
          refine ro_val (d := (some 28)) rfl (.free rfl) rfl (q_pickT (v := .bool (true)) (b := (!r8)) rfl rfl hb43 rfl) ?_
          refine ro_nil ?_
          exact ⟨(true), _, arr (upd_step (upd_step (upd_step rfl rfl) rfl) rfl), h⟩
        · refine ro_val (d := (some 25)) rfl (.by_ 3 false 24 (!r8) rfl rfl rfl hb43) rfl (q_move (v := tSlc.enc (b_2)) rfl rfl) ?_
          refine ro_wp rfl (.by_ 3 false 24 (!r8) rfl rfl rfl hb43) (wp_cl (d := (some 26)) rfl (q_call (k := 25) (l := [tSlc.enc (b_2)]) rfl ent25 rfl) h ?_)
          intro r45 w44 h
          refine ro_val (d := (some 27)) rfl (.by_ 3 false 24 (!r8) rfl rfl rfl hb43) rfl (q_not (b := r45) rfl rfl) ?_
          refine ro_val (d := (some 28)) rfl (.free rfl) rfl (q_pickF (v := .bool ((!r45))) (b := (!r8)) rfl rfl hb43 rfl) ?_
          refine ro_nil ?_
          exact ⟨((!r45)), _, arr (upd_step (upd_step (upd_step rfl rfl) rfl) rfl), h⟩
  · refine ro_if (b := (!r4)) h (fun hb47 h => ?_) (fun hb47 h => ?_)
    · refine ro_bar (d := (some 16)) rfl (.by_ 3 false 15 (!r4) rfl rfl rfl hb47) rfl ?_
      refine ro_bar (d := (some 17)) rfl (.by_ 3 false 15 (!r4) rfl rfl rfl hb47) rfl ?_
      refine ro_bar (d := (some 18)) rfl (.by_ 3 false 15 (!r4) rfl rfl rfl hb47) rfl ?_
      refine ro_val (d := (some 19)) rfl (.free rfl) rfl (q_pickT (v := .bool (true)) (b := (!r4)) rfl rfl hb47 rfl) ?_
      refine ro_nil ?_
      exact ⟨(true), _, arr (upd_step (upd_step (upd_step rfl rfl) rfl) rfl), h⟩
    · refine ro_val (d := (some 16)) rfl (.by_ 3 false 15 (!r4) rfl rfl rfl hb47) rfl (q_move (v := tSlc.enc (b_2)) rfl rfl) ?_
      refine ro_wp rfl (.by_ 3 false 15 (!r4) rfl rfl rfl hb47) (wp_cl (d := (some 17)) rfl (q_call (k := 24) (l := [tSlc.enc (b_2)]) rfl ent24 rfl) h ?_)
      intro r49 w48 h
      refine ro_val (d := (some 18)) rfl (.by_ 3 false 15 (!r4) rfl rfl rfl hb47) rfl (q_not (b := r49) rfl rfl) ?_
      refine ro_val (d := (some 19)) rfl (.free rfl) rfl (q_pickF (v := .bool ((!r49))) (b := (!r4)) rfl rfl hb47 rfl) ?_
      refine ro_nil ?_
      exact ⟨((!r49)), _, arr (upd_step (upd_step (upd_step rfl rfl) rfl) rfl), h⟩

end Go.Proofs.Ytleehieomicicaa.Cf
