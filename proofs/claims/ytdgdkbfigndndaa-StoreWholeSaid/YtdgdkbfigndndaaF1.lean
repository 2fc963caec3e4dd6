/- Characteristic formulae of Go functions, and that they are. Printed by gen.py (own tool). -/
import Derived.Test.YtdgdkbfigndndaaTy
namespace Go.Proofs.Ytdgdkbfigndndaa.Cf
open Go
set_option maxRecDepth 100000
set_option maxHeartbeats 1000000
set_option linter.unusedVariables false
set_option linter.unusedSimpArgs false

-- moiety/moietylaw12.StoreWhole
def F5_l3 (at_3 : Int) (a4 : Addr) (r7 : (Option Addr)) (a13 : Addr) (i_24 : Int) (w25 : World) (K26 : Int → World → Prop) (R : Bool → World → Prop) : Prop :=
  ex (RdAt tSlc (a13.add 3) w25) fun x27 =>
  if (decide (i_24 < (x27.len : Int))) = true then (
    ex (RdAt tSlc (a13.add 3) w25) fun x28 =>
    ex (IxA x28 2 i_24) fun a29 =>
    ex (RdAt (tInt .i64) (a29.add 0) w25) fun x30 =>
    cl Try.prog 25 [.pointer (r7), .int .i64 (x30), .int .i64 (at_3)] (tTup2 T35 (tInt .i64)) w25 fun r32 w31 =>
    nw 36 T35 Z35 w31 fun a33 w34 =>
    st T35 a33 r32.1 w34 fun w35 =>
    ex (fun x => (r32.2 == (0 : Int)) = true → (RdAt (tInt .i64) (a33.add 0) w35) x) fun x36 =>
    ex (fun x => (r32.2 == (0 : Int)) = true → (RdAt (tInt .i64) (a4.add 0) w35) x) fun x37 =>
    dr w35 fun w38 =>
    ex (RdAt (tInt .i64) (a4.add 0) w38) fun x39 =>
    ex (fun x => ((!(!(((r32.2 == (0 : Int)) && (x36 == x37)) == (decide (at_3 ≥ x39))))) && ((r32.2 == (0 : Int)) && (x36 == x37))) = true → (RdAt (tInt .i64) (a33.add 1) w38) x) fun x40 =>
    ex (fun x => ((!(!(((r32.2 == (0 : Int)) && (x36 == x37)) == (decide (at_3 ≥ x39))))) && ((r32.2 == (0 : Int)) && (x36 == x37))) = true → (RdAt tSlc (a13.add 3) w38) x) fun x41 =>
    ex (fun x => ((!(!(((r32.2 == (0 : Int)) && (x36 == x37)) == (decide (at_3 ≥ x39))))) && ((r32.2 == (0 : Int)) && (x36 == x37))) = true → (IxA x41 2 i_24) x) fun a42 =>
    ex (fun x => ((!(!(((r32.2 == (0 : Int)) && (x36 == x37)) == (decide (at_3 ≥ x39))))) && ((r32.2 == (0 : Int)) && (x36 == x37))) = true → (RdAt (tInt .i64) (a42.add 1) w38) x) fun x43 =>
    if ((!(((r32.2 == (0 : Int)) && (x36 == x37)) == (decide (at_3 ≥ x39)))) || (((r32.2 == (0 : Int)) && (x36 == x37)) && (x40 != x43))) = true then (
      R false w38
    ) else (
      K26 ((IntKind.i64.wrap (i_24 + (1 : Int)))) w38
    )
  ) else (
    R true w25
  )
def F5_j2 (at_3 : Int) (a4 : Addr) (r7 : (Option Addr)) (a13 : Addr) (t_22 : Bool) (w23 : World) (R : Bool → World → Prop) : Prop :=
  if t_22 = true then (
    R true w23
  ) else (
    lp (fun (s : Int) w K => F5_l3 at_3 a4 r7 a13 s w K R) ((0 : Int)) w23
  )
def F5_j1 (at_3 : Int) (a4 : Addr) (r7 : (Option Addr)) (a13 : Addr) (t_20 : Bool) (w21 : World) (R : Bool → World → Prop) : Prop :=
  if t_20 = true then (
    F5_j2 at_3 a4 r7 a13 true w21 R
  ) else (
    cl Try.prog 16 [.pointer (r7)] (tInt .i64) w21 fun r49 w48 =>
    F5_j2 at_3 a4 r7 a13 (decide (at_3 < r49)) w48 R
  )
def F5 (l_1 : Slc) (put_2 : S51) (at_3 : Int) (w : World) (R : Bool → World → Prop) : Prop :=
  nw 52 T51 put_2 w fun a4 w5 =>
  cl Try.prog 21 [tSlc.enc (l_1)] tPtr w5 fun r7 w6 =>
  cl Try.prog 10 [] tBool w6 fun r9 w8 =>
  if ((!r9) || r7.isNone) = true then (
    R false w8
  ) else (
    ex (RdAt tSlc (a4.add 1) w8) fun x10 =>
    cl Try.prog 12 [T32.enc ((⟨(0 : Int), (0 : Int), (0 : Int), x10⟩ : S32))] T32 w8 fun r12 w11 =>
    nw 33 T32 Z32 w11 fun a13 w14 =>
    st T32 a13 r12 w14 fun w15 =>
    ex (RdAt (tInt .i64) (a4.add 0) w15) fun x16 =>
    ex (RdAt tSlc (a13.add 3) w15) fun x17 =>
    cl Try.prog 23 [.pointer (r7), .int .i64 (x16), tSlc.enc (x17)] (tInt .i64) w15 fun r19 w18 =>
    if (r19 != (0 : Int)) = true then (
      F5_j1 at_3 a4 r7 a13 true w18 R
    ) else (
      cl Try.prog 24 [.pointer (r7), .int .i64 (at_3)] (tInt .i64) w18 fun r52 w51 =>
      F5_j1 at_3 a4 r7 a13 (r52 != (0 : Int)) w51 R
    )
  )
theorem F5_ok {l_1 : Slc} {put_2 : S51} {at_3 : Int} {w : World} {R : Bool → World → Prop} (h : F5 l_1 put_2 at_3 w R) : cl Try.prog 5 [tSlc.enc (l_1), T51.enc (put_2), .int .i64 (at_3)] tBool w R := by
  unfold F5 at h
  refine calls_start 92 Try.func5 rfl rfl (Nat.le_of_ble_eq_true rfl) ?_
  refine wp_seq ?_
  refine wp_text [0, 1] rfl ?_
  obtain ⟨a4, w5, ha4, hw5, h⟩ := nw_open h
  refine ro_val (d := (some 4)) rfl (.free rfl) rfl (q_box (u := put_2) rfl ok52 rfl ha4 hw5) ?_
  refine ro_val (d := (some 6)) rfl (.free rfl) rfl (q_assign (v := .bool (false)) rfl rfl) ?_
  refine ro_nil ?_
  refine wp_seq ?_
  refine wp_text [0, 1, 2] rfl ?_
  refine ro_val (d := (some 13)) rfl (.free rfl) rfl (q_move (v := tSlc.enc (l_1)) rfl rfl) ?_
  refine ro_wp rfl (.free rfl) (wp_cl (d := (some 14)) rfl (q_call (k := 21) (l := [tSlc.enc (l_1)]) rfl ent21 rfl) h ?_)
  intro r7 w6 h
  refine ro_val (d := (some 7)) rfl (.free rfl) rfl (q_assign (v := .pointer (r7)) rfl rfl) ?_
  refine ro_nil ?_
  refine wp_seq ?_
  refine wp_seq ?_
  refine wp_text [0, 1, 2, 3, 4, 5] rfl ?_
  refine ro_wp rfl (.free rfl) (wp_cl (d := (some 15)) rfl (q_call (k := 10) (l := []) rfl ent10 rfl) h ?_)
  intro r9 w8 h
  refine ro_val (d := (some 16)) rfl (.free rfl) rfl (q_not (b := r9) rfl rfl) ?_
  refine ro_val (d := (some 17)) rfl (.free rfl) rfl (q_move (v := .bool ((!r9))) rfl rfl) ?_
  refine ro_gval (g := (!(!r9))) (d := (some 18)) rfl (.no 2 17 true (!r9) rfl rfl rfl rfl) rfl (fun hg => q_move (v := .pointer (r7)) rfl rfl) ?_
  refine ro_gval (g := (!(!r9))) (d := (some 19)) rfl (.no 2 17 true (!r9) rfl rfl rfl rfl) rfl (fun hg => q_eqP0 (a := r7) rfl Try.underlying23 (gvb_yes hg) rfl) ?_
  refine ro_val (d := (some 20)) rfl (.free rfl) rfl (q_pickGF (a := (!r9)) (c := r7.isNone) rfl rfl rfl rfl) ?_
  refine ro_nil ?_
  refine wp_if (b := ((!r9) || r7.isNone)) rfl h (fun hb53 h => ?_) (fun hb53 h => ?_)
  · refine wp_seq ?_
    refine wp_text [0] rfl ?_
    refine ro_val (d := (some 6)) rfl (.free rfl) rfl (q_assign (v := .bool (false)) rfl rfl) ?_
    refine ro_nil ?_
    refine wp_ret ?_
    exact ret_ok rfl (.cons (.tmp (v := .bool (false)) rfl) .nil) ⟨false, rfl, h⟩
  · refine wp_skip ?_
    refine wp_seq ?_
    refine wp_text [0, 1, 2, 3, 4, 5] rfl ?_
    refine ro_val (d := (some 21)) rfl (.free rfl) rfl (q_fieldAddr (a := a4) (off := 1) rfl Try.underlying52 rfl rfl ok31 (by decide) rfl) ?_
    obtain ⟨x10, hx10, h⟩ := h
    refine ro_val (d := (some 22)) rfl (.free rfl) rfl (q_load (T := tSlc) (u := x10) (a := (a4.add 1)) rfl ok31 rfl hx10) ?_
    refine ro_val (d := (some 23)) rfl (.free rfl) rfl (q_build33_3 (v3 := x10) rfl rfl) ?_
    refine ro_wp rfl (.free rfl) (wp_cl (d := (some 24)) rfl (q_call (k := 12) (l := [T32.enc ((⟨(0 : Int), (0 : Int), (0 : Int), x10⟩ : S32))]) rfl ent12 rfl) h ?_)
    intro r12 w11 h
    obtain ⟨a13, w14, ha13, hw14, h⟩ := nw_open h
    refine ro_val (d := (some 8)) rfl (.free rfl) rfl (q_alloc (u := Z32) rfl ok33 inf33 ha13 hw14) ?_
    obtain ⟨w15, hw15, hrw15, h⟩ := st_open h
    refine ro_skip (d := none) rfl (.free rfl) rfl (q_store (T := T32) (u := r12) (a := a13) rfl ok33 rfl rfl hrw15 hw15) ?_
    refine ro_nil ?_
    refine wp_seq ?_
    refine wp_seq ?_
    refine wp_text [0, 1, 2, 3, 4, 5, 6, 7, 8, 9, 10, 11, 12, 13, 14, 15, 16, 17, 18] rfl ?_
    refine ro_val (d := (some 25)) rfl (.free rfl) rfl (q_move (v := .pointer (r7)) rfl rfl) ?_
    refine ro_val (d := (some 26)) rfl (.free rfl) rfl (q_fieldAddr (a := a4) (off := 0) rfl Try.underlying52 rfl rfl ok2 (by decide) rfl) ?_
    obtain ⟨x16, hx16, h⟩ := h
    refine ro_val (d := (some 27)) rfl (.free rfl) rfl (q_load (T := (tInt .i64)) (u := x16) (a := (a4.add 0)) rfl ok2 rfl hx16) ?_
    refine ro_val (d := (some 28)) rfl (.free rfl) rfl (q_fieldAddr (a := a13) (off := 3) rfl Try.underlying33 rfl rfl ok31 (by decide) rfl) ?_
    obtain ⟨x17, hx17, h⟩ := h
    refine ro_val (d := (some 29)) rfl (.free rfl) rfl (q_load (T := tSlc) (u := x17) (a := (a13.add 3)) rfl ok31 rfl hx17) ?_
    refine ro_wp rfl (.free rfl) (wp_cl (d := (some 30)) rfl (q_call (k := 23) (l := [.pointer (r7), .int .i64 (x16), tSlc.enc (x17)]) rfl ent23 rfl) h ?_)
    intro r19 w18 h
    refine ro_val (d := (some 31)) rfl (.free rfl) rfl (q_neq (a := r19) (b := (0 : Int)) rfl rfl rfl) ?_
    refine ro_val (d := (some 32)) rfl (.free rfl) rfl (q_move (v := .bool ((r19 != (0 : Int)))) rfl rfl) ?_
    refine ro_join (σ := Bool) (J := fun (s : Bool) w => F5_j1 at_3 a4 r7 a13 s w R) (fr := fun g (s : Bool) => upd (upd (upd (upd (upd (g) 2 (.int .i64 (at_3))) 4 (.pointer (some a4))) 7 (.pointer (r7))) 8 (.pointer (some a13))) 37 (.bool (s))) [8, 9, 10, 11, 12] [13, 14, 15, 16, 17, 18] ?_ ?_
    · rintro t_20 g w21 h
      unfold F5_j1 at h
      refine ro_val (d := (some 38)) rfl (.free rfl) rfl (q_move (v := .bool (t_20)) rfl rfl) ?_
      refine ro_join (σ := Bool) (J := fun (s : Bool) w => F5_j2 at_3 a4 r7 a13 s w R) (fr := fun g (s : Bool) => upd (upd (upd (upd (upd (g) 2 (.int .i64 (at_3))) 4 (.pointer (some a4))) 7 (.pointer (r7))) 8 (.pointer (some a13))) 43 (.bool (s))) [14, 15, 16, 17, 18] [] ?_ ?_
      · rintro t_22 g w23 h
        unfold F5_j2 at h
        refine ro_nil ?_
        refine wp_if (b := t_22) rfl h (fun hb46 h => ?_) (fun hb46 h => ?_)
        · refine wp_seq ?_
          refine wp_text [0] rfl ?_
          refine ro_val (d := (some 6)) rfl (.free rfl) rfl (q_assign (v := .bool (true)) rfl rfl) ?_
          refine ro_nil ?_
          refine wp_ret ?_
          exact ret_ok rfl (.cons (.tmp (v := .bool (true)) rfl) .nil) ⟨true, rfl, h⟩
        · refine wp_skip ?_
          refine wp_seq ?_
          refine wp_seq ?_
          refine wp_text [0] rfl ?_
          refine ro_val (d := (some 9)) rfl (.free rfl) rfl (q_assign (v := .int .i64 ((0 : Int))) rfl rfl) ?_
          refine ro_nil ?_
          refine wp_block ?_
          refine loop_at (σ := Int) (fr := fun g (s : Int) => upd (upd (upd (upd (upd (g) 2 (.int .i64 (at_3))) 4 (.pointer (some a4))) 7 (.pointer (r7))) 8 (.pointer (some a13))) 9 (.int .i64 (s))) (s0 := ((0 : Int))) (upd_step (upd_step (upd_step (upd_step (upd_step rfl rfl) rfl) rfl) rfl) rfl) h ?_
          rintro i_24 g w25 K26 h
          unfold F5_l3 at h
          refine wp_seq ?_
          refine wp_seq ?_
          refine wp_text [0, 1, 2, 3, 4] rfl ?_
          refine ro_val (d := (some 44)) rfl (.free rfl) rfl (q_move (v := .int .i64 (i_24)) rfl rfl) ?_
          refine ro_val (d := (some 45)) rfl (.free rfl) rfl (q_fieldAddr (a := a13) (off := 3) rfl Try.underlying33 rfl rfl ok31 (by decide) rfl) ?_
          obtain ⟨x27, hx27, h⟩ := h
          refine ro_val (d := (some 46)) rfl (.free rfl) rfl (q_load (T := tSlc) (u := x27) (a := (a13.add 3)) rfl ok31 rfl hx27) ?_
          refine ro_val (d := (some 47)) rfl (.free rfl) rfl (q_len (s := x27) rfl Try.underlying31 rfl) ?_
          refine ro_val (d := (some 48)) rfl (.free rfl) rfl (q_lss (a := i_24) (b := (x27.len : Int)) rfl rfl rfl) ?_
          refine ro_nil ?_
          refine wp_if (b := (decide (i_24 < (x27.len : Int)))) rfl h (fun hb45 h => ?_) (fun hb45 h => ?_)
          · refine wp_skip ?_
            refine wp_seq ?_
            refine wp_block ?_
            refine wp_seq ?_
            refine wp_text [0, 1, 2, 3, 4, 5, 6, 7, 8, 9, 10, 11, 12, 13, 14] rfl ?_
            refine ro_val (d := (some 52)) rfl (.free rfl) rfl (q_move (v := .pointer (r7)) rfl rfl) ?_
            refine ro_val (d := (some 53)) rfl (.free rfl) rfl (q_fieldAddr (a := a13) (off := 3) rfl Try.underlying33 rfl rfl ok31 (by decide) rfl) ?_
            obtain ⟨x28, hx28, h⟩ := h
            refine ro_val (d := (some 54)) rfl (.free rfl) rfl (q_load (T := tSlc) (u := x28) (a := (a13.add 3)) rfl ok31 rfl hx28) ?_
            refine ro_val (d := (some 55)) rfl (.free rfl) rfl (q_move (v := .int .i64 (i_24)) rfl rfl) ?_
            obtain ⟨a29, ha29, h⟩ := h
            refine ro_val (d := (some 56)) rfl (.free rfl) rfl (q_indexAddr (s := x28) (i := i_24) rfl Try.underlying31 ok58 rfl rfl ha29) ?_
            refine ro_val (d := (some 57)) rfl (.free rfl) rfl (q_fieldAddr (a := a29) (off := 0) rfl Try.underlying58 rfl rfl ok3 (by decide) rfl) ?_
            obtain ⟨x30, hx30, h⟩ := h
            refine ro_val (d := (some 58)) rfl (.free rfl) rfl (q_load (T := (tInt .i64)) (u := x30) (a := (a29.add 0)) rfl ok3 rfl hx30) ?_
            refine ro_val (d := (some 59)) rfl (.free rfl) rfl (q_move (v := .int .i64 (at_3)) rfl rfl) ?_
            refine ro_wp rfl (.free rfl) (wp_cl (d := (some 60)) rfl (q_call (k := 25) (l := [.pointer (r7), .int .i64 (x30), .int .i64 (at_3)]) rfl ent25 rfl) h ?_)
            intro r32 w31 h
            refine ro_val (d := (some 51)) rfl (.free rfl) rfl (q_move (v := (tTup2 T35 (tInt .i64)).enc (r32)) rfl rfl) ?_
            refine ro_val (d := (some 61)) rfl (.free rfl) rfl (q_extract (vs := #[T35.enc (r32.1), .int .i64 (r32.2)]) (v := T35.enc (r32.1)) rfl rfl rfl) ?_
            refine ro_val (d := (some 62)) rfl (.free rfl) rfl (q_extract (vs := #[T35.enc (r32.1), .int .i64 (r32.2)]) (v := .int .i64 (r32.2)) rfl rfl rfl) ?_
            obtain ⟨a33, w34, ha33, hw34, h⟩ := nw_open h
            refine ro_val (d := (some 10)) rfl (.free rfl) rfl (q_alloc (u := Z35) rfl ok36 inf36 ha33 hw34) ?_
            obtain ⟨w35, hw35, hrw35, h⟩ := st_open h
            refine ro_skip (d := none) rfl (.free rfl) rfl (q_store (T := T35) (u := r32.1) (a := a33) rfl ok36 rfl rfl hrw35 hw35) ?_
            refine ro_val (d := (some 11)) rfl (.free rfl) rfl (q_assign (v := .int .i64 (r32.2)) rfl rfl) ?_
            refine ro_nil ?_
            refine wp_seq ?_
            refine wp_text [0, 1, 2, 3, 4, 5, 6, 7, 8, 9] rfl ?_
            refine ro_val (d := (some 63)) rfl (.free rfl) rfl (q_move (v := .int .i64 (r32.2)) rfl rfl) ?_
            refine ro_val (d := (some 64)) rfl (.free rfl) rfl (q_eql (a := r32.2) (b := (0 : Int)) rfl rfl rfl) ?_
            refine ro_val (d := (some 65)) rfl (.free rfl) rfl (q_move (v := .bool ((r32.2 == (0 : Int)))) rfl rfl) ?_
            refine ro_gval (g := (r32.2 == (0 : Int))) (d := (some 66)) rfl (.yes 2 65 true (r32.2 == (0 : Int)) rfl rfl rfl rfl) rfl (fun hg => q_fieldAddr (a := a33) (off := 0) rfl Try.underlying36 rfl rfl ok2 (by decide) rfl) ?_
            obtain ⟨x36, hx36, h⟩ := h
            refine ro_gval (g := (r32.2 == (0 : Int))) (d := (some 67)) rfl (.yes 2 65 true (r32.2 == (0 : Int)) rfl rfl rfl rfl) rfl (fun hg => q_load (T := (tInt .i64)) (u := x36) (a := (a33.add 0)) rfl ok2 (gvb_yes hg) (hx36 hg)) ?_
            refine ro_gval (g := (r32.2 == (0 : Int))) (d := (some 68)) rfl (.yes 2 65 true (r32.2 == (0 : Int)) rfl rfl rfl rfl) rfl (fun hg => q_fieldAddr (a := a4) (off := 0) rfl Try.underlying52 rfl rfl ok2 (by decide) rfl) ?_
            obtain ⟨x37, hx37, h⟩ := h
            refine ro_gval (g := (r32.2 == (0 : Int))) (d := (some 69)) rfl (.yes 2 65 true (r32.2 == (0 : Int)) rfl rfl rfl rfl) rfl (fun hg => q_load (T := (tInt .i64)) (u := x37) (a := (a4.add 0)) rfl ok2 (gvb_yes hg) (hx37 hg)) ?_
            refine ro_gval (g := (r32.2 == (0 : Int))) (d := (some 70)) rfl (.yes 2 65 true (r32.2 == (0 : Int)) rfl rfl rfl rfl) rfl (fun hg => q_eql (a := x36) (b := x37) rfl (gvb_yes hg) (gvb_yes hg)) ?_
            refine ro_val (d := (some 71)) rfl (.free rfl) rfl (q_pickGT (a := (r32.2 == (0 : Int))) (b := (x36 == x37)) rfl rfl rfl rfl) ?_
            refine ro_val (d := (some 12)) rfl (.free rfl) rfl (q_assign (v := .bool (((r32.2 == (0 : Int)) && (x36 == x37)))) rfl rfl) ?_
            refine ro_nil ?_
            refine wp_seq ?_
            obtain ⟨w38, hw38, h⟩ := dr_open h
            refine wp_drawn 20 mixed rfl (by kernel_rfl) (by intro c a d v w h; cases d <;> exact h) hw38 (fun hD => ?_)
            refine rd_pure (i := 0) (d := (some 72)) hD (by kernel_rfl) (by kernel_rfl) rfl (.free rfl) rfl (fun _ => q_move (v := .bool (((r32.2 == (0 : Int)) && (x36 == x37)))) rfl rfl) ?_
            refine rd_pure (i := 1) (d := (some 73)) hD (by kernel_rfl) (by kernel_rfl) rfl (.free rfl) rfl (fun _ => q_move (v := .int .i64 (at_3)) rfl rfl) ?_
            refine rd_pure (i := 2) (d := (some 74)) hD (by kernel_rfl) (by kernel_rfl) rfl (.free rfl) rfl (fun _ => q_fieldAddr (a := a4) (off := 0) rfl Try.underlying52 rfl rfl ok2 (by decide) rfl) ?_
            obtain ⟨x39, hx39, h⟩ := h
            refine rd_read (i := 3) (d := (some 75)) (fun W => (RdAt (tInt .i64) (a4.add 0) W) x39) hD (by kernel_rfl) (by kernel_rfl) rfl (.free rfl) rfl (fun W hr => q_load (T := (tInt .i64)) (u := x39) (a := (a4.add 0)) rfl ok2 rfl hr) hx39 ?_
            refine rd_pure (i := 4) (d := (some 76)) hD (by kernel_rfl) (by kernel_rfl) rfl (.free rfl) rfl (fun _ => q_geq (a := at_3) (b := x39) rfl rfl rfl) ?_
            refine rd_pure (i := 5) (d := (some 77)) hD (by kernel_rfl) (by kernel_rfl) rfl (.free rfl) rfl (fun _ => q_neB (a := ((r32.2 == (0 : Int)) && (x36 == x37))) (b := (decide (at_3 ≥ x39))) rfl Try.underlying4 rfl rfl) ?_
            refine rd_pure (i := 6) (d := (some 78)) hD (by kernel_rfl) (by kernel_rfl) rfl (.free rfl) rfl (fun _ => q_move (v := .bool ((!(((r32.2 == (0 : Int)) && (x36 == x37)) == (decide (at_3 ≥ x39)))))) rfl rfl) ?_
            refine rd_gpure (i := 7) (g := (!(!(((r32.2 == (0 : Int)) && (x36 == x37)) == (decide (at_3 ≥ x39)))))) (d := (some 79)) hD (by kernel_rfl) (by kernel_rfl) rfl (.no 6 78 true (!(((r32.2 == (0 : Int)) && (x36 == x37)) == (decide (at_3 ≥ x39)))) rfl rfl rfl rfl) rfl (fun hg _ => q_move (v := .bool (((r32.2 == (0 : Int)) && (x36 == x37)))) rfl rfl) ?_
            refine rd_gpure (i := 8) (g := (!(!(((r32.2 == (0 : Int)) && (x36 == x37)) == (decide (at_3 ≥ x39)))))) (d := (some 80)) hD (by kernel_rfl) (by kernel_rfl) rfl (.no 6 78 true (!(((r32.2 == (0 : Int)) && (x36 == x37)) == (decide (at_3 ≥ x39)))) rfl rfl rfl rfl) rfl (fun hg _ => q_move (v := .bool (((r32.2 == (0 : Int)) && (x36 == x37)))) rfl (gvb_yes hg)) ?_
            refine rd_gpure (i := 9) (g := ((!(!(((r32.2 == (0 : Int)) && (x36 == x37)) == (decide (at_3 ≥ x39))))) && ((r32.2 == (0 : Int)) && (x36 == x37)))) (d := (some 81)) hD (by kernel_rfl) (by kernel_rfl) rfl (.yes 8 80 (!(!(((r32.2 == (0 : Int)) && (x36 == x37)) == (decide (at_3 ≥ x39))))) ((r32.2 == (0 : Int)) && (x36 == x37)) rfl rfl rfl rfl) rfl (fun hg _ => q_fieldAddr (a := a33) (off := 1) rfl Try.underlying36 rfl rfl ok2 (by decide) rfl) ?_
            refine rd_gpure (i := 11) (g := ((!(!(((r32.2 == (0 : Int)) && (x36 == x37)) == (decide (at_3 ≥ x39))))) && ((r32.2 == (0 : Int)) && (x36 == x37)))) (d := (some 83)) hD (by kernel_rfl) (by kernel_rfl) rfl (.yes 8 80 (!(!(((r32.2 == (0 : Int)) && (x36 == x37)) == (decide (at_3 ≥ x39))))) ((r32.2 == (0 : Int)) && (x36 == x37)) rfl rfl rfl rfl) rfl (fun hg _ => q_fieldAddr (a := a13) (off := 3) rfl Try.underlying33 rfl rfl ok31 (by decide) rfl) ?_
            refine rd_gpure (i := 13) (g := ((!(!(((r32.2 == (0 : Int)) && (x36 == x37)) == (decide (at_3 ≥ x39))))) && ((r32.2 == (0 : Int)) && (x36 == x37)))) (d := (some 85)) hD (by kernel_rfl) (by kernel_rfl) rfl (.yes 8 80 (!(!(((r32.2 == (0 : Int)) && (x36 == x37)) == (decide (at_3 ≥ x39))))) ((r32.2 == (0 : Int)) && (x36 == x37)) rfl rfl rfl rfl) rfl (fun hg _ => q_move (v := .int .i64 (i_24)) rfl rfl) ?_
            obtain ⟨x40, hx40, h⟩ := h
            refine rd_gread (i := 10) (g := ((!(!(((r32.2 == (0 : Int)) && (x36 == x37)) == (decide (at_3 ≥ x39))))) && ((r32.2 == (0 : Int)) && (x36 == x37)))) (d := (some 82)) (fun W => (RdAt (tInt .i64) (a33.add 1) W) x40) hD (by kernel_rfl) (by kernel_rfl) rfl (.yes 8 80 (!(!(((r32.2 == (0 : Int)) && (x36 == x37)) == (decide (at_3 ≥ x39))))) ((r32.2 == (0 : Int)) && (x36 == x37)) rfl rfl rfl rfl) rfl (fun hg W hr => q_load (T := (tInt .i64)) (u := x40) (a := (a33.add 1)) rfl ok2 (gvb_yes hg) hr) hx40 ?_
            obtain ⟨x41, hx41, h⟩ := h
            refine rd_gread (i := 12) (g := ((!(!(((r32.2 == (0 : Int)) && (x36 == x37)) == (decide (at_3 ≥ x39))))) && ((r32.2 == (0 : Int)) && (x36 == x37)))) (d := (some 84)) (fun W => (RdAt tSlc (a13.add 3) W) x41) hD (by kernel_rfl) (by kernel_rfl) rfl (.yes 8 80 (!(!(((r32.2 == (0 : Int)) && (x36 == x37)) == (decide (at_3 ≥ x39))))) ((r32.2 == (0 : Int)) && (x36 == x37)) rfl rfl rfl rfl) rfl (fun hg W hr => q_load (T := tSlc) (u := x41) (a := (a13.add 3)) rfl ok31 (gvb_yes hg) hr) hx41 ?_
            obtain ⟨a42, ha42, h⟩ := h
            refine rd_gpure (i := 14) (g := ((!(!(((r32.2 == (0 : Int)) && (x36 == x37)) == (decide (at_3 ≥ x39))))) && ((r32.2 == (0 : Int)) && (x36 == x37)))) (d := (some 86)) hD (by kernel_rfl) (by kernel_rfl) rfl (.yes 8 80 (!(!(((r32.2 == (0 : Int)) && (x36 == x37)) == (decide (at_3 ≥ x39))))) ((r32.2 == (0 : Int)) && (x36 == x37)) rfl rfl rfl rfl) rfl (fun hg _ => q_indexAddr (s := x41) (i := i_24) rfl Try.underlying31 ok58 (gvb_yes hg) (gvb_yes hg) (ha42 hg)) ?_
            refine rd_gpure (i := 15) (g := ((!(!(((r32.2 == (0 : Int)) && (x36 == x37)) == (decide (at_3 ≥ x39))))) && ((r32.2 == (0 : Int)) && (x36 == x37)))) (d := (some 87)) hD (by kernel_rfl) (by kernel_rfl) rfl (.yes 8 80 (!(!(((r32.2 == (0 : Int)) && (x36 == x37)) == (decide (at_3 ≥ x39))))) ((r32.2 == (0 : Int)) && (x36 == x37)) rfl rfl rfl rfl) rfl (fun hg _ => q_fieldAddr (a := a42) (off := 1) rfl Try.underlying58 rfl rfl ok2 (by decide) (gvb_yes hg)) ?_
            obtain ⟨x43, hx43, h⟩ := h
            refine rd_gread (i := 16) (g := ((!(!(((r32.2 == (0 : Int)) && (x36 == x37)) == (decide (at_3 ≥ x39))))) && ((r32.2 == (0 : Int)) && (x36 == x37)))) (d := (some 88)) (fun W => (RdAt (tInt .i64) (a42.add 1) W) x43) hD (by kernel_rfl) (by kernel_rfl) rfl (.yes 8 80 (!(!(((r32.2 == (0 : Int)) && (x36 == x37)) == (decide (at_3 ≥ x39))))) ((r32.2 == (0 : Int)) && (x36 == x37)) rfl rfl rfl rfl) rfl (fun hg W hr => q_load (T := (tInt .i64)) (u := x43) (a := (a42.add 1)) rfl ok2 (gvb_yes hg) hr) hx43 ?_
            refine rd_gpure (i := 17) (g := ((!(!(((r32.2 == (0 : Int)) && (x36 == x37)) == (decide (at_3 ≥ x39))))) && ((r32.2 == (0 : Int)) && (x36 == x37)))) (d := (some 89)) hD (by kernel_rfl) (by kernel_rfl) rfl (.yes 8 80 (!(!(((r32.2 == (0 : Int)) && (x36 == x37)) == (decide (at_3 ≥ x39))))) ((r32.2 == (0 : Int)) && (x36 == x37)) rfl rfl rfl rfl) rfl (fun hg _ => q_neq (a := x40) (b := x43) rfl (gvb_yes hg) (gvb_yes hg)) ?_
            refine rd_gpure (i := 18) (g := (!(!(((r32.2 == (0 : Int)) && (x36 == x37)) == (decide (at_3 ≥ x39)))))) (d := (some 90)) hD (by kernel_rfl) (by kernel_rfl) rfl (.no 6 78 true (!(((r32.2 == (0 : Int)) && (x36 == x37)) == (decide (at_3 ≥ x39)))) rfl rfl rfl rfl) rfl (fun hg _ => q_pickNT (g0 := (!(!(((r32.2 == (0 : Int)) && (x36 == x37)) == (decide (at_3 ≥ x39)))))) (a := ((r32.2 == (0 : Int)) && (x36 == x37))) (b := (x40 != x43)) hg rfl rfl rfl rfl) ?_
            refine rd_pure (i := 19) (d := (some 91)) hD (by kernel_rfl) (by kernel_rfl) rfl (.free rfl) rfl (fun _ => q_pickGF (a := (!(((r32.2 == (0 : Int)) && (x36 == x37)) == (decide (at_3 ≥ x39))))) (c := (((r32.2 == (0 : Int)) && (x36 == x37)) && (x40 != x43))) rfl rfl rfl rfl) ?_
            refine rd_nil (by kernel_rfl) ?_
            refine wp_if (b := ((!(((r32.2 == (0 : Int)) && (x36 == x37)) == (decide (at_3 ≥ x39)))) || (((r32.2 == (0 : Int)) && (x36 == x37)) && (x40 != x43)))) rfl h (fun hb44 h => ?_) (fun hb44 h => ?_)
            · refine wp_seq ?_
              refine wp_text [0] rfl ?_
              refine ro_val (d := (some 6)) rfl (.free rfl) rfl (q_assign (v := .bool (false)) rfl rfl) ?_
              refine ro_nil ?_
              refine wp_ret ?_
              exact ret_ok rfl (.cons (.tmp (v := .bool (false)) rfl) .nil) ⟨false, rfl, h⟩
            · refine wp_skip ?_
              refine wp_text [0, 1, 2] rfl ?_
              refine ro_val (d := (some 49)) rfl (.free rfl) rfl (q_move (v := .int .i64 (i_24)) rfl rfl) ?_
              refine ro_val (d := (some 50)) rfl (.free rfl) rfl (q_add (a := i_24) (b := (1 : Int)) rfl rfl rfl) ?_
              refine ro_val (d := (some 9)) rfl (.free rfl) rfl (q_assign (v := .int .i64 ((IntKind.i64.wrap (i_24 + (1 : Int))))) rfl rfl) ?_
              refine ro_nil ?_
              exact ⟨((IntKind.i64.wrap (i_24 + (1 : Int)))), _, arr (upd_step (upd_step (upd_step (upd_step (upd_step rfl rfl) rfl) rfl) rfl) rfl), h⟩
          · refine wp_exit ?_
            refine wp_seq ?_
            refine wp_text [0] rfl ?_
            refine ro_val (d := (some 6)) rfl (.free rfl) rfl (q_assign (v := .bool (true)) rfl rfl) ?_
            refine ro_nil ?_
            refine wp_ret ?_
            exact ret_ok rfl (.cons (.tmp (v := .bool (true)) rfl) .nil) ⟨true, rfl, h⟩
      · refine ro_if (b := t_20) h (fun hb47 h => ?_) (fun hb47 h => ?_)
        · refine ro_bar (d := (some 39)) rfl (.by_ 13 false 38 t_20 rfl rfl rfl hb47) rfl ?_
          refine ro_bar (d := (some 40)) rfl (.by_ 13 false 38 t_20 rfl rfl rfl hb47) rfl ?_
          refine ro_bar (d := (some 41)) rfl (.by_ 13 false 38 t_20 rfl rfl rfl hb47) rfl ?_
          refine ro_bar (d := (some 42)) rfl (.by_ 13 false 38 t_20 rfl rfl rfl hb47) rfl ?_
          refine ro_val (d := (some 43)) rfl (.free rfl) rfl (q_pickT (v := .bool (true)) (b := t_20) rfl rfl hb47 rfl) ?_
          refine ro_nil ?_
          exact ⟨(true), _, arr (upd_step (upd_step (upd_step (upd_step (upd_step rfl rfl) rfl) rfl) rfl) rfl), h⟩
        · refine ro_val (d := (some 39)) rfl (.by_ 13 false 38 t_20 rfl rfl rfl hb47) rfl (q_move (v := .int .i64 (at_3)) rfl rfl) ?_
          refine ro_val (d := (some 40)) rfl (.by_ 13 false 38 t_20 rfl rfl rfl hb47) rfl (q_move (v := .pointer (r7)) rfl rfl) ?_
          refine ro_wp rfl (.by_ 13 false 38 t_20 rfl rfl rfl hb47) (wp_cl (d := (some 41)) rfl (q_call (k := 16) (l := [.pointer (r7)]) rfl ent16 rfl) h ?_)
          intro r49 w48 h
          refine ro_val (d := (some 42)) rfl (.by_ 13 false 38 t_20 rfl rfl rfl hb47) rfl (q_lss (a := at_3) (b := r49) rfl rfl rfl) ?_
          refine ro_val (d := (some 43)) rfl (.free rfl) rfl (q_pickF (v := .bool ((decide (at_3 < r49)))) (b := t_20) rfl rfl hb47 rfl) ?_
          refine ro_nil ?_
          exact ⟨((decide (at_3 < r49))), _, arr (upd_step (upd_step (upd_step (upd_step (upd_step rfl rfl) rfl) rfl) rfl) rfl), h⟩
    · refine ro_if (b := (r19 != (0 : Int))) h (fun hb50 h => ?_) (fun hb50 h => ?_)
      · refine ro_bar (d := (some 33)) rfl (.by_ 7 false 32 (r19 != (0 : Int)) rfl rfl rfl hb50) rfl ?_
        refine ro_bar (d := (some 34)) rfl (.by_ 7 false 32 (r19 != (0 : Int)) rfl rfl rfl hb50) rfl ?_
        refine ro_bar (d := (some 35)) rfl (.by_ 7 false 32 (r19 != (0 : Int)) rfl rfl rfl hb50) rfl ?_
        refine ro_bar (d := (some 36)) rfl (.by_ 7 false 32 (r19 != (0 : Int)) rfl rfl rfl hb50) rfl ?_
        refine ro_val (d := (some 37)) rfl (.free rfl) rfl (q_pickT (v := .bool (true)) (b := (r19 != (0 : Int))) rfl rfl hb50 rfl) ?_
        refine ro_nil ?_
        exact ⟨(true), _, arr (upd_step (upd_step (upd_step (upd_step (upd_step rfl rfl) rfl) rfl) rfl) rfl), h⟩
      · refine ro_val (d := (some 33)) rfl (.by_ 7 false 32 (r19 != (0 : Int)) rfl rfl rfl hb50) rfl (q_move (v := .pointer (r7)) rfl rfl) ?_
        refine ro_val (d := (some 34)) rfl (.by_ 7 false 32 (r19 != (0 : Int)) rfl rfl rfl hb50) rfl (q_move (v := .int .i64 (at_3)) rfl rfl) ?_
        refine ro_wp rfl (.by_ 7 false 32 (r19 != (0 : Int)) rfl rfl rfl hb50) (wp_cl (d := (some 35)) rfl (q_call (k := 24) (l := [.pointer (r7), .int .i64 (at_3)]) rfl ent24 rfl) h ?_)
        intro r52 w51 h
        refine ro_val (d := (some 36)) rfl (.by_ 7 false 32 (r19 != (0 : Int)) rfl rfl rfl hb50) rfl (q_neq (a := r52) (b := (0 : Int)) rfl rfl rfl) ?_
        refine ro_val (d := (some 37)) rfl (.free rfl) rfl (q_pickF (v := .bool ((r52 != (0 : Int)))) (b := (r19 != (0 : Int))) rfl rfl hb50 rfl) ?_
        refine ro_nil ?_
        exact ⟨((r52 != (0 : Int))), _, arr (upd_step (upd_step (upd_step (upd_step (upd_step rfl rfl) rfl) rfl) rfl) rfl), h⟩

end Go.Proofs.Ytdgdkbfigndndaa.Cf
