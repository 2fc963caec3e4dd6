/- Characteristic formulae of Go functions, and that they are. Printed by gen.py (own tool). -/
import Derived.Test.YtdgdkbfigndndaaTy
namespace Go.Proofs.Ytdgdkbfigndndaa.Cf
open Go
set_option maxRecDepth 100000
set_option maxHeartbeats 1000000
set_option linter.unusedVariables false
set_option linter.unusedSimpArgs false

-- moiety/moietylaw12.StoreRefuses
def F6_j3 (t_55 : Bool) (w56 : World) (R : Bool → World → Prop) : Prop :=
  R t_55 w56
def F6_l2 (t_2 : Int) (r5 : (Option Addr)) (a10 : Addr) (r14 : Int) (a15 : Addr) (r30 : Int) (i_31 : Int) (w32 : World) (K33 : Int → World → Prop) (R : Bool → World → Prop) : Prop :=
  ex (RdAt tSlc (a10.add 3) w32) fun x34 =>
  if (decide (i_31 < (x34.len : Int))) = true then (
    ex (RdAt tSlc (a10.add 3) w32) fun x35 =>
    ex (IxA x35 2 i_31) fun a36 =>
    ex (RdAt (tInt .i64) (a36.add 0) w32) fun x37 =>
    cl Try.prog 13 [.pointer (r5), .int .i64 (x37)] (tTup2 T35 tBool) w32 fun r39 w38 =>
    nw 36 T35 Z35 w38 fun a40 w41 =>
    st T35 a40 r39.1 w41 fun w42 =>
    dr w42 fun w43 =>
    ex (fun x => (r30 == (0 : Int)) = true → (RdAt (tInt .i64) (a40.add 0) w43) x) fun x44 =>
    ex (fun x => ((r30 == (0 : Int)) && (!(x44 != t_2))) = true → (RdAt (tInt .i64) (a40.add 1) w43) x) fun x45 =>
    ex (fun x => ((r30 == (0 : Int)) && (!(x44 != t_2))) = true → (RdAt tSlc (a10.add 3) w43) x) fun x46 =>
    ex (fun x => ((r30 == (0 : Int)) && (!(x44 != t_2))) = true → (IxA x46 2 i_31) x) fun a47 =>
    ex (fun x => ((r30 == (0 : Int)) && (!(x44 != t_2))) = true → (RdAt (tInt .i64) (a47.add 1) w43) x) fun x48 =>
    ex (fun x => ((r30 == (0 : Int)) && (!((x44 != t_2) || (x45 != x48)))) = true → (IxR a15 120 2 i_31) x) fun a49 =>
    ex (fun x => ((r30 == (0 : Int)) && (!((x44 != t_2) || (x45 != x48)))) = true → (RdAt (tInt .i64) (a49.add 0) w43) x) fun x50 =>
    ex (fun x => ((!((r30 == (0 : Int)) && (((x44 != t_2) || (x45 != x48)) || (decide (x50 ≥ t_2))))) && (r30 != (0 : Int))) = true → (IxR a15 120 2 i_31) x) fun a51 =>
    ex (fun x => ((!((r30 == (0 : Int)) && (((x44 != t_2) || (x45 != x48)) || (decide (x50 ≥ t_2))))) && (r30 != (0 : Int))) = true → (RdAt T35 a40 w43) x) fun x52 =>
    ex (fun x => ((!((r30 == (0 : Int)) && (((x44 != t_2) || (x45 != x48)) || (decide (x50 ≥ t_2))))) && (r30 != (0 : Int))) = true → (RdAt T35 a51 w43) x) fun x53 =>
    if (((r30 == (0 : Int)) && (((x44 != t_2) || (x45 != x48)) || (decide (x50 ≥ t_2)))) || ((r30 != (0 : Int)) && (!(S35.eqb x52 x53)))) = true then (
      R false w43
    ) else (
      K33 ((IntKind.i64.wrap (i_31 + (1 : Int)))) w43
    )
  ) else (
    if (r30 == (0 : Int)) = true then (
      dr w32 fun w57 =>
      ex (RdAt tSlc (a10.add 3) w57) fun x58 =>
      cl Try.prog 17 [.pointer (r5)] (tInt .i64) w57 fun r60 w59 =>
      kp ((RdAt tSlc (a10.add 3) w59) x58) <|
      if (r60 == (IntKind.i64.wrap (r14 + (x58.len : Int)))) = true then (
        cl Try.prog 15 [.pointer (r5)] (tInt .i64) w59 fun r64 w63 =>
        kp ((RdAt tSlc (a10.add 3) w63) x58) <|
        F6_j3 (decide (t_2 > r64)) w63 R
      ) else (
        F6_j3 false w59 R
      )
    ) else (
      cl Try.prog 17 [.pointer (r5)] (tInt .i64) w32 fun r67 w66 =>
      R (r67 == r14) w66
    )
  )
def F6_l1 (t_2 : Int) (r5 : (Option Addr)) (a10 : Addr) (r14 : Int) (a15 : Addr) (i_17 : Int) (w18 : World) (K19 : Int → World → Prop) (R : Bool → World → Prop) : Prop :=
  ex (RdAt tSlc (a10.add 3) w18) fun x20 =>
  if (decide (i_17 < (x20.len : Int))) = true then (
    ex (RdAt tSlc (a10.add 3) w18) fun x21 =>
    ex (IxA x21 2 i_17) fun a22 =>
    ex (RdAt (tInt .i64) (a22.add 0) w18) fun x23 =>
    cl Try.prog 13 [.pointer (r5), .int .i64 (x23)] (tTup2 T35 tBool) w18 fun r25 w24 =>
    ex (IxR a15 120 2 i_17) fun a26 =>
    st T35 a26 r25.1 w24 fun w27 =>
    K19 ((IntKind.i64.wrap (i_17 + (1 : Int)))) w27
  ) else (
    ex (RdAt tSlc (a10.add 3) w18) fun x28 =>
    cl Try.prog 23 [.pointer (r5), .int .i64 (t_2), tSlc.enc (x28)] (tInt .i64) w18 fun r30 w29 =>
    lp (fun (s : Int) w K => F6_l2 t_2 r5 a10 r14 a15 r30 s w K R) ((0 : Int)) w29
  )
def F6 (l_1 : Slc) (t_2 : Int) (put_3 : Slc) (w : World) (R : Bool → World → Prop) : Prop :=
  cl Try.prog 21 [tSlc.enc (l_1)] tPtr w fun r5 w4 =>
  cl Try.prog 10 [] tBool w4 fun r7 w6 =>
  if ((!r7) || r5.isNone) = true then (
    R false w6
  ) else (
    cl Try.prog 12 [T32.enc ((⟨(0 : Int), (0 : Int), (0 : Int), put_3⟩ : S32))] T32 w6 fun r9 w8 =>
    nw 33 T32 Z32 w8 fun a10 w11 =>
    st T32 a10 r9 w11 fun w12 =>
    cl Try.prog 17 [.pointer (r5)] (tInt .i64) w12 fun r14 w13 =>
    nw 60 (tArr T35 120) (Vector.replicate 120 Z35) w13 fun a15 w16 =>
    lp (fun (s : Int) w K => F6_l1 t_2 r5 a10 r14 a15 s w K R) ((0 : Int)) w16
  )
theorem F6_ok {l_1 : Slc} {t_2 : Int} {put_3 : Slc} {w : World} {R : Bool → World → Prop} (h : F6 l_1 t_2 put_3 w R) : cl Try.prog 6 [tSlc.enc (l_1), .int .i64 (t_2), tSlc.enc (put_3)] tBool w R := by
  unfold F6 at h
  refine calls_start 130 Try.func6 rfl rfl (Nat.le_of_ble_eq_true rfl) ?_
  refine wp_seq ?_
  refine wp_text [0] rfl ?_
  refine ro_val (d := (some 6)) rfl (.free rfl) rfl (q_assign (v := .bool (false)) rfl rfl) ?_
  refine ro_nil ?_
  refine wp_seq ?_
  refine wp_text [0, 1, 2] rfl ?_
  refine ro_val (d := (some 16)) rfl (.free rfl) rfl (q_move (v := tSlc.enc (l_1)) rfl rfl) ?_
  refine ro_wp rfl (.free rfl) (wp_cl (d := (some 17)) rfl (q_call (k := 21) (l := [tSlc.enc (l_1)]) rfl ent21 rfl) h ?_)
  intro r5 w4 h
  refine ro_val (d := (some 7)) rfl (.free rfl) rfl (q_assign (v := .pointer (r5)) rfl rfl) ?_
  refine ro_nil ?_
  refine wp_seq ?_
  refine wp_seq ?_
  refine wp_text [0, 1, 2, 3, 4, 5] rfl ?_
  refine ro_wp rfl (.free rfl) (wp_cl (d := (some 18)) rfl (q_call (k := 10) (l := []) rfl ent10 rfl) h ?_)
  intro r7 w6 h
  refine ro_val (d := (some 19)) rfl (.free rfl) rfl (q_not (b := r7) rfl rfl) ?_
  refine ro_val (d := (some 20)) rfl (.free rfl) rfl (q_move (v := .bool ((!r7))) rfl rfl) ?_
  refine ro_gval (g := (!(!r7))) (d := (some 21)) rfl (.no 2 20 true (!r7) rfl rfl rfl rfl) rfl (fun hg => q_move (v := .pointer (r5)) rfl rfl) ?_
  refine ro_gval (g := (!(!r7))) (d := (some 22)) rfl (.no 2 20 true (!r7) rfl rfl rfl rfl) rfl (fun hg => q_eqP0 (a := r5) rfl Try.underlying23 (gvb_yes hg) rfl) ?_
  refine ro_val (d := (some 23)) rfl (.free rfl) rfl (q_pickGF (a := (!r7)) (c := r5.isNone) rfl rfl rfl rfl) ?_
  refine ro_nil ?_
  refine wp_if (b := ((!r7) || r5.isNone)) rfl h (fun hb71 h => ?_) (fun hb71 h => ?_)
  · refine wp_seq ?_
    refine wp_text [0] rfl ?_
    refine ro_val (d := (some 6)) rfl (.free rfl) rfl (q_assign (v := .bool (false)) rfl rfl) ?_
    refine ro_nil ?_
    refine wp_ret ?_
    exact ret_ok rfl (.cons (.tmp (v := .bool (false)) rfl) .nil) ⟨false, rfl, h⟩
  · refine wp_skip ?_
    refine wp_seq ?_
    refine wp_text [0, 1, 2, 3, 4] rfl ?_
    refine ro_val (d := (some 24)) rfl (.free rfl) rfl (q_move (v := tSlc.enc (put_3)) rfl rfl) ?_
    refine ro_val (d := (some 25)) rfl (.free rfl) rfl (q_build33_3 (v3 := put_3) rfl rfl) ?_
    refine ro_wp rfl (.free rfl) (wp_cl (d := (some 26)) rfl (q_call (k := 12) (l := [T32.enc ((⟨(0 : Int), (0 : Int), (0 : Int), put_3⟩ : S32))]) rfl ent12 rfl) h ?_)
    intro r9 w8 h
    obtain ⟨a10, w11, ha10, hw11, h⟩ := nw_open h
    refine ro_val (d := (some 8)) rfl (.free rfl) rfl (q_alloc (u := Z32) rfl ok33 inf33 ha10 hw11) ?_
    obtain ⟨w12, hw12, hrw12, h⟩ := st_open h
    refine ro_skip (d := none) rfl (.free rfl) rfl (q_store (T := T32) (u := r9) (a := a10) rfl ok33 rfl rfl hrw12 hw12) ?_
    refine ro_nil ?_
    refine wp_seq ?_
    refine wp_text [0, 1, 2] rfl ?_
    refine ro_val (d := (some 27)) rfl (.free rfl) rfl (q_move (v := .pointer (r5)) rfl rfl) ?_
    refine ro_wp rfl (.free rfl) (wp_cl (d := (some 28)) rfl (q_call (k := 17) (l := [.pointer (r5)]) rfl ent17 rfl) h ?_)
    intro r14 w13 h
    refine ro_val (d := (some 9)) rfl (.free rfl) rfl (q_assign (v := .int .i64 (r14)) rfl rfl) ?_
    refine ro_nil ?_
    refine wp_seq ?_
    refine wp_text [0] rfl ?_
    obtain ⟨a15, w16, ha15, hw16, h⟩ := nw_open h
    refine ro_val (d := (some 10)) rfl (.free rfl) rfl (q_alloc (u := (Vector.replicate 120 Z35)) rfl ok60 inf60 ha15 hw16) ?_
    refine ro_nil ?_
    refine wp_seq ?_
    refine wp_seq ?_
    refine wp_text [0] rfl ?_
    refine ro_val (d := (some 11)) rfl (.free rfl) rfl (q_assign (v := .int .i64 ((0 : Int))) rfl rfl) ?_
    refine ro_nil ?_
    refine wp_block ?_
    refine loop_at (σ := Int) (fr := fun g (s : Int) => upd (upd (upd (upd (upd (upd (g) 1 (.int .i64 (t_2))) 7 (.pointer (r5))) 8 (.pointer (some a10))) 9 (.int .i64 (r14))) 10 (.pointer (some a15))) 11 (.int .i64 (s))) (s0 := ((0 : Int))) (upd_step (upd_step (upd_step (upd_step (upd_step (upd_step rfl rfl) rfl) rfl) rfl) rfl) rfl) h ?_
    rintro i_17 g w18 K19 h
    unfold F6_l1 at h
    refine wp_seq ?_
    refine wp_seq ?_
    refine wp_text [0, 1, 2, 3, 4] rfl ?_
    refine ro_val (d := (some 29)) rfl (.free rfl) rfl (q_move (v := .int .i64 (i_17)) rfl rfl) ?_
    refine ro_val (d := (some 30)) rfl (.free rfl) rfl (q_fieldAddr (a := a10) (off := 3) rfl Try.underlying33 rfl rfl ok31 (by decide) rfl) ?_
    obtain ⟨x20, hx20, h⟩ := h
    refine ro_val (d := (some 31)) rfl (.free rfl) rfl (q_load (T := tSlc) (u := x20) (a := (a10.add 3)) rfl ok31 rfl hx20) ?_
    refine ro_val (d := (some 32)) rfl (.free rfl) rfl (q_len (s := x20) rfl Try.underlying31 rfl) ?_
    refine ro_val (d := (some 33)) rfl (.free rfl) rfl (q_lss (a := i_17) (b := (x20.len : Int)) rfl rfl rfl) ?_
    refine ro_nil ?_
    refine wp_if (b := (decide (i_17 < (x20.len : Int)))) rfl h (fun hb70 h => ?_) (fun hb70 h => ?_)
    · refine wp_skip ?_
      refine wp_seq ?_
      refine wp_block ?_
      refine wp_text [0, 1, 2, 3, 4, 5, 6, 7, 8, 9, 10, 11, 12, 13] rfl ?_
      refine ro_val (d := (some 37)) rfl (.free rfl) rfl (q_move (v := .int .i64 (i_17)) rfl rfl) ?_
      refine ro_val (d := (some 38)) rfl (.free rfl) rfl (q_move (v := .pointer (r5)) rfl rfl) ?_
      refine ro_val (d := (some 39)) rfl (.free rfl) rfl (q_fieldAddr (a := a10) (off := 3) rfl Try.underlying33 rfl rfl ok31 (by decide) rfl) ?_
      obtain ⟨x21, hx21, h⟩ := h
      refine ro_val (d := (some 40)) rfl (.free rfl) rfl (q_load (T := tSlc) (u := x21) (a := (a10.add 3)) rfl ok31 rfl hx21) ?_
      refine ro_val (d := (some 41)) rfl (.free rfl) rfl (q_move (v := .int .i64 (i_17)) rfl rfl) ?_
      obtain ⟨a22, ha22, h⟩ := h
      refine ro_val (d := (some 42)) rfl (.free rfl) rfl (q_indexAddr (s := x21) (i := i_17) rfl Try.underlying31 ok58 rfl rfl ha22) ?_
      refine ro_val (d := (some 43)) rfl (.free rfl) rfl (q_fieldAddr (a := a22) (off := 0) rfl Try.underlying58 rfl rfl ok3 (by decide) rfl) ?_
      obtain ⟨x23, hx23, h⟩ := h
      refine ro_val (d := (some 44)) rfl (.free rfl) rfl (q_load (T := (tInt .i64)) (u := x23) (a := (a22.add 0)) rfl ok3 rfl hx23) ?_
      refine ro_wp rfl (.free rfl) (wp_cl (d := (some 45)) rfl (q_call (k := 13) (l := [.pointer (r5), .int .i64 (x23)]) rfl ent13 rfl) h ?_)
      intro r25 w24 h
      refine ro_val (d := (some 36)) rfl (.free rfl) rfl (q_move (v := (tTup2 T35 tBool).enc (r25)) rfl rfl) ?_
      refine ro_val (d := (some 46)) rfl (.free rfl) rfl (q_extract (vs := #[T35.enc (r25.1), .bool (r25.2)]) (v := T35.enc (r25.1)) rfl rfl rfl) ?_
      refine ro_val (d := (some 47)) rfl (.free rfl) rfl (q_extract (vs := #[T35.enc (r25.1), .bool (r25.2)]) (v := .bool (r25.2)) rfl rfl rfl) ?_
      obtain ⟨a26, ha26, h⟩ := h
      refine ro_val (d := (some 48)) rfl (.free rfl) rfl (q_indexAddrA (b := a15) (i := i_17) rfl Try.underlying60 ok36 rfl rfl ha26) ?_
      obtain ⟨w27, hw27, hrw27, h⟩ := st_open h
      refine ro_skip (d := none) rfl (.free rfl) rfl (q_store (T := T35) (u := r25.1) (a := a26) rfl ok36 rfl rfl hrw27 hw27) ?_
      refine ro_nil ?_
      refine wp_text [0, 1, 2] rfl ?_
      refine ro_val (d := (some 34)) rfl (.free rfl) rfl (q_move (v := .int .i64 (i_17)) rfl rfl) ?_
      refine ro_val (d := (some 35)) rfl (.free rfl) rfl (q_add (a := i_17) (b := (1 : Int)) rfl rfl rfl) ?_
      refine ro_val (d := (some 11)) rfl (.free rfl) rfl (q_assign (v := .int .i64 ((IntKind.i64.wrap (i_17 + (1 : Int))))) rfl rfl) ?_
      refine ro_nil ?_
      exact ⟨((IntKind.i64.wrap (i_17 + (1 : Int)))), _, arr (upd_step (upd_step (upd_step (upd_step (upd_step (upd_step rfl rfl) rfl) rfl) rfl) rfl) rfl), h⟩
    · refine wp_exit ?_
      refine wp_seq ?_
      refine wp_text [0, 1, 2, 3, 4, 5] rfl ?_
      refine ro_val (d := (some 49)) rfl (.free rfl) rfl (q_move (v := .pointer (r5)) rfl rfl) ?_
      refine ro_val (d := (some 50)) rfl (.free rfl) rfl (q_move (v := .int .i64 (t_2)) rfl rfl) ?_
      refine ro_val (d := (some 51)) rfl (.free rfl) rfl (q_fieldAddr (a := a10) (off := 3) rfl Try.underlying33 rfl rfl ok31 (by decide) rfl) ?_
      obtain ⟨x28, hx28, h⟩ := h
      refine ro_val (d := (some 52)) rfl (.free rfl) rfl (q_load (T := tSlc) (u := x28) (a := (a10.add 3)) rfl ok31 rfl hx28) ?_
      refine ro_wp rfl (.free rfl) (wp_cl (d := (some 53)) rfl (q_call (k := 23) (l := [.pointer (r5), .int .i64 (t_2), tSlc.enc (x28)]) rfl ent23 rfl) h ?_)
      intro r30 w29 h
      refine ro_val (d := (some 12)) rfl (.free rfl) rfl (q_assign (v := .int .i64 (r30)) rfl rfl) ?_
      refine ro_nil ?_
      refine wp_seq ?_
      refine wp_seq ?_
      refine wp_text [0] rfl ?_
      refine ro_val (d := (some 13)) rfl (.free rfl) rfl (q_assign (v := .int .i64 ((0 : Int))) rfl rfl) ?_
      refine ro_nil ?_
      refine wp_block ?_
      refine loop_at (σ := Int) (fr := fun g (s : Int) => upd (upd (upd (upd (upd (upd (upd (g) 1 (.int .i64 (t_2))) 7 (.pointer (r5))) 8 (.pointer (some a10))) 9 (.int .i64 (r14))) 10 (.pointer (some a15))) 12 (.int .i64 (r30))) 13 (.int .i64 (s))) (s0 := ((0 : Int))) (upd_step (upd_step (upd_step (upd_step (upd_step (upd_step (upd_step rfl rfl) rfl) rfl) rfl) rfl) rfl) rfl) h ?_
      rintro i_31 g w32 K33 h
      unfold F6_l2 at h
      refine wp_seq ?_
      refine wp_seq ?_
      refine wp_text [0, 1, 2, 3, 4] rfl ?_
      refine ro_val (d := (some 54)) rfl (.free rfl) rfl (q_move (v := .int .i64 (i_31)) rfl rfl) ?_
      refine ro_val (d := (some 55)) rfl (.free rfl) rfl (q_fieldAddr (a := a10) (off := 3) rfl Try.underlying33 rfl rfl ok31 (by decide) rfl) ?_
      obtain ⟨x34, hx34, h⟩ := h
      refine ro_val (d := (some 56)) rfl (.free rfl) rfl (q_load (T := tSlc) (u := x34) (a := (a10.add 3)) rfl ok31 rfl hx34) ?_
      refine ro_val (d := (some 57)) rfl (.free rfl) rfl (q_len (s := x34) rfl Try.underlying31 rfl) ?_
      refine ro_val (d := (some 58)) rfl (.free rfl) rfl (q_lss (a := i_31) (b := (x34.len : Int)) rfl rfl rfl) ?_
      refine ro_nil ?_
      refine wp_if (b := (decide (i_31 < (x34.len : Int)))) rfl h (fun hb69 h => ?_) (fun hb69 h => ?_)
      · refine wp_skip ?_
        refine wp_seq ?_
        refine wp_block ?_
        refine wp_seq ?_
        refine wp_text [0, 1, 2, 3, 4, 5, 6, 7, 8, 9, 10, 11, 12, 13] rfl ?_
        refine ro_val (d := (some 62)) rfl (.free rfl) rfl (q_move (v := .pointer (r5)) rfl rfl) ?_
        refine ro_val (d := (some 63)) rfl (.free rfl) rfl (q_fieldAddr (a := a10) (off := 3) rfl Try.underlying33 rfl rfl ok31 (by decide) rfl) ?_
        obtain ⟨x35, hx35, h⟩ := h
        refine ro_val (d := (some 64)) rfl (.free rfl) rfl (q_load (T := tSlc) (u := x35) (a := (a10.add 3)) rfl ok31 rfl hx35) ?_
        refine ro_val (d := (some 65)) rfl (.free rfl) rfl (q_move (v := .int .i64 (i_31)) rfl rfl) ?_
        obtain ⟨a36, ha36, h⟩ := h
        refine ro_val (d := (some 66)) rfl (.free rfl) rfl (q_indexAddr (s := x35) (i := i_31) rfl Try.underlying31 ok58 rfl rfl ha36) ?_
        refine ro_val (d := (some 67)) rfl (.free rfl) rfl (q_fieldAddr (a := a36) (off := 0) rfl Try.underlying58 rfl rfl ok3 (by decide) rfl) ?_
        obtain ⟨x37, hx37, h⟩ := h
        refine ro_val (d := (some 68)) rfl (.free rfl) rfl (q_load (T := (tInt .i64)) (u := x37) (a := (a36.add 0)) rfl ok3 rfl hx37) ?_
        refine ro_wp rfl (.free rfl) (wp_cl (d := (some 69)) rfl (q_call (k := 13) (l := [.pointer (r5), .int .i64 (x37)]) rfl ent13 rfl) h ?_)
        intro r39 w38 h
        refine ro_val (d := (some 61)) rfl (.free rfl) rfl (q_move (v := (tTup2 T35 tBool).enc (r39)) rfl rfl) ?_
        refine ro_val (d := (some 70)) rfl (.free rfl) rfl (q_extract (vs := #[T35.enc (r39.1), .bool (r39.2)]) (v := T35.enc (r39.1)) rfl rfl rfl) ?_
        refine ro_val (d := (some 71)) rfl (.free rfl) rfl (q_extract (vs := #[T35.enc (r39.1), .bool (r39.2)]) (v := .bool (r39.2)) rfl rfl rfl) ?_
        obtain ⟨a40, w41, ha40, hw41, h⟩ := nw_open h
        refine ro_val (d := (some 14)) rfl (.free rfl) rfl (q_alloc (u := Z35) rfl ok36 inf36 ha40 hw41) ?_
        obtain ⟨w42, hw42, hrw42, h⟩ := st_open h
        refine ro_skip (d := none) rfl (.free rfl) rfl (q_store (T := T35) (u := r39.1) (a := a40) rfl ok36 rfl rfl hrw42 hw42) ?_
        refine ro_val (d := (some 15)) rfl (.free rfl) rfl (q_assign (v := .bool (r39.2)) rfl rfl) ?_
        refine ro_nil ?_
        refine wp_seq ?_
        obtain ⟨w43, hw43, h⟩ := dr_open h
        refine wp_drawn 38 mixed rfl (by kernel_rfl) (by intro c a d v w h; cases d <;> exact h) hw43 (fun hD => ?_)
        refine rd_pure (i := 0) (d := (some 72)) hD (by kernel_rfl) (by kernel_rfl) rfl (.free rfl) rfl (fun _ => q_move (v := .int .i64 (r30)) rfl rfl) ?_
        refine rd_pure (i := 1) (d := (some 73)) hD (by kernel_rfl) (by kernel_rfl) rfl (.free rfl) rfl (fun _ => q_eql (a := r30) (b := (0 : Int)) rfl rfl rfl) ?_
        refine rd_pure (i := 2) (d := (some 74)) hD (by kernel_rfl) (by kernel_rfl) rfl (.free rfl) rfl (fun _ => q_move (v := .bool ((r30 == (0 : Int)))) rfl rfl) ?_
        refine rd_gpure (i := 3) (g := (r30 == (0 : Int))) (d := (some 75)) hD (by kernel_rfl) (by kernel_rfl) rfl (.yes 2 74 true (r30 == (0 : Int)) rfl rfl rfl rfl) rfl (fun hg _ => q_fieldAddr (a := a40) (off := 0) rfl Try.underlying36 rfl rfl ok2 (by decide) rfl) ?_
        refine rd_gpure (i := 5) (g := (r30 == (0 : Int))) (d := (some 77)) hD (by kernel_rfl) (by kernel_rfl) rfl (.yes 2 74 true (r30 == (0 : Int)) rfl rfl rfl rfl) rfl (fun hg _ => q_move (v := .int .i64 (t_2)) rfl rfl) ?_
        obtain ⟨x44, hx44, h⟩ := h
        refine rd_gread (i := 4) (g := (r30 == (0 : Int))) (d := (some 76)) (fun W => (RdAt (tInt .i64) (a40.add 0) W) x44) hD (by kernel_rfl) (by kernel_rfl) rfl (.yes 2 74 true (r30 == (0 : Int)) rfl rfl rfl rfl) rfl (fun hg W hr => q_load (T := (tInt .i64)) (u := x44) (a := (a40.add 0)) rfl ok2 (gvb_yes hg) hr) hx44 ?_
        refine rd_gpure (i := 6) (g := (r30 == (0 : Int))) (d := (some 78)) hD (by kernel_rfl) (by kernel_rfl) rfl (.yes 2 74 true (r30 == (0 : Int)) rfl rfl rfl rfl) rfl (fun hg _ => q_neq (a := x44) (b := t_2) rfl (gvb_yes hg) (gvb_yes hg)) ?_
        refine rd_gpure (i := 7) (g := (r30 == (0 : Int))) (d := (some 79)) hD (by kernel_rfl) (by kernel_rfl) rfl (.yes 2 74 true (r30 == (0 : Int)) rfl rfl rfl rfl) rfl (fun hg _ => q_move (v := .bool ((x44 != t_2))) rfl (gvb_yes hg)) ?_
        refine rd_gpure (i := 8) (g := ((r30 == (0 : Int)) && (!(x44 != t_2)))) (d := (some 80)) hD (by kernel_rfl) (by kernel_rfl) rfl (.no 7 79 (r30 == (0 : Int)) (x44 != t_2) rfl rfl rfl rfl) rfl (fun hg _ => q_fieldAddr (a := a40) (off := 1) rfl Try.underlying36 rfl rfl ok2 (by decide) rfl) ?_
        refine rd_gpure (i := 10) (g := ((r30 == (0 : Int)) && (!(x44 != t_2)))) (d := (some 82)) hD (by kernel_rfl) (by kernel_rfl) rfl (.no 7 79 (r30 == (0 : Int)) (x44 != t_2) rfl rfl rfl rfl) rfl (fun hg _ => q_fieldAddr (a := a10) (off := 3) rfl Try.underlying33 rfl rfl ok31 (by decide) rfl) ?_
        refine rd_gpure (i := 12) (g := ((r30 == (0 : Int)) && (!(x44 != t_2)))) (d := (some 84)) hD (by kernel_rfl) (by kernel_rfl) rfl (.no 7 79 (r30 == (0 : Int)) (x44 != t_2) rfl rfl rfl rfl) rfl (fun hg _ => q_move (v := .int .i64 (i_31)) rfl rfl) ?_
        obtain ⟨x45, hx45, h⟩ := h
        refine rd_gread (i := 9) (g := ((r30 == (0 : Int)) && (!(x44 != t_2)))) (d := (some 81)) (fun W => (RdAt (tInt .i64) (a40.add 1) W) x45) hD (by kernel_rfl) (by kernel_rfl) rfl (.no 7 79 (r30 == (0 : Int)) (x44 != t_2) rfl rfl rfl rfl) rfl (fun hg W hr => q_load (T := (tInt .i64)) (u := x45) (a := (a40.add 1)) rfl ok2 (gvb_yes hg) hr) hx45 ?_
        obtain ⟨x46, hx46, h⟩ := h
        refine rd_gread (i := 11) (g := ((r30 == (0 : Int)) && (!(x44 != t_2)))) (d := (some 83)) (fun W => (RdAt tSlc (a10.add 3) W) x46) hD (by kernel_rfl) (by kernel_rfl) rfl (.no 7 79 (r30 == (0 : Int)) (x44 != t_2) rfl rfl rfl rfl) rfl (fun hg W hr => q_load (T := tSlc) (u := x46) (a := (a10.add 3)) rfl ok31 (gvb_yes hg) hr) hx46 ?_
        obtain ⟨a47, ha47, h⟩ := h
        refine rd_gpure (i := 13) (g := ((r30 == (0 : Int)) && (!(x44 != t_2)))) (d := (some 85)) hD (by kernel_rfl) (by kernel_rfl) rfl (.no 7 79 (r30 == (0 : Int)) (x44 != t_2) rfl rfl rfl rfl) rfl (fun hg _ => q_indexAddr (s := x46) (i := i_31) rfl Try.underlying31 ok58 (gvb_yes hg) (gvb_yes hg) (ha47 hg)) ?_
        refine rd_gpure (i := 14) (g := ((r30 == (0 : Int)) && (!(x44 != t_2)))) (d := (some 86)) hD (by kernel_rfl) (by kernel_rfl) rfl (.no 7 79 (r30 == (0 : Int)) (x44 != t_2) rfl rfl rfl rfl) rfl (fun hg _ => q_fieldAddr (a := a47) (off := 1) rfl Try.underlying58 rfl rfl ok2 (by decide) (gvb_yes hg)) ?_
        obtain ⟨x48, hx48, h⟩ := h
        refine rd_gread (i := 15) (g := ((r30 == (0 : Int)) && (!(x44 != t_2)))) (d := (some 87)) (fun W => (RdAt (tInt .i64) (a47.add 1) W) x48) hD (by kernel_rfl) (by kernel_rfl) rfl (.no 7 79 (r30 == (0 : Int)) (x44 != t_2) rfl rfl rfl rfl) rfl (fun hg W hr => q_load (T := (tInt .i64)) (u := x48) (a := (a47.add 1)) rfl ok2 (gvb_yes hg) hr) hx48 ?_
        refine rd_gpure (i := 16) (g := ((r30 == (0 : Int)) && (!(x44 != t_2)))) (d := (some 88)) hD (by kernel_rfl) (by kernel_rfl) rfl (.no 7 79 (r30 == (0 : Int)) (x44 != t_2) rfl rfl rfl rfl) rfl (fun hg _ => q_neq (a := x45) (b := x48) rfl (gvb_yes hg) (gvb_yes hg)) ?_
        refine rd_gpure (i := 17) (g := (r30 == (0 : Int))) (d := (some 89)) hD (by kernel_rfl) (by kernel_rfl) rfl (.yes 2 74 true (r30 == (0 : Int)) rfl rfl rfl rfl) rfl (fun hg _ => q_pickNF (g0 := (r30 == (0 : Int))) (a := (x44 != t_2)) (c := (x45 != x48)) hg rfl rfl rfl rfl) ?_
        refine rd_gpure (i := 18) (g := (r30 == (0 : Int))) (d := (some 90)) hD (by kernel_rfl) (by kernel_rfl) rfl (.yes 2 74 true (r30 == (0 : Int)) rfl rfl rfl rfl) rfl (fun hg _ => q_move (v := .bool (((x44 != t_2) || (x45 != x48)))) rfl (gvb_yes hg)) ?_
        refine rd_gpure (i := 19) (g := ((r30 == (0 : Int)) && (!((x44 != t_2) || (x45 != x48))))) (d := (some 91)) hD (by kernel_rfl) (by kernel_rfl) rfl (.no 18 90 (r30 == (0 : Int)) ((x44 != t_2) || (x45 != x48)) rfl rfl rfl rfl) rfl (fun hg _ => q_move (v := .int .i64 (i_31)) rfl rfl) ?_
        obtain ⟨a49, ha49, h⟩ := h
        refine rd_gpure (i := 20) (g := ((r30 == (0 : Int)) && (!((x44 != t_2) || (x45 != x48))))) (d := (some 92)) hD (by kernel_rfl) (by kernel_rfl) rfl (.no 18 90 (r30 == (0 : Int)) ((x44 != t_2) || (x45 != x48)) rfl rfl rfl rfl) rfl (fun hg _ => q_indexAddrA (b := a15) (i := i_31) rfl Try.underlying60 ok36 rfl (gvb_yes hg) (ha49 hg)) ?_
        refine rd_gpure (i := 21) (g := ((r30 == (0 : Int)) && (!((x44 != t_2) || (x45 != x48))))) (d := (some 93)) hD (by kernel_rfl) (by kernel_rfl) rfl (.no 18 90 (r30 == (0 : Int)) ((x44 != t_2) || (x45 != x48)) rfl rfl rfl rfl) rfl (fun hg _ => q_fieldAddr (a := a49) (off := 0) rfl Try.underlying36 rfl rfl ok2 (by decide) (gvb_yes hg)) ?_
        refine rd_gpure (i := 23) (g := ((r30 == (0 : Int)) && (!((x44 != t_2) || (x45 != x48))))) (d := (some 95)) hD (by kernel_rfl) (by kernel_rfl) rfl (.no 18 90 (r30 == (0 : Int)) ((x44 != t_2) || (x45 != x48)) rfl rfl rfl rfl) rfl (fun hg _ => q_move (v := .int .i64 (t_2)) rfl rfl) ?_
        obtain ⟨x50, hx50, h⟩ := h
        refine rd_gread (i := 22) (g := ((r30 == (0 : Int)) && (!((x44 != t_2) || (x45 != x48))))) (d := (some 94)) (fun W => (RdAt (tInt .i64) (a49.add 0) W) x50) hD (by kernel_rfl) (by kernel_rfl) rfl (.no 18 90 (r30 == (0 : Int)) ((x44 != t_2) || (x45 != x48)) rfl rfl rfl rfl) rfl (fun hg W hr => q_load (T := (tInt .i64)) (u := x50) (a := (a49.add 0)) rfl ok2 (gvb_yes hg) hr) hx50 ?_
        refine rd_gpure (i := 24) (g := ((r30 == (0 : Int)) && (!((x44 != t_2) || (x45 != x48))))) (d := (some 96)) hD (by kernel_rfl) (by kernel_rfl) rfl (.no 18 90 (r30 == (0 : Int)) ((x44 != t_2) || (x45 != x48)) rfl rfl rfl rfl) rfl (fun hg _ => q_geq (a := x50) (b := t_2) rfl (gvb_yes hg) (gvb_yes hg)) ?_
        refine rd_gpure (i := 25) (g := (r30 == (0 : Int))) (d := (some 97)) hD (by kernel_rfl) (by kernel_rfl) rfl (.yes 2 74 true (r30 == (0 : Int)) rfl rfl rfl rfl) rfl (fun hg _ => q_pickNF (g0 := (r30 == (0 : Int))) (a := ((x44 != t_2) || (x45 != x48))) (c := (decide (x50 ≥ t_2))) hg rfl rfl rfl rfl) ?_
        refine rd_pure (i := 26) (d := (some 98)) hD (by kernel_rfl) (by kernel_rfl) rfl (.free rfl) rfl (fun _ => q_pickGT (a := (r30 == (0 : Int))) (b := (((x44 != t_2) || (x45 != x48)) || (decide (x50 ≥ t_2)))) rfl rfl rfl rfl) ?_
        refine rd_pure (i := 27) (d := (some 99)) hD (by kernel_rfl) (by kernel_rfl) rfl (.free rfl) rfl (fun _ => q_move (v := .bool (((r30 == (0 : Int)) && (((x44 != t_2) || (x45 != x48)) || (decide (x50 ≥ t_2)))))) rfl rfl) ?_
        refine rd_gpure (i := 28) (g := (!((r30 == (0 : Int)) && (((x44 != t_2) || (x45 != x48)) || (decide (x50 ≥ t_2)))))) (d := (some 100)) hD (by kernel_rfl) (by kernel_rfl) rfl (.no 27 99 true ((r30 == (0 : Int)) && (((x44 != t_2) || (x45 != x48)) || (decide (x50 ≥ t_2)))) rfl rfl rfl rfl) rfl (fun hg _ => q_move (v := .int .i64 (r30)) rfl rfl) ?_
        refine rd_gpure (i := 29) (g := (!((r30 == (0 : Int)) && (((x44 != t_2) || (x45 != x48)) || (decide (x50 ≥ t_2)))))) (d := (some 101)) hD (by kernel_rfl) (by kernel_rfl) rfl (.no 27 99 true ((r30 == (0 : Int)) && (((x44 != t_2) || (x45 != x48)) || (decide (x50 ≥ t_2)))) rfl rfl rfl rfl) rfl (fun hg _ => q_neq (a := r30) (b := (0 : Int)) rfl (gvb_yes hg) rfl) ?_
        refine rd_gpure (i := 30) (g := (!((r30 == (0 : Int)) && (((x44 != t_2) || (x45 != x48)) || (decide (x50 ≥ t_2)))))) (d := (some 102)) hD (by kernel_rfl) (by kernel_rfl) rfl (.no 27 99 true ((r30 == (0 : Int)) && (((x44 != t_2) || (x45 != x48)) || (decide (x50 ≥ t_2)))) rfl rfl rfl rfl) rfl (fun hg _ => q_move (v := .bool ((r30 != (0 : Int)))) rfl (gvb_yes hg)) ?_
        refine rd_gpure (i := 32) (g := ((!((r30 == (0 : Int)) && (((x44 != t_2) || (x45 != x48)) || (decide (x50 ≥ t_2))))) && (r30 != (0 : Int)))) (d := (some 104)) hD (by kernel_rfl) (by kernel_rfl) rfl (.yes 30 102 (!((r30 == (0 : Int)) && (((x44 != t_2) || (x45 != x48)) || (decide (x50 ≥ t_2))))) (r30 != (0 : Int)) rfl rfl rfl rfl) rfl (fun hg _ => q_move (v := .int .i64 (i_31)) rfl rfl) ?_
        obtain ⟨a51, ha51, h⟩ := h
        refine rd_gpure (i := 33) (g := ((!((r30 == (0 : Int)) && (((x44 != t_2) || (x45 != x48)) || (decide (x50 ≥ t_2))))) && (r30 != (0 : Int)))) (d := (some 105)) hD (by kernel_rfl) (by kernel_rfl) rfl (.yes 30 102 (!((r30 == (0 : Int)) && (((x44 != t_2) || (x45 != x48)) || (decide (x50 ≥ t_2))))) (r30 != (0 : Int)) rfl rfl rfl rfl) rfl (fun hg _ => q_indexAddrA (b := a15) (i := i_31) rfl Try.underlying60 ok36 rfl (gvb_yes hg) (ha51 hg)) ?_
        obtain ⟨x52, hx52, h⟩ := h
        refine rd_gread (i := 31) (g := ((!((r30 == (0 : Int)) && (((x44 != t_2) || (x45 != x48)) || (decide (x50 ≥ t_2))))) && (r30 != (0 : Int)))) (d := (some 103)) (fun W => (RdAt T35 a40 W) x52) hD (by kernel_rfl) (by kernel_rfl) rfl (.yes 30 102 (!((r30 == (0 : Int)) && (((x44 != t_2) || (x45 != x48)) || (decide (x50 ≥ t_2))))) (r30 != (0 : Int)) rfl rfl rfl rfl) rfl (fun hg W hr => q_load (T := T35) (u := x52) (a := a40) rfl ok36 rfl hr) hx52 ?_
        obtain ⟨x53, hx53, h⟩ := h
        refine rd_gread (i := 34) (g := ((!((r30 == (0 : Int)) && (((x44 != t_2) || (x45 != x48)) || (decide (x50 ≥ t_2))))) && (r30 != (0 : Int)))) (d := (some 106)) (fun W => (RdAt T35 a51 W) x53) hD (by kernel_rfl) (by kernel_rfl) rfl (.yes 30 102 (!((r30 == (0 : Int)) && (((x44 != t_2) || (x45 != x48)) || (decide (x50 ≥ t_2))))) (r30 != (0 : Int)) rfl rfl rfl rfl) rfl (fun hg W hr => q_load (T := T35) (u := x53) (a := a51) rfl ok36 (gvb_yes hg) hr) hx53 ?_
        refine rd_gpure (i := 35) (g := ((!((r30 == (0 : Int)) && (((x44 != t_2) || (x45 != x48)) || (decide (x50 ≥ t_2))))) && (r30 != (0 : Int)))) (d := (some 107)) hD (by kernel_rfl) (by kernel_rfl) rfl (.yes 30 102 (!((r30 == (0 : Int)) && (((x44 != t_2) || (x45 != x48)) || (decide (x50 ≥ t_2))))) (r30 != (0 : Int)) rfl rfl rfl rfl) rfl (fun hg _ => q_neT (r := (S35.eqb x52 x53)) rfl (eq36 x52 x53) (gvb_yes hg) (gvb_yes hg)) ?_
        refine rd_gpure (i := 36) (g := (!((r30 == (0 : Int)) && (((x44 != t_2) || (x45 != x48)) || (decide (x50 ≥ t_2)))))) (d := (some 108)) hD (by kernel_rfl) (by kernel_rfl) rfl (.no 27 99 true ((r30 == (0 : Int)) && (((x44 != t_2) || (x45 != x48)) || (decide (x50 ≥ t_2)))) rfl rfl rfl rfl) rfl (fun hg _ => q_pickNT (g0 := (!((r30 == (0 : Int)) && (((x44 != t_2) || (x45 != x48)) || (decide (x50 ≥ t_2)))))) (a := (r30 != (0 : Int))) (b := (!(S35.eqb x52 x53))) hg rfl rfl rfl rfl) ?_
        refine rd_pure (i := 37) (d := (some 109)) hD (by kernel_rfl) (by kernel_rfl) rfl (.free rfl) rfl (fun _ => q_pickGF (a := ((r30 == (0 : Int)) && (((x44 != t_2) || (x45 != x48)) || (decide (x50 ≥ t_2))))) (c := ((r30 != (0 : Int)) && (!(S35.eqb x52 x53)))) rfl rfl rfl rfl) ?_
        refine rd_nil (by kernel_rfl) ?_
        refine wp_if (b := (((r30 == (0 : Int)) && (((x44 != t_2) || (x45 != x48)) || (decide (x50 ≥ t_2)))) || ((r30 != (0 : Int)) && (!(S35.eqb x52 x53))))) rfl h (fun hb54 h => ?_) (fun hb54 h => ?_)
        · refine wp_seq ?_
          refine wp_text [0] rfl ?_
          refine ro_val (d := (some 6)) rfl (.free rfl) rfl (q_assign (v := .bool (false)) rfl rfl) ?_
          refine ro_nil ?_
          refine wp_ret ?_
          exact ret_ok rfl (.cons (.tmp (v := .bool (false)) rfl) .nil) ⟨false, rfl, h⟩
        · refine wp_skip ?_
          refine wp_text [0, 1, 2] rfl ?_
          refine ro_val (d := (some 59)) rfl (.free rfl) rfl (q_move (v := .int .i64 (i_31)) rfl rfl) ?_
          refine ro_val (d := (some 60)) rfl (.free rfl) rfl (q_add (a := i_31) (b := (1 : Int)) rfl rfl rfl) ?_
          refine ro_val (d := (some 13)) rfl (.free rfl) rfl (q_assign (v := .int .i64 ((IntKind.i64.wrap (i_31 + (1 : Int))))) rfl rfl) ?_
          refine ro_nil ?_
          exact ⟨((IntKind.i64.wrap (i_31 + (1 : Int)))), _, arr (upd_step (upd_step (upd_step (upd_step (upd_step (upd_step (upd_step rfl rfl) rfl) rfl) rfl) rfl) rfl) rfl), h⟩
      · refine wp_exit ?_
        refine wp_seq ?_
        refine wp_seq ?_
        refine wp_text [0, 1] rfl ?_
        refine ro_val (d := (some 110)) rfl (.free rfl) rfl (q_move (v := .int .i64 (r30)) rfl rfl) ?_
        refine ro_val (d := (some 111)) rfl (.free rfl) rfl (q_eql (a := r30) (b := (0 : Int)) rfl rfl rfl) ?_
        refine ro_nil ?_
        refine wp_if (b := (r30 == (0 : Int))) rfl h (fun hb68 h => ?_) (fun hb68 h => ?_)
        · refine seq_join (σ := Bool) (J := fun (s : Bool) w => F6_j3 s w R) (fr := fun g (s : Bool) => upd (g) 6 (.bool (s))) ?_ ?_
          · rintro t_55 g w56 h
            unfold F6_j3 at h
            refine wp_ret ?_
            exact ret_ok rfl (.cons (.tmp (v := .bool (t_55)) rfl) .nil) ⟨t_55, rfl, h⟩
          · obtain ⟨w57, hw57, h⟩ := dr_open h
            refine wp_drawn 15 mixed rfl (by kernel_rfl) (by intro c a d v w h; cases d <;> exact h) hw57 (fun hD => ?_)
            refine rd_pure (i := 0) (d := (some 112)) hD (by kernel_rfl) (by kernel_rfl) rfl (.free rfl) rfl (fun _ => q_move (v := .pointer (r5)) rfl rfl) ?_
            refine rd_pure (i := 2) (d := (some 114)) hD (by kernel_rfl) (by kernel_rfl) rfl (.free rfl) rfl (fun _ => q_move (v := .int .i64 (r14)) rfl rfl) ?_
            refine rd_pure (i := 3) (d := (some 115)) hD (by kernel_rfl) (by kernel_rfl) rfl (.free rfl) rfl (fun _ => q_fieldAddr (a := a10) (off := 3) rfl Try.underlying33 rfl rfl ok31 (by decide) rfl) ?_
            obtain ⟨x58, hx58, h⟩ := h
            refine rd_read (i := 4) (d := (some 116)) (fun W => (RdAt tSlc (a10.add 3) W) x58) hD (by kernel_rfl) (by kernel_rfl) rfl (.free rfl) rfl (fun W hr => q_load (T := tSlc) (u := x58) (a := (a10.add 3)) rfl ok31 rfl hr) hx58 ?_
            refine rd_pure (i := 5) (d := (some 117)) hD (by kernel_rfl) (by kernel_rfl) rfl (.free rfl) rfl (fun _ => q_len (s := x58) rfl Try.underlying31 rfl) ?_
            refine rd_pure (i := 6) (d := (some 118)) hD (by kernel_rfl) (by kernel_rfl) rfl (.free rfl) rfl (fun _ => q_add (a := r14) (b := (x58.len : Int)) rfl rfl rfl) ?_
            refine rd_one (i := 1) (by kernel_rfl) ?_
            refine po_wp rfl (.free rfl) (wp_cl (d := (some 113)) rfl (q_call (k := 17) (l := [.pointer (r5)]) rfl ent17 rfl) h ?_)
            intro r60 w59 h
            obtain ⟨hk61, h⟩ := h
            refine ⟨(hk_keep (fun _ => hk61) hk_nil), ?_⟩
            refine rd_pure (i := 7) (d := (some 119)) hD (by kernel_rfl) (by kernel_rfl) rfl (.free rfl) rfl (fun _ => q_eql (a := r60) (b := (IntKind.i64.wrap (r14 + (x58.len : Int)))) rfl rfl rfl) ?_
            refine rd_pure (i := 8) (d := (some 120)) hD (by kernel_rfl) (by kernel_rfl) rfl (.free rfl) rfl (fun _ => q_move (v := .bool ((r60 == (IntKind.i64.wrap (r14 + (x58.len : Int)))))) rfl rfl) ?_
            refine ro_if (b := (r60 == (IntKind.i64.wrap (r14 + (x58.len : Int))))) h (fun hb62 h => ?_) (fun hb62 h => ?_)
            · refine rd_pure (i := 9) (d := (some 121)) hD (by kernel_rfl) (by kernel_rfl) rfl (.by_ 8 true 120 (r60 == (IntKind.i64.wrap (r14 + (x58.len : Int)))) rfl rfl rfl hb62) rfl (fun _ => q_move (v := .int .i64 (t_2)) rfl rfl) ?_
              refine rd_pure (i := 10) (d := (some 122)) hD (by kernel_rfl) (by kernel_rfl) rfl (.by_ 8 true 120 (r60 == (IntKind.i64.wrap (r14 + (x58.len : Int)))) rfl rfl rfl hb62) rfl (fun _ => q_move (v := .pointer (r5)) rfl rfl) ?_
              refine rd_one (i := 11) (by kernel_rfl) ?_
              refine po_wp rfl (.by_ 8 true 120 (r60 == (IntKind.i64.wrap (r14 + (x58.len : Int)))) rfl rfl rfl hb62) (wp_cl (d := (some 123)) rfl (q_call (k := 15) (l := [.pointer (r5)]) rfl ent15 rfl) h ?_)
              intro r64 w63 h
              obtain ⟨hk65, h⟩ := h
              refine ⟨(hk_keep (fun _ => hk65) hk_nil), ?_⟩
              refine rd_pure (i := 12) (d := (some 124)) hD (by kernel_rfl) (by kernel_rfl) rfl (.by_ 8 true 120 (r60 == (IntKind.i64.wrap (r14 + (x58.len : Int)))) rfl rfl rfl hb62) rfl (fun _ => q_gtr (a := t_2) (b := r64) rfl rfl rfl) ?_
              refine rd_pure (i := 13) (d := (some 125)) hD (by kernel_rfl) (by kernel_rfl) rfl (.free rfl) rfl (fun _ => q_pickT (v := .bool ((decide (t_2 > r64)))) (b := (r60 == (IntKind.i64.wrap (r14 + (x58.len : Int))))) rfl rfl hb62 rfl) ?_
              refine rd_pure (i := 14) (d := (some 6)) hD (by kernel_rfl) (by kernel_rfl) rfl (.free rfl) rfl (fun _ => q_assign (v := .bool ((decide (t_2 > r64)))) rfl rfl) ?_
              refine rd_nil (by kernel_rfl) ?_
              exact ⟨((decide (t_2 > r64))), _, arr (upd_step rfl rfl), h⟩
            · refine rd_bar (i := 9) (d := (some 121)) hD (by kernel_rfl) (by kernel_rfl) rfl (.by_ 8 true 120 (r60 == (IntKind.i64.wrap (r14 + (x58.len : Int)))) rfl rfl rfl hb62) rfl ?_
              refine rd_bar (i := 10) (d := (some 122)) hD (by kernel_rfl) (by kernel_rfl) rfl (.by_ 8 true 120 (r60 == (IntKind.i64.wrap (r14 + (x58.len : Int)))) rfl rfl rfl hb62) rfl ?_
              refine rd_one (i := 11) (by kernel_rfl) ?_
              refine po_bar (d := (some 123)) rfl (.by_ 8 true 120 (r60 == (IntKind.i64.wrap (r14 + (x58.len : Int)))) rfl rfl rfl hb62) rfl ⟨fun _ _ _ h => h, ?_⟩
              refine rd_bar (i := 12) (d := (some 124)) hD (by kernel_rfl) (by kernel_rfl) rfl (.by_ 8 true 120 (r60 == (IntKind.i64.wrap (r14 + (x58.len : Int)))) rfl rfl rfl hb62) rfl ?_
              refine rd_pure (i := 13) (d := (some 125)) hD (by kernel_rfl) (by kernel_rfl) rfl (.free rfl) rfl (fun _ => q_pickF (v := .bool (false)) (b := (r60 == (IntKind.i64.wrap (r14 + (x58.len : Int))))) rfl rfl hb62 rfl) ?_
              refine rd_pure (i := 14) (d := (some 6)) hD (by kernel_rfl) (by kernel_rfl) rfl (.free rfl) rfl (fun _ => q_assign (v := .bool (false)) rfl rfl) ?_
              refine rd_nil (by kernel_rfl) ?_
              exact ⟨(false), _, arr (upd_step rfl rfl), h⟩
        · refine wp_skip ?_
          refine wp_seq ?_
          refine wp_text [0, 1, 2, 3, 4] rfl ?_
          refine ro_val (d := (some 126)) rfl (.free rfl) rfl (q_move (v := .pointer (r5)) rfl rfl) ?_
          refine ro_wp rfl (.free rfl) (wp_cl (d := (some 127)) rfl (q_call (k := 17) (l := [.pointer (r5)]) rfl ent17 rfl) h ?_)
          intro r67 w66 h
          refine ro_val (d := (some 128)) rfl (.free rfl) rfl (q_move (v := .int .i64 (r14)) rfl rfl) ?_
          refine ro_val (d := (some 129)) rfl (.free rfl) rfl (q_eql (a := r67) (b := r14) rfl rfl rfl) ?_
          refine ro_val (d := (some 6)) rfl (.free rfl) rfl (q_assign (v := .bool ((r67 == r14))) rfl rfl) ?_
          refine ro_nil ?_
          refine wp_ret ?_
          exact ret_ok rfl (.cons (.tmp (v := .bool ((r67 == r14))) rfl) .nil) ⟨(r67 == r14), rfl, h⟩

end Go.Proofs.Ytdgdkbfigndndaa.Cf
