/- Characteristic formulae of Go functions, and that they are. Printed by gen.py (own tool). -/
import Derived.Test.YtojcgejjdfcaaaaTy
namespace Go.Proofs.Ytojcgejjdfcaaaa.Cf
open Go
set_option maxRecDepth 100000
set_option maxHeartbeats 1000000
set_option linter.unusedVariables false
set_option linter.unusedSimpArgs false

-- (*moiety/locks.Table).Holds
def F21 (t_1 : (Option Addr)) (k_2 : Int) (w : World) (R : Slc → World → Prop) : Prop :=
  ex (NC t_1) fun a3 =>
  ex (RdAt tMap (a3.add 0) w) fun x4 =>
  ex (MapGet tPtr .i64 x4 k_2 w) fun m5 =>
  if ((m5.getD (none : Option Addr), m5.isSome)).2 = true then (
    ex (NC (((m5.getD (none : Option Addr), m5.isSome)).1)) fun a6 =>
    ex (RdAt tMap (a6.add 0) w) fun x7 =>
    cl Try.prog 35 [.map (x7)] tSlc w fun r9 w8 =>
    R r9 w8
  ) else (
    R (⟨none, 0, 0⟩ : Slc) w
  )
theorem F21_ok {t_1 : (Option Addr)} {k_2 : Int} {w : World} {R : Slc → World → Prop} (h : F21 t_1 k_2 w R) : cl Try.prog 21 [.pointer (t_1), .int .i64 (k_2)] tSlc w R := by
  unfold F21 at h
  refine calls_start 22 Try.func21 rfl rfl (Nat.le_of_ble_eq_true rfl) ?_
  refine wp_seq ?_
  refine wp_text [0] rfl ?_
  refine ro_val (d := (some 4)) rfl (.free rfl) rfl (q_assign (v := tSlc.enc ((⟨none, 0, 0⟩ : Slc))) rfl rfl) ?_
  refine ro_nil ?_
  refine wp_seq ?_
  refine wp_seq ?_
  refine wp_text [0, 1, 2, 3, 4, 5, 6, 7, 8, 9, 10] rfl ?_
  refine ro_val (d := (some 8)) rfl (.free rfl) rfl (q_move (v := .pointer (t_1)) rfl rfl) ?_
  obtain ⟨a3, ha3, h⟩ := h
  refine ro_val (d := (some 9)) rfl (.free rfl) rfl (q_nilCheck (a := a3) rfl (congrArg Value.pointer ha3)) ?_
  refine ro_val (d := (some 10)) rfl (.free rfl) rfl (q_fieldAddr (a := a3) (off := 0) rfl Try.underlying62 rfl rfl ok58 (by decide) rfl) ?_
  obtain ⟨x4, hx4, h⟩ := h
  refine ro_val (d := (some 11)) rfl (.free rfl) rfl (q_load (T := tMap) (u := x4) (a := (a3.add 0)) rfl ok58 rfl hx4) ?_
  refine ro_val (d := (some 12)) rfl (.free rfl) rfl (q_move (v := .int .i64 (k_2)) rfl rfl) ?_
  obtain ⟨m5, hm5, h⟩ := h
  refine ro_val (d := (some 13)) rfl (.free rfl) rfl (q_lookup2 (T := tPtr) (r := x4) (key := k_2) (u := m5) (z := (none : Option Addr)) rfl Try.underlying58 Try.underlying3 (inf64) rfl rfl hm5) ?_
  refine ro_val (d := (some 7)) rfl (.free rfl) rfl (q_move (v := (tTup2 tPtr tBool).enc (((m5.getD (none : Option Addr), m5.isSome)))) rfl rfl) ?_
  refine ro_val (d := (some 14)) rfl (.free rfl) rfl (q_extract (vs := #[.pointer (((m5.getD (none : Option Addr), m5.isSome)).1), .bool (((m5.getD (none : Option Addr), m5.isSome)).2)]) (v := .pointer (((m5.getD (none : Option Addr), m5.isSome)).1)) rfl rfl rfl) ?_
  refine ro_val (d := (some 15)) rfl (.free rfl) rfl (q_extract (vs := #[.pointer (((m5.getD (none : Option Addr), m5.isSome)).1), .bool (((m5.getD (none : Option Addr), m5.isSome)).2)]) (v := .bool (((m5.getD (none : Option Addr), m5.isSome)).2)) rfl rfl rfl) ?_
  refine ro_val (d := (some 5)) rfl (.free rfl) rfl (q_assign (v := .pointer (((m5.getD (none : Option Addr), m5.isSome)).1)) rfl rfl) ?_
  refine ro_val (d := (some 6)) rfl (.free rfl) rfl (q_assign (v := .bool (((m5.getD (none : Option Addr), m5.isSome)).2)) rfl rfl) ?_
  refine ro_nil ?_
  refine wp_seq ?_
  refine wp_text [0] rfl ?_
  refine ro_val (d := (some 16)) rfl (.free rfl) rfl (q_move (v := .bool (((m5.getD (none : Option Addr), m5.isSome)).2)) rfl rfl) ?_
  refine ro_nil ?_
  refine wp_if (b := ((m5.getD (none : Option Addr), m5.isSome)).2) rfl h (fun hb10 h => ?_) (fun hb10 h => ?_)
  · refine wp_seq ?_
    refine wp_text [0, 1, 2, 3, 4, 5] rfl ?_
    refine ro_val (d := (some 17)) rfl (.free rfl) rfl (q_move (v := .pointer (((m5.getD (none : Option Addr), m5.isSome)).1)) rfl rfl) ?_
    obtain ⟨a6, ha6, h⟩ := h
    refine ro_val (d := (some 18)) rfl (.free rfl) rfl (q_nilCheck (a := a6) rfl (congrArg Value.pointer ha6)) ?_
    refine ro_val (d := (some 19)) rfl (.free rfl) rfl (q_fieldAddr (a := a6) (off := 0) rfl Try.underlying68 rfl rfl ok66 (by decide) rfl) ?_
    obtain ⟨x7, hx7, h⟩ := h
    refine ro_val (d := (some 20)) rfl (.free rfl) rfl (q_load (T := tMap) (u := x7) (a := (a6.add 0)) rfl ok66 rfl hx7) ?_
    refine ro_wp rfl (.free rfl) (wp_cl (d := (some 21)) rfl (q_call (k := 35) (l := [.map (x7)]) rfl ent35 rfl) h ?_)
    intro r9 w8 h
    refine ro_val (d := (some 4)) rfl (.free rfl) rfl (q_assign (v := tSlc.enc (r9)) rfl rfl) ?_
    refine ro_nil ?_
    refine wp_ret ?_
    exact ret_ok rfl (.cons (.tmp (v := tSlc.enc (r9)) rfl) .nil) ⟨r9, rfl, h⟩
  · refine wp_skip ?_
    refine wp_seq ?_
    refine wp_text [0] rfl ?_
    refine ro_val (d := (some 4)) rfl (.free rfl) rfl (q_assign (v := tSlc.enc ((⟨none, 0, 0⟩ : Slc))) rfl rfl) ?_
    refine ro_nil ?_
    refine wp_ret ?_
    exact ret_ok rfl (.cons (.tmp (v := tSlc.enc ((⟨none, 0, 0⟩ : Slc))) rfl) .nil) ⟨(⟨none, 0, 0⟩ : Slc), rfl, h⟩

-- (*moiety/locks.Table).Waits
def F22 (t_1 : (Option Addr)) (k_2 : Int) (w : World) (R : Slc → World → Prop) : Prop :=
  ex (NC t_1) fun a3 =>
  ex (RdAt tMap (a3.add 0) w) fun x4 =>
  ex (MapGet tPtr .i64 x4 k_2 w) fun m5 =>
  if ((m5.getD (none : Option Addr), m5.isSome)).2 = true then (
    ex (NC (((m5.getD (none : Option Addr), m5.isSome)).1)) fun a6 =>
    ex (RdAt tMap (a6.add 1) w) fun x7 =>
    cl Try.prog 35 [.map (x7)] tSlc w fun r9 w8 =>
    R r9 w8
  ) else (
    R (⟨none, 0, 0⟩ : Slc) w
  )
theorem F22_ok {t_1 : (Option Addr)} {k_2 : Int} {w : World} {R : Slc → World → Prop} (h : F22 t_1 k_2 w R) : cl Try.prog 22 [.pointer (t_1), .int .i64 (k_2)] tSlc w R := by
  unfold F22 at h
  refine calls_start 22 Try.func22 rfl rfl (Nat.le_of_ble_eq_true rfl) ?_
  refine wp_seq ?_
  refine wp_text [0] rfl ?_
  refine ro_val (d := (some 4)) rfl (.free rfl) rfl (q_assign (v := tSlc.enc ((⟨none, 0, 0⟩ : Slc))) rfl rfl) ?_
  refine ro_nil ?_
  refine wp_seq ?_
  refine wp_seq ?_
  refine wp_text [0, 1, 2, 3, 4, 5, 6, 7, 8, 9, 10] rfl ?_
  refine ro_val (d := (some 8)) rfl (.free rfl) rfl (q_move (v := .pointer (t_1)) rfl rfl) ?_
  obtain ⟨a3, ha3, h⟩ := h
  refine ro_val (d := (some 9)) rfl (.free rfl) rfl (q_nilCheck (a := a3) rfl (congrArg Value.pointer ha3)) ?_
  refine ro_val (d := (some 10)) rfl (.free rfl) rfl (q_fieldAddr (a := a3) (off := 0) rfl Try.underlying62 rfl rfl ok58 (by decide) rfl) ?_
  obtain ⟨x4, hx4, h⟩ := h
  refine ro_val (d := (some 11)) rfl (.free rfl) rfl (q_load (T := tMap) (u := x4) (a := (a3.add 0)) rfl ok58 rfl hx4) ?_
  refine ro_val (d := (some 12)) rfl (.free rfl) rfl (q_move (v := .int .i64 (k_2)) rfl rfl) ?_
  obtain ⟨m5, hm5, h⟩ := h
  refine ro_val (d := (some 13)) rfl (.free rfl) rfl (q_lookup2 (T := tPtr) (r := x4) (key := k_2) (u := m5) (z := (none : Option Addr)) rfl Try.underlying58 Try.underlying3 (inf64) rfl rfl hm5) ?_
  refine ro_val (d := (some 7)) rfl (.free rfl) rfl (q_move (v := (tTup2 tPtr tBool).enc (((m5.getD (none : Option Addr), m5.isSome)))) rfl rfl) ?_
  refine ro_val (d := (some 14)) rfl (.free rfl) rfl (q_extract (vs := #[.pointer (((m5.getD (none : Option Addr), m5.isSome)).1), .bool (((m5.getD (none : Option Addr), m5.isSome)).2)]) (v := .pointer (((m5.getD (none : Option Addr), m5.isSome)).1)) rfl rfl rfl) ?_
  refine ro_val (d := (some 15)) rfl (.free rfl) rfl (q_extract (vs := #[.pointer (((m5.getD (none : Option Addr), m5.isSome)).1), .bool (((m5.getD (none : Option Addr), m5.isSome)).2)]) (v := .bool (((m5.getD (none : Option Addr), m5.isSome)).2)) rfl rfl rfl) ?_
  refine ro_val (d := (some 5)) rfl (.free rfl) rfl (q_assign (v := .pointer (((m5.getD (none : Option Addr), m5.isSome)).1)) rfl rfl) ?_
  refine ro_val (d := (some 6)) rfl (.free rfl) rfl (q_assign (v := .bool (((m5.getD (none : Option Addr), m5.isSome)).2)) rfl rfl) ?_
  refine ro_nil ?_
  refine wp_seq ?_
  refine wp_text [0] rfl ?_
  refine ro_val (d := (some 16)) rfl (.free rfl) rfl (q_move (v := .bool (((m5.getD (none : Option Addr), m5.isSome)).2)) rfl rfl) ?_
  refine ro_nil ?_
  refine wp_if (b := ((m5.getD (none : Option Addr), m5.isSome)).2) rfl h (fun hb10 h => ?_) (fun hb10 h => ?_)
  · refine wp_seq ?_
    refine wp_text [0, 1, 2, 3, 4, 5] rfl ?_
    refine ro_val (d := (some 17)) rfl (.free rfl) rfl (q_move (v := .pointer (((m5.getD (none : Option Addr), m5.isSome)).1)) rfl rfl) ?_
    obtain ⟨a6, ha6, h⟩ := h
    refine ro_val (d := (some 18)) rfl (.free rfl) rfl (q_nilCheck (a := a6) rfl (congrArg Value.pointer ha6)) ?_
    refine ro_val (d := (some 19)) rfl (.free rfl) rfl (q_fieldAddr (a := a6) (off := 1) rfl Try.underlying68 rfl rfl ok66 (by decide) rfl) ?_
    obtain ⟨x7, hx7, h⟩ := h
    refine ro_val (d := (some 20)) rfl (.free rfl) rfl (q_load (T := tMap) (u := x7) (a := (a6.add 1)) rfl ok66 rfl hx7) ?_
    refine ro_wp rfl (.free rfl) (wp_cl (d := (some 21)) rfl (q_call (k := 35) (l := [.map (x7)]) rfl ent35 rfl) h ?_)
    intro r9 w8 h
    refine ro_val (d := (some 4)) rfl (.free rfl) rfl (q_assign (v := tSlc.enc (r9)) rfl rfl) ?_
    refine ro_nil ?_
    refine wp_ret ?_
    exact ret_ok rfl (.cons (.tmp (v := tSlc.enc (r9)) rfl) .nil) ⟨r9, rfl, h⟩
  · refine wp_skip ?_
    refine wp_seq ?_
    refine wp_text [0] rfl ?_
    refine ro_val (d := (some 4)) rfl (.free rfl) rfl (q_assign (v := tSlc.enc ((⟨none, 0, 0⟩ : Slc))) rfl rfl) ?_
    refine ro_nil ?_
    refine wp_ret ?_
    exact ret_ok rfl (.cons (.tmp (v := tSlc.enc ((⟨none, 0, 0⟩ : Slc))) rfl) .nil) ⟨(⟨none, 0, 0⟩ : Slc), rfl, h⟩

-- moiety/moietyref13.Holds
def F23_l1 (a_1 : Slc) (b_2 : Slc) (i_3 : Int) (w4 : World) (K5 : Int → World → Prop) (R : Bool → World → Prop) : Prop :=
  if (decide (i_3 < (a_1.len : Int))) = true then (
    dr w4 fun w6 =>
    ex (IxA a_1 2 i_3) fun a7 =>
    ex (IxA b_2 2 i_3) fun a8 =>
    ex (RdAt (tInt .i64) (a7.add 0) w6) fun x9 =>
    ex (RdAt (tInt .i64) (a8.add 0) w6) fun x10 =>
    ex (fun x => (!(x9 != x10)) = true → (IxA a_1 2 i_3) x) fun a11 =>
    ex (fun x => (!(x9 != x10)) = true → (IxA b_2 2 i_3) x) fun a12 =>
    ex (fun x => (!(x9 != x10)) = true → (RdAt tBool (a11.add 1) w6) x) fun x13 =>
    ex (fun x => (!(x9 != x10)) = true → (RdAt tBool (a12.add 1) w6) x) fun x14 =>
    if ((x9 != x10) || (!(x13 == x14))) = true then (
      R false w6
    ) else (
      K5 ((IntKind.i64.wrap (i_3 + (1 : Int)))) w6
    )
  ) else (
    R true w4
  )
def F23 (a_1 : Slc) (b_2 : Slc) (w : World) (R : Bool → World → Prop) : Prop :=
  if ((a_1.len : Int) != (b_2.len : Int)) = true then (
    R false w
  ) else (
    lp (fun (s : Int) w K => F23_l1 a_1 b_2 s w K R) ((0 : Int)) w
  )
theorem F23_ok {a_1 : Slc} {b_2 : Slc} {w : World} {R : Bool → World → Prop} (h : F23 a_1 b_2 w R) : cl Try.prog 23 [tSlc.enc (a_1), tSlc.enc (b_2)] tBool w R := by
  unfold F23 at h
  refine calls_start 41 Try.func23 rfl rfl (Nat.le_of_ble_eq_true rfl) ?_
  refine wp_seq ?_
  refine wp_text [0] rfl ?_
  refine ro_val (d := (some 4)) rfl (.free rfl) rfl (q_assign (v := .bool (false)) rfl rfl) ?_
  refine ro_nil ?_
  refine wp_seq ?_
  refine wp_seq ?_
  refine wp_text [0, 1, 2, 3, 4] rfl ?_
  refine ro_val (d := (some 6)) rfl (.free rfl) rfl (q_move (v := tSlc.enc (a_1)) rfl rfl) ?_
  refine ro_val (d := (some 7)) rfl (.free rfl) rfl (q_len (s := a_1) rfl Try.underlying51 rfl) ?_
  refine ro_val (d := (some 8)) rfl (.free rfl) rfl (q_move (v := tSlc.enc (b_2)) rfl rfl) ?_
  refine ro_val (d := (some 9)) rfl (.free rfl) rfl (q_len (s := b_2) rfl Try.underlying51 rfl) ?_
  refine ro_val (d := (some 10)) rfl (.free rfl) rfl (q_neq (a := (a_1.len : Int)) (b := (b_2.len : Int)) rfl rfl rfl) ?_
  refine ro_nil ?_
  refine wp_if (b := ((a_1.len : Int) != (b_2.len : Int))) rfl h (fun hb17 h => ?_) (fun hb17 h => ?_)
  · refine wp_seq ?_
    refine wp_text [0] rfl ?_
    refine ro_val (d := (some 4)) rfl (.free rfl) rfl (q_assign (v := .bool (false)) rfl rfl) ?_
    refine ro_nil ?_
    refine wp_ret ?_
    exact ret_ok rfl (.cons (.tmp (v := .bool (false)) rfl) .nil) ⟨false, rfl, h⟩
  · refine wp_skip ?_
    refine wp_seq ?_
    refine wp_seq ?_
    refine wp_text [0] rfl ?_
    refine ro_val (d := (some 5)) rfl (.free rfl) rfl (q_assign (v := .int .i64 ((0 : Int))) rfl rfl) ?_
    refine ro_nil ?_
    refine wp_block ?_
    refine loop_at (σ := Int) (fr := fun g (s : Int) => upd (upd (upd (g) 0 (tSlc.enc (a_1))) 1 (tSlc.enc (b_2))) 5 (.int .i64 (s))) (s0 := ((0 : Int))) (upd_step (upd_step (upd_step rfl rfl) rfl) rfl) h ?_
    rintro i_3 g w4 K5 h
    unfold F23_l1 at h
    refine wp_seq ?_
    refine wp_seq ?_
    refine wp_text [0, 1, 2, 3] rfl ?_
    refine ro_val (d := (some 11)) rfl (.free rfl) rfl (q_move (v := .int .i64 (i_3)) rfl rfl) ?_
    refine ro_val (d := (some 12)) rfl (.free rfl) rfl (q_move (v := tSlc.enc (a_1)) rfl rfl) ?_
    refine ro_val (d := (some 13)) rfl (.free rfl) rfl (q_len (s := a_1) rfl Try.underlying51 rfl) ?_
    refine ro_val (d := (some 14)) rfl (.free rfl) rfl (q_lss (a := i_3) (b := (a_1.len : Int)) rfl rfl rfl) ?_
    refine ro_nil ?_
    refine wp_if (b := (decide (i_3 < (a_1.len : Int)))) rfl h (fun hb16 h => ?_) (fun hb16 h => ?_)
    · refine wp_skip ?_
      refine wp_seq ?_
      refine wp_block ?_
      refine wp_seq ?_
      obtain ⟨w6, hw6, h⟩ := dr_open h
      refine wp_drawn 24 mixed rfl (by kernel_rfl) (by intro c a d v w h; cases d <;> exact h) hw6 (fun hD => ?_)
      refine rd_pure (i := 0) (d := (some 17)) hD (by kernel_rfl) (by kernel_rfl) rfl (.free rfl) rfl (fun _ => q_move (v := tSlc.enc (a_1)) rfl rfl) ?_
      refine rd_pure (i := 1) (d := (some 18)) hD (by kernel_rfl) (by kernel_rfl) rfl (.free rfl) rfl (fun _ => q_move (v := .int .i64 (i_3)) rfl rfl) ?_
      obtain ⟨a7, ha7, h⟩ := h
      refine rd_pure (i := 2) (d := (some 19)) hD (by kernel_rfl) (by kernel_rfl) rfl (.free rfl) rfl (fun _ => q_indexAddr (s := a_1) (i := i_3) rfl Try.underlying51 ok54 rfl rfl ha7) ?_
      refine rd_pure (i := 3) (d := (some 20)) hD (by kernel_rfl) (by kernel_rfl) rfl (.free rfl) rfl (fun _ => q_fieldAddr (a := a7) (off := 0) rfl Try.underlying54 rfl rfl ok3 (by decide) rfl) ?_
      refine rd_pure (i := 5) (d := (some 22)) hD (by kernel_rfl) (by kernel_rfl) rfl (.free rfl) rfl (fun _ => q_move (v := tSlc.enc (b_2)) rfl rfl) ?_
      refine rd_pure (i := 6) (d := (some 23)) hD (by kernel_rfl) (by kernel_rfl) rfl (.free rfl) rfl (fun _ => q_move (v := .int .i64 (i_3)) rfl rfl) ?_
      obtain ⟨a8, ha8, h⟩ := h
      refine rd_pure (i := 7) (d := (some 24)) hD (by kernel_rfl) (by kernel_rfl) rfl (.free rfl) rfl (fun _ => q_indexAddr (s := b_2) (i := i_3) rfl Try.underlying51 ok54 rfl rfl ha8) ?_
      refine rd_pure (i := 8) (d := (some 25)) hD (by kernel_rfl) (by kernel_rfl) rfl (.free rfl) rfl (fun _ => q_fieldAddr (a := a8) (off := 0) rfl Try.underlying54 rfl rfl ok3 (by decide) rfl) ?_
      obtain ⟨x9, hx9, h⟩ := h
      refine rd_read (i := 4) (d := (some 21)) (fun W => (RdAt (tInt .i64) (a7.add 0) W) x9) hD (by kernel_rfl) (by kernel_rfl) rfl (.free rfl) rfl (fun W hr => q_load (T := (tInt .i64)) (u := x9) (a := (a7.add 0)) rfl ok3 rfl hr) hx9 ?_
      obtain ⟨x10, hx10, h⟩ := h
      refine rd_read (i := 9) (d := (some 26)) (fun W => (RdAt (tInt .i64) (a8.add 0) W) x10) hD (by kernel_rfl) (by kernel_rfl) rfl (.free rfl) rfl (fun W hr => q_load (T := (tInt .i64)) (u := x10) (a := (a8.add 0)) rfl ok3 rfl hr) hx10 ?_
      refine rd_pure (i := 10) (d := (some 27)) hD (by kernel_rfl) (by kernel_rfl) rfl (.free rfl) rfl (fun _ => q_neq (a := x9) (b := x10) rfl rfl rfl) ?_
      refine rd_pure (i := 11) (d := (some 28)) hD (by kernel_rfl) (by kernel_rfl) rfl (.free rfl) rfl (fun _ => q_move (v := .bool ((x9 != x10))) rfl rfl) ?_
      refine rd_gpure (i := 12) (g := (!(x9 != x10))) (d := (some 29)) hD (by kernel_rfl) (by kernel_rfl) rfl (.no 11 28 true (x9 != x10) rfl rfl rfl rfl) rfl (fun hg _ => q_move (v := tSlc.enc (a_1)) rfl rfl) ?_
      refine rd_gpure (i := 13) (g := (!(x9 != x10))) (d := (some 30)) hD (by kernel_rfl) (by kernel_rfl) rfl (.no 11 28 true (x9 != x10) rfl rfl rfl rfl) rfl (fun hg _ => q_move (v := .int .i64 (i_3)) rfl rfl) ?_
      obtain ⟨a11, ha11, h⟩ := h
      refine rd_gpure (i := 14) (g := (!(x9 != x10))) (d := (some 31)) hD (by kernel_rfl) (by kernel_rfl) rfl (.no 11 28 true (x9 != x10) rfl rfl rfl rfl) rfl (fun hg _ => q_indexAddr (s := a_1) (i := i_3) rfl Try.underlying51 ok54 (gvb_yes hg) (gvb_yes hg) (ha11 hg)) ?_
      refine rd_gpure (i := 15) (g := (!(x9 != x10))) (d := (some 32)) hD (by kernel_rfl) (by kernel_rfl) rfl (.no 11 28 true (x9 != x10) rfl rfl rfl rfl) rfl (fun hg _ => q_fieldAddr (a := a11) (off := 1) rfl Try.underlying54 rfl rfl ok4 (by decide) (gvb_yes hg)) ?_
      refine rd_gpure (i := 17) (g := (!(x9 != x10))) (d := (some 34)) hD (by kernel_rfl) (by kernel_rfl) rfl (.no 11 28 true (x9 != x10) rfl rfl rfl rfl) rfl (fun hg _ => q_move (v := tSlc.enc (b_2)) rfl rfl) ?_
      refine rd_gpure (i := 18) (g := (!(x9 != x10))) (d := (some 35)) hD (by kernel_rfl) (by kernel_rfl) rfl (.no 11 28 true (x9 != x10) rfl rfl rfl rfl) rfl (fun hg _ => q_move (v := .int .i64 (i_3)) rfl rfl) ?_
      obtain ⟨a12, ha12, h⟩ := h
      refine rd_gpure (i := 19) (g := (!(x9 != x10))) (d := (some 36)) hD (by kernel_rfl) (by kernel_rfl) rfl (.no 11 28 true (x9 != x10) rfl rfl rfl rfl) rfl (fun hg _ => q_indexAddr (s := b_2) (i := i_3) rfl Try.underlying51 ok54 (gvb_yes hg) (gvb_yes hg) (ha12 hg)) ?_
      refine rd_gpure (i := 20) (g := (!(x9 != x10))) (d := (some 37)) hD (by kernel_rfl) (by kernel_rfl) rfl (.no 11 28 true (x9 != x10) rfl rfl rfl rfl) rfl (fun hg _ => q_fieldAddr (a := a12) (off := 1) rfl Try.underlying54 rfl rfl ok4 (by decide) (gvb_yes hg)) ?_
      obtain ⟨x13, hx13, h⟩ := h
      refine rd_gread (i := 16) (g := (!(x9 != x10))) (d := (some 33)) (fun W => (RdAt tBool (a11.add 1) W) x13) hD (by kernel_rfl) (by kernel_rfl) rfl (.no 11 28 true (x9 != x10) rfl rfl rfl rfl) rfl (fun hg W hr => q_load (T := tBool) (u := x13) (a := (a11.add 1)) rfl ok4 (gvb_yes hg) hr) hx13 ?_
      obtain ⟨x14, hx14, h⟩ := h
      refine rd_gread (i := 21) (g := (!(x9 != x10))) (d := (some 38)) (fun W => (RdAt tBool (a12.add 1) W) x14) hD (by kernel_rfl) (by kernel_rfl) rfl (.no 11 28 true (x9 != x10) rfl rfl rfl rfl) rfl (fun hg W hr => q_load (T := tBool) (u := x14) (a := (a12.add 1)) rfl ok4 (gvb_yes hg) hr) hx14 ?_
      refine rd_gpure (i := 22) (g := (!(x9 != x10))) (d := (some 39)) hD (by kernel_rfl) (by kernel_rfl) rfl (.no 11 28 true (x9 != x10) rfl rfl rfl rfl) rfl (fun hg _ => q_neB (a := x13) (b := x14) rfl Try.underlying4 (gvb_yes hg) (gvb_yes hg)) ?_
      refine rd_pure (i := 23) (d := (some 40)) hD (by kernel_rfl) (by kernel_rfl) rfl (.free rfl) rfl (fun _ => q_pickGF (a := (x9 != x10)) (c := (!(x13 == x14))) rfl rfl rfl rfl) ?_
      refine rd_nil (by kernel_rfl) ?_
      refine wp_if (b := ((x9 != x10) || (!(x13 == x14)))) rfl h (fun hb15 h => ?_) (fun hb15 h => ?_)
      · refine wp_seq ?_
        refine wp_text [0] rfl ?_
        refine ro_val (d := (some 4)) rfl (.free rfl) rfl (q_assign (v := .bool (false)) rfl rfl) ?_
        refine ro_nil ?_
        refine wp_ret ?_
        exact ret_ok rfl (.cons (.tmp (v := .bool (false)) rfl) .nil) ⟨false, rfl, h⟩
      · refine wp_skip ?_
        refine wp_text [0, 1, 2] rfl ?_
        refine ro_val (d := (some 15)) rfl (.free rfl) rfl (q_move (v := .int .i64 (i_3)) rfl rfl) ?_
        refine ro_val (d := (some 16)) rfl (.free rfl) rfl (q_add (a := i_3) (b := (1 : Int)) rfl rfl rfl) ?_
        refine ro_val (d := (some 5)) rfl (.free rfl) rfl (q_assign (v := .int .i64 ((IntKind.i64.wrap (i_3 + (1 : Int))))) rfl rfl) ?_
        refine ro_nil ?_
        exact ⟨((IntKind.i64.wrap (i_3 + (1 : Int)))), _, arr (upd_step (upd_step (upd_step rfl rfl) rfl) rfl), h⟩
    · refine wp_exit ?_
      refine wp_seq ?_
      refine wp_text [0] rfl ?_
      refine ro_val (d := (some 4)) rfl (.free rfl) rfl (q_assign (v := .bool (true)) rfl rfl) ?_
      refine ro_nil ?_
      refine wp_ret ?_
      exact ret_ok rfl (.cons (.tmp (v := .bool (true)) rfl) .nil) ⟨true, rfl, h⟩

-- moiety/locks.key
def F24 (k_1 : Int) (w : World) (R : Bool → World → Prop) : Prop :=
  R ((decide (k_1 ≥ (0 : Int))) && (decide (k_1 < (8192 : Int)))) w
theorem F24_ok {k_1 : Int} {w : World} {R : Bool → World → Prop} (h : F24 k_1 w R) : cl Try.prog 24 [.int .i64 (k_1)] tBool w R := by
  unfold F24 at h
  refine calls_start 9 Try.func24 rfl rfl (Nat.le_of_ble_eq_true rfl) ?_
  refine wp_seq ?_
  refine wp_text [0] rfl ?_
  refine ro_val (d := (some 2)) rfl (.free rfl) rfl (q_assign (v := .bool (false)) rfl rfl) ?_
  refine ro_nil ?_
  refine wp_seq ?_
  refine wp_text [0, 1, 2, 3, 4, 5, 6] rfl ?_
  refine ro_val (d := (some 3)) rfl (.free rfl) rfl (q_move (v := .int .i64 (k_1)) rfl rfl) ?_
  refine ro_val (d := (some 4)) rfl (.free rfl) rfl (q_geq (a := k_1) (b := (0 : Int)) rfl rfl rfl) ?_
  refine ro_val (d := (some 5)) rfl (.free rfl) rfl (q_move (v := .bool ((decide (k_1 ≥ (0 : Int))))) rfl rfl) ?_
  refine ro_gval (g := (decide (k_1 ≥ (0 : Int)))) (d := (some 6)) rfl (.yes 2 5 true (decide (k_1 ≥ (0 : Int))) rfl rfl rfl rfl) rfl (fun hg => q_move (v := .int .i64 (k_1)) rfl rfl) ?_
  refine ro_gval (g := (decide (k_1 ≥ (0 : Int)))) (d := (some 7)) rfl (.yes 2 5 true (decide (k_1 ≥ (0 : Int))) rfl rfl rfl rfl) rfl (fun hg => q_lss (a := k_1) (b := (8192 : Int)) rfl (gvb_yes hg) rfl) ?_
  refine ro_val (d := (some 8)) rfl (.free rfl) rfl (q_pickGT (a := (decide (k_1 ≥ (0 : Int)))) (b := (decide (k_1 < (8192 : Int)))) rfl rfl rfl rfl) ?_
  refine ro_val (d := (some 2)) rfl (.free rfl) rfl (q_assign (v := .bool (((decide (k_1 ≥ (0 : Int))) && (decide (k_1 < (8192 : Int)))))) rfl rfl) ?_
  refine ro_nil ?_
  refine wp_ret ?_
  exact ret_ok rfl (.cons (.tmp (v := .bool (((decide (k_1 ≥ (0 : Int))) && (decide (k_1 < (8192 : Int)))))) rfl) .nil) ⟨((decide (k_1 ≥ (0 : Int))) && (decide (k_1 < (8192 : Int)))), rfl, h⟩

-- moiety/locks.against
def F25 (tx_1 : Int) (write_2 : Bool) (w : World) (R : Fv → World → Prop) : Prop :=
  nw 3 (tInt .i64) tx_1 w fun a3 w4 =>
  nw 4 tBool write_2 w4 fun a5 w6 =>
  R (Fv.mk (.func 36) (List.toArray []) (List.toArray [.pointer (some a3), .pointer (some a5)])) w6
theorem F25_ok {tx_1 : Int} {write_2 : Bool} {w : World} {R : Fv → World → Prop} (h : F25 tx_1 write_2 w R) : cl Try.prog 25 [.int .i64 (tx_1), .bool (write_2)] tFun w R := by
  unfold F25 at h
  refine calls_start 6 Try.func25 rfl rfl (Nat.le_of_ble_eq_true rfl) ?_
  refine wp_seq ?_
  refine wp_text [0, 1, 2] rfl ?_
  obtain ⟨a3, w4, ha3, hw4, h⟩ := nw_open h
  refine ro_val (d := (some 2)) rfl (.free rfl) rfl (q_box (u := tx_1) rfl ok3 rfl ha3 hw4) ?_
  obtain ⟨a5, w6, ha5, hw6, h⟩ := nw_open h
  refine ro_val (d := (some 3)) rfl (.free rfl) rfl (q_box (u := write_2) rfl ok4 rfl ha5 hw6) ?_
  refine ro_val (d := (some 4)) rfl (.free rfl) rfl (q_assign (v := (Fv.nil).enc) rfl rfl) ?_
  refine ro_nil ?_
  refine wp_seq ?_
  refine wp_text [0, 1] rfl ?_
  refine ro_val (d := (some 5)) rfl (.free rfl) rfl (q_makeFunc (fn := .func 36) (va := []) (vc := [.pointer (some a3), .pointer (some a5)]) rfl rfl rfl) ?_
  refine ro_val (d := (some 4)) rfl (.free rfl) rfl (q_assign (v := ((Fv.mk (.func 36) (List.toArray []) (List.toArray [.pointer (some a3), .pointer (some a5)]))).enc) rfl rfl) ?_
  refine ro_nil ?_
  refine wp_ret ?_
  exact ret_ok rfl (.cons (.tmp (v := ((Fv.mk (.func 36) (List.toArray []) (List.toArray [.pointer (some a3), .pointer (some a5)]))).enc) rfl) .nil) ⟨(Fv.mk (.func 36) (List.toArray []) (List.toArray [.pointer (some a3), .pointer (some a5)])), rfl, h⟩

-- maps.Keys[map[int]bool,int,bool]
def F27 (m_1 : (Option Nat)) (w : World) (R : Fv → World → Prop) : Prop :=
  nw 66 tMap m_1 w fun a2 w3 =>
  R (Fv.mk (.func 39) (List.toArray []) (List.toArray [.pointer (some a2)])) w3
theorem F27_ok {m_1 : (Option Nat)} {w : World} {R : Fv → World → Prop} (h : F27 m_1 w R) : cl Try.prog 27 [.map (m_1)] tFun w R := by
  unfold F27 at h
  refine calls_start 4 Try.func27 rfl rfl (Nat.le_of_ble_eq_true rfl) ?_
  refine wp_seq ?_
  refine wp_text [0, 1] rfl ?_
  obtain ⟨a2, w3, ha2, hw3, h⟩ := nw_open h
  refine ro_val (d := (some 1)) rfl (.free rfl) rfl (q_box (u := m_1) rfl ok66 rfl ha2 hw3) ?_
  refine ro_val (d := (some 2)) rfl (.free rfl) rfl (q_assign (v := (Fv.nil).enc) rfl rfl) ?_
  refine ro_nil ?_
  refine wp_seq ?_
  refine wp_text [0, 1] rfl ?_
  refine ro_val (d := (some 3)) rfl (.free rfl) rfl (q_makeFunc (fn := .func 39) (va := []) (vc := [.pointer (some a2)]) rfl rfl rfl) ?_
  refine ro_val (d := (some 2)) rfl (.free rfl) rfl (q_assign (v := ((Fv.mk (.func 39) (List.toArray []) (List.toArray [.pointer (some a2)]))).enc) rfl rfl) ?_
  refine ro_nil ?_
  refine wp_ret ?_
  exact ret_ok rfl (.cons (.tmp (v := ((Fv.mk (.func 39) (List.toArray []) (List.toArray [.pointer (some a2)]))).enc) rfl) .nil) ⟨(Fv.mk (.func 39) (List.toArray []) (List.toArray [.pointer (some a2)])), rfl, h⟩

-- (*moiety/locks.Table).free
def F28_l1 (tx_2 : Int) (a3 : Addr) (a6 : Addr) (w7 : World) (K8 : Unit → World → Prop) (R : Unit → World → Prop) : Prop :=
  nxt a6 w7 fun q10 w9 =>
  if (Option.isSome q10) = true then (
    ex (Ent tPtr .i64 a6 w9) fun e11 =>
    ex (NC e11.2) fun a12 =>
    ex (RdAt tMap (a12.add 0) w9) fun x13 =>
    mdel tBool .i64 x13 tx_2 w9 fun w14 =>
    ex (RdAt tMap (a12.add 1) w14) fun x15 =>
    mdel tBool .i64 x15 tx_2 w14 fun w16 =>
    K8 () w16
  ) else (
    ex (RdAt tMap (a3.add 1) w9) fun x17 =>
    mdel (tInt .i64) .i64 x17 tx_2 w9 fun w18 =>
    R () w18
  )
def F28 (t_1 : (Option Addr)) (tx_2 : Int) (w : World) (R : Unit → World → Prop) : Prop :=
  ex (NC t_1) fun a3 =>
  ex (RdAt tMap (a3.add 0) w) fun x4 =>
  rng x4 w fun a6 w5 =>
  lp (fun (s : Unit) w K => F28_l1 tx_2 a3 a6 w K R) () w5
theorem F28_ok {t_1 : (Option Addr)} {tx_2 : Int} {w : World} {R : Unit → World → Prop} (h : F28 t_1 tx_2 w R) : cl Try.prog 28 [.pointer (t_1), .int .i64 (tx_2)] tUnit w R := by
  unfold F28 at h
  refine calls_start 30 Try.func28 rfl rfl (Nat.le_of_ble_eq_true rfl) ?_
  refine wp_seq ?_
  refine wp_seq ?_
  refine wp_text [0, 1, 2, 3, 4] rfl ?_
  refine ro_val (d := (some 6)) rfl (.free rfl) rfl (q_move (v := .pointer (t_1)) rfl rfl) ?_
  obtain ⟨a3, ha3, h⟩ := h
  refine ro_val (d := (some 7)) rfl (.free rfl) rfl (q_nilCheck (a := a3) rfl (congrArg Value.pointer ha3)) ?_
  refine ro_val (d := (some 8)) rfl (.free rfl) rfl (q_fieldAddr (a := a3) (off := 0) rfl Try.underlying62 rfl rfl ok58 (by decide) rfl) ?_
  obtain ⟨x4, hx4, h⟩ := h
  refine ro_val (d := (some 9)) rfl (.free rfl) rfl (q_load (T := tMap) (u := x4) (a := (a3.add 0)) rfl ok58 rfl hx4) ?_
  refine ro_wp rfl (.free rfl) (wp_rng (r := x4) (d := (some 10)) rfl rfl Try.underlying58 rfl h ?_)
  intro a6 w5 h
  refine ro_nil ?_
  refine wp_block ?_
  refine loop_at (σ := Unit) (fr := fun g (s : Unit) => upd (upd (upd (g) 0 (.pointer (t_1))) 1 (.int .i64 (tx_2))) 10 (.pointer (some a6))) (s0 := ()) (upd_step (upd_step (upd_step rfl rfl) rfl) rfl) h ?_
  rintro ⟨⟩ g w7 K8 h
  unfold F28_l1 at h
  refine wp_seq ?_
  refine wp_text [0, 1] rfl ?_
  refine ro_wp rfl (.free rfl) (wp_nxt (a := a6) (d := (some 11)) rfl rfl rfl h ?_)
  intro q10 w9 h
  refine ro_val (d := (some 12)) rfl (.free rfl) rfl (q_extractN (q := q10) rfl rfl) ?_
  refine ro_nil ?_
  refine wp_seq ?_
  refine wp_if (b := (Option.isSome q10)) rfl h (fun hb19 h => ?_) (fun hb19 h => ?_)
  · refine wp_skip ?_
    refine wp_block ?_
    refine wp_seq ?_
    refine wp_text [0, 1, 2] rfl ?_
    obtain ⟨e11, he11, h⟩ := h
    refine ro_val (d := (some 13)) rfl (.free rfl) rfl (q_entry (T := tPtr) (p := e11) (a := a6) rfl rfl he11) ?_
    refine ro_val (d := (some 14)) rfl (.free rfl) rfl (q_extract (vs := #[.int .i64 (e11.1), .pointer (e11.2)]) (v := .pointer (e11.2)) rfl rfl rfl) ?_
    refine ro_val (d := (some 5)) rfl (.free rfl) rfl (q_assign (v := .pointer (e11.2)) rfl rfl) ?_
    refine ro_nil ?_
    refine wp_seq ?_
    refine wp_text [0, 1, 2, 3, 4, 5] rfl ?_
    refine ro_val (d := (some 15)) rfl (.free rfl) rfl (q_move (v := .pointer (e11.2)) rfl rfl) ?_
    obtain ⟨a12, ha12, h⟩ := h
    refine ro_val (d := (some 16)) rfl (.free rfl) rfl (q_nilCheck (a := a12) rfl (congrArg Value.pointer ha12)) ?_
    refine ro_val (d := (some 17)) rfl (.free rfl) rfl (q_fieldAddr (a := a12) (off := 0) rfl Try.underlying68 rfl rfl ok66 (by decide) rfl) ?_
    obtain ⟨x13, hx13, h⟩ := h
    refine ro_val (d := (some 18)) rfl (.free rfl) rfl (q_load (T := tMap) (u := x13) (a := (a12.add 0)) rfl ok66 rfl hx13) ?_
    refine ro_val (d := (some 19)) rfl (.free rfl) rfl (q_move (v := .int .i64 (tx_2)) rfl rfl) ?_
    refine ro_wp rfl (.free rfl) (wp_mdel (T := tBool) (r := x13) (key := tx_2) (d := none) rfl rfl Try.underlying66 Try.underlying3 rfl rfl h ?_)
    intro w14 h
    refine ro_nil ?_
    refine wp_text [0, 1, 2, 3, 4, 5] rfl ?_
    refine ro_val (d := (some 20)) rfl (.free rfl) rfl (q_move (v := .pointer (e11.2)) rfl rfl) ?_
    refine ro_val (d := (some 21)) rfl (.free rfl) rfl (q_nilCheck (a := a12) rfl (congrArg Value.pointer ha12)) ?_
    refine ro_val (d := (some 22)) rfl (.free rfl) rfl (q_fieldAddr (a := a12) (off := 1) rfl Try.underlying68 rfl rfl ok66 (by decide) rfl) ?_
    obtain ⟨x15, hx15, h⟩ := h
    refine ro_val (d := (some 23)) rfl (.free rfl) rfl (q_load (T := tMap) (u := x15) (a := (a12.add 1)) rfl ok66 rfl hx15) ?_
    refine ro_val (d := (some 24)) rfl (.free rfl) rfl (q_move (v := .int .i64 (tx_2)) rfl rfl) ?_
    refine ro_wp rfl (.free rfl) (wp_mdel (T := tBool) (r := x15) (key := tx_2) (d := none) rfl rfl Try.underlying66 Try.underlying3 rfl rfl h ?_)
    intro w16 h
    refine ro_nil ?_
    exact ⟨(), _, arr (upd_step (upd_step (upd_step rfl rfl) rfl) rfl), h⟩
  · refine wp_exit ?_
    refine wp_text [0, 1, 2, 3, 4, 5] rfl ?_
    refine ro_val (d := (some 25)) rfl (.free rfl) rfl (q_move (v := .pointer (t_1)) rfl rfl) ?_
    refine ro_val (d := (some 26)) rfl (.free rfl) rfl (q_nilCheck (a := a3) rfl (congrArg Value.pointer ha3)) ?_
    refine ro_val (d := (some 27)) rfl (.free rfl) rfl (q_fieldAddr (a := a3) (off := 1) rfl Try.underlying62 rfl rfl ok59 (by decide) rfl) ?_
    obtain ⟨x17, hx17, h⟩ := h
    refine ro_val (d := (some 28)) rfl (.free rfl) rfl (q_load (T := tMap) (u := x17) (a := (a3.add 1)) rfl ok59 rfl hx17) ?_
    refine ro_val (d := (some 29)) rfl (.free rfl) rfl (q_move (v := .int .i64 (tx_2)) rfl rfl) ?_
    refine ro_wp rfl (.free rfl) (wp_mdel (T := (tInt .i64)) (r := x17) (key := tx_2) (d := none) rfl rfl Try.underlying59 Try.underlying3 rfl rfl h ?_)
    intro w18 h
    refine ro_nil ?_
    exact end_ok rfl .nil ⟨(), rfl, h⟩

end Go.Proofs.Ytojcgejjdfcaaaa.Cf
