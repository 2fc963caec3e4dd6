/- Characteristic formulae of Go functions, and that they are. Printed by gen.py (own tool). -/
import Derived.Test.YtpflfnaflacfgaaTy
namespace Go.Proofs.Ytpflfnaflacfgaa.Cf
open Go
set_option maxRecDepth 100000
set_option maxHeartbeats 1000000
set_option linter.unusedVariables false
set_option linter.unusedSimpArgs false

-- (*moiety/post.Net[string]).Take
def F14_j1 (n_1 : (Option Addr)) (i_2 : Int) (a3 : Addr) (a7 : Addr) (t_16 : Bool) (w17 : World) (R : (S35 × Int) → World → Prop) : Prop :=
  if t_16 = true then (
    st T35 a3 (⟨(0 : Int), (0 : Int), (0 : Int), ([] : List UInt8)⟩ : S35) w17 fun w18 =>
    ex (RdAt T35 a3 w18) fun x19 =>
    R (x19, (93 : Int)) w18
  ) else (
    ex (NC n_1) fun a20 =>
    ex (RdAt tSlc (a20.add 2) w17) fun x21 =>
    cl Try.prog 33 [tSlc.enc (x21), .int .i64 (i_2), .int .i64 ((IntKind.i64.wrap (i_2 + (1 : Int))))] tSlc w17 fun r23 w22 =>
    st tSlc (a20.add 2) r23 w22 fun w24 =>
    ex (RdAt T35 a7 w24) fun x25 =>
    st T35 a3 x25 w24 fun w26 =>
    ex (RdAt T35 a3 w26) fun x27 =>
    R (x27, (0 : Int)) w26
  )
def F14 (n_1 : (Option Addr)) (i_2 : Int) (w : World) (R : (S35 × Int) → World → Prop) : Prop :=
  nw 36 T35 Z35 w fun a3 w4 =>
  cl Try.prog 31 [.pointer (n_1), .int .i64 (i_2)] (tTup2 T35 (tInt .i64)) w4 fun r6 w5 =>
  nw 36 T35 Z35 w5 fun a7 w8 =>
  st T35 a7 r6.1 w8 fun w9 =>
  if (r6.2 != (0 : Int)) = true then (
    ex (RdAt T35 a7 w9) fun x10 =>
    st T35 a3 x10 w9 fun w11 =>
    ex (RdAt T35 a3 w11) fun x12 =>
    R (x12, r6.2) w11
  ) else (
    ex (RdAt (tInt .i64) (a7.add 1) w9) fun x13 =>
    cl Try.prog 32 [.pointer (n_1), .int .i64 (x13)] tBool w9 fun r15 w14 =>
    if r15 = true then (
      F14_j1 n_1 i_2 a3 a7 true w14 R
    ) else (
      ex (RdAt (tInt .i64) (a7.add 2) w14) fun x30 =>
      cl Try.prog 32 [.pointer (n_1), .int .i64 (x30)] tBool w14 fun r32 w31 =>
      F14_j1 n_1 i_2 a3 a7 r32 w31 R
    )
  )
theorem F14_ok {n_1 : (Option Addr)} {i_2 : Int} {w : World} {R : (S35 × Int) → World → Prop} (h : F14 n_1 i_2 w R) : cl Try.prog 14 [.pointer (n_1), .int .i64 (i_2)] (tTup2 T35 (tInt .i64)) w R := by
  unfold F14 at h
  refine calls_start 41 Try.func14 rfl rfl (Nat.le_of_ble_eq_true rfl) ?_
  refine wp_seq ?_
  refine wp_text [0, 1] rfl ?_
  obtain ⟨a3, w4, ha3, hw4, h⟩ := nw_open h
  refine ro_val (d := (some 4)) rfl (.free rfl) rfl (q_alloc (u := Z35) rfl ok36 inf36 ha3 hw4) ?_
  refine ro_val (d := (some 5)) rfl (.free rfl) rfl (q_assign (v := .int .i64 ((0 : Int))) rfl rfl) ?_
  refine ro_nil ?_
  refine wp_seq ?_
  refine wp_text [0, 1, 2, 3, 4, 5, 6, 7, 8] rfl ?_
  refine ro_val (d := (some 9)) rfl (.free rfl) rfl (q_move (v := .pointer (n_1)) rfl rfl) ?_
  refine ro_val (d := (some 10)) rfl (.free rfl) rfl (q_move (v := .int .i64 (i_2)) rfl rfl) ?_
  refine ro_wp rfl (.free rfl) (wp_cl (d := (some 11)) rfl (q_call (k := 31) (l := [.pointer (n_1), .int .i64 (i_2)]) rfl ent31 rfl) h ?_)
  intro r6 w5 h
  refine ro_val (d := (some 8)) rfl (.free rfl) rfl (q_move (v := (tTup2 T35 (tInt .i64)).enc (r6)) rfl rfl) ?_
  refine ro_val (d := (some 12)) rfl (.free rfl) rfl (q_extract (vs := #[T35.enc (r6.1), .int .i64 (r6.2)]) (v := T35.enc (r6.1)) rfl rfl rfl) ?_
  refine ro_val (d := (some 13)) rfl (.free rfl) rfl (q_extract (vs := #[T35.enc (r6.1), .int .i64 (r6.2)]) (v := .int .i64 (r6.2)) rfl rfl rfl) ?_
  obtain ⟨a7, w8, ha7, hw8, h⟩ := nw_open h
  refine ro_val (d := (some 6)) rfl (.free rfl) rfl (q_alloc (u := Z35) rfl ok36 inf36 ha7 hw8) ?_
  obtain ⟨w9, hw9, hrw9, h⟩ := st_open h
  refine ro_skip (d := none) rfl (.free rfl) rfl (q_store (T := T35) (u := r6.1) (a := a7) rfl ok36 rfl rfl hrw9 hw9) ?_
  refine ro_val (d := (some 7)) rfl (.free rfl) rfl (q_assign (v := .int .i64 (r6.2)) rfl rfl) ?_
  refine ro_nil ?_
  refine wp_seq ?_
  refine wp_seq ?_
  refine wp_text [0, 1] rfl ?_
  refine ro_val (d := (some 14)) rfl (.free rfl) rfl (q_move (v := .int .i64 (r6.2)) rfl rfl) ?_
  refine ro_val (d := (some 15)) rfl (.free rfl) rfl (q_neq (a := r6.2) (b := (0 : Int)) rfl rfl rfl) ?_
  refine ro_nil ?_
  refine wp_if (b := (r6.2 != (0 : Int))) rfl h (fun hb33 h => ?_) (fun hb33 h => ?_)
  · refine wp_seq ?_
    refine wp_text [0, 1, 2, 3] rfl ?_
    obtain ⟨x10, hx10, h⟩ := h
    refine ro_val (d := (some 16)) rfl (.free rfl) rfl (q_load (T := T35) (u := x10) (a := a7) rfl ok36 rfl hx10) ?_
    refine ro_val (d := (some 17)) rfl (.free rfl) rfl (q_move (v := .int .i64 (r6.2)) rfl rfl) ?_
    obtain ⟨w11, hw11, hrw11, h⟩ := st_open h
    refine ro_skip (d := none) rfl (.free rfl) rfl (q_store (T := T35) (u := x10) (a := a3) rfl ok36 rfl rfl hrw11 hw11) ?_
    refine ro_val (d := (some 5)) rfl (.free rfl) rfl (q_assign (v := .int .i64 (r6.2)) rfl rfl) ?_
    refine ro_nil ?_
    refine wp_ret ?_
    obtain ⟨x12, hx12, h⟩ := h
    exact ret_ok rfl (.cons (.cell (T := T35) (u := x12) (a := a3) ok36 rfl hx12) (.cons (.tmp (v := .int .i64 (r6.2)) rfl) .nil)) ⟨(x12, r6.2), rfl, h⟩
  · refine wp_skip ?_
    refine wp_seq ?_
    refine wp_seq ?_
    refine wp_text [0, 1, 2, 3, 4, 5, 6, 7, 8, 9] rfl ?_
    refine ro_val (d := (some 18)) rfl (.free rfl) rfl (q_move (v := .pointer (n_1)) rfl rfl) ?_
    refine ro_val (d := (some 19)) rfl (.free rfl) rfl (q_fieldAddr (a := a7) (off := 1) rfl Try.underlying36 rfl rfl ok3 (by decide) rfl) ?_
    obtain ⟨x13, hx13, h⟩ := h
    refine ro_val (d := (some 20)) rfl (.free rfl) rfl (q_load (T := (tInt .i64)) (u := x13) (a := (a7.add 1)) rfl ok3 rfl hx13) ?_
    refine ro_wp rfl (.free rfl) (wp_cl (d := (some 21)) rfl (q_call (k := 32) (l := [.pointer (n_1), .int .i64 (x13)]) rfl ent32 rfl) h ?_)
    intro r15 w14 h
    refine ro_val (d := (some 22)) rfl (.free rfl) rfl (q_move (v := .bool (r15)) rfl rfl) ?_
    refine ro_join (σ := Bool) (J := fun (s : Bool) w => F14_j1 n_1 i_2 a3 a7 s w R) (fr := fun g (s : Bool) => upd (upd (upd (upd (upd (g) 0 (.pointer (n_1))) 1 (.int .i64 (i_2))) 4 (.pointer (some a3))) 6 (.pointer (some a7))) 27 (.bool (s))) [5, 6, 7, 8, 9] [] ?_ ?_
    · rintro t_16 g w17 h
      unfold F14_j1 at h
      refine ro_nil ?_
      refine wp_if (b := t_16) rfl h (fun hb28 h => ?_) (fun hb28 h => ?_)
      · refine wp_seq ?_
        refine wp_text [0, 1, 2] rfl ?_
        refine ro_val (d := (some 28)) rfl (.free rfl) rfl (q_build36_  rfl ) ?_
        obtain ⟨w18, hw18, hrw18, h⟩ := st_open h
        refine ro_skip (d := none) rfl (.free rfl) rfl (q_store (T := T35) (u := (⟨(0 : Int), (0 : Int), (0 : Int), ([] : List UInt8)⟩ : S35)) (a := a3) rfl ok36 rfl rfl hrw18 hw18) ?_
        refine ro_val (d := (some 5)) rfl (.free rfl) rfl (q_assign (v := .int .i64 ((93 : Int))) rfl rfl) ?_
        refine ro_nil ?_
        refine wp_ret ?_
        obtain ⟨x19, hx19, h⟩ := h
        exact ret_ok rfl (.cons (.cell (T := T35) (u := x19) (a := a3) ok36 rfl hx19) (.cons (.tmp (v := .int .i64 ((93 : Int))) rfl) .nil)) ⟨(x19, (93 : Int)), rfl, h⟩
      · refine wp_skip ?_
        refine wp_seq ?_
        refine wp_text [0, 1, 2, 3, 4, 5, 6, 7, 8, 9, 10, 11] rfl ?_
        refine ro_val (d := (some 29)) rfl (.free rfl) rfl (q_move (v := .pointer (n_1)) rfl rfl) ?_
        refine ro_val (d := (some 30)) rfl (.free rfl) rfl (q_move (v := .pointer (n_1)) rfl rfl) ?_
        obtain ⟨a20, ha20, h⟩ := h
        refine ro_val (d := (some 31)) rfl (.free rfl) rfl (q_nilCheck (a := a20) rfl (congrArg Value.pointer ha20)) ?_
        refine ro_val (d := (some 32)) rfl (.free rfl) rfl (q_fieldAddr (a := a20) (off := 2) rfl Try.underlying65 rfl rfl ok33 (by decide) rfl) ?_
        obtain ⟨x21, hx21, h⟩ := h
        refine ro_val (d := (some 33)) rfl (.free rfl) rfl (q_load (T := tSlc) (u := x21) (a := (a20.add 2)) rfl ok33 rfl hx21) ?_
        refine ro_val (d := (some 34)) rfl (.free rfl) rfl (q_move (v := .int .i64 (i_2)) rfl rfl) ?_
        refine ro_val (d := (some 35)) rfl (.free rfl) rfl (q_move (v := .int .i64 (i_2)) rfl rfl) ?_
        refine ro_val (d := (some 36)) rfl (.free rfl) rfl (q_add (a := i_2) (b := (1 : Int)) rfl rfl rfl) ?_
        refine ro_wp rfl (.free rfl) (wp_cl (d := (some 37)) rfl (q_call (k := 33) (l := [tSlc.enc (x21), .int .i64 (i_2), .int .i64 ((IntKind.i64.wrap (i_2 + (1 : Int))))]) rfl ent33 rfl) h ?_)
        intro r23 w22 h
        refine ro_val (d := (some 38)) rfl (.free rfl) rfl (q_nilCheck (a := a20) rfl (congrArg Value.pointer ha20)) ?_
        refine ro_val (d := (some 39)) rfl (.free rfl) rfl (q_fieldAddr (a := a20) (off := 2) rfl Try.underlying65 rfl rfl ok33 (by decide) rfl) ?_
        obtain ⟨w24, hw24, hrw24, h⟩ := st_open h
        refine ro_skip (d := none) rfl (.free rfl) rfl (q_store (T := tSlc) (u := r23) (a := (a20.add 2)) rfl ok33 rfl rfl hrw24 hw24) ?_
        refine ro_nil ?_
        refine wp_seq ?_
        refine wp_text [0, 1, 2] rfl ?_
        obtain ⟨x25, hx25, h⟩ := h
        refine ro_val (d := (some 40)) rfl (.free rfl) rfl (q_load (T := T35) (u := x25) (a := a7) rfl ok36 rfl hx25) ?_
        obtain ⟨w26, hw26, hrw26, h⟩ := st_open h
        refine ro_skip (d := none) rfl (.free rfl) rfl (q_store (T := T35) (u := x25) (a := a3) rfl ok36 rfl rfl hrw26 hw26) ?_
        refine ro_val (d := (some 5)) rfl (.free rfl) rfl (q_assign (v := .int .i64 ((0 : Int))) rfl rfl) ?_
        refine ro_nil ?_
        refine wp_ret ?_
        obtain ⟨x27, hx27, h⟩ := h
        exact ret_ok rfl (.cons (.cell (T := T35) (u := x27) (a := a3) ok36 rfl hx27) (.cons (.tmp (v := .int .i64 ((0 : Int))) rfl) .nil)) ⟨(x27, (0 : Int)), rfl, h⟩
    · refine ro_if (b := r15) h (fun hb29 h => ?_) (fun hb29 h => ?_)
      · refine ro_bar (d := (some 23)) rfl (.by_ 4 false 22 r15 rfl rfl rfl hb29) rfl ?_
        refine ro_bar (d := (some 24)) rfl (.by_ 4 false 22 r15 rfl rfl rfl hb29) rfl ?_
        refine ro_bar (d := (some 25)) rfl (.by_ 4 false 22 r15 rfl rfl rfl hb29) rfl ?_
        refine ro_bar (d := (some 26)) rfl (.by_ 4 false 22 r15 rfl rfl rfl hb29) rfl ?_
        refine ro_val (d := (some 27)) rfl (.free rfl) rfl (q_pickT (v := .bool (true)) (b := r15) rfl rfl hb29 rfl) ?_
        refine ro_nil ?_
        exact ⟨(true), _, arr (upd_step (upd_step (upd_step (upd_step (upd_step rfl rfl) rfl) rfl) rfl) rfl), h⟩
      · refine ro_val (d := (some 23)) rfl (.by_ 4 false 22 r15 rfl rfl rfl hb29) rfl (q_move (v := .pointer (n_1)) rfl rfl) ?_
        refine ro_val (d := (some 24)) rfl (.by_ 4 false 22 r15 rfl rfl rfl hb29) rfl (q_fieldAddr (a := a7) (off := 2) rfl Try.underlying36 rfl rfl ok3 (by decide) rfl) ?_
        obtain ⟨x30, hx30, h⟩ := h
        refine ro_val (d := (some 25)) rfl (.by_ 4 false 22 r15 rfl rfl rfl hb29) rfl (q_load (T := (tInt .i64)) (u := x30) (a := (a7.add 2)) rfl ok3 rfl hx30) ?_
        refine ro_wp rfl (.by_ 4 false 22 r15 rfl rfl rfl hb29) (wp_cl (d := (some 26)) rfl (q_call (k := 32) (l := [.pointer (n_1), .int .i64 (x30)]) rfl ent32 rfl) h ?_)
        intro r32 w31 h
        refine ro_val (d := (some 27)) rfl (.free rfl) rfl (q_pickF (v := .bool (r32)) (b := r15) rfl rfl hb29 rfl) ?_
        refine ro_nil ?_
        exact ⟨(r32), _, arr (upd_step (upd_step (upd_step (upd_step (upd_step rfl rfl) rfl) rfl) rfl) rfl), h⟩

-- moiety/moietylaw09.few
def F15_j1 (a2 : Addr) (a4 : Addr) (w6 : World) (R : S28 → World → Prop) : Prop :=
  ex (RdAt T28 a2 w6) fun x7 =>
  st T28 a4 x7 w6 fun w8 =>
  ex (RdAt T28 a4 w8) fun x9 =>
  R x9 w8
def F15 (o_1 : S28) (w : World) (R : S28 → World → Prop) : Prop :=
  nw 29 T28 o_1 w fun a2 w3 =>
  nw 29 T28 Z28 w3 fun a4 w5 =>
  ex (RdAt tStr (a2.add 3) w5) fun x10 =>
  if (decide ((x10.length : Int) > (200 : Int))) = true then (
    ex (RdAt tStr (a2.add 3) w5) fun x11 =>
    ex (SubS x11 0 (200 : Int)) fun s12 =>
    st tStr (a2.add 3) s12 w5 fun w13 =>
    F15_j1 a2 a4 w13 R
  ) else (
    F15_j1 a2 a4 w5 R
  )
theorem F15_ok {o_1 : S28} {w : World} {R : S28 → World → Prop} (h : F15 o_1 w R) : cl Try.prog 15 [T28.enc (o_1)] T28 w R := by
  unfold F15 at h
  refine calls_start 12 Try.func15 rfl rfl (Nat.le_of_ble_eq_true rfl) ?_
  refine wp_seq ?_
  refine wp_text [0, 1] rfl ?_
  obtain ⟨a2, w3, ha2, hw3, h⟩ := nw_open h
  refine ro_val (d := (some 1)) rfl (.free rfl) rfl (q_box (u := o_1) rfl ok29 rfl ha2 hw3) ?_
  obtain ⟨a4, w5, ha4, hw5, h⟩ := nw_open h
  refine ro_val (d := (some 2)) rfl (.free rfl) rfl (q_alloc (u := Z28) rfl ok29 inf29 ha4 hw5) ?_
  refine ro_nil ?_
  refine seq_join (σ := Unit) (J := fun (s : Unit) w => F15_j1 a2 a4 w R) (fr := fun g (s : Unit) => upd (upd (g) 1 (.pointer (some a2))) 2 (.pointer (some a4))) ?_ ?_
  · rintro ⟨⟩ g w6 h
    unfold F15_j1 at h
    refine wp_seq ?_
    refine wp_text [0, 1] rfl ?_
    obtain ⟨x7, hx7, h⟩ := h
    refine ro_val (d := (some 11)) rfl (.free rfl) rfl (q_load (T := T28) (u := x7) (a := a2) rfl ok29 rfl hx7) ?_
    obtain ⟨w8, hw8, hrw8, h⟩ := st_open h
    refine ro_skip (d := none) rfl (.free rfl) rfl (q_store (T := T28) (u := x7) (a := a4) rfl ok29 rfl rfl hrw8 hw8) ?_
    refine ro_nil ?_
    refine wp_ret ?_
    obtain ⟨x9, hx9, h⟩ := h
    exact ret_ok rfl (.cons (.cell (T := T28) (u := x9) (a := a4) ok29 rfl hx9) .nil) ⟨x9, rfl, h⟩
  · refine wp_seq ?_
    refine wp_text [0, 1, 2, 3] rfl ?_
    refine ro_val (d := (some 3)) rfl (.free rfl) rfl (q_fieldAddr (a := a2) (off := 3) rfl Try.underlying29 rfl rfl ok9 (by decide) rfl) ?_
    obtain ⟨x10, hx10, h⟩ := h
    refine ro_val (d := (some 4)) rfl (.free rfl) rfl (q_load (T := tStr) (u := x10) (a := (a2.add 3)) rfl ok9 rfl hx10) ?_
    refine ro_val (d := (some 5)) rfl (.free rfl) rfl (q_lenS (s := x10) rfl Try.underlying9 rfl) ?_
    refine ro_val (d := (some 6)) rfl (.free rfl) rfl (q_gtr (a := (x10.length : Int)) (b := (200 : Int)) rfl rfl rfl) ?_
    refine ro_nil ?_
    refine wp_if (b := (decide ((x10.length : Int) > (200 : Int)))) rfl h (fun hb14 h => ?_) (fun hb14 h => ?_)
    · refine wp_text [0, 1, 2, 3, 4] rfl ?_
      refine ro_val (d := (some 7)) rfl (.free rfl) rfl (q_fieldAddr (a := a2) (off := 3) rfl Try.underlying29 rfl rfl ok9 (by decide) rfl) ?_
      obtain ⟨x11, hx11, h⟩ := h
      refine ro_val (d := (some 8)) rfl (.free rfl) rfl (q_load (T := tStr) (u := x11) (a := (a2.add 3)) rfl ok9 rfl hx11) ?_
      obtain ⟨s12, hs12, h⟩ := h
      refine ro_val (d := (some 9)) rfl (.free rfl) rfl (q_subH (s := x11) (h := (200 : Int)) rfl Try.underlying9 rfl rfl hs12) ?_
      refine ro_val (d := (some 10)) rfl (.free rfl) rfl (q_fieldAddr (a := a2) (off := 3) rfl Try.underlying29 rfl rfl ok9 (by decide) rfl) ?_
      obtain ⟨w13, hw13, hrw13, h⟩ := st_open h
      refine ro_skip (d := none) rfl (.free rfl) rfl (q_store (T := tStr) (u := s12) (a := (a2.add 3)) rfl ok9 rfl rfl hrw13 hw13) ?_
      refine ro_nil ?_
      exact ⟨(), _, arr (upd_step (upd_step rfl rfl) rfl), h⟩
    · refine wp_skip ?_
      exact ⟨(), _, arr (upd_step (upd_step rfl rfl) rfl), h⟩

-- (*moiety/post.Net[string]).Copy
def F16 (n_1 : (Option Addr)) (i_2 : Int) (w : World) (R : Int → World → Prop) : Prop :=
  cl Try.prog 31 [.pointer (n_1), .int .i64 (i_2)] (tTup2 T35 (tInt .i64)) w fun r4 w3 =>
  nw 36 T35 Z35 w3 fun a5 w6 =>
  st T35 a5 r4.1 w6 fun w7 =>
  if (r4.2 != (0 : Int)) = true then (
    R r4.2 w7
  ) else (
    ex (RdAt T35 a5 w7) fun x8 =>
    cl Try.prog 29 [.pointer (n_1), T35.enc (x8)] (tInt .i64) w7 fun r10 w9 =>
    R r10 w9
  )
theorem F16_ok {n_1 : (Option Addr)} {i_2 : Int} {w : World} {R : Int → World → Prop} (h : F16 n_1 i_2 w R) : cl Try.prog 16 [.pointer (n_1), .int .i64 (i_2)] (tInt .i64) w R := by
  unfold F16 at h
  refine calls_start 19 Try.func16 rfl rfl (Nat.le_of_ble_eq_true rfl) ?_
  refine wp_seq ?_
  refine wp_text [0] rfl ?_
  refine ro_val (d := (some 4)) rfl (.free rfl) rfl (q_assign (v := .int .i64 ((0 : Int))) rfl rfl) ?_
  refine ro_nil ?_
  refine wp_seq ?_
  refine wp_text [0, 1, 2, 3, 4, 5, 6, 7, 8] rfl ?_
  refine ro_val (d := (some 8)) rfl (.free rfl) rfl (q_move (v := .pointer (n_1)) rfl rfl) ?_
  refine ro_val (d := (some 9)) rfl (.free rfl) rfl (q_move (v := .int .i64 (i_2)) rfl rfl) ?_
  refine ro_wp rfl (.free rfl) (wp_cl (d := (some 10)) rfl (q_call (k := 31) (l := [.pointer (n_1), .int .i64 (i_2)]) rfl ent31 rfl) h ?_)
  intro r4 w3 h
  refine ro_val (d := (some 7)) rfl (.free rfl) rfl (q_move (v := (tTup2 T35 (tInt .i64)).enc (r4)) rfl rfl) ?_
  refine ro_val (d := (some 11)) rfl (.free rfl) rfl (q_extract (vs := #[T35.enc (r4.1), .int .i64 (r4.2)]) (v := T35.enc (r4.1)) rfl rfl rfl) ?_
  refine ro_val (d := (some 12)) rfl (.free rfl) rfl (q_extract (vs := #[T35.enc (r4.1), .int .i64 (r4.2)]) (v := .int .i64 (r4.2)) rfl rfl rfl) ?_
  obtain ⟨a5, w6, ha5, hw6, h⟩ := nw_open h
  refine ro_val (d := (some 5)) rfl (.free rfl) rfl (q_alloc (u := Z35) rfl ok36 inf36 ha5 hw6) ?_
  obtain ⟨w7, hw7, hrw7, h⟩ := st_open h
  refine ro_skip (d := none) rfl (.free rfl) rfl (q_store (T := T35) (u := r4.1) (a := a5) rfl ok36 rfl rfl hrw7 hw7) ?_
  refine ro_val (d := (some 6)) rfl (.free rfl) rfl (q_assign (v := .int .i64 (r4.2)) rfl rfl) ?_
  refine ro_nil ?_
  refine wp_seq ?_
  refine wp_seq ?_
  refine wp_text [0, 1] rfl ?_
  refine ro_val (d := (some 13)) rfl (.free rfl) rfl (q_move (v := .int .i64 (r4.2)) rfl rfl) ?_
  refine ro_val (d := (some 14)) rfl (.free rfl) rfl (q_neq (a := r4.2) (b := (0 : Int)) rfl rfl rfl) ?_
  refine ro_nil ?_
  refine wp_if (b := (r4.2 != (0 : Int))) rfl h (fun hb11 h => ?_) (fun hb11 h => ?_)
  · refine wp_seq ?_
    refine wp_text [0, 1] rfl ?_
    refine ro_val (d := (some 15)) rfl (.free rfl) rfl (q_move (v := .int .i64 (r4.2)) rfl rfl) ?_
    refine ro_val (d := (some 4)) rfl (.free rfl) rfl (q_assign (v := .int .i64 (r4.2)) rfl rfl) ?_
    refine ro_nil ?_
    refine wp_ret ?_
    exact ret_ok rfl (.cons (.tmp (v := .int .i64 (r4.2)) rfl) .nil) ⟨r4.2, rfl, h⟩
  · refine wp_skip ?_
    refine wp_seq ?_
    refine wp_text [0, 1, 2, 3] rfl ?_
    refine ro_val (d := (some 16)) rfl (.free rfl) rfl (q_move (v := .pointer (n_1)) rfl rfl) ?_
    obtain ⟨x8, hx8, h⟩ := h
    refine ro_val (d := (some 17)) rfl (.free rfl) rfl (q_load (T := T35) (u := x8) (a := a5) rfl ok36 rfl hx8) ?_
    refine ro_wp rfl (.free rfl) (wp_cl (d := (some 18)) rfl (q_call (k := 29) (l := [.pointer (n_1), T35.enc (x8)]) rfl ent29 rfl) h ?_)
    intro r10 w9 h
    refine ro_val (d := (some 4)) rfl (.free rfl) rfl (q_assign (v := .int .i64 (r10)) rfl rfl) ?_
    refine ro_nil ?_
    refine wp_ret ?_
    exact ret_ok rfl (.cons (.tmp (v := .int .i64 (r10)) rfl) .nil) ⟨r10, rfl, h⟩

-- (*moiety/post.Net[string]).Lose
def F17_j1 (r4 : (S35 × Int)) (w8 : World) (R : Int → World → Prop) : Prop :=
  R r4.2 w8
def F17 (n_1 : (Option Addr)) (i_2 : Int) (w : World) (R : Int → World → Prop) : Prop :=
  cl Try.prog 31 [.pointer (n_1), .int .i64 (i_2)] (tTup2 T35 (tInt .i64)) w fun r4 w3 =>
  nw 36 T35 Z35 w3 fun a5 w6 =>
  st T35 a5 r4.1 w6 fun w7 =>
  if (r4.2 == (0 : Int)) = true then (
    ex (NC n_1) fun a9 =>
    ex (RdAt tSlc (a9.add 2) w7) fun x10 =>
    cl Try.prog 33 [tSlc.enc (x10), .int .i64 (i_2), .int .i64 ((IntKind.i64.wrap (i_2 + (1 : Int))))] tSlc w7 fun r12 w11 =>
    st tSlc (a9.add 2) r12 w11 fun w13 =>
    F17_j1 r4 w13 R
  ) else (
    F17_j1 r4 w7 R
  )
theorem F17_ok {n_1 : (Option Addr)} {i_2 : Int} {w : World} {R : Int → World → Prop} (h : F17 n_1 i_2 w R) : cl Try.prog 17 [.pointer (n_1), .int .i64 (i_2)] (tInt .i64) w R := by
  unfold F17 at h
  refine calls_start 27 Try.func17 rfl rfl (Nat.le_of_ble_eq_true rfl) ?_
  refine wp_seq ?_
  refine wp_text [0] rfl ?_
  refine ro_val (d := (some 4)) rfl (.free rfl) rfl (q_assign (v := .int .i64 ((0 : Int))) rfl rfl) ?_
  refine ro_nil ?_
  refine wp_seq ?_
  refine wp_text [0, 1, 2, 3, 4, 5, 6, 7, 8] rfl ?_
  refine ro_val (d := (some 8)) rfl (.free rfl) rfl (q_move (v := .pointer (n_1)) rfl rfl) ?_
  refine ro_val (d := (some 9)) rfl (.free rfl) rfl (q_move (v := .int .i64 (i_2)) rfl rfl) ?_
  refine ro_wp rfl (.free rfl) (wp_cl (d := (some 10)) rfl (q_call (k := 31) (l := [.pointer (n_1), .int .i64 (i_2)]) rfl ent31 rfl) h ?_)
  intro r4 w3 h
  refine ro_val (d := (some 7)) rfl (.free rfl) rfl (q_move (v := (tTup2 T35 (tInt .i64)).enc (r4)) rfl rfl) ?_
  refine ro_val (d := (some 11)) rfl (.free rfl) rfl (q_extract (vs := #[T35.enc (r4.1), .int .i64 (r4.2)]) (v := T35.enc (r4.1)) rfl rfl rfl) ?_
  refine ro_val (d := (some 12)) rfl (.free rfl) rfl (q_extract (vs := #[T35.enc (r4.1), .int .i64 (r4.2)]) (v := .int .i64 (r4.2)) rfl rfl rfl) ?_
  obtain ⟨a5, w6, ha5, hw6, h⟩ := nw_open h
  refine ro_val (d := (some 5)) rfl (.free rfl) rfl (q_alloc (u := Z35) rfl ok36 inf36 ha5 hw6) ?_
  obtain ⟨w7, hw7, hrw7, h⟩ := st_open h
  refine ro_skip (d := none) rfl (.free rfl) rfl (q_store (T := T35) (u := r4.1) (a := a5) rfl ok36 rfl rfl hrw7 hw7) ?_
  refine ro_val (d := (some 6)) rfl (.free rfl) rfl (q_assign (v := .int .i64 (r4.2)) rfl rfl) ?_
  refine ro_nil ?_
  refine seq_join (σ := Unit) (J := fun (s : Unit) w => F17_j1 r4 w R) (fr := fun g (s : Unit) => upd (g) 6 (.int .i64 (r4.2))) ?_ ?_
  · rintro ⟨⟩ g w8 h
    unfold F17_j1 at h
    refine wp_seq ?_
    refine wp_text [0, 1] rfl ?_
    refine ro_val (d := (some 26)) rfl (.free rfl) rfl (q_move (v := .int .i64 (r4.2)) rfl rfl) ?_
    refine ro_val (d := (some 4)) rfl (.free rfl) rfl (q_assign (v := .int .i64 (r4.2)) rfl rfl) ?_
    refine ro_nil ?_
    refine wp_ret ?_
    exact ret_ok rfl (.cons (.tmp (v := .int .i64 (r4.2)) rfl) .nil) ⟨r4.2, rfl, h⟩
  · refine wp_seq ?_
    refine wp_text [0, 1] rfl ?_
    refine ro_val (d := (some 13)) rfl (.free rfl) rfl (q_move (v := .int .i64 (r4.2)) rfl rfl) ?_
    refine ro_val (d := (some 14)) rfl (.free rfl) rfl (q_eql (a := r4.2) (b := (0 : Int)) rfl rfl rfl) ?_
    refine ro_nil ?_
    refine wp_if (b := (r4.2 == (0 : Int))) rfl h (fun hb14 h => ?_) (fun hb14 h => ?_)
    · refine wp_text [0, 1, 2, 3, 4, 5, 6, 7, 8, 9, 10, 11] rfl ?_
      refine ro_val (d := (some 15)) rfl (.free rfl) rfl (q_move (v := .pointer (n_1)) rfl rfl) ?_
      refine ro_val (d := (some 16)) rfl (.free rfl) rfl (q_move (v := .pointer (n_1)) rfl rfl) ?_
      obtain ⟨a9, ha9, h⟩ := h
      refine ro_val (d := (some 17)) rfl (.free rfl) rfl (q_nilCheck (a := a9) rfl (congrArg Value.pointer ha9)) ?_
      refine ro_val (d := (some 18)) rfl (.free rfl) rfl (q_fieldAddr (a := a9) (off := 2) rfl Try.underlying65 rfl rfl ok33 (by decide) rfl) ?_
      obtain ⟨x10, hx10, h⟩ := h
      refine ro_val (d := (some 19)) rfl (.free rfl) rfl (q_load (T := tSlc) (u := x10) (a := (a9.add 2)) rfl ok33 rfl hx10) ?_
      refine ro_val (d := (some 20)) rfl (.free rfl) rfl (q_move (v := .int .i64 (i_2)) rfl rfl) ?_
      refine ro_val (d := (some 21)) rfl (.free rfl) rfl (q_move (v := .int .i64 (i_2)) rfl rfl) ?_
      refine ro_val (d := (some 22)) rfl (.free rfl) rfl (q_add (a := i_2) (b := (1 : Int)) rfl rfl rfl) ?_
      refine ro_wp rfl (.free rfl) (wp_cl (d := (some 23)) rfl (q_call (k := 33) (l := [tSlc.enc (x10), .int .i64 (i_2), .int .i64 ((IntKind.i64.wrap (i_2 + (1 : Int))))]) rfl ent33 rfl) h ?_)
      intro r12 w11 h
      refine ro_val (d := (some 24)) rfl (.free rfl) rfl (q_nilCheck (a := a9) rfl (congrArg Value.pointer ha9)) ?_
      refine ro_val (d := (some 25)) rfl (.free rfl) rfl (q_fieldAddr (a := a9) (off := 2) rfl Try.underlying65 rfl rfl ok33 (by decide) rfl) ?_
      obtain ⟨w13, hw13, hrw13, h⟩ := st_open h
      refine ro_skip (d := none) rfl (.free rfl) rfl (q_store (T := tSlc) (u := r12) (a := (a9.add 2)) rfl ok33 rfl rfl hrw13 hw13) ?_
      refine ro_nil ?_
      exact ⟨(), _, arr (upd_step rfl rfl), h⟩
    · refine wp_skip ?_
      exact ⟨(), _, arr (upd_step rfl rfl), h⟩

-- (*moiety/post.Net[string]).Purge
def F18 (n_1 : (Option Addr)) (node_2 : Int) (w : World) (R : Int → World → Prop) : Prop :=
  nw 3 (tInt .i64) node_2 w fun a3 w4 =>
  ex (RdAt (tInt .i64) a3 w4) fun x5 =>
  cl Try.prog 28 [.pointer (n_1), .int .i64 (x5)] tBool w4 fun r7 w6 =>
  if (!r7) = true then (
    R (90 : Int) w6
  ) else (
    ex (NC n_1) fun a8 =>
    ex (RdAt tSlc (a8.add 2) w6) fun x9 =>
    cl Try.prog 34 [tSlc.enc (x9), ((Fv.mk (.func 35) (List.toArray []) (List.toArray [.pointer (some a3)]))).enc] tSlc w6 fun r11 w10 =>
    st tSlc (a8.add 2) r11 w10 fun w12 =>
    R (0 : Int) w12
  )
theorem F18_ok {n_1 : (Option Addr)} {node_2 : Int} {w : World} {R : Int → World → Prop} (h : F18 n_1 node_2 w R) : cl Try.prog 18 [.pointer (n_1), .int .i64 (node_2)] (tInt .i64) w R := by
  unfold F18 at h
  refine calls_start 18 Try.func18 rfl rfl (Nat.le_of_ble_eq_true rfl) ?_
  refine wp_seq ?_
  refine wp_text [0, 1] rfl ?_
  obtain ⟨a3, w4, ha3, hw4, h⟩ := nw_open h
  refine ro_val (d := (some 3)) rfl (.free rfl) rfl (q_box (u := node_2) rfl ok3 rfl ha3 hw4) ?_
  refine ro_val (d := (some 4)) rfl (.free rfl) rfl (q_assign (v := .int .i64 ((0 : Int))) rfl rfl) ?_
  refine ro_nil ?_
  refine wp_seq ?_
  refine wp_seq ?_
  refine wp_text [0, 1, 2, 3] rfl ?_
  refine ro_val (d := (some 5)) rfl (.free rfl) rfl (q_move (v := .pointer (n_1)) rfl rfl) ?_
  obtain ⟨x5, hx5, h⟩ := h
  refine ro_val (d := (some 6)) rfl (.free rfl) rfl (q_load (T := (tInt .i64)) (u := x5) (a := a3) rfl ok3 rfl hx5) ?_
  refine ro_wp rfl (.free rfl) (wp_cl (d := (some 7)) rfl (q_call (k := 28) (l := [.pointer (n_1), .int .i64 (x5)]) rfl ent28 rfl) h ?_)
  intro r7 w6 h
  refine ro_val (d := (some 8)) rfl (.free rfl) rfl (q_not (b := r7) rfl rfl) ?_
  refine ro_nil ?_
  refine wp_if (b := (!r7)) rfl h (fun hb13 h => ?_) (fun hb13 h => ?_)
  · refine wp_seq ?_
    refine wp_text [0] rfl ?_
    refine ro_val (d := (some 4)) rfl (.free rfl) rfl (q_assign (v := .int .i64 ((90 : Int))) rfl rfl) ?_
    refine ro_nil ?_
    refine wp_ret ?_
    exact ret_ok rfl (.cons (.tmp (v := .int .i64 ((90 : Int))) rfl) .nil) ⟨(90 : Int), rfl, h⟩
  · refine wp_skip ?_
    refine wp_seq ?_
    refine wp_text [0, 1, 2, 3, 4, 5, 6, 7, 8, 9] rfl ?_
    refine ro_val (d := (some 9)) rfl (.free rfl) rfl (q_move (v := .pointer (n_1)) rfl rfl) ?_
    refine ro_val (d := (some 10)) rfl (.free rfl) rfl (q_move (v := .pointer (n_1)) rfl rfl) ?_
    obtain ⟨a8, ha8, h⟩ := h
    refine ro_val (d := (some 11)) rfl (.free rfl) rfl (q_nilCheck (a := a8) rfl (congrArg Value.pointer ha8)) ?_
    refine ro_val (d := (some 12)) rfl (.free rfl) rfl (q_fieldAddr (a := a8) (off := 2) rfl Try.underlying65 rfl rfl ok33 (by decide) rfl) ?_
    obtain ⟨x9, hx9, h⟩ := h
    refine ro_val (d := (some 13)) rfl (.free rfl) rfl (q_load (T := tSlc) (u := x9) (a := (a8.add 2)) rfl ok33 rfl hx9) ?_
    refine ro_val (d := (some 14)) rfl (.free rfl) rfl (q_makeFunc (fn := .func 35) (va := []) (vc := [.pointer (some a3)]) rfl rfl rfl) ?_
    refine ro_wp rfl (.free rfl) (wp_cl (d := (some 15)) rfl (q_call (k := 34) (l := [tSlc.enc (x9), ((Fv.mk (.func 35) (List.toArray []) (List.toArray [.pointer (some a3)]))).enc]) rfl ent34 rfl) h ?_)
    intro r11 w10 h
    refine ro_val (d := (some 16)) rfl (.free rfl) rfl (q_nilCheck (a := a8) rfl (congrArg Value.pointer ha8)) ?_
    refine ro_val (d := (some 17)) rfl (.free rfl) rfl (q_fieldAddr (a := a8) (off := 2) rfl Try.underlying65 rfl rfl ok33 (by decide) rfl) ?_
    obtain ⟨w12, hw12, hrw12, h⟩ := st_open h
    refine ro_skip (d := none) rfl (.free rfl) rfl (q_store (T := tSlc) (u := r11) (a := (a8.add 2)) rfl ok33 rfl rfl hrw12 hw12) ?_
    refine ro_nil ?_
    refine wp_seq ?_
    refine wp_text [0] rfl ?_
    refine ro_val (d := (some 4)) rfl (.free rfl) rfl (q_assign (v := .int .i64 ((0 : Int))) rfl rfl) ?_
    refine ro_nil ?_
    refine wp_ret ?_
    exact ret_ok rfl (.cons (.tmp (v := .int .i64 ((0 : Int))) rfl) .nil) ⟨(0 : Int), rfl, h⟩

-- moiety/moietyref09.New
def F19 (nodes_1 : Int) (w : World) (R : (S48 × Bool) → World → Prop) : Prop :=
  nw 49 T48 Z48 w fun a2 w3 =>
  st T48 a2 (⟨nodes_1, (0 : Int), (Vector.replicate 64 false), (⟨none, 0, 0⟩ : Slc)⟩ : S48) w3 fun w4 =>
  ex (RdAt T48 a2 w4) fun x5 =>
  R (x5, ((decide (nodes_1 ≥ (1 : Int))) && (decide (nodes_1 ≤ (64 : Int))))) w4
theorem F19_ok {nodes_1 : Int} {w : World} {R : (S48 × Bool) → World → Prop} (h : F19 nodes_1 w R) : cl Try.prog 19 [.int .i64 (nodes_1)] (tTup2 T48 tBool) w R := by
  unfold F19 at h
  refine calls_start 12 Try.func19 rfl rfl (Nat.le_of_ble_eq_true rfl) ?_
  refine wp_seq ?_
  refine wp_text [0, 1] rfl ?_
  obtain ⟨a2, w3, ha2, hw3, h⟩ := nw_open h
  refine ro_val (d := (some 2)) rfl (.free rfl) rfl (q_alloc (u := Z48) rfl ok49 inf49 ha2 hw3) ?_
  refine ro_val (d := (some 3)) rfl (.free rfl) rfl (q_assign (v := .bool (false)) rfl rfl) ?_
  refine ro_nil ?_
  refine wp_seq ?_
  refine wp_text [0, 1, 2, 3, 4, 5, 6, 7, 8, 9] rfl ?_
  refine ro_val (d := (some 4)) rfl (.free rfl) rfl (q_move (v := .int .i64 (nodes_1)) rfl rfl) ?_
  refine ro_val (d := (some 5)) rfl (.free rfl) rfl (q_build49_0 (v0 := nodes_1) rfl rfl) ?_
  refine ro_val (d := (some 6)) rfl (.free rfl) rfl (q_move (v := .int .i64 (nodes_1)) rfl rfl) ?_
  refine ro_val (d := (some 7)) rfl (.free rfl) rfl (q_geq (a := nodes_1) (b := (1 : Int)) rfl rfl rfl) ?_
  refine ro_val (d := (some 8)) rfl (.free rfl) rfl (q_move (v := .bool ((decide (nodes_1 ≥ (1 : Int))))) rfl rfl) ?_
  refine ro_gval (g := (decide (nodes_1 ≥ (1 : Int)))) (d := (some 9)) rfl (.yes 4 8 true (decide (nodes_1 ≥ (1 : Int))) rfl rfl rfl rfl) rfl (fun hg => q_move (v := .int .i64 (nodes_1)) rfl rfl) ?_
  refine ro_gval (g := (decide (nodes_1 ≥ (1 : Int)))) (d := (some 10)) rfl (.yes 4 8 true (decide (nodes_1 ≥ (1 : Int))) rfl rfl rfl rfl) rfl (fun hg => q_leq (a := nodes_1) (b := (64 : Int)) rfl (gvb_yes hg) rfl) ?_
  refine ro_val (d := (some 11)) rfl (.free rfl) rfl (q_pickGT (a := (decide (nodes_1 ≥ (1 : Int)))) (b := (decide (nodes_1 ≤ (64 : Int)))) rfl rfl rfl rfl) ?_
  obtain ⟨w4, hw4, hrw4, h⟩ := st_open h
  refine ro_skip (d := none) rfl (.free rfl) rfl (q_store (T := T48) (u := (⟨nodes_1, (0 : Int), (Vector.replicate 64 false), (⟨none, 0, 0⟩ : Slc)⟩ : S48)) (a := a2) rfl ok49 rfl rfl hrw4 hw4) ?_
  refine ro_val (d := (some 3)) rfl (.free rfl) rfl (q_assign (v := .bool (((decide (nodes_1 ≥ (1 : Int))) && (decide (nodes_1 ≤ (64 : Int)))))) rfl rfl) ?_
  refine ro_nil ?_
  refine wp_ret ?_
  obtain ⟨x5, hx5, h⟩ := h
  exact ret_ok rfl (.cons (.cell (T := T48) (u := x5) (a := a2) ok49 rfl hx5) (.cons (.tmp (v := .bool (((decide (nodes_1 ≥ (1 : Int))) && (decide (nodes_1 ≤ (64 : Int)))))) rfl) .nil)) ⟨(x5, ((decide (nodes_1 ≥ (1 : Int))) && (decide (nodes_1 ≤ (64 : Int))))), rfl, h⟩

end Go.Proofs.Ytpflfnaflacfgaa.Cf
