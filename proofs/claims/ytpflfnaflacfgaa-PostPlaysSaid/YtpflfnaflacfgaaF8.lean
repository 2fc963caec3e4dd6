/- Characteristic formulae of Go functions, and that they are. Printed by gen.py (own tool). -/
import Derived.Test.YtpflfnaflacfgaaTy
namespace Go.Proofs.Ytpflfnaflacfgaa.Cf
open Go
set_option maxRecDepth 100000
set_option maxHeartbeats 1000000
set_option linter.unusedVariables false
set_option linter.unusedSimpArgs false

-- (*moiety/post.Net[int]).Send
def F23_j1 (n_1 : (Option Addr)) (from_2 : Int) (to_3 : Int) (m_4 : Int) (t_7 : Bool) (w8 : World) (R : (Int × Int) → World → Prop) : Prop :=
  if t_7 = true then (
    R ((0 : Int), (90 : Int)) w8
  ) else (
    ex (NC n_1) fun a9 =>
    ex (RdAt (tInt .i64) (a9.add 1) w8) fun x10 =>
    cl Try.prog 43 [.pointer (n_1), T60.enc ((⟨(IntKind.i64.wrap (x10 + (1 : Int))), from_2, to_3, m_4⟩ : S60))] (tInt .i64) w8 fun r12 w11 =>
    if (r12 != (0 : Int)) = true then (
      R ((0 : Int), r12) w11
    ) else (
      st (tInt .i64) (a9.add 1) (IntKind.i64.wrap (x10 + (1 : Int))) w11 fun w13 =>
      R ((IntKind.i64.wrap (x10 + (1 : Int))), (0 : Int)) w13
    )
  )
def F23 (n_1 : (Option Addr)) (from_2 : Int) (to_3 : Int) (m_4 : Int) (w : World) (R : (Int × Int) → World → Prop) : Prop :=
  cl Try.prog 42 [.pointer (n_1), .int .i64 (from_2)] tBool w fun r6 w5 =>
  if (!r6) = true then (
    F23_j1 n_1 from_2 to_3 m_4 true w5 R
  ) else (
    cl Try.prog 42 [.pointer (n_1), .int .i64 (to_3)] tBool w5 fun r18 w17 =>
    F23_j1 n_1 from_2 to_3 m_4 (!r18) w17 R
  )
theorem F23_ok {n_1 : (Option Addr)} {from_2 : Int} {to_3 : Int} {m_4 : Int} {w : World} {R : (Int × Int) → World → Prop} (h : F23 n_1 from_2 to_3 m_4 w R) : cl Try.prog 23 [.pointer (n_1), .int .i64 (from_2), .int .i64 (to_3), .int .i64 (m_4)] (tTup2 (tInt .i64) (tInt .i64)) w R := by
  unfold F23 at h
  refine calls_start 42 Try.func23 rfl rfl (Nat.le_of_ble_eq_true rfl) ?_
  refine wp_seq ?_
  refine wp_text [0, 1] rfl ?_
  refine ro_val (d := (some 8)) rfl (.free rfl) rfl (q_assign (v := .int .i64 ((0 : Int))) rfl rfl) ?_
  refine ro_val (d := (some 9)) rfl (.free rfl) rfl (q_assign (v := .int .i64 ((0 : Int))) rfl rfl) ?_
  refine ro_nil ?_
  refine wp_seq ?_
  refine wp_seq ?_
  refine wp_text [0, 1, 2, 3, 4, 5, 6, 7, 8, 9] rfl ?_
  refine ro_val (d := (some 12)) rfl (.free rfl) rfl (q_move (v := .pointer (n_1)) rfl rfl) ?_
  refine ro_val (d := (some 13)) rfl (.free rfl) rfl (q_move (v := .int .i64 (from_2)) rfl rfl) ?_
  refine ro_wp rfl (.free rfl) (wp_cl (d := (some 14)) rfl (q_call (k := 42) (l := [.pointer (n_1), .int .i64 (from_2)]) rfl ent42 rfl) h ?_)
  intro r6 w5 h
  refine ro_val (d := (some 15)) rfl (.free rfl) rfl (q_not (b := r6) rfl rfl) ?_
  refine ro_val (d := (some 16)) rfl (.free rfl) rfl (q_move (v := .bool ((!r6))) rfl rfl) ?_
  refine ro_join (σ := Bool) (J := fun (s : Bool) w => F23_j1 n_1 from_2 to_3 m_4 s w R) (fr := fun g (s : Bool) => upd (upd (upd (upd (upd (g) 0 (.pointer (n_1))) 1 (.int .i64 (from_2))) 2 (.int .i64 (to_3))) 3 (.int .i64 (m_4))) 21 (.bool (s))) [5, 6, 7, 8, 9] [] ?_ ?_
  · rintro t_7 g w8 h
    unfold F23_j1 at h
    refine ro_nil ?_
    refine wp_if (b := t_7) rfl h (fun hb15 h => ?_) (fun hb15 h => ?_)
    · refine wp_seq ?_
      refine wp_text [0, 1] rfl ?_
      refine ro_val (d := (some 8)) rfl (.free rfl) rfl (q_assign (v := .int .i64 ((0 : Int))) rfl rfl) ?_
      refine ro_val (d := (some 9)) rfl (.free rfl) rfl (q_assign (v := .int .i64 ((90 : Int))) rfl rfl) ?_
      refine ro_nil ?_
      refine wp_ret ?_
      exact ret_ok rfl (.cons (.tmp (v := .int .i64 ((0 : Int))) rfl) (.cons (.tmp (v := .int .i64 ((90 : Int))) rfl) .nil)) ⟨((0 : Int), (90 : Int)), rfl, h⟩
    · refine wp_skip ?_
      refine wp_seq ?_
      refine wp_text [0, 1, 2, 3, 4, 5] rfl ?_
      refine ro_val (d := (some 22)) rfl (.free rfl) rfl (q_move (v := .pointer (n_1)) rfl rfl) ?_
      obtain ⟨a9, ha9, h⟩ := h
      refine ro_val (d := (some 23)) rfl (.free rfl) rfl (q_nilCheck (a := a9) rfl (congrArg Value.pointer ha9)) ?_
      refine ro_val (d := (some 24)) rfl (.free rfl) rfl (q_fieldAddr (a := a9) (off := 1) rfl Try.underlying82 rfl rfl ok3 (by decide) rfl) ?_
      obtain ⟨x10, hx10, h⟩ := h
      refine ro_val (d := (some 25)) rfl (.free rfl) rfl (q_load (T := (tInt .i64)) (u := x10) (a := (a9.add 1)) rfl ok3 rfl hx10) ?_
      refine ro_val (d := (some 26)) rfl (.free rfl) rfl (q_add (a := x10) (b := (1 : Int)) rfl rfl rfl) ?_
      refine ro_val (d := (some 10)) rfl (.free rfl) rfl (q_assign (v := .int .i64 ((IntKind.i64.wrap (x10 + (1 : Int))))) rfl rfl) ?_
      refine ro_nil ?_
      refine wp_seq ?_
      refine wp_seq ?_
      refine wp_text [0, 1, 2, 3, 4, 5, 6, 7] rfl ?_
      refine ro_val (d := (some 27)) rfl (.free rfl) rfl (q_move (v := .pointer (n_1)) rfl rfl) ?_
      refine ro_val (d := (some 28)) rfl (.free rfl) rfl (q_move (v := .int .i64 ((IntKind.i64.wrap (x10 + (1 : Int))))) rfl rfl) ?_
      refine ro_val (d := (some 29)) rfl (.free rfl) rfl (q_move (v := .int .i64 (from_2)) rfl rfl) ?_
      refine ro_val (d := (some 30)) rfl (.free rfl) rfl (q_move (v := .int .i64 (to_3)) rfl rfl) ?_
      refine ro_val (d := (some 31)) rfl (.free rfl) rfl (q_move (v := .int .i64 (m_4)) rfl rfl) ?_
      refine ro_val (d := (some 32)) rfl (.free rfl) rfl (q_build61_0_1_2_3 (v0 := (IntKind.i64.wrap (x10 + (1 : Int)))) (v1 := from_2) (v2 := to_3) (v3 := m_4) rfl rfl rfl rfl rfl) ?_
      refine ro_wp rfl (.free rfl) (wp_cl (d := (some 33)) rfl (q_call (k := 43) (l := [.pointer (n_1), T60.enc ((⟨(IntKind.i64.wrap (x10 + (1 : Int))), from_2, to_3, m_4⟩ : S60))]) rfl ent43 rfl) h ?_)
      intro r12 w11 h
      refine ro_val (d := (some 11)) rfl (.free rfl) rfl (q_assign (v := .int .i64 (r12)) rfl rfl) ?_
      refine ro_nil ?_
      refine wp_seq ?_
      refine wp_text [0, 1] rfl ?_
      refine ro_val (d := (some 34)) rfl (.free rfl) rfl (q_move (v := .int .i64 (r12)) rfl rfl) ?_
      refine ro_val (d := (some 35)) rfl (.free rfl) rfl (q_neq (a := r12) (b := (0 : Int)) rfl rfl rfl) ?_
      refine ro_nil ?_
      refine wp_if (b := (r12 != (0 : Int))) rfl h (fun hb14 h => ?_) (fun hb14 h => ?_)
      · refine wp_seq ?_
        refine wp_text [0, 1, 2] rfl ?_
        refine ro_val (d := (some 36)) rfl (.free rfl) rfl (q_move (v := .int .i64 (r12)) rfl rfl) ?_
        refine ro_val (d := (some 8)) rfl (.free rfl) rfl (q_assign (v := .int .i64 ((0 : Int))) rfl rfl) ?_
        refine ro_val (d := (some 9)) rfl (.free rfl) rfl (q_assign (v := .int .i64 (r12)) rfl rfl) ?_
        refine ro_nil ?_
        refine wp_ret ?_
        exact ret_ok rfl (.cons (.tmp (v := .int .i64 ((0 : Int))) rfl) (.cons (.tmp (v := .int .i64 (r12)) rfl) .nil)) ⟨((0 : Int), r12), rfl, h⟩
      · refine wp_skip ?_
        refine wp_seq ?_
        refine wp_text [0, 1, 2, 3, 4] rfl ?_
        refine ro_val (d := (some 37)) rfl (.free rfl) rfl (q_move (v := .pointer (n_1)) rfl rfl) ?_
        refine ro_val (d := (some 38)) rfl (.free rfl) rfl (q_move (v := .int .i64 ((IntKind.i64.wrap (x10 + (1 : Int))))) rfl rfl) ?_
        refine ro_val (d := (some 39)) rfl (.free rfl) rfl (q_nilCheck (a := a9) rfl (congrArg Value.pointer ha9)) ?_
        refine ro_val (d := (some 40)) rfl (.free rfl) rfl (q_fieldAddr (a := a9) (off := 1) rfl Try.underlying82 rfl rfl ok3 (by decide) rfl) ?_
        obtain ⟨w13, hw13, hrw13, h⟩ := st_open h
        refine ro_skip (d := none) rfl (.free rfl) rfl (q_store (T := (tInt .i64)) (u := (IntKind.i64.wrap (x10 + (1 : Int)))) (a := (a9.add 1)) rfl ok3 rfl rfl hrw13 hw13) ?_
        refine ro_nil ?_
        refine wp_seq ?_
        refine wp_text [0, 1, 2] rfl ?_
        refine ro_val (d := (some 41)) rfl (.free rfl) rfl (q_move (v := .int .i64 ((IntKind.i64.wrap (x10 + (1 : Int))))) rfl rfl) ?_
        refine ro_val (d := (some 8)) rfl (.free rfl) rfl (q_assign (v := .int .i64 ((IntKind.i64.wrap (x10 + (1 : Int))))) rfl rfl) ?_
        refine ro_val (d := (some 9)) rfl (.free rfl) rfl (q_assign (v := .int .i64 ((0 : Int))) rfl rfl) ?_
        refine ro_nil ?_
        refine wp_ret ?_
        exact ret_ok rfl (.cons (.tmp (v := .int .i64 ((IntKind.i64.wrap (x10 + (1 : Int))))) rfl) (.cons (.tmp (v := .int .i64 ((0 : Int))) rfl) .nil)) ⟨((IntKind.i64.wrap (x10 + (1 : Int))), (0 : Int)), rfl, h⟩
  · refine ro_if (b := (!r6)) h (fun hb16 h => ?_) (fun hb16 h => ?_)
    · refine ro_bar (d := (some 17)) rfl (.by_ 4 false 16 (!r6) rfl rfl rfl hb16) rfl ?_
      refine ro_bar (d := (some 18)) rfl (.by_ 4 false 16 (!r6) rfl rfl rfl hb16) rfl ?_
      refine ro_bar (d := (some 19)) rfl (.by_ 4 false 16 (!r6) rfl rfl rfl hb16) rfl ?_
      refine ro_bar (d := (some 20)) rfl (.by_ 4 false 16 (!r6) rfl rfl rfl hb16) rfl ?_
      refine ro_val (d := (some 21)) rfl (.free rfl) rfl (q_pickT (v := .bool (true)) (b := (!r6)) rfl rfl hb16 rfl) ?_
      refine ro_nil ?_
      exact ⟨(true), _, arr (upd_step (upd_step (upd_step (upd_step (upd_step rfl rfl) rfl) rfl) rfl) rfl), h⟩
    · refine ro_val (d := (some 17)) rfl (.by_ 4 false 16 (!r6) rfl rfl rfl hb16) rfl (q_move (v := .pointer (n_1)) rfl rfl) ?_
      refine ro_val (d := (some 18)) rfl (.by_ 4 false 16 (!r6) rfl rfl rfl hb16) rfl (q_move (v := .int .i64 (to_3)) rfl rfl) ?_
      refine ro_wp rfl (.by_ 4 false 16 (!r6) rfl rfl rfl hb16) (wp_cl (d := (some 19)) rfl (q_call (k := 42) (l := [.pointer (n_1), .int .i64 (to_3)]) rfl ent42 rfl) h ?_)
      intro r18 w17 h
      refine ro_val (d := (some 20)) rfl (.by_ 4 false 16 (!r6) rfl rfl rfl hb16) rfl (q_not (b := r18) rfl rfl) ?_
      refine ro_val (d := (some 21)) rfl (.free rfl) rfl (q_pickF (v := .bool ((!r18))) (b := (!r6)) rfl rfl hb16 rfl) ?_
      refine ro_nil ?_
      exact ⟨((!r18)), _, arr (upd_step (upd_step (upd_step (upd_step (upd_step rfl rfl) rfl) rfl) rfl) rfl), h⟩

-- (*moiety/post.Net[int]).Copy
def F24 (n_1 : (Option Addr)) (i_2 : Int) (w : World) (R : Int → World → Prop) : Prop :=
  cl Try.prog 44 [.pointer (n_1), .int .i64 (i_2)] (tTup2 T60 (tInt .i64)) w fun r4 w3 =>
  nw 61 T60 Z60 w3 fun a5 w6 =>
  st T60 a5 r4.1 w6 fun w7 =>
  if (r4.2 != (0 : Int)) = true then (
    R r4.2 w7
  ) else (
    ex (RdAt T60 a5 w7) fun x8 =>
    cl Try.prog 43 [.pointer (n_1), T60.enc (x8)] (tInt .i64) w7 fun r10 w9 =>
    R r10 w9
  )
theorem F24_ok {n_1 : (Option Addr)} {i_2 : Int} {w : World} {R : Int → World → Prop} (h : F24 n_1 i_2 w R) : cl Try.prog 24 [.pointer (n_1), .int .i64 (i_2)] (tInt .i64) w R := by
  unfold F24 at h
  refine calls_start 19 Try.func24 rfl rfl (Nat.le_of_ble_eq_true rfl) ?_
  refine wp_seq ?_
  refine wp_text [0] rfl ?_
  refine ro_val (d := (some 4)) rfl (.free rfl) rfl (q_assign (v := .int .i64 ((0 : Int))) rfl rfl) ?_
  refine ro_nil ?_
  refine wp_seq ?_
  refine wp_text [0, 1, 2, 3, 4, 5, 6, 7, 8] rfl ?_
  refine ro_val (d := (some 8)) rfl (.free rfl) rfl (q_move (v := .pointer (n_1)) rfl rfl) ?_
  refine ro_val (d := (some 9)) rfl (.free rfl) rfl (q_move (v := .int .i64 (i_2)) rfl rfl) ?_
  refine ro_wp rfl (.free rfl) (wp_cl (d := (some 10)) rfl (q_call (k := 44) (l := [.pointer (n_1), .int .i64 (i_2)]) rfl ent44 rfl) h ?_)
  intro r4 w3 h
  refine ro_val (d := (some 7)) rfl (.free rfl) rfl (q_move (v := (tTup2 T60 (tInt .i64)).enc (r4)) rfl rfl) ?_
  refine ro_val (d := (some 11)) rfl (.free rfl) rfl (q_extract (vs := #[T60.enc (r4.1), .int .i64 (r4.2)]) (v := T60.enc (r4.1)) rfl rfl rfl) ?_
  refine ro_val (d := (some 12)) rfl (.free rfl) rfl (q_extract (vs := #[T60.enc (r4.1), .int .i64 (r4.2)]) (v := .int .i64 (r4.2)) rfl rfl rfl) ?_
  obtain ⟨a5, w6, ha5, hw6, h⟩ := nw_open h
  refine ro_val (d := (some 5)) rfl (.free rfl) rfl (q_alloc (u := Z60) rfl ok61 inf61 ha5 hw6) ?_
  obtain ⟨w7, hw7, hrw7, h⟩ := st_open h
  refine ro_skip (d := none) rfl (.free rfl) rfl (q_store (T := T60) (u := r4.1) (a := a5) rfl ok61 rfl rfl hrw7 hw7) ?_
  refine ro_val (d := (some 6)) rfl (.free rfl) rfl (q_assign (v := .int .i64 (r4.2)) rfl rfl) ?_
  refine ro_nil ?_
  refine wp_seq ?_
  refine wp_seq ?_
  refine wp_text [0, 1] rfl ?_
  refine ro_val (d := (some 13)) rfl (.free rfl) rfl (q_move (v := .int .i64 (r4.2)) rfl rfl) ?_
  refine ro_val (d := (some 14)) rfl (.free rfl) rfl (q_neq (a := r4.2) (b := (0 : Int)) rfl rfl rfl) ?_
  refine ro_nil ?_
  refine wp_if (b := (r4.2 != (0 : Int))) rfl h (fun hb11 h => ?_) (fun hb11 h => ?_)
  · refine wp_seq ?_
    refine wp_text [0, 1] rfl ?_
    refine ro_val (d := (some 15)) rfl (.free rfl) rfl (q_move (v := .int .i64 (r4.2)) rfl rfl) ?_
    refine ro_val (d := (some 4)) rfl (.free rfl) rfl (q_assign (v := .int .i64 (r4.2)) rfl rfl) ?_
    refine ro_nil ?_
    refine wp_ret ?_
    exact ret_ok rfl (.cons (.tmp (v := .int .i64 (r4.2)) rfl) .nil) ⟨r4.2, rfl, h⟩
  · refine wp_skip ?_
    refine wp_seq ?_
    refine wp_text [0, 1, 2, 3] rfl ?_
    refine ro_val (d := (some 16)) rfl (.free rfl) rfl (q_move (v := .pointer (n_1)) rfl rfl) ?_
    obtain ⟨x8, hx8, h⟩ := h
    refine ro_val (d := (some 17)) rfl (.free rfl) rfl (q_load (T := T60) (u := x8) (a := a5) rfl ok61 rfl hx8) ?_
    refine ro_wp rfl (.free rfl) (wp_cl (d := (some 18)) rfl (q_call (k := 43) (l := [.pointer (n_1), T60.enc (x8)]) rfl ent43 rfl) h ?_)
    intro r10 w9 h
    refine ro_val (d := (some 4)) rfl (.free rfl) rfl (q_assign (v := .int .i64 (r10)) rfl rfl) ?_
    refine ro_nil ?_
    refine wp_ret ?_
    exact ret_ok rfl (.cons (.tmp (v := .int .i64 (r10)) rfl) .nil) ⟨r10, rfl, h⟩

-- (*moiety/post.Net[int]).Lose
def F25_j1 (r4 : (S60 × Int)) (w8 : World) (R : Int → World → Prop) : Prop :=
  R r4.2 w8
def F25 (n_1 : (Option Addr)) (i_2 : Int) (w : World) (R : Int → World → Prop) : Prop :=
  cl Try.prog 44 [.pointer (n_1), .int .i64 (i_2)] (tTup2 T60 (tInt .i64)) w fun r4 w3 =>
  nw 61 T60 Z60 w3 fun a5 w6 =>
  st T60 a5 r4.1 w6 fun w7 =>
  if (r4.2 == (0 : Int)) = true then (
    ex (NC n_1) fun a9 =>
    ex (RdAt tSlc (a9.add 2) w7) fun x10 =>
    cl Try.prog 45 [tSlc.enc (x10), .int .i64 (i_2), .int .i64 ((IntKind.i64.wrap (i_2 + (1 : Int))))] tSlc w7 fun r12 w11 =>
    st tSlc (a9.add 2) r12 w11 fun w13 =>
    F25_j1 r4 w13 R
  ) else (
    F25_j1 r4 w7 R
  )
theorem F25_ok {n_1 : (Option Addr)} {i_2 : Int} {w : World} {R : Int → World → Prop} (h : F25 n_1 i_2 w R) : cl Try.prog 25 [.pointer (n_1), .int .i64 (i_2)] (tInt .i64) w R := by
  unfold F25 at h
  refine calls_start 27 Try.func25 rfl rfl (Nat.le_of_ble_eq_true rfl) ?_
  refine wp_seq ?_
  refine wp_text [0] rfl ?_
  refine ro_val (d := (some 4)) rfl (.free rfl) rfl (q_assign (v := .int .i64 ((0 : Int))) rfl rfl) ?_
  refine ro_nil ?_
  refine wp_seq ?_
  refine wp_text [0, 1, 2, 3, 4, 5, 6, 7, 8] rfl ?_
  refine ro_val (d := (some 8)) rfl (.free rfl) rfl (q_move (v := .pointer (n_1)) rfl rfl) ?_
  refine ro_val (d := (some 9)) rfl (.free rfl) rfl (q_move (v := .int .i64 (i_2)) rfl rfl) ?_
  refine ro_wp rfl (.free rfl) (wp_cl (d := (some 10)) rfl (q_call (k := 44) (l := [.pointer (n_1), .int .i64 (i_2)]) rfl ent44 rfl) h ?_)
  intro r4 w3 h
  refine ro_val (d := (some 7)) rfl (.free rfl) rfl (q_move (v := (tTup2 T60 (tInt .i64)).enc (r4)) rfl rfl) ?_
  refine ro_val (d := (some 11)) rfl (.free rfl) rfl (q_extract (vs := #[T60.enc (r4.1), .int .i64 (r4.2)]) (v := T60.enc (r4.1)) rfl rfl rfl) ?_
  refine ro_val (d := (some 12)) rfl (.free rfl) rfl (q_extract (vs := #[T60.enc (r4.1), .int .i64 (r4.2)]) (v := .int .i64 (r4.2)) rfl rfl rfl) ?_
  obtain ⟨a5, w6, ha5, hw6, h⟩ := nw_open h
  refine ro_val (d := (some 5)) rfl (.free rfl) rfl (q_alloc (u := Z60) rfl ok61 inf61 ha5 hw6) ?_
  obtain ⟨w7, hw7, hrw7, h⟩ := st_open h
  refine ro_skip (d := none) rfl (.free rfl) rfl (q_store (T := T60) (u := r4.1) (a := a5) rfl ok61 rfl rfl hrw7 hw7) ?_
  refine ro_val (d := (some 6)) rfl (.free rfl) rfl (q_assign (v := .int .i64 (r4.2)) rfl rfl) ?_
  refine ro_nil ?_
  refine seq_join (σ := Unit) (J := fun (s : Unit) w => F25_j1 r4 w R) (fr := fun g (s : Unit) => upd (g) 6 (.int .i64 (r4.2))) ?_ ?_
  · rintro ⟨⟩ g w8 h
    unfold F25_j1 at h
    refine wp_seq ?_
    refine wp_text [0, 1] rfl ?_
    refine ro_val (d := (some 26)) rfl (.free rfl) rfl (q_move (v := .int .i64 (r4.2)) rfl rfl) ?_
    refine ro_val (d := (some 4)) rfl (.free rfl) rfl (q_assign (v := .int .i64 (r4.2)) rfl rfl) ?_
    refine ro_nil ?_
    refine wp_ret ?_
    exact ret_ok rfl (.cons (.tmp (v := .int .i64 (r4.2)) rfl) .nil) ⟨r4.2, rfl, h⟩
  · refine wp_seq ?_
    refine wp_text [0, 1] rfl ?_
    refine ro_val (d := (some 13)) rfl (.free rfl) rfl (q_move (v := .int .i64 (r4.2)) rfl rfl) ?_
    refine ro_val (d := (some 14)) rfl (.free rfl) rfl (q_eql (a := r4.2) (b := (0 : Int)) rfl rfl rfl) ?_
    refine ro_nil ?_
    refine wp_if (b := (r4.2 == (0 : Int))) rfl h (fun hb14 h => ?_) (fun hb14 h => ?_)
    · refine wp_text [0, 1, 2, 3, 4, 5, 6, 7, 8, 9, 10, 11] rfl ?_
      refine ro_val (d := (some 15)) rfl (.free rfl) rfl (q_move (v := .pointer (n_1)) rfl rfl) ?_
      refine ro_val (d := (some 16)) rfl (.free rfl) rfl (q_move (v := .pointer (n_1)) rfl rfl) ?_
      obtain ⟨a9, ha9, h⟩ := h
      refine ro_val (d := (some 17)) rfl (.free rfl) rfl (q_nilCheck (a := a9) rfl (congrArg Value.pointer ha9)) ?_
      refine ro_val (d := (some 18)) rfl (.free rfl) rfl (q_fieldAddr (a := a9) (off := 2) rfl Try.underlying82 rfl rfl ok58 (by decide) rfl) ?_
      obtain ⟨x10, hx10, h⟩ := h
      refine ro_val (d := (some 19)) rfl (.free rfl) rfl (q_load (T := tSlc) (u := x10) (a := (a9.add 2)) rfl ok58 rfl hx10) ?_
      refine ro_val (d := (some 20)) rfl (.free rfl) rfl (q_move (v := .int .i64 (i_2)) rfl rfl) ?_
      refine ro_val (d := (some 21)) rfl (.free rfl) rfl (q_move (v := .int .i64 (i_2)) rfl rfl) ?_
      refine ro_val (d := (some 22)) rfl (.free rfl) rfl (q_add (a := i_2) (b := (1 : Int)) rfl rfl rfl) ?_
      refine ro_wp rfl (.free rfl) (wp_cl (d := (some 23)) rfl (q_call (k := 45) (l := [tSlc.enc (x10), .int .i64 (i_2), .int .i64 ((IntKind.i64.wrap (i_2 + (1 : Int))))]) rfl ent45 rfl) h ?_)
      intro r12 w11 h
      refine ro_val (d := (some 24)) rfl (.free rfl) rfl (q_nilCheck (a := a9) rfl (congrArg Value.pointer ha9)) ?_
      refine ro_val (d := (some 25)) rfl (.free rfl) rfl (q_fieldAddr (a := a9) (off := 2) rfl Try.underlying82 rfl rfl ok58 (by decide) rfl) ?_
      obtain ⟨w13, hw13, hrw13, h⟩ := st_open h
      refine ro_skip (d := none) rfl (.free rfl) rfl (q_store (T := tSlc) (u := r12) (a := (a9.add 2)) rfl ok58 rfl rfl hrw13 hw13) ?_
      refine ro_nil ?_
      exact ⟨(), _, arr (upd_step rfl rfl), h⟩
    · refine wp_skip ?_
      exact ⟨(), _, arr (upd_step rfl rfl), h⟩

-- (*moiety/post.Net[int]).Letters
def F26 (n_1 : (Option Addr)) (w : World) (R : Slc → World → Prop) : Prop :=
  ex (NC n_1) fun a2 =>
  ex (RdAt tSlc (a2.add 2) w) fun x3 =>
  cl Try.prog 46 [tSlc.enc (x3)] tSlc w fun r5 w4 =>
  R r5 w4
theorem F26_ok {n_1 : (Option Addr)} {w : World} {R : Slc → World → Prop} (h : F26 n_1 w R) : cl Try.prog 26 [.pointer (n_1)] tSlc w R := by
  unfold F26 at h
  refine calls_start 8 Try.func26 rfl rfl (Nat.le_of_ble_eq_true rfl) ?_
  refine wp_seq ?_
  refine wp_text [0] rfl ?_
  refine ro_val (d := (some 2)) rfl (.free rfl) rfl (q_assign (v := tSlc.enc ((⟨none, 0, 0⟩ : Slc))) rfl rfl) ?_
  refine ro_nil ?_
  refine wp_seq ?_
  refine wp_text [0, 1, 2, 3, 4, 5] rfl ?_
  refine ro_val (d := (some 3)) rfl (.free rfl) rfl (q_move (v := .pointer (n_1)) rfl rfl) ?_
  obtain ⟨a2, ha2, h⟩ := h
  refine ro_val (d := (some 4)) rfl (.free rfl) rfl (q_nilCheck (a := a2) rfl (congrArg Value.pointer ha2)) ?_
  refine ro_val (d := (some 5)) rfl (.free rfl) rfl (q_fieldAddr (a := a2) (off := 2) rfl Try.underlying82 rfl rfl ok58 (by decide) rfl) ?_
  obtain ⟨x3, hx3, h⟩ := h
  refine ro_val (d := (some 6)) rfl (.free rfl) rfl (q_load (T := tSlc) (u := x3) (a := (a2.add 2)) rfl ok58 rfl hx3) ?_
  refine ro_wp rfl (.free rfl) (wp_cl (d := (some 7)) rfl (q_call (k := 46) (l := [tSlc.enc (x3)]) rfl ent46 rfl) h ?_)
  intro r5 w4 h
  refine ro_val (d := (some 2)) rfl (.free rfl) rfl (q_assign (v := tSlc.enc (r5)) rfl rfl) ?_
  refine ro_nil ?_
  refine wp_ret ?_
  exact ret_ok rfl (.cons (.tmp (v := tSlc.enc (r5)) rfl) .nil) ⟨r5, rfl, h⟩

-- (*moiety/post.Net[int]).Purge
def F27 (n_1 : (Option Addr)) (node_2 : Int) (w : World) (R : Int → World → Prop) : Prop :=
  nw 3 (tInt .i64) node_2 w fun a3 w4 =>
  ex (RdAt (tInt .i64) a3 w4) fun x5 =>
  cl Try.prog 42 [.pointer (n_1), .int .i64 (x5)] tBool w4 fun r7 w6 =>
  if (!r7) = true then (
    R (90 : Int) w6
  ) else (
    ex (NC n_1) fun a8 =>
    ex (RdAt tSlc (a8.add 2) w6) fun x9 =>
    cl Try.prog 47 [tSlc.enc (x9), ((Fv.mk (.func 48) (List.toArray []) (List.toArray [.pointer (some a3)]))).enc] tSlc w6 fun r11 w10 =>
    st tSlc (a8.add 2) r11 w10 fun w12 =>
    R (0 : Int) w12
  )
theorem F27_ok {n_1 : (Option Addr)} {node_2 : Int} {w : World} {R : Int → World → Prop} (h : F27 n_1 node_2 w R) : cl Try.prog 27 [.pointer (n_1), .int .i64 (node_2)] (tInt .i64) w R := by
  unfold F27 at h
  refine calls_start 18 Try.func27 rfl rfl (Nat.le_of_ble_eq_true rfl) ?_
  refine wp_seq ?_
  refine wp_text [0, 1] rfl ?_
  obtain ⟨a3, w4, ha3, hw4, h⟩ := nw_open h
  refine ro_val (d := (some 3)) rfl (.free rfl) rfl (q_box (u := node_2) rfl ok3 rfl ha3 hw4) ?_
  refine ro_val (d := (some 4)) rfl (.free rfl) rfl (q_assign (v := .int .i64 ((0 : Int))) rfl rfl) ?_
  refine ro_nil ?_
  refine wp_seq ?_
  refine wp_seq ?_
  refine wp_text [0, 1, 2, 3] rfl ?_
  refine ro_val (d := (some 5)) rfl (.free rfl) rfl (q_move (v := .pointer (n_1)) rfl rfl) ?_
  obtain ⟨x5, hx5, h⟩ := h
  refine ro_val (d := (some 6)) rfl (.free rfl) rfl (q_load (T := (tInt .i64)) (u := x5) (a := a3) rfl ok3 rfl hx5) ?_
  refine ro_wp rfl (.free rfl) (wp_cl (d := (some 7)) rfl (q_call (k := 42) (l := [.pointer (n_1), .int .i64 (x5)]) rfl ent42 rfl) h ?_)
  intro r7 w6 h
  refine ro_val (d := (some 8)) rfl (.free rfl) rfl (q_not (b := r7) rfl rfl) ?_
  refine ro_nil ?_
  refine wp_if (b := (!r7)) rfl h (fun hb13 h => ?_) (fun hb13 h => ?_)
  · refine wp_seq ?_
    refine wp_text [0] rfl ?_
    refine ro_val (d := (some 4)) rfl (.free rfl) rfl (q_assign (v := .int .i64 ((90 : Int))) rfl rfl) ?_
    refine ro_nil ?_
    refine wp_ret ?_
    exact ret_ok rfl (.cons (.tmp (v := .int .i64 ((90 : Int))) rfl) .nil) ⟨(90 : Int), rfl, h⟩
  · refine wp_skip ?_
    refine wp_seq ?_
    refine wp_text [0, 1, 2, 3, 4, 5, 6, 7, 8, 9] rfl ?_
    refine ro_val (d := (some 9)) rfl (.free rfl) rfl (q_move (v := .pointer (n_1)) rfl rfl) ?_
    refine ro_val (d := (some 10)) rfl (.free rfl) rfl (q_move (v := .pointer (n_1)) rfl rfl) ?_
    obtain ⟨a8, ha8, h⟩ := h
    refine ro_val (d := (some 11)) rfl (.free rfl) rfl (q_nilCheck (a := a8) rfl (congrArg Value.pointer ha8)) ?_
    refine ro_val (d := (some 12)) rfl (.free rfl) rfl (q_fieldAddr (a := a8) (off := 2) rfl Try.underlying82 rfl rfl ok58 (by decide) rfl) ?_
    obtain ⟨x9, hx9, h⟩ := h
    refine ro_val (d := (some 13)) rfl (.free rfl) rfl (q_load (T := tSlc) (u := x9) (a := (a8.add 2)) rfl ok58 rfl hx9) ?_
    refine ro_val (d := (some 14)) rfl (.free rfl) rfl (q_makeFunc (fn := .func 48) (va := []) (vc := [.pointer (some a3)]) rfl rfl rfl) ?_
    refine ro_wp rfl (.free rfl) (wp_cl (d := (some 15)) rfl (q_call (k := 47) (l := [tSlc.enc (x9), ((Fv.mk (.func 48) (List.toArray []) (List.toArray [.pointer (some a3)]))).enc]) rfl ent47 rfl) h ?_)
    intro r11 w10 h
    refine ro_val (d := (some 16)) rfl (.free rfl) rfl (q_nilCheck (a := a8) rfl (congrArg Value.pointer ha8)) ?_
    refine ro_val (d := (some 17)) rfl (.free rfl) rfl (q_fieldAddr (a := a8) (off := 2) rfl Try.underlying82 rfl rfl ok58 (by decide) rfl) ?_
    obtain ⟨w12, hw12, hrw12, h⟩ := st_open h
    refine ro_skip (d := none) rfl (.free rfl) rfl (q_store (T := tSlc) (u := r11) (a := (a8.add 2)) rfl ok58 rfl rfl hrw12 hw12) ?_
    refine ro_nil ?_
    refine wp_seq ?_
    refine wp_text [0] rfl ?_
    refine ro_val (d := (some 4)) rfl (.free rfl) rfl (q_assign (v := .int .i64 ((0 : Int))) rfl rfl) ?_
    refine ro_nil ?_
    refine wp_ret ?_
    exact ret_ok rfl (.cons (.tmp (v := .int .i64 ((0 : Int))) rfl) .nil) ⟨(0 : Int), rfl, h⟩

-- (*moiety/post.Net[string]).is
def F28 (n_1 : (Option Addr)) (node_2 : Int) (w : World) (R : Bool → World → Prop) : Prop :=
  ex (fun x => (decide (node_2 ≥ (0 : Int))) = true → (NC n_1) x) fun a3 =>
  ex (fun x => (decide (node_2 ≥ (0 : Int))) = true → (RdAt (tInt .i64) (a3.add 0) w) x) fun x4 =>
  R ((decide (node_2 ≥ (0 : Int))) && (decide (node_2 < x4))) w
theorem F28_ok {n_1 : (Option Addr)} {node_2 : Int} {w : World} {R : Bool → World → Prop} (h : F28 n_1 node_2 w R) : cl Try.prog 28 [.pointer (n_1), .int .i64 (node_2)] tBool w R := by
  unfold F28 at h
  refine calls_start 15 Try.func28 rfl rfl (Nat.le_of_ble_eq_true rfl) ?_
  refine wp_seq ?_
  refine wp_text [0] rfl ?_
  refine ro_val (d := (some 4)) rfl (.free rfl) rfl (q_assign (v := .bool (false)) rfl rfl) ?_
  refine ro_nil ?_
  refine wp_seq ?_
  refine wp_text [0, 1, 2, 3, 4, 5, 6, 7, 8, 9, 10] rfl ?_
  refine ro_val (d := (some 5)) rfl (.free rfl) rfl (q_move (v := .int .i64 (node_2)) rfl rfl) ?_
  refine ro_val (d := (some 6)) rfl (.free rfl) rfl (q_geq (a := node_2) (b := (0 : Int)) rfl rfl rfl) ?_
  refine ro_val (d := (some 7)) rfl (.free rfl) rfl (q_move (v := .bool ((decide (node_2 ≥ (0 : Int))))) rfl rfl) ?_
  refine ro_gval (g := (decide (node_2 ≥ (0 : Int)))) (d := (some 8)) rfl (.yes 2 7 true (decide (node_2 ≥ (0 : Int))) rfl rfl rfl rfl) rfl (fun hg => q_move (v := .int .i64 (node_2)) rfl rfl) ?_
  refine ro_gval (g := (decide (node_2 ≥ (0 : Int)))) (d := (some 9)) rfl (.yes 2 7 true (decide (node_2 ≥ (0 : Int))) rfl rfl rfl rfl) rfl (fun hg => q_move (v := .pointer (n_1)) rfl rfl) ?_
  obtain ⟨a3, ha3, h⟩ := h
  refine ro_gval (g := (decide (node_2 ≥ (0 : Int)))) (d := (some 10)) rfl (.yes 2 7 true (decide (node_2 ≥ (0 : Int))) rfl rfl rfl rfl) rfl (fun hg => q_nilCheck (a := a3) rfl ((gvb_yes hg).trans (congrArg Value.pointer (ha3 hg)))) ?_
  refine ro_gval (g := (decide (node_2 ≥ (0 : Int)))) (d := (some 11)) rfl (.yes 2 7 true (decide (node_2 ≥ (0 : Int))) rfl rfl rfl rfl) rfl (fun hg => q_fieldAddr (a := a3) (off := 0) rfl Try.underlying65 rfl rfl ok3 (by decide) (gvb_yes hg)) ?_
  obtain ⟨x4, hx4, h⟩ := h
  refine ro_gval (g := (decide (node_2 ≥ (0 : Int)))) (d := (some 12)) rfl (.yes 2 7 true (decide (node_2 ≥ (0 : Int))) rfl rfl rfl rfl) rfl (fun hg => q_load (T := (tInt .i64)) (u := x4) (a := (a3.add 0)) rfl ok3 (gvb_yes hg) (hx4 hg)) ?_
  refine ro_gval (g := (decide (node_2 ≥ (0 : Int)))) (d := (some 13)) rfl (.yes 2 7 true (decide (node_2 ≥ (0 : Int))) rfl rfl rfl rfl) rfl (fun hg => q_lss (a := node_2) (b := x4) rfl (gvb_yes hg) (gvb_yes hg)) ?_
  refine ro_val (d := (some 14)) rfl (.free rfl) rfl (q_pickGT (a := (decide (node_2 ≥ (0 : Int)))) (b := (decide (node_2 < x4))) rfl rfl rfl rfl) ?_
  refine ro_val (d := (some 4)) rfl (.free rfl) rfl (q_assign (v := .bool (((decide (node_2 ≥ (0 : Int))) && (decide (node_2 < x4))))) rfl rfl) ?_
  refine ro_nil ?_
  refine wp_ret ?_
  exact ret_ok rfl (.cons (.tmp (v := .bool (((decide (node_2 ≥ (0 : Int))) && (decide (node_2 < x4))))) rfl) .nil) ⟨((decide (node_2 ≥ (0 : Int))) && (decide (node_2 < x4))), rfl, h⟩

-- (*moiety/post.Net[string]).put
def F29 (n_1 : (Option Addr)) (x_2 : S35) (w : World) (R : Int → World → Prop) : Prop :=
  nw 36 T35 x_2 w fun a3 w4 =>
  ex (NC n_1) fun a5 =>
  ex (RdAt tSlc (a5.add 2) w4) fun x6 =>
  if (decide ((x6.len : Int) ≥ (1000 : Int))) = true then (
    R (91 : Int) w4
  ) else (
    dr w4 fun w7 =>
    ex (RdAt tSlc (a5.add 2) w7) fun x8 =>
    ex (RdAt T35 a3 w7) fun x9 =>
    apl 36 T35 4 40 x8 [x9] w7 fun r13 w12 =>
    kp ((RdAt T35 a3 w12) x9) <|
    st tSlc (a5.add 2) r13 w12 fun w15 =>
    R (0 : Int) w15
  )
theorem F29_ok {n_1 : (Option Addr)} {x_2 : S35} {w : World} {R : Int → World → Prop} (h : F29 n_1 x_2 w R) : cl Try.prog 29 [.pointer (n_1), T35.enc (x_2)] (tInt .i64) w R := by
  unfold F29 at h
  refine calls_start 21 Try.func29 rfl rfl (Nat.le_of_ble_eq_true rfl) ?_
  refine wp_seq ?_
  refine wp_text [0, 1] rfl ?_
  obtain ⟨a3, w4, ha3, hw4, h⟩ := nw_open h
  refine ro_val (d := (some 3)) rfl (.free rfl) rfl (q_box (u := x_2) rfl ok36 rfl ha3 hw4) ?_
  refine ro_val (d := (some 4)) rfl (.free rfl) rfl (q_assign (v := .int .i64 ((0 : Int))) rfl rfl) ?_
  refine ro_nil ?_
  refine wp_seq ?_
  refine wp_seq ?_
  refine wp_text [0, 1, 2, 3, 4, 5] rfl ?_
  refine ro_val (d := (some 5)) rfl (.free rfl) rfl (q_move (v := .pointer (n_1)) rfl rfl) ?_
  obtain ⟨a5, ha5, h⟩ := h
  refine ro_val (d := (some 6)) rfl (.free rfl) rfl (q_nilCheck (a := a5) rfl (congrArg Value.pointer ha5)) ?_
  refine ro_val (d := (some 7)) rfl (.free rfl) rfl (q_fieldAddr (a := a5) (off := 2) rfl Try.underlying65 rfl rfl ok33 (by decide) rfl) ?_
  obtain ⟨x6, hx6, h⟩ := h
  refine ro_val (d := (some 8)) rfl (.free rfl) rfl (q_load (T := tSlc) (u := x6) (a := (a5.add 2)) rfl ok33 rfl hx6) ?_
  refine ro_val (d := (some 9)) rfl (.free rfl) rfl (q_len (s := x6) rfl Try.underlying33 rfl) ?_
  refine ro_val (d := (some 10)) rfl (.free rfl) rfl (q_geq (a := (x6.len : Int)) (b := (1000 : Int)) rfl rfl rfl) ?_
  refine ro_nil ?_
  refine wp_if (b := (decide ((x6.len : Int) ≥ (1000 : Int)))) rfl h (fun hb16 h => ?_) (fun hb16 h => ?_)
  · refine wp_seq ?_
    refine wp_text [0] rfl ?_
    refine ro_val (d := (some 4)) rfl (.free rfl) rfl (q_assign (v := .int .i64 ((91 : Int))) rfl rfl) ?_
    refine ro_nil ?_
    refine wp_ret ?_
    exact ret_ok rfl (.cons (.tmp (v := .int .i64 ((91 : Int))) rfl) .nil) ⟨(91 : Int), rfl, h⟩
  · refine wp_skip ?_
    refine wp_seq ?_
    obtain ⟨w7, hw7, h⟩ := dr_open h
    refine wp_drawn 11 mixed rfl (by kernel_rfl) (by intro c a d v w h; cases d <;> exact h) hw7 (fun hD => ?_)
    refine rd_pure (i := 0) (d := (some 11)) hD (by kernel_rfl) (by kernel_rfl) rfl (.free rfl) rfl (fun _ => q_move (v := .pointer (n_1)) rfl rfl) ?_
    refine rd_pure (i := 1) (d := (some 12)) hD (by kernel_rfl) (by kernel_rfl) rfl (.free rfl) rfl (fun _ => q_move (v := .pointer (n_1)) rfl rfl) ?_
    refine rd_pure (i := 2) (d := (some 13)) hD (by kernel_rfl) (by kernel_rfl) rfl (.free rfl) rfl (fun _ => q_nilCheck (a := a5) rfl (congrArg Value.pointer ha5)) ?_
    refine rd_pure (i := 3) (d := (some 14)) hD (by kernel_rfl) (by kernel_rfl) rfl (.free rfl) rfl (fun _ => q_fieldAddr (a := a5) (off := 2) rfl Try.underlying65 rfl rfl ok33 (by decide) rfl) ?_
    obtain ⟨x8, hx8, h⟩ := h
    refine rd_read (i := 4) (d := (some 15)) (fun W => (RdAt tSlc (a5.add 2) W) x8) hD (by kernel_rfl) (by kernel_rfl) rfl (.free rfl) rfl (fun W hr => q_load (T := tSlc) (u := x8) (a := (a5.add 2)) rfl ok33 rfl hr) hx8 ?_
    obtain ⟨x9, hx9, h⟩ := h
    refine rd_read (i := 5) (d := (some 16)) (fun W => (RdAt T35 a3 W) x9) hD (by kernel_rfl) (by kernel_rfl) rfl (.free rfl) rfl (fun W hr => q_load (T := T35) (u := x9) (a := a3) rfl ok36 rfl hr) hx9 ?_
    refine rd_one (i := 6) (by kernel_rfl) ?_
    obtain ⟨a10, w11, ha10, hw11, h⟩ := apl_open h
    refine po_val (d := (some 17)) rfl (.free rfl) rfl (q_rowOf (T := T35) (xs := [x9]) rfl Try.underlying33 ok36 inf36 rfl (by decide) (by decide) rfl ha10 hw11) ⟨(hk_wait (by kernel_rfl) (hk_keep (fun h => keep_RdAt hw11 h) hk_nil)), ?_⟩
    refine rd_one (i := 7) (by kernel_rfl) ?_
    refine po_wp rfl (.free rfl) (wp_append (d := (some 18)) (T := T35) rfl rfl Try.underlying33 ⟨_, Try.underlying33⟩ ok36 inf36 rfl rfl (Nat.lt_of_lt_of_le Nat.zero_lt_one (Nat.le_of_ble_eq_true rfl)) rfl rfl h ?_)
    intro r13 w12 h
    obtain ⟨hk14, h⟩ := h
    refine ⟨(hk_keep (fun _ => hk14) (hk_wait (by kernel_rfl) hk_nil)), ?_⟩
    refine rd_pure (i := 8) (d := (some 19)) hD (by kernel_rfl) (by kernel_rfl) rfl (.free rfl) rfl (fun _ => q_nilCheck (a := a5) rfl (congrArg Value.pointer ha5)) ?_
    refine rd_pure (i := 9) (d := (some 20)) hD (by kernel_rfl) (by kernel_rfl) rfl (.free rfl) rfl (fun _ => q_fieldAddr (a := a5) (off := 2) rfl Try.underlying65 rfl rfl ok33 (by decide) rfl) ?_
    refine rd_one (i := 10) (by kernel_rfl) ?_
    obtain ⟨w15, hw15, hrw15, h⟩ := st_open h
    refine po_skip (d := none) rfl (.free rfl) rfl (q_store (T := tSlc) (u := r13) (a := (a5.add 2)) rfl ok33 rfl rfl hrw15 hw15) ⟨(hk_wait (by kernel_rfl) (hk_wait (by kernel_rfl) hk_nil)), ?_⟩
    refine rd_nil (by kernel_rfl) ?_
    refine wp_seq ?_
    refine wp_text [0] rfl ?_
    refine ro_val (d := (some 4)) rfl (.free rfl) rfl (q_assign (v := .int .i64 ((0 : Int))) rfl rfl) ?_
    refine ro_nil ?_
    refine wp_ret ?_
    exact ret_ok rfl (.cons (.tmp (v := .int .i64 ((0 : Int))) rfl) .nil) ⟨(0 : Int), rfl, h⟩

-- slices.Clone[[]moiety/post.Letter[string],moiety/post.Letter[string]]
def F30 (s_1 : Slc) (w : World) (R : Slc → World → Prop) : Prop :=
  if s_1.a.isNone = true then (
    R (⟨none, 0, 0⟩ : Slc) w
  ) else (
    nwS 36 T35 ([] : List S35) w fun a2 w3 =>
    apd 36 T35 4 40 (⟨some a2, 0, 0⟩ : Slc) s_1 w3 fun r5 w4 =>
    R r5 w4
  )
theorem F30_ok {s_1 : Slc} {w : World} {R : Slc → World → Prop} (h : F30 s_1 w R) : cl Try.prog 30 [tSlc.enc (s_1)] tSlc w R := by
  unfold F30 at h
  refine calls_start 8 Try.func30 rfl rfl (Nat.le_of_ble_eq_true rfl) ?_
  refine wp_seq ?_
  refine wp_text [0] rfl ?_
  refine ro_val (d := (some 2)) rfl (.free rfl) rfl (q_assign (v := tSlc.enc ((⟨none, 0, 0⟩ : Slc))) rfl rfl) ?_
  refine ro_nil ?_
  refine wp_seq ?_
  refine wp_seq ?_
  refine wp_text [0, 1] rfl ?_
  refine ro_val (d := (some 3)) rfl (.free rfl) rfl (q_move (v := tSlc.enc (s_1)) rfl rfl) ?_
  refine ro_val (d := (some 4)) rfl (.free rfl) rfl (q_eqL0 (s := s_1) rfl Try.underlying33 rfl rfl) ?_
  refine ro_nil ?_
  refine wp_if (b := s_1.a.isNone) rfl h (fun hb6 h => ?_) (fun hb6 h => ?_)
  · refine wp_seq ?_
    refine wp_text [0] rfl ?_
    refine ro_val (d := (some 2)) rfl (.free rfl) rfl (q_assign (v := tSlc.enc ((⟨none, 0, 0⟩ : Slc))) rfl rfl) ?_
    refine ro_nil ?_
    refine wp_ret ?_
    exact ret_ok rfl (.cons (.tmp (v := tSlc.enc ((⟨none, 0, 0⟩ : Slc))) rfl) .nil) ⟨(⟨none, 0, 0⟩ : Slc), rfl, h⟩
  · refine wp_skip ?_
    refine wp_seq ?_
    refine wp_text [0, 1, 2, 3] rfl ?_
    obtain ⟨a2, w3, ha2, hw3, h⟩ := nwS_open h
    refine ro_val (d := (some 5)) rfl (.free rfl) rfl (q_row0 (T := T35) rfl Try.underlying33 ok36 inf36 ha2 hw3) ?_
    refine ro_val (d := (some 6)) rfl (.free rfl) rfl (q_move (v := tSlc.enc (s_1)) rfl rfl) ?_
    refine ro_wp rfl (.free rfl) (wp_append (d := (some 7)) (T := T35) rfl rfl Try.underlying33 ⟨_, Try.underlying33⟩ ok36 inf36 rfl rfl (Nat.lt_of_lt_of_le Nat.zero_lt_one (Nat.le_of_ble_eq_true rfl)) rfl rfl h ?_)
    intro r5 w4 h
    refine ro_val (d := (some 2)) rfl (.free rfl) rfl (q_assign (v := tSlc.enc (r5)) rfl rfl) ?_
    refine ro_nil ?_
    refine wp_ret ?_
    exact ret_ok rfl (.cons (.tmp (v := tSlc.enc (r5)) rfl) .nil) ⟨r5, rfl, h⟩

-- (*moiety/post.Net[string]).at
def F31 (n_1 : (Option Addr)) (i_2 : Int) (w : World) (R : (S35 × Int) → World → Prop) : Prop :=
  nw 36 T35 Z35 w fun a3 w4 =>
  ex (fun x => (!(decide (i_2 < (0 : Int)))) = true → (NC n_1) x) fun a5 =>
  ex (fun x => (!(decide (i_2 < (0 : Int)))) = true → (RdAt tSlc (a5.add 2) w4) x) fun x6 =>
  if ((decide (i_2 < (0 : Int))) || (decide (i_2 ≥ (x6.len : Int)))) = true then (
    st T35 a3 (⟨(0 : Int), (0 : Int), (0 : Int), ([] : List UInt8)⟩ : S35) w4 fun w7 =>
    ex (RdAt T35 a3 w7) fun x8 =>
    R (x8, (92 : Int)) w7
  ) else (
    ex (NC n_1) fun a9 =>
    ex (RdAt tSlc (a9.add 2) w4) fun x10 =>
    ex (IxA x10 4 i_2) fun a11 =>
    ex (RdAt T35 a11 w4) fun x12 =>
    st T35 a3 x12 w4 fun w13 =>
    ex (RdAt T35 a3 w13) fun x14 =>
    R (x14, (0 : Int)) w13
  )
theorem F31_ok {n_1 : (Option Addr)} {i_2 : Int} {w : World} {R : (S35 × Int) → World → Prop} (h : F31 n_1 i_2 w R) : cl Try.prog 31 [.pointer (n_1), .int .i64 (i_2)] (tTup2 T35 (tInt .i64)) w R := by
  unfold F31 at h
  refine calls_start 25 Try.func31 rfl rfl (Nat.le_of_ble_eq_true rfl) ?_
  refine wp_seq ?_
  refine wp_text [0, 1] rfl ?_
  obtain ⟨a3, w4, ha3, hw4, h⟩ := nw_open h
  refine ro_val (d := (some 4)) rfl (.free rfl) rfl (q_alloc (u := Z35) rfl ok36 inf36 ha3 hw4) ?_
  refine ro_val (d := (some 5)) rfl (.free rfl) rfl (q_assign (v := .int .i64 ((0 : Int))) rfl rfl) ?_
  refine ro_nil ?_
  refine wp_seq ?_
  refine wp_seq ?_
  refine wp_text [0, 1, 2, 3, 4, 5, 6, 7, 8, 9, 10] rfl ?_
  refine ro_val (d := (some 6)) rfl (.free rfl) rfl (q_move (v := .int .i64 (i_2)) rfl rfl) ?_
  refine ro_val (d := (some 7)) rfl (.free rfl) rfl (q_lss (a := i_2) (b := (0 : Int)) rfl rfl rfl) ?_
  refine ro_val (d := (some 8)) rfl (.free rfl) rfl (q_move (v := .bool ((decide (i_2 < (0 : Int))))) rfl rfl) ?_
  refine ro_gval (g := (!(decide (i_2 < (0 : Int))))) (d := (some 9)) rfl (.no 2 8 true (decide (i_2 < (0 : Int))) rfl rfl rfl rfl) rfl (fun hg => q_move (v := .int .i64 (i_2)) rfl rfl) ?_
  refine ro_gval (g := (!(decide (i_2 < (0 : Int))))) (d := (some 10)) rfl (.no 2 8 true (decide (i_2 < (0 : Int))) rfl rfl rfl rfl) rfl (fun hg => q_move (v := .pointer (n_1)) rfl rfl) ?_
  obtain ⟨a5, ha5, h⟩ := h
  refine ro_gval (g := (!(decide (i_2 < (0 : Int))))) (d := (some 11)) rfl (.no 2 8 true (decide (i_2 < (0 : Int))) rfl rfl rfl rfl) rfl (fun hg => q_nilCheck (a := a5) rfl ((gvb_yes hg).trans (congrArg Value.pointer (ha5 hg)))) ?_
  refine ro_gval (g := (!(decide (i_2 < (0 : Int))))) (d := (some 12)) rfl (.no 2 8 true (decide (i_2 < (0 : Int))) rfl rfl rfl rfl) rfl (fun hg => q_fieldAddr (a := a5) (off := 2) rfl Try.underlying65 rfl rfl ok33 (by decide) (gvb_yes hg)) ?_
  obtain ⟨x6, hx6, h⟩ := h
  refine ro_gval (g := (!(decide (i_2 < (0 : Int))))) (d := (some 13)) rfl (.no 2 8 true (decide (i_2 < (0 : Int))) rfl rfl rfl rfl) rfl (fun hg => q_load (T := tSlc) (u := x6) (a := (a5.add 2)) rfl ok33 (gvb_yes hg) (hx6 hg)) ?_
  refine ro_gval (g := (!(decide (i_2 < (0 : Int))))) (d := (some 14)) rfl (.no 2 8 true (decide (i_2 < (0 : Int))) rfl rfl rfl rfl) rfl (fun hg => q_len (s := x6) rfl Try.underlying33 (gvb_yes hg)) ?_
  refine ro_gval (g := (!(decide (i_2 < (0 : Int))))) (d := (some 15)) rfl (.no 2 8 true (decide (i_2 < (0 : Int))) rfl rfl rfl rfl) rfl (fun hg => q_geq (a := i_2) (b := (x6.len : Int)) rfl (gvb_yes hg) (gvb_yes hg)) ?_
  refine ro_val (d := (some 16)) rfl (.free rfl) rfl (q_pickGF (a := (decide (i_2 < (0 : Int)))) (c := (decide (i_2 ≥ (x6.len : Int)))) rfl rfl rfl rfl) ?_
  refine ro_nil ?_
  refine wp_if (b := ((decide (i_2 < (0 : Int))) || (decide (i_2 ≥ (x6.len : Int))))) rfl h (fun hb15 h => ?_) (fun hb15 h => ?_)
  · refine wp_seq ?_
    refine wp_text [0, 1, 2] rfl ?_
    refine ro_val (d := (some 17)) rfl (.free rfl) rfl (q_build36_  rfl ) ?_
    obtain ⟨w7, hw7, hrw7, h⟩ := st_open h
    refine ro_skip (d := none) rfl (.free rfl) rfl (q_store (T := T35) (u := (⟨(0 : Int), (0 : Int), (0 : Int), ([] : List UInt8)⟩ : S35)) (a := a3) rfl ok36 rfl rfl hrw7 hw7) ?_
    refine ro_val (d := (some 5)) rfl (.free rfl) rfl (q_assign (v := .int .i64 ((92 : Int))) rfl rfl) ?_
    refine ro_nil ?_
    refine wp_ret ?_
    obtain ⟨x8, hx8, h⟩ := h
    exact ret_ok rfl (.cons (.cell (T := T35) (u := x8) (a := a3) ok36 rfl hx8) (.cons (.tmp (v := .int .i64 ((92 : Int))) rfl) .nil)) ⟨(x8, (92 : Int)), rfl, h⟩
  · refine wp_skip ?_
    refine wp_seq ?_
    refine wp_text [0, 1, 2, 3, 4, 5, 6, 7, 8] rfl ?_
    refine ro_val (d := (some 18)) rfl (.free rfl) rfl (q_move (v := .pointer (n_1)) rfl rfl) ?_
    obtain ⟨a9, ha9, h⟩ := h
    refine ro_val (d := (some 19)) rfl (.free rfl) rfl (q_nilCheck (a := a9) rfl (congrArg Value.pointer ha9)) ?_
    refine ro_val (d := (some 20)) rfl (.free rfl) rfl (q_fieldAddr (a := a9) (off := 2) rfl Try.underlying65 rfl rfl ok33 (by decide) rfl) ?_
    obtain ⟨x10, hx10, h⟩ := h
    refine ro_val (d := (some 21)) rfl (.free rfl) rfl (q_load (T := tSlc) (u := x10) (a := (a9.add 2)) rfl ok33 rfl hx10) ?_
    refine ro_val (d := (some 22)) rfl (.free rfl) rfl (q_move (v := .int .i64 (i_2)) rfl rfl) ?_
    obtain ⟨a11, ha11, h⟩ := h
    refine ro_val (d := (some 23)) rfl (.free rfl) rfl (q_indexAddr (s := x10) (i := i_2) rfl Try.underlying33 ok36 rfl rfl ha11) ?_
    obtain ⟨x12, hx12, h⟩ := h
    refine ro_val (d := (some 24)) rfl (.free rfl) rfl (q_load (T := T35) (u := x12) (a := a11) rfl ok36 rfl hx12) ?_
    obtain ⟨w13, hw13, hrw13, h⟩ := st_open h
    refine ro_skip (d := none) rfl (.free rfl) rfl (q_store (T := T35) (u := x12) (a := a3) rfl ok36 rfl rfl hrw13 hw13) ?_
    refine ro_val (d := (some 5)) rfl (.free rfl) rfl (q_assign (v := .int .i64 ((0 : Int))) rfl rfl) ?_
    refine ro_nil ?_
    refine wp_ret ?_
    obtain ⟨x14, hx14, h⟩ := h
    exact ret_ok rfl (.cons (.cell (T := T35) (u := x14) (a := a3) ok36 rfl hx14) (.cons (.tmp (v := .int .i64 ((0 : Int))) rfl) .nil)) ⟨(x14, (0 : Int)), rfl, h⟩

-- (*moiety/post.Net[string]).cut
def F32 (n_1 : (Option Addr)) (node_2 : Int) (w : World) (R : Bool → World → Prop) : Prop :=
  ex (NC n_1) fun a3 =>
  ex (RdAt tMap (a3.add 3) w) fun x4 =>
  ex (MapGet T68 .i64 x4 node_2 w) fun m5 =>
  nw 68 T68 Z68 w fun a6 w7 =>
  st T68 a6 (((m5.getD Z68, m5.isSome)).1) w7 fun w8 =>
  R (((m5.getD Z68, m5.isSome)).2) w8
theorem F32_ok {n_1 : (Option Addr)} {node_2 : Int} {w : World} {R : Bool → World → Prop} (h : F32 n_1 node_2 w R) : cl Try.prog 32 [.pointer (n_1), .int .i64 (node_2)] tBool w R := by
  unfold F32 at h
  refine calls_start 17 Try.func32 rfl rfl (Nat.le_of_ble_eq_true rfl) ?_
  refine wp_seq ?_
  refine wp_text [0] rfl ?_
  refine ro_val (d := (some 4)) rfl (.free rfl) rfl (q_assign (v := .bool (false)) rfl rfl) ?_
  refine ro_nil ?_
  refine wp_seq ?_
  refine wp_text [0, 1, 2, 3, 4, 5, 6, 7, 8, 9, 10, 11] rfl ?_
  refine ro_val (d := (some 8)) rfl (.free rfl) rfl (q_move (v := .pointer (n_1)) rfl rfl) ?_
  obtain ⟨a3, ha3, h⟩ := h
  refine ro_val (d := (some 9)) rfl (.free rfl) rfl (q_nilCheck (a := a3) rfl (congrArg Value.pointer ha3)) ?_
  refine ro_val (d := (some 10)) rfl (.free rfl) rfl (q_fieldAddr (a := a3) (off := 3) rfl Try.underlying65 rfl rfl ok63 (by decide) rfl) ?_
  obtain ⟨x4, hx4, h⟩ := h
  refine ro_val (d := (some 11)) rfl (.free rfl) rfl (q_load (T := tMap) (u := x4) (a := (a3.add 3)) rfl ok63 rfl hx4) ?_
  refine ro_val (d := (some 12)) rfl (.free rfl) rfl (q_move (v := .int .i64 (node_2)) rfl rfl) ?_
  obtain ⟨m5, hm5, h⟩ := h
  refine ro_val (d := (some 13)) rfl (.free rfl) rfl (q_lookup2 (T := T68) (r := x4) (key := node_2) (u := m5) (z := Z68) rfl Try.underlying63 Try.underlying3 (inf68) rfl rfl hm5) ?_
  refine ro_val (d := (some 7)) rfl (.free rfl) rfl (q_move (v := (tTup2 T68 tBool).enc (((m5.getD Z68, m5.isSome)))) rfl rfl) ?_
  refine ro_val (d := (some 14)) rfl (.free rfl) rfl (q_extract (vs := #[T68.enc (((m5.getD Z68, m5.isSome)).1), .bool (((m5.getD Z68, m5.isSome)).2)]) (v := T68.enc (((m5.getD Z68, m5.isSome)).1)) rfl rfl rfl) ?_
  refine ro_val (d := (some 15)) rfl (.free rfl) rfl (q_extract (vs := #[T68.enc (((m5.getD Z68, m5.isSome)).1), .bool (((m5.getD Z68, m5.isSome)).2)]) (v := .bool (((m5.getD Z68, m5.isSome)).2)) rfl rfl rfl) ?_
  obtain ⟨a6, w7, ha6, hw7, h⟩ := nw_open h
  refine ro_val (d := (some 5)) rfl (.free rfl) rfl (q_alloc (u := Z68) rfl ok68 inf68 ha6 hw7) ?_
  obtain ⟨w8, hw8, hrw8, h⟩ := st_open h
  refine ro_skip (d := none) rfl (.free rfl) rfl (q_store (T := T68) (u := ((m5.getD Z68, m5.isSome)).1) (a := a6) rfl ok68 rfl rfl hrw8 hw8) ?_
  refine ro_val (d := (some 6)) rfl (.free rfl) rfl (q_assign (v := .bool (((m5.getD Z68, m5.isSome)).2)) rfl rfl) ?_
  refine ro_nil ?_
  refine wp_seq ?_
  refine wp_text [0, 1] rfl ?_
  refine ro_val (d := (some 16)) rfl (.free rfl) rfl (q_move (v := .bool (((m5.getD Z68, m5.isSome)).2)) rfl rfl) ?_
  refine ro_val (d := (some 4)) rfl (.free rfl) rfl (q_assign (v := .bool (((m5.getD Z68, m5.isSome)).2)) rfl rfl) ?_
  refine ro_nil ?_
  refine wp_ret ?_
  exact ret_ok rfl (.cons (.tmp (v := .bool (((m5.getD Z68, m5.isSome)).2)) rfl) .nil) ⟨((m5.getD Z68, m5.isSome)).2, rfl, h⟩

-- slices.Delete[[]moiety/post.Letter[string],moiety/post.Letter[string]]
def F33 (s_1 : Slc) (i_2 : Int) (j_3 : Int) (w : World) (R : Slc → World → Prop) : Prop :=
  ex (Sub s_1 4 i_2 j_3 (s_1.len : Int)) fun s4 =>
  if (i_2 == j_3) = true then (
    R s_1 w
  ) else (
    dr w fun w5 =>
    ex (Sub s_1 4 0 i_2 ((s_1).cap : Int)) fun s6 =>
    ex (Sub s_1 4 j_3 ((s_1).len : Int) ((s_1).cap : Int)) fun s7 =>
    apd 36 T35 4 40 s6 s7 w5 fun r9 w8 =>
    ex (Sub r9 4 (r9.len : Int) (s_1.len : Int) ((r9).cap : Int)) fun s10 =>
    clrS T35 4 Z35 s10 w8 fun w11 =>
    R r9 w11
  )
theorem F33_ok {s_1 : Slc} {i_2 : Int} {j_3 : Int} {w : World} {R : Slc → World → Prop} (h : F33 s_1 i_2 j_3 w R) : cl Try.prog 33 [tSlc.enc (s_1), .int .i64 (i_2), .int .i64 (j_3)] tSlc w R := by
  unfold F33 at h
  refine calls_start 33 Try.func33 rfl rfl (Nat.le_of_ble_eq_true rfl) ?_
  refine wp_seq ?_
  refine wp_text [0] rfl ?_
  refine ro_val (d := (some 6)) rfl (.free rfl) rfl (q_assign (v := tSlc.enc ((⟨none, 0, 0⟩ : Slc))) rfl rfl) ?_
  refine ro_nil ?_
  refine wp_seq ?_
  refine wp_text [0, 1, 2, 3, 4, 5] rfl ?_
  refine ro_val (d := (some 8)) rfl (.free rfl) rfl (q_move (v := tSlc.enc (s_1)) rfl rfl) ?_
  refine ro_val (d := (some 9)) rfl (.free rfl) rfl (q_move (v := .int .i64 (i_2)) rfl rfl) ?_
  refine ro_val (d := (some 10)) rfl (.free rfl) rfl (q_move (v := .int .i64 (j_3)) rfl rfl) ?_
  refine ro_val (d := (some 11)) rfl (.free rfl) rfl (q_move (v := tSlc.enc (s_1)) rfl rfl) ?_
  refine ro_val (d := (some 12)) rfl (.free rfl) rfl (q_len (s := s_1) rfl Try.underlying33 rfl) ?_
  obtain ⟨s4, hs4, h⟩ := h
  refine ro_val (d := (some 13)) rfl (.free rfl) rfl (q_sliceLHM (s := s_1) (l := i_2) (h := j_3) (m := (s_1.len : Int)) rfl Try.underlying33 ok36 rfl rfl rfl rfl hs4) ?_
  refine ro_nil ?_
  refine wp_seq ?_
  refine wp_seq ?_
  refine wp_text [0, 1, 2] rfl ?_
  refine ro_val (d := (some 14)) rfl (.free rfl) rfl (q_move (v := .int .i64 (i_2)) rfl rfl) ?_
  refine ro_val (d := (some 15)) rfl (.free rfl) rfl (q_move (v := .int .i64 (j_3)) rfl rfl) ?_
  refine ro_val (d := (some 16)) rfl (.free rfl) rfl (q_eql (a := i_2) (b := j_3) rfl rfl rfl) ?_
  refine ro_nil ?_
  refine wp_if (b := (i_2 == j_3)) rfl h (fun hb12 h => ?_) (fun hb12 h => ?_)
  · refine wp_seq ?_
    refine wp_text [0, 1] rfl ?_
    refine ro_val (d := (some 17)) rfl (.free rfl) rfl (q_move (v := tSlc.enc (s_1)) rfl rfl) ?_
    refine ro_val (d := (some 6)) rfl (.free rfl) rfl (q_assign (v := tSlc.enc (s_1)) rfl rfl) ?_
    refine ro_nil ?_
    refine wp_ret ?_
    exact ret_ok rfl (.cons (.tmp (v := tSlc.enc (s_1)) rfl) .nil) ⟨s_1, rfl, h⟩
  · refine wp_skip ?_
    refine wp_seq ?_
    refine wp_text [0, 1, 2] rfl ?_
    refine ro_val (d := (some 18)) rfl (.free rfl) rfl (q_move (v := tSlc.enc (s_1)) rfl rfl) ?_
    refine ro_val (d := (some 19)) rfl (.free rfl) rfl (q_len (s := s_1) rfl Try.underlying33 rfl) ?_
    refine ro_val (d := (some 7)) rfl (.free rfl) rfl (q_assign (v := .int .i64 ((s_1.len : Int))) rfl rfl) ?_
    refine ro_nil ?_
    refine wp_seq ?_
    obtain ⟨w5, hw5, h⟩ := dr_open h
    refine wp_drawn 8 mixed rfl (by kernel_rfl) (by intro c a d v w h; cases d <;> exact h) hw5 (fun hD => ?_)
    refine rd_pure (i := 0) (d := (some 20)) hD (by kernel_rfl) (by kernel_rfl) rfl (.free rfl) rfl (fun _ => q_move (v := tSlc.enc (s_1)) rfl rfl) ?_
    refine rd_pure (i := 1) (d := (some 21)) hD (by kernel_rfl) (by kernel_rfl) rfl (.free rfl) rfl (fun _ => q_move (v := .int .i64 (i_2)) rfl rfl) ?_
    obtain ⟨s6, hs6, h⟩ := h
    refine rd_pure (i := 2) (d := (some 22)) hD (by kernel_rfl) (by kernel_rfl) rfl (.free rfl) rfl (fun _ => q_sliceH (s := s_1) (h := i_2) rfl Try.underlying33 ok36 rfl rfl hs6) ?_
    refine rd_pure (i := 3) (d := (some 23)) hD (by kernel_rfl) (by kernel_rfl) rfl (.free rfl) rfl (fun _ => q_move (v := tSlc.enc (s_1)) rfl rfl) ?_
    refine rd_pure (i := 4) (d := (some 24)) hD (by kernel_rfl) (by kernel_rfl) rfl (.free rfl) rfl (fun _ => q_move (v := .int .i64 (j_3)) rfl rfl) ?_
    obtain ⟨s7, hs7, h⟩ := h
    refine rd_pure (i := 5) (d := (some 25)) hD (by kernel_rfl) (by kernel_rfl) rfl (.free rfl) rfl (fun _ => q_sliceL (s := s_1) (l := j_3) rfl Try.underlying33 ok36 rfl rfl hs7) ?_
    refine rd_one (i := 6) (by kernel_rfl) ?_
    refine po_wp rfl (.free rfl) (wp_append (d := (some 26)) (T := T35) rfl rfl Try.underlying33 ⟨_, Try.underlying33⟩ ok36 inf36 rfl rfl (Nat.lt_of_lt_of_le Nat.zero_lt_one (Nat.le_of_ble_eq_true rfl)) rfl rfl h ?_)
    intro r9 w8 h
    refine ⟨hk_nil, ?_⟩
    refine rd_pure (i := 7) (d := (some 0)) hD (by kernel_rfl) (by kernel_rfl) rfl (.free rfl) rfl (fun _ => q_assign (v := tSlc.enc (r9)) rfl rfl) ?_
    refine rd_nil (by kernel_rfl) ?_
    refine wp_seq ?_
    refine wp_text [0, 1, 2, 3, 4, 5] rfl ?_
    refine ro_val (d := (some 27)) rfl (.free rfl) rfl (q_move (v := tSlc.enc (r9)) rfl rfl) ?_
    refine ro_val (d := (some 28)) rfl (.free rfl) rfl (q_move (v := tSlc.enc (r9)) rfl rfl) ?_
    refine ro_val (d := (some 29)) rfl (.free rfl) rfl (q_len (s := r9) rfl Try.underlying33 rfl) ?_
    refine ro_val (d := (some 30)) rfl (.free rfl) rfl (q_move (v := .int .i64 ((s_1.len : Int))) rfl rfl) ?_
    obtain ⟨s10, hs10, h⟩ := h
    refine ro_val (d := (some 31)) rfl (.free rfl) rfl (q_sliceLH (s := r9) (l := (r9.len : Int)) (h := (s_1.len : Int)) rfl Try.underlying33 ok36 rfl rfl rfl hs10) ?_
    refine ro_wp rfl (.free rfl) (wp_clrS (T := T35) (s := s10) (z := Z35) (d := none) rfl rfl Try.underlying33 ok36 inf36 rfl h ?_)
    intro w11 h
    refine ro_nil ?_
    refine wp_seq ?_
    refine wp_text [0, 1] rfl ?_
    refine ro_val (d := (some 32)) rfl (.free rfl) rfl (q_move (v := tSlc.enc (r9)) rfl rfl) ?_
    refine ro_val (d := (some 6)) rfl (.free rfl) rfl (q_assign (v := tSlc.enc (r9)) rfl rfl) ?_
    refine ro_nil ?_
    refine wp_ret ?_
    exact ret_ok rfl (.cons (.tmp (v := tSlc.enc (r9)) rfl) .nil) ⟨r9, rfl, h⟩

-- slices.DeleteFunc[[]moiety/post.Letter[string],moiety/post.Letter[string]]
def F34_j2 (j_6 : Int) (i_9 : Int) (w10 : World) (K8 : Int × Int → World → Prop) (R : Slc → World → Prop) : Prop :=
  K8 (i_9, (IntKind.i64.wrap (j_6 + (1 : Int)))) w10
def F34_l1 (s_1 : Slc) (del_2 : Fv) (i_5 : Int) (j_6 : Int) (w7 : World) (K8 : Int × Int → World → Prop) (R : Slc → World → Prop) : Prop :=
  if (decide (j_6 < (s_1.len : Int))) = true then (
    ex (IxA s_1 4 j_6) fun a11 =>
    ex (RdAt T35 a11 w7) fun x12 =>
    nw 36 T35 Z35 w7 fun a13 w14 =>
    st T35 a13 x12 w14 fun w15 =>
    ex (RdAt T35 a13 w15) fun x16 =>
    clv Try.prog del_2 [T35.enc (x16)] tBool w15 fun r18 w17 =>
    if (!r18) = true then (
      ex (RdAt T35 a13 w17) fun x19 =>
      ex (IxA s_1 4 i_5) fun a20 =>
      st T35 a20 x19 w17 fun w21 =>
      F34_j2 j_6 (IntKind.i64.wrap (i_5 + (1 : Int))) w21 K8 R
    ) else (
      F34_j2 j_6 i_5 w17 K8 R
    )
  ) else (
    ex (Sub s_1 4 i_5 ((s_1).len : Int) ((s_1).cap : Int)) fun s23 =>
    clrS T35 4 Z35 s23 w7 fun w24 =>
    ex (Sub s_1 4 0 i_5 ((s_1).cap : Int)) fun s25 =>
    R s25 w24
  )
def F34 (s_1 : Slc) (del_2 : Fv) (w : World) (R : Slc → World → Prop) : Prop :=
  cl Try.prog 49 [tSlc.enc (s_1), (del_2).enc] (tInt .i64) w fun r4 w3 =>
  if (r4 == (-1 : Int)) = true then (
    R s_1 w3
  ) else (
    lp (fun (s : Int × Int) w K => F34_l1 s_1 del_2 s.1 s.2 w K R) (r4, (IntKind.i64.wrap (r4 + (1 : Int)))) w3
  )
theorem F34_ok {s_1 : Slc} {del_2 : Fv} {w : World} {R : Slc → World → Prop} (h : F34 s_1 del_2 w R) : cl Try.prog 34 [tSlc.enc (s_1), (del_2).enc] tSlc w R := by
  unfold F34 at h
  refine calls_start 42 Try.func34 rfl rfl (Nat.le_of_ble_eq_true rfl) ?_
  refine wp_seq ?_
  refine wp_text [0] rfl ?_
  refine ro_val (d := (some 4)) rfl (.free rfl) rfl (q_assign (v := tSlc.enc ((⟨none, 0, 0⟩ : Slc))) rfl rfl) ?_
  refine ro_nil ?_
  refine wp_seq ?_
  refine wp_text [0, 1, 2, 3] rfl ?_
  refine ro_val (d := (some 8)) rfl (.free rfl) rfl (q_move (v := tSlc.enc (s_1)) rfl rfl) ?_
  refine ro_val (d := (some 9)) rfl (.free rfl) rfl (q_move (v := (del_2).enc) rfl rfl) ?_
  refine ro_wp rfl (.free rfl) (wp_cl (d := (some 10)) rfl (q_call (k := 49) (l := [tSlc.enc (s_1), (del_2).enc]) rfl ent49 rfl) h ?_)
  intro r4 w3 h
  refine ro_val (d := (some 5)) rfl (.free rfl) rfl (q_assign (v := .int .i64 (r4)) rfl rfl) ?_
  refine ro_nil ?_
  refine wp_seq ?_
  refine wp_seq ?_
  refine wp_text [0, 1] rfl ?_
  refine ro_val (d := (some 11)) rfl (.free rfl) rfl (q_move (v := .int .i64 (r4)) rfl rfl) ?_
  refine ro_val (d := (some 12)) rfl (.free rfl) rfl (q_eql (a := r4) (b := (-1 : Int)) rfl rfl rfl) ?_
  refine ro_nil ?_
  refine wp_if (b := (r4 == (-1 : Int))) rfl h (fun hb27 h => ?_) (fun hb27 h => ?_)
  · refine wp_seq ?_
    refine wp_text [0, 1] rfl ?_
    refine ro_val (d := (some 13)) rfl (.free rfl) rfl (q_move (v := tSlc.enc (s_1)) rfl rfl) ?_
    refine ro_val (d := (some 4)) rfl (.free rfl) rfl (q_assign (v := tSlc.enc (s_1)) rfl rfl) ?_
    refine ro_nil ?_
    refine wp_ret ?_
    exact ret_ok rfl (.cons (.tmp (v := tSlc.enc (s_1)) rfl) .nil) ⟨s_1, rfl, h⟩
  · refine wp_skip ?_
    refine wp_seq ?_
    refine wp_seq ?_
    refine wp_text [0, 1, 2] rfl ?_
    refine ro_val (d := (some 14)) rfl (.free rfl) rfl (q_move (v := .int .i64 (r4)) rfl rfl) ?_
    refine ro_val (d := (some 15)) rfl (.free rfl) rfl (q_add (a := r4) (b := (1 : Int)) rfl rfl rfl) ?_
    refine ro_val (d := (some 6)) rfl (.free rfl) rfl (q_assign (v := .int .i64 ((IntKind.i64.wrap (r4 + (1 : Int))))) rfl rfl) ?_
    refine ro_nil ?_
    refine wp_block ?_
    refine loop_at (σ := Int × Int) (fr := fun g (s : Int × Int) => upd (upd (upd (upd (g) 0 (tSlc.enc (s_1))) 1 ((del_2).enc)) 5 (.int .i64 (s.1))) 6 (.int .i64 (s.2))) (s0 := (r4, (IntKind.i64.wrap (r4 + (1 : Int))))) (upd_step (upd_step (upd_step (upd_step rfl rfl) rfl) rfl) rfl) h ?_
    rintro ⟨i_5, j_6⟩ g w7 K8 h
    unfold F34_l1 at h
    refine wp_seq ?_
    refine wp_seq ?_
    refine wp_text [0, 1, 2, 3] rfl ?_
    refine ro_val (d := (some 16)) rfl (.free rfl) rfl (q_move (v := .int .i64 (j_6)) rfl rfl) ?_
    refine ro_val (d := (some 17)) rfl (.free rfl) rfl (q_move (v := tSlc.enc (s_1)) rfl rfl) ?_
    refine ro_val (d := (some 18)) rfl (.free rfl) rfl (q_len (s := s_1) rfl Try.underlying33 rfl) ?_
    refine ro_val (d := (some 19)) rfl (.free rfl) rfl (q_lss (a := j_6) (b := (s_1.len : Int)) rfl rfl rfl) ?_
    refine ro_nil ?_
    refine wp_if (b := (decide (j_6 < (s_1.len : Int)))) rfl h (fun hb26 h => ?_) (fun hb26 h => ?_)
    · refine wp_skip ?_
      refine seq_join (σ := Int) (J := fun (s : Int) w => F34_j2 j_6 s w K8 R) (fr := fun g (s : Int) => upd (upd (upd (upd (g) 0 (tSlc.enc (s_1))) 1 ((del_2).enc)) 6 (.int .i64 (j_6))) 5 (.int .i64 (s))) ?_ ?_
      · rintro i_9 g w10 h
        unfold F34_j2 at h
        refine wp_text [0, 1, 2] rfl ?_
        refine ro_val (d := (some 20)) rfl (.free rfl) rfl (q_move (v := .int .i64 (j_6)) rfl rfl) ?_
        refine ro_val (d := (some 21)) rfl (.free rfl) rfl (q_add (a := j_6) (b := (1 : Int)) rfl rfl rfl) ?_
        refine ro_val (d := (some 6)) rfl (.free rfl) rfl (q_assign (v := .int .i64 ((IntKind.i64.wrap (j_6 + (1 : Int))))) rfl rfl) ?_
        refine ro_nil ?_
        exact ⟨(i_9, (IntKind.i64.wrap (j_6 + (1 : Int)))), _, arr (upd_step (upd_step (upd_step (upd_step rfl rfl) rfl) rfl) rfl), h⟩
      · refine wp_block ?_
        refine wp_seq ?_
        refine wp_text [0, 1, 2, 3, 4, 5] rfl ?_
        refine ro_val (d := (some 22)) rfl (.free rfl) rfl (q_move (v := tSlc.enc (s_1)) rfl rfl) ?_
        refine ro_val (d := (some 23)) rfl (.free rfl) rfl (q_move (v := .int .i64 (j_6)) rfl rfl) ?_
        obtain ⟨a11, ha11, h⟩ := h
        refine ro_val (d := (some 24)) rfl (.free rfl) rfl (q_indexAddr (s := s_1) (i := j_6) rfl Try.underlying33 ok36 rfl rfl ha11) ?_
        obtain ⟨x12, hx12, h⟩ := h
        refine ro_val (d := (some 25)) rfl (.free rfl) rfl (q_load (T := T35) (u := x12) (a := a11) rfl ok36 rfl hx12) ?_
        obtain ⟨a13, w14, ha13, hw14, h⟩ := nw_open h
        refine ro_val (d := (some 7)) rfl (.free rfl) rfl (q_alloc (u := Z35) rfl ok36 inf36 ha13 hw14) ?_
        obtain ⟨w15, hw15, hrw15, h⟩ := st_open h
        refine ro_skip (d := none) rfl (.free rfl) rfl (q_store (T := T35) (u := x12) (a := a13) rfl ok36 rfl rfl hrw15 hw15) ?_
        refine ro_nil ?_
        refine wp_seq ?_
        refine wp_text [0, 1, 2, 3] rfl ?_
        refine ro_val (d := (some 26)) rfl (.free rfl) rfl (q_move (v := (del_2).enc) rfl rfl) ?_
        obtain ⟨x16, hx16, h⟩ := h
        refine ro_val (d := (some 27)) rfl (.free rfl) rfl (q_load (T := T35) (u := x16) (a := a13) rfl ok36 rfl hx16) ?_
        refine ro_wp rfl (.free rfl) (wp_clv (d := (some 28)) (l := [T35.enc (x16)]) (fv := del_2) rfl rfl rfl rfl h ?_)
        intro r18 w17 h
        refine ro_val (d := (some 29)) rfl (.free rfl) rfl (q_not (b := r18) rfl rfl) ?_
        refine ro_nil ?_
        refine wp_if (b := (!r18)) rfl h (fun hb22 h => ?_) (fun hb22 h => ?_)
        · refine wp_seq ?_
          refine wp_text [0, 1, 2, 3, 4] rfl ?_
          refine ro_val (d := (some 30)) rfl (.free rfl) rfl (q_move (v := tSlc.enc (s_1)) rfl rfl) ?_
          refine ro_val (d := (some 31)) rfl (.free rfl) rfl (q_move (v := .int .i64 (i_5)) rfl rfl) ?_
          obtain ⟨x19, hx19, h⟩ := h
          refine ro_val (d := (some 32)) rfl (.free rfl) rfl (q_load (T := T35) (u := x19) (a := a13) rfl ok36 rfl hx19) ?_
          obtain ⟨a20, ha20, h⟩ := h
          refine ro_val (d := (some 33)) rfl (.free rfl) rfl (q_indexAddr (s := s_1) (i := i_5) rfl Try.underlying33 ok36 rfl rfl ha20) ?_
          obtain ⟨w21, hw21, hrw21, h⟩ := st_open h
          refine ro_skip (d := none) rfl (.free rfl) rfl (q_store (T := T35) (u := x19) (a := a20) rfl ok36 rfl rfl hrw21 hw21) ?_
          refine ro_nil ?_
          refine wp_text [0, 1, 2] rfl ?_
          refine ro_val (d := (some 34)) rfl (.free rfl) rfl (q_move (v := .int .i64 (i_5)) rfl rfl) ?_
          refine ro_val (d := (some 35)) rfl (.free rfl) rfl (q_add (a := i_5) (b := (1 : Int)) rfl rfl rfl) ?_
          refine ro_val (d := (some 5)) rfl (.free rfl) rfl (q_assign (v := .int .i64 ((IntKind.i64.wrap (i_5 + (1 : Int))))) rfl rfl) ?_
          refine ro_nil ?_
          exact ⟨((IntKind.i64.wrap (i_5 + (1 : Int)))), _, arr (upd_step (upd_step (upd_step (upd_step rfl rfl) rfl) rfl) rfl), h⟩
        · refine wp_skip ?_
          exact ⟨(i_5), _, arr (upd_step (upd_step (upd_step (upd_step rfl rfl) rfl) rfl) rfl), h⟩
    · refine wp_exit ?_
      refine wp_seq ?_
      refine wp_text [0, 1, 2, 3] rfl ?_
      refine ro_val (d := (some 36)) rfl (.free rfl) rfl (q_move (v := tSlc.enc (s_1)) rfl rfl) ?_
      refine ro_val (d := (some 37)) rfl (.free rfl) rfl (q_move (v := .int .i64 (i_5)) rfl rfl) ?_
      obtain ⟨s23, hs23, h⟩ := h
      refine ro_val (d := (some 38)) rfl (.free rfl) rfl (q_sliceL (s := s_1) (l := i_5) rfl Try.underlying33 ok36 rfl rfl hs23) ?_
      refine ro_wp rfl (.free rfl) (wp_clrS (T := T35) (s := s23) (z := Z35) (d := none) rfl rfl Try.underlying33 ok36 inf36 rfl h ?_)
      intro w24 h
      refine ro_nil ?_
      refine wp_seq ?_
      refine wp_text [0, 1, 2, 3] rfl ?_
      refine ro_val (d := (some 39)) rfl (.free rfl) rfl (q_move (v := tSlc.enc (s_1)) rfl rfl) ?_
      refine ro_val (d := (some 40)) rfl (.free rfl) rfl (q_move (v := .int .i64 (i_5)) rfl rfl) ?_
      obtain ⟨s25, hs25, h⟩ := h
      refine ro_val (d := (some 41)) rfl (.free rfl) rfl (q_sliceH (s := s_1) (h := i_5) rfl Try.underlying33 ok36 rfl rfl hs25) ?_
      refine ro_val (d := (some 4)) rfl (.free rfl) rfl (q_assign (v := tSlc.enc (s25)) rfl rfl) ?_
      refine ro_nil ?_
      refine wp_ret ?_
      exact ret_ok rfl (.cons (.tmp (v := tSlc.enc (s25)) rfl) .nil) ⟨s25, rfl, h⟩

end Go.Proofs.Ytpflfnaflacfgaa.Cf
