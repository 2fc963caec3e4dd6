/- Characteristic formulae of Go functions, and that they are. Printed by gen.py (own tool). -/
import Derived.Test.YtdgdkbfigndndaaTy
namespace Go.Proofs.Ytdgdkbfigndndaa.Cf
open Go
set_option maxRecDepth 100000
set_option maxHeartbeats 1000000
set_option linter.unusedVariables false
set_option linter.unusedSimpArgs false

-- (*moiety/store.Store).Mark
def F16 (s_1 : (Option Addr)) (w : World) (R : Int → World → Prop) : Prop :=
  ex (NC s_1) fun a2 =>
  ex (RdAt (tInt .i64) (a2.add 2) w) fun x3 =>
  R x3 w
theorem F16_ok {s_1 : (Option Addr)} {w : World} {R : Int → World → Prop} (h : F16 s_1 w R) : cl Try.prog 16 [.pointer (s_1)] (tInt .i64) w R := by
  unfold F16 at h
  refine calls_start 7 Try.func16 rfl rfl (Nat.le_of_ble_eq_true rfl) ?_
  refine wp_seq ?_
  refine wp_text [0] rfl ?_
  refine ro_val (d := (some 2)) rfl (.free rfl) rfl (q_assign (v := .int .i64 ((0 : Int))) rfl rfl) ?_
  refine ro_nil ?_
  refine wp_seq ?_
  refine wp_text [0, 1, 2, 3, 4] rfl ?_
  refine ro_val (d := (some 3)) rfl (.free rfl) rfl (q_move (v := .pointer (s_1)) rfl rfl) ?_
  obtain ⟨a2, ha2, h⟩ := h
  refine ro_val (d := (some 4)) rfl (.free rfl) rfl (q_nilCheck (a := a2) rfl (congrArg Value.pointer ha2)) ?_
  refine ro_val (d := (some 5)) rfl (.free rfl) rfl (q_fieldAddr (a := a2) (off := 2) rfl Try.underlying67 rfl rfl ok2 (by decide) rfl) ?_
  obtain ⟨x3, hx3, h⟩ := h
  refine ro_val (d := (some 6)) rfl (.free rfl) rfl (q_load (T := (tInt .i64)) (u := x3) (a := (a2.add 2)) rfl ok2 rfl hx3) ?_
  refine ro_val (d := (some 2)) rfl (.free rfl) rfl (q_assign (v := .int .i64 (x3)) rfl rfl) ?_
  refine ro_nil ?_
  refine wp_ret ?_
  exact ret_ok rfl (.cons (.tmp (v := .int .i64 (x3)) rfl) .nil) ⟨x3, rfl, h⟩

-- (*moiety/store.Store).Size
def F17_l1 (a5 : Addr) (n_6 : Int) (w7 : World) (K8 : Int → World → Prop) (R : Int → World → Prop) : Prop :=
  nxt a5 w7 fun q10 w9 =>
  if (Option.isSome q10) = true then (
    ex (Ent tPtr .i64 a5 w9) fun e11 =>
    cl Try.prog 32 [.pointer (e11.2)] tSlc w9 fun r13 w12 =>
    K8 ((IntKind.i64.wrap (n_6 + (r13.len : Int)))) w12
  ) else (
    R n_6 w9
  )
def F17 (s_1 : (Option Addr)) (w : World) (R : Int → World → Prop) : Prop :=
  ex (NC s_1) fun a2 =>
  ex (RdAt tMap (a2.add 0) w) fun x3 =>
  rng x3 w fun a5 w4 =>
  lp (fun (s : Int) w K => F17_l1 a5 s w K R) ((0 : Int)) w4
theorem F17_ok {s_1 : (Option Addr)} {w : World} {R : Int → World → Prop} (h : F17 s_1 w R) : cl Try.prog 17 [.pointer (s_1)] (tInt .i64) w R := by
  unfold F17 at h
  refine calls_start 21 Try.func17 rfl rfl (Nat.le_of_ble_eq_true rfl) ?_
  refine wp_seq ?_
  refine wp_text [0] rfl ?_
  refine ro_val (d := (some 2)) rfl (.free rfl) rfl (q_assign (v := .int .i64 ((0 : Int))) rfl rfl) ?_
  refine ro_nil ?_
  refine wp_seq ?_
  refine wp_text [0] rfl ?_
  refine ro_val (d := (some 3)) rfl (.free rfl) rfl (q_assign (v := .int .i64 ((0 : Int))) rfl rfl) ?_
  refine ro_nil ?_
  refine wp_seq ?_
  refine wp_seq ?_
  refine wp_text [0, 1, 2, 3, 4] rfl ?_
  refine ro_val (d := (some 6)) rfl (.free rfl) rfl (q_move (v := .pointer (s_1)) rfl rfl) ?_
  obtain ⟨a2, ha2, h⟩ := h
  refine ro_val (d := (some 7)) rfl (.free rfl) rfl (q_nilCheck (a := a2) rfl (congrArg Value.pointer ha2)) ?_
  refine ro_val (d := (some 8)) rfl (.free rfl) rfl (q_fieldAddr (a := a2) (off := 0) rfl Try.underlying67 rfl rfl ok65 (by decide) rfl) ?_
  obtain ⟨x3, hx3, h⟩ := h
  refine ro_val (d := (some 9)) rfl (.free rfl) rfl (q_load (T := tMap) (u := x3) (a := (a2.add 0)) rfl ok65 rfl hx3) ?_
  refine ro_wp rfl (.free rfl) (wp_rng (r := x3) (d := (some 10)) rfl rfl Try.underlying65 rfl h ?_)
  intro a5 w4 h
  refine ro_nil ?_
  refine wp_block ?_
  refine loop_at (σ := Int) (fr := fun g (s : Int) => upd (upd (g) 10 (.pointer (some a5))) 3 (.int .i64 (s))) (s0 := ((0 : Int))) (upd_step (upd_step rfl rfl) rfl) h ?_
  rintro n_6 g w7 K8 h
  unfold F17_l1 at h
  refine wp_seq ?_
  refine wp_text [0, 1] rfl ?_
  refine ro_wp rfl (.free rfl) (wp_nxt (a := a5) (d := (some 11)) rfl rfl rfl h ?_)
  intro q10 w9 h
  refine ro_val (d := (some 12)) rfl (.free rfl) rfl (q_extractN (q := q10) rfl rfl) ?_
  refine ro_nil ?_
  refine wp_seq ?_
  refine wp_if (b := (Option.isSome q10)) rfl h (fun hb14 h => ?_) (fun hb14 h => ?_)
  · refine wp_skip ?_
    refine wp_block ?_
    refine wp_seq ?_
    refine wp_text [0, 1, 2] rfl ?_
    obtain ⟨e11, he11, h⟩ := h
    refine ro_val (d := (some 13)) rfl (.free rfl) rfl (q_entry (T := tPtr) (p := e11) (a := a5) rfl rfl he11) ?_
    refine ro_val (d := (some 14)) rfl (.free rfl) rfl (q_extract (vs := #[.int .i64 (e11.1), .pointer (e11.2)]) (v := .pointer (e11.2)) rfl rfl rfl) ?_
    refine ro_val (d := (some 5)) rfl (.free rfl) rfl (q_assign (v := .pointer (e11.2)) rfl rfl) ?_
    refine ro_nil ?_
    refine wp_text [0, 1, 2, 3, 4, 5] rfl ?_
    refine ro_val (d := (some 15)) rfl (.free rfl) rfl (q_move (v := .int .i64 (n_6)) rfl rfl) ?_
    refine ro_val (d := (some 16)) rfl (.free rfl) rfl (q_move (v := .pointer (e11.2)) rfl rfl) ?_
    refine ro_wp rfl (.free rfl) (wp_cl (d := (some 17)) rfl (q_call (k := 32) (l := [.pointer (e11.2)]) rfl ent32 rfl) h ?_)
    intro r13 w12 h
    refine ro_val (d := (some 18)) rfl (.free rfl) rfl (q_len (s := r13) rfl Try.underlying77 rfl) ?_
    refine ro_val (d := (some 19)) rfl (.free rfl) rfl (q_add (a := n_6) (b := (r13.len : Int)) rfl rfl rfl) ?_
    refine ro_val (d := (some 3)) rfl (.free rfl) rfl (q_assign (v := .int .i64 ((IntKind.i64.wrap (n_6 + (r13.len : Int))))) rfl rfl) ?_
    refine ro_nil ?_
    exact ⟨((IntKind.i64.wrap (n_6 + (r13.len : Int)))), _, arr (upd_step (upd_step rfl rfl) rfl), h⟩
  · refine wp_exit ?_
    refine wp_seq ?_
    refine wp_text [0, 1] rfl ?_
    refine ro_val (d := (some 20)) rfl (.free rfl) rfl (q_move (v := .int .i64 (n_6)) rfl rfl) ?_
    refine ro_val (d := (some 2)) rfl (.free rfl) rfl (q_assign (v := .int .i64 (n_6)) rfl rfl) ?_
    refine ro_nil ?_
    refine wp_ret ?_
    exact ret_ok rfl (.cons (.tmp (v := .int .i64 (n_6)) rfl) .nil) ⟨n_6, rfl, h⟩

-- (*moiety/store.Store).Snap
def F18_j2 (t_12 : Int) (l_15 : Slc) (w16 : World) (K14 : Slc × Int → World → Prop) (R : (Slc × Int) → World → Prop) : Prop :=
  K14 (l_15, (IntKind.i64.wrap (t_12 + (1 : Int)))) w16
def F18_l1 (at_2 : Int) (a5 : Addr) (r10 : Slc) (l_11 : Slc) (t_12 : Int) (w13 : World) (K14 : Slc × Int → World → Prop) (R : (Slc × Int) → World → Prop) : Prop :=
  if (decide (t_12 < (r10.len : Int))) = true then (
    ex (IxA r10 1 t_12) fun a17 =>
    ex (RdAt (tInt .i64) a17 w13) fun x18 =>
    ex (RdAt tMap (a5.add 0) w13) fun x19 =>
    ex (MapGet tPtr .i64 x19 x18 w13) fun m20 =>
    cl Try.prog 36 [.pointer ((m20.getD (none : Option Addr))), .int .i64 (at_2)] (tTup2 T35 (tInt .i64)) w13 fun r22 w21 =>
    nw 36 T35 Z35 w21 fun a23 w24 =>
    st T35 a23 r22.1 w24 fun w25 =>
    if (r22.2 == (0 : Int)) = true then (
      ex (RdAt (tInt .i64) (a23.add 1) w25) fun x26 =>
      apl 58 T57 2 16 l_11 [(⟨x18, x26⟩ : S57)] w25 fun r30 w29 =>
      F18_j2 t_12 r30 w29 K14 R
    ) else (
      F18_j2 t_12 l_11 w25 K14 R
    )
  ) else (
    R (l_11, (0 : Int)) w13
  )
def F18 (s_1 : (Option Addr)) (at_2 : Int) (w : World) (R : (Slc × Int) → World → Prop) : Prop :=
  cl Try.prog 33 [.pointer (s_1), .int .i64 (at_2)] (tInt .i64) w fun r4 w3 =>
  if (r4 != (0 : Int)) = true then (
    R ((⟨none, 0, 0⟩ : Slc), r4) w3
  ) else (
    ex (NC s_1) fun a5 =>
    ex (RdAt tMap (a5.add 0) w3) fun x6 =>
    cl Try.prog 35 [.map (x6)] tFun w3 fun r8 w7 =>
    cl Try.prog 34 [(r8).enc] tSlc w7 fun r10 w9 =>
    lp (fun (s : Slc × Int) w K => F18_l1 at_2 a5 r10 s.1 s.2 w K R) ((⟨none, 0, 0⟩ : Slc), (0 : Int)) w9
  )
theorem F18_ok {s_1 : (Option Addr)} {at_2 : Int} {w : World} {R : (Slc × Int) → World → Prop} (h : F18 s_1 at_2 w R) : cl Try.prog 18 [.pointer (s_1), .int .i64 (at_2)] (tTup2 tSlc (tInt .i64)) w R := by
  unfold F18 at h
  refine calls_start 51 Try.func18 rfl rfl (Nat.le_of_ble_eq_true rfl) ?_
  refine wp_seq ?_
  refine wp_text [0, 1] rfl ?_
  refine ro_val (d := (some 4)) rfl (.free rfl) rfl (q_assign (v := tSlc.enc ((⟨none, 0, 0⟩ : Slc))) rfl rfl) ?_
  refine ro_val (d := (some 5)) rfl (.free rfl) rfl (q_assign (v := .int .i64 ((0 : Int))) rfl rfl) ?_
  refine ro_nil ?_
  refine wp_seq ?_
  refine wp_seq ?_
  refine wp_text [0, 1, 2, 3] rfl ?_
  refine ro_val (d := (some 12)) rfl (.free rfl) rfl (q_move (v := .pointer (s_1)) rfl rfl) ?_
  refine ro_val (d := (some 13)) rfl (.free rfl) rfl (q_move (v := .int .i64 (at_2)) rfl rfl) ?_
  refine ro_wp rfl (.free rfl) (wp_cl (d := (some 14)) rfl (q_call (k := 33) (l := [.pointer (s_1), .int .i64 (at_2)]) rfl ent33 rfl) h ?_)
  intro r4 w3 h
  refine ro_val (d := (some 6)) rfl (.free rfl) rfl (q_assign (v := .int .i64 (r4)) rfl rfl) ?_
  refine ro_nil ?_
  refine wp_seq ?_
  refine wp_text [0, 1] rfl ?_
  refine ro_val (d := (some 15)) rfl (.free rfl) rfl (q_move (v := .int .i64 (r4)) rfl rfl) ?_
  refine ro_val (d := (some 16)) rfl (.free rfl) rfl (q_neq (a := r4) (b := (0 : Int)) rfl rfl rfl) ?_
  refine ro_nil ?_
  refine wp_if (b := (r4 != (0 : Int))) rfl h (fun hb33 h => ?_) (fun hb33 h => ?_)
  · refine wp_seq ?_
    refine wp_text [0, 1, 2] rfl ?_
    refine ro_val (d := (some 17)) rfl (.free rfl) rfl (q_move (v := .int .i64 (r4)) rfl rfl) ?_
    refine ro_val (d := (some 4)) rfl (.free rfl) rfl (q_assign (v := tSlc.enc ((⟨none, 0, 0⟩ : Slc))) rfl rfl) ?_
    refine ro_val (d := (some 5)) rfl (.free rfl) rfl (q_assign (v := .int .i64 (r4)) rfl rfl) ?_
    refine ro_nil ?_
    refine wp_ret ?_
    exact ret_ok rfl (.cons (.tmp (v := tSlc.enc ((⟨none, 0, 0⟩ : Slc))) rfl) (.cons (.tmp (v := .int .i64 (r4)) rfl) .nil)) ⟨((⟨none, 0, 0⟩ : Slc), r4), rfl, h⟩
  · refine wp_skip ?_
    refine wp_seq ?_
    refine wp_text [0] rfl ?_
    refine ro_val (d := (some 7)) rfl (.free rfl) rfl (q_assign (v := tSlc.enc ((⟨none, 0, 0⟩ : Slc))) rfl rfl) ?_
    refine ro_nil ?_
    refine wp_seq ?_
    refine wp_seq ?_
    refine wp_text [0, 1, 2, 3, 4, 5, 6, 7] rfl ?_
    refine ro_val (d := (some 18)) rfl (.free rfl) rfl (q_move (v := .pointer (s_1)) rfl rfl) ?_
    obtain ⟨a5, ha5, h⟩ := h
    refine ro_val (d := (some 19)) rfl (.free rfl) rfl (q_nilCheck (a := a5) rfl (congrArg Value.pointer ha5)) ?_
    refine ro_val (d := (some 20)) rfl (.free rfl) rfl (q_fieldAddr (a := a5) (off := 0) rfl Try.underlying67 rfl rfl ok65 (by decide) rfl) ?_
    obtain ⟨x6, hx6, h⟩ := h
    refine ro_val (d := (some 21)) rfl (.free rfl) rfl (q_load (T := tMap) (u := x6) (a := (a5.add 0)) rfl ok65 rfl hx6) ?_
    refine ro_wp rfl (.free rfl) (wp_cl (d := (some 22)) rfl (q_call (k := 35) (l := [.map (x6)]) rfl ent35 rfl) h ?_)
    intro r8 w7 h
    refine ro_wp rfl (.free rfl) (wp_cl (d := (some 23)) rfl (q_call (k := 34) (l := [(r8).enc]) rfl ent34 rfl) h ?_)
    intro r10 w9 h
    refine ro_val (d := (some 24)) rfl (.free rfl) rfl (q_len (s := r10) rfl Try.underlying79 rfl) ?_
    refine ro_val (d := (some 25)) rfl (.free rfl) rfl (q_move (v := .int .i64 ((0 : Int))) rfl rfl) ?_
    refine ro_nil ?_
    refine wp_block ?_
    refine loop_at (σ := Slc × Int) (fr := fun g (s : Slc × Int) => upd (upd (upd (upd (upd (upd (g) 0 (.pointer (s_1))) 1 (.int .i64 (at_2))) 23 (tSlc.enc (r10))) 24 (.int .i64 ((r10.len : Int)))) 7 (tSlc.enc (s.1))) 25 (.int .i64 (s.2))) (s0 := ((⟨none, 0, 0⟩ : Slc), (0 : Int))) (upd_step (upd_step (upd_step (upd_step (upd_step (upd_step rfl rfl) rfl) rfl) rfl) rfl) rfl) h ?_
    rintro ⟨l_11, t_12⟩ g w13 K14 h
    unfold F18_l1 at h
    refine wp_seq ?_
    refine wp_text [0] rfl ?_
    refine ro_val (d := (some 26)) rfl (.free rfl) rfl (q_lss (a := t_12) (b := (r10.len : Int)) rfl rfl rfl) ?_
    refine ro_nil ?_
    refine wp_seq ?_
    refine wp_if (b := (decide (t_12 < (r10.len : Int)))) rfl h (fun hb32 h => ?_) (fun hb32 h => ?_)
    · refine wp_skip ?_
      refine seq_join (σ := Slc) (J := fun (s : Slc) w => F18_j2 t_12 s w K14 R) (fr := fun g (s : Slc) => upd (upd (upd (upd (upd (upd (g) 0 (.pointer (s_1))) 1 (.int .i64 (at_2))) 23 (tSlc.enc (r10))) 24 (.int .i64 ((r10.len : Int)))) 25 (.int .i64 (t_12))) 7 (tSlc.enc (s))) ?_ ?_
      · rintro l_15 g w16 h
        unfold F18_j2 at h
        refine wp_text [0, 1] rfl ?_
        refine ro_val (d := (some 49)) rfl (.free rfl) rfl (q_add (a := t_12) (b := (1 : Int)) rfl rfl rfl) ?_
        refine ro_val (d := (some 25)) rfl (.free rfl) rfl (q_move (v := .int .i64 ((IntKind.i64.wrap (t_12 + (1 : Int))))) rfl rfl) ?_
        refine ro_nil ?_
        exact ⟨(l_15, (IntKind.i64.wrap (t_12 + (1 : Int)))), _, arr (upd_step (upd_step (upd_step (upd_step (upd_step (upd_step rfl rfl) rfl) rfl) rfl) rfl) rfl), h⟩
      · refine wp_block ?_
        refine wp_seq ?_
        refine wp_text [0, 1, 2] rfl ?_
        obtain ⟨a17, ha17, h⟩ := h
        refine ro_val (d := (some 27)) rfl (.free rfl) rfl (q_indexAddr (s := r10) (i := t_12) rfl Try.underlying79 ok3 rfl rfl ha17) ?_
        obtain ⟨x18, hx18, h⟩ := h
        refine ro_val (d := (some 28)) rfl (.free rfl) rfl (q_load (T := (tInt .i64)) (u := x18) (a := a17) rfl ok3 rfl hx18) ?_
        refine ro_val (d := (some 9)) rfl (.free rfl) rfl (q_assign (v := .int .i64 (x18)) rfl rfl) ?_
        refine ro_nil ?_
        refine wp_seq ?_
        refine wp_text [0, 1, 2, 3, 4, 5, 6, 7, 8, 9, 10, 11, 12, 13] rfl ?_
        refine ro_val (d := (some 30)) rfl (.free rfl) rfl (q_move (v := .pointer (s_1)) rfl rfl) ?_
        refine ro_val (d := (some 31)) rfl (.free rfl) rfl (q_nilCheck (a := a5) rfl (congrArg Value.pointer ha5)) ?_
        refine ro_val (d := (some 32)) rfl (.free rfl) rfl (q_fieldAddr (a := a5) (off := 0) rfl Try.underlying67 rfl rfl ok65 (by decide) rfl) ?_
        obtain ⟨x19, hx19, h⟩ := h
        refine ro_val (d := (some 33)) rfl (.free rfl) rfl (q_load (T := tMap) (u := x19) (a := (a5.add 0)) rfl ok65 rfl hx19) ?_
        refine ro_val (d := (some 34)) rfl (.free rfl) rfl (q_move (v := .int .i64 (x18)) rfl rfl) ?_
        obtain ⟨m20, hm20, h⟩ := h
        refine ro_val (d := (some 35)) rfl (.free rfl) rfl (q_lookup (T := tPtr) (r := x19) (key := x18) (u := m20) (z := (none : Option Addr)) rfl Try.underlying65 Try.underlying3 (inf72) rfl rfl hm20) ?_
        refine ro_val (d := (some 36)) rfl (.free rfl) rfl (q_move (v := .int .i64 (at_2)) rfl rfl) ?_
        refine ro_wp rfl (.free rfl) (wp_cl (d := (some 37)) rfl (q_call (k := 36) (l := [.pointer ((m20.getD (none : Option Addr))), .int .i64 (at_2)]) rfl ent36 rfl) h ?_)
        intro r22 w21 h
        refine ro_val (d := (some 29)) rfl (.free rfl) rfl (q_move (v := (tTup2 T35 (tInt .i64)).enc (r22)) rfl rfl) ?_
        refine ro_val (d := (some 38)) rfl (.free rfl) rfl (q_extract (vs := #[T35.enc (r22.1), .int .i64 (r22.2)]) (v := T35.enc (r22.1)) rfl rfl rfl) ?_
        refine ro_val (d := (some 39)) rfl (.free rfl) rfl (q_extract (vs := #[T35.enc (r22.1), .int .i64 (r22.2)]) (v := .int .i64 (r22.2)) rfl rfl rfl) ?_
        obtain ⟨a23, w24, ha23, hw24, h⟩ := nw_open h
        refine ro_val (d := (some 10)) rfl (.free rfl) rfl (q_alloc (u := Z35) rfl ok36 inf36 ha23 hw24) ?_
        obtain ⟨w25, hw25, hrw25, h⟩ := st_open h
        refine ro_skip (d := none) rfl (.free rfl) rfl (q_store (T := T35) (u := r22.1) (a := a23) rfl ok36 rfl rfl hrw25 hw25) ?_
        refine ro_val (d := (some 11)) rfl (.free rfl) rfl (q_assign (v := .int .i64 (r22.2)) rfl rfl) ?_
        refine ro_nil ?_
        refine wp_seq ?_
        refine wp_text [0, 1] rfl ?_
        refine ro_val (d := (some 40)) rfl (.free rfl) rfl (q_move (v := .int .i64 (r22.2)) rfl rfl) ?_
        refine ro_val (d := (some 41)) rfl (.free rfl) rfl (q_eql (a := r22.2) (b := (0 : Int)) rfl rfl rfl) ?_
        refine ro_nil ?_
        refine wp_if (b := (r22.2 == (0 : Int))) rfl h (fun hb31 h => ?_) (fun hb31 h => ?_)
        · refine wp_text [0, 1, 2, 3, 4, 5, 6, 7] rfl ?_
          refine ro_val (d := (some 42)) rfl (.free rfl) rfl (q_move (v := tSlc.enc (l_11)) rfl rfl) ?_
          refine ro_val (d := (some 43)) rfl (.free rfl) rfl (q_move (v := .int .i64 (x18)) rfl rfl) ?_
          refine ro_val (d := (some 44)) rfl (.free rfl) rfl (q_fieldAddr (a := a23) (off := 1) rfl Try.underlying36 rfl rfl ok2 (by decide) rfl) ?_
          obtain ⟨x26, hx26, h⟩ := h
          refine ro_val (d := (some 45)) rfl (.free rfl) rfl (q_load (T := (tInt .i64)) (u := x26) (a := (a23.add 1)) rfl ok2 rfl hx26) ?_
          refine ro_val (d := (some 46)) rfl (.free rfl) rfl (q_build58_0_1 (v0 := x18) (v1 := x26) rfl rfl rfl) ?_
          obtain ⟨a27, w28, ha27, hw28, h⟩ := apl_open h
          refine ro_val (d := (some 47)) rfl (.free rfl) rfl (q_rowOf (T := T57) (xs := [(⟨x18, x26⟩ : S57)]) rfl Try.underlying31 ok58 inf58 rfl (by decide) (by decide) rfl ha27 hw28) ?_
          refine ro_wp rfl (.free rfl) (wp_append (d := (some 48)) (T := T57) rfl rfl Try.underlying31 ⟨_, Try.underlying31⟩ ok58 inf58 rfl rfl (Nat.lt_of_lt_of_le Nat.zero_lt_one (Nat.le_of_ble_eq_true rfl)) rfl rfl h ?_)
          intro r30 w29 h
          refine ro_val (d := (some 7)) rfl (.free rfl) rfl (q_assign (v := tSlc.enc (r30)) rfl rfl) ?_
          refine ro_nil ?_
          exact ⟨(r30), _, arr (upd_step (upd_step (upd_step (upd_step (upd_step (upd_step rfl rfl) rfl) rfl) rfl) rfl) rfl), h⟩
        · refine wp_skip ?_
          exact ⟨(l_11), _, arr (upd_step (upd_step (upd_step (upd_step (upd_step (upd_step rfl rfl) rfl) rfl) rfl) rfl) rfl), h⟩
    · refine wp_exit ?_
      refine wp_seq ?_
      refine wp_text [0, 1, 2] rfl ?_
      refine ro_val (d := (some 50)) rfl (.free rfl) rfl (q_move (v := tSlc.enc (l_11)) rfl rfl) ?_
      refine ro_val (d := (some 4)) rfl (.free rfl) rfl (q_assign (v := tSlc.enc (l_11)) rfl rfl) ?_
      refine ro_val (d := (some 5)) rfl (.free rfl) rfl (q_assign (v := .int .i64 ((0 : Int))) rfl rfl) ?_
      refine ro_nil ?_
      refine wp_ret ?_
      exact ret_ok rfl (.cons (.tmp (v := tSlc.enc (l_11)) rfl) (.cons (.tmp (v := .int .i64 ((0 : Int))) rfl) .nil)) ⟨(l_11, (0 : Int)), rfl, h⟩

-- moiety/moietyref12.Snap
def F19_j2 (i_14 : Int) (l_17 : Slc) (w18 : World) (K16 : Slc × Int → World → Prop) (R : (Slc × Int) → World → Prop) : Prop :=
  K16 (l_17, (IntKind.i64.wrap (i_14 + (1 : Int)))) w18
def F19_j3 (r12 : Slc) (l_13 : Slc) (i_14 : Int) (v_19 : Addr) (ok_20 : Bool) (w21 : World) (K16 : Slc × Int → World → Prop) (R : (Slc × Int) → World → Prop) : Prop :=
  if ok_20 = true then (
    dr w21 fun w22 =>
    ex (IxA r12 1 i_14) fun a23 =>
    ex (RdAt (tInt .i64) a23 w22) fun x24 =>
    ex (RdAt (tInt .i64) (v_19.add 1) w22) fun x25 =>
    apl 58 T57 2 16 l_13 [(⟨x24, x25⟩ : S57)] w22 fun r29 w28 =>
    kp ((RdAt (tInt .i64) a23 w28) x24) <|
    kp ((RdAt (tInt .i64) (v_19.add 1) w28) x25) <|
    F19_j2 i_14 r29 w28 K16 R
  ) else (
    F19_j2 i_14 l_13 w21 K16 R
  )
def F19_l1 (at_2 : Int) (a3 : Addr) (r12 : Slc) (l_13 : Slc) (i_14 : Int) (w15 : World) (K16 : Slc × Int → World → Prop) (R : (Slc × Int) → World → Prop) : Prop :=
  if (decide (i_14 < (r12.len : Int))) = true then (
    dr w15 fun w33 =>
    ex (IxA r12 1 i_14) fun a34 =>
    ex (RdAt T26 a3 w33) fun x35 =>
    ex (RdAt (tInt .i64) a34 w33) fun x36 =>
    bth (
      cl Try.prog 39 [T26.enc (x35), .int .i64 (x36), .int .i64 (at_2)] (tTup2 T35 tBool) w33 fun r38 w37 =>
      nw 36 T35 Z35 w37 fun a39 w40 =>
      st T35 a39 r38.1 w40 fun w41 =>
      F19_j3 r12 l_13 i_14 a39 r38.2 w41 K16 R
    ) (
      nw 36 T35 Z35 w33 fun a42 w43 =>
      cl Try.prog 39 [T26.enc (x35), .int .i64 (x36), .int .i64 (at_2)] (tTup2 T35 tBool) w43 fun r45 w44 =>
      st T35 a42 r45.1 w44 fun w46 =>
      F19_j3 r12 l_13 i_14 a42 r45.2 w46 K16 R
    )
  ) else (
    R (l_13, (0 : Int)) w15
  )
def F19 (s_1 : S26) (at_2 : Int) (w : World) (R : (Slc × Int) → World → Prop) : Prop :=
  nw 27 T26 s_1 w fun a3 w4 =>
  ex (RdAt T26 a3 w4) fun x5 =>
  cl Try.prog 37 [T26.enc (x5), .int .i64 (at_2)] (tInt .i64) w4 fun r7 w6 =>
  if (r7 != (0 : Int)) = true then (
    R ((⟨none, 0, 0⟩ : Slc), r7) w6
  ) else (
    nwS 58 T57 ([] : List S57) w6 fun a8 w9 =>
    ex (RdAt T26 a3 w9) fun x10 =>
    cl Try.prog 38 [T26.enc (x10)] tSlc w9 fun r12 w11 =>
    lp (fun (s : Slc × Int) w K => F19_l1 at_2 a3 r12 s.1 s.2 w K R) ((⟨some a8, 0, 0⟩ : Slc), (0 : Int)) w11
  )
theorem F19_ok {s_1 : S26} {at_2 : Int} {w : World} {R : (Slc × Int) → World → Prop} (h : F19 s_1 at_2 w R) : cl Try.prog 19 [T26.enc (s_1), .int .i64 (at_2)] (tTup2 tSlc (tInt .i64)) w R := by
  unfold F19 at h
  refine calls_start 49 Try.func19 rfl rfl (Nat.le_of_ble_eq_true rfl) ?_
  refine wp_seq ?_
  refine wp_text [0, 1, 2] rfl ?_
  obtain ⟨a3, w4, ha3, hw4, h⟩ := nw_open h
  refine ro_val (d := (some 2)) rfl (.free rfl) rfl (q_box (u := s_1) rfl ok27 rfl ha3 hw4) ?_
  refine ro_val (d := (some 4)) rfl (.free rfl) rfl (q_assign (v := tSlc.enc ((⟨none, 0, 0⟩ : Slc))) rfl rfl) ?_
  refine ro_val (d := (some 5)) rfl (.free rfl) rfl (q_assign (v := .int .i64 ((0 : Int))) rfl rfl) ?_
  refine ro_nil ?_
  refine wp_seq ?_
  refine wp_seq ?_
  refine wp_text [0, 1, 2, 3] rfl ?_
  obtain ⟨x5, hx5, h⟩ := h
  refine ro_val (d := (some 12)) rfl (.free rfl) rfl (q_load (T := T26) (u := x5) (a := a3) rfl ok27 rfl hx5) ?_
  refine ro_val (d := (some 13)) rfl (.free rfl) rfl (q_move (v := .int .i64 (at_2)) rfl rfl) ?_
  refine ro_wp rfl (.free rfl) (wp_cl (d := (some 14)) rfl (q_call (k := 37) (l := [T26.enc (x5), .int .i64 (at_2)]) rfl ent37 rfl) h ?_)
  intro r7 w6 h
  refine ro_val (d := (some 6)) rfl (.free rfl) rfl (q_assign (v := .int .i64 (r7)) rfl rfl) ?_
  refine ro_nil ?_
  refine wp_seq ?_
  refine wp_text [0, 1] rfl ?_
  refine ro_val (d := (some 15)) rfl (.free rfl) rfl (q_move (v := .int .i64 (r7)) rfl rfl) ?_
  refine ro_val (d := (some 16)) rfl (.free rfl) rfl (q_neq (a := r7) (b := (0 : Int)) rfl rfl rfl) ?_
  refine ro_nil ?_
  refine wp_if (b := (r7 != (0 : Int))) rfl h (fun hb48 h => ?_) (fun hb48 h => ?_)
  · refine wp_seq ?_
    refine wp_text [0, 1, 2] rfl ?_
    refine ro_val (d := (some 17)) rfl (.free rfl) rfl (q_move (v := .int .i64 (r7)) rfl rfl) ?_
    refine ro_val (d := (some 4)) rfl (.free rfl) rfl (q_assign (v := tSlc.enc ((⟨none, 0, 0⟩ : Slc))) rfl rfl) ?_
    refine ro_val (d := (some 5)) rfl (.free rfl) rfl (q_assign (v := .int .i64 (r7)) rfl rfl) ?_
    refine ro_nil ?_
    refine wp_ret ?_
    exact ret_ok rfl (.cons (.tmp (v := tSlc.enc ((⟨none, 0, 0⟩ : Slc))) rfl) (.cons (.tmp (v := .int .i64 (r7)) rfl) .nil)) ⟨((⟨none, 0, 0⟩ : Slc), r7), rfl, h⟩
  · refine wp_skip ?_
    refine wp_seq ?_
    refine wp_text [0, 1] rfl ?_
    obtain ⟨a8, w9, ha8, hw9, h⟩ := nwS_open h
    refine ro_val (d := (some 18)) rfl (.free rfl) rfl (q_row0 (T := T57) rfl Try.underlying31 ok58 inf58 ha8 hw9) ?_
    refine ro_val (d := (some 7)) rfl (.free rfl) rfl (q_assign (v := tSlc.enc ((⟨some a8, 0, 0⟩ : Slc))) rfl rfl) ?_
    refine ro_nil ?_
    refine wp_seq ?_
    refine wp_text [0, 1, 2] rfl ?_
    obtain ⟨x10, hx10, h⟩ := h
    refine ro_val (d := (some 19)) rfl (.free rfl) rfl (q_load (T := T26) (u := x10) (a := a3) rfl ok27 rfl hx10) ?_
    refine ro_wp rfl (.free rfl) (wp_cl (d := (some 20)) rfl (q_call (k := 38) (l := [T26.enc (x10)]) rfl ent38 rfl) h ?_)
    intro r12 w11 h
    refine ro_val (d := (some 8)) rfl (.free rfl) rfl (q_assign (v := tSlc.enc (r12)) rfl rfl) ?_
    refine ro_nil ?_
    refine wp_seq ?_
    refine wp_seq ?_
    refine wp_text [0] rfl ?_
    refine ro_val (d := (some 9)) rfl (.free rfl) rfl (q_assign (v := .int .i64 ((0 : Int))) rfl rfl) ?_
    refine ro_nil ?_
    refine wp_block ?_
    refine loop_at (σ := Slc × Int) (fr := fun g (s : Slc × Int) => upd (upd (upd (upd (upd (g) 1 (.int .i64 (at_2))) 2 (.pointer (some a3))) 8 (tSlc.enc (r12))) 7 (tSlc.enc (s.1))) 9 (.int .i64 (s.2))) (s0 := ((⟨some a8, 0, 0⟩ : Slc), (0 : Int))) (upd_step (upd_step (upd_step (upd_step (upd_step rfl rfl) rfl) rfl) rfl) rfl) h ?_
    rintro ⟨l_13, i_14⟩ g w15 K16 h
    unfold F19_l1 at h
    refine wp_seq ?_
    refine wp_seq ?_
    refine wp_text [0, 1, 2, 3] rfl ?_
    refine ro_val (d := (some 21)) rfl (.free rfl) rfl (q_move (v := .int .i64 (i_14)) rfl rfl) ?_
    refine ro_val (d := (some 22)) rfl (.free rfl) rfl (q_move (v := tSlc.enc (r12)) rfl rfl) ?_
    refine ro_val (d := (some 23)) rfl (.free rfl) rfl (q_len (s := r12) rfl Try.underlying79 rfl) ?_
    refine ro_val (d := (some 24)) rfl (.free rfl) rfl (q_lss (a := i_14) (b := (r12.len : Int)) rfl rfl rfl) ?_
    refine ro_nil ?_
    refine wp_if (b := (decide (i_14 < (r12.len : Int)))) rfl h (fun hb47 h => ?_) (fun hb47 h => ?_)
    · refine wp_skip ?_
      refine seq_join (σ := Slc) (J := fun (s : Slc) w => F19_j2 i_14 s w K16 R) (fr := fun g (s : Slc) => upd (upd (upd (upd (upd (g) 1 (.int .i64 (at_2))) 2 (.pointer (some a3))) 8 (tSlc.enc (r12))) 9 (.int .i64 (i_14))) 7 (tSlc.enc (s))) ?_ ?_
      · rintro l_17 g w18 h
        unfold F19_j2 at h
        refine wp_text [0, 1, 2] rfl ?_
        refine ro_val (d := (some 25)) rfl (.free rfl) rfl (q_move (v := .int .i64 (i_14)) rfl rfl) ?_
        refine ro_val (d := (some 26)) rfl (.free rfl) rfl (q_add (a := i_14) (b := (1 : Int)) rfl rfl rfl) ?_
        refine ro_val (d := (some 9)) rfl (.free rfl) rfl (q_assign (v := .int .i64 ((IntKind.i64.wrap (i_14 + (1 : Int))))) rfl rfl) ?_
        refine ro_nil ?_
        exact ⟨(l_17, (IntKind.i64.wrap (i_14 + (1 : Int)))), _, arr (upd_step (upd_step (upd_step (upd_step (upd_step rfl rfl) rfl) rfl) rfl) rfl), h⟩
      · refine wp_block ?_
        refine seq_join (σ := Addr × Bool) (J := fun (s : Addr × Bool) w => F19_j3 r12 l_13 i_14 s.1 s.2 w K16 R) (fr := fun g (s : Addr × Bool) => upd (upd (upd (upd (upd (upd (upd (g) 1 (.int .i64 (at_2))) 2 (.pointer (some a3))) 7 (tSlc.enc (l_13))) 8 (tSlc.enc (r12))) 9 (.int .i64 (i_14))) 10 (.pointer (some s.1))) 11 (.bool (s.2))) ?_ ?_
        · rintro ⟨v_19, ok_20⟩ g w21 h
          unfold F19_j3 at h
          refine wp_seq ?_
          refine wp_text [0] rfl ?_
          refine ro_val (d := (some 37)) rfl (.free rfl) rfl (q_move (v := .bool (ok_20)) rfl rfl) ?_
          refine ro_nil ?_
          refine wp_if (b := ok_20) rfl h (fun hb32 h => ?_) (fun hb32 h => ?_)
          · obtain ⟨w22, hw22, h⟩ := dr_open h
            refine wp_drawn 11 mixed rfl (by kernel_rfl) (by intro c a d v w h; cases d <;> exact h) hw22 (fun hD => ?_)
            refine rd_pure (i := 0) (d := (some 38)) hD (by kernel_rfl) (by kernel_rfl) rfl (.free rfl) rfl (fun _ => q_move (v := tSlc.enc (l_13)) rfl rfl) ?_
            refine rd_pure (i := 1) (d := (some 39)) hD (by kernel_rfl) (by kernel_rfl) rfl (.free rfl) rfl (fun _ => q_move (v := tSlc.enc (r12)) rfl rfl) ?_
            refine rd_pure (i := 2) (d := (some 40)) hD (by kernel_rfl) (by kernel_rfl) rfl (.free rfl) rfl (fun _ => q_move (v := .int .i64 (i_14)) rfl rfl) ?_
            obtain ⟨a23, ha23, h⟩ := h
            refine rd_pure (i := 3) (d := (some 41)) hD (by kernel_rfl) (by kernel_rfl) rfl (.free rfl) rfl (fun _ => q_indexAddr (s := r12) (i := i_14) rfl Try.underlying79 ok3 rfl rfl ha23) ?_
            refine rd_pure (i := 5) (d := (some 43)) hD (by kernel_rfl) (by kernel_rfl) rfl (.free rfl) rfl (fun _ => q_fieldAddr (a := v_19) (off := 1) rfl Try.underlying36 rfl rfl ok2 (by decide) rfl) ?_
            obtain ⟨x24, hx24, h⟩ := h
            refine rd_read (i := 4) (d := (some 42)) (fun W => (RdAt (tInt .i64) a23 W) x24) hD (by kernel_rfl) (by kernel_rfl) rfl (.free rfl) rfl (fun W hr => q_load (T := (tInt .i64)) (u := x24) (a := a23) rfl ok3 rfl hr) hx24 ?_
            obtain ⟨x25, hx25, h⟩ := h
            refine rd_read (i := 6) (d := (some 44)) (fun W => (RdAt (tInt .i64) (v_19.add 1) W) x25) hD (by kernel_rfl) (by kernel_rfl) rfl (.free rfl) rfl (fun W hr => q_load (T := (tInt .i64)) (u := x25) (a := (v_19.add 1)) rfl ok2 rfl hr) hx25 ?_
            refine rd_pure (i := 7) (d := (some 45)) hD (by kernel_rfl) (by kernel_rfl) rfl (.free rfl) rfl (fun _ => q_build58_0_1 (v0 := x24) (v1 := x25) rfl rfl rfl) ?_
            refine rd_one (i := 8) (by kernel_rfl) ?_
            obtain ⟨a26, w27, ha26, hw27, h⟩ := apl_open h
            refine po_val (d := (some 46)) rfl (.free rfl) rfl (q_rowOf (T := T57) (xs := [(⟨x24, x25⟩ : S57)]) rfl Try.underlying31 ok58 inf58 rfl (by decide) (by decide) rfl ha26 hw27) ⟨(hk_keep (fun h => keep_RdAt hw27 h) (hk_keep (fun h => keep_RdAt hw27 h) hk_nil)), ?_⟩
            refine rd_one (i := 9) (by kernel_rfl) ?_
            refine po_wp rfl (.free rfl) (wp_append (d := (some 47)) (T := T57) rfl rfl Try.underlying31 ⟨_, Try.underlying31⟩ ok58 inf58 rfl rfl (Nat.lt_of_lt_of_le Nat.zero_lt_one (Nat.le_of_ble_eq_true rfl)) rfl rfl h ?_)
            intro r29 w28 h
            obtain ⟨hk30, h⟩ := h
            obtain ⟨hk31, h⟩ := h
            refine ⟨(hk_keep (fun _ => hk31) (hk_keep (fun _ => hk30) hk_nil)), ?_⟩
            refine rd_pure (i := 10) (d := (some 7)) hD (by kernel_rfl) (by kernel_rfl) rfl (.free rfl) rfl (fun _ => q_assign (v := tSlc.enc (r29)) rfl rfl) ?_
            refine rd_nil (by kernel_rfl) ?_
            exact ⟨(r29), _, arr (upd_step (upd_step (upd_step (upd_step (upd_step rfl rfl) rfl) rfl) rfl) rfl), h⟩
          · refine wp_skip ?_
            exact ⟨(l_13), _, arr (upd_step (upd_step (upd_step (upd_step (upd_step rfl rfl) rfl) rfl) rfl) rfl), h⟩
        · obtain ⟨w33, hw33, h⟩ := dr_open h
          refine wp_drawn 13 mixed rfl (by kernel_rfl) (by intro c a d v w h; cases d <;> exact h) hw33 (fun hD => ?_)
          refine rd_pure (i := 1) (d := (some 29)) hD (by kernel_rfl) (by kernel_rfl) rfl (.free rfl) rfl (fun _ => q_move (v := tSlc.enc (r12)) rfl rfl) ?_
          refine rd_pure (i := 2) (d := (some 30)) hD (by kernel_rfl) (by kernel_rfl) rfl (.free rfl) rfl (fun _ => q_move (v := .int .i64 (i_14)) rfl rfl) ?_
          obtain ⟨a34, ha34, h⟩ := h
          refine rd_pure (i := 3) (d := (some 31)) hD (by kernel_rfl) (by kernel_rfl) rfl (.free rfl) rfl (fun _ => q_indexAddr (s := r12) (i := i_14) rfl Try.underlying79 ok3 rfl rfl ha34) ?_
          refine rd_pure (i := 5) (d := (some 33)) hD (by kernel_rfl) (by kernel_rfl) rfl (.free rfl) rfl (fun _ => q_move (v := .int .i64 (at_2)) rfl rfl) ?_
          obtain ⟨x35, hx35, h⟩ := h
          refine rd_read (i := 0) (d := (some 28)) (fun W => (RdAt T26 a3 W) x35) hD (by kernel_rfl) (by kernel_rfl) rfl (.free rfl) rfl (fun W hr => q_load (T := T26) (u := x35) (a := a3) rfl ok27 rfl hr) hx35 ?_
          obtain ⟨x36, hx36, h⟩ := h
          refine rd_read (i := 4) (d := (some 32)) (fun W => (RdAt (tInt .i64) a34 W) x36) hD (by kernel_rfl) (by kernel_rfl) rfl (.free rfl) rfl (fun W hr => q_load (T := (tInt .i64)) (u := x36) (a := a34) rfl ok3 rfl hr) hx36 ?_
          obtain ⟨h, h'⟩ := h
          refine rd_two (i := 6) (j := 10) (by kernel_rfl) ?_ ?_
          · clear h'
            refine po_wp rfl (.free rfl) (wp_cl (d := (some 34)) rfl (q_call (k := 39) (l := [T26.enc (x35), .int .i64 (x36), .int .i64 (at_2)]) rfl ent39 rfl) h ?_)
            intro r38 w37 h
            refine ⟨(hk_wait (by kernel_rfl) (hk_wait (by kernel_rfl) hk_nil)), ?_⟩
            refine rd_pure (i := 7) (d := (some 27)) hD (by kernel_rfl) (by kernel_rfl) rfl (.free rfl) rfl (fun _ => q_move (v := (tTup2 T35 tBool).enc (r38)) rfl rfl) ?_
            refine rd_pure (i := 8) (d := (some 35)) hD (by kernel_rfl) (by kernel_rfl) rfl (.free rfl) rfl (fun _ => q_extract (vs := #[T35.enc (r38.1), .bool (r38.2)]) (v := T35.enc (r38.1)) rfl rfl rfl) ?_
            refine rd_pure (i := 9) (d := (some 36)) hD (by kernel_rfl) (by kernel_rfl) rfl (.free rfl) rfl (fun _ => q_extract (vs := #[T35.enc (r38.1), .bool (r38.2)]) (v := .bool (r38.2)) rfl rfl rfl) ?_
            refine rd_one (i := 10) (by kernel_rfl) ?_
            obtain ⟨a39, w40, ha39, hw40, h⟩ := nw_open h
            refine po_val (d := (some 10)) rfl (.free rfl) rfl (q_alloc (u := Z35) rfl ok36 inf36 ha39 hw40) ⟨(hk_keep (fun h => keep_RdAt hw40 h) (hk_keep (fun h => keep_RdAt hw40 h) hk_nil)), ?_⟩
            refine rd_one (i := 11) (by kernel_rfl) ?_
            obtain ⟨w41, hw41, hrw41, h⟩ := st_open h
            refine po_skip (d := none) rfl (.free rfl) rfl (q_store (T := T35) (u := r38.1) (a := a39) rfl ok36 rfl rfl hrw41 hw41) ⟨(hk_wait (by kernel_rfl) (hk_wait (by kernel_rfl) hk_nil)), ?_⟩
            refine rd_pure (i := 12) (d := (some 11)) hD (by kernel_rfl) (by kernel_rfl) rfl (.free rfl) rfl (fun _ => q_assign (v := .bool (r38.2)) rfl rfl) ?_
            refine rd_nil (by kernel_rfl) ?_
            exact ⟨(a39, r38.2), _, arr (upd_step (upd_step (upd_step (upd_step (upd_step (upd_step (upd_step rfl rfl) rfl) rfl) rfl) rfl) rfl) rfl), h⟩
          · replace h := h'; clear h'
            obtain ⟨a42, w43, ha42, hw43, h⟩ := nw_open h
            refine po_val (d := (some 10)) rfl (.free rfl) rfl (q_alloc (u := Z35) rfl ok36 inf36 ha42 hw43) ⟨(hk_keep (fun h => keep_RdAt hw43 h) (hk_keep (fun h => keep_RdAt hw43 h) hk_nil)), ?_⟩
            refine rd_one (i := 6) (by kernel_rfl) ?_
            refine po_wp rfl (.free rfl) (wp_cl (d := (some 34)) rfl (q_call (k := 39) (l := [T26.enc (x35), .int .i64 (x36), .int .i64 (at_2)]) rfl ent39 rfl) h ?_)
            intro r45 w44 h
            refine ⟨(hk_wait (by kernel_rfl) (hk_wait (by kernel_rfl) hk_nil)), ?_⟩
            refine rd_pure (i := 7) (d := (some 27)) hD (by kernel_rfl) (by kernel_rfl) rfl (.free rfl) rfl (fun _ => q_move (v := (tTup2 T35 tBool).enc (r45)) rfl rfl) ?_
            refine rd_pure (i := 8) (d := (some 35)) hD (by kernel_rfl) (by kernel_rfl) rfl (.free rfl) rfl (fun _ => q_extract (vs := #[T35.enc (r45.1), .bool (r45.2)]) (v := T35.enc (r45.1)) rfl rfl rfl) ?_
            refine rd_pure (i := 9) (d := (some 36)) hD (by kernel_rfl) (by kernel_rfl) rfl (.free rfl) rfl (fun _ => q_extract (vs := #[T35.enc (r45.1), .bool (r45.2)]) (v := .bool (r45.2)) rfl rfl rfl) ?_
            refine rd_one (i := 11) (by kernel_rfl) ?_
            obtain ⟨w46, hw46, hrw46, h⟩ := st_open h
            refine po_skip (d := none) rfl (.free rfl) rfl (q_store (T := T35) (u := r45.1) (a := a42) rfl ok36 rfl rfl hrw46 hw46) ⟨(hk_wait (by kernel_rfl) (hk_wait (by kernel_rfl) hk_nil)), ?_⟩
            refine rd_pure (i := 12) (d := (some 11)) hD (by kernel_rfl) (by kernel_rfl) rfl (.free rfl) rfl (fun _ => q_assign (v := .bool (r45.2)) rfl rfl) ?_
            refine rd_nil (by kernel_rfl) ?_
            exact ⟨(a42, r45.2), _, arr (upd_step (upd_step (upd_step (upd_step (upd_step (upd_step (upd_step rfl rfl) rfl) rfl) rfl) rfl) rfl) rfl), h⟩
    · refine wp_exit ?_
      refine wp_seq ?_
      refine wp_text [0, 1, 2] rfl ?_
      refine ro_val (d := (some 48)) rfl (.free rfl) rfl (q_move (v := tSlc.enc (l_13)) rfl rfl) ?_
      refine ro_val (d := (some 4)) rfl (.free rfl) rfl (q_assign (v := tSlc.enc (l_13)) rfl rfl) ?_
      refine ro_val (d := (some 5)) rfl (.free rfl) rfl (q_assign (v := .int .i64 ((0 : Int))) rfl rfl) ?_
      refine ro_nil ?_
      refine wp_ret ?_
      exact ret_ok rfl (.cons (.tmp (v := tSlc.enc (l_13)) rfl) (.cons (.tmp (v := .int .i64 ((0 : Int))) rfl) .nil)) ⟨(l_13, (0 : Int)), rfl, h⟩

-- moiety/moietyref12.Same
def F20_l1 (a_1 : Slc) (b_2 : Slc) (i_3 : Int) (w4 : World) (K5 : Int → World → Prop) (R : Bool → World → Prop) : Prop :=
  if (decide (i_3 < (a_1.len : Int))) = true then (
    dr w4 fun w6 =>
    ex (IxA a_1 2 i_3) fun a7 =>
    ex (IxA b_2 2 i_3) fun a8 =>
    ex (RdAt (tInt .i64) (a7.add 0) w6) fun x9 =>
    ex (RdAt (tInt .i64) (a8.add 0) w6) fun x10 =>
    ex (fun x => (!(x9 != x10)) = true → (IxA a_1 2 i_3) x) fun a11 =>
    ex (fun x => (!(x9 != x10)) = true → (IxA b_2 2 i_3) x) fun a12 =>
    ex (fun x => (!(x9 != x10)) = true → (RdAt (tInt .i64) (a11.add 1) w6) x) fun x13 =>
    ex (fun x => (!(x9 != x10)) = true → (RdAt (tInt .i64) (a12.add 1) w6) x) fun x14 =>
    if ((x9 != x10) || (x13 != x14)) = true then (
      R false w6
    ) else (
      K5 ((IntKind.i64.wrap (i_3 + (1 : Int)))) w6
    )
  ) else (
    R true w4
  )
def F20 (a_1 : Slc) (b_2 : Slc) (w : World) (R : Bool → World → Prop) : Prop :=
  if ((a_1.len : Int) != (b_2.len : Int)) = true then (
    R false w
  ) else (
    lp (fun (s : Int) w K => F20_l1 a_1 b_2 s w K R) ((0 : Int)) w
  )
theorem F20_ok {a_1 : Slc} {b_2 : Slc} {w : World} {R : Bool → World → Prop} (h : F20 a_1 b_2 w R) : cl Try.prog 20 [tSlc.enc (a_1), tSlc.enc (b_2)] tBool w R := by
  unfold F20 at h
  refine calls_start 41 Try.func20 rfl rfl (Nat.le_of_ble_eq_true rfl) ?_
  refine wp_seq ?_
  refine wp_text [0] rfl ?_
  refine ro_val (d := (some 4)) rfl (.free rfl) rfl (q_assign (v := .bool (false)) rfl rfl) ?_
  refine ro_nil ?_
  refine wp_seq ?_
  refine wp_seq ?_
  refine wp_text [0, 1, 2, 3, 4] rfl ?_
  refine ro_val (d := (some 6)) rfl (.free rfl) rfl (q_move (v := tSlc.enc (a_1)) rfl rfl) ?_
  refine ro_val (d := (some 7)) rfl (.free rfl) rfl (q_len (s := a_1) rfl Try.underlying31 rfl) ?_
  refine ro_val (d := (some 8)) rfl (.free rfl) rfl (q_move (v := tSlc.enc (b_2)) rfl rfl) ?_
  refine ro_val (d := (some 9)) rfl (.free rfl) rfl (q_len (s := b_2) rfl Try.underlying31 rfl) ?_
  refine ro_val (d := (some 10)) rfl (.free rfl) rfl (q_neq (a := (a_1.len : Int)) (b := (b_2.len : Int)) rfl rfl rfl) ?_
  refine ro_nil ?_
  refine wp_if (b := ((a_1.len : Int) != (b_2.len : Int))) rfl h (fun hb17 h => ?_) (fun hb17 h => ?_)
  · refine wp_seq ?_
    refine wp_text [0] rfl ?_
    refine ro_val (d := (some 4)) rfl (.free rfl) rfl (q_assign (v := .bool (false)) rfl rfl) ?_
    refine ro_nil ?_
    refine wp_ret ?_
    exact ret_ok rfl (.cons (.tmp (v := .bool (false)) rfl) .nil) ⟨false, rfl, h⟩
  · refine wp_skip ?_
    refine wp_seq ?_
    refine wp_seq ?_
    refine wp_text [0] rfl ?_
    refine ro_val (d := (some 5)) rfl (.free rfl) rfl (q_assign (v := .int .i64 ((0 : Int))) rfl rfl) ?_
    refine ro_nil ?_
    refine wp_block ?_
    refine loop_at (σ := Int) (fr := fun g (s : Int) => upd (upd (upd (g) 0 (tSlc.enc (a_1))) 1 (tSlc.enc (b_2))) 5 (.int .i64 (s))) (s0 := ((0 : Int))) (upd_step (upd_step (upd_step rfl rfl) rfl) rfl) h ?_
    rintro i_3 g w4 K5 h
    unfold F20_l1 at h
    refine wp_seq ?_
    refine wp_seq ?_
    refine wp_text [0, 1, 2, 3] rfl ?_
    refine ro_val (d := (some 11)) rfl (.free rfl) rfl (q_move (v := .int .i64 (i_3)) rfl rfl) ?_
    refine ro_val (d := (some 12)) rfl (.free rfl) rfl (q_move (v := tSlc.enc (a_1)) rfl rfl) ?_
    refine ro_val (d := (some 13)) rfl (.free rfl) rfl (q_len (s := a_1) rfl Try.underlying31 rfl) ?_
    refine ro_val (d := (some 14)) rfl (.free rfl) rfl (q_lss (a := i_3) (b := (a_1.len : Int)) rfl rfl rfl) ?_
    refine ro_nil ?_
    refine wp_if (b := (decide (i_3 < (a_1.len : Int)))) rfl h (fun hb16 h => ?_) (fun hb16 h => ?_)
    · refine wp_skip ?_
      refine wp_seq ?_
      refine wp_block ?_
      refine wp_seq ?_
      obtain ⟨w6, hw6, h⟩ := dr_open h
      refine wp_drawn 24 mixed rfl (by kernel_rfl) (by intro c a d v w h; cases d <;> exact h) hw6 (fun hD => ?_)
      refine rd_pure (i := 0) (d := (some 17)) hD (by kernel_rfl) (by kernel_rfl) rfl (.free rfl) rfl (fun _ => q_move (v := tSlc.enc (a_1)) rfl rfl) ?_
      refine rd_pure (i := 1) (d := (some 18)) hD (by kernel_rfl) (by kernel_rfl) rfl (.free rfl) rfl (fun _ => q_move (v := .int .i64 (i_3)) rfl rfl) ?_
      obtain ⟨a7, ha7, h⟩ := h
      refine rd_pure (i := 2) (d := (some 19)) hD (by kernel_rfl) (by kernel_rfl) rfl (.free rfl) rfl (fun _ => q_indexAddr (s := a_1) (i := i_3) rfl Try.underlying31 ok58 rfl rfl ha7) ?_
      refine rd_pure (i := 3) (d := (some 20)) hD (by kernel_rfl) (by kernel_rfl) rfl (.free rfl) rfl (fun _ => q_fieldAddr (a := a7) (off := 0) rfl Try.underlying58 rfl rfl ok3 (by decide) rfl) ?_
      refine rd_pure (i := 5) (d := (some 22)) hD (by kernel_rfl) (by kernel_rfl) rfl (.free rfl) rfl (fun _ => q_move (v := tSlc.enc (b_2)) rfl rfl) ?_
      refine rd_pure (i := 6) (d := (some 23)) hD (by kernel_rfl) (by kernel_rfl) rfl (.free rfl) rfl (fun _ => q_move (v := .int .i64 (i_3)) rfl rfl) ?_
      obtain ⟨a8, ha8, h⟩ := h
      refine rd_pure (i := 7) (d := (some 24)) hD (by kernel_rfl) (by kernel_rfl) rfl (.free rfl) rfl (fun _ => q_indexAddr (s := b_2) (i := i_3) rfl Try.underlying31 ok58 rfl rfl ha8) ?_
      refine rd_pure (i := 8) (d := (some 25)) hD (by kernel_rfl) (by kernel_rfl) rfl (.free rfl) rfl (fun _ => q_fieldAddr (a := a8) (off := 0) rfl Try.underlying58 rfl rfl ok3 (by decide) rfl) ?_
      obtain ⟨x9, hx9, h⟩ := h
      refine rd_read (i := 4) (d := (some 21)) (fun W => (RdAt (tInt .i64) (a7.add 0) W) x9) hD (by kernel_rfl) (by kernel_rfl) rfl (.free rfl) rfl (fun W hr => q_load (T := (tInt .i64)) (u := x9) (a := (a7.add 0)) rfl ok3 rfl hr) hx9 ?_
      obtain ⟨x10, hx10, h⟩ := h
      refine rd_read (i := 9) (d := (some 26)) (fun W => (RdAt (tInt .i64) (a8.add 0) W) x10) hD (by kernel_rfl) (by kernel_rfl) rfl (.free rfl) rfl (fun W hr => q_load (T := (tInt .i64)) (u := x10) (a := (a8.add 0)) rfl ok3 rfl hr) hx10 ?_
      refine rd_pure (i := 10) (d := (some 27)) hD (by kernel_rfl) (by kernel_rfl) rfl (.free rfl) rfl (fun _ => q_neq (a := x9) (b := x10) rfl rfl rfl) ?_
      refine rd_pure (i := 11) (d := (some 28)) hD (by kernel_rfl) (by kernel_rfl) rfl (.free rfl) rfl (fun _ => q_move (v := .bool ((x9 != x10))) rfl rfl) ?_
      refine rd_gpure (i := 12) (g := (!(x9 != x10))) (d := (some 29)) hD (by kernel_rfl) (by kernel_rfl) rfl (.no 11 28 true (x9 != x10) rfl rfl rfl rfl) rfl (fun hg _ => q_move (v := tSlc.enc (a_1)) rfl rfl) ?_
      refine rd_gpure (i := 13) (g := (!(x9 != x10))) (d := (some 30)) hD (by kernel_rfl) (by kernel_rfl) rfl (.no 11 28 true (x9 != x10) rfl rfl rfl rfl) rfl (fun hg _ => q_move (v := .int .i64 (i_3)) rfl rfl) ?_
      obtain ⟨a11, ha11, h⟩ := h
      refine rd_gpure (i := 14) (g := (!(x9 != x10))) (d := (some 31)) hD (by kernel_rfl) (by kernel_rfl) rfl (.no 11 28 true (x9 != x10) rfl rfl rfl rfl) rfl (fun hg _ => q_indexAddr (s := a_1) (i := i_3) rfl Try.underlying31 ok58 (gvb_yes hg) (gvb_yes hg) (ha11 hg)) ?_
      refine rd_gpure (i := 15) (g := (!(x9 != x10))) (d := (some 32)) hD (by kernel_rfl) (by kernel_rfl) rfl (.no 11 28 true (x9 != x10) rfl rfl rfl rfl) rfl (fun hg _ => q_fieldAddr (a := a11) (off := 1) rfl Try.underlying58 rfl rfl ok2 (by decide) (gvb_yes hg)) ?_
      refine rd_gpure (i := 17) (g := (!(x9 != x10))) (d := (some 34)) hD (by kernel_rfl) (by kernel_rfl) rfl (.no 11 28 true (x9 != x10) rfl rfl rfl rfl) rfl (fun hg _ => q_move (v := tSlc.enc (b_2)) rfl rfl) ?_
      refine rd_gpure (i := 18) (g := (!(x9 != x10))) (d := (some 35)) hD (by kernel_rfl) (by kernel_rfl) rfl (.no 11 28 true (x9 != x10) rfl rfl rfl rfl) rfl (fun hg _ => q_move (v := .int .i64 (i_3)) rfl rfl) ?_
      obtain ⟨a12, ha12, h⟩ := h
      refine rd_gpure (i := 19) (g := (!(x9 != x10))) (d := (some 36)) hD (by kernel_rfl) (by kernel_rfl) rfl (.no 11 28 true (x9 != x10) rfl rfl rfl rfl) rfl (fun hg _ => q_indexAddr (s := b_2) (i := i_3) rfl Try.underlying31 ok58 (gvb_yes hg) (gvb_yes hg) (ha12 hg)) ?_
      refine rd_gpure (i := 20) (g := (!(x9 != x10))) (d := (some 37)) hD (by kernel_rfl) (by kernel_rfl) rfl (.no 11 28 true (x9 != x10) rfl rfl rfl rfl) rfl (fun hg _ => q_fieldAddr (a := a12) (off := 1) rfl Try.underlying58 rfl rfl ok2 (by decide) (gvb_yes hg)) ?_
      obtain ⟨x13, hx13, h⟩ := h
      refine rd_gread (i := 16) (g := (!(x9 != x10))) (d := (some 33)) (fun W => (RdAt (tInt .i64) (a11.add 1) W) x13) hD (by kernel_rfl) (by kernel_rfl) rfl (.no 11 28 true (x9 != x10) rfl rfl rfl rfl) rfl (fun hg W hr => q_load (T := (tInt .i64)) (u := x13) (a := (a11.add 1)) rfl ok2 (gvb_yes hg) hr) hx13 ?_
      obtain ⟨x14, hx14, h⟩ := h
      refine rd_gread (i := 21) (g := (!(x9 != x10))) (d := (some 38)) (fun W => (RdAt (tInt .i64) (a12.add 1) W) x14) hD (by kernel_rfl) (by kernel_rfl) rfl (.no 11 28 true (x9 != x10) rfl rfl rfl rfl) rfl (fun hg W hr => q_load (T := (tInt .i64)) (u := x14) (a := (a12.add 1)) rfl ok2 (gvb_yes hg) hr) hx14 ?_
      refine rd_gpure (i := 22) (g := (!(x9 != x10))) (d := (some 39)) hD (by kernel_rfl) (by kernel_rfl) rfl (.no 11 28 true (x9 != x10) rfl rfl rfl rfl) rfl (fun hg _ => q_neq (a := x13) (b := x14) rfl (gvb_yes hg) (gvb_yes hg)) ?_
      refine rd_pure (i := 23) (d := (some 40)) hD (by kernel_rfl) (by kernel_rfl) rfl (.free rfl) rfl (fun _ => q_pickGF (a := (x9 != x10)) (c := (x13 != x14)) rfl rfl rfl rfl) ?_
      refine rd_nil (by kernel_rfl) ?_
      refine wp_if (b := ((x9 != x10) || (x13 != x14))) rfl h (fun hb15 h => ?_) (fun hb15 h => ?_)
      · refine wp_seq ?_
        refine wp_text [0] rfl ?_
        refine ro_val (d := (some 4)) rfl (.free rfl) rfl (q_assign (v := .bool (false)) rfl rfl) ?_
        refine ro_nil ?_
        refine wp_ret ?_
        exact ret_ok rfl (.cons (.tmp (v := .bool (false)) rfl) .nil) ⟨false, rfl, h⟩
      · refine wp_skip ?_
        refine wp_text [0, 1, 2] rfl ?_
        refine ro_val (d := (some 15)) rfl (.free rfl) rfl (q_move (v := .int .i64 (i_3)) rfl rfl) ?_
        refine ro_val (d := (some 16)) rfl (.free rfl) rfl (q_add (a := i_3) (b := (1 : Int)) rfl rfl rfl) ?_
        refine ro_val (d := (some 5)) rfl (.free rfl) rfl (q_assign (v := .int .i64 ((IntKind.i64.wrap (i_3 + (1 : Int))))) rfl rfl) ?_
        refine ro_nil ?_
        exact ⟨((IntKind.i64.wrap (i_3 + (1 : Int)))), _, arr (upd_step (upd_step (upd_step rfl rfl) rfl) rfl), h⟩
    · refine wp_exit ?_
      refine wp_seq ?_
      refine wp_text [0] rfl ?_
      refine ro_val (d := (some 4)) rfl (.free rfl) rfl (q_assign (v := .bool (true)) rfl rfl) ?_
      refine ro_nil ?_
      refine wp_ret ?_
      exact ret_ok rfl (.cons (.tmp (v := .bool (true)) rfl) .nil) ⟨true, rfl, h⟩

-- moiety/moietylaw12.made
def F21_l1 (l_1 : Slc) (r3 : (Option Addr)) (i_4 : Int) (w5 : World) (K6 : Int → World → Prop) (R : (Option Addr) → World → Prop) : Prop :=
  if (((decide (i_4 < (l_1.len : Int))) && (decide (i_4 < (30 : Int)))) && (!r3.isNone)) = true then (
    ex (IxA l_1 4 i_4) fun a7 =>
    ex (RdAt T32 a7 w5) fun x8 =>
    cl Try.prog 22 [.pointer (r3), T32.enc (x8)] tUnit w5 fun r10 w9 =>
    K6 ((IntKind.i64.wrap (i_4 + (1 : Int)))) w9
  ) else (
    R r3 w5
  )
def F21 (l_1 : Slc) (w : World) (R : (Option Addr) → World → Prop) : Prop :=
  cl Try.prog 9 [] tPtr w fun r3 w2 =>
  lp (fun (s : Int) w K => F21_l1 l_1 r3 s w K R) ((0 : Int)) w2
theorem F21_ok {l_1 : Slc} {w : World} {R : (Option Addr) → World → Prop} (h : F21 l_1 w R) : cl Try.prog 21 [tSlc.enc (l_1)] tPtr w R := by
  unfold F21 at h
  refine calls_start 27 Try.func21 rfl rfl (Nat.le_of_ble_eq_true rfl) ?_
  refine wp_seq ?_
  refine wp_text [0] rfl ?_
  refine ro_val (d := (some 2)) rfl (.free rfl) rfl (q_assign (v := .pointer ((none : Option Addr))) rfl rfl) ?_
  refine ro_nil ?_
  refine wp_seq ?_
  refine wp_text [0, 1] rfl ?_
  refine ro_wp rfl (.free rfl) (wp_cl (d := (some 5)) rfl (q_call (k := 9) (l := []) rfl ent9 rfl) h ?_)
  intro r3 w2 h
  refine ro_val (d := (some 3)) rfl (.free rfl) rfl (q_assign (v := .pointer (r3)) rfl rfl) ?_
  refine ro_nil ?_
  refine wp_seq ?_
  refine wp_seq ?_
  refine wp_text [0] rfl ?_
  refine ro_val (d := (some 4)) rfl (.free rfl) rfl (q_assign (v := .int .i64 ((0 : Int))) rfl rfl) ?_
  refine ro_nil ?_
  refine wp_block ?_
  refine loop_at (σ := Int) (fr := fun g (s : Int) => upd (upd (upd (g) 0 (tSlc.enc (l_1))) 3 (.pointer (r3))) 4 (.int .i64 (s))) (s0 := ((0 : Int))) (upd_step (upd_step (upd_step rfl rfl) rfl) rfl) h ?_
  rintro i_4 g w5 K6 h
  unfold F21_l1 at h
  refine wp_seq ?_
  refine wp_seq ?_
  refine wp_text [0, 1, 2, 3, 4, 5, 6, 7, 8, 9, 10, 11] rfl ?_
  refine ro_val (d := (some 6)) rfl (.free rfl) rfl (q_move (v := .int .i64 (i_4)) rfl rfl) ?_
  refine ro_val (d := (some 7)) rfl (.free rfl) rfl (q_move (v := tSlc.enc (l_1)) rfl rfl) ?_
  refine ro_val (d := (some 8)) rfl (.free rfl) rfl (q_len (s := l_1) rfl Try.underlying22 rfl) ?_
  refine ro_val (d := (some 9)) rfl (.free rfl) rfl (q_lss (a := i_4) (b := (l_1.len : Int)) rfl rfl rfl) ?_
  refine ro_val (d := (some 10)) rfl (.free rfl) rfl (q_move (v := .bool ((decide (i_4 < (l_1.len : Int))))) rfl rfl) ?_
  refine ro_gval (g := (decide (i_4 < (l_1.len : Int)))) (d := (some 11)) rfl (.yes 4 10 true (decide (i_4 < (l_1.len : Int))) rfl rfl rfl rfl) rfl (fun hg => q_move (v := .int .i64 (i_4)) rfl rfl) ?_
  refine ro_gval (g := (decide (i_4 < (l_1.len : Int)))) (d := (some 12)) rfl (.yes 4 10 true (decide (i_4 < (l_1.len : Int))) rfl rfl rfl rfl) rfl (fun hg => q_lss (a := i_4) (b := (30 : Int)) rfl (gvb_yes hg) rfl) ?_
  refine ro_val (d := (some 13)) rfl (.free rfl) rfl (q_pickGT (a := (decide (i_4 < (l_1.len : Int)))) (b := (decide (i_4 < (30 : Int)))) rfl rfl rfl rfl) ?_
  refine ro_val (d := (some 14)) rfl (.free rfl) rfl (q_move (v := .bool (((decide (i_4 < (l_1.len : Int))) && (decide (i_4 < (30 : Int)))))) rfl rfl) ?_
  refine ro_gval (g := ((decide (i_4 < (l_1.len : Int))) && (decide (i_4 < (30 : Int))))) (d := (some 15)) rfl (.yes 8 14 true ((decide (i_4 < (l_1.len : Int))) && (decide (i_4 < (30 : Int)))) rfl rfl rfl rfl) rfl (fun hg => q_move (v := .pointer (r3)) rfl rfl) ?_
  refine ro_gval (g := ((decide (i_4 < (l_1.len : Int))) && (decide (i_4 < (30 : Int))))) (d := (some 16)) rfl (.yes 8 14 true ((decide (i_4 < (l_1.len : Int))) && (decide (i_4 < (30 : Int)))) rfl rfl rfl rfl) rfl (fun hg => q_neP0 (a := r3) rfl Try.underlying23 (gvb_yes hg) rfl) ?_
  refine ro_val (d := (some 17)) rfl (.free rfl) rfl (q_pickGT (a := ((decide (i_4 < (l_1.len : Int))) && (decide (i_4 < (30 : Int))))) (b := (!r3.isNone)) rfl rfl rfl rfl) ?_
  refine ro_nil ?_
  refine wp_if (b := (((decide (i_4 < (l_1.len : Int))) && (decide (i_4 < (30 : Int)))) && (!r3.isNone))) rfl h (fun hb11 h => ?_) (fun hb11 h => ?_)
  · refine wp_skip ?_
    refine wp_seq ?_
    refine wp_block ?_
    refine wp_text [0, 1, 2, 3, 4, 5] rfl ?_
    refine ro_val (d := (some 20)) rfl (.free rfl) rfl (q_move (v := .pointer (r3)) rfl rfl) ?_
    refine ro_val (d := (some 21)) rfl (.free rfl) rfl (q_move (v := tSlc.enc (l_1)) rfl rfl) ?_
    refine ro_val (d := (some 22)) rfl (.free rfl) rfl (q_move (v := .int .i64 (i_4)) rfl rfl) ?_
    obtain ⟨a7, ha7, h⟩ := h
    refine ro_val (d := (some 23)) rfl (.free rfl) rfl (q_indexAddr (s := l_1) (i := i_4) rfl Try.underlying22 ok33 rfl rfl ha7) ?_
    obtain ⟨x8, hx8, h⟩ := h
    refine ro_val (d := (some 24)) rfl (.free rfl) rfl (q_load (T := T32) (u := x8) (a := a7) rfl ok33 rfl hx8) ?_
    refine ro_wp rfl (.free rfl) (wp_cl (d := (some 25)) rfl (q_call (k := 22) (l := [.pointer (r3), T32.enc (x8)]) rfl ent22 rfl) h ?_)
    intro r10 w9 h
    refine ro_nil ?_
    refine wp_text [0, 1, 2] rfl ?_
    refine ro_val (d := (some 18)) rfl (.free rfl) rfl (q_move (v := .int .i64 (i_4)) rfl rfl) ?_
    refine ro_val (d := (some 19)) rfl (.free rfl) rfl (q_add (a := i_4) (b := (1 : Int)) rfl rfl rfl) ?_
    refine ro_val (d := (some 4)) rfl (.free rfl) rfl (q_assign (v := .int .i64 ((IntKind.i64.wrap (i_4 + (1 : Int))))) rfl rfl) ?_
    refine ro_nil ?_
    exact ⟨((IntKind.i64.wrap (i_4 + (1 : Int)))), _, arr (upd_step (upd_step (upd_step rfl rfl) rfl) rfl), h⟩
  · refine wp_exit ?_
    refine wp_seq ?_
    refine wp_text [0, 1] rfl ?_
    refine ro_val (d := (some 26)) rfl (.free rfl) rfl (q_move (v := .pointer (r3)) rfl rfl) ?_
    refine ro_val (d := (some 2)) rfl (.free rfl) rfl (q_assign (v := .pointer (r3)) rfl rfl) ?_
    refine ro_nil ?_
    refine wp_ret ?_
    exact ret_ok rfl (.cons (.tmp (v := .pointer (r3)) rfl) .nil) ⟨r3, rfl, h⟩

-- moiety/moietylaw12.one
def F22 (s_1 : (Option Addr)) (o_2 : S32) (w : World) (R : Unit → World → Prop) : Prop :=
  nw 33 T32 o_2 w fun a3 w4 =>
  ex (RdAt (tInt .i64) (a3.add 0) w4) fun x5 =>
  if (x5 == (0 : Int)) = true then (
    dr w4 fun w6 =>
    ex (RdAt (tInt .i64) (a3.add 2) w6) fun x7 =>
    ex (RdAt T32 a3 w6) fun x8 =>
    cl Try.prog 12 [T32.enc (x8)] T32 w6 fun r10 w9 =>
    kp ((RdAt (tInt .i64) (a3.add 2) w9) x7) <|
    cl Try.prog 23 [.pointer (s_1), .int .i64 (x7), tSlc.enc (r10.L)] (tInt .i64) w9 fun r13 w12 =>
    kp ((RdAt T32 a3 w12) x8) <|
    R () w12
  ) else (
    if (x5 == (3 : Int)) = true then (
      ex (RdAt (tInt .i64) (a3.add 2) w4) fun x15 =>
      cl Try.prog 26 [.pointer (s_1), .int .i64 (x15)] (tInt .i64) w4 fun r17 w16 =>
      R () w16
    ) else (
      if (x5 == (4 : Int)) = true then (
        ex (RdAt (tInt .i64) (a3.add 2) w4) fun x18 =>
        cl Try.prog 24 [.pointer (s_1), .int .i64 (x18)] (tInt .i64) w4 fun r20 w19 =>
        R () w19
      ) else (
        R () w4
      )
    )
  )
theorem F22_ok {s_1 : (Option Addr)} {o_2 : S32} {w : World} {R : Unit → World → Prop} (h : F22 s_1 o_2 w R) : cl Try.prog 22 [.pointer (s_1), T32.enc (o_2)] tUnit w R := by
  unfold F22 at h
  refine calls_start 27 Try.func22 rfl rfl (Nat.le_of_ble_eq_true rfl) ?_
  refine wp_seq ?_
  refine wp_text [0] rfl ?_
  obtain ⟨a3, w4, ha3, hw4, h⟩ := nw_open h
  refine ro_val (d := (some 3)) rfl (.free rfl) rfl (q_box (u := o_2) rfl ok33 rfl ha3 hw4) ?_
  refine ro_nil ?_
  refine wp_seq ?_
  refine wp_text [0, 1] rfl ?_
  refine ro_val (d := (some 4)) rfl (.free rfl) rfl (q_fieldAddr (a := a3) (off := 0) rfl Try.underlying33 rfl rfl ok3 (by decide) rfl) ?_
  obtain ⟨x5, hx5, h⟩ := h
  refine ro_val (d := (some 5)) rfl (.free rfl) rfl (q_load (T := (tInt .i64)) (u := x5) (a := (a3.add 0)) rfl ok3 rfl hx5) ?_
  refine ro_nil ?_
  refine wp_block ?_
  refine wp_seq ?_
  refine wp_text [0, 1] rfl ?_
  refine ro_val (d := (some 7)) rfl (.free rfl) rfl (q_eql (a := x5) (b := (0 : Int)) rfl rfl rfl) ?_
  refine ro_val (d := (some 6)) rfl (.free rfl) rfl (q_assign (v := .bool ((x5 == (0 : Int)))) rfl rfl) ?_
  refine ro_nil ?_
  refine wp_if (b := (x5 == (0 : Int))) rfl h (fun hb23 h => ?_) (fun hb23 h => ?_)
  · obtain ⟨w6, hw6, h⟩ := dr_open h
    refine wp_drawn 7 mixed rfl (by kernel_rfl) (by intro c a d v w h; cases d <;> exact h) hw6 (fun hD => ?_)
    refine rd_pure (i := 0) (d := (some 8)) hD (by kernel_rfl) (by kernel_rfl) rfl (.free rfl) rfl (fun _ => q_move (v := .pointer (s_1)) rfl rfl) ?_
    refine rd_pure (i := 1) (d := (some 9)) hD (by kernel_rfl) (by kernel_rfl) rfl (.free rfl) rfl (fun _ => q_fieldAddr (a := a3) (off := 2) rfl Try.underlying33 rfl rfl ok2 (by decide) rfl) ?_
    obtain ⟨x7, hx7, h⟩ := h
    refine rd_read (i := 2) (d := (some 10)) (fun W => (RdAt (tInt .i64) (a3.add 2) W) x7) hD (by kernel_rfl) (by kernel_rfl) rfl (.free rfl) rfl (fun W hr => q_load (T := (tInt .i64)) (u := x7) (a := (a3.add 2)) rfl ok2 rfl hr) hx7 ?_
    obtain ⟨x8, hx8, h⟩ := h
    refine rd_read (i := 3) (d := (some 11)) (fun W => (RdAt T32 a3 W) x8) hD (by kernel_rfl) (by kernel_rfl) rfl (.free rfl) rfl (fun W hr => q_load (T := T32) (u := x8) (a := a3) rfl ok33 rfl hr) hx8 ?_
    refine rd_one (i := 4) (by kernel_rfl) ?_
    refine po_wp rfl (.free rfl) (wp_cl (d := (some 12)) rfl (q_call (k := 12) (l := [T32.enc (x8)]) rfl ent12 rfl) h ?_)
    intro r10 w9 h
    obtain ⟨hk11, h⟩ := h
    refine ⟨(hk_wait (by kernel_rfl) (hk_keep (fun _ => hk11) hk_nil)), ?_⟩
    refine rd_pure (i := 5) (d := (some 13)) hD (by kernel_rfl) (by kernel_rfl) rfl (.free rfl) rfl (fun _ => q_field1 (c := T32.cells r10) (v := tSlc.enc (r10.L)) (off := 3) rfl Try.underlying33 rfl rfl Try.underlying31 rfl rfl rfl) ?_
    refine rd_one (i := 6) (by kernel_rfl) ?_
    refine po_wp rfl (.free rfl) (wp_cl (d := (some 14)) rfl (q_call (k := 23) (l := [.pointer (s_1), .int .i64 (x7), tSlc.enc (r10.L)]) rfl ent23 rfl) h ?_)
    intro r13 w12 h
    obtain ⟨hk14, h⟩ := h
    refine ⟨(hk_keep (fun _ => hk14) (hk_wait (by kernel_rfl) hk_nil)), ?_⟩
    refine rd_nil (by kernel_rfl) ?_
    exact end_ok rfl .nil ⟨(), rfl, h⟩
  · refine wp_seq ?_
    refine wp_text [0, 1] rfl ?_
    refine ro_val (d := (some 16)) rfl (.free rfl) rfl (q_eql (a := x5) (b := (3 : Int)) rfl rfl rfl) ?_
    refine ro_val (d := (some 15)) rfl (.free rfl) rfl (q_assign (v := .bool ((x5 == (3 : Int)))) rfl rfl) ?_
    refine ro_nil ?_
    refine wp_if (b := (x5 == (3 : Int))) rfl h (fun hb22 h => ?_) (fun hb22 h => ?_)
    · refine wp_text [0, 1, 2, 3] rfl ?_
      refine ro_val (d := (some 17)) rfl (.free rfl) rfl (q_move (v := .pointer (s_1)) rfl rfl) ?_
      refine ro_val (d := (some 18)) rfl (.free rfl) rfl (q_fieldAddr (a := a3) (off := 2) rfl Try.underlying33 rfl rfl ok2 (by decide) rfl) ?_
      obtain ⟨x15, hx15, h⟩ := h
      refine ro_val (d := (some 19)) rfl (.free rfl) rfl (q_load (T := (tInt .i64)) (u := x15) (a := (a3.add 2)) rfl ok2 rfl hx15) ?_
      refine ro_wp rfl (.free rfl) (wp_cl (d := (some 20)) rfl (q_call (k := 26) (l := [.pointer (s_1), .int .i64 (x15)]) rfl ent26 rfl) h ?_)
      intro r17 w16 h
      refine ro_nil ?_
      exact end_ok rfl .nil ⟨(), rfl, h⟩
    · refine wp_seq ?_
      refine wp_text [0, 1] rfl ?_
      refine ro_val (d := (some 22)) rfl (.free rfl) rfl (q_eql (a := x5) (b := (4 : Int)) rfl rfl rfl) ?_
      refine ro_val (d := (some 21)) rfl (.free rfl) rfl (q_assign (v := .bool ((x5 == (4 : Int)))) rfl rfl) ?_
      refine ro_nil ?_
      refine wp_if (b := (x5 == (4 : Int))) rfl h (fun hb21 h => ?_) (fun hb21 h => ?_)
      · refine wp_text [0, 1, 2, 3] rfl ?_
        refine ro_val (d := (some 23)) rfl (.free rfl) rfl (q_move (v := .pointer (s_1)) rfl rfl) ?_
        refine ro_val (d := (some 24)) rfl (.free rfl) rfl (q_fieldAddr (a := a3) (off := 2) rfl Try.underlying33 rfl rfl ok2 (by decide) rfl) ?_
        obtain ⟨x18, hx18, h⟩ := h
        refine ro_val (d := (some 25)) rfl (.free rfl) rfl (q_load (T := (tInt .i64)) (u := x18) (a := (a3.add 2)) rfl ok2 rfl hx18) ?_
        refine ro_wp rfl (.free rfl) (wp_cl (d := (some 26)) rfl (q_call (k := 24) (l := [.pointer (s_1), .int .i64 (x18)]) rfl ent24 rfl) h ?_)
        intro r20 w19 h
        refine ro_nil ?_
        exact end_ok rfl .nil ⟨(), rfl, h⟩
      · refine wp_skip ?_
        exact end_ok rfl .nil ⟨(), rfl, h⟩

end Go.Proofs.Ytdgdkbfigndndaa.Cf
