/- Characteristic formulae of Go functions, and that they are. Printed by gen.py (own tool). -/
import Derived.Test.YtpflfnaflacfgaaTy
namespace Go.Proofs.Ytpflfnaflacfgaa.Cf
open Go
set_option maxRecDepth 100000
set_option maxHeartbeats 1000000
set_option linter.unusedVariables false
set_option linter.unusedSimpArgs false

-- slices.IndexFunc[[]moiety/post.Letter[string],moiety/post.Letter[string]]
def F49_l1 (s_1 : Slc) (f_2 : Fv) (t_3 : Int) (w4 : World) (K5 : Int → World → Prop) (R : Int → World → Prop) : Prop :=
  if (decide (t_3 < (s_1.len : Int))) = true then (
    ex (IxA s_1 4 t_3) fun a6 =>
    ex (RdAt T35 a6 w4) fun x7 =>
    clv Try.prog f_2 [T35.enc (x7)] tBool w4 fun r9 w8 =>
    if r9 = true then (
      R t_3 w8
    ) else (
      K5 ((IntKind.i64.wrap (t_3 + (1 : Int)))) w8
    )
  ) else (
    R (-1 : Int) w4
  )
def F49 (s_1 : Slc) (f_2 : Fv) (w : World) (R : Int → World → Prop) : Prop :=
  lp (fun (s : Int) w K => F49_l1 s_1 f_2 s w K R) ((0 : Int)) w
theorem F49_ok {s_1 : Slc} {f_2 : Fv} {w : World} {R : Int → World → Prop} (h : F49 s_1 f_2 w R) : cl Try.prog 49 [tSlc.enc (s_1), (f_2).enc] (tInt .i64) w R := by
  unfold F49 at h
  refine calls_start 19 Try.func49 rfl rfl (Nat.le_of_ble_eq_true rfl) ?_
  refine wp_seq ?_
  refine wp_text [0] rfl ?_
  refine ro_val (d := (some 4)) rfl (.free rfl) rfl (q_assign (v := .int .i64 ((0 : Int))) rfl rfl) ?_
  refine ro_nil ?_
  refine wp_seq ?_
  refine wp_seq ?_
  refine wp_text [0, 1, 2] rfl ?_
  refine ro_val (d := (some 6)) rfl (.free rfl) rfl (q_move (v := tSlc.enc (s_1)) rfl rfl) ?_
  refine ro_val (d := (some 7)) rfl (.free rfl) rfl (q_len (s := s_1) rfl Try.underlying33 rfl) ?_
  refine ro_val (d := (some 8)) rfl (.free rfl) rfl (q_move (v := .int .i64 ((0 : Int))) rfl rfl) ?_
  refine ro_nil ?_
  refine wp_block ?_
  refine loop_at (σ := Int) (fr := fun g (s : Int) => upd (upd (upd (upd (g) 0 (tSlc.enc (s_1))) 1 ((f_2).enc)) 7 (.int .i64 ((s_1.len : Int)))) 8 (.int .i64 (s))) (s0 := ((0 : Int))) (upd_step (upd_step (upd_step (upd_step rfl rfl) rfl) rfl) rfl) h ?_
  rintro t_3 g w4 K5 h
  unfold F49_l1 at h
  refine wp_seq ?_
  refine wp_text [0] rfl ?_
  refine ro_val (d := (some 9)) rfl (.free rfl) rfl (q_lss (a := t_3) (b := (s_1.len : Int)) rfl rfl rfl) ?_
  refine ro_nil ?_
  refine wp_seq ?_
  refine wp_if (b := (decide (t_3 < (s_1.len : Int)))) rfl h (fun hb11 h => ?_) (fun hb11 h => ?_)
  · refine wp_skip ?_
    refine wp_seq ?_
    refine wp_block ?_
    refine wp_seq ?_
    refine wp_text [0, 1] rfl ?_
    refine ro_val (d := (some 10)) rfl (.free rfl) rfl (q_move (v := .int .i64 (t_3)) rfl rfl) ?_
    refine ro_val (d := (some 5)) rfl (.free rfl) rfl (q_assign (v := .int .i64 (t_3)) rfl rfl) ?_
    refine ro_nil ?_
    refine wp_seq ?_
    refine wp_text [0, 1, 2, 3, 4, 5] rfl ?_
    refine ro_val (d := (some 11)) rfl (.free rfl) rfl (q_move (v := (f_2).enc) rfl rfl) ?_
    refine ro_val (d := (some 12)) rfl (.free rfl) rfl (q_move (v := tSlc.enc (s_1)) rfl rfl) ?_
    refine ro_val (d := (some 13)) rfl (.free rfl) rfl (q_move (v := .int .i64 (t_3)) rfl rfl) ?_
    obtain ⟨a6, ha6, h⟩ := h
    refine ro_val (d := (some 14)) rfl (.free rfl) rfl (q_indexAddr (s := s_1) (i := t_3) rfl Try.underlying33 ok36 rfl rfl ha6) ?_
    obtain ⟨x7, hx7, h⟩ := h
    refine ro_val (d := (some 15)) rfl (.free rfl) rfl (q_load (T := T35) (u := x7) (a := a6) rfl ok36 rfl hx7) ?_
    refine ro_wp rfl (.free rfl) (wp_clv (d := (some 16)) (l := [T35.enc (x7)]) (fv := f_2) rfl rfl rfl rfl h ?_)
    intro r9 w8 h
    refine ro_nil ?_
    refine wp_if (b := r9) rfl h (fun hb10 h => ?_) (fun hb10 h => ?_)
    · refine wp_seq ?_
      refine wp_text [0, 1] rfl ?_
      refine ro_val (d := (some 17)) rfl (.free rfl) rfl (q_move (v := .int .i64 (t_3)) rfl rfl) ?_
      refine ro_val (d := (some 4)) rfl (.free rfl) rfl (q_assign (v := .int .i64 (t_3)) rfl rfl) ?_
      refine ro_nil ?_
      refine wp_ret ?_
      exact ret_ok rfl (.cons (.tmp (v := .int .i64 (t_3)) rfl) .nil) ⟨t_3, rfl, h⟩
    · refine wp_skip ?_
      refine wp_text [0, 1] rfl ?_
      refine ro_val (d := (some 18)) rfl (.free rfl) rfl (q_add (a := t_3) (b := (1 : Int)) rfl rfl rfl) ?_
      refine ro_val (d := (some 8)) rfl (.free rfl) rfl (q_move (v := .int .i64 ((IntKind.i64.wrap (t_3 + (1 : Int))))) rfl rfl) ?_
      refine ro_nil ?_
      exact ⟨((IntKind.i64.wrap (t_3 + (1 : Int)))), _, arr (upd_step (upd_step (upd_step (upd_step rfl rfl) rfl) rfl) rfl), h⟩
  · refine wp_exit ?_
    refine wp_seq ?_
    refine wp_text [0] rfl ?_
    refine ro_val (d := (some 4)) rfl (.free rfl) rfl (q_assign (v := .int .i64 ((-1 : Int))) rfl rfl) ?_
    refine ro_nil ?_
    refine wp_ret ?_
    exact ret_ok rfl (.cons (.tmp (v := .int .i64 ((-1 : Int))) rfl) .nil) ⟨(-1 : Int), rfl, h⟩

-- moiety/moietyref09.without
def F50_j2 (i_6 : Int) (out_9 : Slc) (w10 : World) (K8 : Slc × Int → World → Prop) (R : Slc → World → Prop) : Prop :=
  K8 (out_9, (IntKind.i64.wrap (i_6 + (1 : Int)))) w10
def F50_l1 (l_1 : Slc) (at_2 : Int) (out_5 : Slc) (i_6 : Int) (w7 : World) (K8 : Slc × Int → World → Prop) (R : Slc → World → Prop) : Prop :=
  if (decide (i_6 < (l_1.len : Int))) = true then (
    if (i_6 != at_2) = true then (
      ex (IxA l_1 4 i_6) fun a11 =>
      ex (RdAt T35 a11 w7) fun x12 =>
      apl 75 T35 4 40 out_5 [x12] w7 fun r16 w15 =>
      F50_j2 i_6 r16 w15 K8 R
    ) else (
      F50_j2 i_6 out_5 w7 K8 R
    )
  ) else (
    R out_5 w7
  )
def F50 (l_1 : Slc) (at_2 : Int) (w : World) (R : Slc → World → Prop) : Prop :=
  nwS 75 T35 ([] : List S35) w fun a3 w4 =>
  lp (fun (s : Slc × Int) w K => F50_l1 l_1 at_2 s.1 s.2 w K R) ((⟨some a3, 0, 0⟩ : Slc), (0 : Int)) w4
theorem F50_ok {l_1 : Slc} {at_2 : Int} {w : World} {R : Slc → World → Prop} (h : F50 l_1 at_2 w R) : cl Try.prog 50 [tSlc.enc (l_1), .int .i64 (at_2)] tSlc w R := by
  unfold F50 at h
  refine calls_start 25 Try.func50 rfl rfl (Nat.le_of_ble_eq_true rfl) ?_
  refine wp_seq ?_
  refine wp_text [0] rfl ?_
  refine ro_val (d := (some 4)) rfl (.free rfl) rfl (q_assign (v := tSlc.enc ((⟨none, 0, 0⟩ : Slc))) rfl rfl) ?_
  refine ro_nil ?_
  refine wp_seq ?_
  refine wp_text [0, 1] rfl ?_
  obtain ⟨a3, w4, ha3, hw4, h⟩ := nwS_open h
  refine ro_val (d := (some 7)) rfl (.free rfl) rfl (q_row0 (T := T35) rfl Try.underlying47 ok75 inf75 ha3 hw4) ?_
  refine ro_val (d := (some 5)) rfl (.free rfl) rfl (q_assign (v := tSlc.enc ((⟨some a3, 0, 0⟩ : Slc))) rfl rfl) ?_
  refine ro_nil ?_
  refine wp_seq ?_
  refine wp_seq ?_
  refine wp_text [0] rfl ?_
  refine ro_val (d := (some 6)) rfl (.free rfl) rfl (q_assign (v := .int .i64 ((0 : Int))) rfl rfl) ?_
  refine ro_nil ?_
  refine wp_block ?_
  refine loop_at (σ := Slc × Int) (fr := fun g (s : Slc × Int) => upd (upd (upd (upd (g) 0 (tSlc.enc (l_1))) 1 (.int .i64 (at_2))) 5 (tSlc.enc (s.1))) 6 (.int .i64 (s.2))) (s0 := ((⟨some a3, 0, 0⟩ : Slc), (0 : Int))) (upd_step (upd_step (upd_step (upd_step rfl rfl) rfl) rfl) rfl) h ?_
  rintro ⟨out_5, i_6⟩ g w7 K8 h
  unfold F50_l1 at h
  refine wp_seq ?_
  refine wp_seq ?_
  refine wp_text [0, 1, 2, 3] rfl ?_
  refine ro_val (d := (some 8)) rfl (.free rfl) rfl (q_move (v := .int .i64 (i_6)) rfl rfl) ?_
  refine ro_val (d := (some 9)) rfl (.free rfl) rfl (q_move (v := tSlc.enc (l_1)) rfl rfl) ?_
  refine ro_val (d := (some 10)) rfl (.free rfl) rfl (q_len (s := l_1) rfl Try.underlying47 rfl) ?_
  refine ro_val (d := (some 11)) rfl (.free rfl) rfl (q_lss (a := i_6) (b := (l_1.len : Int)) rfl rfl rfl) ?_
  refine ro_nil ?_
  refine wp_if (b := (decide (i_6 < (l_1.len : Int)))) rfl h (fun hb18 h => ?_) (fun hb18 h => ?_)
  · refine wp_skip ?_
    refine seq_join (σ := Slc) (J := fun (s : Slc) w => F50_j2 i_6 s w K8 R) (fr := fun g (s : Slc) => upd (upd (upd (upd (g) 0 (tSlc.enc (l_1))) 1 (.int .i64 (at_2))) 6 (.int .i64 (i_6))) 5 (tSlc.enc (s))) ?_ ?_
    · rintro out_9 g w10 h
      unfold F50_j2 at h
      refine wp_text [0, 1, 2] rfl ?_
      refine ro_val (d := (some 12)) rfl (.free rfl) rfl (q_move (v := .int .i64 (i_6)) rfl rfl) ?_
      refine ro_val (d := (some 13)) rfl (.free rfl) rfl (q_add (a := i_6) (b := (1 : Int)) rfl rfl rfl) ?_
      refine ro_val (d := (some 6)) rfl (.free rfl) rfl (q_assign (v := .int .i64 ((IntKind.i64.wrap (i_6 + (1 : Int))))) rfl rfl) ?_
      refine ro_nil ?_
      exact ⟨(out_9, (IntKind.i64.wrap (i_6 + (1 : Int)))), _, arr (upd_step (upd_step (upd_step (upd_step rfl rfl) rfl) rfl) rfl), h⟩
    · refine wp_block ?_
      refine wp_seq ?_
      refine wp_text [0, 1, 2] rfl ?_
      refine ro_val (d := (some 14)) rfl (.free rfl) rfl (q_move (v := .int .i64 (i_6)) rfl rfl) ?_
      refine ro_val (d := (some 15)) rfl (.free rfl) rfl (q_move (v := .int .i64 (at_2)) rfl rfl) ?_
      refine ro_val (d := (some 16)) rfl (.free rfl) rfl (q_neq (a := i_6) (b := at_2) rfl rfl rfl) ?_
      refine ro_nil ?_
      refine wp_if (b := (i_6 != at_2)) rfl h (fun hb17 h => ?_) (fun hb17 h => ?_)
      · refine wp_text [0, 1, 2, 3, 4, 5, 6, 7] rfl ?_
        refine ro_val (d := (some 17)) rfl (.free rfl) rfl (q_move (v := tSlc.enc (out_5)) rfl rfl) ?_
        refine ro_val (d := (some 18)) rfl (.free rfl) rfl (q_move (v := tSlc.enc (l_1)) rfl rfl) ?_
        refine ro_val (d := (some 19)) rfl (.free rfl) rfl (q_move (v := .int .i64 (i_6)) rfl rfl) ?_
        obtain ⟨a11, ha11, h⟩ := h
        refine ro_val (d := (some 20)) rfl (.free rfl) rfl (q_indexAddr (s := l_1) (i := i_6) rfl Try.underlying47 ok75 rfl rfl ha11) ?_
        obtain ⟨x12, hx12, h⟩ := h
        refine ro_val (d := (some 21)) rfl (.free rfl) rfl (q_load (T := T35) (u := x12) (a := a11) rfl ok75 rfl hx12) ?_
        obtain ⟨a13, w14, ha13, hw14, h⟩ := apl_open h
        refine ro_val (d := (some 22)) rfl (.free rfl) rfl (q_rowOf (T := T35) (xs := [x12]) rfl Try.underlying47 ok75 inf75 rfl (by decide) (by decide) rfl ha13 hw14) ?_
        refine ro_wp rfl (.free rfl) (wp_append (d := (some 23)) (T := T35) rfl rfl Try.underlying47 ⟨_, Try.underlying47⟩ ok75 inf75 rfl rfl (Nat.lt_of_lt_of_le Nat.zero_lt_one (Nat.le_of_ble_eq_true rfl)) rfl rfl h ?_)
        intro r16 w15 h
        refine ro_val (d := (some 5)) rfl (.free rfl) rfl (q_assign (v := tSlc.enc (r16)) rfl rfl) ?_
        refine ro_nil ?_
        exact ⟨(r16), _, arr (upd_step (upd_step (upd_step (upd_step rfl rfl) rfl) rfl) rfl), h⟩
      · refine wp_skip ?_
        exact ⟨(out_5), _, arr (upd_step (upd_step (upd_step (upd_step rfl rfl) rfl) rfl) rfl), h⟩
  · refine wp_exit ?_
    refine wp_seq ?_
    refine wp_text [0, 1] rfl ?_
    refine ro_val (d := (some 24)) rfl (.free rfl) rfl (q_move (v := tSlc.enc (out_5)) rfl rfl) ?_
    refine ro_val (d := (some 4)) rfl (.free rfl) rfl (q_assign (v := tSlc.enc (out_5)) rfl rfl) ?_
    refine ro_nil ?_
    refine wp_ret ?_
    exact ret_ok rfl (.cons (.tmp (v := tSlc.enc (out_5)) rfl) .nil) ⟨out_5, rfl, h⟩

-- slices.IndexFunc[[]moiety/post.Letter[int],moiety/post.Letter[int]]
def F51_l1 (s_1 : Slc) (f_2 : Fv) (t_3 : Int) (w4 : World) (K5 : Int → World → Prop) (R : Int → World → Prop) : Prop :=
  if (decide (t_3 < (s_1.len : Int))) = true then (
    ex (IxA s_1 4 t_3) fun a6 =>
    ex (RdAt T60 a6 w4) fun x7 =>
    clv Try.prog f_2 [T60.enc (x7)] tBool w4 fun r9 w8 =>
    if r9 = true then (
      R t_3 w8
    ) else (
      K5 ((IntKind.i64.wrap (t_3 + (1 : Int)))) w8
    )
  ) else (
    R (-1 : Int) w4
  )
def F51 (s_1 : Slc) (f_2 : Fv) (w : World) (R : Int → World → Prop) : Prop :=
  lp (fun (s : Int) w K => F51_l1 s_1 f_2 s w K R) ((0 : Int)) w
theorem F51_ok {s_1 : Slc} {f_2 : Fv} {w : World} {R : Int → World → Prop} (h : F51 s_1 f_2 w R) : cl Try.prog 51 [tSlc.enc (s_1), (f_2).enc] (tInt .i64) w R := by
  unfold F51 at h
  refine calls_start 19 Try.func51 rfl rfl (Nat.le_of_ble_eq_true rfl) ?_
  refine wp_seq ?_
  refine wp_text [0] rfl ?_
  refine ro_val (d := (some 4)) rfl (.free rfl) rfl (q_assign (v := .int .i64 ((0 : Int))) rfl rfl) ?_
  refine ro_nil ?_
  refine wp_seq ?_
  refine wp_seq ?_
  refine wp_text [0, 1, 2] rfl ?_
  refine ro_val (d := (some 6)) rfl (.free rfl) rfl (q_move (v := tSlc.enc (s_1)) rfl rfl) ?_
  refine ro_val (d := (some 7)) rfl (.free rfl) rfl (q_len (s := s_1) rfl Try.underlying58 rfl) ?_
  refine ro_val (d := (some 8)) rfl (.free rfl) rfl (q_move (v := .int .i64 ((0 : Int))) rfl rfl) ?_
  refine ro_nil ?_
  refine wp_block ?_
  refine loop_at (σ := Int) (fr := fun g (s : Int) => upd (upd (upd (upd (g) 0 (tSlc.enc (s_1))) 1 ((f_2).enc)) 7 (.int .i64 ((s_1.len : Int)))) 8 (.int .i64 (s))) (s0 := ((0 : Int))) (upd_step (upd_step (upd_step (upd_step rfl rfl) rfl) rfl) rfl) h ?_
  rintro t_3 g w4 K5 h
  unfold F51_l1 at h
  refine wp_seq ?_
  refine wp_text [0] rfl ?_
  refine ro_val (d := (some 9)) rfl (.free rfl) rfl (q_lss (a := t_3) (b := (s_1.len : Int)) rfl rfl rfl) ?_
  refine ro_nil ?_
  refine wp_seq ?_
  refine wp_if (b := (decide (t_3 < (s_1.len : Int)))) rfl h (fun hb11 h => ?_) (fun hb11 h => ?_)
  · refine wp_skip ?_
    refine wp_seq ?_
    refine wp_block ?_
    refine wp_seq ?_
    refine wp_text [0, 1] rfl ?_
    refine ro_val (d := (some 10)) rfl (.free rfl) rfl (q_move (v := .int .i64 (t_3)) rfl rfl) ?_
    refine ro_val (d := (some 5)) rfl (.free rfl) rfl (q_assign (v := .int .i64 (t_3)) rfl rfl) ?_
    refine ro_nil ?_
    refine wp_seq ?_
    refine wp_text [0, 1, 2, 3, 4, 5] rfl ?_
    refine ro_val (d := (some 11)) rfl (.free rfl) rfl (q_move (v := (f_2).enc) rfl rfl) ?_
    refine ro_val (d := (some 12)) rfl (.free rfl) rfl (q_move (v := tSlc.enc (s_1)) rfl rfl) ?_
    refine ro_val (d := (some 13)) rfl (.free rfl) rfl (q_move (v := .int .i64 (t_3)) rfl rfl) ?_
    obtain ⟨a6, ha6, h⟩ := h
    refine ro_val (d := (some 14)) rfl (.free rfl) rfl (q_indexAddr (s := s_1) (i := t_3) rfl Try.underlying58 ok61 rfl rfl ha6) ?_
    obtain ⟨x7, hx7, h⟩ := h
    refine ro_val (d := (some 15)) rfl (.free rfl) rfl (q_load (T := T60) (u := x7) (a := a6) rfl ok61 rfl hx7) ?_
    refine ro_wp rfl (.free rfl) (wp_clv (d := (some 16)) (l := [T60.enc (x7)]) (fv := f_2) rfl rfl rfl rfl h ?_)
    intro r9 w8 h
    refine ro_nil ?_
    refine wp_if (b := r9) rfl h (fun hb10 h => ?_) (fun hb10 h => ?_)
    · refine wp_seq ?_
      refine wp_text [0, 1] rfl ?_
      refine ro_val (d := (some 17)) rfl (.free rfl) rfl (q_move (v := .int .i64 (t_3)) rfl rfl) ?_
      refine ro_val (d := (some 4)) rfl (.free rfl) rfl (q_assign (v := .int .i64 (t_3)) rfl rfl) ?_
      refine ro_nil ?_
      refine wp_ret ?_
      exact ret_ok rfl (.cons (.tmp (v := .int .i64 (t_3)) rfl) .nil) ⟨t_3, rfl, h⟩
    · refine wp_skip ?_
      refine wp_text [0, 1] rfl ?_
      refine ro_val (d := (some 18)) rfl (.free rfl) rfl (q_add (a := t_3) (b := (1 : Int)) rfl rfl rfl) ?_
      refine ro_val (d := (some 8)) rfl (.free rfl) rfl (q_move (v := .int .i64 ((IntKind.i64.wrap (t_3 + (1 : Int))))) rfl rfl) ?_
      refine ro_nil ?_
      exact ⟨((IntKind.i64.wrap (t_3 + (1 : Int)))), _, arr (upd_step (upd_step (upd_step (upd_step rfl rfl) rfl) rfl) rfl), h⟩
  · refine wp_exit ?_
    refine wp_seq ?_
    refine wp_text [0] rfl ?_
    refine ro_val (d := (some 4)) rfl (.free rfl) rfl (q_assign (v := .int .i64 ((-1 : Int))) rfl rfl) ?_
    refine ro_nil ?_
    refine wp_ret ?_
    exact ret_ok rfl (.cons (.tmp (v := .int .i64 ((-1 : Int))) rfl) .nil) ⟨(-1 : Int), rfl, h⟩

end Go.Proofs.Ytpflfnaflacfgaa.Cf
