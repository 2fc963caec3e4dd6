/- The characteristic formula of a law, and that it is. Printed by gen.py (own tool). -/
import Derived.Test.YtjkmeooncmhonaaFs
namespace Go.Proofs.Ytjkmeooncmhonaa.Cf
open Go
set_option maxRecDepth 100000
set_option maxHeartbeats 1000000
set_option linter.unusedVariables false
set_option linter.unusedSimpArgs false

-- moiety/moietylaw22.BallotPicks
def F3_j4 (t_18 : Bool) (w19 : World) (R : Bool → World → Prop) : Prop :=
  R t_18 w19
def F3_j3 (r11 : Slc) (t_16 : Bool) (w17 : World) (R : Bool → World → Prop) : Prop :=
  if t_16 = true then (
    nwS 23 tSlc [r11, r11] w17 fun a21 w22 =>
    cl Try.prog 8 [tSlc.enc ((⟨some a21, 2, 2⟩ : Slc))] tSlc w22 fun r24 w23 =>
    cl Try.prog 9 [tSlc.enc (r24), tSlc.enc (r11)] tBool w23 fun r26 w25 =>
    F3_j4 r26 w25 R
  ) else (
    F3_j4 false w17 R
  )
def F3_j2 (r11 : Slc) (t_14 : Bool) (w15 : World) (R : Bool → World → Prop) : Prop :=
  if t_14 = true then (
    nwS 23 tSlc [r11] w15 fun a28 w29 =>
    cl Try.prog 8 [tSlc.enc ((⟨some a28, 1, 1⟩ : Slc))] tSlc w29 fun r31 w30 =>
    cl Try.prog 9 [tSlc.enc (r31), tSlc.enc (r11)] tBool w30 fun r33 w32 =>
    F3_j3 r11 r33 w32 R
  ) else (
    F3_j3 r11 false w15 R
  )
def F3_l1 (l_1 : Slc) (all_2 : Int) (i_3 : Int) (w4 : World) (K5 : Int × Int → World → Prop) (R : Bool → World → Prop) : Prop :=
  if (decide (i_3 < (l_1.len : Int))) = true then (
    ex (IxA l_1 1 i_3) fun a6 =>
    ex (RdAt tSlc a6 w4) fun x7 =>
    K5 ((IntKind.i64.wrap (all_2 + (x7.len : Int))), (IntKind.i64.wrap (i_3 + (1 : Int)))) w4
  ) else (
    if ((decide (all_2 > (200 : Int))) || (decide ((l_1.len : Int) > (100 : Int)))) = true then (
      cl Try.prog 7 [] tBool w4 fun r9 w8 =>
      R r9 w8
    ) else (
      cl Try.prog 8 [tSlc.enc (l_1)] tSlc w4 fun r11 w10 =>
      cl Try.prog 7 [] tBool w10 fun r13 w12 =>
      if r13 = true then (
        cl Try.prog 10 [tSlc.enc (l_1)] tSlc w12 fun r36 w35 =>
        cl Try.prog 9 [tSlc.enc (r11), tSlc.enc (r36)] tBool w35 fun r38 w37 =>
        F3_j2 r11 r38 w37 R
      ) else (
        F3_j2 r11 false w12 R
      )
    )
  )
def F3 (l_1 : Slc) (w : World) (R : Bool → World → Prop) : Prop :=
  lp (fun (s : Int × Int) w K => F3_l1 l_1 s.1 s.2 w K R) ((0 : Int), (0 : Int)) w
theorem F3_ok {l_1 : Slc} {w : World} {R : Bool → World → Prop} (h : F3 l_1 w R) : cl Try.prog 3 [tSlc.enc (l_1)] tBool w R := by
  unfold F3 at h
  refine calls_start 51 Try.func3 rfl rfl (Nat.le_of_ble_eq_true rfl) ?_
  refine wp_seq ?_
  refine wp_text [0] rfl ?_
  refine rv 2 rfl rfl rfl (q_assign (v := .bool (false)) rfl rfl) ?_
  refine ro_nil ?_
  refine wp_seq ?_
  refine wp_text [0] rfl ?_
  refine rv 3 rfl rfl rfl (q_assign (v := .int .i64 ((0 : Int))) rfl rfl) ?_
  refine ro_nil ?_
  refine wp_seq ?_
  refine wp_seq ?_
  refine wp_text [0] rfl ?_
  refine rv 4 rfl rfl rfl (q_assign (v := .int .i64 ((0 : Int))) rfl rfl) ?_
  refine ro_nil ?_
  refine wp_block ?_
  refine loop_at (σ := Int × Int) (fr := fun g (s : Int × Int) => upd (upd (upd (g) 0 (tSlc.enc (l_1))) 3 (.int .i64 (s.1))) 4 (.int .i64 (s.2))) (s0 := ((0 : Int), (0 : Int))) (upd_step (upd_step (upd_step rfl rfl) rfl) rfl) h ?_
  rintro ⟨all_2, i_3⟩ g w4 K5 h
  unfold F3_l1 at h
  refine wp_seq ?_
  refine wp_seq ?_
  refine wp_text [0, 1, 2, 3] rfl ?_
  refine rv 6 rfl rfl rfl (q_move (v := .int .i64 (i_3)) rfl rfl) ?_
  refine rv 7 rfl rfl rfl (q_move (v := tSlc.enc (l_1)) rfl rfl) ?_
  refine rv 8 rfl rfl rfl (q_len (s := l_1) rfl Try.underlying22 rfl) ?_
  refine rv 9 rfl rfl rfl (q_lss (a := i_3) (b := (l_1.len : Int)) rfl rfl rfl) ?_
  refine ro_nil ?_
  refine wp_if (b := (decide (i_3 < (l_1.len : Int)))) rfl h (fun hb40 h => ?_) (fun hb40 h => ?_)
  · refine wp_skip ?_
    refine wp_seq ?_
    refine wp_block ?_
    refine wp_text [0, 1, 2, 3, 4, 5, 6, 7] rfl ?_
    refine rv 12 rfl rfl rfl (q_move (v := .int .i64 (all_2)) rfl rfl) ?_
    refine rv 13 rfl rfl rfl (q_move (v := tSlc.enc (l_1)) rfl rfl) ?_
    refine rv 14 rfl rfl rfl (q_move (v := .int .i64 (i_3)) rfl rfl) ?_
    obtain ⟨a6, ha6, h⟩ := h
    refine rv 15 rfl rfl rfl (q_indexAddr (s := l_1) (i := i_3) rfl Try.underlying22 ok23 rfl rfl ha6) ?_
    obtain ⟨x7, hx7, h⟩ := h
    refine rv 16 rfl rfl rfl (q_load (T := tSlc) (u := x7) (a := a6) rfl ok23 rfl hx7) ?_
    refine rv 17 rfl rfl rfl (q_len (s := x7) rfl Try.underlying23 rfl) ?_
    refine rv 18 rfl rfl rfl (q_add (a := all_2) (b := (x7.len : Int)) rfl rfl rfl) ?_
    refine rv 3 rfl rfl rfl (q_assign (v := .int .i64 ((IntKind.i64.wrap (all_2 + (x7.len : Int))))) rfl rfl) ?_
    refine ro_nil ?_
    refine wp_text [0, 1, 2] rfl ?_
    refine rv 10 rfl rfl rfl (q_move (v := .int .i64 (i_3)) rfl rfl) ?_
    refine rv 11 rfl rfl rfl (q_add (a := i_3) (b := (1 : Int)) rfl rfl rfl) ?_
    refine rv 4 rfl rfl rfl (q_assign (v := .int .i64 ((IntKind.i64.wrap (i_3 + (1 : Int))))) rfl rfl) ?_
    refine ro_nil ?_
    exact ⟨((IntKind.i64.wrap (all_2 + (x7.len : Int))), (IntKind.i64.wrap (i_3 + (1 : Int)))), _, arr (upd_step (upd_step (upd_step rfl rfl) rfl) rfl), h⟩
  · refine wp_exit ?_
    refine wp_seq ?_
    refine wp_seq ?_
    refine wp_text [0, 1, 2, 3, 4, 5, 6] rfl ?_
    refine rv 19 rfl rfl rfl (q_move (v := .int .i64 (all_2)) rfl rfl) ?_
    refine rv 20 rfl rfl rfl (q_gtr (a := all_2) (b := (200 : Int)) rfl rfl rfl) ?_
    refine rv 21 rfl rfl rfl (q_move (v := .bool ((decide (all_2 > (200 : Int))))) rfl rfl) ?_
    refine ro_gval (g := (!(decide (all_2 > (200 : Int))))) (d := (some 22)) rfl (.no 2 21 true (decide (all_2 > (200 : Int))) rfl rfl rfl rfl) rfl (fun hg => q_move (v := tSlc.enc (l_1)) rfl rfl) ?_
    refine ro_gval (g := (!(decide (all_2 > (200 : Int))))) (d := (some 23)) rfl (.no 2 21 true (decide (all_2 > (200 : Int))) rfl rfl rfl rfl) rfl (fun hg => q_len (s := l_1) rfl Try.underlying22 (gvb_yes hg)) ?_
    refine ro_gval (g := (!(decide (all_2 > (200 : Int))))) (d := (some 24)) rfl (.no 2 21 true (decide (all_2 > (200 : Int))) rfl rfl rfl rfl) rfl (fun hg => q_gtr (a := (l_1.len : Int)) (b := (100 : Int)) rfl (gvb_yes hg) rfl) ?_
    refine rv 25 rfl rfl rfl (q_pickGF (a := (decide (all_2 > (200 : Int)))) (c := (decide ((l_1.len : Int) > (100 : Int)))) rfl rfl rfl rfl) ?_
    refine ro_nil ?_
    refine wp_if (b := ((decide (all_2 > (200 : Int))) || (decide ((l_1.len : Int) > (100 : Int))))) rfl h (fun hb39 h => ?_) (fun hb39 h => ?_)
    · refine wp_seq ?_
      refine wp_text [0, 1] rfl ?_
      refine ro_wp rfl (.free rfl) (wp_cl (d := (some 26)) rfl (q_call (k := 7) (l := []) rfl ent7 rfl) h ?_)
      intro r9 w8 h
      refine rv 2 rfl rfl rfl (q_assign (v := .bool (r9)) rfl rfl) ?_
      refine ro_nil ?_
      refine wp_ret ?_
      exact ret_ok rfl (.cons (.tmp (v := .bool (r9)) rfl) .nil) ⟨r9, rfl, h⟩
    · refine wp_skip ?_
      refine wp_seq ?_
      refine wp_text [0, 1, 2] rfl ?_
      refine rv 27 rfl rfl rfl (q_move (v := tSlc.enc (l_1)) rfl rfl) ?_
      refine ro_wp rfl (.free rfl) (wp_cl (d := (some 28)) rfl (q_call (k := 8) (l := [tSlc.enc (l_1)]) rfl ent8 rfl) h ?_)
      intro r11 w10 h
      refine rv 5 rfl rfl rfl (q_assign (v := tSlc.enc (r11)) rfl rfl) ?_
      refine ro_nil ?_
      refine wp_seq ?_
      refine wp_text [0, 1, 2, 3, 4, 5, 6, 7, 8, 9, 10, 11, 12, 13, 14, 15, 16, 17, 18, 19, 20, 21, 22] rfl ?_
      refine ro_wp rfl (.free rfl) (wp_cl (d := (some 29)) rfl (q_call (k := 7) (l := []) rfl ent7 rfl) h ?_)
      intro r13 w12 h
      refine rv 30 rfl rfl rfl (q_move (v := .bool (r13)) rfl rfl) ?_
      refine ro_join (σ := Bool) (J := fun (s : Bool) w => F3_j2 r11 s w R) (fr := fun g (s : Bool) => upd (upd (g) 5 (tSlc.enc (r11))) 35 (.bool (s))) [2, 3, 4, 5, 6] [7, 8, 9, 10, 11, 12, 13, 14, 15, 16, 17, 18, 19, 20, 21, 22] ?_ ?_
      · rintro t_14 g w15 h
        unfold F3_j2 at h
        refine rv 36 rfl rfl rfl (q_move (v := .bool (t_14)) rfl rfl) ?_
        refine ro_join (σ := Bool) (J := fun (s : Bool) w => F3_j3 r11 s w R) (fr := fun g (s : Bool) => upd (upd (g) 5 (tSlc.enc (r11))) 42 (.bool (s))) [8, 9, 10, 11, 12, 13] [14, 15, 16, 17, 18, 19, 20, 21, 22] ?_ ?_
        · rintro t_16 g w17 h
          unfold F3_j3 at h
          refine rv 43 rfl rfl rfl (q_move (v := .bool (t_16)) rfl rfl) ?_
          refine ro_join (σ := Bool) (J := fun (s : Bool) w => F3_j4 s w R) (fr := fun g (s : Bool) => upd (g) 50 (.bool (s))) [15, 16, 17, 18, 19, 20, 21] [22] ?_ ?_
          · rintro t_18 g w19 h
            unfold F3_j4 at h
            refine rv 2 rfl rfl rfl (q_assign (v := .bool (t_18)) rfl rfl) ?_
            refine ro_nil ?_
            refine wp_ret ?_
            exact ret_ok rfl (.cons (.tmp (v := .bool (t_18)) rfl) .nil) ⟨t_18, rfl, h⟩
          · refine ro_if (b := t_16) h (fun hb20 h => ?_) (fun hb20 h => ?_)
            · refine ro_val (d := (some 44)) rfl (.by_ 14 true 43 t_16 rfl rfl rfl hb20) rfl (q_move (v := tSlc.enc (r11)) rfl rfl) ?_
              refine ro_val (d := (some 45)) rfl (.by_ 14 true 43 t_16 rfl rfl rfl hb20) rfl (q_move (v := tSlc.enc (r11)) rfl rfl) ?_
              obtain ⟨a21, w22, ha21, hw22, h⟩ := nwS_open h
              refine ro_val (d := (some 46)) rfl (.by_ 14 true 43 t_16 rfl rfl rfl hb20) rfl (q_rowOf (T := tSlc) (xs := [r11, r11]) rfl Try.underlying22 ok23 inf23 rfl (by decide) (by decide) rfl ha21 hw22) ?_
              refine ro_wp rfl (.by_ 14 true 43 t_16 rfl rfl rfl hb20) (wp_cl (d := (some 47)) rfl (q_call (k := 8) (l := [tSlc.enc ((⟨some a21, 2, 2⟩ : Slc))]) rfl ent8 rfl) h ?_)
              intro r24 w23 h
              refine ro_val (d := (some 48)) rfl (.by_ 14 true 43 t_16 rfl rfl rfl hb20) rfl (q_move (v := tSlc.enc (r11)) rfl rfl) ?_
              refine ro_wp rfl (.by_ 14 true 43 t_16 rfl rfl rfl hb20) (wp_cl (d := (some 49)) rfl (q_call (k := 9) (l := [tSlc.enc (r24), tSlc.enc (r11)]) rfl ent9 rfl) h ?_)
              intro r26 w25 h
              refine rv 50 rfl rfl rfl (q_pickT (v := .bool (r26)) (b := t_16) rfl rfl hb20 rfl) ?_
              refine ro_nil ?_
              exact ⟨(r26), _, arr (upd_step rfl rfl), h⟩
            · refine ro_bar (d := (some 44)) rfl (.by_ 14 true 43 t_16 rfl rfl rfl hb20) rfl ?_
              refine ro_bar (d := (some 45)) rfl (.by_ 14 true 43 t_16 rfl rfl rfl hb20) rfl ?_
              refine ro_bar (d := (some 46)) rfl (.by_ 14 true 43 t_16 rfl rfl rfl hb20) rfl ?_
              refine ro_bar (d := (some 47)) rfl (.by_ 14 true 43 t_16 rfl rfl rfl hb20) rfl ?_
              refine ro_bar (d := (some 48)) rfl (.by_ 14 true 43 t_16 rfl rfl rfl hb20) rfl ?_
              refine ro_bar (d := (some 49)) rfl (.by_ 14 true 43 t_16 rfl rfl rfl hb20) rfl ?_
              refine rv 50 rfl rfl rfl (q_pickF (v := .bool (false)) (b := t_16) rfl rfl hb20 rfl) ?_
              refine ro_nil ?_
              exact ⟨(false), _, arr (upd_step rfl rfl), h⟩
        · refine ro_if (b := t_14) h (fun hb27 h => ?_) (fun hb27 h => ?_)
          · refine ro_val (d := (some 37)) rfl (.by_ 7 true 36 t_14 rfl rfl rfl hb27) rfl (q_move (v := tSlc.enc (r11)) rfl rfl) ?_
            obtain ⟨a28, w29, ha28, hw29, h⟩ := nwS_open h
            refine ro_val (d := (some 38)) rfl (.by_ 7 true 36 t_14 rfl rfl rfl hb27) rfl (q_rowOf (T := tSlc) (xs := [r11]) rfl Try.underlying22 ok23 inf23 rfl (by decide) (by decide) rfl ha28 hw29) ?_
            refine ro_wp rfl (.by_ 7 true 36 t_14 rfl rfl rfl hb27) (wp_cl (d := (some 39)) rfl (q_call (k := 8) (l := [tSlc.enc ((⟨some a28, 1, 1⟩ : Slc))]) rfl ent8 rfl) h ?_)
            intro r31 w30 h
            refine ro_val (d := (some 40)) rfl (.by_ 7 true 36 t_14 rfl rfl rfl hb27) rfl (q_move (v := tSlc.enc (r11)) rfl rfl) ?_
            refine ro_wp rfl (.by_ 7 true 36 t_14 rfl rfl rfl hb27) (wp_cl (d := (some 41)) rfl (q_call (k := 9) (l := [tSlc.enc (r31), tSlc.enc (r11)]) rfl ent9 rfl) h ?_)
            intro r33 w32 h
            refine rv 42 rfl rfl rfl (q_pickT (v := .bool (r33)) (b := t_14) rfl rfl hb27 rfl) ?_
            refine ro_nil ?_
            exact ⟨(r33), _, arr (upd_step (upd_step rfl rfl) rfl), h⟩
          · refine ro_bar (d := (some 37)) rfl (.by_ 7 true 36 t_14 rfl rfl rfl hb27) rfl ?_
            refine ro_bar (d := (some 38)) rfl (.by_ 7 true 36 t_14 rfl rfl rfl hb27) rfl ?_
            refine ro_bar (d := (some 39)) rfl (.by_ 7 true 36 t_14 rfl rfl rfl hb27) rfl ?_
            refine ro_bar (d := (some 40)) rfl (.by_ 7 true 36 t_14 rfl rfl rfl hb27) rfl ?_
            refine ro_bar (d := (some 41)) rfl (.by_ 7 true 36 t_14 rfl rfl rfl hb27) rfl ?_
            refine rv 42 rfl rfl rfl (q_pickF (v := .bool (false)) (b := t_14) rfl rfl hb27 rfl) ?_
            refine ro_nil ?_
            exact ⟨(false), _, arr (upd_step (upd_step rfl rfl) rfl), h⟩
      · refine ro_if (b := r13) h (fun hb34 h => ?_) (fun hb34 h => ?_)
        · refine ro_val (d := (some 31)) rfl (.by_ 1 true 30 r13 rfl rfl rfl hb34) rfl (q_move (v := tSlc.enc (r11)) rfl rfl) ?_
          refine ro_val (d := (some 32)) rfl (.by_ 1 true 30 r13 rfl rfl rfl hb34) rfl (q_move (v := tSlc.enc (l_1)) rfl rfl) ?_
          refine ro_wp rfl (.by_ 1 true 30 r13 rfl rfl rfl hb34) (wp_cl (d := (some 33)) rfl (q_call (k := 10) (l := [tSlc.enc (l_1)]) rfl ent10 rfl) h ?_)
          intro r36 w35 h
          refine ro_wp rfl (.by_ 1 true 30 r13 rfl rfl rfl hb34) (wp_cl (d := (some 34)) rfl (q_call (k := 9) (l := [tSlc.enc (r11), tSlc.enc (r36)]) rfl ent9 rfl) h ?_)
          intro r38 w37 h
          refine rv 35 rfl rfl rfl (q_pickT (v := .bool (r38)) (b := r13) rfl rfl hb34 rfl) ?_
          refine ro_nil ?_
          exact ⟨(r38), _, arr (upd_step (upd_step rfl rfl) rfl), h⟩
        · refine ro_bar (d := (some 31)) rfl (.by_ 1 true 30 r13 rfl rfl rfl hb34) rfl ?_
          refine ro_bar (d := (some 32)) rfl (.by_ 1 true 30 r13 rfl rfl rfl hb34) rfl ?_
          refine ro_bar (d := (some 33)) rfl (.by_ 1 true 30 r13 rfl rfl rfl hb34) rfl ?_
          refine ro_bar (d := (some 34)) rfl (.by_ 1 true 30 r13 rfl rfl rfl hb34) rfl ?_
          refine rv 35 rfl rfl rfl (q_pickF (v := .bool (false)) (b := r13) rfl rfl hb34 rfl) ?_
          refine ro_nil ?_
          exact ⟨(false), _, arr (upd_step (upd_step rfl rfl) rfl), h⟩

end Go.Proofs.Ytjkmeooncmhonaa.Cf
