/- Characteristic formulae of Go functions, and that they are. Printed by gen.py (own tool). -/
import Derived.Test.YtdgdkbfigndndaaTy
namespace Go.Proofs.Ytdgdkbfigndndaa.Cf
open Go
set_option maxRecDepth 100000
set_option maxHeartbeats 1000000
set_option linter.unusedVariables false
set_option linter.unusedSimpArgs false

-- moiety/moietylaw12.StoreStays
def F4_j3 (t_21 : Bool) (w22 : World) (R : Bool → World → Prop) : Prop :=
  R t_21 w22
def F4_j2 (at_3 : Int) (r5 : (Option Addr)) (r18 : (Slc × Int)) (t_19 : Bool) (w20 : World) (R : Bool → World → Prop) : Prop :=
  if t_19 = true then (
    F4_j3 true w20 R
  ) else (
    if (r18.2 == (126 : Int)) = true then (
      cl Try.prog 16 [.pointer (r5)] (tInt .i64) w20 fun r26 w25 =>
      F4_j3 (decide (r26 > at_3)) w25 R
    ) else (
      F4_j3 false w20 R
    )
  )
def F4_l1 (more_2 : Slc) (at_3 : Int) (r5 : (Option Addr)) (r9 : (Slc × Int)) (i_10 : Int) (w11 : World) (K12 : Int → World → Prop) (R : Bool → World → Prop) : Prop :=
  if ((decide (i_10 < (more_2.len : Int))) && (decide (i_10 < (30 : Int)))) = true then (
    ex (IxA more_2 4 i_10) fun a13 =>
    ex (RdAt T32 a13 w11) fun x14 =>
    cl Try.prog 22 [.pointer (r5), T32.enc (x14)] tUnit w11 fun r16 w15 =>
    K12 ((IntKind.i64.wrap (i_10 + (1 : Int)))) w15
  ) else (
    cl Try.prog 18 [.pointer (r5), .int .i64 (at_3)] (tTup2 tSlc (tInt .i64)) w11 fun r18 w17 =>
    if (r9.2 != (0 : Int)) = true then (
      R ((r9.1.len : Int) == (0 : Int)) w17
    ) else (
      if (r18.2 == (0 : Int)) = true then (
        cl Try.prog 20 [tSlc.enc (r9.1), tSlc.enc (r18.1)] tBool w17 fun r29 w28 =>
        F4_j2 at_3 r5 r18 r29 w28 R
      ) else (
        F4_j2 at_3 r5 r18 false w17 R
      )
    )
  )
def F4 (l_1 : Slc) (more_2 : Slc) (at_3 : Int) (w : World) (R : Bool → World → Prop) : Prop :=
  cl Try.prog 21 [tSlc.enc (l_1)] tPtr w fun r5 w4 =>
  cl Try.prog 10 [] tBool w4 fun r7 w6 =>
  if ((!r7) || r5.isNone) = true then (
    R false w6
  ) else (
    cl Try.prog 18 [.pointer (r5), .int .i64 (at_3)] (tTup2 tSlc (tInt .i64)) w6 fun r9 w8 =>
    lp (fun (s : Int) w K => F4_l1 more_2 at_3 r5 r9 s w K R) ((0 : Int)) w8
  )
theorem F4_ok {l_1 : Slc} {more_2 : Slc} {at_3 : Int} {w : World} {R : Bool → World → Prop} (h : F4 l_1 more_2 at_3 w R) : cl Try.prog 4 [tSlc.enc (l_1), tSlc.enc (more_2), .int .i64 (at_3)] tBool w R := by
  unfold F4 at h
  refine calls_start 71 Try.func4 rfl rfl (Nat.le_of_ble_eq_true rfl) ?_
  refine wp_seq ?_
  refine wp_text [0] rfl ?_
  refine ro_val (d := (some 6)) rfl (.free rfl) rfl (q_assign (v := .bool (false)) rfl rfl) ?_
  refine ro_nil ?_
  refine wp_seq ?_
  refine wp_text [0, 1, 2] rfl ?_
  refine ro_val (d := (some 13)) rfl (.free rfl) rfl (q_move (v := tSlc.enc (l_1)) rfl rfl) ?_
  refine ro_wp rfl (.free rfl) (wp_cl (d := (some 14)) rfl (q_call (k := 21) (l := [tSlc.enc (l_1)]) rfl ent21 rfl) h ?_)
  intro r5 w4 h
  refine ro_val (d := (some 7)) rfl (.free rfl) rfl (q_assign (v := .pointer (r5)) rfl rfl) ?_
  refine ro_nil ?_
  refine wp_seq ?_
  refine wp_seq ?_
  refine wp_text [0, 1, 2, 3, 4, 5] rfl ?_
  refine ro_wp rfl (.free rfl) (wp_cl (d := (some 15)) rfl (q_call (k := 10) (l := []) rfl ent10 rfl) h ?_)
  intro r7 w6 h
  refine ro_val (d := (some 16)) rfl (.free rfl) rfl (q_not (b := r7) rfl rfl) ?_
  refine ro_val (d := (some 17)) rfl (.free rfl) rfl (q_move (v := .bool ((!r7))) rfl rfl) ?_
  refine ro_gval (g := (!(!r7))) (d := (some 18)) rfl (.no 2 17 true (!r7) rfl rfl rfl rfl) rfl (fun hg => q_move (v := .pointer (r5)) rfl rfl) ?_
  refine ro_gval (g := (!(!r7))) (d := (some 19)) rfl (.no 2 17 true (!r7) rfl rfl rfl rfl) rfl (fun hg => q_eqP0 (a := r5) rfl Try.underlying23 (gvb_yes hg) rfl) ?_
  refine ro_val (d := (some 20)) rfl (.free rfl) rfl (q_pickGF (a := (!r7)) (c := r5.isNone) rfl rfl rfl rfl) ?_
  refine ro_nil ?_
  refine wp_if (b := ((!r7) || r5.isNone)) rfl h (fun hb32 h => ?_) (fun hb32 h => ?_)
  · refine wp_seq ?_
    refine wp_text [0] rfl ?_
    refine ro_val (d := (some 6)) rfl (.free rfl) rfl (q_assign (v := .bool (false)) rfl rfl) ?_
    refine ro_nil ?_
    refine wp_ret ?_
    exact ret_ok rfl (.cons (.tmp (v := .bool (false)) rfl) .nil) ⟨false, rfl, h⟩
  · refine wp_skip ?_
    refine wp_seq ?_
    refine wp_text [0, 1, 2, 3, 4, 5, 6, 7] rfl ?_
    refine ro_val (d := (some 22)) rfl (.free rfl) rfl (q_move (v := .pointer (r5)) rfl rfl) ?_
    refine ro_val (d := (some 23)) rfl (.free rfl) rfl (q_move (v := .int .i64 (at_3)) rfl rfl) ?_
    refine ro_wp rfl (.free rfl) (wp_cl (d := (some 24)) rfl (q_call (k := 18) (l := [.pointer (r5), .int .i64 (at_3)]) rfl ent18 rfl) h ?_)
    intro r9 w8 h
    refine ro_val (d := (some 21)) rfl (.free rfl) rfl (q_move (v := (tTup2 tSlc (tInt .i64)).enc (r9)) rfl rfl) ?_
    refine ro_val (d := (some 25)) rfl (.free rfl) rfl (q_extract (vs := #[tSlc.enc (r9.1), .int .i64 (r9.2)]) (v := tSlc.enc (r9.1)) rfl rfl rfl) ?_
    refine ro_val (d := (some 26)) rfl (.free rfl) rfl (q_extract (vs := #[tSlc.enc (r9.1), .int .i64 (r9.2)]) (v := .int .i64 (r9.2)) rfl rfl rfl) ?_
    refine ro_val (d := (some 8)) rfl (.free rfl) rfl (q_assign (v := tSlc.enc (r9.1)) rfl rfl) ?_
    refine ro_val (d := (some 9)) rfl (.free rfl) rfl (q_assign (v := .int .i64 (r9.2)) rfl rfl) ?_
    refine ro_nil ?_
    refine wp_seq ?_
    refine wp_seq ?_
    refine wp_text [0] rfl ?_
    refine ro_val (d := (some 10)) rfl (.free rfl) rfl (q_assign (v := .int .i64 ((0 : Int))) rfl rfl) ?_
    refine ro_nil ?_
    refine wp_block ?_
    refine loop_at (σ := Int) (fr := fun g (s : Int) => upd (upd (upd (upd (upd (upd (g) 1 (tSlc.enc (more_2))) 2 (.int .i64 (at_3))) 7 (.pointer (r5))) 8 (tSlc.enc (r9.1))) 9 (.int .i64 (r9.2))) 10 (.int .i64 (s))) (s0 := ((0 : Int))) (upd_step (upd_step (upd_step (upd_step (upd_step (upd_step rfl rfl) rfl) rfl) rfl) rfl) rfl) h ?_
    rintro i_10 g w11 K12 h
    unfold F4_l1 at h
    refine wp_seq ?_
    refine wp_seq ?_
    refine wp_text [0, 1, 2, 3, 4, 5, 6, 7] rfl ?_
    refine ro_val (d := (some 27)) rfl (.free rfl) rfl (q_move (v := .int .i64 (i_10)) rfl rfl) ?_
    refine ro_val (d := (some 28)) rfl (.free rfl) rfl (q_move (v := tSlc.enc (more_2)) rfl rfl) ?_
    refine ro_val (d := (some 29)) rfl (.free rfl) rfl (q_len (s := more_2) rfl Try.underlying22 rfl) ?_
    refine ro_val (d := (some 30)) rfl (.free rfl) rfl (q_lss (a := i_10) (b := (more_2.len : Int)) rfl rfl rfl) ?_
    refine ro_val (d := (some 31)) rfl (.free rfl) rfl (q_move (v := .bool ((decide (i_10 < (more_2.len : Int))))) rfl rfl) ?_
    refine ro_gval (g := (decide (i_10 < (more_2.len : Int)))) (d := (some 32)) rfl (.yes 4 31 true (decide (i_10 < (more_2.len : Int))) rfl rfl rfl rfl) rfl (fun hg => q_move (v := .int .i64 (i_10)) rfl rfl) ?_
    refine ro_gval (g := (decide (i_10 < (more_2.len : Int)))) (d := (some 33)) rfl (.yes 4 31 true (decide (i_10 < (more_2.len : Int))) rfl rfl rfl rfl) rfl (fun hg => q_lss (a := i_10) (b := (30 : Int)) rfl (gvb_yes hg) rfl) ?_
    refine ro_val (d := (some 34)) rfl (.free rfl) rfl (q_pickGT (a := (decide (i_10 < (more_2.len : Int)))) (b := (decide (i_10 < (30 : Int)))) rfl rfl rfl rfl) ?_
    refine ro_nil ?_
    refine wp_if (b := ((decide (i_10 < (more_2.len : Int))) && (decide (i_10 < (30 : Int))))) rfl h (fun hb31 h => ?_) (fun hb31 h => ?_)
    · refine wp_skip ?_
      refine wp_seq ?_
      refine wp_block ?_
      refine wp_text [0, 1, 2, 3, 4, 5] rfl ?_
      refine ro_val (d := (some 37)) rfl (.free rfl) rfl (q_move (v := .pointer (r5)) rfl rfl) ?_
      refine ro_val (d := (some 38)) rfl (.free rfl) rfl (q_move (v := tSlc.enc (more_2)) rfl rfl) ?_
      refine ro_val (d := (some 39)) rfl (.free rfl) rfl (q_move (v := .int .i64 (i_10)) rfl rfl) ?_
      obtain ⟨a13, ha13, h⟩ := h
      refine ro_val (d := (some 40)) rfl (.free rfl) rfl (q_indexAddr (s := more_2) (i := i_10) rfl Try.underlying22 ok33 rfl rfl ha13) ?_
      obtain ⟨x14, hx14, h⟩ := h
      refine ro_val (d := (some 41)) rfl (.free rfl) rfl (q_load (T := T32) (u := x14) (a := a13) rfl ok33 rfl hx14) ?_
      refine ro_wp rfl (.free rfl) (wp_cl (d := (some 42)) rfl (q_call (k := 22) (l := [.pointer (r5), T32.enc (x14)]) rfl ent22 rfl) h ?_)
      intro r16 w15 h
      refine ro_nil ?_
      refine wp_text [0, 1, 2] rfl ?_
      refine ro_val (d := (some 35)) rfl (.free rfl) rfl (q_move (v := .int .i64 (i_10)) rfl rfl) ?_
      refine ro_val (d := (some 36)) rfl (.free rfl) rfl (q_add (a := i_10) (b := (1 : Int)) rfl rfl rfl) ?_
      refine ro_val (d := (some 10)) rfl (.free rfl) rfl (q_assign (v := .int .i64 ((IntKind.i64.wrap (i_10 + (1 : Int))))) rfl rfl) ?_
      refine ro_nil ?_
      exact ⟨((IntKind.i64.wrap (i_10 + (1 : Int)))), _, arr (upd_step (upd_step (upd_step (upd_step (upd_step (upd_step rfl rfl) rfl) rfl) rfl) rfl) rfl), h⟩
    · refine wp_exit ?_
      refine wp_seq ?_
      refine wp_text [0, 1, 2, 3, 4, 5, 6, 7] rfl ?_
      refine ro_val (d := (some 44)) rfl (.free rfl) rfl (q_move (v := .pointer (r5)) rfl rfl) ?_
      refine ro_val (d := (some 45)) rfl (.free rfl) rfl (q_move (v := .int .i64 (at_3)) rfl rfl) ?_
      refine ro_wp rfl (.free rfl) (wp_cl (d := (some 46)) rfl (q_call (k := 18) (l := [.pointer (r5), .int .i64 (at_3)]) rfl ent18 rfl) h ?_)
      intro r18 w17 h
      refine ro_val (d := (some 43)) rfl (.free rfl) rfl (q_move (v := (tTup2 tSlc (tInt .i64)).enc (r18)) rfl rfl) ?_
      refine ro_val (d := (some 47)) rfl (.free rfl) rfl (q_extract (vs := #[tSlc.enc (r18.1), .int .i64 (r18.2)]) (v := tSlc.enc (r18.1)) rfl rfl rfl) ?_
      refine ro_val (d := (some 48)) rfl (.free rfl) rfl (q_extract (vs := #[tSlc.enc (r18.1), .int .i64 (r18.2)]) (v := .int .i64 (r18.2)) rfl rfl rfl) ?_
      refine ro_val (d := (some 11)) rfl (.free rfl) rfl (q_assign (v := tSlc.enc (r18.1)) rfl rfl) ?_
      refine ro_val (d := (some 12)) rfl (.free rfl) rfl (q_assign (v := .int .i64 (r18.2)) rfl rfl) ?_
      refine ro_nil ?_
      refine wp_seq ?_
      refine wp_seq ?_
      refine wp_text [0, 1] rfl ?_
      refine ro_val (d := (some 49)) rfl (.free rfl) rfl (q_move (v := .int .i64 (r9.2)) rfl rfl) ?_
      refine ro_val (d := (some 50)) rfl (.free rfl) rfl (q_neq (a := r9.2) (b := (0 : Int)) rfl rfl rfl) ?_
      refine ro_nil ?_
      refine wp_if (b := (r9.2 != (0 : Int))) rfl h (fun hb30 h => ?_) (fun hb30 h => ?_)
      · refine wp_seq ?_
        refine wp_text [0, 1, 2, 3] rfl ?_
        refine ro_val (d := (some 51)) rfl (.free rfl) rfl (q_move (v := tSlc.enc (r9.1)) rfl rfl) ?_
        refine ro_val (d := (some 52)) rfl (.free rfl) rfl (q_len (s := r9.1) rfl Try.underlying31 rfl) ?_
        refine ro_val (d := (some 53)) rfl (.free rfl) rfl (q_eql (a := (r9.1.len : Int)) (b := (0 : Int)) rfl rfl rfl) ?_
        refine ro_val (d := (some 6)) rfl (.free rfl) rfl (q_assign (v := .bool (((r9.1.len : Int) == (0 : Int)))) rfl rfl) ?_
        refine ro_nil ?_
        refine wp_ret ?_
        exact ret_ok rfl (.cons (.tmp (v := .bool (((r9.1.len : Int) == (0 : Int)))) rfl) .nil) ⟨((r9.1.len : Int) == (0 : Int)), rfl, h⟩
      · refine wp_skip ?_
        refine wp_seq ?_
        refine wp_text [0, 1, 2, 3, 4, 5, 6, 7, 8, 9, 10, 11, 12, 13, 14, 15, 16, 17] rfl ?_
        refine ro_val (d := (some 54)) rfl (.free rfl) rfl (q_move (v := .int .i64 (r18.2)) rfl rfl) ?_
        refine ro_val (d := (some 55)) rfl (.free rfl) rfl (q_eql (a := r18.2) (b := (0 : Int)) rfl rfl rfl) ?_
        refine ro_val (d := (some 56)) rfl (.free rfl) rfl (q_move (v := .bool ((r18.2 == (0 : Int)))) rfl rfl) ?_
        refine ro_join (σ := Bool) (J := fun (s : Bool) w => F4_j2 at_3 r5 r18 s w R) (fr := fun g (s : Bool) => upd (upd (upd (upd (g) 2 (.int .i64 (at_3))) 7 (.pointer (r5))) 12 (.int .i64 (r18.2))) 60 (.bool (s))) [3, 4, 5, 6] [7, 8, 9, 10, 11, 12, 13, 14, 15, 16, 17] ?_ ?_
        · rintro t_19 g w20 h
          unfold F4_j2 at h
          refine ro_val (d := (some 61)) rfl (.free rfl) rfl (q_move (v := .bool (t_19)) rfl rfl) ?_
          refine ro_join (σ := Bool) (J := fun (s : Bool) w => F4_j3 s w R) (fr := fun g (s : Bool) => upd (g) 70 (.bool (s))) [8, 9, 10, 11, 12, 13, 14, 15, 16] [17] ?_ ?_
          · rintro t_21 g w22 h
            unfold F4_j3 at h
            refine ro_val (d := (some 6)) rfl (.free rfl) rfl (q_assign (v := .bool (t_21)) rfl rfl) ?_
            refine ro_nil ?_
            refine wp_ret ?_
            exact ret_ok rfl (.cons (.tmp (v := .bool (t_21)) rfl) .nil) ⟨t_21, rfl, h⟩
          · refine ro_if (b := t_19) h (fun hb23 h => ?_) (fun hb23 h => ?_)
            · refine ro_bar (d := (some 62)) rfl (.by_ 7 false 61 t_19 rfl rfl rfl hb23) rfl ?_
              refine ro_bar (d := (some 63)) rfl (.by_ 7 false 61 t_19 rfl rfl rfl hb23) rfl ?_
              refine ro_bar (d := (some 64)) rfl (.by_ 7 false 61 t_19 rfl rfl rfl hb23) rfl ?_
              refine ro_bar (d := (some 65)) rfl (.undef 10 true 64 rfl rfl rfl) rfl ?_
              refine ro_bar (d := (some 66)) rfl (.undef 10 true 64 rfl rfl rfl) rfl ?_
              refine ro_bar (d := (some 67)) rfl (.undef 10 true 64 rfl rfl rfl) rfl ?_
              refine ro_bar (d := (some 68)) rfl (.undef 10 true 64 rfl rfl rfl) rfl ?_
              refine ro_bar (d := (some 69)) rfl (.by_ 7 false 61 t_19 rfl rfl rfl hb23) rfl ?_
              refine ro_val (d := (some 70)) rfl (.free rfl) rfl (q_pickT (v := .bool (true)) (b := t_19) rfl rfl hb23 rfl) ?_
              refine ro_nil ?_
              exact ⟨(true), _, arr (upd_step rfl rfl), h⟩
            · refine ro_val (d := (some 62)) rfl (.by_ 7 false 61 t_19 rfl rfl rfl hb23) rfl (q_move (v := .int .i64 (r18.2)) rfl rfl) ?_
              refine ro_val (d := (some 63)) rfl (.by_ 7 false 61 t_19 rfl rfl rfl hb23) rfl (q_eql (a := r18.2) (b := (126 : Int)) rfl rfl rfl) ?_
              refine ro_val (d := (some 64)) rfl (.by_ 7 false 61 t_19 rfl rfl rfl hb23) rfl (q_move (v := .bool ((r18.2 == (126 : Int)))) rfl rfl) ?_
              refine ro_if (b := (r18.2 == (126 : Int))) h (fun hb24 h => ?_) (fun hb24 h => ?_)
              · refine ro_val (d := (some 65)) rfl (.by_ 10 true 64 (r18.2 == (126 : Int)) rfl rfl rfl hb24) rfl (q_move (v := .pointer (r5)) rfl rfl) ?_
                refine ro_wp rfl (.by_ 10 true 64 (r18.2 == (126 : Int)) rfl rfl rfl hb24) (wp_cl (d := (some 66)) rfl (q_call (k := 16) (l := [.pointer (r5)]) rfl ent16 rfl) h ?_)
                intro r26 w25 h
                refine ro_val (d := (some 67)) rfl (.by_ 10 true 64 (r18.2 == (126 : Int)) rfl rfl rfl hb24) rfl (q_move (v := .int .i64 (at_3)) rfl rfl) ?_
                refine ro_val (d := (some 68)) rfl (.by_ 10 true 64 (r18.2 == (126 : Int)) rfl rfl rfl hb24) rfl (q_gtr (a := r26) (b := at_3) rfl rfl rfl) ?_
                refine ro_val (d := (some 69)) rfl (.by_ 7 false 61 t_19 rfl rfl rfl hb23) rfl (q_pickT (v := .bool ((decide (r26 > at_3)))) (b := (r18.2 == (126 : Int))) rfl rfl hb24 rfl) ?_
                refine ro_val (d := (some 70)) rfl (.free rfl) rfl (q_pickF (v := .bool ((decide (r26 > at_3)))) (b := t_19) rfl rfl hb23 rfl) ?_
                refine ro_nil ?_
                exact ⟨((decide (r26 > at_3))), _, arr (upd_step rfl rfl), h⟩
              · refine ro_bar (d := (some 65)) rfl (.by_ 10 true 64 (r18.2 == (126 : Int)) rfl rfl rfl hb24) rfl ?_
                refine ro_bar (d := (some 66)) rfl (.by_ 10 true 64 (r18.2 == (126 : Int)) rfl rfl rfl hb24) rfl ?_
                refine ro_bar (d := (some 67)) rfl (.by_ 10 true 64 (r18.2 == (126 : Int)) rfl rfl rfl hb24) rfl ?_
                refine ro_bar (d := (some 68)) rfl (.by_ 10 true 64 (r18.2 == (126 : Int)) rfl rfl rfl hb24) rfl ?_
                refine ro_val (d := (some 69)) rfl (.by_ 7 false 61 t_19 rfl rfl rfl hb23) rfl (q_pickF (v := .bool (false)) (b := (r18.2 == (126 : Int))) rfl rfl hb24 rfl) ?_
                refine ro_val (d := (some 70)) rfl (.free rfl) rfl (q_pickF (v := .bool (false)) (b := t_19) rfl rfl hb23 rfl) ?_
                refine ro_nil ?_
                exact ⟨(false), _, arr (upd_step rfl rfl), h⟩
        · refine ro_if (b := (r18.2 == (0 : Int))) h (fun hb27 h => ?_) (fun hb27 h => ?_)
          · refine ro_val (d := (some 57)) rfl (.by_ 2 true 56 (r18.2 == (0 : Int)) rfl rfl rfl hb27) rfl (q_move (v := tSlc.enc (r9.1)) rfl rfl) ?_
            refine ro_val (d := (some 58)) rfl (.by_ 2 true 56 (r18.2 == (0 : Int)) rfl rfl rfl hb27) rfl (q_move (v := tSlc.enc (r18.1)) rfl rfl) ?_
            refine ro_wp rfl (.by_ 2 true 56 (r18.2 == (0 : Int)) rfl rfl rfl hb27) (wp_cl (d := (some 59)) rfl (q_call (k := 20) (l := [tSlc.enc (r9.1), tSlc.enc (r18.1)]) rfl ent20 rfl) h ?_)
            intro r29 w28 h
            refine ro_val (d := (some 60)) rfl (.free rfl) rfl (q_pickT (v := .bool (r29)) (b := (r18.2 == (0 : Int))) rfl rfl hb27 rfl) ?_
            refine ro_nil ?_
            exact ⟨(r29), _, arr (upd_step (upd_step (upd_step (upd_step rfl rfl) rfl) rfl) rfl), h⟩
          · refine ro_bar (d := (some 57)) rfl (.by_ 2 true 56 (r18.2 == (0 : Int)) rfl rfl rfl hb27) rfl ?_
            refine ro_bar (d := (some 58)) rfl (.by_ 2 true 56 (r18.2 == (0 : Int)) rfl rfl rfl hb27) rfl ?_
            refine ro_bar (d := (some 59)) rfl (.by_ 2 true 56 (r18.2 == (0 : Int)) rfl rfl rfl hb27) rfl ?_
            refine ro_val (d := (some 60)) rfl (.free rfl) rfl (q_pickF (v := .bool (false)) (b := (r18.2 == (0 : Int))) rfl rfl hb27 rfl) ?_
            refine ro_nil ?_
            exact ⟨(false), _, arr (upd_step (upd_step (upd_step (upd_step rfl rfl) rfl) rfl) rfl), h⟩

end Go.Proofs.Ytdgdkbfigndndaa.Cf
