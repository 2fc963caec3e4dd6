/- The characteristic formula of a law, and that it is. Printed by gen.py (own tool). -/
import Derived.Test.YtpdaapffkdejoaaGreatFs
namespace Go.Proofs.YtpdaapffkdejoaaGreat.Cf
open Go
set_option maxRecDepth 100000
set_option maxHeartbeats 1000000
set_option linter.unusedVariables false
set_option linter.unusedSimpArgs false

-- moiety/moietylaw15.VaultStays
def F3_j2 (t_25 : Bool) (w26 : World) (R : Bool → World → Prop) : Prop :=
  R t_25 w26
def F3_l1 (more_3 : Slc) (r5 : (Option Addr)) (a10 : Addr) (r13 : Int) (r15 : (Slc × Int)) (i_16 : Int) (w17 : World) (K18 : Int → World → Prop) (R : Bool → World → Prop) : Prop :=
  if ((decide (i_16 < (more_3.len : Int))) && (decide (i_16 < (40 : Int)))) = true then (
    ex (IxA more_3 6 i_16) fun a19 =>
    ex (RdAt T41 a19 w17) fun x20 =>
    cl Tryz.prog 11 [.pointer (r5), T41.enc (x20)] (tInt .i64) w17 fun r22 w21 =>
    K18 ((IntKind.i64.wrap (i_16 + (1 : Int)))) w21
  ) else (
    cl Tryz.prog 10 [.pointer (r5), .int .i64 (r13)] (tTup2 tSlc (tInt .i64)) w17 fun r24 w23 =>
    if (r15.2 == (0 : Int)) = true then (
      if (r24.2 == (0 : Int)) = true then (
        cl Tryz.prog 12 [tSlc.enc (r15.1), tSlc.enc (r24.1)] tBool w23 fun r30 w29 =>
        if r30 = true then (
          F3_j2 true w29 R
        ) else (
          if (r24.2 == (165 : Int)) = true then (
            ex (RdAt T29 (a10.add 0) w29) fun x33 =>
            cl Tryz.prog 13 [T29.enc (x33)] (tInt .i64) w29 fun r35 w34 =>
            F3_j2 (decide (r35 > r13)) w34 R
          ) else (
            F3_j2 false w29 R
          )
        )
      ) else (
        if false = true then (
          F3_j2 true w23 R
        ) else (
          if (r24.2 == (165 : Int)) = true then (
            ex (RdAt T29 (a10.add 0) w23) fun x38 =>
            cl Tryz.prog 13 [T29.enc (x38)] (tInt .i64) w23 fun r40 w39 =>
            F3_j2 (decide (r40 > r13)) w39 R
          ) else (
            F3_j2 false w23 R
          )
        )
      )
    ) else (
      F3_j2 false w23 R
    )
  )
def F3 (rate_1 : Nat) (l_2 : Slc) (more_3 : Slc) (w : World) (R : Bool → World → Prop) : Prop :=
  cl Tryz.prog 7 [.float .f64 (rate_1), tSlc.enc (l_2)] tPtr w fun r5 w4 =>
  cl Tryz.prog 8 [] tBool w4 fun r7 w6 =>
  if ((!r7) || r5.isNone) = true then (
    cl Tryz.prog 8 [] tBool w6 fun r9 w8 =>
    R r9 w8
  ) else (
    ex (NC r5) fun a10 =>
    ex (RdAt T29 (a10.add 0) w6) fun x11 =>
    cl Tryz.prog 9 [T29.enc (x11)] (tInt .i64) w6 fun r13 w12 =>
    cl Tryz.prog 10 [.pointer (r5), .int .i64 (r13)] (tTup2 tSlc (tInt .i64)) w12 fun r15 w14 =>
    lp (fun (s : Int) w K => F3_l1 more_3 r5 a10 r13 r15 s w K R) ((0 : Int)) w14
  )
theorem F3_ok {rate_1 : Nat} {l_2 : Slc} {more_3 : Slc} {w : World} {R : Bool → World → Prop} (h : F3 rate_1 l_2 more_3 w R) : cl Tryz.prog 3 [.float .f64 (rate_1), tSlc.enc (l_2), tSlc.enc (more_3)] tBool w R := by
  unfold F3 at h
  refine calls_start 81 Tryz.func3 rfl rfl (Nat.le_of_ble_eq_true rfl) ?_
  refine wp_seq ?_
  refine wp_text [0] rfl ?_
  refine rv 6 rfl rfl rfl (q_assign (v := .bool (false)) rfl rfl) ?_
  refine ro_nil ?_
  refine wp_seq ?_
  refine wp_text [0, 1, 2, 3] rfl ?_
  refine rv 14 rfl rfl rfl (q_move (v := .float .f64 (rate_1)) rfl rfl) ?_
  refine rv 15 rfl rfl rfl (q_move (v := tSlc.enc (l_2)) rfl rfl) ?_
  refine ro_wp rfl (.free rfl) (wp_cl (d := (some 16)) rfl (q_call (k := 7) (l := [.float .f64 (rate_1), tSlc.enc (l_2)]) rfl ent7 rfl) h ?_)
  intro r5 w4 h
  refine rv 7 rfl rfl rfl (q_assign (v := .pointer (r5)) rfl rfl) ?_
  refine ro_nil ?_
  refine wp_seq ?_
  refine wp_seq ?_
  refine wp_text [0, 1, 2, 3, 4, 5] rfl ?_
  refine ro_wp rfl (.free rfl) (wp_cl (d := (some 17)) rfl (q_call (k := 8) (l := []) rfl ent8 rfl) h ?_)
  intro r7 w6 h
  refine rv 18 rfl rfl rfl (q_not (b := r7) rfl rfl) ?_
  refine rv 19 rfl rfl rfl (q_move (v := .bool ((!r7))) rfl rfl) ?_
  refine ro_gval (g := (!(!r7))) (d := (some 20)) rfl (.no 2 19 true (!r7) rfl rfl rfl rfl) rfl (fun hg => q_move (v := .pointer (r5)) rfl rfl) ?_
  refine ro_gval (g := (!(!r7))) (d := (some 21)) rfl (.no 2 19 true (!r7) rfl rfl rfl rfl) rfl (fun hg => q_eqP0 (a := r5) rfl Tryz.underlying24 (gvb_yes hg) rfl) ?_
  refine rv 22 rfl rfl rfl (q_pickGF (a := (!r7)) (c := r5.isNone) rfl rfl rfl rfl) ?_
  refine ro_nil ?_
  refine wp_if (b := ((!r7) || r5.isNone)) rfl h (fun hb42 h => ?_) (fun hb42 h => ?_)
  · refine wp_seq ?_
    refine wp_text [0, 1] rfl ?_
    refine ro_wp rfl (.free rfl) (wp_cl (d := (some 23)) rfl (q_call (k := 8) (l := []) rfl ent8 rfl) h ?_)
    intro r9 w8 h
    refine rv 6 rfl rfl rfl (q_assign (v := .bool (r9)) rfl rfl) ?_
    refine ro_nil ?_
    refine wp_ret ?_
    exact ret_ok rfl (.cons (.tmp (v := .bool (r9)) rfl) .nil) ⟨r9, rfl, h⟩
  · refine wp_skip ?_
    refine wp_seq ?_
    refine wp_text [0, 1, 2, 3, 4, 5] rfl ?_
    refine rv 24 rfl rfl rfl (q_move (v := .pointer (r5)) rfl rfl) ?_
    obtain ⟨a10, ha10, h⟩ := h
    refine rv 25 rfl rfl rfl (q_nilCheck (a := a10) rfl (congrArg Value.pointer ha10)) ?_
    refine rv 26 rfl rfl rfl (q_fieldAddr (a := a10) (off := 0) rfl Tryz.underlying35 rfl rfl ok30 (by decide) rfl) ?_
    obtain ⟨x11, hx11, h⟩ := h
    refine rv 27 rfl rfl rfl (q_load (T := T29) (u := x11) (a := (a10.add 0)) rfl ok30 rfl hx11) ?_
    refine ro_wp rfl (.free rfl) (wp_cl (d := (some 28)) rfl (q_call (k := 9) (l := [T29.enc (x11)]) rfl ent9 rfl) h ?_)
    intro r13 w12 h
    refine rv 8 rfl rfl rfl (q_assign (v := .int .i64 (r13)) rfl rfl) ?_
    refine ro_nil ?_
    refine wp_seq ?_
    refine wp_text [0, 1, 2, 3, 4, 5, 6, 7] rfl ?_
    refine rv 30 rfl rfl rfl (q_move (v := .pointer (r5)) rfl rfl) ?_
    refine rv 31 rfl rfl rfl (q_move (v := .int .i64 (r13)) rfl rfl) ?_
    refine ro_wp rfl (.free rfl) (wp_cl (d := (some 32)) rfl (q_call (k := 10) (l := [.pointer (r5), .int .i64 (r13)]) rfl ent10 rfl) h ?_)
    intro r15 w14 h
    refine rv 29 rfl rfl rfl (q_move (v := (tTup2 tSlc (tInt .i64)).enc (r15)) rfl rfl) ?_
    refine rv 33 rfl rfl rfl (q_extract (vs := #[tSlc.enc (r15.1), .int .i64 (r15.2)]) (v := tSlc.enc (r15.1)) rfl rfl rfl) ?_
    refine rv 34 rfl rfl rfl (q_extract (vs := #[tSlc.enc (r15.1), .int .i64 (r15.2)]) (v := .int .i64 (r15.2)) rfl rfl rfl) ?_
    refine rv 9 rfl rfl rfl (q_assign (v := tSlc.enc (r15.1)) rfl rfl) ?_
    refine rv 10 rfl rfl rfl (q_assign (v := .int .i64 (r15.2)) rfl rfl) ?_
    refine ro_nil ?_
    refine wp_seq ?_
    refine wp_seq ?_
    refine wp_text [0] rfl ?_
    refine rv 11 rfl rfl rfl (q_assign (v := .int .i64 ((0 : Int))) rfl rfl) ?_
    refine ro_nil ?_
    refine wp_block ?_
    refine loop_at (σ := Int) (fr := fun g (s : Int) => upd (upd (upd (upd (upd (upd (g) 2 (tSlc.enc (more_3))) 7 (.pointer (r5))) 8 (.int .i64 (r13))) 9 (tSlc.enc (r15.1))) 10 (.int .i64 (r15.2))) 11 (.int .i64 (s))) (s0 := ((0 : Int))) (upd_step (upd_step (upd_step (upd_step (upd_step (upd_step rfl rfl) rfl) rfl) rfl) rfl) rfl) h ?_
    rintro i_16 g w17 K18 h
    unfold F3_l1 at h
    refine wp_seq ?_
    refine wp_seq ?_
    refine wp_text [0, 1, 2, 3, 4, 5, 6, 7] rfl ?_
    refine rv 35 rfl rfl rfl (q_move (v := .int .i64 (i_16)) rfl rfl) ?_
    refine rv 36 rfl rfl rfl (q_move (v := tSlc.enc (more_3)) rfl rfl) ?_
    refine rv 37 rfl rfl rfl (q_len (s := more_3) rfl Tryz.underlying23 rfl) ?_
    refine rv 38 rfl rfl rfl (q_lss (a := i_16) (b := (more_3.len : Int)) rfl rfl rfl) ?_
    refine rv 39 rfl rfl rfl (q_move (v := .bool ((decide (i_16 < (more_3.len : Int))))) rfl rfl) ?_
    refine ro_gval (g := (decide (i_16 < (more_3.len : Int)))) (d := (some 40)) rfl (.yes 4 39 true (decide (i_16 < (more_3.len : Int))) rfl rfl rfl rfl) rfl (fun hg => q_move (v := .int .i64 (i_16)) rfl rfl) ?_
    refine ro_gval (g := (decide (i_16 < (more_3.len : Int)))) (d := (some 41)) rfl (.yes 4 39 true (decide (i_16 < (more_3.len : Int))) rfl rfl rfl rfl) rfl (fun hg => q_lss (k := .i64) (a := i_16) (b := (40 : Int)) rfl (gvb_yes hg) rfl) ?_
    refine rv 42 rfl rfl rfl (q_pickGT (a := (decide (i_16 < (more_3.len : Int)))) (b := (decide (i_16 < (40 : Int)))) rfl rfl rfl rfl) ?_
    refine ro_nil ?_
    refine wp_if (b := ((decide (i_16 < (more_3.len : Int))) && (decide (i_16 < (40 : Int))))) rfl h (fun hb41 h => ?_) (fun hb41 h => ?_)
    · refine wp_skip ?_
      refine wp_seq ?_
      refine wp_block ?_
      refine wp_text [0, 1, 2, 3, 4, 5] rfl ?_
      refine rv 45 rfl rfl rfl (q_move (v := .pointer (r5)) rfl rfl) ?_
      refine rv 46 rfl rfl rfl (q_move (v := tSlc.enc (more_3)) rfl rfl) ?_
      refine rv 47 rfl rfl rfl (q_move (v := .int .i64 (i_16)) rfl rfl) ?_
      obtain ⟨a19, ha19, h⟩ := h
      refine rv 48 rfl rfl rfl (q_indexAddr (s := more_3) (k := .i64) (i := i_16) rfl Tryz.underlying23 ok42 rfl rfl ha19) ?_
      obtain ⟨x20, hx20, h⟩ := h
      refine rv 49 rfl rfl rfl (q_load (T := T41) (u := x20) (a := a19) rfl ok42 rfl hx20) ?_
      refine ro_wp rfl (.free rfl) (wp_cl (d := (some 50)) rfl (q_call (k := 11) (l := [.pointer (r5), T41.enc (x20)]) rfl ent11 rfl) h ?_)
      intro r22 w21 h
      refine ro_nil ?_
      refine wp_text [0, 1, 2] rfl ?_
      refine rv 43 rfl rfl rfl (q_move (v := .int .i64 (i_16)) rfl rfl) ?_
      refine rv 44 rfl rfl rfl (q_add (a := i_16) (b := (1 : Int)) rfl rfl rfl) ?_
      refine rv 11 rfl rfl rfl (q_assign (v := .int .i64 ((IntKind.i64.wrap (i_16 + (1 : Int))))) rfl rfl) ?_
      refine ro_nil ?_
      exact ⟨((IntKind.i64.wrap (i_16 + (1 : Int)))), _, arr (upd_step (upd_step (upd_step (upd_step (upd_step (upd_step rfl rfl) rfl) rfl) rfl) rfl) rfl), h⟩
    · refine wp_exit ?_
      refine wp_seq ?_
      refine wp_text [0, 1, 2, 3, 4, 5, 6, 7] rfl ?_
      refine rv 52 rfl rfl rfl (q_move (v := .pointer (r5)) rfl rfl) ?_
      refine rv 53 rfl rfl rfl (q_move (v := .int .i64 (r13)) rfl rfl) ?_
      refine ro_wp rfl (.free rfl) (wp_cl (d := (some 54)) rfl (q_call (k := 10) (l := [.pointer (r5), .int .i64 (r13)]) rfl ent10 rfl) h ?_)
      intro r24 w23 h
      refine rv 51 rfl rfl rfl (q_move (v := (tTup2 tSlc (tInt .i64)).enc (r24)) rfl rfl) ?_
      refine rv 55 rfl rfl rfl (q_extract (vs := #[tSlc.enc (r24.1), .int .i64 (r24.2)]) (v := tSlc.enc (r24.1)) rfl rfl rfl) ?_
      refine rv 56 rfl rfl rfl (q_extract (vs := #[tSlc.enc (r24.1), .int .i64 (r24.2)]) (v := .int .i64 (r24.2)) rfl rfl rfl) ?_
      refine rv 12 rfl rfl rfl (q_assign (v := tSlc.enc (r24.1)) rfl rfl) ?_
      refine rv 13 rfl rfl rfl (q_assign (v := .int .i64 (r24.2)) rfl rfl) ?_
      refine ro_nil ?_
      refine wp_seq ?_
      refine wp_text [0, 1, 2, 3, 4, 5, 6, 7, 8, 9, 10, 11, 12, 13, 14, 15, 16, 17, 18, 19, 20, 21, 22, 23, 24] rfl ?_
      refine rv 57 rfl rfl rfl (q_move (v := .int .i64 (r15.2)) rfl rfl) ?_
      refine rv 58 rfl rfl rfl (q_eql (a := r15.2) (b := (0 : Int)) rfl rfl rfl) ?_
      refine rv 59 rfl rfl rfl (q_move (v := .bool ((r15.2 == (0 : Int)))) rfl rfl) ?_
      refine ro_join (σ := Bool) (J := fun (s : Bool) w => F3_j2 s w R) (fr := fun g (s : Bool) => upd (g) 80 (.bool (s))) [3, 4, 5, 6, 7, 8, 9, 10, 11, 12, 13, 14, 15, 16, 17, 18, 19, 20, 21, 22, 23] [24] ?_ ?_
      · rintro t_25 g w26 h
        unfold F3_j2 at h
        refine rv 6 rfl rfl rfl (q_assign (v := .bool (t_25)) rfl rfl) ?_
        refine ro_nil ?_
        refine wp_ret ?_
        exact ret_ok rfl (.cons (.tmp (v := .bool (t_25)) rfl) .nil) ⟨t_25, rfl, h⟩
      · refine ro_if (b := (r15.2 == (0 : Int))) h (fun hb27 h => ?_) (fun hb27 h => ?_)
        · refine ro_val (d := (some 60)) rfl (.by_ 2 true 59 (r15.2 == (0 : Int)) rfl rfl rfl hb27) rfl (q_move (v := .int .i64 (r24.2)) rfl rfl) ?_
          refine ro_val (d := (some 61)) rfl (.by_ 2 true 59 (r15.2 == (0 : Int)) rfl rfl rfl hb27) rfl (q_eql (a := r24.2) (b := (0 : Int)) rfl rfl rfl) ?_
          refine ro_val (d := (some 62)) rfl (.by_ 2 true 59 (r15.2 == (0 : Int)) rfl rfl rfl hb27) rfl (q_move (v := .bool ((r24.2 == (0 : Int)))) rfl rfl) ?_
          refine ro_if (b := (r24.2 == (0 : Int))) h (fun hb28 h => ?_) (fun hb28 h => ?_)
          · refine ro_val (d := (some 63)) rfl (.by_ 5 true 62 (r24.2 == (0 : Int)) rfl rfl rfl hb28) rfl (q_move (v := tSlc.enc (r15.1)) rfl rfl) ?_
            refine ro_val (d := (some 64)) rfl (.by_ 5 true 62 (r24.2 == (0 : Int)) rfl rfl rfl hb28) rfl (q_move (v := tSlc.enc (r24.1)) rfl rfl) ?_
            refine ro_wp rfl (.by_ 5 true 62 (r24.2 == (0 : Int)) rfl rfl rfl hb28) (wp_cl (d := (some 65)) rfl (q_call (k := 12) (l := [tSlc.enc (r15.1), tSlc.enc (r24.1)]) rfl ent12 rfl) h ?_)
            intro r30 w29 h
            refine ro_val (d := (some 66)) rfl (.by_ 2 true 59 (r15.2 == (0 : Int)) rfl rfl rfl hb27) rfl (q_pickT (v := .bool (r30)) (b := (r24.2 == (0 : Int))) rfl rfl hb28 rfl) ?_
            refine ro_val (d := (some 67)) rfl (.by_ 2 true 59 (r15.2 == (0 : Int)) rfl rfl rfl hb27) rfl (q_move (v := .bool (r30)) rfl rfl) ?_
            refine ro_if (b := r30) h (fun hb31 h => ?_) (fun hb31 h => ?_)
            · refine ro_bar (d := (some 68)) rfl (.by_ 10 false 67 r30 rfl rfl rfl hb31) rfl ?_
              refine ro_bar (d := (some 69)) rfl (.by_ 10 false 67 r30 rfl rfl rfl hb31) rfl ?_
              refine ro_bar (d := (some 70)) rfl (.by_ 10 false 67 r30 rfl rfl rfl hb31) rfl ?_
              refine ro_bar (d := (some 71)) rfl (.undef 13 true 70 rfl rfl rfl) rfl ?_
              refine ro_bar (d := (some 72)) rfl (.undef 13 true 70 rfl rfl rfl) rfl ?_
              refine ro_bar (d := (some 73)) rfl (.undef 13 true 70 rfl rfl rfl) rfl ?_
              refine ro_bar (d := (some 74)) rfl (.undef 13 true 70 rfl rfl rfl) rfl ?_
              refine ro_bar (d := (some 75)) rfl (.undef 13 true 70 rfl rfl rfl) rfl ?_
              refine ro_bar (d := (some 76)) rfl (.undef 13 true 70 rfl rfl rfl) rfl ?_
              refine ro_bar (d := (some 77)) rfl (.undef 13 true 70 rfl rfl rfl) rfl ?_
              refine ro_bar (d := (some 78)) rfl (.by_ 10 false 67 r30 rfl rfl rfl hb31) rfl ?_
              refine ro_val (d := (some 79)) rfl (.by_ 2 true 59 (r15.2 == (0 : Int)) rfl rfl rfl hb27) rfl (q_pickT (v := .bool (true)) (b := r30) rfl rfl hb31 rfl) ?_
              refine rv 80 rfl rfl rfl (q_pickT (v := .bool (true)) (b := (r15.2 == (0 : Int))) rfl rfl hb27 rfl) ?_
              refine ro_nil ?_
              exact ⟨(true), _, arr (upd_step rfl rfl), h⟩
            · refine ro_val (d := (some 68)) rfl (.by_ 10 false 67 r30 rfl rfl rfl hb31) rfl (q_move (v := .int .i64 (r24.2)) rfl rfl) ?_
              refine ro_val (d := (some 69)) rfl (.by_ 10 false 67 r30 rfl rfl rfl hb31) rfl (q_eql (a := r24.2) (b := (165 : Int)) rfl rfl rfl) ?_
              refine ro_val (d := (some 70)) rfl (.by_ 10 false 67 r30 rfl rfl rfl hb31) rfl (q_move (v := .bool ((r24.2 == (165 : Int)))) rfl rfl) ?_
              refine ro_if (b := (r24.2 == (165 : Int))) h (fun hb32 h => ?_) (fun hb32 h => ?_)
              · refine ro_val (d := (some 71)) rfl (.by_ 13 true 70 (r24.2 == (165 : Int)) rfl rfl rfl hb32) rfl (q_move (v := .pointer (r5)) rfl rfl) ?_
                refine ro_val (d := (some 72)) rfl (.by_ 13 true 70 (r24.2 == (165 : Int)) rfl rfl rfl hb32) rfl (q_nilCheck (a := a10) rfl (congrArg Value.pointer ha10)) ?_
                refine ro_val (d := (some 73)) rfl (.by_ 13 true 70 (r24.2 == (165 : Int)) rfl rfl rfl hb32) rfl (q_fieldAddr (a := a10) (off := 0) rfl Tryz.underlying35 rfl rfl ok30 (by decide) rfl) ?_
                obtain ⟨x33, hx33, h⟩ := h
                refine ro_val (d := (some 74)) rfl (.by_ 13 true 70 (r24.2 == (165 : Int)) rfl rfl rfl hb32) rfl (q_load (T := T29) (u := x33) (a := (a10.add 0)) rfl ok30 rfl hx33) ?_
                refine ro_wp rfl (.by_ 13 true 70 (r24.2 == (165 : Int)) rfl rfl rfl hb32) (wp_cl (d := (some 75)) rfl (q_call (k := 13) (l := [T29.enc (x33)]) rfl ent13 rfl) h ?_)
                intro r35 w34 h
                refine ro_val (d := (some 76)) rfl (.by_ 13 true 70 (r24.2 == (165 : Int)) rfl rfl rfl hb32) rfl (q_move (v := .int .i64 (r13)) rfl rfl) ?_
                refine ro_val (d := (some 77)) rfl (.by_ 13 true 70 (r24.2 == (165 : Int)) rfl rfl rfl hb32) rfl (q_gtr (a := r35) (b := r13) rfl rfl rfl) ?_
                refine ro_val (d := (some 78)) rfl (.by_ 10 false 67 r30 rfl rfl rfl hb31) rfl (q_pickT (v := .bool ((decide (r35 > r13)))) (b := (r24.2 == (165 : Int))) rfl rfl hb32 rfl) ?_
                refine ro_val (d := (some 79)) rfl (.by_ 2 true 59 (r15.2 == (0 : Int)) rfl rfl rfl hb27) rfl (q_pickF (v := .bool ((decide (r35 > r13)))) (b := r30) rfl rfl hb31 rfl) ?_
                refine rv 80 rfl rfl rfl (q_pickT (v := .bool ((decide (r35 > r13)))) (b := (r15.2 == (0 : Int))) rfl rfl hb27 rfl) ?_
                refine ro_nil ?_
                exact ⟨((decide (r35 > r13))), _, arr (upd_step rfl rfl), h⟩
              · refine ro_bar (d := (some 71)) rfl (.by_ 13 true 70 (r24.2 == (165 : Int)) rfl rfl rfl hb32) rfl ?_
                refine ro_bar (d := (some 72)) rfl (.by_ 13 true 70 (r24.2 == (165 : Int)) rfl rfl rfl hb32) rfl ?_
                refine ro_bar (d := (some 73)) rfl (.by_ 13 true 70 (r24.2 == (165 : Int)) rfl rfl rfl hb32) rfl ?_
                refine ro_bar (d := (some 74)) rfl (.by_ 13 true 70 (r24.2 == (165 : Int)) rfl rfl rfl hb32) rfl ?_
                refine ro_bar (d := (some 75)) rfl (.by_ 13 true 70 (r24.2 == (165 : Int)) rfl rfl rfl hb32) rfl ?_
                refine ro_bar (d := (some 76)) rfl (.by_ 13 true 70 (r24.2 == (165 : Int)) rfl rfl rfl hb32) rfl ?_
                refine ro_bar (d := (some 77)) rfl (.by_ 13 true 70 (r24.2 == (165 : Int)) rfl rfl rfl hb32) rfl ?_
                refine ro_val (d := (some 78)) rfl (.by_ 10 false 67 r30 rfl rfl rfl hb31) rfl (q_pickF (v := .bool (false)) (b := (r24.2 == (165 : Int))) rfl rfl hb32 rfl) ?_
                refine ro_val (d := (some 79)) rfl (.by_ 2 true 59 (r15.2 == (0 : Int)) rfl rfl rfl hb27) rfl (q_pickF (v := .bool (false)) (b := r30) rfl rfl hb31 rfl) ?_
                refine rv 80 rfl rfl rfl (q_pickT (v := .bool (false)) (b := (r15.2 == (0 : Int))) rfl rfl hb27 rfl) ?_
                refine ro_nil ?_
                exact ⟨(false), _, arr (upd_step rfl rfl), h⟩
          · refine ro_bar (d := (some 63)) rfl (.by_ 5 true 62 (r24.2 == (0 : Int)) rfl rfl rfl hb28) rfl ?_
            refine ro_bar (d := (some 64)) rfl (.by_ 5 true 62 (r24.2 == (0 : Int)) rfl rfl rfl hb28) rfl ?_
            refine ro_bar (d := (some 65)) rfl (.by_ 5 true 62 (r24.2 == (0 : Int)) rfl rfl rfl hb28) rfl ?_
            refine ro_val (d := (some 66)) rfl (.by_ 2 true 59 (r15.2 == (0 : Int)) rfl rfl rfl hb27) rfl (q_pickF (v := .bool (false)) (b := (r24.2 == (0 : Int))) rfl rfl hb28 rfl) ?_
            refine ro_val (d := (some 67)) rfl (.by_ 2 true 59 (r15.2 == (0 : Int)) rfl rfl rfl hb27) rfl (q_move (v := .bool (false)) rfl rfl) ?_
            refine ro_if (b := false) h (fun hb36 h => ?_) (fun hb36 h => ?_)
            · refine ro_bar (d := (some 68)) rfl (.by_ 10 false 67 false rfl rfl rfl hb36) rfl ?_
              refine ro_bar (d := (some 69)) rfl (.by_ 10 false 67 false rfl rfl rfl hb36) rfl ?_
              refine ro_bar (d := (some 70)) rfl (.by_ 10 false 67 false rfl rfl rfl hb36) rfl ?_
              refine ro_bar (d := (some 71)) rfl (.undef 13 true 70 rfl rfl rfl) rfl ?_
              refine ro_bar (d := (some 72)) rfl (.undef 13 true 70 rfl rfl rfl) rfl ?_
              refine ro_bar (d := (some 73)) rfl (.undef 13 true 70 rfl rfl rfl) rfl ?_
              refine ro_bar (d := (some 74)) rfl (.undef 13 true 70 rfl rfl rfl) rfl ?_
              refine ro_bar (d := (some 75)) rfl (.undef 13 true 70 rfl rfl rfl) rfl ?_
              refine ro_bar (d := (some 76)) rfl (.undef 13 true 70 rfl rfl rfl) rfl ?_
              refine ro_bar (d := (some 77)) rfl (.undef 13 true 70 rfl rfl rfl) rfl ?_
              refine ro_bar (d := (some 78)) rfl (.by_ 10 false 67 false rfl rfl rfl hb36) rfl ?_
              refine ro_val (d := (some 79)) rfl (.by_ 2 true 59 (r15.2 == (0 : Int)) rfl rfl rfl hb27) rfl (q_pickT (v := .bool (true)) (b := false) rfl rfl hb36 rfl) ?_
              refine rv 80 rfl rfl rfl (q_pickT (v := .bool (true)) (b := (r15.2 == (0 : Int))) rfl rfl hb27 rfl) ?_
              refine ro_nil ?_
              exact ⟨(true), _, arr (upd_step rfl rfl), h⟩
            · refine ro_val (d := (some 68)) rfl (.by_ 10 false 67 false rfl rfl rfl hb36) rfl (q_move (v := .int .i64 (r24.2)) rfl rfl) ?_
              refine ro_val (d := (some 69)) rfl (.by_ 10 false 67 false rfl rfl rfl hb36) rfl (q_eql (a := r24.2) (b := (165 : Int)) rfl rfl rfl) ?_
              refine ro_val (d := (some 70)) rfl (.by_ 10 false 67 false rfl rfl rfl hb36) rfl (q_move (v := .bool ((r24.2 == (165 : Int)))) rfl rfl) ?_
              refine ro_if (b := (r24.2 == (165 : Int))) h (fun hb37 h => ?_) (fun hb37 h => ?_)
              · refine ro_val (d := (some 71)) rfl (.by_ 13 true 70 (r24.2 == (165 : Int)) rfl rfl rfl hb37) rfl (q_move (v := .pointer (r5)) rfl rfl) ?_
                refine ro_val (d := (some 72)) rfl (.by_ 13 true 70 (r24.2 == (165 : Int)) rfl rfl rfl hb37) rfl (q_nilCheck (a := a10) rfl (congrArg Value.pointer ha10)) ?_
                refine ro_val (d := (some 73)) rfl (.by_ 13 true 70 (r24.2 == (165 : Int)) rfl rfl rfl hb37) rfl (q_fieldAddr (a := a10) (off := 0) rfl Tryz.underlying35 rfl rfl ok30 (by decide) rfl) ?_
                obtain ⟨x38, hx38, h⟩ := h
                refine ro_val (d := (some 74)) rfl (.by_ 13 true 70 (r24.2 == (165 : Int)) rfl rfl rfl hb37) rfl (q_load (T := T29) (u := x38) (a := (a10.add 0)) rfl ok30 rfl hx38) ?_
                refine ro_wp rfl (.by_ 13 true 70 (r24.2 == (165 : Int)) rfl rfl rfl hb37) (wp_cl (d := (some 75)) rfl (q_call (k := 13) (l := [T29.enc (x38)]) rfl ent13 rfl) h ?_)
                intro r40 w39 h
                refine ro_val (d := (some 76)) rfl (.by_ 13 true 70 (r24.2 == (165 : Int)) rfl rfl rfl hb37) rfl (q_move (v := .int .i64 (r13)) rfl rfl) ?_
                refine ro_val (d := (some 77)) rfl (.by_ 13 true 70 (r24.2 == (165 : Int)) rfl rfl rfl hb37) rfl (q_gtr (a := r40) (b := r13) rfl rfl rfl) ?_
                refine ro_val (d := (some 78)) rfl (.by_ 10 false 67 false rfl rfl rfl hb36) rfl (q_pickT (v := .bool ((decide (r40 > r13)))) (b := (r24.2 == (165 : Int))) rfl rfl hb37 rfl) ?_
                refine ro_val (d := (some 79)) rfl (.by_ 2 true 59 (r15.2 == (0 : Int)) rfl rfl rfl hb27) rfl (q_pickF (v := .bool ((decide (r40 > r13)))) (b := false) rfl rfl hb36 rfl) ?_
                refine rv 80 rfl rfl rfl (q_pickT (v := .bool ((decide (r40 > r13)))) (b := (r15.2 == (0 : Int))) rfl rfl hb27 rfl) ?_
                refine ro_nil ?_
                exact ⟨((decide (r40 > r13))), _, arr (upd_step rfl rfl), h⟩
              · refine ro_bar (d := (some 71)) rfl (.by_ 13 true 70 (r24.2 == (165 : Int)) rfl rfl rfl hb37) rfl ?_
                refine ro_bar (d := (some 72)) rfl (.by_ 13 true 70 (r24.2 == (165 : Int)) rfl rfl rfl hb37) rfl ?_
                refine ro_bar (d := (some 73)) rfl (.by_ 13 true 70 (r24.2 == (165 : Int)) rfl rfl rfl hb37) rfl ?_
                refine ro_bar (d := (some 74)) rfl (.by_ 13 true 70 (r24.2 == (165 : Int)) rfl rfl rfl hb37) rfl ?_
                refine ro_bar (d := (some 75)) rfl (.by_ 13 true 70 (r24.2 == (165 : Int)) rfl rfl rfl hb37) rfl ?_
                refine ro_bar (d := (some 76)) rfl (.by_ 13 true 70 (r24.2 == (165 : Int)) rfl rfl rfl hb37) rfl ?_
                refine ro_bar (d := (some 77)) rfl (.by_ 13 true 70 (r24.2 == (165 : Int)) rfl rfl rfl hb37) rfl ?_
                refine ro_val (d := (some 78)) rfl (.by_ 10 false 67 false rfl rfl rfl hb36) rfl (q_pickF (v := .bool (false)) (b := (r24.2 == (165 : Int))) rfl rfl hb37 rfl) ?_
                refine ro_val (d := (some 79)) rfl (.by_ 2 true 59 (r15.2 == (0 : Int)) rfl rfl rfl hb27) rfl (q_pickF (v := .bool (false)) (b := false) rfl rfl hb36 rfl) ?_
                refine rv 80 rfl rfl rfl (q_pickT (v := .bool (false)) (b := (r15.2 == (0 : Int))) rfl rfl hb27 rfl) ?_
                refine ro_nil ?_
                exact ⟨(false), _, arr (upd_step rfl rfl), h⟩
        · refine ro_bar (d := (some 60)) rfl (.by_ 2 true 59 (r15.2 == (0 : Int)) rfl rfl rfl hb27) rfl ?_
          refine ro_bar (d := (some 61)) rfl (.by_ 2 true 59 (r15.2 == (0 : Int)) rfl rfl rfl hb27) rfl ?_
          refine ro_bar (d := (some 62)) rfl (.by_ 2 true 59 (r15.2 == (0 : Int)) rfl rfl rfl hb27) rfl ?_
          refine ro_bar (d := (some 63)) rfl (.undef 5 true 62 rfl rfl rfl) rfl ?_
          refine ro_bar (d := (some 64)) rfl (.undef 5 true 62 rfl rfl rfl) rfl ?_
          refine ro_bar (d := (some 65)) rfl (.undef 5 true 62 rfl rfl rfl) rfl ?_
          refine ro_bar (d := (some 66)) rfl (.by_ 2 true 59 (r15.2 == (0 : Int)) rfl rfl rfl hb27) rfl ?_
          refine ro_bar (d := (some 67)) rfl (.by_ 2 true 59 (r15.2 == (0 : Int)) rfl rfl rfl hb27) rfl ?_
          refine ro_bar (d := (some 68)) rfl (.undef 10 false 67 rfl rfl rfl) rfl ?_
          refine ro_bar (d := (some 69)) rfl (.undef 10 false 67 rfl rfl rfl) rfl ?_
          refine ro_bar (d := (some 70)) rfl (.undef 10 false 67 rfl rfl rfl) rfl ?_
          refine ro_bar (d := (some 71)) rfl (.undef 13 true 70 rfl rfl rfl) rfl ?_
          refine ro_bar (d := (some 72)) rfl (.undef 13 true 70 rfl rfl rfl) rfl ?_
          refine ro_bar (d := (some 73)) rfl (.undef 13 true 70 rfl rfl rfl) rfl ?_
          refine ro_bar (d := (some 74)) rfl (.undef 13 true 70 rfl rfl rfl) rfl ?_
          refine ro_bar (d := (some 75)) rfl (.undef 13 true 70 rfl rfl rfl) rfl ?_
          refine ro_bar (d := (some 76)) rfl (.undef 13 true 70 rfl rfl rfl) rfl ?_
          refine ro_bar (d := (some 77)) rfl (.undef 13 true 70 rfl rfl rfl) rfl ?_
          refine ro_bar (d := (some 78)) rfl (.undef 10 false 67 rfl rfl rfl) rfl ?_
          refine ro_bar (d := (some 79)) rfl (.by_ 2 true 59 (r15.2 == (0 : Int)) rfl rfl rfl hb27) rfl ?_
          refine rv 80 rfl rfl rfl (q_pickF (v := .bool (false)) (b := (r15.2 == (0 : Int))) rfl rfl hb27 rfl) ?_
          refine ro_nil ?_
          exact ⟨(false), _, arr (upd_step rfl rfl), h⟩

end Go.Proofs.YtpdaapffkdejoaaGreat.Cf
