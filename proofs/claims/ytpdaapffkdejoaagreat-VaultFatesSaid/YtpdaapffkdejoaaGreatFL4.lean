/- The characteristic formula of a law, and that it is. Printed by gen.py (own tool). -/
import Derived.Test.YtpdaapffkdejoaaGreatFs
namespace Go.Proofs.YtpdaapffkdejoaaGreat.Cf
open Go
set_option maxRecDepth 100000
set_option maxHeartbeats 1000000
set_option linter.unusedVariables false
set_option linter.unusedSimpArgs false

-- moiety/moietylaw15.VaultFates
def F4_j4 (i_10 : Int) (r16 : (Int × Int)) (r25 : (Int × Int)) (t_28 : Bool) (w29 : World) (K12 : Int → World → Prop) (R : Bool → World → Prop) : Prop :=
  if t_28 = true then (
    R false w29
  ) else (
    if (((r16.1 == (1 : Int)) && (r25.1 == (0 : Int))) || ((r16.1 == (0 : Int)) && (r16.2 != (0 : Int)))) = true then (
      R false w29
    ) else (
      K12 ((IntKind.i64.wrap (i_10 + (1 : Int)))) w29
    )
  )
def F4_j3 (r5 : (Option Addr)) (i_10 : Int) (x14 : Int) (r16 : (Int × Int)) (r25 : (Int × Int)) (t_26 : Bool) (w27 : World) (K12 : Int → World → Prop) (R : Bool → World → Prop) : Prop :=
  if t_26 = true then (
    R false w27
  ) else (
    if (r16.1 == (3 : Int)) = true then (
      if ((r25.1 != r16.1) || (r16.2 != (0 : Int))) = true then (
        if true = true then (
          F4_j4 i_10 r16 r25 true w27 K12 R
        ) else (
          cl Tryz.prog 15 [.pointer (r5), .int .i64 ((1125899906842624 : Int)), .int .i64 (x14)] (tInt .i64) w27 fun r36 w35 =>
          F4_j4 i_10 r16 r25 (r36 != (163 : Int)) w35 K12 R
        )
      ) else (
        cl Tryz.prog 16 [.pointer (r5), .int .i64 (x14)] (tInt .i64) w27 fun r38 w37 =>
        if (r38 != (0 : Int)) = true then (
          F4_j4 i_10 r16 r25 true w37 K12 R
        ) else (
          cl Tryz.prog 15 [.pointer (r5), .int .i64 ((1125899906842624 : Int)), .int .i64 (x14)] (tInt .i64) w37 fun r41 w40 =>
          F4_j4 i_10 r16 r25 (r41 != (163 : Int)) w40 K12 R
        )
      )
    ) else (
      F4_j4 i_10 r16 r25 false w27 K12 R
    )
  )
def F4_l2 (more_3 : Slc) (r5 : (Option Addr)) (i_10 : Int) (x14 : Int) (r16 : (Int × Int)) (k_17 : Int) (w18 : World) (K12 : Int → World → Prop) (K19 : Int → World → Prop) (R : Bool → World → Prop) : Prop :=
  if ((decide (k_17 < (more_3.len : Int))) && (decide (k_17 < (10 : Int)))) = true then (
    ex (IxA more_3 6 k_17) fun a20 =>
    ex (RdAt T41 a20 w18) fun x21 =>
    cl Tryz.prog 11 [.pointer (r5), T41.enc (x21)] (tInt .i64) w18 fun r23 w22 =>
    K19 ((IntKind.i64.wrap (k_17 + (1 : Int)))) w22
  ) else (
    cl Tryz.prog 14 [.pointer (r5), .int .i64 (x14)] (tTup2 (tInt .i64) (tInt .i64)) w18 fun r25 w24 =>
    if (r16.1 == (2 : Int)) = true then (
      if ((r25.1 != r16.1) || (r25.2 != r16.2)) = true then (
        if true = true then (
          F4_j3 r5 i_10 x14 r16 r25 true w24 K12 R
        ) else (
          cl Tryz.prog 16 [.pointer (r5), .int .i64 (x14)] (tInt .i64) w24 fun r47 w46 =>
          F4_j3 r5 i_10 x14 r16 r25 (r47 != (157 : Int)) w46 K12 R
        )
      ) else (
        cl Tryz.prog 15 [.pointer (r5), .int .i64 (r16.2), .int .i64 (x14)] (tInt .i64) w24 fun r49 w48 =>
        if (r49 != (0 : Int)) = true then (
          F4_j3 r5 i_10 x14 r16 r25 true w48 K12 R
        ) else (
          cl Tryz.prog 16 [.pointer (r5), .int .i64 (x14)] (tInt .i64) w48 fun r52 w51 =>
          F4_j3 r5 i_10 x14 r16 r25 (r52 != (157 : Int)) w51 K12 R
        )
      )
    ) else (
      F4_j3 r5 i_10 x14 r16 r25 false w24 K12 R
    )
  )
def F4_l1 (l_2 : Slc) (more_3 : Slc) (r5 : (Option Addr)) (i_10 : Int) (w11 : World) (K12 : Int → World → Prop) (R : Bool → World → Prop) : Prop :=
  if ((decide (i_10 < (l_2.len : Int))) && (decide (i_10 < (40 : Int)))) = true then (
    ex (IxA l_2 6 i_10) fun a13 =>
    ex (RdAt (tInt .i64) (a13.add 1) w11) fun x14 =>
    cl Tryz.prog 14 [.pointer (r5), .int .i64 (x14)] (tTup2 (tInt .i64) (tInt .i64)) w11 fun r16 w15 =>
    lp (fun (s : Int) w K => F4_l2 more_3 r5 i_10 x14 r16 s w K12 K R) ((0 : Int)) w15
  ) else (
    R true w11
  )
def F4 (rate_1 : Nat) (l_2 : Slc) (more_3 : Slc) (w : World) (R : Bool → World → Prop) : Prop :=
  cl Tryz.prog 7 [.float .f64 (rate_1), tSlc.enc (l_2)] tPtr w fun r5 w4 =>
  cl Tryz.prog 8 [] tBool w4 fun r7 w6 =>
  if ((!r7) || r5.isNone) = true then (
    cl Tryz.prog 8 [] tBool w6 fun r9 w8 =>
    R r9 w8
  ) else (
    lp (fun (s : Int) w K => F4_l1 l_2 more_3 r5 s w K R) ((0 : Int)) w6
  )
theorem F4_ok {rate_1 : Nat} {l_2 : Slc} {more_3 : Slc} {w : World} {R : Bool → World → Prop} (h : F4 rate_1 l_2 more_3 w R) : cl Tryz.prog 4 [.float .f64 (rate_1), tSlc.enc (l_2), tSlc.enc (more_3)] tBool w R := by
  unfold F4 at h
  refine calls_start 130 Tryz.func4 rfl rfl (Nat.le_of_ble_eq_true rfl) ?_
  refine wp_seq ?_
  refine wp_text [0] rfl ?_
  refine rv 6 rfl rfl rfl (q_assign (v := .bool (false)) rfl rfl) ?_
  refine ro_nil ?_
  refine wp_seq ?_
  refine wp_text [0, 1, 2, 3] rfl ?_
  refine rv 15 rfl rfl rfl (q_move (v := .float .f64 (rate_1)) rfl rfl) ?_
  refine rv 16 rfl rfl rfl (q_move (v := tSlc.enc (l_2)) rfl rfl) ?_
  refine ro_wp rfl (.free rfl) (wp_cl (d := (some 17)) rfl (q_call (k := 7) (l := [.float .f64 (rate_1), tSlc.enc (l_2)]) rfl ent7 rfl) h ?_)
  intro r5 w4 h
  refine rv 7 rfl rfl rfl (q_assign (v := .pointer (r5)) rfl rfl) ?_
  refine ro_nil ?_
  refine wp_seq ?_
  refine wp_seq ?_
  refine wp_text [0, 1, 2, 3, 4, 5] rfl ?_
  refine ro_wp rfl (.free rfl) (wp_cl (d := (some 18)) rfl (q_call (k := 8) (l := []) rfl ent8 rfl) h ?_)
  intro r7 w6 h
  refine rv 19 rfl rfl rfl (q_not (b := r7) rfl rfl) ?_
  refine rv 20 rfl rfl rfl (q_move (v := .bool ((!r7))) rfl rfl) ?_
  refine ro_gval (g := (!(!r7))) (d := (some 21)) rfl (.no 2 20 true (!r7) rfl rfl rfl rfl) rfl (fun hg => q_move (v := .pointer (r5)) rfl rfl) ?_
  refine ro_gval (g := (!(!r7))) (d := (some 22)) rfl (.no 2 20 true (!r7) rfl rfl rfl rfl) rfl (fun hg => q_eqP0 (a := r5) rfl Tryz.underlying24 (gvb_yes hg) rfl) ?_
  refine rv 23 rfl rfl rfl (q_pickGF (a := (!r7)) (c := r5.isNone) rfl rfl rfl rfl) ?_
  refine ro_nil ?_
  refine wp_if (b := ((!r7) || r5.isNone)) rfl h (fun hb55 h => ?_) (fun hb55 h => ?_)
  · refine wp_seq ?_
    refine wp_text [0, 1] rfl ?_
    refine ro_wp rfl (.free rfl) (wp_cl (d := (some 24)) rfl (q_call (k := 8) (l := []) rfl ent8 rfl) h ?_)
    intro r9 w8 h
    refine rv 6 rfl rfl rfl (q_assign (v := .bool (r9)) rfl rfl) ?_
    refine ro_nil ?_
    refine wp_ret ?_
    exact ret_ok rfl (.cons (.tmp (v := .bool (r9)) rfl) .nil) ⟨r9, rfl, h⟩
  · refine wp_skip ?_
    refine wp_seq ?_
    refine wp_seq ?_
    refine wp_text [0] rfl ?_
    refine rv 8 rfl rfl rfl (q_assign (v := .int .i64 ((0 : Int))) rfl rfl) ?_
    refine ro_nil ?_
    refine wp_block ?_
    refine loop_at (σ := Int) (fr := fun g (s : Int) => upd (upd (upd (upd (g) 1 (tSlc.enc (l_2))) 2 (tSlc.enc (more_3))) 7 (.pointer (r5))) 8 (.int .i64 (s))) (s0 := ((0 : Int))) (upd_step (upd_step (upd_step (upd_step rfl rfl) rfl) rfl) rfl) h ?_
    rintro i_10 g w11 K12 h
    unfold F4_l1 at h
    refine wp_seq ?_
    refine wp_seq ?_
    refine wp_text [0, 1, 2, 3, 4, 5, 6, 7] rfl ?_
    refine rv 25 rfl rfl rfl (q_move (v := .int .i64 (i_10)) rfl rfl) ?_
    refine rv 26 rfl rfl rfl (q_move (v := tSlc.enc (l_2)) rfl rfl) ?_
    refine rv 27 rfl rfl rfl (q_len (s := l_2) rfl Tryz.underlying23 rfl) ?_
    refine rv 28 rfl rfl rfl (q_lss (a := i_10) (b := (l_2.len : Int)) rfl rfl rfl) ?_
    refine rv 29 rfl rfl rfl (q_move (v := .bool ((decide (i_10 < (l_2.len : Int))))) rfl rfl) ?_
    refine ro_gval (g := (decide (i_10 < (l_2.len : Int)))) (d := (some 30)) rfl (.yes 4 29 true (decide (i_10 < (l_2.len : Int))) rfl rfl rfl rfl) rfl (fun hg => q_move (v := .int .i64 (i_10)) rfl rfl) ?_
    refine ro_gval (g := (decide (i_10 < (l_2.len : Int)))) (d := (some 31)) rfl (.yes 4 29 true (decide (i_10 < (l_2.len : Int))) rfl rfl rfl rfl) rfl (fun hg => q_lss (k := .i64) (a := i_10) (b := (40 : Int)) rfl (gvb_yes hg) rfl) ?_
    refine rv 32 rfl rfl rfl (q_pickGT (a := (decide (i_10 < (l_2.len : Int)))) (b := (decide (i_10 < (40 : Int)))) rfl rfl rfl rfl) ?_
    refine ro_nil ?_
    refine wp_if (b := ((decide (i_10 < (l_2.len : Int))) && (decide (i_10 < (40 : Int))))) rfl h (fun hb54 h => ?_) (fun hb54 h => ?_)
    · refine wp_skip ?_
      refine wp_seq ?_
      refine wp_block ?_
      refine wp_seq ?_
      refine wp_text [0, 1, 2, 3, 4, 5] rfl ?_
      refine rv 35 rfl rfl rfl (q_move (v := tSlc.enc (l_2)) rfl rfl) ?_
      refine rv 36 rfl rfl rfl (q_move (v := .int .i64 (i_10)) rfl rfl) ?_
      obtain ⟨a13, ha13, h⟩ := h
      refine rv 37 rfl rfl rfl (q_indexAddr (s := l_2) (k := .i64) (i := i_10) rfl Tryz.underlying23 ok42 rfl rfl ha13) ?_
      refine rv 38 rfl rfl rfl (q_fieldAddr (a := a13) (off := 1) rfl Tryz.underlying42 rfl rfl ok3 (by decide) rfl) ?_
      obtain ⟨x14, hx14, h⟩ := h
      refine rv 39 rfl rfl rfl (q_load (T := (tInt .i64)) (u := x14) (a := (a13.add 1)) rfl ok3 rfl hx14) ?_
      refine rv 9 rfl rfl rfl (q_assign (v := .int .i64 (x14)) rfl rfl) ?_
      refine ro_nil ?_
      refine wp_seq ?_
      refine wp_text [0, 1, 2, 3, 4, 5, 6, 7] rfl ?_
      refine rv 41 rfl rfl rfl (q_move (v := .pointer (r5)) rfl rfl) ?_
      refine rv 42 rfl rfl rfl (q_move (v := .int .i64 (x14)) rfl rfl) ?_
      refine ro_wp rfl (.free rfl) (wp_cl (d := (some 43)) rfl (q_call (k := 14) (l := [.pointer (r5), .int .i64 (x14)]) rfl ent14 rfl) h ?_)
      intro r16 w15 h
      refine rv 40 rfl rfl rfl (q_move (v := (tTup2 (tInt .i64) (tInt .i64)).enc (r16)) rfl rfl) ?_
      refine rv 44 rfl rfl rfl (q_extract (vs := #[.int .i64 (r16.1), .int .i64 (r16.2)]) (v := .int .i64 (r16.1)) rfl rfl rfl) ?_
      refine rv 45 rfl rfl rfl (q_extract (vs := #[.int .i64 (r16.1), .int .i64 (r16.2)]) (v := .int .i64 (r16.2)) rfl rfl rfl) ?_
      refine rv 10 rfl rfl rfl (q_assign (v := .int .i64 (r16.1)) rfl rfl) ?_
      refine rv 11 rfl rfl rfl (q_assign (v := .int .i64 (r16.2)) rfl rfl) ?_
      refine ro_nil ?_
      refine wp_seq ?_
      refine wp_seq ?_
      refine wp_text [0] rfl ?_
      refine rv 12 rfl rfl rfl (q_assign (v := .int .i64 ((0 : Int))) rfl rfl) ?_
      refine ro_nil ?_
      refine wp_block ?_
      refine loop_at (σ := Int) (fr := fun g (s : Int) => upd (upd (upd (upd (upd (upd (upd (upd (g) 1 (tSlc.enc (l_2))) 2 (tSlc.enc (more_3))) 7 (.pointer (r5))) 8 (.int .i64 (i_10))) 9 (.int .i64 (x14))) 10 (.int .i64 (r16.1))) 11 (.int .i64 (r16.2))) 12 (.int .i64 (s))) (s0 := ((0 : Int))) (upd_step (upd_step (upd_step (upd_step (upd_step (upd_step (upd_step (upd_step rfl rfl) rfl) rfl) rfl) rfl) rfl) rfl) rfl) h ?_
      rintro k_17 g w18 K19 h
      unfold F4_l2 at h
      refine wp_seq ?_
      refine wp_seq ?_
      refine wp_text [0, 1, 2, 3, 4, 5, 6, 7] rfl ?_
      refine rv 46 rfl rfl rfl (q_move (v := .int .i64 (k_17)) rfl rfl) ?_
      refine rv 47 rfl rfl rfl (q_move (v := tSlc.enc (more_3)) rfl rfl) ?_
      refine rv 48 rfl rfl rfl (q_len (s := more_3) rfl Tryz.underlying23 rfl) ?_
      refine rv 49 rfl rfl rfl (q_lss (a := k_17) (b := (more_3.len : Int)) rfl rfl rfl) ?_
      refine rv 50 rfl rfl rfl (q_move (v := .bool ((decide (k_17 < (more_3.len : Int))))) rfl rfl) ?_
      refine ro_gval (g := (decide (k_17 < (more_3.len : Int)))) (d := (some 51)) rfl (.yes 4 50 true (decide (k_17 < (more_3.len : Int))) rfl rfl rfl rfl) rfl (fun hg => q_move (v := .int .i64 (k_17)) rfl rfl) ?_
      refine ro_gval (g := (decide (k_17 < (more_3.len : Int)))) (d := (some 52)) rfl (.yes 4 50 true (decide (k_17 < (more_3.len : Int))) rfl rfl rfl rfl) rfl (fun hg => q_lss (k := .i64) (a := k_17) (b := (10 : Int)) rfl (gvb_yes hg) rfl) ?_
      refine rv 53 rfl rfl rfl (q_pickGT (a := (decide (k_17 < (more_3.len : Int)))) (b := (decide (k_17 < (10 : Int)))) rfl rfl rfl rfl) ?_
      refine ro_nil ?_
      refine wp_if (b := ((decide (k_17 < (more_3.len : Int))) && (decide (k_17 < (10 : Int))))) rfl h (fun hb53 h => ?_) (fun hb53 h => ?_)
      · refine wp_skip ?_
        refine wp_seq ?_
        refine wp_block ?_
        refine wp_text [0, 1, 2, 3, 4, 5] rfl ?_
        refine rv 56 rfl rfl rfl (q_move (v := .pointer (r5)) rfl rfl) ?_
        refine rv 57 rfl rfl rfl (q_move (v := tSlc.enc (more_3)) rfl rfl) ?_
        refine rv 58 rfl rfl rfl (q_move (v := .int .i64 (k_17)) rfl rfl) ?_
        obtain ⟨a20, ha20, h⟩ := h
        refine rv 59 rfl rfl rfl (q_indexAddr (s := more_3) (k := .i64) (i := k_17) rfl Tryz.underlying23 ok42 rfl rfl ha20) ?_
        obtain ⟨x21, hx21, h⟩ := h
        refine rv 60 rfl rfl rfl (q_load (T := T41) (u := x21) (a := a20) rfl ok42 rfl hx21) ?_
        refine ro_wp rfl (.free rfl) (wp_cl (d := (some 61)) rfl (q_call (k := 11) (l := [.pointer (r5), T41.enc (x21)]) rfl ent11 rfl) h ?_)
        intro r23 w22 h
        refine ro_nil ?_
        refine wp_text [0, 1, 2] rfl ?_
        refine rv 54 rfl rfl rfl (q_move (v := .int .i64 (k_17)) rfl rfl) ?_
        refine rv 55 rfl rfl rfl (q_add (a := k_17) (b := (1 : Int)) rfl rfl rfl) ?_
        refine rv 12 rfl rfl rfl (q_assign (v := .int .i64 ((IntKind.i64.wrap (k_17 + (1 : Int))))) rfl rfl) ?_
        refine ro_nil ?_
        exact ⟨((IntKind.i64.wrap (k_17 + (1 : Int)))), _, arr (upd_step (upd_step (upd_step (upd_step (upd_step (upd_step (upd_step (upd_step rfl rfl) rfl) rfl) rfl) rfl) rfl) rfl) rfl), h⟩
      · refine wp_exit ?_
        refine wp_seq ?_
        refine wp_text [0, 1, 2, 3, 4, 5, 6, 7] rfl ?_
        refine rv 63 rfl rfl rfl (q_move (v := .pointer (r5)) rfl rfl) ?_
        refine rv 64 rfl rfl rfl (q_move (v := .int .i64 (x14)) rfl rfl) ?_
        refine ro_wp rfl (.free rfl) (wp_cl (d := (some 65)) rfl (q_call (k := 14) (l := [.pointer (r5), .int .i64 (x14)]) rfl ent14 rfl) h ?_)
        intro r25 w24 h
        refine rv 62 rfl rfl rfl (q_move (v := (tTup2 (tInt .i64) (tInt .i64)).enc (r25)) rfl rfl) ?_
        refine rv 66 rfl rfl rfl (q_extract (vs := #[.int .i64 (r25.1), .int .i64 (r25.2)]) (v := .int .i64 (r25.1)) rfl rfl rfl) ?_
        refine rv 67 rfl rfl rfl (q_extract (vs := #[.int .i64 (r25.1), .int .i64 (r25.2)]) (v := .int .i64 (r25.2)) rfl rfl rfl) ?_
        refine rv 13 rfl rfl rfl (q_assign (v := .int .i64 (r25.1)) rfl rfl) ?_
        refine rv 14 rfl rfl rfl (q_assign (v := .int .i64 (r25.2)) rfl rfl) ?_
        refine ro_nil ?_
        refine wp_seq ?_
        refine wp_seq ?_
        refine wp_text [0, 1, 2, 3, 4, 5, 6, 7, 8, 9, 10, 11, 12, 13, 14, 15, 16, 17, 18, 19, 20, 21, 22, 23, 24] rfl ?_
        refine rv 68 rfl rfl rfl (q_move (v := .int .i64 (r16.1)) rfl rfl) ?_
        refine rv 69 rfl rfl rfl (q_eql (a := r16.1) (b := (2 : Int)) rfl rfl rfl) ?_
        refine rv 70 rfl rfl rfl (q_move (v := .bool ((r16.1 == (2 : Int)))) rfl rfl) ?_
        refine ro_join (σ := Bool) (J := fun (s : Bool) w => F4_j3 r5 i_10 x14 r16 r25 s w K12 R) (fr := fun g (s : Bool) => upd (upd (upd (upd (upd (upd (upd (upd (upd (g) 1 (tSlc.enc (l_2))) 2 (tSlc.enc (more_3))) 7 (.pointer (r5))) 8 (.int .i64 (i_10))) 9 (.int .i64 (x14))) 10 (.int .i64 (r16.1))) 11 (.int .i64 (r16.2))) 13 (.int .i64 (r25.1))) 92 (.bool (s))) [3, 4, 5, 6, 7, 8, 9, 10, 11, 12, 13, 14, 15, 16, 17, 18, 19, 20, 21, 22, 23, 24] [] ?_ ?_
        · rintro t_26 g w27 h
          unfold F4_j3 at h
          refine ro_nil ?_
          refine wp_if (b := t_26) rfl h (fun hb42 h => ?_) (fun hb42 h => ?_)
          · refine wp_seq ?_
            refine wp_text [0] rfl ?_
            refine rv 6 rfl rfl rfl (q_assign (v := .bool (false)) rfl rfl) ?_
            refine ro_nil ?_
            refine wp_ret ?_
            exact ret_ok rfl (.cons (.tmp (v := .bool (false)) rfl) .nil) ⟨false, rfl, h⟩
          · refine wp_skip ?_
            refine wp_seq ?_
            refine wp_seq ?_
            refine wp_text [0, 1, 2, 3, 4, 5, 6, 7, 8, 9, 10, 11, 12, 13, 14, 15, 16, 17, 18, 19, 20, 21, 22] rfl ?_
            refine rv 93 rfl rfl rfl (q_move (v := .int .i64 (r16.1)) rfl rfl) ?_
            refine rv 94 rfl rfl rfl (q_eql (a := r16.1) (b := (3 : Int)) rfl rfl rfl) ?_
            refine rv 95 rfl rfl rfl (q_move (v := .bool ((r16.1 == (3 : Int)))) rfl rfl) ?_
            refine ro_join (σ := Bool) (J := fun (s : Bool) w => F4_j4 i_10 r16 r25 s w K12 R) (fr := fun g (s : Bool) => upd (upd (upd (upd (upd (upd (upd (upd (g) 1 (tSlc.enc (l_2))) 2 (tSlc.enc (more_3))) 7 (.pointer (r5))) 8 (.int .i64 (i_10))) 10 (.int .i64 (r16.1))) 11 (.int .i64 (r16.2))) 13 (.int .i64 (r25.1))) 115 (.bool (s))) [3, 4, 5, 6, 7, 8, 9, 10, 11, 12, 13, 14, 15, 16, 17, 18, 19, 20, 21, 22] [] ?_ ?_
            · rintro t_28 g w29 h
              unfold F4_j4 at h
              refine ro_nil ?_
              refine wp_if (b := t_28) rfl h (fun hb31 h => ?_) (fun hb31 h => ?_)
              · refine wp_seq ?_
                refine wp_text [0] rfl ?_
                refine rv 6 rfl rfl rfl (q_assign (v := .bool (false)) rfl rfl) ?_
                refine ro_nil ?_
                refine wp_ret ?_
                exact ret_ok rfl (.cons (.tmp (v := .bool (false)) rfl) .nil) ⟨false, rfl, h⟩
              · refine wp_skip ?_
                refine wp_seq ?_
                refine wp_text [0, 1, 2, 3, 4, 5, 6, 7, 8, 9, 10, 11, 12, 13] rfl ?_
                refine rv 116 rfl rfl rfl (q_move (v := .int .i64 (r16.1)) rfl rfl) ?_
                refine rv 117 rfl rfl rfl (q_eql (a := r16.1) (b := (1 : Int)) rfl rfl rfl) ?_
                refine rv 118 rfl rfl rfl (q_move (v := .bool ((r16.1 == (1 : Int)))) rfl rfl) ?_
                refine ro_gval (g := (r16.1 == (1 : Int))) (d := (some 119)) rfl (.yes 2 118 true (r16.1 == (1 : Int)) rfl rfl rfl rfl) rfl (fun hg => q_move (v := .int .i64 (r25.1)) rfl rfl) ?_
                refine ro_gval (g := (r16.1 == (1 : Int))) (d := (some 120)) rfl (.yes 2 118 true (r16.1 == (1 : Int)) rfl rfl rfl rfl) rfl (fun hg => q_eql (k := .i64) (a := r25.1) (b := (0 : Int)) rfl (gvb_yes hg) rfl) ?_
                refine rv 121 rfl rfl rfl (q_pickGT (a := (r16.1 == (1 : Int))) (b := (r25.1 == (0 : Int))) rfl rfl rfl rfl) ?_
                refine rv 122 rfl rfl rfl (q_move (v := .bool (((r16.1 == (1 : Int)) && (r25.1 == (0 : Int))))) rfl rfl) ?_
                refine ro_gval (g := (!((r16.1 == (1 : Int)) && (r25.1 == (0 : Int))))) (d := (some 123)) rfl (.no 6 122 true ((r16.1 == (1 : Int)) && (r25.1 == (0 : Int))) rfl rfl rfl rfl) rfl (fun hg => q_move (v := .int .i64 (r16.1)) rfl rfl) ?_
                refine ro_gval (g := (!((r16.1 == (1 : Int)) && (r25.1 == (0 : Int))))) (d := (some 124)) rfl (.no 6 122 true ((r16.1 == (1 : Int)) && (r25.1 == (0 : Int))) rfl rfl rfl rfl) rfl (fun hg => q_eql (k := .i64) (a := r16.1) (b := (0 : Int)) rfl (gvb_yes hg) rfl) ?_
                refine ro_gval (g := (!((r16.1 == (1 : Int)) && (r25.1 == (0 : Int))))) (d := (some 125)) rfl (.no 6 122 true ((r16.1 == (1 : Int)) && (r25.1 == (0 : Int))) rfl rfl rfl rfl) rfl (fun hg => q_move (v := .bool ((r16.1 == (0 : Int)))) rfl (gvb_yes hg)) ?_
                refine ro_gval (g := ((!((r16.1 == (1 : Int)) && (r25.1 == (0 : Int)))) && (r16.1 == (0 : Int)))) (d := (some 126)) rfl (.yes 9 125 (!((r16.1 == (1 : Int)) && (r25.1 == (0 : Int)))) (r16.1 == (0 : Int)) rfl rfl rfl rfl) rfl (fun hg => q_move (v := .int .i64 (r16.2)) rfl rfl) ?_
                refine ro_gval (g := ((!((r16.1 == (1 : Int)) && (r25.1 == (0 : Int)))) && (r16.1 == (0 : Int)))) (d := (some 127)) rfl (.yes 9 125 (!((r16.1 == (1 : Int)) && (r25.1 == (0 : Int)))) (r16.1 == (0 : Int)) rfl rfl rfl rfl) rfl (fun hg => q_neq (k := .i64) (a := r16.2) (b := (0 : Int)) rfl (gvb_yes hg) rfl) ?_
                refine ro_gval (g := (!((r16.1 == (1 : Int)) && (r25.1 == (0 : Int))))) (d := (some 128)) rfl (.no 6 122 true ((r16.1 == (1 : Int)) && (r25.1 == (0 : Int))) rfl rfl rfl rfl) rfl (fun hg => q_pickNT (g0 := (!((r16.1 == (1 : Int)) && (r25.1 == (0 : Int))))) (a := (r16.1 == (0 : Int))) (b := (r16.2 != (0 : Int))) hg rfl rfl rfl rfl) ?_
                refine rv 129 rfl rfl rfl (q_pickGF (a := ((r16.1 == (1 : Int)) && (r25.1 == (0 : Int)))) (c := ((r16.1 == (0 : Int)) && (r16.2 != (0 : Int)))) rfl rfl rfl rfl) ?_
                refine ro_nil ?_
                refine wp_if (b := (((r16.1 == (1 : Int)) && (r25.1 == (0 : Int))) || ((r16.1 == (0 : Int)) && (r16.2 != (0 : Int))))) rfl h (fun hb30 h => ?_) (fun hb30 h => ?_)
                · refine wp_seq ?_
                  refine wp_text [0] rfl ?_
                  refine rv 6 rfl rfl rfl (q_assign (v := .bool (false)) rfl rfl) ?_
                  refine ro_nil ?_
                  refine wp_ret ?_
                  exact ret_ok rfl (.cons (.tmp (v := .bool (false)) rfl) .nil) ⟨false, rfl, h⟩
                · refine wp_skip ?_
                  refine wp_text [0, 1, 2] rfl ?_
                  refine rv 33 rfl rfl rfl (q_move (v := .int .i64 (i_10)) rfl rfl) ?_
                  refine rv 34 rfl rfl rfl (q_add (a := i_10) (b := (1 : Int)) rfl rfl rfl) ?_
                  refine rv 8 rfl rfl rfl (q_assign (v := .int .i64 ((IntKind.i64.wrap (i_10 + (1 : Int))))) rfl rfl) ?_
                  refine ro_nil ?_
                  exact ⟨((IntKind.i64.wrap (i_10 + (1 : Int)))), _, arr (upd_step (upd_step (upd_step (upd_step rfl rfl) rfl) rfl) rfl), h⟩
            · refine ro_if (b := (r16.1 == (3 : Int))) h (fun hb32 h => ?_) (fun hb32 h => ?_)
              · refine ro_val (d := (some 96)) rfl (.by_ 2 true 95 (r16.1 == (3 : Int)) rfl rfl rfl hb32) rfl (q_move (v := .int .i64 (r25.1)) rfl rfl) ?_
                refine ro_val (d := (some 97)) rfl (.by_ 2 true 95 (r16.1 == (3 : Int)) rfl rfl rfl hb32) rfl (q_move (v := .int .i64 (r16.1)) rfl rfl) ?_
                refine ro_val (d := (some 98)) rfl (.by_ 2 true 95 (r16.1 == (3 : Int)) rfl rfl rfl hb32) rfl (q_neq (a := r25.1) (b := r16.1) rfl rfl rfl) ?_
                refine ro_val (d := (some 99)) rfl (.by_ 2 true 95 (r16.1 == (3 : Int)) rfl rfl rfl hb32) rfl (q_move (v := .bool ((r25.1 != r16.1))) rfl rfl) ?_
                refine ro_gval (g := (!(r25.1 != r16.1))) (d := (some 100)) rfl (.no 6 99 true (r25.1 != r16.1) rfl rfl rfl rfl) rfl (fun hg => q_move (v := .int .i64 (r16.2)) rfl rfl) ?_
                refine ro_gval (g := (!(r25.1 != r16.1))) (d := (some 101)) rfl (.no 6 99 true (r25.1 != r16.1) rfl rfl rfl rfl) rfl (fun hg => q_neq (k := .i64) (a := r16.2) (b := (0 : Int)) rfl (gvb_yes hg) rfl) ?_
                refine ro_val (d := (some 102)) rfl (.by_ 2 true 95 (r16.1 == (3 : Int)) rfl rfl rfl hb32) rfl (q_pickGF (a := (r25.1 != r16.1)) (c := (r16.2 != (0 : Int))) rfl rfl rfl rfl) ?_
                refine ro_val (d := (some 103)) rfl (.by_ 2 true 95 (r16.1 == (3 : Int)) rfl rfl rfl hb32) rfl (q_move (v := .bool (((r25.1 != r16.1) || (r16.2 != (0 : Int))))) rfl rfl) ?_
                refine ro_if (b := ((r25.1 != r16.1) || (r16.2 != (0 : Int)))) h (fun hb33 h => ?_) (fun hb33 h => ?_)
                · refine ro_bar (d := (some 104)) rfl (.by_ 10 false 103 ((r25.1 != r16.1) || (r16.2 != (0 : Int))) rfl rfl rfl hb33) rfl ?_
                  refine ro_bar (d := (some 105)) rfl (.by_ 10 false 103 ((r25.1 != r16.1) || (r16.2 != (0 : Int))) rfl rfl rfl hb33) rfl ?_
                  refine ro_bar (d := (some 106)) rfl (.by_ 10 false 103 ((r25.1 != r16.1) || (r16.2 != (0 : Int))) rfl rfl rfl hb33) rfl ?_
                  refine ro_bar (d := (some 107)) rfl (.by_ 10 false 103 ((r25.1 != r16.1) || (r16.2 != (0 : Int))) rfl rfl rfl hb33) rfl ?_
                  refine ro_val (d := (some 108)) rfl (.by_ 2 true 95 (r16.1 == (3 : Int)) rfl rfl rfl hb32) rfl (q_pickT (v := .bool (true)) (b := ((r25.1 != r16.1) || (r16.2 != (0 : Int)))) rfl rfl hb33 rfl) ?_
                  refine ro_val (d := (some 109)) rfl (.by_ 2 true 95 (r16.1 == (3 : Int)) rfl rfl rfl hb32) rfl (q_move (v := .bool (true)) rfl rfl) ?_
                  refine ro_if (b := true) h (fun hb34 h => ?_) (fun hb34 h => ?_)
                  · refine ro_bar (d := (some 110)) rfl (.by_ 16 false 109 true rfl rfl rfl hb34) rfl ?_
                    refine ro_bar (d := (some 111)) rfl (.by_ 16 false 109 true rfl rfl rfl hb34) rfl ?_
                    refine ro_bar (d := (some 112)) rfl (.by_ 16 false 109 true rfl rfl rfl hb34) rfl ?_
                    refine ro_bar (d := (some 113)) rfl (.by_ 16 false 109 true rfl rfl rfl hb34) rfl ?_
                    refine ro_val (d := (some 114)) rfl (.by_ 2 true 95 (r16.1 == (3 : Int)) rfl rfl rfl hb32) rfl (q_pickT (v := .bool (true)) (b := true) rfl rfl hb34 rfl) ?_
                    refine rv 115 rfl rfl rfl (q_pickT (v := .bool (true)) (b := (r16.1 == (3 : Int))) rfl rfl hb32 rfl) ?_
                    refine ro_nil ?_
                    exact ⟨(true), _, arr (upd_step (upd_step (upd_step (upd_step (upd_step (upd_step (upd_step (upd_step rfl rfl) rfl) rfl) rfl) rfl) rfl) rfl) rfl), h⟩
                  · refine ro_val (d := (some 110)) rfl (.by_ 16 false 109 true rfl rfl rfl hb34) rfl (q_move (v := .pointer (r5)) rfl rfl) ?_
                    refine ro_val (d := (some 111)) rfl (.by_ 16 false 109 true rfl rfl rfl hb34) rfl (q_move (v := .int .i64 (x14)) rfl rfl) ?_
                    refine ro_wp rfl (.by_ 16 false 109 true rfl rfl rfl hb34) (wp_cl (d := (some 112)) rfl (q_call (k := 15) (l := [.pointer (r5), .int .i64 ((1125899906842624 : Int)), .int .i64 (x14)]) rfl ent15 rfl) h ?_)
                    intro r36 w35 h
                    refine ro_val (d := (some 113)) rfl (.by_ 16 false 109 true rfl rfl rfl hb34) rfl (q_neq (a := r36) (b := (163 : Int)) rfl rfl rfl) ?_
                    refine ro_val (d := (some 114)) rfl (.by_ 2 true 95 (r16.1 == (3 : Int)) rfl rfl rfl hb32) rfl (q_pickF (v := .bool ((r36 != (163 : Int)))) (b := true) rfl rfl hb34 rfl) ?_
                    refine rv 115 rfl rfl rfl (q_pickT (v := .bool ((r36 != (163 : Int)))) (b := (r16.1 == (3 : Int))) rfl rfl hb32 rfl) ?_
                    refine ro_nil ?_
                    exact ⟨((r36 != (163 : Int))), _, arr (upd_step (upd_step (upd_step (upd_step (upd_step (upd_step (upd_step (upd_step rfl rfl) rfl) rfl) rfl) rfl) rfl) rfl) rfl), h⟩
                · refine ro_val (d := (some 104)) rfl (.by_ 10 false 103 ((r25.1 != r16.1) || (r16.2 != (0 : Int))) rfl rfl rfl hb33) rfl (q_move (v := .pointer (r5)) rfl rfl) ?_
                  refine ro_val (d := (some 105)) rfl (.by_ 10 false 103 ((r25.1 != r16.1) || (r16.2 != (0 : Int))) rfl rfl rfl hb33) rfl (q_move (v := .int .i64 (x14)) rfl rfl) ?_
                  refine ro_wp rfl (.by_ 10 false 103 ((r25.1 != r16.1) || (r16.2 != (0 : Int))) rfl rfl rfl hb33) (wp_cl (d := (some 106)) rfl (q_call (k := 16) (l := [.pointer (r5), .int .i64 (x14)]) rfl ent16 rfl) h ?_)
                  intro r38 w37 h
                  refine ro_val (d := (some 107)) rfl (.by_ 10 false 103 ((r25.1 != r16.1) || (r16.2 != (0 : Int))) rfl rfl rfl hb33) rfl (q_neq (a := r38) (b := (0 : Int)) rfl rfl rfl) ?_
                  refine ro_val (d := (some 108)) rfl (.by_ 2 true 95 (r16.1 == (3 : Int)) rfl rfl rfl hb32) rfl (q_pickF (v := .bool ((r38 != (0 : Int)))) (b := ((r25.1 != r16.1) || (r16.2 != (0 : Int)))) rfl rfl hb33 rfl) ?_
                  refine ro_val (d := (some 109)) rfl (.by_ 2 true 95 (r16.1 == (3 : Int)) rfl rfl rfl hb32) rfl (q_move (v := .bool ((r38 != (0 : Int)))) rfl rfl) ?_
                  refine ro_if (b := (r38 != (0 : Int))) h (fun hb39 h => ?_) (fun hb39 h => ?_)
                  · refine ro_bar (d := (some 110)) rfl (.by_ 16 false 109 (r38 != (0 : Int)) rfl rfl rfl hb39) rfl ?_
                    refine ro_bar (d := (some 111)) rfl (.by_ 16 false 109 (r38 != (0 : Int)) rfl rfl rfl hb39) rfl ?_
                    refine ro_bar (d := (some 112)) rfl (.by_ 16 false 109 (r38 != (0 : Int)) rfl rfl rfl hb39) rfl ?_
                    refine ro_bar (d := (some 113)) rfl (.by_ 16 false 109 (r38 != (0 : Int)) rfl rfl rfl hb39) rfl ?_
                    refine ro_val (d := (some 114)) rfl (.by_ 2 true 95 (r16.1 == (3 : Int)) rfl rfl rfl hb32) rfl (q_pickT (v := .bool (true)) (b := (r38 != (0 : Int))) rfl rfl hb39 rfl) ?_
                    refine rv 115 rfl rfl rfl (q_pickT (v := .bool (true)) (b := (r16.1 == (3 : Int))) rfl rfl hb32 rfl) ?_
                    refine ro_nil ?_
                    exact ⟨(true), _, arr (upd_step (upd_step (upd_step (upd_step (upd_step (upd_step (upd_step (upd_step rfl rfl) rfl) rfl) rfl) rfl) rfl) rfl) rfl), h⟩
                  · refine ro_val (d := (some 110)) rfl (.by_ 16 false 109 (r38 != (0 : Int)) rfl rfl rfl hb39) rfl (q_move (v := .pointer (r5)) rfl rfl) ?_
                    refine ro_val (d := (some 111)) rfl (.by_ 16 false 109 (r38 != (0 : Int)) rfl rfl rfl hb39) rfl (q_move (v := .int .i64 (x14)) rfl rfl) ?_
                    refine ro_wp rfl (.by_ 16 false 109 (r38 != (0 : Int)) rfl rfl rfl hb39) (wp_cl (d := (some 112)) rfl (q_call (k := 15) (l := [.pointer (r5), .int .i64 ((1125899906842624 : Int)), .int .i64 (x14)]) rfl ent15 rfl) h ?_)
                    intro r41 w40 h
                    refine ro_val (d := (some 113)) rfl (.by_ 16 false 109 (r38 != (0 : Int)) rfl rfl rfl hb39) rfl (q_neq (a := r41) (b := (163 : Int)) rfl rfl rfl) ?_
                    refine ro_val (d := (some 114)) rfl (.by_ 2 true 95 (r16.1 == (3 : Int)) rfl rfl rfl hb32) rfl (q_pickF (v := .bool ((r41 != (163 : Int)))) (b := (r38 != (0 : Int))) rfl rfl hb39 rfl) ?_
                    refine rv 115 rfl rfl rfl (q_pickT (v := .bool ((r41 != (163 : Int)))) (b := (r16.1 == (3 : Int))) rfl rfl hb32 rfl) ?_
                    refine ro_nil ?_
                    exact ⟨((r41 != (163 : Int))), _, arr (upd_step (upd_step (upd_step (upd_step (upd_step (upd_step (upd_step (upd_step rfl rfl) rfl) rfl) rfl) rfl) rfl) rfl) rfl), h⟩
              · refine ro_bar (d := (some 96)) rfl (.by_ 2 true 95 (r16.1 == (3 : Int)) rfl rfl rfl hb32) rfl ?_
                refine ro_bar (d := (some 97)) rfl (.by_ 2 true 95 (r16.1 == (3 : Int)) rfl rfl rfl hb32) rfl ?_
                refine ro_bar (d := (some 98)) rfl (.by_ 2 true 95 (r16.1 == (3 : Int)) rfl rfl rfl hb32) rfl ?_
                refine ro_bar (d := (some 99)) rfl (.by_ 2 true 95 (r16.1 == (3 : Int)) rfl rfl rfl hb32) rfl ?_
                refine ro_bar (d := (some 100)) rfl (.undef 6 false 99 rfl rfl rfl) rfl ?_
                refine ro_bar (d := (some 101)) rfl (.undef 6 false 99 rfl rfl rfl) rfl ?_
                refine ro_bar (d := (some 102)) rfl (.by_ 2 true 95 (r16.1 == (3 : Int)) rfl rfl rfl hb32) rfl ?_
                refine ro_bar (d := (some 103)) rfl (.by_ 2 true 95 (r16.1 == (3 : Int)) rfl rfl rfl hb32) rfl ?_
                refine ro_bar (d := (some 104)) rfl (.undef 10 false 103 rfl rfl rfl) rfl ?_
                refine ro_bar (d := (some 105)) rfl (.undef 10 false 103 rfl rfl rfl) rfl ?_
                refine ro_bar (d := (some 106)) rfl (.undef 10 false 103 rfl rfl rfl) rfl ?_
                refine ro_bar (d := (some 107)) rfl (.undef 10 false 103 rfl rfl rfl) rfl ?_
                refine ro_bar (d := (some 108)) rfl (.by_ 2 true 95 (r16.1 == (3 : Int)) rfl rfl rfl hb32) rfl ?_
                refine ro_bar (d := (some 109)) rfl (.by_ 2 true 95 (r16.1 == (3 : Int)) rfl rfl rfl hb32) rfl ?_
                refine ro_bar (d := (some 110)) rfl (.undef 16 false 109 rfl rfl rfl) rfl ?_
                refine ro_bar (d := (some 111)) rfl (.undef 16 false 109 rfl rfl rfl) rfl ?_
                refine ro_bar (d := (some 112)) rfl (.undef 16 false 109 rfl rfl rfl) rfl ?_
                refine ro_bar (d := (some 113)) rfl (.undef 16 false 109 rfl rfl rfl) rfl ?_
                refine ro_bar (d := (some 114)) rfl (.by_ 2 true 95 (r16.1 == (3 : Int)) rfl rfl rfl hb32) rfl ?_
                refine rv 115 rfl rfl rfl (q_pickF (v := .bool (false)) (b := (r16.1 == (3 : Int))) rfl rfl hb32 rfl) ?_
                refine ro_nil ?_
                exact ⟨(false), _, arr (upd_step (upd_step (upd_step (upd_step (upd_step (upd_step (upd_step (upd_step rfl rfl) rfl) rfl) rfl) rfl) rfl) rfl) rfl), h⟩
        · refine ro_if (b := (r16.1 == (2 : Int))) h (fun hb43 h => ?_) (fun hb43 h => ?_)
          · refine ro_val (d := (some 71)) rfl (.by_ 2 true 70 (r16.1 == (2 : Int)) rfl rfl rfl hb43) rfl (q_move (v := .int .i64 (r25.1)) rfl rfl) ?_
            refine ro_val (d := (some 72)) rfl (.by_ 2 true 70 (r16.1 == (2 : Int)) rfl rfl rfl hb43) rfl (q_move (v := .int .i64 (r16.1)) rfl rfl) ?_
            refine ro_val (d := (some 73)) rfl (.by_ 2 true 70 (r16.1 == (2 : Int)) rfl rfl rfl hb43) rfl (q_neq (a := r25.1) (b := r16.1) rfl rfl rfl) ?_
            refine ro_val (d := (some 74)) rfl (.by_ 2 true 70 (r16.1 == (2 : Int)) rfl rfl rfl hb43) rfl (q_move (v := .bool ((r25.1 != r16.1))) rfl rfl) ?_
            refine ro_gval (g := (!(r25.1 != r16.1))) (d := (some 75)) rfl (.no 6 74 true (r25.1 != r16.1) rfl rfl rfl rfl) rfl (fun hg => q_move (v := .int .i64 (r25.2)) rfl rfl) ?_
            refine ro_gval (g := (!(r25.1 != r16.1))) (d := (some 76)) rfl (.no 6 74 true (r25.1 != r16.1) rfl rfl rfl rfl) rfl (fun hg => q_move (v := .int .i64 (r16.2)) rfl rfl) ?_
            refine ro_gval (g := (!(r25.1 != r16.1))) (d := (some 77)) rfl (.no 6 74 true (r25.1 != r16.1) rfl rfl rfl rfl) rfl (fun hg => q_neq (k := .i64) (a := r25.2) (b := r16.2) rfl (gvb_yes hg) (gvb_yes hg)) ?_
            refine ro_val (d := (some 78)) rfl (.by_ 2 true 70 (r16.1 == (2 : Int)) rfl rfl rfl hb43) rfl (q_pickGF (a := (r25.1 != r16.1)) (c := (r25.2 != r16.2)) rfl rfl rfl rfl) ?_
            refine ro_val (d := (some 79)) rfl (.by_ 2 true 70 (r16.1 == (2 : Int)) rfl rfl rfl hb43) rfl (q_move (v := .bool (((r25.1 != r16.1) || (r25.2 != r16.2)))) rfl rfl) ?_
            refine ro_if (b := ((r25.1 != r16.1) || (r25.2 != r16.2))) h (fun hb44 h => ?_) (fun hb44 h => ?_)
            · refine ro_bar (d := (some 80)) rfl (.by_ 11 false 79 ((r25.1 != r16.1) || (r25.2 != r16.2)) rfl rfl rfl hb44) rfl ?_
              refine ro_bar (d := (some 81)) rfl (.by_ 11 false 79 ((r25.1 != r16.1) || (r25.2 != r16.2)) rfl rfl rfl hb44) rfl ?_
              refine ro_bar (d := (some 82)) rfl (.by_ 11 false 79 ((r25.1 != r16.1) || (r25.2 != r16.2)) rfl rfl rfl hb44) rfl ?_
              refine ro_bar (d := (some 83)) rfl (.by_ 11 false 79 ((r25.1 != r16.1) || (r25.2 != r16.2)) rfl rfl rfl hb44) rfl ?_
              refine ro_bar (d := (some 84)) rfl (.by_ 11 false 79 ((r25.1 != r16.1) || (r25.2 != r16.2)) rfl rfl rfl hb44) rfl ?_
              refine ro_val (d := (some 85)) rfl (.by_ 2 true 70 (r16.1 == (2 : Int)) rfl rfl rfl hb43) rfl (q_pickT (v := .bool (true)) (b := ((r25.1 != r16.1) || (r25.2 != r16.2))) rfl rfl hb44 rfl) ?_
              refine ro_val (d := (some 86)) rfl (.by_ 2 true 70 (r16.1 == (2 : Int)) rfl rfl rfl hb43) rfl (q_move (v := .bool (true)) rfl rfl) ?_
              refine ro_if (b := true) h (fun hb45 h => ?_) (fun hb45 h => ?_)
              · refine ro_bar (d := (some 87)) rfl (.by_ 18 false 86 true rfl rfl rfl hb45) rfl ?_
                refine ro_bar (d := (some 88)) rfl (.by_ 18 false 86 true rfl rfl rfl hb45) rfl ?_
                refine ro_bar (d := (some 89)) rfl (.by_ 18 false 86 true rfl rfl rfl hb45) rfl ?_
                refine ro_bar (d := (some 90)) rfl (.by_ 18 false 86 true rfl rfl rfl hb45) rfl ?_
                refine ro_val (d := (some 91)) rfl (.by_ 2 true 70 (r16.1 == (2 : Int)) rfl rfl rfl hb43) rfl (q_pickT (v := .bool (true)) (b := true) rfl rfl hb45 rfl) ?_
                refine rv 92 rfl rfl rfl (q_pickT (v := .bool (true)) (b := (r16.1 == (2 : Int))) rfl rfl hb43 rfl) ?_
                refine ro_nil ?_
                exact ⟨(true), _, arr (upd_step (upd_step (upd_step (upd_step (upd_step (upd_step (upd_step (upd_step (upd_step rfl rfl) rfl) rfl) rfl) rfl) rfl) rfl) rfl) rfl), h⟩
              · refine ro_val (d := (some 87)) rfl (.by_ 18 false 86 true rfl rfl rfl hb45) rfl (q_move (v := .pointer (r5)) rfl rfl) ?_
                refine ro_val (d := (some 88)) rfl (.by_ 18 false 86 true rfl rfl rfl hb45) rfl (q_move (v := .int .i64 (x14)) rfl rfl) ?_
                refine ro_wp rfl (.by_ 18 false 86 true rfl rfl rfl hb45) (wp_cl (d := (some 89)) rfl (q_call (k := 16) (l := [.pointer (r5), .int .i64 (x14)]) rfl ent16 rfl) h ?_)
                intro r47 w46 h
                refine ro_val (d := (some 90)) rfl (.by_ 18 false 86 true rfl rfl rfl hb45) rfl (q_neq (a := r47) (b := (157 : Int)) rfl rfl rfl) ?_
                refine ro_val (d := (some 91)) rfl (.by_ 2 true 70 (r16.1 == (2 : Int)) rfl rfl rfl hb43) rfl (q_pickF (v := .bool ((r47 != (157 : Int)))) (b := true) rfl rfl hb45 rfl) ?_
                refine rv 92 rfl rfl rfl (q_pickT (v := .bool ((r47 != (157 : Int)))) (b := (r16.1 == (2 : Int))) rfl rfl hb43 rfl) ?_
                refine ro_nil ?_
                exact ⟨((r47 != (157 : Int))), _, arr (upd_step (upd_step (upd_step (upd_step (upd_step (upd_step (upd_step (upd_step (upd_step rfl rfl) rfl) rfl) rfl) rfl) rfl) rfl) rfl) rfl), h⟩
            · refine ro_val (d := (some 80)) rfl (.by_ 11 false 79 ((r25.1 != r16.1) || (r25.2 != r16.2)) rfl rfl rfl hb44) rfl (q_move (v := .pointer (r5)) rfl rfl) ?_
              refine ro_val (d := (some 81)) rfl (.by_ 11 false 79 ((r25.1 != r16.1) || (r25.2 != r16.2)) rfl rfl rfl hb44) rfl (q_move (v := .int .i64 (r16.2)) rfl rfl) ?_
              refine ro_val (d := (some 82)) rfl (.by_ 11 false 79 ((r25.1 != r16.1) || (r25.2 != r16.2)) rfl rfl rfl hb44) rfl (q_move (v := .int .i64 (x14)) rfl rfl) ?_
              refine ro_wp rfl (.by_ 11 false 79 ((r25.1 != r16.1) || (r25.2 != r16.2)) rfl rfl rfl hb44) (wp_cl (d := (some 83)) rfl (q_call (k := 15) (l := [.pointer (r5), .int .i64 (r16.2), .int .i64 (x14)]) rfl ent15 rfl) h ?_)
              intro r49 w48 h
              refine ro_val (d := (some 84)) rfl (.by_ 11 false 79 ((r25.1 != r16.1) || (r25.2 != r16.2)) rfl rfl rfl hb44) rfl (q_neq (a := r49) (b := (0 : Int)) rfl rfl rfl) ?_
              refine ro_val (d := (some 85)) rfl (.by_ 2 true 70 (r16.1 == (2 : Int)) rfl rfl rfl hb43) rfl (q_pickF (v := .bool ((r49 != (0 : Int)))) (b := ((r25.1 != r16.1) || (r25.2 != r16.2))) rfl rfl hb44 rfl) ?_
              refine ro_val (d := (some 86)) rfl (.by_ 2 true 70 (r16.1 == (2 : Int)) rfl rfl rfl hb43) rfl (q_move (v := .bool ((r49 != (0 : Int)))) rfl rfl) ?_
              refine ro_if (b := (r49 != (0 : Int))) h (fun hb50 h => ?_) (fun hb50 h => ?_)
              · refine ro_bar (d := (some 87)) rfl (.by_ 18 false 86 (r49 != (0 : Int)) rfl rfl rfl hb50) rfl ?_
                refine ro_bar (d := (some 88)) rfl (.by_ 18 false 86 (r49 != (0 : Int)) rfl rfl rfl hb50) rfl ?_
                refine ro_bar (d := (some 89)) rfl (.by_ 18 false 86 (r49 != (0 : Int)) rfl rfl rfl hb50) rfl ?_
                refine ro_bar (d := (some 90)) rfl (.by_ 18 false 86 (r49 != (0 : Int)) rfl rfl rfl hb50) rfl ?_
                refine ro_val (d := (some 91)) rfl (.by_ 2 true 70 (r16.1 == (2 : Int)) rfl rfl rfl hb43) rfl (q_pickT (v := .bool (true)) (b := (r49 != (0 : Int))) rfl rfl hb50 rfl) ?_
                refine rv 92 rfl rfl rfl (q_pickT (v := .bool (true)) (b := (r16.1 == (2 : Int))) rfl rfl hb43 rfl) ?_
                refine ro_nil ?_
                exact ⟨(true), _, arr (upd_step (upd_step (upd_step (upd_step (upd_step (upd_step (upd_step (upd_step (upd_step rfl rfl) rfl) rfl) rfl) rfl) rfl) rfl) rfl) rfl), h⟩
              · refine ro_val (d := (some 87)) rfl (.by_ 18 false 86 (r49 != (0 : Int)) rfl rfl rfl hb50) rfl (q_move (v := .pointer (r5)) rfl rfl) ?_
                refine ro_val (d := (some 88)) rfl (.by_ 18 false 86 (r49 != (0 : Int)) rfl rfl rfl hb50) rfl (q_move (v := .int .i64 (x14)) rfl rfl) ?_
                refine ro_wp rfl (.by_ 18 false 86 (r49 != (0 : Int)) rfl rfl rfl hb50) (wp_cl (d := (some 89)) rfl (q_call (k := 16) (l := [.pointer (r5), .int .i64 (x14)]) rfl ent16 rfl) h ?_)
                intro r52 w51 h
                refine ro_val (d := (some 90)) rfl (.by_ 18 false 86 (r49 != (0 : Int)) rfl rfl rfl hb50) rfl (q_neq (a := r52) (b := (157 : Int)) rfl rfl rfl) ?_
                refine ro_val (d := (some 91)) rfl (.by_ 2 true 70 (r16.1 == (2 : Int)) rfl rfl rfl hb43) rfl (q_pickF (v := .bool ((r52 != (157 : Int)))) (b := (r49 != (0 : Int))) rfl rfl hb50 rfl) ?_
                refine rv 92 rfl rfl rfl (q_pickT (v := .bool ((r52 != (157 : Int)))) (b := (r16.1 == (2 : Int))) rfl rfl hb43 rfl) ?_
                refine ro_nil ?_
                exact ⟨((r52 != (157 : Int))), _, arr (upd_step (upd_step (upd_step (upd_step (upd_step (upd_step (upd_step (upd_step (upd_step rfl rfl) rfl) rfl) rfl) rfl) rfl) rfl) rfl) rfl), h⟩
          · refine ro_bar (d := (some 71)) rfl (.by_ 2 true 70 (r16.1 == (2 : Int)) rfl rfl rfl hb43) rfl ?_
            refine ro_bar (d := (some 72)) rfl (.by_ 2 true 70 (r16.1 == (2 : Int)) rfl rfl rfl hb43) rfl ?_
            refine ro_bar (d := (some 73)) rfl (.by_ 2 true 70 (r16.1 == (2 : Int)) rfl rfl rfl hb43) rfl ?_
            refine ro_bar (d := (some 74)) rfl (.by_ 2 true 70 (r16.1 == (2 : Int)) rfl rfl rfl hb43) rfl ?_
            refine ro_bar (d := (some 75)) rfl (.undef 6 false 74 rfl rfl rfl) rfl ?_
            refine ro_bar (d := (some 76)) rfl (.undef 6 false 74 rfl rfl rfl) rfl ?_
            refine ro_bar (d := (some 77)) rfl (.undef 6 false 74 rfl rfl rfl) rfl ?_
            refine ro_bar (d := (some 78)) rfl (.by_ 2 true 70 (r16.1 == (2 : Int)) rfl rfl rfl hb43) rfl ?_
            refine ro_bar (d := (some 79)) rfl (.by_ 2 true 70 (r16.1 == (2 : Int)) rfl rfl rfl hb43) rfl ?_
            refine ro_bar (d := (some 80)) rfl (.undef 11 false 79 rfl rfl rfl) rfl ?_
            refine ro_bar (d := (some 81)) rfl (.undef 11 false 79 rfl rfl rfl) rfl ?_
            refine ro_bar (d := (some 82)) rfl (.undef 11 false 79 rfl rfl rfl) rfl ?_
            refine ro_bar (d := (some 83)) rfl (.undef 11 false 79 rfl rfl rfl) rfl ?_
            refine ro_bar (d := (some 84)) rfl (.undef 11 false 79 rfl rfl rfl) rfl ?_
            refine ro_bar (d := (some 85)) rfl (.by_ 2 true 70 (r16.1 == (2 : Int)) rfl rfl rfl hb43) rfl ?_
            refine ro_bar (d := (some 86)) rfl (.by_ 2 true 70 (r16.1 == (2 : Int)) rfl rfl rfl hb43) rfl ?_
            refine ro_bar (d := (some 87)) rfl (.undef 18 false 86 rfl rfl rfl) rfl ?_
            refine ro_bar (d := (some 88)) rfl (.undef 18 false 86 rfl rfl rfl) rfl ?_
            refine ro_bar (d := (some 89)) rfl (.undef 18 false 86 rfl rfl rfl) rfl ?_
            refine ro_bar (d := (some 90)) rfl (.undef 18 false 86 rfl rfl rfl) rfl ?_
            refine ro_bar (d := (some 91)) rfl (.by_ 2 true 70 (r16.1 == (2 : Int)) rfl rfl rfl hb43) rfl ?_
            refine rv 92 rfl rfl rfl (q_pickF (v := .bool (false)) (b := (r16.1 == (2 : Int))) rfl rfl hb43 rfl) ?_
            refine ro_nil ?_
            exact ⟨(false), _, arr (upd_step (upd_step (upd_step (upd_step (upd_step (upd_step (upd_step (upd_step (upd_step rfl rfl) rfl) rfl) rfl) rfl) rfl) rfl) rfl) rfl), h⟩
    · refine wp_exit ?_
      refine wp_seq ?_
      refine wp_text [0] rfl ?_
      refine rv 6 rfl rfl rfl (q_assign (v := .bool (true)) rfl rfl) ?_
      refine ro_nil ?_
      refine wp_ret ?_
      exact ret_ok rfl (.cons (.tmp (v := .bool (true)) rfl) .nil) ⟨true, rfl, h⟩

end Go.Proofs.YtpdaapffkdejoaaGreat.Cf
