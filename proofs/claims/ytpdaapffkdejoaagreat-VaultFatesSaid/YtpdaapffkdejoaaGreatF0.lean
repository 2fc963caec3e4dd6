/- Characteristic formulae of Go functions, and that they are. Printed by gen.py (own tool). -/
import Derived.Test.YtpdaapffkdejoaaGreatTy
namespace Go.Proofs.YtpdaapffkdejoaaGreat.Cf
open Go
set_option maxRecDepth 100000
set_option maxHeartbeats 1000000
set_option linter.unusedVariables false
set_option linter.unusedSimpArgs false

-- moiety/moietylaw15.made
def F7_l1 (l_2 : Slc) (r4 : ((Option Addr) × Int)) (i_5 : Int) (w6 : World) (K7 : Int → World → Prop) (R : (Option Addr) → World → Prop) : Prop :=
  if (((decide (i_5 < (l_2.len : Int))) && (decide (i_5 < (40 : Int)))) && (!r4.1.isNone)) = true then (
    ex (IxA l_2 6 i_5) fun a8 =>
    ex (RdAt T41 a8 w6) fun x9 =>
    cl Tryz.prog 11 [.pointer (r4.1), T41.enc (x9)] (tInt .i64) w6 fun r11 w10 =>
    K7 ((IntKind.i64.wrap (i_5 + (1 : Int)))) w10
  ) else (
    R r4.1 w6
  )
def F7 (rate_1 : Nat) (l_2 : Slc) (w : World) (R : (Option Addr) → World → Prop) : Prop :=
  cl Tryz.prog 22 [.float .f64 (rate_1)] (tTup2 tPtr (tInt .i64)) w fun r4 w3 =>
  if (r4.2 != (0 : Int)) = true then (
    R (none : Option Addr) w3
  ) else (
    lp (fun (s : Int) w K => F7_l1 l_2 r4 s w K R) ((0 : Int)) w3
  )
theorem F7_ok {rate_1 : Nat} {l_2 : Slc} {w : World} {R : (Option Addr) → World → Prop} (h : F7 rate_1 l_2 w R) : cl Tryz.prog 7 [.float .f64 (rate_1), tSlc.enc (l_2)] tPtr w R := by
  unfold F7 at h
  refine calls_start 36 Tryz.func7 rfl rfl (Nat.le_of_ble_eq_true rfl) ?_
  refine wp_seq ?_
  refine wp_text [0] rfl ?_
  refine rv 4 rfl rfl rfl (q_assign (v := .pointer ((none : Option Addr))) rfl rfl) ?_
  refine ro_nil ?_
  refine wp_seq ?_
  refine wp_text [0, 1, 2, 3, 4, 5, 6] rfl ?_
  refine rv 9 rfl rfl rfl (q_move (v := .float .f64 (rate_1)) rfl rfl) ?_
  refine ro_wp rfl (.free rfl) (wp_cl (d := (some 10)) rfl (q_call (k := 22) (l := [.float .f64 (rate_1)]) rfl ent22 rfl) h ?_)
  intro r4 w3 h
  refine rv 8 rfl rfl rfl (q_move (v := (tTup2 tPtr (tInt .i64)).enc (r4)) rfl rfl) ?_
  refine rv 11 rfl rfl rfl (q_extract (vs := #[.pointer (r4.1), .int .i64 (r4.2)]) (v := .pointer (r4.1)) rfl rfl rfl) ?_
  refine rv 12 rfl rfl rfl (q_extract (vs := #[.pointer (r4.1), .int .i64 (r4.2)]) (v := .int .i64 (r4.2)) rfl rfl rfl) ?_
  refine rv 5 rfl rfl rfl (q_assign (v := .pointer (r4.1)) rfl rfl) ?_
  refine rv 6 rfl rfl rfl (q_assign (v := .int .i64 (r4.2)) rfl rfl) ?_
  refine ro_nil ?_
  refine wp_seq ?_
  refine wp_seq ?_
  refine wp_text [0, 1] rfl ?_
  refine rv 13 rfl rfl rfl (q_move (v := .int .i64 (r4.2)) rfl rfl) ?_
  refine rv 14 rfl rfl rfl (q_neq (a := r4.2) (b := (0 : Int)) rfl rfl rfl) ?_
  refine ro_nil ?_
  refine wp_if (b := (r4.2 != (0 : Int))) rfl h (fun hb13 h => ?_) (fun hb13 h => ?_)
  · refine wp_seq ?_
    refine wp_text [0] rfl ?_
    refine rv 4 rfl rfl rfl (q_assign (v := .pointer ((none : Option Addr))) rfl rfl) ?_
    refine ro_nil ?_
    refine wp_ret ?_
    exact ret_ok rfl (.cons (.tmp (v := .pointer ((none : Option Addr))) rfl) .nil) ⟨(none : Option Addr), rfl, h⟩
  · refine wp_skip ?_
    refine wp_seq ?_
    refine wp_seq ?_
    refine wp_text [0] rfl ?_
    refine rv 7 rfl rfl rfl (q_assign (v := .int .i64 ((0 : Int))) rfl rfl) ?_
    refine ro_nil ?_
    refine wp_block ?_
    refine loop_at (σ := Int) (fr := fun g (s : Int) => upd (upd (upd (g) 1 (tSlc.enc (l_2))) 5 (.pointer (r4.1))) 7 (.int .i64 (s))) (s0 := ((0 : Int))) (upd_step (upd_step (upd_step rfl rfl) rfl) rfl) h ?_
    rintro i_5 g w6 K7 h
    unfold F7_l1 at h
    refine wp_seq ?_
    refine wp_seq ?_
    refine wp_text [0, 1, 2, 3, 4, 5, 6, 7, 8, 9, 10, 11] rfl ?_
    refine rv 15 rfl rfl rfl (q_move (v := .int .i64 (i_5)) rfl rfl) ?_
    refine rv 16 rfl rfl rfl (q_move (v := tSlc.enc (l_2)) rfl rfl) ?_
    refine rv 17 rfl rfl rfl (q_len (s := l_2) rfl Tryz.underlying23 rfl) ?_
    refine rv 18 rfl rfl rfl (q_lss (a := i_5) (b := (l_2.len : Int)) rfl rfl rfl) ?_
    refine rv 19 rfl rfl rfl (q_move (v := .bool ((decide (i_5 < (l_2.len : Int))))) rfl rfl) ?_
    refine ro_gval (g := (decide (i_5 < (l_2.len : Int)))) (d := (some 20)) rfl (.yes 4 19 true (decide (i_5 < (l_2.len : Int))) rfl rfl rfl rfl) rfl (fun hg => q_move (v := .int .i64 (i_5)) rfl rfl) ?_
    refine ro_gval (g := (decide (i_5 < (l_2.len : Int)))) (d := (some 21)) rfl (.yes 4 19 true (decide (i_5 < (l_2.len : Int))) rfl rfl rfl rfl) rfl (fun hg => q_lss (k := .i64) (a := i_5) (b := (40 : Int)) rfl (gvb_yes hg) rfl) ?_
    refine rv 22 rfl rfl rfl (q_pickGT (a := (decide (i_5 < (l_2.len : Int)))) (b := (decide (i_5 < (40 : Int)))) rfl rfl rfl rfl) ?_
    refine rv 23 rfl rfl rfl (q_move (v := .bool (((decide (i_5 < (l_2.len : Int))) && (decide (i_5 < (40 : Int)))))) rfl rfl) ?_
    refine ro_gval (g := ((decide (i_5 < (l_2.len : Int))) && (decide (i_5 < (40 : Int))))) (d := (some 24)) rfl (.yes 8 23 true ((decide (i_5 < (l_2.len : Int))) && (decide (i_5 < (40 : Int)))) rfl rfl rfl rfl) rfl (fun hg => q_move (v := .pointer (r4.1)) rfl rfl) ?_
    refine ro_gval (g := ((decide (i_5 < (l_2.len : Int))) && (decide (i_5 < (40 : Int))))) (d := (some 25)) rfl (.yes 8 23 true ((decide (i_5 < (l_2.len : Int))) && (decide (i_5 < (40 : Int)))) rfl rfl rfl rfl) rfl (fun hg => q_neP0 (a := r4.1) rfl Tryz.underlying24 (gvb_yes hg) rfl) ?_
    refine rv 26 rfl rfl rfl (q_pickGT (a := ((decide (i_5 < (l_2.len : Int))) && (decide (i_5 < (40 : Int))))) (b := (!r4.1.isNone)) rfl rfl rfl rfl) ?_
    refine ro_nil ?_
    refine wp_if (b := (((decide (i_5 < (l_2.len : Int))) && (decide (i_5 < (40 : Int)))) && (!r4.1.isNone))) rfl h (fun hb12 h => ?_) (fun hb12 h => ?_)
    · refine wp_skip ?_
      refine wp_seq ?_
      refine wp_block ?_
      refine wp_text [0, 1, 2, 3, 4, 5] rfl ?_
      refine rv 29 rfl rfl rfl (q_move (v := .pointer (r4.1)) rfl rfl) ?_
      refine rv 30 rfl rfl rfl (q_move (v := tSlc.enc (l_2)) rfl rfl) ?_
      refine rv 31 rfl rfl rfl (q_move (v := .int .i64 (i_5)) rfl rfl) ?_
      obtain ⟨a8, ha8, h⟩ := h
      refine rv 32 rfl rfl rfl (q_indexAddr (s := l_2) (k := .i64) (i := i_5) rfl Tryz.underlying23 ok42 rfl rfl ha8) ?_
      obtain ⟨x9, hx9, h⟩ := h
      refine rv 33 rfl rfl rfl (q_load (T := T41) (u := x9) (a := a8) rfl ok42 rfl hx9) ?_
      refine ro_wp rfl (.free rfl) (wp_cl (d := (some 34)) rfl (q_call (k := 11) (l := [.pointer (r4.1), T41.enc (x9)]) rfl ent11 rfl) h ?_)
      intro r11 w10 h
      refine ro_nil ?_
      refine wp_text [0, 1, 2] rfl ?_
      refine rv 27 rfl rfl rfl (q_move (v := .int .i64 (i_5)) rfl rfl) ?_
      refine rv 28 rfl rfl rfl (q_add (a := i_5) (b := (1 : Int)) rfl rfl rfl) ?_
      refine rv 7 rfl rfl rfl (q_assign (v := .int .i64 ((IntKind.i64.wrap (i_5 + (1 : Int))))) rfl rfl) ?_
      refine ro_nil ?_
      exact ⟨((IntKind.i64.wrap (i_5 + (1 : Int)))), _, arr (upd_step (upd_step (upd_step rfl rfl) rfl) rfl), h⟩
    · refine wp_exit ?_
      refine wp_seq ?_
      refine wp_text [0, 1] rfl ?_
      refine rv 35 rfl rfl rfl (q_move (v := .pointer (r4.1)) rfl rfl) ?_
      refine rv 4 rfl rfl rfl (q_assign (v := .pointer (r4.1)) rfl rfl) ?_
      refine ro_nil ?_
      refine wp_ret ?_
      exact ret_ok rfl (.cons (.tmp (v := .pointer (r4.1)) rfl) .nil) ⟨r4.1, rfl, h⟩

end Go.Proofs.YtpdaapffkdejoaaGreat.Cf
