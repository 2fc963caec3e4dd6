/- Characteristic formulae of Go functions, and that they are. Printed by gen.py (own tool). -/
import Derived.Test.YtdgdkbfigndndaaTy
namespace Go.Proofs.Ytdgdkbfigndndaa.Cf
open Go
set_option maxRecDepth 100000
set_option maxHeartbeats 1000000
set_option linter.unusedVariables false
set_option linter.unusedSimpArgs false

-- (*moiety/chain.Chain).Put
def F42 (c_1 : (Option Addr)) (t_2 : Int) (v_3 : Int) (w : World) (R : Int → World → Prop) : Prop :=
  if ((decide (t_2 < (1 : Int))) || (decide (t_2 > (1125899906842624 : Int)))) = true then (
    R (110 : Int) w
  ) else (
    cl Try.prog 31 [.pointer (c_1)] (tTup2 T35 tBool) w fun r5 w4 =>
    nw 36 T35 Z35 w4 fun a6 w7 =>
    st T35 a6 r5.1 w7 fun w8 =>
    ex (fun x => r5.2 = true → (RdAt (tInt .i64) (a6.add 0) w8) x) fun x9 =>
    ex (fun x => (!(r5.2 && (decide (t_2 ≤ x9)))) = true → (NC c_1) x) fun a10 =>
    ex (fun x => (!(r5.2 && (decide (t_2 ≤ x9)))) = true → (RdAt (tInt .i64) (a10.add 1) w8) x) fun x11 =>
    if ((r5.2 && (decide (t_2 ≤ x9))) || (decide (t_2 ≤ x11))) = true then (
      R (111 : Int) w8
    ) else (
      ex (NC c_1) fun a12 =>
      ex (RdAt tSlc (a12.add 0) w8) fun x13 =>
      if (decide ((x13.len : Int) ≥ (10000 : Int))) = true then (
        R (112 : Int) w8
      ) else (
        ex (RdAt tSlc (a12.add 0) w8) fun x14 =>
        apl 36 T35 2 16 x14 [(⟨t_2, v_3⟩ : S35)] w8 fun r18 w17 =>
        st tSlc (a12.add 0) r18 w17 fun w19 =>
        R (0 : Int) w19
      )
    )
  )
theorem F42_ok {c_1 : (Option Addr)} {t_2 : Int} {v_3 : Int} {w : World} {R : Int → World → Prop} (h : F42 c_1 t_2 v_3 w R) : cl Try.prog 42 [.pointer (c_1), .int .i64 (t_2), .int .i64 (v_3)] (tInt .i64) w R := by
  unfold F42 at h
  refine calls_start 53 Try.func42 rfl rfl (Nat.le_of_ble_eq_true rfl) ?_
  refine wp_seq ?_
  refine wp_text [0] rfl ?_
  refine ro_val (d := (some 6)) rfl (.free rfl) rfl (q_assign (v := .int .i64 ((0 : Int))) rfl rfl) ?_
  refine ro_nil ?_
  refine wp_seq ?_
  refine wp_seq ?_
  refine wp_text [0, 1, 2, 3, 4, 5] rfl ?_
  refine ro_val (d := (some 9)) rfl (.free rfl) rfl (q_move (v := .int .i64 (t_2)) rfl rfl) ?_
  refine ro_val (d := (some 10)) rfl (.free rfl) rfl (q_lss (a := t_2) (b := (1 : Int)) rfl rfl rfl) ?_
  refine ro_val (d := (some 11)) rfl (.free rfl) rfl (q_move (v := .bool ((decide (t_2 < (1 : Int))))) rfl rfl) ?_
  refine ro_gval (g := (!(decide (t_2 < (1 : Int))))) (d := (some 12)) rfl (.no 2 11 true (decide (t_2 < (1 : Int))) rfl rfl rfl rfl) rfl (fun hg => q_move (v := .int .i64 (t_2)) rfl rfl) ?_
  refine ro_gval (g := (!(decide (t_2 < (1 : Int))))) (d := (some 13)) rfl (.no 2 11 true (decide (t_2 < (1 : Int))) rfl rfl rfl rfl) rfl (fun hg => q_gtr (a := t_2) (b := (1125899906842624 : Int)) rfl (gvb_yes hg) rfl) ?_
  refine ro_val (d := (some 14)) rfl (.free rfl) rfl (q_pickGF (a := (decide (t_2 < (1 : Int)))) (c := (decide (t_2 > (1125899906842624 : Int)))) rfl rfl rfl rfl) ?_
  refine ro_nil ?_
  refine wp_if (b := ((decide (t_2 < (1 : Int))) || (decide (t_2 > (1125899906842624 : Int))))) rfl h (fun hb22 h => ?_) (fun hb22 h => ?_)
  · refine wp_seq ?_
    refine wp_text [0] rfl ?_
    refine ro_val (d := (some 6)) rfl (.free rfl) rfl (q_assign (v := .int .i64 ((110 : Int))) rfl rfl) ?_
    refine ro_nil ?_
    refine wp_ret ?_
    exact ret_ok rfl (.cons (.tmp (v := .int .i64 ((110 : Int))) rfl) .nil) ⟨(110 : Int), rfl, h⟩
  · refine wp_skip ?_
    refine wp_seq ?_
    refine wp_seq ?_
    refine wp_text [0, 1, 2, 3, 4, 5, 6, 7] rfl ?_
    refine ro_val (d := (some 16)) rfl (.free rfl) rfl (q_move (v := .pointer (c_1)) rfl rfl) ?_
    refine ro_wp rfl (.free rfl) (wp_cl (d := (some 17)) rfl (q_call (k := 31) (l := [.pointer (c_1)]) rfl ent31 rfl) h ?_)
    intro r5 w4 h
    refine ro_val (d := (some 15)) rfl (.free rfl) rfl (q_move (v := (tTup2 T35 tBool).enc (r5)) rfl rfl) ?_
    refine ro_val (d := (some 18)) rfl (.free rfl) rfl (q_extract (vs := #[T35.enc (r5.1), .bool (r5.2)]) (v := T35.enc (r5.1)) rfl rfl rfl) ?_
    refine ro_val (d := (some 19)) rfl (.free rfl) rfl (q_extract (vs := #[T35.enc (r5.1), .bool (r5.2)]) (v := .bool (r5.2)) rfl rfl rfl) ?_
    obtain ⟨a6, w7, ha6, hw7, h⟩ := nw_open h
    refine ro_val (d := (some 7)) rfl (.free rfl) rfl (q_alloc (u := Z35) rfl ok36 inf36 ha6 hw7) ?_
    obtain ⟨w8, hw8, hrw8, h⟩ := st_open h
    refine ro_skip (d := none) rfl (.free rfl) rfl (q_store (T := T35) (u := r5.1) (a := a6) rfl ok36 rfl rfl hrw8 hw8) ?_
    refine ro_val (d := (some 8)) rfl (.free rfl) rfl (q_assign (v := .bool (r5.2)) rfl rfl) ?_
    refine ro_nil ?_
    refine wp_seq ?_
    refine wp_text [0, 1, 2, 3, 4, 5, 6, 7, 8, 9, 10, 11, 12, 13, 14] rfl ?_
    refine ro_val (d := (some 20)) rfl (.free rfl) rfl (q_move (v := .bool (r5.2)) rfl rfl) ?_
    refine ro_val (d := (some 21)) rfl (.free rfl) rfl (q_move (v := .bool (r5.2)) rfl rfl) ?_
    refine ro_gval (g := r5.2) (d := (some 22)) rfl (.yes 1 21 true r5.2 rfl rfl rfl rfl) rfl (fun hg => q_move (v := .int .i64 (t_2)) rfl rfl) ?_
    refine ro_gval (g := r5.2) (d := (some 23)) rfl (.yes 1 21 true r5.2 rfl rfl rfl rfl) rfl (fun hg => q_fieldAddr (a := a6) (off := 0) rfl Try.underlying36 rfl rfl ok2 (by decide) rfl) ?_
    obtain ⟨x9, hx9, h⟩ := h
    refine ro_gval (g := r5.2) (d := (some 24)) rfl (.yes 1 21 true r5.2 rfl rfl rfl rfl) rfl (fun hg => q_load (T := (tInt .i64)) (u := x9) (a := (a6.add 0)) rfl ok2 (gvb_yes hg) (hx9 hg)) ?_
    refine ro_gval (g := r5.2) (d := (some 25)) rfl (.yes 1 21 true r5.2 rfl rfl rfl rfl) rfl (fun hg => q_leq (a := t_2) (b := x9) rfl (gvb_yes hg) (gvb_yes hg)) ?_
    refine ro_val (d := (some 26)) rfl (.free rfl) rfl (q_pickGT (a := r5.2) (b := (decide (t_2 ≤ x9))) rfl rfl rfl rfl) ?_
    refine ro_val (d := (some 27)) rfl (.free rfl) rfl (q_move (v := .bool ((r5.2 && (decide (t_2 ≤ x9))))) rfl rfl) ?_
    refine ro_gval (g := (!(r5.2 && (decide (t_2 ≤ x9))))) (d := (some 28)) rfl (.no 7 27 true (r5.2 && (decide (t_2 ≤ x9))) rfl rfl rfl rfl) rfl (fun hg => q_move (v := .int .i64 (t_2)) rfl rfl) ?_
    refine ro_gval (g := (!(r5.2 && (decide (t_2 ≤ x9))))) (d := (some 29)) rfl (.no 7 27 true (r5.2 && (decide (t_2 ≤ x9))) rfl rfl rfl rfl) rfl (fun hg => q_move (v := .pointer (c_1)) rfl rfl) ?_
    obtain ⟨a10, ha10, h⟩ := h
    refine ro_gval (g := (!(r5.2 && (decide (t_2 ≤ x9))))) (d := (some 30)) rfl (.no 7 27 true (r5.2 && (decide (t_2 ≤ x9))) rfl rfl rfl rfl) rfl (fun hg => q_nilCheck (a := a10) rfl ((gvb_yes hg).trans (congrArg Value.pointer (ha10 hg)))) ?_
    refine ro_gval (g := (!(r5.2 && (decide (t_2 ≤ x9))))) (d := (some 31)) rfl (.no 7 27 true (r5.2 && (decide (t_2 ≤ x9))) rfl rfl rfl rfl) rfl (fun hg => q_fieldAddr (a := a10) (off := 1) rfl Try.underlying94 rfl rfl ok2 (by decide) (gvb_yes hg)) ?_
    obtain ⟨x11, hx11, h⟩ := h
    refine ro_gval (g := (!(r5.2 && (decide (t_2 ≤ x9))))) (d := (some 32)) rfl (.no 7 27 true (r5.2 && (decide (t_2 ≤ x9))) rfl rfl rfl rfl) rfl (fun hg => q_load (T := (tInt .i64)) (u := x11) (a := (a10.add 1)) rfl ok2 (gvb_yes hg) (hx11 hg)) ?_
    refine ro_gval (g := (!(r5.2 && (decide (t_2 ≤ x9))))) (d := (some 33)) rfl (.no 7 27 true (r5.2 && (decide (t_2 ≤ x9))) rfl rfl rfl rfl) rfl (fun hg => q_leq (a := t_2) (b := x11) rfl (gvb_yes hg) (gvb_yes hg)) ?_
    refine ro_val (d := (some 34)) rfl (.free rfl) rfl (q_pickGF (a := (r5.2 && (decide (t_2 ≤ x9)))) (c := (decide (t_2 ≤ x11))) rfl rfl rfl rfl) ?_
    refine ro_nil ?_
    refine wp_if (b := ((r5.2 && (decide (t_2 ≤ x9))) || (decide (t_2 ≤ x11)))) rfl h (fun hb21 h => ?_) (fun hb21 h => ?_)
    · refine wp_seq ?_
      refine wp_text [0] rfl ?_
      refine ro_val (d := (some 6)) rfl (.free rfl) rfl (q_assign (v := .int .i64 ((111 : Int))) rfl rfl) ?_
      refine ro_nil ?_
      refine wp_ret ?_
      exact ret_ok rfl (.cons (.tmp (v := .int .i64 ((111 : Int))) rfl) .nil) ⟨(111 : Int), rfl, h⟩
    · refine wp_skip ?_
      refine wp_seq ?_
      refine wp_seq ?_
      refine wp_text [0, 1, 2, 3, 4, 5] rfl ?_
      refine ro_val (d := (some 35)) rfl (.free rfl) rfl (q_move (v := .pointer (c_1)) rfl rfl) ?_
      obtain ⟨a12, ha12, h⟩ := h
      refine ro_val (d := (some 36)) rfl (.free rfl) rfl (q_nilCheck (a := a12) rfl (congrArg Value.pointer ha12)) ?_
      refine ro_val (d := (some 37)) rfl (.free rfl) rfl (q_fieldAddr (a := a12) (off := 0) rfl Try.underlying94 rfl rfl ok77 (by decide) rfl) ?_
      obtain ⟨x13, hx13, h⟩ := h
      refine ro_val (d := (some 38)) rfl (.free rfl) rfl (q_load (T := tSlc) (u := x13) (a := (a12.add 0)) rfl ok77 rfl hx13) ?_
      refine ro_val (d := (some 39)) rfl (.free rfl) rfl (q_len (s := x13) rfl Try.underlying77 rfl) ?_
      refine ro_val (d := (some 40)) rfl (.free rfl) rfl (q_geq (a := (x13.len : Int)) (b := (10000 : Int)) rfl rfl rfl) ?_
      refine ro_nil ?_
      refine wp_if (b := (decide ((x13.len : Int) ≥ (10000 : Int)))) rfl h (fun hb20 h => ?_) (fun hb20 h => ?_)
      · refine wp_seq ?_
        refine wp_text [0] rfl ?_
        refine ro_val (d := (some 6)) rfl (.free rfl) rfl (q_assign (v := .int .i64 ((112 : Int))) rfl rfl) ?_
        refine ro_nil ?_
        refine wp_ret ?_
        exact ret_ok rfl (.cons (.tmp (v := .int .i64 ((112 : Int))) rfl) .nil) ⟨(112 : Int), rfl, h⟩
      · refine wp_skip ?_
        refine wp_seq ?_
        refine wp_text [0, 1, 2, 3, 4, 5, 6, 7, 8, 9, 10, 11, 12] rfl ?_
        refine ro_val (d := (some 41)) rfl (.free rfl) rfl (q_move (v := .pointer (c_1)) rfl rfl) ?_
        refine ro_val (d := (some 42)) rfl (.free rfl) rfl (q_move (v := .pointer (c_1)) rfl rfl) ?_
        refine ro_val (d := (some 43)) rfl (.free rfl) rfl (q_nilCheck (a := a12) rfl (congrArg Value.pointer ha12)) ?_
        refine ro_val (d := (some 44)) rfl (.free rfl) rfl (q_fieldAddr (a := a12) (off := 0) rfl Try.underlying94 rfl rfl ok77 (by decide) rfl) ?_
        obtain ⟨x14, hx14, h⟩ := h
        refine ro_val (d := (some 45)) rfl (.free rfl) rfl (q_load (T := tSlc) (u := x14) (a := (a12.add 0)) rfl ok77 rfl hx14) ?_
        refine ro_val (d := (some 46)) rfl (.free rfl) rfl (q_move (v := .int .i64 (t_2)) rfl rfl) ?_
        refine ro_val (d := (some 47)) rfl (.free rfl) rfl (q_move (v := .int .i64 (v_3)) rfl rfl) ?_
        refine ro_val (d := (some 48)) rfl (.free rfl) rfl (q_build36_0_1 (v0 := t_2) (v1 := v_3) rfl rfl rfl) ?_
        obtain ⟨a15, w16, ha15, hw16, h⟩ := apl_open h
        refine ro_val (d := (some 49)) rfl (.free rfl) rfl (q_rowOf (T := T35) (xs := [(⟨t_2, v_3⟩ : S35)]) rfl Try.underlying77 ok36 inf36 rfl (by decide) (by decide) rfl ha15 hw16) ?_
        refine ro_wp rfl (.free rfl) (wp_append (d := (some 50)) (T := T35) rfl rfl Try.underlying77 ⟨_, Try.underlying77⟩ ok36 inf36 rfl rfl (Nat.lt_of_lt_of_le Nat.zero_lt_one (Nat.le_of_ble_eq_true rfl)) rfl rfl h ?_)
        intro r18 w17 h
        refine ro_val (d := (some 51)) rfl (.free rfl) rfl (q_nilCheck (a := a12) rfl (congrArg Value.pointer ha12)) ?_
        refine ro_val (d := (some 52)) rfl (.free rfl) rfl (q_fieldAddr (a := a12) (off := 0) rfl Try.underlying94 rfl rfl ok77 (by decide) rfl) ?_
        obtain ⟨w19, hw19, hrw19, h⟩ := st_open h
        refine ro_skip (d := none) rfl (.free rfl) rfl (q_store (T := tSlc) (u := r18) (a := (a12.add 0)) rfl ok77 rfl rfl hrw19 hw19) ?_
        refine ro_nil ?_
        refine wp_seq ?_
        refine wp_text [0] rfl ?_
        refine ro_val (d := (some 6)) rfl (.free rfl) rfl (q_assign (v := .int .i64 ((0 : Int))) rfl rfl) ?_
        refine ro_nil ?_
        refine wp_ret ?_
        exact ret_ok rfl (.cons (.tmp (v := .int .i64 ((0 : Int))) rfl) .nil) ⟨(0 : Int), rfl, h⟩

-- moiety/store.in
def F43 (t_1 : Int) (w : World) (R : Bool → World → Prop) : Prop :=
  R ((decide (t_1 ≥ (0 : Int))) && (decide (t_1 ≤ (1125899906842624 : Int)))) w
theorem F43_ok {t_1 : Int} {w : World} {R : Bool → World → Prop} (h : F43 t_1 w R) : cl Try.prog 43 [.int .i64 (t_1)] tBool w R := by
  unfold F43 at h
  refine calls_start 9 Try.func43 rfl rfl (Nat.le_of_ble_eq_true rfl) ?_
  refine wp_seq ?_
  refine wp_text [0] rfl ?_
  refine ro_val (d := (some 2)) rfl (.free rfl) rfl (q_assign (v := .bool (false)) rfl rfl) ?_
  refine ro_nil ?_
  refine wp_seq ?_
  refine wp_text [0, 1, 2, 3, 4, 5, 6] rfl ?_
  refine ro_val (d := (some 3)) rfl (.free rfl) rfl (q_move (v := .int .i64 (t_1)) rfl rfl) ?_
  refine ro_val (d := (some 4)) rfl (.free rfl) rfl (q_geq (a := t_1) (b := (0 : Int)) rfl rfl rfl) ?_
  refine ro_val (d := (some 5)) rfl (.free rfl) rfl (q_move (v := .bool ((decide (t_1 ≥ (0 : Int))))) rfl rfl) ?_
  refine ro_gval (g := (decide (t_1 ≥ (0 : Int)))) (d := (some 6)) rfl (.yes 2 5 true (decide (t_1 ≥ (0 : Int))) rfl rfl rfl rfl) rfl (fun hg => q_move (v := .int .i64 (t_1)) rfl rfl) ?_
  refine ro_gval (g := (decide (t_1 ≥ (0 : Int)))) (d := (some 7)) rfl (.yes 2 5 true (decide (t_1 ≥ (0 : Int))) rfl rfl rfl rfl) rfl (fun hg => q_leq (a := t_1) (b := (1125899906842624 : Int)) rfl (gvb_yes hg) rfl) ?_
  refine ro_val (d := (some 8)) rfl (.free rfl) rfl (q_pickGT (a := (decide (t_1 ≥ (0 : Int)))) (b := (decide (t_1 ≤ (1125899906842624 : Int)))) rfl rfl rfl rfl) ?_
  refine ro_val (d := (some 2)) rfl (.free rfl) rfl (q_assign (v := .bool (((decide (t_1 ≥ (0 : Int))) && (decide (t_1 ≤ (1125899906842624 : Int)))))) rfl rfl) ?_
  refine ro_nil ?_
  refine wp_ret ?_
  exact ret_ok rfl (.cons (.tmp (v := .bool (((decide (t_1 ≥ (0 : Int))) && (decide (t_1 ≤ (1125899906842624 : Int)))))) rfl) .nil) ⟨((decide (t_1 ≥ (0 : Int))) && (decide (t_1 ≤ (1125899906842624 : Int)))), rfl, h⟩

-- moiety/store.is
def F44 (key_1 : Int) (w : World) (R : Bool → World → Prop) : Prop :=
  R ((decide (key_1 ≥ (0 : Int))) && (decide (key_1 < (8192 : Int)))) w
theorem F44_ok {key_1 : Int} {w : World} {R : Bool → World → Prop} (h : F44 key_1 w R) : cl Try.prog 44 [.int .i64 (key_1)] tBool w R := by
  unfold F44 at h
  refine calls_start 9 Try.func44 rfl rfl (Nat.le_of_ble_eq_true rfl) ?_
  refine wp_seq ?_
  refine wp_text [0] rfl ?_
  refine ro_val (d := (some 2)) rfl (.free rfl) rfl (q_assign (v := .bool (false)) rfl rfl) ?_
  refine ro_nil ?_
  refine wp_seq ?_
  refine wp_text [0, 1, 2, 3, 4, 5, 6] rfl ?_
  refine ro_val (d := (some 3)) rfl (.free rfl) rfl (q_move (v := .int .i64 (key_1)) rfl rfl) ?_
  refine ro_val (d := (some 4)) rfl (.free rfl) rfl (q_geq (a := key_1) (b := (0 : Int)) rfl rfl rfl) ?_
  refine ro_val (d := (some 5)) rfl (.free rfl) rfl (q_move (v := .bool ((decide (key_1 ≥ (0 : Int))))) rfl rfl) ?_
  refine ro_gval (g := (decide (key_1 ≥ (0 : Int)))) (d := (some 6)) rfl (.yes 2 5 true (decide (key_1 ≥ (0 : Int))) rfl rfl rfl rfl) rfl (fun hg => q_move (v := .int .i64 (key_1)) rfl rfl) ?_
  refine ro_gval (g := (decide (key_1 ≥ (0 : Int)))) (d := (some 7)) rfl (.yes 2 5 true (decide (key_1 ≥ (0 : Int))) rfl rfl rfl rfl) rfl (fun hg => q_lss (a := key_1) (b := (8192 : Int)) rfl (gvb_yes hg) rfl) ?_
  refine ro_val (d := (some 8)) rfl (.free rfl) rfl (q_pickGT (a := (decide (key_1 ≥ (0 : Int)))) (b := (decide (key_1 < (8192 : Int)))) rfl rfl rfl rfl) ?_
  refine ro_val (d := (some 2)) rfl (.free rfl) rfl (q_assign (v := .bool (((decide (key_1 ≥ (0 : Int))) && (decide (key_1 < (8192 : Int)))))) rfl rfl) ?_
  refine ro_nil ?_
  refine wp_ret ?_
  exact ret_ok rfl (.cons (.tmp (v := .bool (((decide (key_1 ≥ (0 : Int))) && (decide (key_1 < (8192 : Int)))))) rfl) .nil) ⟨((decide (key_1 ≥ (0 : Int))) && (decide (key_1 < (8192 : Int)))), rfl, h⟩

-- (*moiety/chain.Chain).Prune
def F45 (c_1 : (Option Addr)) (mark_2 : Int) (w : World) (R : Int → World → Prop) : Prop :=
  if ((decide (mark_2 < (0 : Int))) || (decide (mark_2 > (1125899906842624 : Int)))) = true then (
    R (110 : Int) w
  ) else (
    ex (NC c_1) fun a3 =>
    ex (RdAt (tInt .i64) (a3.add 1) w) fun x4 =>
    st (tInt .i64) (a3.add 1) (max x4 mark_2) w fun w5 =>
    ex (RdAt (tInt .i64) (a3.add 1) w5) fun x6 =>
    cl Try.prog 50 [.pointer (c_1), .int .i64 (x6)] (tInt .i64) w5 fun r8 w7 =>
    ex (RdAt tSlc (a3.add 0) w7) fun x9 =>
    mkS 36 T35 16 Z35 (IntKind.i64.wrap ((x9.len : Int) - (max (IntKind.i64.wrap (r8 - (1 : Int))) (0 : Int)))) (IntKind.i64.wrap ((x9.len : Int) - (max (IntKind.i64.wrap (r8 - (1 : Int))) (0 : Int)))) w7 fun r11 w10 =>
    ex (RdAt tSlc (a3.add 0) w10) fun x12 =>
    ex (Sub x12 2 (max (IntKind.i64.wrap (r8 - (1 : Int))) (0 : Int)) ((x12).len : Int) ((x12).cap : Int)) fun s13 =>
    cpy T35 2 r11 s13 w10 fun r15 w14 =>
    ex (Sub r11 2 0 (r11.len : Int) (r11.len : Int)) fun s16 =>
    st tSlc (a3.add 0) s16 w14 fun w17 =>
    R (0 : Int) w17
  )
theorem F45_ok {c_1 : (Option Addr)} {mark_2 : Int} {w : World} {R : Int → World → Prop} (h : F45 c_1 mark_2 w R) : cl Try.prog 45 [.pointer (c_1), .int .i64 (mark_2)] (tInt .i64) w R := by
  unfold F45 at h
  refine calls_start 55 Try.func45 rfl rfl (Nat.le_of_ble_eq_true rfl) ?_
  refine wp_seq ?_
  refine wp_text [0] rfl ?_
  refine ro_val (d := (some 4)) rfl (.free rfl) rfl (q_assign (v := .int .i64 ((0 : Int))) rfl rfl) ?_
  refine ro_nil ?_
  refine wp_seq ?_
  refine wp_seq ?_
  refine wp_text [0, 1, 2, 3, 4, 5] rfl ?_
  refine ro_val (d := (some 7)) rfl (.free rfl) rfl (q_move (v := .int .i64 (mark_2)) rfl rfl) ?_
  refine ro_val (d := (some 8)) rfl (.free rfl) rfl (q_lss (a := mark_2) (b := (0 : Int)) rfl rfl rfl) ?_
  refine ro_val (d := (some 9)) rfl (.free rfl) rfl (q_move (v := .bool ((decide (mark_2 < (0 : Int))))) rfl rfl) ?_
  refine ro_gval (g := (!(decide (mark_2 < (0 : Int))))) (d := (some 10)) rfl (.no 2 9 true (decide (mark_2 < (0 : Int))) rfl rfl rfl rfl) rfl (fun hg => q_move (v := .int .i64 (mark_2)) rfl rfl) ?_
  refine ro_gval (g := (!(decide (mark_2 < (0 : Int))))) (d := (some 11)) rfl (.no 2 9 true (decide (mark_2 < (0 : Int))) rfl rfl rfl rfl) rfl (fun hg => q_gtr (a := mark_2) (b := (1125899906842624 : Int)) rfl (gvb_yes hg) rfl) ?_
  refine ro_val (d := (some 12)) rfl (.free rfl) rfl (q_pickGF (a := (decide (mark_2 < (0 : Int)))) (c := (decide (mark_2 > (1125899906842624 : Int)))) rfl rfl rfl rfl) ?_
  refine ro_nil ?_
  refine wp_if (b := ((decide (mark_2 < (0 : Int))) || (decide (mark_2 > (1125899906842624 : Int))))) rfl h (fun hb18 h => ?_) (fun hb18 h => ?_)
  · refine wp_seq ?_
    refine wp_text [0] rfl ?_
    refine ro_val (d := (some 4)) rfl (.free rfl) rfl (q_assign (v := .int .i64 ((110 : Int))) rfl rfl) ?_
    refine ro_nil ?_
    refine wp_ret ?_
    exact ret_ok rfl (.cons (.tmp (v := .int .i64 ((110 : Int))) rfl) .nil) ⟨(110 : Int), rfl, h⟩
  · refine wp_skip ?_
    refine wp_seq ?_
    refine wp_text [0, 1, 2, 3, 4, 5, 6, 7, 8, 9] rfl ?_
    refine ro_val (d := (some 13)) rfl (.free rfl) rfl (q_move (v := .pointer (c_1)) rfl rfl) ?_
    refine ro_val (d := (some 14)) rfl (.free rfl) rfl (q_move (v := .pointer (c_1)) rfl rfl) ?_
    obtain ⟨a3, ha3, h⟩ := h
    refine ro_val (d := (some 15)) rfl (.free rfl) rfl (q_nilCheck (a := a3) rfl (congrArg Value.pointer ha3)) ?_
    refine ro_val (d := (some 16)) rfl (.free rfl) rfl (q_fieldAddr (a := a3) (off := 1) rfl Try.underlying94 rfl rfl ok2 (by decide) rfl) ?_
    obtain ⟨x4, hx4, h⟩ := h
    refine ro_val (d := (some 17)) rfl (.free rfl) rfl (q_load (T := (tInt .i64)) (u := x4) (a := (a3.add 1)) rfl ok2 rfl hx4) ?_
    refine ro_val (d := (some 18)) rfl (.free rfl) rfl (q_move (v := .int .i64 (mark_2)) rfl rfl) ?_
    refine ro_val (d := (some 19)) rfl (.free rfl) rfl (q_max (a := x4) (b := mark_2) rfl rfl rfl) ?_
    refine ro_val (d := (some 20)) rfl (.free rfl) rfl (q_nilCheck (a := a3) rfl (congrArg Value.pointer ha3)) ?_
    refine ro_val (d := (some 21)) rfl (.free rfl) rfl (q_fieldAddr (a := a3) (off := 1) rfl Try.underlying94 rfl rfl ok2 (by decide) rfl) ?_
    obtain ⟨w5, hw5, hrw5, h⟩ := st_open h
    refine ro_skip (d := none) rfl (.free rfl) rfl (q_store (T := (tInt .i64)) (u := (max x4 mark_2)) (a := (a3.add 1)) rfl ok2 rfl rfl hrw5 hw5) ?_
    refine ro_nil ?_
    refine wp_seq ?_
    refine wp_text [0, 1, 2, 3, 4, 5, 6, 7, 8] rfl ?_
    refine ro_val (d := (some 22)) rfl (.free rfl) rfl (q_move (v := .pointer (c_1)) rfl rfl) ?_
    refine ro_val (d := (some 23)) rfl (.free rfl) rfl (q_move (v := .pointer (c_1)) rfl rfl) ?_
    refine ro_val (d := (some 24)) rfl (.free rfl) rfl (q_nilCheck (a := a3) rfl (congrArg Value.pointer ha3)) ?_
    refine ro_val (d := (some 25)) rfl (.free rfl) rfl (q_fieldAddr (a := a3) (off := 1) rfl Try.underlying94 rfl rfl ok2 (by decide) rfl) ?_
    obtain ⟨x6, hx6, h⟩ := h
    refine ro_val (d := (some 26)) rfl (.free rfl) rfl (q_load (T := (tInt .i64)) (u := x6) (a := (a3.add 1)) rfl ok2 rfl hx6) ?_
    refine ro_wp rfl (.free rfl) (wp_cl (d := (some 27)) rfl (q_call (k := 50) (l := [.pointer (c_1), .int .i64 (x6)]) rfl ent50 rfl) h ?_)
    intro r8 w7 h
    refine ro_val (d := (some 28)) rfl (.free rfl) rfl (q_sub (a := r8) (b := (1 : Int)) rfl rfl rfl) ?_
    refine ro_val (d := (some 29)) rfl (.free rfl) rfl (q_max (a := (IntKind.i64.wrap (r8 - (1 : Int)))) (b := (0 : Int)) rfl rfl rfl) ?_
    refine ro_val (d := (some 5)) rfl (.free rfl) rfl (q_assign (v := .int .i64 ((max (IntKind.i64.wrap (r8 - (1 : Int))) (0 : Int)))) rfl rfl) ?_
    refine ro_nil ?_
    refine wp_seq ?_
    refine wp_text [0, 1, 2, 3, 4, 5, 6, 7, 8] rfl ?_
    refine ro_val (d := (some 30)) rfl (.free rfl) rfl (q_move (v := .pointer (c_1)) rfl rfl) ?_
    refine ro_val (d := (some 31)) rfl (.free rfl) rfl (q_nilCheck (a := a3) rfl (congrArg Value.pointer ha3)) ?_
    refine ro_val (d := (some 32)) rfl (.free rfl) rfl (q_fieldAddr (a := a3) (off := 0) rfl Try.underlying94 rfl rfl ok77 (by decide) rfl) ?_
    obtain ⟨x9, hx9, h⟩ := h
    refine ro_val (d := (some 33)) rfl (.free rfl) rfl (q_load (T := tSlc) (u := x9) (a := (a3.add 0)) rfl ok77 rfl hx9) ?_
    refine ro_val (d := (some 34)) rfl (.free rfl) rfl (q_len (s := x9) rfl Try.underlying77 rfl) ?_
    refine ro_val (d := (some 35)) rfl (.free rfl) rfl (q_move (v := .int .i64 ((max (IntKind.i64.wrap (r8 - (1 : Int))) (0 : Int)))) rfl rfl) ?_
    refine ro_val (d := (some 36)) rfl (.free rfl) rfl (q_sub (a := (x9.len : Int)) (b := (max (IntKind.i64.wrap (r8 - (1 : Int))) (0 : Int))) rfl rfl rfl) ?_
    refine ro_wp rfl (.free rfl) (wp_mkS (T := T35) (z := Z35) (l := (IntKind.i64.wrap ((x9.len : Int) - (max (IntKind.i64.wrap (r8 - (1 : Int))) (0 : Int))))) (c := (IntKind.i64.wrap ((x9.len : Int) - (max (IntKind.i64.wrap (r8 - (1 : Int))) (0 : Int))))) (d := (some 37)) rfl rfl Try.underlying77 ok36 inf36 rfl rfl h ?_)
    intro r11 w10 h
    refine ro_val (d := (some 6)) rfl (.free rfl) rfl (q_assign (v := tSlc.enc (r11)) rfl rfl) ?_
    refine ro_nil ?_
    refine wp_seq ?_
    refine wp_text [0, 1, 2, 3, 4, 5, 6, 7] rfl ?_
    refine ro_val (d := (some 38)) rfl (.free rfl) rfl (q_move (v := tSlc.enc (r11)) rfl rfl) ?_
    refine ro_val (d := (some 39)) rfl (.free rfl) rfl (q_move (v := .pointer (c_1)) rfl rfl) ?_
    refine ro_val (d := (some 40)) rfl (.free rfl) rfl (q_nilCheck (a := a3) rfl (congrArg Value.pointer ha3)) ?_
    refine ro_val (d := (some 41)) rfl (.free rfl) rfl (q_fieldAddr (a := a3) (off := 0) rfl Try.underlying94 rfl rfl ok77 (by decide) rfl) ?_
    obtain ⟨x12, hx12, h⟩ := h
    refine ro_val (d := (some 42)) rfl (.free rfl) rfl (q_load (T := tSlc) (u := x12) (a := (a3.add 0)) rfl ok77 rfl hx12) ?_
    refine ro_val (d := (some 43)) rfl (.free rfl) rfl (q_move (v := .int .i64 ((max (IntKind.i64.wrap (r8 - (1 : Int))) (0 : Int)))) rfl rfl) ?_
    obtain ⟨s13, hs13, h⟩ := h
    refine ro_val (d := (some 44)) rfl (.free rfl) rfl (q_sliceL (s := x12) (l := (max (IntKind.i64.wrap (r8 - (1 : Int))) (0 : Int))) rfl Try.underlying77 ok36 rfl rfl hs13) ?_
    refine ro_wp rfl (.free rfl) (wp_cpy (T := T35) (s := r11) (b := s13) (d := (some 45)) rfl rfl Try.underlying77 ok36 rfl rfl h ?_)
    intro r15 w14 h
    refine ro_nil ?_
    refine wp_seq ?_
    refine wp_text [0, 1, 2, 3, 4, 5, 6, 7, 8, 9] rfl ?_
    refine ro_val (d := (some 46)) rfl (.free rfl) rfl (q_move (v := .pointer (c_1)) rfl rfl) ?_
    refine ro_val (d := (some 47)) rfl (.free rfl) rfl (q_move (v := tSlc.enc (r11)) rfl rfl) ?_
    refine ro_val (d := (some 48)) rfl (.free rfl) rfl (q_move (v := tSlc.enc (r11)) rfl rfl) ?_
    refine ro_val (d := (some 49)) rfl (.free rfl) rfl (q_len (s := r11) rfl Try.underlying77 rfl) ?_
    refine ro_val (d := (some 50)) rfl (.free rfl) rfl (q_move (v := tSlc.enc (r11)) rfl rfl) ?_
    refine ro_val (d := (some 51)) rfl (.free rfl) rfl (q_len (s := r11) rfl Try.underlying77 rfl) ?_
    obtain ⟨s16, hs16, h⟩ := h
    refine ro_val (d := (some 52)) rfl (.free rfl) rfl (q_sliceHM (s := r11) (h := (r11.len : Int)) (m := (r11.len : Int)) rfl Try.underlying77 ok36 rfl rfl rfl hs16) ?_
    refine ro_val (d := (some 53)) rfl (.free rfl) rfl (q_nilCheck (a := a3) rfl (congrArg Value.pointer ha3)) ?_
    refine ro_val (d := (some 54)) rfl (.free rfl) rfl (q_fieldAddr (a := a3) (off := 0) rfl Try.underlying94 rfl rfl ok77 (by decide) rfl) ?_
    obtain ⟨w17, hw17, hrw17, h⟩ := st_open h
    refine ro_skip (d := none) rfl (.free rfl) rfl (q_store (T := tSlc) (u := s16) (a := (a3.add 0)) rfl ok77 rfl rfl hrw17 hw17) ?_
    refine ro_nil ?_
    refine wp_seq ?_
    refine wp_text [0] rfl ?_
    refine ro_val (d := (some 4)) rfl (.free rfl) rfl (q_assign (v := .int .i64 ((0 : Int))) rfl rfl) ?_
    refine ro_nil ?_
    refine wp_ret ?_
    exact ret_ok rfl (.cons (.tmp (v := .int .i64 ((0 : Int))) rfl) .nil) ⟨(0 : Int), rfl, h⟩

-- moiety/moietyref12.versions
def F46_j2 (i_6 : Int) (n_10 : Int) (w11 : World) (K8 : Int × Int → World → Prop) (R : Int → World → Prop) : Prop :=
  K8 (n_10, (IntKind.i64.wrap (i_6 + (1 : Int)))) w11
def F46_l1 (key_2 : Int) (a3 : Addr) (n_5 : Int) (i_6 : Int) (w7 : World) (K8 : Int × Int → World → Prop) (R : Int → World → Prop) : Prop :=
  ex (RdAt tSlc (a3.add 0) w7) fun x9 =>
  if (decide (i_6 < (x9.len : Int))) = true then (
    ex (RdAt tSlc (a3.add 0) w7) fun x12 =>
    ex (IxA x12 3 i_6) fun a13 =>
    ex (RdAt (tInt .i64) ((a13.add 1).add 0) w7) fun x14 =>
    if (x14 == key_2) = true then (
      F46_j2 i_6 (IntKind.i64.wrap (n_5 + (1 : Int))) w7 K8 R
    ) else (
      F46_j2 i_6 n_5 w7 K8 R
    )
  ) else (
    R n_5 w7
  )
def F46 (s_1 : S26) (key_2 : Int) (w : World) (R : Int → World → Prop) : Prop :=
  nw 27 T26 s_1 w fun a3 w4 =>
  lp (fun (s : Int × Int) w K => F46_l1 key_2 a3 s.1 s.2 w K R) ((0 : Int), (0 : Int)) w4
theorem F46_ok {s_1 : S26} {key_2 : Int} {w : World} {R : Int → World → Prop} (h : F46 s_1 key_2 w R) : cl Try.prog 46 [T26.enc (s_1), .int .i64 (key_2)] (tInt .i64) w R := by
  unfold F46 at h
  refine calls_start 26 Try.func46 rfl rfl (Nat.le_of_ble_eq_true rfl) ?_
  refine wp_seq ?_
  refine wp_text [0, 1] rfl ?_
  obtain ⟨a3, w4, ha3, hw4, h⟩ := nw_open h
  refine ro_val (d := (some 2)) rfl (.free rfl) rfl (q_box (u := s_1) rfl ok27 rfl ha3 hw4) ?_
  refine ro_val (d := (some 4)) rfl (.free rfl) rfl (q_assign (v := .int .i64 ((0 : Int))) rfl rfl) ?_
  refine ro_nil ?_
  refine wp_seq ?_
  refine wp_text [0] rfl ?_
  refine ro_val (d := (some 5)) rfl (.free rfl) rfl (q_assign (v := .int .i64 ((0 : Int))) rfl rfl) ?_
  refine ro_nil ?_
  refine wp_seq ?_
  refine wp_seq ?_
  refine wp_text [0] rfl ?_
  refine ro_val (d := (some 6)) rfl (.free rfl) rfl (q_assign (v := .int .i64 ((0 : Int))) rfl rfl) ?_
  refine ro_nil ?_
  refine wp_block ?_
  refine loop_at (σ := Int × Int) (fr := fun g (s : Int × Int) => upd (upd (upd (upd (g) 1 (.int .i64 (key_2))) 2 (.pointer (some a3))) 5 (.int .i64 (s.1))) 6 (.int .i64 (s.2))) (s0 := ((0 : Int), (0 : Int))) (upd_step (upd_step (upd_step (upd_step rfl rfl) rfl) rfl) rfl) h ?_
  rintro ⟨n_5, i_6⟩ g w7 K8 h
  unfold F46_l1 at h
  refine wp_seq ?_
  refine wp_seq ?_
  refine wp_text [0, 1, 2, 3, 4] rfl ?_
  refine ro_val (d := (some 7)) rfl (.free rfl) rfl (q_move (v := .int .i64 (i_6)) rfl rfl) ?_
  refine ro_val (d := (some 8)) rfl (.free rfl) rfl (q_fieldAddr (a := a3) (off := 0) rfl Try.underlying27 rfl rfl ok25 (by decide) rfl) ?_
  obtain ⟨x9, hx9, h⟩ := h
  refine ro_val (d := (some 9)) rfl (.free rfl) rfl (q_load (T := tSlc) (u := x9) (a := (a3.add 0)) rfl ok25 rfl hx9) ?_
  refine ro_val (d := (some 10)) rfl (.free rfl) rfl (q_len (s := x9) rfl Try.underlying25 rfl) ?_
  refine ro_val (d := (some 11)) rfl (.free rfl) rfl (q_lss (a := i_6) (b := (x9.len : Int)) rfl rfl rfl) ?_
  refine ro_nil ?_
  refine wp_if (b := (decide (i_6 < (x9.len : Int)))) rfl h (fun hb16 h => ?_) (fun hb16 h => ?_)
  · refine wp_skip ?_
    refine seq_join (σ := Int) (J := fun (s : Int) w => F46_j2 i_6 s w K8 R) (fr := fun g (s : Int) => upd (upd (upd (upd (g) 1 (.int .i64 (key_2))) 2 (.pointer (some a3))) 6 (.int .i64 (i_6))) 5 (.int .i64 (s))) ?_ ?_
    · rintro n_10 g w11 h
      unfold F46_j2 at h
      refine wp_text [0, 1, 2] rfl ?_
      refine ro_val (d := (some 12)) rfl (.free rfl) rfl (q_move (v := .int .i64 (i_6)) rfl rfl) ?_
      refine ro_val (d := (some 13)) rfl (.free rfl) rfl (q_add (a := i_6) (b := (1 : Int)) rfl rfl rfl) ?_
      refine ro_val (d := (some 6)) rfl (.free rfl) rfl (q_assign (v := .int .i64 ((IntKind.i64.wrap (i_6 + (1 : Int))))) rfl rfl) ?_
      refine ro_nil ?_
      exact ⟨(n_10, (IntKind.i64.wrap (i_6 + (1 : Int)))), _, arr (upd_step (upd_step (upd_step (upd_step rfl rfl) rfl) rfl) rfl), h⟩
    · refine wp_block ?_
      refine wp_seq ?_
      refine wp_text [0, 1, 2, 3, 4, 5, 6, 7, 8] rfl ?_
      refine ro_val (d := (some 14)) rfl (.free rfl) rfl (q_fieldAddr (a := a3) (off := 0) rfl Try.underlying27 rfl rfl ok25 (by decide) rfl) ?_
      obtain ⟨x12, hx12, h⟩ := h
      refine ro_val (d := (some 15)) rfl (.free rfl) rfl (q_load (T := tSlc) (u := x12) (a := (a3.add 0)) rfl ok25 rfl hx12) ?_
      refine ro_val (d := (some 16)) rfl (.free rfl) rfl (q_move (v := .int .i64 (i_6)) rfl rfl) ?_
      obtain ⟨a13, ha13, h⟩ := h
      refine ro_val (d := (some 17)) rfl (.free rfl) rfl (q_indexAddr (s := x12) (i := i_6) rfl Try.underlying25 ok76 rfl rfl ha13) ?_
      refine ro_val (d := (some 18)) rfl (.free rfl) rfl (q_fieldAddr (a := a13) (off := 1) rfl Try.underlying76 rfl rfl ok58 (by decide) rfl) ?_
      refine ro_val (d := (some 19)) rfl (.free rfl) rfl (q_fieldAddr (a := (a13.add 1)) (off := 0) rfl Try.underlying58 rfl rfl ok3 (by decide) rfl) ?_
      obtain ⟨x14, hx14, h⟩ := h
      refine ro_val (d := (some 20)) rfl (.free rfl) rfl (q_load (T := (tInt .i64)) (u := x14) (a := ((a13.add 1).add 0)) rfl ok3 rfl hx14) ?_
      refine ro_val (d := (some 21)) rfl (.free rfl) rfl (q_move (v := .int .i64 (key_2)) rfl rfl) ?_
      refine ro_val (d := (some 22)) rfl (.free rfl) rfl (q_eql (a := x14) (b := key_2) rfl rfl rfl) ?_
      refine ro_nil ?_
      refine wp_if (b := (x14 == key_2)) rfl h (fun hb15 h => ?_) (fun hb15 h => ?_)
      · refine wp_text [0, 1, 2] rfl ?_
        refine ro_val (d := (some 23)) rfl (.free rfl) rfl (q_move (v := .int .i64 (n_5)) rfl rfl) ?_
        refine ro_val (d := (some 24)) rfl (.free rfl) rfl (q_add (a := n_5) (b := (1 : Int)) rfl rfl rfl) ?_
        refine ro_val (d := (some 5)) rfl (.free rfl) rfl (q_assign (v := .int .i64 ((IntKind.i64.wrap (n_5 + (1 : Int))))) rfl rfl) ?_
        refine ro_nil ?_
        exact ⟨((IntKind.i64.wrap (n_5 + (1 : Int)))), _, arr (upd_step (upd_step (upd_step (upd_step rfl rfl) rfl) rfl) rfl), h⟩
      · refine wp_skip ?_
        exact ⟨(n_5), _, arr (upd_step (upd_step (upd_step (upd_step rfl rfl) rfl) rfl) rfl), h⟩
  · refine wp_exit ?_
    refine wp_seq ?_
    refine wp_text [0, 1] rfl ?_
    refine ro_val (d := (some 25)) rfl (.free rfl) rfl (q_move (v := .int .i64 (n_5)) rfl rfl) ?_
    refine ro_val (d := (some 4)) rfl (.free rfl) rfl (q_assign (v := .int .i64 (n_5)) rfl rfl) ?_
    refine ro_nil ?_
    refine wp_ret ?_
    exact ret_ok rfl (.cons (.tmp (v := .int .i64 (n_5)) rfl) .nil) ⟨n_5, rfl, h⟩

-- (*moiety/chain.Chain).place
def F50 (c_1 : (Option Addr)) (at_2 : Int) (w : World) (R : Int → World → Prop) : Prop :=
  nw 72 tPtr c_1 w fun a3 w4 =>
  nw 2 (tInt .i64) at_2 w4 fun a5 w6 =>
  ex (RdAt tPtr a3 w6) fun x7 =>
  ex (NC x7) fun a8 =>
  ex (RdAt tSlc (a8.add 0) w6) fun x9 =>
  cl Try.prog 55 [.int .i64 ((x9.len : Int)), ((Fv.mk (.func 56) (List.toArray []) (List.toArray [.pointer (some a3), .pointer (some a5)]))).enc] (tInt .i64) w6 fun r11 w10 =>
  R r11 w10
theorem F50_ok {c_1 : (Option Addr)} {at_2 : Int} {w : World} {R : Int → World → Prop} (h : F50 c_1 at_2 w R) : cl Try.prog 50 [.pointer (c_1), .int .i64 (at_2)] (tInt .i64) w R := by
  unfold F50 at h
  refine calls_start 12 Try.func50 rfl rfl (Nat.le_of_ble_eq_true rfl) ?_
  refine wp_seq ?_
  refine wp_text [0, 1, 2] rfl ?_
  obtain ⟨a3, w4, ha3, hw4, h⟩ := nw_open h
  refine ro_val (d := (some 2)) rfl (.free rfl) rfl (q_box (u := c_1) rfl ok72 rfl ha3 hw4) ?_
  obtain ⟨a5, w6, ha5, hw6, h⟩ := nw_open h
  refine ro_val (d := (some 3)) rfl (.free rfl) rfl (q_box (u := at_2) rfl ok2 rfl ha5 hw6) ?_
  refine ro_val (d := (some 4)) rfl (.free rfl) rfl (q_assign (v := .int .i64 ((0 : Int))) rfl rfl) ?_
  refine ro_nil ?_
  refine wp_seq ?_
  refine wp_text [0, 1, 2, 3, 4, 5, 6, 7] rfl ?_
  obtain ⟨x7, hx7, h⟩ := h
  refine ro_val (d := (some 5)) rfl (.free rfl) rfl (q_load (T := tPtr) (u := x7) (a := a3) rfl ok72 rfl hx7) ?_
  obtain ⟨a8, ha8, h⟩ := h
  refine ro_val (d := (some 6)) rfl (.free rfl) rfl (q_nilCheck (a := a8) rfl (congrArg Value.pointer ha8)) ?_
  refine ro_val (d := (some 7)) rfl (.free rfl) rfl (q_fieldAddr (a := a8) (off := 0) rfl Try.underlying94 rfl rfl ok77 (by decide) rfl) ?_
  obtain ⟨x9, hx9, h⟩ := h
  refine ro_val (d := (some 8)) rfl (.free rfl) rfl (q_load (T := tSlc) (u := x9) (a := (a8.add 0)) rfl ok77 rfl hx9) ?_
  refine ro_val (d := (some 9)) rfl (.free rfl) rfl (q_len (s := x9) rfl Try.underlying77 rfl) ?_
  refine ro_val (d := (some 10)) rfl (.free rfl) rfl (q_makeFunc (fn := .func 56) (va := []) (vc := [.pointer (some a3), .pointer (some a5)]) rfl rfl rfl) ?_
  refine ro_wp rfl (.free rfl) (wp_cl (d := (some 11)) rfl (q_call (k := 55) (l := [.int .i64 ((x9.len : Int)), ((Fv.mk (.func 56) (List.toArray []) (List.toArray [.pointer (some a3), .pointer (some a5)]))).enc]) rfl ent55 rfl) h ?_)
  intro r11 w10 h
  refine ro_val (d := (some 4)) rfl (.free rfl) rfl (q_assign (v := .int .i64 (r11)) rfl rfl) ?_
  refine ro_nil ?_
  refine wp_ret ?_
  exact ret_ok rfl (.cons (.tmp (v := .int .i64 (r11)) rfl) .nil) ⟨r11, rfl, h⟩

-- (*moiety/store.Store).full
def F51_j1 (t_6 : Bool) (w7 : World) (R : Bool → World → Prop) : Prop :=
  R t_6 w7
def F51 (s_1 : (Option Addr)) (key_2 : Int) (w : World) (R : Bool → World → Prop) : Prop :=
  ex (NC s_1) fun a3 =>
  ex (RdAt tMap (a3.add 0) w) fun x4 =>
  ex (MapGet tPtr .i64 x4 key_2 w) fun m5 =>
  if ((m5.getD (none : Option Addr), m5.isSome)).2 = true then (
    cl Try.prog 32 [.pointer (((m5.getD (none : Option Addr), m5.isSome)).1)] tSlc w fun r10 w9 =>
    F51_j1 (decide ((r10.len : Int) ≥ (10000 : Int))) w9 R
  ) else (
    F51_j1 false w R
  )
theorem F51_ok {s_1 : (Option Addr)} {key_2 : Int} {w : World} {R : Bool → World → Prop} (h : F51 s_1 key_2 w R) : cl Try.prog 51 [.pointer (s_1), .int .i64 (key_2)] tBool w R := by
  unfold F51 at h
  refine calls_start 23 Try.func51 rfl rfl (Nat.le_of_ble_eq_true rfl) ?_
  refine wp_seq ?_
  refine wp_text [0] rfl ?_
  refine ro_val (d := (some 4)) rfl (.free rfl) rfl (q_assign (v := .bool (false)) rfl rfl) ?_
  refine ro_nil ?_
  refine wp_seq ?_
  refine wp_text [0, 1, 2, 3, 4, 5, 6, 7, 8, 9, 10] rfl ?_
  refine ro_val (d := (some 8)) rfl (.free rfl) rfl (q_move (v := .pointer (s_1)) rfl rfl) ?_
  obtain ⟨a3, ha3, h⟩ := h
  refine ro_val (d := (some 9)) rfl (.free rfl) rfl (q_nilCheck (a := a3) rfl (congrArg Value.pointer ha3)) ?_
  refine ro_val (d := (some 10)) rfl (.free rfl) rfl (q_fieldAddr (a := a3) (off := 0) rfl Try.underlying67 rfl rfl ok65 (by decide) rfl) ?_
  obtain ⟨x4, hx4, h⟩ := h
  refine ro_val (d := (some 11)) rfl (.free rfl) rfl (q_load (T := tMap) (u := x4) (a := (a3.add 0)) rfl ok65 rfl hx4) ?_
  refine ro_val (d := (some 12)) rfl (.free rfl) rfl (q_move (v := .int .i64 (key_2)) rfl rfl) ?_
  obtain ⟨m5, hm5, h⟩ := h
  refine ro_val (d := (some 13)) rfl (.free rfl) rfl (q_lookup2 (T := tPtr) (r := x4) (key := key_2) (u := m5) (z := (none : Option Addr)) rfl Try.underlying65 Try.underlying3 (inf72) rfl rfl hm5) ?_
  refine ro_val (d := (some 7)) rfl (.free rfl) rfl (q_move (v := (tTup2 tPtr tBool).enc (((m5.getD (none : Option Addr), m5.isSome)))) rfl rfl) ?_
  refine ro_val (d := (some 14)) rfl (.free rfl) rfl (q_extract (vs := #[.pointer (((m5.getD (none : Option Addr), m5.isSome)).1), .bool (((m5.getD (none : Option Addr), m5.isSome)).2)]) (v := .pointer (((m5.getD (none : Option Addr), m5.isSome)).1)) rfl rfl rfl) ?_
  refine ro_val (d := (some 15)) rfl (.free rfl) rfl (q_extract (vs := #[.pointer (((m5.getD (none : Option Addr), m5.isSome)).1), .bool (((m5.getD (none : Option Addr), m5.isSome)).2)]) (v := .bool (((m5.getD (none : Option Addr), m5.isSome)).2)) rfl rfl rfl) ?_
  refine ro_val (d := (some 5)) rfl (.free rfl) rfl (q_assign (v := .pointer (((m5.getD (none : Option Addr), m5.isSome)).1)) rfl rfl) ?_
  refine ro_val (d := (some 6)) rfl (.free rfl) rfl (q_assign (v := .bool (((m5.getD (none : Option Addr), m5.isSome)).2)) rfl rfl) ?_
  refine ro_nil ?_
  refine wp_seq ?_
  refine wp_text [0, 1, 2, 3, 4, 5, 6, 7] rfl ?_
  refine ro_val (d := (some 16)) rfl (.free rfl) rfl (q_move (v := .bool (((m5.getD (none : Option Addr), m5.isSome)).2)) rfl rfl) ?_
  refine ro_val (d := (some 17)) rfl (.free rfl) rfl (q_move (v := .bool (((m5.getD (none : Option Addr), m5.isSome)).2)) rfl rfl) ?_
  refine ro_join (σ := Bool) (J := fun (s : Bool) w => F51_j1 s w R) (fr := fun g (s : Bool) => upd (g) 22 (.bool (s))) [2, 3, 4, 5, 6] [7] ?_ ?_
  · rintro t_6 g w7 h
    unfold F51_j1 at h
    refine ro_val (d := (some 4)) rfl (.free rfl) rfl (q_assign (v := .bool (t_6)) rfl rfl) ?_
    refine ro_nil ?_
    refine wp_ret ?_
    exact ret_ok rfl (.cons (.tmp (v := .bool (t_6)) rfl) .nil) ⟨t_6, rfl, h⟩
  · refine ro_if (b := ((m5.getD (none : Option Addr), m5.isSome)).2) h (fun hb8 h => ?_) (fun hb8 h => ?_)
    · refine ro_val (d := (some 18)) rfl (.by_ 1 true 17 (((m5.getD (none : Option Addr), m5.isSome)).2) rfl rfl rfl hb8) rfl (q_move (v := .pointer (((m5.getD (none : Option Addr), m5.isSome)).1)) rfl rfl) ?_
      refine ro_wp rfl (.by_ 1 true 17 (((m5.getD (none : Option Addr), m5.isSome)).2) rfl rfl rfl hb8) (wp_cl (d := (some 19)) rfl (q_call (k := 32) (l := [.pointer (((m5.getD (none : Option Addr), m5.isSome)).1)]) rfl ent32 rfl) h ?_)
      intro r10 w9 h
      refine ro_val (d := (some 20)) rfl (.by_ 1 true 17 (((m5.getD (none : Option Addr), m5.isSome)).2) rfl rfl rfl hb8) rfl (q_len (s := r10) rfl Try.underlying77 rfl) ?_
      refine ro_val (d := (some 21)) rfl (.by_ 1 true 17 (((m5.getD (none : Option Addr), m5.isSome)).2) rfl rfl rfl hb8) rfl (q_geq (a := (r10.len : Int)) (b := (10000 : Int)) rfl rfl rfl) ?_
      refine ro_val (d := (some 22)) rfl (.free rfl) rfl (q_pickT (v := .bool ((decide ((r10.len : Int) ≥ (10000 : Int))))) (b := ((m5.getD (none : Option Addr), m5.isSome)).2) rfl rfl hb8 rfl) ?_
      refine ro_nil ?_
      exact ⟨((decide ((r10.len : Int) ≥ (10000 : Int)))), _, arr (upd_step rfl rfl), h⟩
    · refine ro_bar (d := (some 18)) rfl (.by_ 1 true 17 (((m5.getD (none : Option Addr), m5.isSome)).2) rfl rfl rfl hb8) rfl ?_
      refine ro_bar (d := (some 19)) rfl (.by_ 1 true 17 (((m5.getD (none : Option Addr), m5.isSome)).2) rfl rfl rfl hb8) rfl ?_
      refine ro_bar (d := (some 20)) rfl (.by_ 1 true 17 (((m5.getD (none : Option Addr), m5.isSome)).2) rfl rfl rfl hb8) rfl ?_
      refine ro_bar (d := (some 21)) rfl (.by_ 1 true 17 (((m5.getD (none : Option Addr), m5.isSome)).2) rfl rfl rfl hb8) rfl ?_
      refine ro_val (d := (some 22)) rfl (.free rfl) rfl (q_pickF (v := .bool (false)) (b := ((m5.getD (none : Option Addr), m5.isSome)).2) rfl rfl hb8 rfl) ?_
      refine ro_nil ?_
      exact ⟨(false), _, arr (upd_step rfl rfl), h⟩

-- sort.Search
def F55_l1 (f_2 : Fv) (i_3 : Int) (j_4 : Int) (w5 : World) (K6 : Int × Int → World → Prop) (R : Int → World → Prop) : Prop :=
  if (decide (i_3 < j_4)) = true then (
    ex (Shift (1 : Int) (Int.fdiv (IntKind.u64.wrap (IntKind.i64.wrap (i_3 + j_4))) (2 ^ (min ((1 : Int)).toNat IntKind.u64.bits)))) fun d7 =>
    clv Try.prog f_2 [.int .i64 ((IntKind.i64.wrap d7))] tBool w5 fun r9 w8 =>
    if (!r9) = true then (
      K6 ((IntKind.i64.wrap ((IntKind.i64.wrap d7) + (1 : Int))), j_4) w8
    ) else (
      K6 (i_3, (IntKind.i64.wrap d7)) w8
    )
  ) else (
    R i_3 w5
  )
def F55 (n_1 : Int) (f_2 : Fv) (w : World) (R : Int → World → Prop) : Prop :=
  lp (fun (s : Int × Int) w K => F55_l1 f_2 s.1 s.2 w K R) ((0 : Int), n_1) w
theorem F55_ok {n_1 : Int} {f_2 : Fv} {w : World} {R : Int → World → Prop} (h : F55 n_1 f_2 w R) : cl Try.prog 55 [.int .i64 (n_1), (f_2).enc] (tInt .i64) w R := by
  unfold F55 at h
  refine calls_start 26 Try.func55 rfl rfl (Nat.le_of_ble_eq_true rfl) ?_
  refine wp_seq ?_
  refine wp_text [0] rfl ?_
  refine ro_val (d := (some 4)) rfl (.free rfl) rfl (q_assign (v := .int .i64 ((0 : Int))) rfl rfl) ?_
  refine ro_nil ?_
  refine wp_seq ?_
  refine wp_text [0, 1, 2] rfl ?_
  refine ro_val (d := (some 8)) rfl (.free rfl) rfl (q_move (v := .int .i64 (n_1)) rfl rfl) ?_
  refine ro_val (d := (some 5)) rfl (.free rfl) rfl (q_assign (v := .int .i64 ((0 : Int))) rfl rfl) ?_
  refine ro_val (d := (some 6)) rfl (.free rfl) rfl (q_assign (v := .int .i64 (n_1)) rfl rfl) ?_
  refine ro_nil ?_
  refine wp_seq ?_
  refine wp_block ?_
  refine loop_at (σ := Int × Int) (fr := fun g (s : Int × Int) => upd (upd (upd (g) 1 ((f_2).enc)) 5 (.int .i64 (s.1))) 6 (.int .i64 (s.2))) (s0 := ((0 : Int), n_1)) (upd_step (upd_step (upd_step rfl rfl) rfl) rfl) h ?_
  rintro ⟨i_3, j_4⟩ g w5 K6 h
  unfold F55_l1 at h
  refine wp_seq ?_
  refine wp_seq ?_
  refine wp_text [0, 1, 2] rfl ?_
  refine ro_val (d := (some 9)) rfl (.free rfl) rfl (q_move (v := .int .i64 (i_3)) rfl rfl) ?_
  refine ro_val (d := (some 10)) rfl (.free rfl) rfl (q_move (v := .int .i64 (j_4)) rfl rfl) ?_
  refine ro_val (d := (some 11)) rfl (.free rfl) rfl (q_lss (a := i_3) (b := j_4) rfl rfl rfl) ?_
  refine ro_nil ?_
  refine wp_if (b := (decide (i_3 < j_4))) rfl h (fun hb11 h => ?_) (fun hb11 h => ?_)
  · refine wp_skip ?_
    refine wp_block ?_
    refine wp_seq ?_
    refine wp_text [0, 1, 2, 3, 4, 5, 6] rfl ?_
    refine ro_val (d := (some 12)) rfl (.free rfl) rfl (q_move (v := .int .i64 (i_3)) rfl rfl) ?_
    refine ro_val (d := (some 13)) rfl (.free rfl) rfl (q_move (v := .int .i64 (j_4)) rfl rfl) ?_
    refine ro_val (d := (some 14)) rfl (.free rfl) rfl (q_add (a := i_3) (b := j_4) rfl rfl rfl) ?_
    refine ro_val (d := (some 15)) rfl (.free rfl) rfl (q_cvtI (a := (IntKind.i64.wrap (i_3 + j_4))) rfl Try.underlying3 Try.underlying103 rfl) ?_
    obtain ⟨d7, hd7, h⟩ := h
    refine ro_val (d := (some 16)) rfl (.free rfl) rfl (q_shr (a := (IntKind.u64.wrap (IntKind.i64.wrap (i_3 + j_4)))) (b := (1 : Int)) (r := d7) rfl rfl rfl hd7) ?_
    refine ro_val (d := (some 17)) rfl (.free rfl) rfl (q_cvtI (a := d7) rfl Try.underlying103 Try.underlying3 rfl) ?_
    refine ro_val (d := (some 7)) rfl (.free rfl) rfl (q_assign (v := .int .i64 ((IntKind.i64.wrap d7))) rfl rfl) ?_
    refine ro_nil ?_
    refine wp_seq ?_
    refine wp_text [0, 1, 2, 3] rfl ?_
    refine ro_val (d := (some 18)) rfl (.free rfl) rfl (q_move (v := (f_2).enc) rfl rfl) ?_
    refine ro_val (d := (some 19)) rfl (.free rfl) rfl (q_move (v := .int .i64 ((IntKind.i64.wrap d7))) rfl rfl) ?_
    refine ro_wp rfl (.free rfl) (wp_clv (d := (some 20)) (l := [.int .i64 ((IntKind.i64.wrap d7))]) (fv := f_2) rfl rfl rfl rfl h ?_)
    intro r9 w8 h
    refine ro_val (d := (some 21)) rfl (.free rfl) rfl (q_not (b := r9) rfl rfl) ?_
    refine ro_nil ?_
    refine wp_if (b := (!r9)) rfl h (fun hb10 h => ?_) (fun hb10 h => ?_)
    · refine wp_text [0, 1, 2] rfl ?_
      refine ro_val (d := (some 22)) rfl (.free rfl) rfl (q_move (v := .int .i64 ((IntKind.i64.wrap d7))) rfl rfl) ?_
      refine ro_val (d := (some 23)) rfl (.free rfl) rfl (q_add (a := (IntKind.i64.wrap d7)) (b := (1 : Int)) rfl rfl rfl) ?_
      refine ro_val (d := (some 5)) rfl (.free rfl) rfl (q_assign (v := .int .i64 ((IntKind.i64.wrap ((IntKind.i64.wrap d7) + (1 : Int))))) rfl rfl) ?_
      refine ro_nil ?_
      exact ⟨((IntKind.i64.wrap ((IntKind.i64.wrap d7) + (1 : Int))), j_4), _, arr (upd_step (upd_step (upd_step rfl rfl) rfl) rfl), h⟩
    · refine wp_text [0, 1] rfl ?_
      refine ro_val (d := (some 24)) rfl (.free rfl) rfl (q_move (v := .int .i64 ((IntKind.i64.wrap d7))) rfl rfl) ?_
      refine ro_val (d := (some 6)) rfl (.free rfl) rfl (q_assign (v := .int .i64 ((IntKind.i64.wrap d7))) rfl rfl) ?_
      refine ro_nil ?_
      exact ⟨(i_3, (IntKind.i64.wrap d7)), _, arr (upd_step (upd_step (upd_step rfl rfl) rfl) rfl), h⟩
  · refine wp_exit ?_
    refine wp_seq ?_
    refine wp_text [0, 1] rfl ?_
    refine ro_val (d := (some 25)) rfl (.free rfl) rfl (q_move (v := .int .i64 (i_3)) rfl rfl) ?_
    refine ro_val (d := (some 4)) rfl (.free rfl) rfl (q_assign (v := .int .i64 (i_3)) rfl rfl) ?_
    refine ro_nil ?_
    refine wp_ret ?_
    exact ret_ok rfl (.cons (.tmp (v := .int .i64 (i_3)) rfl) .nil) ⟨i_3, rfl, h⟩

-- (*moiety/chain.Chain).place$1
def F56 (i_1 : Int) (t_2 : Addr) (t_3 : Addr) (w : World) (R : Bool → World → Prop) : Prop :=
  dr w fun w4 =>
  ex (RdAt tPtr t_2 w4) fun x5 =>
  ex (NC x5) fun a6 =>
  ex (RdAt tSlc (a6.add 0) w4) fun x7 =>
  ex (IxA x7 2 i_1) fun a8 =>
  ex (RdAt (tInt .i64) (a8.add 0) w4) fun x9 =>
  ex (RdAt (tInt .i64) t_3 w4) fun x10 =>
  R (decide (x9 > x10)) w4
theorem F56_ok {i_1 : Int} {t_2 : Addr} {t_3 : Addr} {w : World} {R : Bool → World → Prop} (h : F56 i_1 t_2 t_3 w R) : cl Try.prog 56 [.int .i64 (i_1), .pointer (some t_2), .pointer (some t_3)] tBool w R := by
  unfold F56 at h
  refine calls_start 15 Try.func56 rfl rfl (Nat.le_of_ble_eq_true rfl) ?_
  refine wp_seq ?_
  refine wp_text [0] rfl ?_
  refine ro_val (d := (some 4)) rfl (.free rfl) rfl (q_assign (v := .bool (false)) rfl rfl) ?_
  refine ro_nil ?_
  refine wp_seq ?_
  obtain ⟨w4, hw4, h⟩ := dr_open h
  refine wp_drawn 11 mixed rfl (by kernel_rfl) (by intro c a d v w h; cases d <;> exact h) hw4 (fun hD => ?_)
  refine rd_pure (i := 4) (d := (some 9)) hD (by kernel_rfl) (by kernel_rfl) rfl (.free rfl) rfl (fun _ => q_move (v := .int .i64 (i_1)) rfl rfl) ?_
  obtain ⟨x5, hx5, h⟩ := h
  refine rd_read (i := 0) (d := (some 5)) (fun W => (RdAt tPtr t_2 W) x5) hD (by kernel_rfl) (by kernel_rfl) rfl (.free rfl) rfl (fun W hr => q_load (T := tPtr) (u := x5) (a := t_2) rfl ok72 rfl hr) hx5 ?_
  obtain ⟨a6, ha6, h⟩ := h
  refine rd_pure (i := 1) (d := (some 6)) hD (by kernel_rfl) (by kernel_rfl) rfl (.free rfl) rfl (fun _ => q_nilCheck (a := a6) rfl (congrArg Value.pointer ha6)) ?_
  refine rd_pure (i := 2) (d := (some 7)) hD (by kernel_rfl) (by kernel_rfl) rfl (.free rfl) rfl (fun _ => q_fieldAddr (a := a6) (off := 0) rfl Try.underlying94 rfl rfl ok77 (by decide) rfl) ?_
  obtain ⟨x7, hx7, h⟩ := h
  refine rd_read (i := 3) (d := (some 8)) (fun W => (RdAt tSlc (a6.add 0) W) x7) hD (by kernel_rfl) (by kernel_rfl) rfl (.free rfl) rfl (fun W hr => q_load (T := tSlc) (u := x7) (a := (a6.add 0)) rfl ok77 rfl hr) hx7 ?_
  obtain ⟨a8, ha8, h⟩ := h
  refine rd_pure (i := 5) (d := (some 10)) hD (by kernel_rfl) (by kernel_rfl) rfl (.free rfl) rfl (fun _ => q_indexAddr (s := x7) (i := i_1) rfl Try.underlying77 ok36 rfl rfl ha8) ?_
  refine rd_pure (i := 6) (d := (some 11)) hD (by kernel_rfl) (by kernel_rfl) rfl (.free rfl) rfl (fun _ => q_fieldAddr (a := a8) (off := 0) rfl Try.underlying36 rfl rfl ok2 (by decide) rfl) ?_
  obtain ⟨x9, hx9, h⟩ := h
  refine rd_read (i := 7) (d := (some 12)) (fun W => (RdAt (tInt .i64) (a8.add 0) W) x9) hD (by kernel_rfl) (by kernel_rfl) rfl (.free rfl) rfl (fun W hr => q_load (T := (tInt .i64)) (u := x9) (a := (a8.add 0)) rfl ok2 rfl hr) hx9 ?_
  obtain ⟨x10, hx10, h⟩ := h
  refine rd_read (i := 8) (d := (some 13)) (fun W => (RdAt (tInt .i64) t_3 W) x10) hD (by kernel_rfl) (by kernel_rfl) rfl (.free rfl) rfl (fun W hr => q_load (T := (tInt .i64)) (u := x10) (a := t_3) rfl ok2 rfl hr) hx10 ?_
  refine rd_pure (i := 9) (d := (some 14)) hD (by kernel_rfl) (by kernel_rfl) rfl (.free rfl) rfl (fun _ => q_gtr (a := x9) (b := x10) rfl rfl rfl) ?_
  refine rd_pure (i := 10) (d := (some 4)) hD (by kernel_rfl) (by kernel_rfl) rfl (.free rfl) rfl (fun _ => q_assign (v := .bool ((decide (x9 > x10)))) rfl rfl) ?_
  refine rd_nil (by kernel_rfl) ?_
  refine wp_ret ?_
  exact ret_ok rfl (.cons (.tmp (v := .bool ((decide (x9 > x10)))) rfl) .nil) ⟨(decide (x9 > x10)), rfl, h⟩

end Go.Proofs.Ytdgdkbfigndndaa.Cf
