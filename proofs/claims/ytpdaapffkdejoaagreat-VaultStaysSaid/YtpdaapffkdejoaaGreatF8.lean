/- Characteristic formulae of Go functions, and that they are. Printed by gen.py (own tool). -/
import Derived.Test.YtpdaapffkdejoaaGreatTy
namespace Go.Proofs.YtpdaapffkdejoaaGreat.Cf
open Go
set_option maxRecDepth 100000
set_option maxHeartbeats 1000000
set_option linter.unusedVariables false
set_option linter.unusedSimpArgs false

-- moiety/num.Times
def F71_j2 (n_1 : Int) (r9 : (Nat × Int)) (d12 : Int) (r18 : (Int × Int)) (t_19 : Bool) (w20 : World) (R : (Int × Int) → World → Prop) : Prop :=
  if t_19 = true then (
    R ((0 : Int), (11 : Int)) w20
  ) else (
    ex (Shift (IntKind.u64.wrap (IntKind.i64.wrap (r9.2 - (53 : Int)))) (IntKind.u64.wrap (r18.2 * 2 ^ (min ((IntKind.u64.wrap (IntKind.i64.wrap (r9.2 - (53 : Int))))).toNat IntKind.u64.bits)))) fun d21 =>
    cl Tryz.prog 93 [.bool ((!((decide (n_1 < (0 : Int))) == (decide (d12 < (0 : Int)))))), .int .u64 (d21)] (tTup2 (tInt .i64) (tInt .i64)) w20 fun r23 w22 =>
    R (r23.1, r23.2) w22
  )
def F71_j3 (n_1 : Int) (d12 : Int) (q_30 : Int) (w31 : World) (R : (Int × Int) → World → Prop) : Prop :=
  cl Tryz.prog 93 [.bool ((!((decide (n_1 < (0 : Int))) == (decide (d12 < (0 : Int)))))), .int .u64 (q_30)] (tTup2 (tInt .i64) (tInt .i64)) w31 fun r33 w32 =>
  R (r33.1, r33.2) w32
def F71_j1 (n_1 : Int) (f_2 : Nat) (t_5 : Bool) (w6 : World) (R : (Int × Int) → World → Prop) : Prop :=
  if t_5 = true then (
    if (n_1 == (0 : Int)) = true then (
      R ((0 : Int), (10 : Int)) w6
    ) else (
      R ((0 : Int), (11 : Int)) w6
    )
  ) else (
    cl Tryz.prog 89 [.float .f64 (f_2)] (tTup2 tFlt (tInt .i64)) w6 fun r9 w8 =>
    cl Tryz.prog 90 [.float .f64 (r9.1), .int .i64 ((53 : Int))] tFlt w8 fun r11 w10 =>
    ex (F2I .i64 r11) fun d12 =>
    cl Tryz.prog 92 [.int .i64 (n_1)] (tInt .u64) w10 fun r14 w13 =>
    cl Tryz.prog 92 [.int .i64 (d12)] (tInt .u64) w13 fun r16 w15 =>
    cl Tryz.prog 91 [.int .u64 (r14), .int .u64 (r16)] (tTup2 (tInt .u64) (tInt .u64)) w15 fun r18 w17 =>
    if ((r18.1 == (0 : Int)) && (r18.2 == (0 : Int))) = true then (
      R ((0 : Int), (0 : Int)) w17
    ) else (
      if (decide ((IntKind.i64.wrap (r9.2 - (53 : Int))) ≥ (0 : Int))) = true then (
        if ((r18.1 != (0 : Int)) || (decide ((IntKind.i64.wrap (r9.2 - (53 : Int))) ≥ (64 : Int)))) = true then (
          F71_j2 n_1 r9 d12 r18 true w17 R
        ) else (
          cl Tryz.prog 88 [.int .u64 (r18.2)] (tInt .i64) w17 fun r27 w26 =>
          F71_j2 n_1 r9 d12 r18 (decide ((IntKind.i64.wrap (r27 + (IntKind.i64.wrap (r9.2 - (53 : Int))))) > (64 : Int))) w26 R
        )
      ) else (
        cl Tryz.prog 94 [.int .u64 (r18.1), .int .u64 (r18.2), .int .u64 ((IntKind.u64.wrap (IntKind.i64.wrap (0 - (IntKind.i64.wrap (r9.2 - (53 : Int)))))))] (tTup3 (tInt .u64) tBool tBool) w17 fun r29 w28 =>
        if ((!r29.2.2) || (((!((decide (n_1 < (0 : Int))) == (decide (d12 < (0 : Int))))) && r29.2.1) && (decide (r29.1 ≥ (9223372036854775808 : Int))))) = true then (
          R ((0 : Int), (11 : Int)) w28
        ) else (
          if ((!((decide (n_1 < (0 : Int))) == (decide (d12 < (0 : Int))))) && r29.2.1) = true then (
            F71_j3 n_1 d12 (IntKind.u64.wrap (r29.1 + (1 : Int))) w28 R
          ) else (
            F71_j3 n_1 d12 r29.1 w28 R
          )
        )
      )
    )
  )
def F71 (n_1 : Int) (f_2 : Nat) (w : World) (R : (Int × Int) → World → Prop) : Prop :=
  cl Tryz.prog 59 [.float .f64 (f_2)] (tInt .i64) w fun r4 w3 =>
  if (r4 == (0 : Int)) = true then (
    R ((0 : Int), (10 : Int)) w3
  ) else (
    if (r4 == (1 : Int)) = true then (
      F71_j1 n_1 f_2 (r4 == (1 : Int)) w3 R
    ) else (
      F71_j1 n_1 f_2 (r4 == (6 : Int)) w3 R
    )
  )
theorem F71_ok {n_1 : Int} {f_2 : Nat} {w : World} {R : (Int × Int) → World → Prop} (h : F71 n_1 f_2 w R) : cl Tryz.prog 71 [.int .i64 (n_1), .float .f64 (f_2)] (tTup2 (tInt .i64) (tInt .i64)) w R := by
  unfold F71 at h
  refine calls_start 110 Tryz.func71 rfl rfl (Nat.le_of_ble_eq_true rfl) ?_
  refine wp_seq ?_
  refine wp_text [0, 1] rfl ?_
  refine rv 4 rfl rfl rfl (q_assign (v := .int .i64 ((0 : Int))) rfl rfl) ?_
  refine rv 5 rfl rfl rfl (q_assign (v := .int .i64 ((0 : Int))) rfl rfl) ?_
  refine ro_nil ?_
  refine wp_seq ?_
  refine wp_seq ?_
  refine wp_text [0, 1] rfl ?_
  refine rv 16 rfl rfl rfl (q_move (v := .float .f64 (f_2)) rfl rfl) ?_
  refine ro_wp rfl (.free rfl) (wp_cl (d := (some 17)) rfl (q_call (k := 59) (l := [.float .f64 (f_2)]) rfl ent59 rfl) h ?_)
  intro r4 w3 h
  refine ro_nil ?_
  refine wp_block ?_
  refine wp_seq ?_
  refine wp_text [0, 1] rfl ?_
  refine rv 19 rfl rfl rfl (q_eql (a := r4) (b := (0 : Int)) rfl rfl rfl) ?_
  refine rv 18 rfl rfl rfl (q_assign (v := .bool ((r4 == (0 : Int)))) rfl rfl) ?_
  refine ro_nil ?_
  refine wp_if (b := (r4 == (0 : Int))) rfl h (fun hb40 h => ?_) (fun hb40 h => ?_)
  · refine wp_seq ?_
    refine wp_text [0, 1] rfl ?_
    refine rv 4 rfl rfl rfl (q_assign (v := .int .i64 ((0 : Int))) rfl rfl) ?_
    refine rv 5 rfl rfl rfl (q_assign (v := .int .i64 ((10 : Int))) rfl rfl) ?_
    refine ro_nil ?_
    refine wp_ret ?_
    exact ret_ok rfl (.cons (.tmp (v := .int .i64 ((0 : Int))) rfl) (.cons (.tmp (v := .int .i64 ((10 : Int))) rfl) .nil)) ⟨((0 : Int), (10 : Int)), rfl, h⟩
  · refine seq_join (σ := Bool) (J := fun (s : Bool) w => F71_j1 n_1 f_2 s w R) (fr := fun g (s : Bool) => upd (upd (upd (g) 0 (.int .i64 (n_1))) 1 (.float .f64 (f_2))) 20 (.bool (s))) ?_ ?_
    · rintro t_5 g w6 h
      unfold F71_j1 at h
      refine wp_if (b := t_5) rfl h (fun hb38 h => ?_) (fun hb38 h => ?_)
      · refine wp_seq ?_
        refine wp_seq ?_
        refine wp_text [0, 1] rfl ?_
        refine rv 23 rfl rfl rfl (q_move (v := .int .i64 (n_1)) rfl rfl) ?_
        refine rv 24 rfl rfl rfl (q_eql (a := n_1) (b := (0 : Int)) rfl rfl rfl) ?_
        refine ro_nil ?_
        refine wp_if (b := (n_1 == (0 : Int))) rfl h (fun hb7 h => ?_) (fun hb7 h => ?_)
        · refine wp_seq ?_
          refine wp_text [0, 1] rfl ?_
          refine rv 4 rfl rfl rfl (q_assign (v := .int .i64 ((0 : Int))) rfl rfl) ?_
          refine rv 5 rfl rfl rfl (q_assign (v := .int .i64 ((10 : Int))) rfl rfl) ?_
          refine ro_nil ?_
          refine wp_ret ?_
          exact ret_ok rfl (.cons (.tmp (v := .int .i64 ((0 : Int))) rfl) (.cons (.tmp (v := .int .i64 ((10 : Int))) rfl) .nil)) ⟨((0 : Int), (10 : Int)), rfl, h⟩
        · refine wp_skip ?_
          refine wp_seq ?_
          refine wp_text [0, 1] rfl ?_
          refine rv 4 rfl rfl rfl (q_assign (v := .int .i64 ((0 : Int))) rfl rfl) ?_
          refine rv 5 rfl rfl rfl (q_assign (v := .int .i64 ((11 : Int))) rfl rfl) ?_
          refine ro_nil ?_
          refine wp_ret ?_
          exact ret_ok rfl (.cons (.tmp (v := .int .i64 ((0 : Int))) rfl) (.cons (.tmp (v := .int .i64 ((11 : Int))) rfl) .nil)) ⟨((0 : Int), (11 : Int)), rfl, h⟩
      · refine wp_skip ?_
        refine wp_seq ?_
        refine wp_text [0, 1, 2, 3, 4, 5, 6] rfl ?_
        refine rv 26 rfl rfl rfl (q_move (v := .float .f64 (f_2)) rfl rfl) ?_
        refine ro_wp rfl (.free rfl) (wp_cl (d := (some 27)) rfl (q_call (k := 89) (l := [.float .f64 (f_2)]) rfl ent89 rfl) h ?_)
        intro r9 w8 h
        refine rv 25 rfl rfl rfl (q_move (v := (tTup2 tFlt (tInt .i64)).enc (r9)) rfl rfl) ?_
        refine rv 28 rfl rfl rfl (q_extract (vs := #[.float .f64 (r9.1), .int .i64 (r9.2)]) (v := .float .f64 (r9.1)) rfl rfl rfl) ?_
        refine rv 29 rfl rfl rfl (q_extract (vs := #[.float .f64 (r9.1), .int .i64 (r9.2)]) (v := .int .i64 (r9.2)) rfl rfl rfl) ?_
        refine rv 6 rfl rfl rfl (q_assign (v := .float .f64 (r9.1)) rfl rfl) ?_
        refine rv 7 rfl rfl rfl (q_assign (v := .int .i64 (r9.2)) rfl rfl) ?_
        refine ro_nil ?_
        refine wp_seq ?_
        refine wp_text [0, 1, 2, 3, 4, 5, 6] rfl ?_
        refine rv 30 rfl rfl rfl (q_move (v := .float .f64 (r9.1)) rfl rfl) ?_
        refine ro_wp rfl (.free rfl) (wp_cl (d := (some 31)) rfl (q_call (k := 90) (l := [.float .f64 (r9.1), .int .i64 ((53 : Int))]) rfl ent90 rfl) h ?_)
        intro r11 w10 h
        obtain ⟨d12, hd12, h⟩ := h
        refine rv 32 rfl rfl rfl (q_cvtFI (b := r11) (m := d12) rfl Tryz.underlying22 Tryz.underlying2 rfl hd12) ?_
        refine rv 33 rfl rfl rfl (q_move (v := .int .i64 (r9.2)) rfl rfl) ?_
        refine rv 34 rfl rfl rfl (q_sub (a := r9.2) (b := (53 : Int)) rfl rfl rfl) ?_
        refine rv 8 rfl rfl rfl (q_assign (v := .int .i64 (d12)) rfl rfl) ?_
        refine rv 9 rfl rfl rfl (q_assign (v := .int .i64 ((IntKind.i64.wrap (r9.2 - (53 : Int))))) rfl rfl) ?_
        refine ro_nil ?_
        refine wp_seq ?_
        refine wp_text [0, 1, 2, 3, 4, 5] rfl ?_
        refine rv 35 rfl rfl rfl (q_move (v := .int .i64 (n_1)) rfl rfl) ?_
        refine rv 36 rfl rfl rfl (q_lss (a := n_1) (b := (0 : Int)) rfl rfl rfl) ?_
        refine rv 37 rfl rfl rfl (q_move (v := .int .i64 (d12)) rfl rfl) ?_
        refine rv 38 rfl rfl rfl (q_lss (a := d12) (b := (0 : Int)) rfl rfl rfl) ?_
        refine rv 39 rfl rfl rfl (q_neB (a := (decide (n_1 < (0 : Int)))) (b := (decide (d12 < (0 : Int)))) rfl Tryz.underlying4 rfl rfl) ?_
        refine rv 10 rfl rfl rfl (q_assign (v := .bool ((!((decide (n_1 < (0 : Int))) == (decide (d12 < (0 : Int))))))) rfl rfl) ?_
        refine ro_nil ?_
        refine wp_seq ?_
        refine wp_text [0, 1, 2, 3, 4, 5, 6, 7, 8, 9] rfl ?_
        refine rv 41 rfl rfl rfl (q_move (v := .int .i64 (n_1)) rfl rfl) ?_
        refine ro_wp rfl (.free rfl) (wp_cl (d := (some 42)) rfl (q_call (k := 92) (l := [.int .i64 (n_1)]) rfl ent92 rfl) h ?_)
        intro r14 w13 h
        refine rv 43 rfl rfl rfl (q_move (v := .int .i64 (d12)) rfl rfl) ?_
        refine ro_wp rfl (.free rfl) (wp_cl (d := (some 44)) rfl (q_call (k := 92) (l := [.int .i64 (d12)]) rfl ent92 rfl) h ?_)
        intro r16 w15 h
        refine ro_wp rfl (.free rfl) (wp_cl (d := (some 45)) rfl (q_call (k := 91) (l := [.int .u64 (r14), .int .u64 (r16)]) rfl ent91 rfl) h ?_)
        intro r18 w17 h
        refine rv 40 rfl rfl rfl (q_move (v := (tTup2 (tInt .u64) (tInt .u64)).enc (r18)) rfl rfl) ?_
        refine rv 46 rfl rfl rfl (q_extract (vs := #[.int .u64 (r18.1), .int .u64 (r18.2)]) (v := .int .u64 (r18.1)) rfl rfl rfl) ?_
        refine rv 47 rfl rfl rfl (q_extract (vs := #[.int .u64 (r18.1), .int .u64 (r18.2)]) (v := .int .u64 (r18.2)) rfl rfl rfl) ?_
        refine rv 11 rfl rfl rfl (q_assign (v := .int .u64 (r18.1)) rfl rfl) ?_
        refine rv 12 rfl rfl rfl (q_assign (v := .int .u64 (r18.2)) rfl rfl) ?_
        refine ro_nil ?_
        refine wp_seq ?_
        refine wp_seq ?_
        refine wp_text [0, 1, 2, 3, 4, 5] rfl ?_
        refine rv 48 rfl rfl rfl (q_move (v := .int .u64 (r18.1)) rfl rfl) ?_
        refine rv 49 rfl rfl rfl (q_eql (a := r18.1) (b := (0 : Int)) rfl rfl rfl) ?_
        refine rv 50 rfl rfl rfl (q_move (v := .bool ((r18.1 == (0 : Int)))) rfl rfl) ?_
        refine ro_gval (g := (r18.1 == (0 : Int))) (d := (some 51)) rfl (.yes 2 50 true (r18.1 == (0 : Int)) rfl rfl rfl rfl) rfl (fun hg => q_move (v := .int .u64 (r18.2)) rfl rfl) ?_
        refine ro_gval (g := (r18.1 == (0 : Int))) (d := (some 52)) rfl (.yes 2 50 true (r18.1 == (0 : Int)) rfl rfl rfl rfl) rfl (fun hg => q_eql (k := .u64) (a := r18.2) (b := (0 : Int)) rfl (gvb_yes hg) rfl) ?_
        refine rv 53 rfl rfl rfl (q_pickGT (a := (r18.1 == (0 : Int))) (b := (r18.2 == (0 : Int))) rfl rfl rfl rfl) ?_
        refine ro_nil ?_
        refine wp_if (b := ((r18.1 == (0 : Int)) && (r18.2 == (0 : Int)))) rfl h (fun hb37 h => ?_) (fun hb37 h => ?_)
        · refine wp_seq ?_
          refine wp_text [0, 1] rfl ?_
          refine rv 4 rfl rfl rfl (q_assign (v := .int .i64 ((0 : Int))) rfl rfl) ?_
          refine rv 5 rfl rfl rfl (q_assign (v := .int .i64 ((0 : Int))) rfl rfl) ?_
          refine ro_nil ?_
          refine wp_ret ?_
          exact ret_ok rfl (.cons (.tmp (v := .int .i64 ((0 : Int))) rfl) (.cons (.tmp (v := .int .i64 ((0 : Int))) rfl) .nil)) ⟨((0 : Int), (0 : Int)), rfl, h⟩
        · refine wp_skip ?_
          refine wp_seq ?_
          refine wp_seq ?_
          refine wp_text [0, 1] rfl ?_
          refine rv 54 rfl rfl rfl (q_move (v := .int .i64 ((IntKind.i64.wrap (r9.2 - (53 : Int))))) rfl rfl) ?_
          refine rv 55 rfl rfl rfl (q_geq (a := (IntKind.i64.wrap (r9.2 - (53 : Int)))) (b := (0 : Int)) rfl rfl rfl) ?_
          refine ro_nil ?_
          refine wp_if (b := (decide ((IntKind.i64.wrap (r9.2 - (53 : Int))) ≥ (0 : Int)))) rfl h (fun hb36 h => ?_) (fun hb36 h => ?_)
          · refine wp_seq ?_
            refine wp_seq ?_
            refine wp_text [0, 1, 2, 3, 4, 5, 6, 7, 8, 9, 10, 11, 12] rfl ?_
            refine rv 56 rfl rfl rfl (q_move (v := .int .u64 (r18.1)) rfl rfl) ?_
            refine rv 57 rfl rfl rfl (q_neq (a := r18.1) (b := (0 : Int)) rfl rfl rfl) ?_
            refine rv 58 rfl rfl rfl (q_move (v := .bool ((r18.1 != (0 : Int)))) rfl rfl) ?_
            refine ro_gval (g := (!(r18.1 != (0 : Int)))) (d := (some 59)) rfl (.no 2 58 true (r18.1 != (0 : Int)) rfl rfl rfl rfl) rfl (fun hg => q_move (v := .int .i64 ((IntKind.i64.wrap (r9.2 - (53 : Int))))) rfl rfl) ?_
            refine ro_gval (g := (!(r18.1 != (0 : Int)))) (d := (some 60)) rfl (.no 2 58 true (r18.1 != (0 : Int)) rfl rfl rfl rfl) rfl (fun hg => q_geq (k := .i64) (a := (IntKind.i64.wrap (r9.2 - (53 : Int)))) (b := (64 : Int)) rfl (gvb_yes hg) rfl) ?_
            refine rv 61 rfl rfl rfl (q_pickGF (a := (r18.1 != (0 : Int))) (c := (decide ((IntKind.i64.wrap (r9.2 - (53 : Int))) ≥ (64 : Int)))) rfl rfl rfl rfl) ?_
            refine rv 62 rfl rfl rfl (q_move (v := .bool (((r18.1 != (0 : Int)) || (decide ((IntKind.i64.wrap (r9.2 - (53 : Int))) ≥ (64 : Int)))))) rfl rfl) ?_
            refine ro_join (σ := Bool) (J := fun (s : Bool) w => F71_j2 n_1 r9 d12 r18 s w R) (fr := fun g (s : Bool) => upd (upd (upd (upd (g) 9 (.int .i64 ((IntKind.i64.wrap (r9.2 - (53 : Int)))))) 10 (.bool ((!((decide (n_1 < (0 : Int))) == (decide (d12 < (0 : Int)))))))) 12 (.int .u64 (r18.2))) 68 (.bool (s))) [7, 8, 9, 10, 11, 12] [] ?_ ?_
            · rintro t_19 g w20 h
              unfold F71_j2 at h
              refine ro_nil ?_
              refine wp_if (b := t_19) rfl h (fun hb24 h => ?_) (fun hb24 h => ?_)
              · refine wp_seq ?_
                refine wp_text [0, 1] rfl ?_
                refine rv 4 rfl rfl rfl (q_assign (v := .int .i64 ((0 : Int))) rfl rfl) ?_
                refine rv 5 rfl rfl rfl (q_assign (v := .int .i64 ((11 : Int))) rfl rfl) ?_
                refine ro_nil ?_
                refine wp_ret ?_
                exact ret_ok rfl (.cons (.tmp (v := .int .i64 ((0 : Int))) rfl) (.cons (.tmp (v := .int .i64 ((11 : Int))) rfl) .nil)) ⟨((0 : Int), (11 : Int)), rfl, h⟩
              · refine wp_skip ?_
                refine wp_seq ?_
                refine wp_text [0, 1, 2, 3, 4, 5, 6, 7, 8, 9] rfl ?_
                refine rv 69 rfl rfl rfl (q_move (v := .bool ((!((decide (n_1 < (0 : Int))) == (decide (d12 < (0 : Int))))))) rfl rfl) ?_
                refine rv 70 rfl rfl rfl (q_move (v := .int .u64 (r18.2)) rfl rfl) ?_
                refine rv 71 rfl rfl rfl (q_move (v := .int .i64 ((IntKind.i64.wrap (r9.2 - (53 : Int))))) rfl rfl) ?_
                refine rv 72 rfl rfl rfl (q_cvtI (a := (IntKind.i64.wrap (r9.2 - (53 : Int)))) rfl Tryz.underlying3 Tryz.underlying120 rfl) ?_
                obtain ⟨d21, hd21, h⟩ := h
                refine rv 73 rfl rfl rfl (q_shl (a := r18.2) (b := (IntKind.u64.wrap (IntKind.i64.wrap (r9.2 - (53 : Int))))) (r := d21) rfl rfl rfl hd21) ?_
                refine ro_wp rfl (.free rfl) (wp_cl (d := (some 74)) rfl (q_call (k := 93) (l := [.bool ((!((decide (n_1 < (0 : Int))) == (decide (d12 < (0 : Int)))))), .int .u64 (d21)]) rfl ent93 rfl) h ?_)
                intro r23 w22 h
                refine rv 75 rfl rfl rfl (q_extract (vs := #[.int .i64 (r23.1), .int .i64 (r23.2)]) (v := .int .i64 (r23.1)) rfl rfl rfl) ?_
                refine rv 76 rfl rfl rfl (q_extract (vs := #[.int .i64 (r23.1), .int .i64 (r23.2)]) (v := .int .i64 (r23.2)) rfl rfl rfl) ?_
                refine rv 4 rfl rfl rfl (q_assign (v := .int .i64 (r23.1)) rfl rfl) ?_
                refine rv 5 rfl rfl rfl (q_assign (v := .int .i64 (r23.2)) rfl rfl) ?_
                refine ro_nil ?_
                refine wp_ret ?_
                exact ret_ok rfl (.cons (.tmp (v := .int .i64 (r23.1)) rfl) (.cons (.tmp (v := .int .i64 (r23.2)) rfl) .nil)) ⟨(r23.1, r23.2), rfl, h⟩
            · refine ro_if (b := ((r18.1 != (0 : Int)) || (decide ((IntKind.i64.wrap (r9.2 - (53 : Int))) ≥ (64 : Int))))) h (fun hb25 h => ?_) (fun hb25 h => ?_)
              · refine ro_bar (d := (some 63)) rfl (.by_ 6 false 62 ((r18.1 != (0 : Int)) || (decide ((IntKind.i64.wrap (r9.2 - (53 : Int))) ≥ (64 : Int)))) rfl rfl rfl hb25) rfl ?_
                refine ro_bar (d := (some 64)) rfl (.by_ 6 false 62 ((r18.1 != (0 : Int)) || (decide ((IntKind.i64.wrap (r9.2 - (53 : Int))) ≥ (64 : Int)))) rfl rfl rfl hb25) rfl ?_
                refine ro_bar (d := (some 65)) rfl (.by_ 6 false 62 ((r18.1 != (0 : Int)) || (decide ((IntKind.i64.wrap (r9.2 - (53 : Int))) ≥ (64 : Int)))) rfl rfl rfl hb25) rfl ?_
                refine ro_bar (d := (some 66)) rfl (.by_ 6 false 62 ((r18.1 != (0 : Int)) || (decide ((IntKind.i64.wrap (r9.2 - (53 : Int))) ≥ (64 : Int)))) rfl rfl rfl hb25) rfl ?_
                refine ro_bar (d := (some 67)) rfl (.by_ 6 false 62 ((r18.1 != (0 : Int)) || (decide ((IntKind.i64.wrap (r9.2 - (53 : Int))) ≥ (64 : Int)))) rfl rfl rfl hb25) rfl ?_
                refine rv 68 rfl rfl rfl (q_pickT (v := .bool (true)) (b := ((r18.1 != (0 : Int)) || (decide ((IntKind.i64.wrap (r9.2 - (53 : Int))) ≥ (64 : Int))))) rfl rfl hb25 rfl) ?_
                refine ro_nil ?_
                exact ⟨(true), _, arr (upd_step (upd_step (upd_step (upd_step rfl rfl) rfl) rfl) rfl), h⟩
              · refine ro_val (d := (some 63)) rfl (.by_ 6 false 62 ((r18.1 != (0 : Int)) || (decide ((IntKind.i64.wrap (r9.2 - (53 : Int))) ≥ (64 : Int)))) rfl rfl rfl hb25) rfl (q_move (v := .int .u64 (r18.2)) rfl rfl) ?_
                refine ro_wp rfl (.by_ 6 false 62 ((r18.1 != (0 : Int)) || (decide ((IntKind.i64.wrap (r9.2 - (53 : Int))) ≥ (64 : Int)))) rfl rfl rfl hb25) (wp_cl (d := (some 64)) rfl (q_call (k := 88) (l := [.int .u64 (r18.2)]) rfl ent88 rfl) h ?_)
                intro r27 w26 h
                refine ro_val (d := (some 65)) rfl (.by_ 6 false 62 ((r18.1 != (0 : Int)) || (decide ((IntKind.i64.wrap (r9.2 - (53 : Int))) ≥ (64 : Int)))) rfl rfl rfl hb25) rfl (q_move (v := .int .i64 ((IntKind.i64.wrap (r9.2 - (53 : Int))))) rfl rfl) ?_
                refine ro_val (d := (some 66)) rfl (.by_ 6 false 62 ((r18.1 != (0 : Int)) || (decide ((IntKind.i64.wrap (r9.2 - (53 : Int))) ≥ (64 : Int)))) rfl rfl rfl hb25) rfl (q_add (a := r27) (b := (IntKind.i64.wrap (r9.2 - (53 : Int)))) rfl rfl rfl) ?_
                refine ro_val (d := (some 67)) rfl (.by_ 6 false 62 ((r18.1 != (0 : Int)) || (decide ((IntKind.i64.wrap (r9.2 - (53 : Int))) ≥ (64 : Int)))) rfl rfl rfl hb25) rfl (q_gtr (a := (IntKind.i64.wrap (r27 + (IntKind.i64.wrap (r9.2 - (53 : Int)))))) (b := (64 : Int)) rfl rfl rfl) ?_
                refine rv 68 rfl rfl rfl (q_pickF (v := .bool ((decide ((IntKind.i64.wrap (r27 + (IntKind.i64.wrap (r9.2 - (53 : Int))))) > (64 : Int))))) (b := ((r18.1 != (0 : Int)) || (decide ((IntKind.i64.wrap (r9.2 - (53 : Int))) ≥ (64 : Int))))) rfl rfl hb25 rfl) ?_
                refine ro_nil ?_
                exact ⟨((decide ((IntKind.i64.wrap (r27 + (IntKind.i64.wrap (r9.2 - (53 : Int))))) > (64 : Int)))), _, arr (upd_step (upd_step (upd_step (upd_step rfl rfl) rfl) rfl) rfl), h⟩
          · refine wp_skip ?_
            refine wp_seq ?_
            refine wp_text [0, 1, 2, 3, 4, 5, 6, 7, 8, 9, 10, 11, 12] rfl ?_
            refine rv 78 rfl rfl rfl (q_move (v := .int .u64 (r18.1)) rfl rfl) ?_
            refine rv 79 rfl rfl rfl (q_move (v := .int .u64 (r18.2)) rfl rfl) ?_
            refine rv 80 rfl rfl rfl (q_move (v := .int .i64 ((IntKind.i64.wrap (r9.2 - (53 : Int))))) rfl rfl) ?_
            refine rv 81 rfl rfl rfl (q_neg (a := (IntKind.i64.wrap (r9.2 - (53 : Int)))) rfl rfl) ?_
            refine rv 82 rfl rfl rfl (q_cvtI (a := (IntKind.i64.wrap (0 - (IntKind.i64.wrap (r9.2 - (53 : Int)))))) rfl Tryz.underlying3 Tryz.underlying120 rfl) ?_
            refine ro_wp rfl (.free rfl) (wp_cl (d := (some 83)) rfl (q_call (k := 94) (l := [.int .u64 (r18.1), .int .u64 (r18.2), .int .u64 ((IntKind.u64.wrap (IntKind.i64.wrap (0 - (IntKind.i64.wrap (r9.2 - (53 : Int)))))))]) rfl ent94 rfl) h ?_)
            intro r29 w28 h
            refine rv 77 rfl rfl rfl (q_move (v := (tTup3 (tInt .u64) tBool tBool).enc (r29)) rfl rfl) ?_
            refine rv 84 rfl rfl rfl (q_extract (vs := #[.int .u64 (r29.1), .bool (r29.2.1), .bool (r29.2.2)]) (v := .int .u64 (r29.1)) rfl rfl rfl) ?_
            refine rv 85 rfl rfl rfl (q_extract (vs := #[.int .u64 (r29.1), .bool (r29.2.1), .bool (r29.2.2)]) (v := .bool (r29.2.1)) rfl rfl rfl) ?_
            refine rv 86 rfl rfl rfl (q_extract (vs := #[.int .u64 (r29.1), .bool (r29.2.1), .bool (r29.2.2)]) (v := .bool (r29.2.2)) rfl rfl rfl) ?_
            refine rv 13 rfl rfl rfl (q_assign (v := .int .u64 (r29.1)) rfl rfl) ?_
            refine rv 14 rfl rfl rfl (q_assign (v := .bool (r29.2.1)) rfl rfl) ?_
            refine rv 15 rfl rfl rfl (q_assign (v := .bool (r29.2.2)) rfl rfl) ?_
            refine ro_nil ?_
            refine wp_seq ?_
            refine wp_seq ?_
            refine wp_text [0, 1, 2, 3, 4, 5, 6, 7, 8, 9, 10, 11] rfl ?_
            refine rv 87 rfl rfl rfl (q_move (v := .bool (r29.2.2)) rfl rfl) ?_
            refine rv 88 rfl rfl rfl (q_not (b := r29.2.2) rfl rfl) ?_
            refine rv 89 rfl rfl rfl (q_move (v := .bool ((!r29.2.2))) rfl rfl) ?_
            refine ro_gval (g := (!(!r29.2.2))) (d := (some 90)) rfl (.no 2 89 true (!r29.2.2) rfl rfl rfl rfl) rfl (fun hg => q_move (v := .bool ((!((decide (n_1 < (0 : Int))) == (decide (d12 < (0 : Int))))))) rfl rfl) ?_
            refine ro_gval (g := (!(!r29.2.2))) (d := (some 91)) rfl (.no 2 89 true (!r29.2.2) rfl rfl rfl rfl) rfl (fun hg => q_move (v := .bool ((!((decide (n_1 < (0 : Int))) == (decide (d12 < (0 : Int))))))) rfl (gvb_yes hg)) ?_
            refine ro_gval (g := ((!(!r29.2.2)) && (!((decide (n_1 < (0 : Int))) == (decide (d12 < (0 : Int))))))) (d := (some 92)) rfl (.yes 4 91 (!(!r29.2.2)) (!((decide (n_1 < (0 : Int))) == (decide (d12 < (0 : Int))))) rfl rfl rfl rfl) rfl (fun hg => q_move (v := .bool (r29.2.1)) rfl rfl) ?_
            refine ro_gval (g := (!(!r29.2.2))) (d := (some 93)) rfl (.no 2 89 true (!r29.2.2) rfl rfl rfl rfl) rfl (fun hg => q_pickNT (g0 := (!(!r29.2.2))) (a := (!((decide (n_1 < (0 : Int))) == (decide (d12 < (0 : Int)))))) (b := r29.2.1) hg rfl rfl rfl rfl) ?_
            refine ro_gval (g := (!(!r29.2.2))) (d := (some 94)) rfl (.no 2 89 true (!r29.2.2) rfl rfl rfl rfl) rfl (fun hg => q_move (v := .bool (((!((decide (n_1 < (0 : Int))) == (decide (d12 < (0 : Int))))) && r29.2.1))) rfl (gvb_yes hg)) ?_
            refine ro_gval (g := ((!(!r29.2.2)) && ((!((decide (n_1 < (0 : Int))) == (decide (d12 < (0 : Int))))) && r29.2.1))) (d := (some 95)) rfl (.yes 7 94 (!(!r29.2.2)) ((!((decide (n_1 < (0 : Int))) == (decide (d12 < (0 : Int))))) && r29.2.1) rfl rfl rfl rfl) rfl (fun hg => q_move (v := .int .u64 (r29.1)) rfl rfl) ?_
            refine ro_gval (g := ((!(!r29.2.2)) && ((!((decide (n_1 < (0 : Int))) == (decide (d12 < (0 : Int))))) && r29.2.1))) (d := (some 96)) rfl (.yes 7 94 (!(!r29.2.2)) ((!((decide (n_1 < (0 : Int))) == (decide (d12 < (0 : Int))))) && r29.2.1) rfl rfl rfl rfl) rfl (fun hg => q_geq (k := .u64) (a := r29.1) (b := (9223372036854775808 : Int)) rfl (gvb_yes hg) rfl) ?_
            refine ro_gval (g := (!(!r29.2.2))) (d := (some 97)) rfl (.no 2 89 true (!r29.2.2) rfl rfl rfl rfl) rfl (fun hg => q_pickNT (g0 := (!(!r29.2.2))) (a := ((!((decide (n_1 < (0 : Int))) == (decide (d12 < (0 : Int))))) && r29.2.1)) (b := (decide (r29.1 ≥ (9223372036854775808 : Int)))) hg rfl rfl rfl rfl) ?_
            refine rv 98 rfl rfl rfl (q_pickGF (a := (!r29.2.2)) (c := (((!((decide (n_1 < (0 : Int))) == (decide (d12 < (0 : Int))))) && r29.2.1) && (decide (r29.1 ≥ (9223372036854775808 : Int))))) rfl rfl rfl rfl) ?_
            refine ro_nil ?_
            refine wp_if (b := ((!r29.2.2) || (((!((decide (n_1 < (0 : Int))) == (decide (d12 < (0 : Int))))) && r29.2.1) && (decide (r29.1 ≥ (9223372036854775808 : Int)))))) rfl h (fun hb35 h => ?_) (fun hb35 h => ?_)
            · refine wp_seq ?_
              refine wp_text [0, 1] rfl ?_
              refine rv 4 rfl rfl rfl (q_assign (v := .int .i64 ((0 : Int))) rfl rfl) ?_
              refine rv 5 rfl rfl rfl (q_assign (v := .int .i64 ((11 : Int))) rfl rfl) ?_
              refine ro_nil ?_
              refine wp_ret ?_
              exact ret_ok rfl (.cons (.tmp (v := .int .i64 ((0 : Int))) rfl) (.cons (.tmp (v := .int .i64 ((11 : Int))) rfl) .nil)) ⟨((0 : Int), (11 : Int)), rfl, h⟩
            · refine wp_skip ?_
              refine seq_join (σ := Int) (J := fun (s : Int) w => F71_j3 n_1 d12 s w R) (fr := fun g (s : Int) => upd (upd (g) 10 (.bool ((!((decide (n_1 < (0 : Int))) == (decide (d12 < (0 : Int)))))))) 13 (.int .u64 (s))) ?_ ?_
              · rintro q_30 g w31 h
                unfold F71_j3 at h
                refine wp_seq ?_
                refine wp_text [0, 1, 2, 3, 4, 5, 6] rfl ?_
                refine rv 105 rfl rfl rfl (q_move (v := .bool ((!((decide (n_1 < (0 : Int))) == (decide (d12 < (0 : Int))))))) rfl rfl) ?_
                refine rv 106 rfl rfl rfl (q_move (v := .int .u64 (q_30)) rfl rfl) ?_
                refine ro_wp rfl (.free rfl) (wp_cl (d := (some 107)) rfl (q_call (k := 93) (l := [.bool ((!((decide (n_1 < (0 : Int))) == (decide (d12 < (0 : Int)))))), .int .u64 (q_30)]) rfl ent93 rfl) h ?_)
                intro r33 w32 h
                refine rv 108 rfl rfl rfl (q_extract (vs := #[.int .i64 (r33.1), .int .i64 (r33.2)]) (v := .int .i64 (r33.1)) rfl rfl rfl) ?_
                refine rv 109 rfl rfl rfl (q_extract (vs := #[.int .i64 (r33.1), .int .i64 (r33.2)]) (v := .int .i64 (r33.2)) rfl rfl rfl) ?_
                refine rv 4 rfl rfl rfl (q_assign (v := .int .i64 (r33.1)) rfl rfl) ?_
                refine rv 5 rfl rfl rfl (q_assign (v := .int .i64 (r33.2)) rfl rfl) ?_
                refine ro_nil ?_
                refine wp_ret ?_
                exact ret_ok rfl (.cons (.tmp (v := .int .i64 (r33.1)) rfl) (.cons (.tmp (v := .int .i64 (r33.2)) rfl) .nil)) ⟨(r33.1, r33.2), rfl, h⟩
              · refine wp_seq ?_
                refine wp_text [0, 1, 2, 3] rfl ?_
                refine rv 99 rfl rfl rfl (q_move (v := .bool ((!((decide (n_1 < (0 : Int))) == (decide (d12 < (0 : Int))))))) rfl rfl) ?_
                refine rv 100 rfl rfl rfl (q_move (v := .bool ((!((decide (n_1 < (0 : Int))) == (decide (d12 < (0 : Int))))))) rfl rfl) ?_
                refine ro_gval (g := (!((decide (n_1 < (0 : Int))) == (decide (d12 < (0 : Int)))))) (d := (some 101)) rfl (.yes 1 100 true (!((decide (n_1 < (0 : Int))) == (decide (d12 < (0 : Int))))) rfl rfl rfl rfl) rfl (fun hg => q_move (v := .bool (r29.2.1)) rfl rfl) ?_
                refine rv 102 rfl rfl rfl (q_pickGT (a := (!((decide (n_1 < (0 : Int))) == (decide (d12 < (0 : Int)))))) (b := r29.2.1) rfl rfl rfl rfl) ?_
                refine ro_nil ?_
                refine wp_if (b := ((!((decide (n_1 < (0 : Int))) == (decide (d12 < (0 : Int))))) && r29.2.1)) rfl h (fun hb34 h => ?_) (fun hb34 h => ?_)
                · refine wp_text [0, 1, 2] rfl ?_
                  refine rv 103 rfl rfl rfl (q_move (v := .int .u64 (r29.1)) rfl rfl) ?_
                  refine rv 104 rfl rfl rfl (q_add (a := r29.1) (b := (1 : Int)) rfl rfl rfl) ?_
                  refine rv 13 rfl rfl rfl (q_assign (v := .int .u64 ((IntKind.u64.wrap (r29.1 + (1 : Int))))) rfl rfl) ?_
                  refine ro_nil ?_
                  exact ⟨((IntKind.u64.wrap (r29.1 + (1 : Int)))), _, arr (upd_step (upd_step rfl rfl) rfl), h⟩
                · refine wp_skip ?_
                  exact ⟨(r29.1), _, arr (upd_step (upd_step rfl rfl) rfl), h⟩
    · refine wp_seq ?_
      refine wp_text [0, 1] rfl ?_
      refine rv 21 rfl rfl rfl (q_eql (a := r4) (b := (1 : Int)) rfl rfl rfl) ?_
      refine rv 20 rfl rfl rfl (q_assign (v := .bool ((r4 == (1 : Int)))) rfl rfl) ?_
      refine ro_nil ?_
      refine wp_if (b := (r4 == (1 : Int))) rfl h (fun hb39 h => ?_) (fun hb39 h => ?_)
      · refine wp_skip ?_
        exact ⟨((r4 == (1 : Int))), _, arr (upd_step (upd_step (upd_step rfl rfl) rfl) rfl), h⟩
      · refine wp_text [0, 1] rfl ?_
        refine rv 22 rfl rfl rfl (q_eql (a := r4) (b := (6 : Int)) rfl rfl rfl) ?_
        refine rv 20 rfl rfl rfl (q_assign (v := .bool ((r4 == (6 : Int)))) rfl rfl) ?_
        refine ro_nil ?_
        exact ⟨((r4 == (6 : Int))), _, arr (upd_step (upd_step (upd_step rfl rfl) rfl) rfl), h⟩

-- math.IsInf
def F73_j1 (f_3 : Nat) (w4 : World) (R : Bool → World → Prop) : Prop :=
  R (fcmp .gtr f_3 (9218868437227405311 : Nat)) w4
def F73 (f_1 : Nat) (sign_2 : Int) (w : World) (R : Bool → World → Prop) : Prop :=
  if (sign_2 == (0 : Int)) = true then (
    cl Tryz.prog 95 [.float .f64 (f_1)] tFlt w fun r6 w5 =>
    F73_j1 r6 w5 R
  ) else (
    if (decide (sign_2 < (0 : Int))) = true then (
      F73_j1 (Op.negFloat .f64 f_1) w R
    ) else (
      F73_j1 f_1 w R
    )
  )
theorem F73_ok {f_1 : Nat} {sign_2 : Int} {w : World} {R : Bool → World → Prop} (h : F73 f_1 sign_2 w R) : cl Tryz.prog 73 [.float .f64 (f_1), .int .i64 (sign_2)] tBool w R := by
  unfold F73 at h
  refine calls_start 15 Tryz.func73 rfl rfl (Nat.le_of_ble_eq_true rfl) ?_
  refine wp_seq ?_
  refine wp_text [0] rfl ?_
  refine rv 4 rfl rfl rfl (q_assign (v := .bool (false)) rfl rfl) ?_
  refine ro_nil ?_
  refine seq_join (σ := Nat) (J := fun (s : Nat) w => F73_j1 s w R) (fr := fun g (s : Nat) => upd (g) 0 (.float .f64 (s))) ?_ ?_
  · rintro f_3 g w4 h
    unfold F73_j1 at h
    refine wp_seq ?_
    refine wp_text [0, 1, 2] rfl ?_
    refine rv 13 rfl rfl rfl (q_move (v := .float .f64 (f_3)) rfl rfl) ?_
    refine rv 14 rfl rfl rfl (q_fcmp (op := .gtr) (a := f_3) (b := (9218868437227405311 : Nat)) rfl (by decide) rfl rfl) ?_
    refine rv 4 rfl rfl rfl (q_assign (v := .bool ((fcmp .gtr f_3 (9218868437227405311 : Nat)))) rfl rfl) ?_
    refine ro_nil ?_
    refine wp_ret ?_
    exact ret_ok rfl (.cons (.tmp (v := .bool ((fcmp .gtr f_3 (9218868437227405311 : Nat)))) rfl) .nil) ⟨(fcmp .gtr f_3 (9218868437227405311 : Nat)), rfl, h⟩
  · refine wp_seq ?_
    refine wp_text [0, 1] rfl ?_
    refine rv 5 rfl rfl rfl (q_move (v := .int .i64 (sign_2)) rfl rfl) ?_
    refine rv 6 rfl rfl rfl (q_eql (a := sign_2) (b := (0 : Int)) rfl rfl rfl) ?_
    refine ro_nil ?_
    refine wp_if (b := (sign_2 == (0 : Int))) rfl h (fun hb8 h => ?_) (fun hb8 h => ?_)
    · refine wp_text [0, 1, 2] rfl ?_
      refine rv 7 rfl rfl rfl (q_move (v := .float .f64 (f_1)) rfl rfl) ?_
      refine ro_wp rfl (.free rfl) (wp_cl (d := (some 8)) rfl (q_call (k := 95) (l := [.float .f64 (f_1)]) rfl ent95 rfl) h ?_)
      intro r6 w5 h
      refine rv 0 rfl rfl rfl (q_assign (v := .float .f64 (r6)) rfl rfl) ?_
      refine ro_nil ?_
      exact ⟨(r6), _, arr (upd_step rfl rfl), h⟩
    · refine wp_seq ?_
      refine wp_text [0, 1] rfl ?_
      refine rv 9 rfl rfl rfl (q_move (v := .int .i64 (sign_2)) rfl rfl) ?_
      refine rv 10 rfl rfl rfl (q_lss (a := sign_2) (b := (0 : Int)) rfl rfl rfl) ?_
      refine ro_nil ?_
      refine wp_if (b := (decide (sign_2 < (0 : Int)))) rfl h (fun hb7 h => ?_) (fun hb7 h => ?_)
      · refine wp_text [0, 1, 2] rfl ?_
        refine rv 11 rfl rfl rfl (q_move (v := .float .f64 (f_1)) rfl rfl) ?_
        refine rv 12 rfl rfl rfl (q_negF (a := f_1) rfl rfl) ?_
        refine rv 0 rfl rfl rfl (q_assign (v := .float .f64 ((Op.negFloat .f64 f_1))) rfl rfl) ?_
        refine ro_nil ?_
        exact ⟨((Op.negFloat .f64 f_1)), _, arr (upd_step rfl rfl), h⟩
      · refine wp_skip ?_
        exact ⟨(f_1), _, arr (upd_step rfl rfl), h⟩

-- moiety/num.Key
def F74 (f_1 : Nat) (w : World) (R : Int → World → Prop) : Prop :=
  if (fcmp .neq f_1 f_1) = true then (
    R (0 : Int) w
  ) else (
    ex (Shift (63 : Int) (Int.fdiv (f_1 : Int) (2 ^ (min ((63 : Int)).toNat IntKind.u64.bits)))) fun d2 =>
    if (d2 == (1 : Int)) = true then (
      R (bits .xor .u64 IntKind.u64.max (f_1 : Int)) w
    ) else (
      R (bits .or .u64 (f_1 : Int) (9223372036854775808 : Int)) w
    )
  )
theorem F74_ok {f_1 : Nat} {w : World} {R : Int → World → Prop} (h : F74 f_1 w R) : cl Tryz.prog 74 [.float .f64 (f_1)] (tInt .u64) w R := by
  unfold F74 at h
  refine calls_start 16 Tryz.func74 rfl rfl (Nat.le_of_ble_eq_true rfl) ?_
  refine wp_seq ?_
  refine wp_text [0] rfl ?_
  refine rv 2 rfl rfl rfl (q_assign (v := .int .u64 ((0 : Int))) rfl rfl) ?_
  refine ro_nil ?_
  refine wp_seq ?_
  refine wp_seq ?_
  refine wp_text [0, 1, 2] rfl ?_
  refine rv 4 rfl rfl rfl (q_move (v := .float .f64 (f_1)) rfl rfl) ?_
  refine rv 5 rfl rfl rfl (q_move (v := .float .f64 (f_1)) rfl rfl) ?_
  refine rv 6 rfl rfl rfl (q_fcmp (op := .neq) (a := f_1) (b := f_1) rfl (by decide) rfl rfl) ?_
  refine ro_nil ?_
  refine wp_if (b := (fcmp .neq f_1 f_1)) rfl h (fun hb4 h => ?_) (fun hb4 h => ?_)
  · refine wp_seq ?_
    refine wp_text [0] rfl ?_
    refine rv 2 rfl rfl rfl (q_assign (v := .int .u64 ((0 : Int))) rfl rfl) ?_
    refine ro_nil ?_
    refine wp_ret ?_
    exact ret_ok rfl (.cons (.tmp (v := .int .u64 ((0 : Int))) rfl) .nil) ⟨(0 : Int), rfl, h⟩
  · refine wp_skip ?_
    refine wp_seq ?_
    refine wp_text [0, 1, 2] rfl ?_
    refine rv 7 rfl rfl rfl (q_move (v := .float .f64 (f_1)) rfl rfl) ?_
    refine rv 8 rfl rfl rfl (q_f64bits (b := f_1) rfl ext72 rfl) ?_
    refine rv 3 rfl rfl rfl (q_assign (v := .int .u64 ((f_1 : Int))) rfl rfl) ?_
    refine ro_nil ?_
    refine wp_seq ?_
    refine wp_seq ?_
    refine wp_text [0, 1, 2] rfl ?_
    refine rv 9 rfl rfl rfl (q_move (v := .int .u64 ((f_1 : Int))) rfl rfl) ?_
    obtain ⟨d2, hd2, h⟩ := h
    refine rv 10 rfl rfl rfl (q_shr (a := (f_1 : Int)) (b := (63 : Int)) (r := d2) rfl rfl rfl hd2) ?_
    refine rv 11 rfl rfl rfl (q_eql (a := d2) (b := (1 : Int)) rfl rfl rfl) ?_
    refine ro_nil ?_
    refine wp_if (b := (d2 == (1 : Int))) rfl h (fun hb3 h => ?_) (fun hb3 h => ?_)
    · refine wp_seq ?_
      refine wp_text [0, 1, 2] rfl ?_
      refine rv 12 rfl rfl rfl (q_move (v := .int .u64 ((f_1 : Int))) rfl rfl) ?_
      refine rv 13 rfl rfl rfl (q_notU (a := (f_1 : Int)) rfl rfl rfl) ?_
      refine rv 2 rfl rfl rfl (q_assign (v := .int .u64 ((bits .xor .u64 IntKind.u64.max (f_1 : Int)))) rfl rfl) ?_
      refine ro_nil ?_
      refine wp_ret ?_
      exact ret_ok rfl (.cons (.tmp (v := .int .u64 ((bits .xor .u64 IntKind.u64.max (f_1 : Int)))) rfl) .nil) ⟨(bits .xor .u64 IntKind.u64.max (f_1 : Int)), rfl, h⟩
    · refine wp_skip ?_
      refine wp_seq ?_
      refine wp_text [0, 1, 2] rfl ?_
      refine rv 14 rfl rfl rfl (q_move (v := .int .u64 ((f_1 : Int))) rfl rfl) ?_
      refine rv 15 rfl rfl rfl (q_or (a := (f_1 : Int)) (b := (9223372036854775808 : Int)) rfl rfl rfl) ?_
      refine rv 2 rfl rfl rfl (q_assign (v := .int .u64 ((bits .or .u64 (f_1 : Int) (9223372036854775808 : Int)))) rfl rfl) ?_
      refine ro_nil ?_
      refine wp_ret ?_
      exact ret_ok rfl (.cons (.tmp (v := .int .u64 ((bits .or .u64 (f_1 : Int) (9223372036854775808 : Int)))) rfl) .nil) ⟨(bits .or .u64 (f_1 : Int) (9223372036854775808 : Int)), rfl, h⟩

-- sort.Search
def F75_l1 (f_2 : Fv) (i_3 : Int) (j_4 : Int) (w5 : World) (K6 : Int × Int → World → Prop) (R : Int → World → Prop) : Prop :=
  if (decide (i_3 < j_4)) = true then (
    ex (Shift (1 : Int) (Int.fdiv (IntKind.u64.wrap (IntKind.i64.wrap (i_3 + j_4))) (2 ^ (min ((1 : Int)).toNat IntKind.u64.bits)))) fun d7 =>
    clv Tryz.prog f_2 [.int .i64 ((IntKind.i64.wrap d7))] tBool w5 fun r9 w8 =>
    if (!r9) = true then (
      K6 ((IntKind.i64.wrap ((IntKind.i64.wrap d7) + (1 : Int))), j_4) w8
    ) else (
      K6 (i_3, (IntKind.i64.wrap d7)) w8
    )
  ) else (
    R i_3 w5
  )
def F75 (n_1 : Int) (f_2 : Fv) (w : World) (R : Int → World → Prop) : Prop :=
  lp (fun (s : Int × Int) w K => F75_l1 f_2 s.1 s.2 w K R) ((0 : Int), n_1) w
theorem F75_ok {n_1 : Int} {f_2 : Fv} {w : World} {R : Int → World → Prop} (h : F75 n_1 f_2 w R) : cl Tryz.prog 75 [.int .i64 (n_1), (f_2).enc] (tInt .i64) w R := by
  unfold F75 at h
  refine calls_start 26 Tryz.func75 rfl rfl (Nat.le_of_ble_eq_true rfl) ?_
  refine wp_seq ?_
  refine wp_text [0] rfl ?_
  refine rv 4 rfl rfl rfl (q_assign (v := .int .i64 ((0 : Int))) rfl rfl) ?_
  refine ro_nil ?_
  refine wp_seq ?_
  refine wp_text [0, 1, 2] rfl ?_
  refine rv 8 rfl rfl rfl (q_move (v := .int .i64 (n_1)) rfl rfl) ?_
  refine rv 5 rfl rfl rfl (q_assign (v := .int .i64 ((0 : Int))) rfl rfl) ?_
  refine rv 6 rfl rfl rfl (q_assign (v := .int .i64 (n_1)) rfl rfl) ?_
  refine ro_nil ?_
  refine wp_seq ?_
  refine wp_block ?_
  refine loop_at (σ := Int × Int) (fr := fun g (s : Int × Int) => upd (upd (upd (g) 1 ((f_2).enc)) 5 (.int .i64 (s.1))) 6 (.int .i64 (s.2))) (s0 := ((0 : Int), n_1)) (upd_step (upd_step (upd_step rfl rfl) rfl) rfl) h ?_
  rintro ⟨i_3, j_4⟩ g w5 K6 h
  unfold F75_l1 at h
  refine wp_seq ?_
  refine wp_seq ?_
  refine wp_text [0, 1, 2] rfl ?_
  refine rv 9 rfl rfl rfl (q_move (v := .int .i64 (i_3)) rfl rfl) ?_
  refine rv 10 rfl rfl rfl (q_move (v := .int .i64 (j_4)) rfl rfl) ?_
  refine rv 11 rfl rfl rfl (q_lss (a := i_3) (b := j_4) rfl rfl rfl) ?_
  refine ro_nil ?_
  refine wp_if (b := (decide (i_3 < j_4))) rfl h (fun hb11 h => ?_) (fun hb11 h => ?_)
  · refine wp_skip ?_
    refine wp_block ?_
    refine wp_seq ?_
    refine wp_text [0, 1, 2, 3, 4, 5, 6] rfl ?_
    refine rv 12 rfl rfl rfl (q_move (v := .int .i64 (i_3)) rfl rfl) ?_
    refine rv 13 rfl rfl rfl (q_move (v := .int .i64 (j_4)) rfl rfl) ?_
    refine rv 14 rfl rfl rfl (q_add (a := i_3) (b := j_4) rfl rfl rfl) ?_
    refine rv 15 rfl rfl rfl (q_cvtI (a := (IntKind.i64.wrap (i_3 + j_4))) rfl Tryz.underlying3 Tryz.underlying120 rfl) ?_
    obtain ⟨d7, hd7, h⟩ := h
    refine rv 16 rfl rfl rfl (q_shr (a := (IntKind.u64.wrap (IntKind.i64.wrap (i_3 + j_4)))) (b := (1 : Int)) (r := d7) rfl rfl rfl hd7) ?_
    refine rv 17 rfl rfl rfl (q_cvtI (a := d7) rfl Tryz.underlying120 Tryz.underlying3 rfl) ?_
    refine rv 7 rfl rfl rfl (q_assign (v := .int .i64 ((IntKind.i64.wrap d7))) rfl rfl) ?_
    refine ro_nil ?_
    refine wp_seq ?_
    refine wp_text [0, 1, 2, 3] rfl ?_
    refine rv 18 rfl rfl rfl (q_move (v := (f_2).enc) rfl rfl) ?_
    refine rv 19 rfl rfl rfl (q_move (v := .int .i64 ((IntKind.i64.wrap d7))) rfl rfl) ?_
    refine ro_wp rfl (.free rfl) (wp_clv (d := (some 20)) (l := [.int .i64 ((IntKind.i64.wrap d7))]) (fv := f_2) rfl rfl rfl rfl h ?_)
    intro r9 w8 h
    refine rv 21 rfl rfl rfl (q_not (b := r9) rfl rfl) ?_
    refine ro_nil ?_
    refine wp_if (b := (!r9)) rfl h (fun hb10 h => ?_) (fun hb10 h => ?_)
    · refine wp_text [0, 1, 2] rfl ?_
      refine rv 22 rfl rfl rfl (q_move (v := .int .i64 ((IntKind.i64.wrap d7))) rfl rfl) ?_
      refine rv 23 rfl rfl rfl (q_add (a := (IntKind.i64.wrap d7)) (b := (1 : Int)) rfl rfl rfl) ?_
      refine rv 5 rfl rfl rfl (q_assign (v := .int .i64 ((IntKind.i64.wrap ((IntKind.i64.wrap d7) + (1 : Int))))) rfl rfl) ?_
      refine ro_nil ?_
      exact ⟨((IntKind.i64.wrap ((IntKind.i64.wrap d7) + (1 : Int))), j_4), _, arr (upd_step (upd_step (upd_step rfl rfl) rfl) rfl), h⟩
    · refine wp_text [0, 1] rfl ?_
      refine rv 24 rfl rfl rfl (q_move (v := .int .i64 ((IntKind.i64.wrap d7))) rfl rfl) ?_
      refine rv 6 rfl rfl rfl (q_assign (v := .int .i64 ((IntKind.i64.wrap d7))) rfl rfl) ?_
      refine ro_nil ?_
      exact ⟨(i_3, (IntKind.i64.wrap d7)), _, arr (upd_step (upd_step (upd_step rfl rfl) rfl) rfl), h⟩
  · refine wp_exit ?_
    refine wp_seq ?_
    refine wp_text [0, 1] rfl ?_
    refine rv 25 rfl rfl rfl (q_move (v := .int .i64 (i_3)) rfl rfl) ?_
    refine rv 4 rfl rfl rfl (q_assign (v := .int .i64 (i_3)) rfl rfl) ?_
    refine ro_nil ?_
    refine wp_ret ?_
    exact ret_ok rfl (.cons (.tmp (v := .int .i64 (i_3)) rfl) .nil) ⟨i_3, rfl, h⟩

-- (*moiety/chain.Chain).place$1
def F76 (i_1 : Int) (t_2 : Addr) (t_3 : Addr) (w : World) (R : Bool → World → Prop) : Prop :=
  dr w fun w4 =>
  ex (RdAt tPtr t_2 w4) fun x5 =>
  ex (NC x5) fun a6 =>
  ex (RdAt tSlc (a6.add 0) w4) fun x7 =>
  ex (IxA x7 2 i_1) fun a8 =>
  ex (RdAt (tInt .i64) (a8.add 0) w4) fun x9 =>
  ex (RdAt (tInt .i64) t_3 w4) fun x10 =>
  R (decide (x9 > x10)) w4
theorem F76_ok {i_1 : Int} {t_2 : Addr} {t_3 : Addr} {w : World} {R : Bool → World → Prop} (h : F76 i_1 t_2 t_3 w R) : cl Tryz.prog 76 [.int .i64 (i_1), .pointer (some t_2), .pointer (some t_3)] tBool w R := by
  unfold F76 at h
  refine calls_start 15 Tryz.func76 rfl rfl (Nat.le_of_ble_eq_true rfl) ?_
  refine wp_seq ?_
  refine wp_text [0] rfl ?_
  refine rv 4 rfl rfl rfl (q_assign (v := .bool (false)) rfl rfl) ?_
  refine ro_nil ?_
  refine wp_seq ?_
  obtain ⟨w4, hw4, h⟩ := dr_open h
  refine wp_drawn 11 mixed rfl (by kernel_rfl) (by intro c a d v w h; cases d <;> exact h) hw4 (fun hD => ?_)
  refine rp 4 9 hD rfl rfl rfl (fun _ => q_move (v := .int .i64 (i_1)) rfl rfl) ?_
  obtain ⟨x5, hx5, h⟩ := h
  refine rd_read (i := 0) (d := (some 5)) (fun W => (RdAt tPtr t_2 W) x5) hD (by kernel_rfl) (by kernel_rfl) rfl (.free rfl) rfl (fun W hr => q_load (T := tPtr) (u := x5) (a := t_2) rfl ok97 rfl hr) hx5 ?_
  obtain ⟨a6, ha6, h⟩ := h
  refine rp 1 6 hD rfl rfl rfl (fun _ => q_nilCheck (a := a6) rfl (congrArg Value.pointer ha6)) ?_
  refine rp 2 7 hD rfl rfl rfl (fun _ => q_fieldAddr (a := a6) (off := 0) rfl Tryz.underlying112 rfl rfl ok110 (by decide) rfl) ?_
  obtain ⟨x7, hx7, h⟩ := h
  refine rd_read (i := 3) (d := (some 8)) (fun W => (RdAt tSlc (a6.add 0) W) x7) hD (by kernel_rfl) (by kernel_rfl) rfl (.free rfl) rfl (fun W hr => q_load (T := tSlc) (u := x7) (a := (a6.add 0)) rfl ok110 rfl hr) hx7 ?_
  obtain ⟨a8, ha8, h⟩ := h
  refine rp 5 10 hD rfl rfl rfl (fun _ => q_indexAddr (s := x7) (k := .i64) (i := i_1) rfl Tryz.underlying110 ok87 rfl rfl ha8) ?_
  refine rp 6 11 hD rfl rfl rfl (fun _ => q_fieldAddr (a := a8) (off := 0) rfl Tryz.underlying87 rfl rfl ok2 (by decide) rfl) ?_
  obtain ⟨x9, hx9, h⟩ := h
  refine rd_read (i := 7) (d := (some 12)) (fun W => (RdAt (tInt .i64) (a8.add 0) W) x9) hD (by kernel_rfl) (by kernel_rfl) rfl (.free rfl) rfl (fun W hr => q_load (T := (tInt .i64)) (u := x9) (a := (a8.add 0)) rfl ok2 rfl hr) hx9 ?_
  obtain ⟨x10, hx10, h⟩ := h
  refine rd_read (i := 8) (d := (some 13)) (fun W => (RdAt (tInt .i64) t_3 W) x10) hD (by kernel_rfl) (by kernel_rfl) rfl (.free rfl) rfl (fun W hr => q_load (T := (tInt .i64)) (u := x10) (a := t_3) rfl ok2 rfl hr) hx10 ?_
  refine rp 9 14 hD rfl rfl rfl (fun _ => q_gtr (a := x9) (b := x10) rfl rfl rfl) ?_
  refine rp 10 4 hD rfl rfl rfl (fun _ => q_assign (v := .bool ((decide (x9 > x10)))) rfl rfl) ?_
  refine rd_nil (by kernel_rfl) ?_
  refine wp_ret ?_
  exact ret_ok rfl (.cons (.tmp (v := .bool ((decide (x9 > x10)))) rfl) .nil) ⟨(decide (x9 > x10)), rfl, h⟩

-- (*moiety/chain.Chain).List
def F77 (c_1 : (Option Addr)) (w : World) (R : Slc → World → Prop) : Prop :=
  ex (NC c_1) fun a2 =>
  ex (RdAt tSlc (a2.add 0) w) fun x3 =>
  mkS 87 T86 16 Z86 (x3.len : Int) (x3.len : Int) w fun r5 w4 =>
  ex (RdAt tSlc (a2.add 0) w4) fun x6 =>
  cpy T86 2 r5 x6 w4 fun r8 w7 =>
  R r5 w7
theorem F77_ok {c_1 : (Option Addr)} {w : World} {R : Slc → World → Prop} (h : F77 c_1 w R) : cl Tryz.prog 77 [.pointer (c_1)] tSlc w R := by
  unfold F77 at h
  refine calls_start 17 Tryz.func77 rfl rfl (Nat.le_of_ble_eq_true rfl) ?_
  refine wp_seq ?_
  refine wp_text [0] rfl ?_
  refine rv 2 rfl rfl rfl (q_assign (v := tSlc.enc ((⟨none, 0, 0⟩ : Slc))) rfl rfl) ?_
  refine ro_nil ?_
  refine wp_seq ?_
  refine wp_text [0, 1, 2, 3, 4, 5, 6] rfl ?_
  refine rv 4 rfl rfl rfl (q_move (v := .pointer (c_1)) rfl rfl) ?_
  obtain ⟨a2, ha2, h⟩ := h
  refine rv 5 rfl rfl rfl (q_nilCheck (a := a2) rfl (congrArg Value.pointer ha2)) ?_
  refine rv 6 rfl rfl rfl (q_fieldAddr (a := a2) (off := 0) rfl Tryz.underlying112 rfl rfl ok110 (by decide) rfl) ?_
  obtain ⟨x3, hx3, h⟩ := h
  refine rv 7 rfl rfl rfl (q_load (T := tSlc) (u := x3) (a := (a2.add 0)) rfl ok110 rfl hx3) ?_
  refine rv 8 rfl rfl rfl (q_len (s := x3) rfl Tryz.underlying110 rfl) ?_
  refine ro_wp rfl (.free rfl) (wp_mkS (T := T86) (z := Z86) (l := (x3.len : Int)) (c := (x3.len : Int)) (d := (some 9)) rfl rfl Tryz.underlying110 ok87 inf87 rfl rfl h ?_)
  intro r5 w4 h
  refine rv 3 rfl rfl rfl (q_assign (v := tSlc.enc (r5)) rfl rfl) ?_
  refine ro_nil ?_
  refine wp_seq ?_
  refine wp_text [0, 1, 2, 3, 4, 5] rfl ?_
  refine rv 10 rfl rfl rfl (q_move (v := tSlc.enc (r5)) rfl rfl) ?_
  refine rv 11 rfl rfl rfl (q_move (v := .pointer (c_1)) rfl rfl) ?_
  refine rv 12 rfl rfl rfl (q_nilCheck (a := a2) rfl (congrArg Value.pointer ha2)) ?_
  refine rv 13 rfl rfl rfl (q_fieldAddr (a := a2) (off := 0) rfl Tryz.underlying112 rfl rfl ok110 (by decide) rfl) ?_
  obtain ⟨x6, hx6, h⟩ := h
  refine rv 14 rfl rfl rfl (q_load (T := tSlc) (u := x6) (a := (a2.add 0)) rfl ok110 rfl hx6) ?_
  refine ro_wp rfl (.free rfl) (wp_cpy (T := T86) (s := r5) (b := x6) (d := (some 15)) rfl rfl Tryz.underlying110 ok87 rfl rfl h ?_)
  intro r8 w7 h
  refine ro_nil ?_
  refine wp_seq ?_
  refine wp_text [0, 1] rfl ?_
  refine rv 16 rfl rfl rfl (q_move (v := tSlc.enc (r5)) rfl rfl) ?_
  refine rv 2 rfl rfl rfl (q_assign (v := tSlc.enc (r5)) rfl rfl) ?_
  refine ro_nil ?_
  refine wp_ret ?_
  exact ret_ok rfl (.cons (.tmp (v := tSlc.enc (r5)) rfl) .nil) ⟨r5, rfl, h⟩

-- math/bits.Len64
def F88_j3 (x_8 : Int) (n_9 : Int) (w10 : World) (R : Int → World → Prop) : Prop :=
  ex (IxS ([0, 1, 2, 2, 3, 3, 3, 3, 4, 4, 4, 4, 4, 4, 4, 4, 5, 5, 5, 5, 5, 5, 5, 5, 5, 5, 5, 5, 5, 5, 5, 5, 6, 6, 6, 6, 6, 6, 6, 6, 6, 6, 6, 6, 6, 6, 6, 6, 6, 6, 6, 6, 6, 6, 6, 6, 6, 6, 6, 6, 6, 6, 6, 6, 7, 7, 7, 7, 7, 7, 7, 7, 7, 7, 7, 7, 7, 7, 7, 7, 7, 7, 7, 7, 7, 7, 7, 7, 7, 7, 7, 7, 7, 7, 7, 7, 7, 7, 7, 7, 7, 7, 7, 7, 7, 7, 7, 7, 7, 7, 7, 7, 7, 7, 7, 7, 7, 7, 7, 7, 7, 7, 7, 7, 7, 7, 7, 7, 8, 8, 8, 8, 8, 8, 8, 8, 8, 8, 8, 8, 8, 8, 8, 8, 8, 8, 8, 8, 8, 8, 8, 8, 8, 8, 8, 8, 8, 8, 8, 8, 8, 8, 8, 8, 8, 8, 8, 8, 8, 8, 8, 8, 8, 8, 8, 8, 8, 8, 8, 8, 8, 8, 8, 8, 8, 8, 8, 8, 8, 8, 8, 8, 8, 8, 8, 8, 8, 8, 8, 8, 8, 8, 8, 8, 8, 8, 8, 8, 8, 8, 8, 8, 8, 8, 8, 8, 8, 8, 8, 8, 8, 8, 8, 8, 8, 8, 8, 8, 8, 8, 8, 8, 8, 8, 8, 8, 8, 8, 8, 8, 8, 8, 8, 8, 8, 8, 8, 8, 8, 8, 8, 8, 8, 8, 8, 8] : List UInt8) (IntKind.u8.wrap x_8)) fun b11 =>
  R (IntKind.i64.wrap (n_9 + (IntKind.i64.wrap b11))) w10
def F88_j2 (x_5 : Int) (n_6 : Int) (w7 : World) (R : Int → World → Prop) : Prop :=
  if (decide (x_5 ≥ (256 : Int))) = true then (
    ex (Shift (8 : Int) (Int.fdiv x_5 (2 ^ (min ((8 : Int)).toNat IntKind.u64.bits)))) fun d12 =>
    F88_j3 d12 (IntKind.i64.wrap (n_6 + (8 : Int))) w7 R
  ) else (
    F88_j3 x_5 n_6 w7 R
  )
def F88_j1 (x_2 : Int) (n_3 : Int) (w4 : World) (R : Int → World → Prop) : Prop :=
  if (decide (x_2 ≥ (65536 : Int))) = true then (
    ex (Shift (16 : Int) (Int.fdiv x_2 (2 ^ (min ((16 : Int)).toNat IntKind.u64.bits)))) fun d14 =>
    F88_j2 d14 (IntKind.i64.wrap (n_3 + (16 : Int))) w4 R
  ) else (
    F88_j2 x_2 n_3 w4 R
  )
def F88 (x_1 : Int) (w : World) (R : Int → World → Prop) : Prop :=
  if (decide (x_1 ≥ (4294967296 : Int))) = true then (
    ex (Shift (32 : Int) (Int.fdiv x_1 (2 ^ (min ((32 : Int)).toNat IntKind.u64.bits)))) fun d16 =>
    F88_j1 d16 (32 : Int) w R
  ) else (
    F88_j1 x_1 (0 : Int) w R
  )
theorem F88_ok {x_1 : Int} {w : World} {R : Int → World → Prop} (h : F88 x_1 w R) : cl Tryz.prog 88 [.int .u64 (x_1)] (tInt .i64) w R := by
  unfold F88 at h
  refine calls_start 25 Tryz.func88 rfl rfl (Nat.le_of_ble_eq_true rfl) ?_
  refine wp_seq ?_
  refine wp_text [0] rfl ?_
  refine rv 2 rfl rfl rfl (q_assign (v := .int .i64 ((0 : Int))) rfl rfl) ?_
  refine ro_nil ?_
  refine seq_join (σ := Int × Int) (J := fun (s : Int × Int) w => F88_j1 s.1 s.2 w R) (fr := fun g (s : Int × Int) => upd (upd (g) 0 (.int .u64 (s.1))) 2 (.int .i64 (s.2))) ?_ ?_
  · rintro ⟨x_2, n_3⟩ g w4 h
    unfold F88_j1 at h
    refine seq_join (σ := Int × Int) (J := fun (s : Int × Int) w => F88_j2 s.1 s.2 w R) (fr := fun g (s : Int × Int) => upd (upd (g) 0 (.int .u64 (s.1))) 2 (.int .i64 (s.2))) ?_ ?_
    · rintro ⟨x_5, n_6⟩ g w7 h
      unfold F88_j2 at h
      refine seq_join (σ := Int × Int) (J := fun (s : Int × Int) w => F88_j3 s.1 s.2 w R) (fr := fun g (s : Int × Int) => upd (upd (g) 0 (.int .u64 (s.1))) 2 (.int .i64 (s.2))) ?_ ?_
      · rintro ⟨x_8, n_9⟩ g w10 h
        unfold F88_j3 at h
        refine wp_seq ?_
        refine wp_text [0, 1, 2, 3, 4, 5, 6] rfl ?_
        refine rv 19 rfl rfl rfl (q_move (v := .int .i64 (n_9)) rfl rfl) ?_
        refine rv 20 rfl rfl rfl (q_move (v := .int .u64 (x_8)) rfl rfl) ?_
        refine rv 21 rfl rfl rfl (q_cvtI (a := x_8) rfl Tryz.underlying122 Tryz.underlying5 rfl) ?_
        obtain ⟨b11, hb11, h⟩ := h
        refine rv 22 rfl rfl rfl (q_indexS (s := ([0, 1, 2, 2, 3, 3, 3, 3, 4, 4, 4, 4, 4, 4, 4, 4, 5, 5, 5, 5, 5, 5, 5, 5, 5, 5, 5, 5, 5, 5, 5, 5, 6, 6, 6, 6, 6, 6, 6, 6, 6, 6, 6, 6, 6, 6, 6, 6, 6, 6, 6, 6, 6, 6, 6, 6, 6, 6, 6, 6, 6, 6, 6, 6, 7, 7, 7, 7, 7, 7, 7, 7, 7, 7, 7, 7, 7, 7, 7, 7, 7, 7, 7, 7, 7, 7, 7, 7, 7, 7, 7, 7, 7, 7, 7, 7, 7, 7, 7, 7, 7, 7, 7, 7, 7, 7, 7, 7, 7, 7, 7, 7, 7, 7, 7, 7, 7, 7, 7, 7, 7, 7, 7, 7, 7, 7, 7, 7, 8, 8, 8, 8, 8, 8, 8, 8, 8, 8, 8, 8, 8, 8, 8, 8, 8, 8, 8, 8, 8, 8, 8, 8, 8, 8, 8, 8, 8, 8, 8, 8, 8, 8, 8, 8, 8, 8, 8, 8, 8, 8, 8, 8, 8, 8, 8, 8, 8, 8, 8, 8, 8, 8, 8, 8, 8, 8, 8, 8, 8, 8, 8, 8, 8, 8, 8, 8, 8, 8, 8, 8, 8, 8, 8, 8, 8, 8, 8, 8, 8, 8, 8, 8, 8, 8, 8, 8, 8, 8, 8, 8, 8, 8, 8, 8, 8, 8, 8, 8, 8, 8, 8, 8, 8, 8, 8, 8, 8, 8, 8, 8, 8, 8, 8, 8, 8, 8, 8, 8, 8, 8, 8, 8, 8, 8, 8, 8] : List UInt8)) (i := (IntKind.u8.wrap x_8)) (b := b11) rfl Tryz.underlying9 rfl rfl hb11) ?_
        refine rv 23 rfl rfl rfl (q_cvtI (a := b11) rfl Tryz.underlying5 Tryz.underlying3 rfl) ?_
        refine rv 24 rfl rfl rfl (q_add (a := n_9) (b := (IntKind.i64.wrap b11)) rfl rfl rfl) ?_
        refine rv 2 rfl rfl rfl (q_assign (v := .int .i64 ((IntKind.i64.wrap (n_9 + (IntKind.i64.wrap b11))))) rfl rfl) ?_
        refine ro_nil ?_
        refine wp_ret ?_
        exact ret_ok rfl (.cons (.tmp (v := .int .i64 ((IntKind.i64.wrap (n_9 + (IntKind.i64.wrap b11))))) rfl) .nil) ⟨(IntKind.i64.wrap (n_9 + (IntKind.i64.wrap b11))), rfl, h⟩
      · refine wp_seq ?_
        refine wp_text [0, 1] rfl ?_
        refine rv 13 rfl rfl rfl (q_move (v := .int .u64 (x_5)) rfl rfl) ?_
        refine rv 14 rfl rfl rfl (q_geq (a := x_5) (b := (256 : Int)) rfl rfl rfl) ?_
        refine ro_nil ?_
        refine wp_if (b := (decide (x_5 ≥ (256 : Int)))) rfl h (fun hb13 h => ?_) (fun hb13 h => ?_)
        · refine wp_seq ?_
          refine wp_text [0, 1, 2] rfl ?_
          refine rv 15 rfl rfl rfl (q_move (v := .int .u64 (x_5)) rfl rfl) ?_
          obtain ⟨d12, hd12, h⟩ := h
          refine rv 16 rfl rfl rfl (q_shr (a := x_5) (b := (8 : Int)) (r := d12) rfl rfl rfl hd12) ?_
          refine rv 0 rfl rfl rfl (q_assign (v := .int .u64 (d12)) rfl rfl) ?_
          refine ro_nil ?_
          refine wp_text [0, 1, 2] rfl ?_
          refine rv 17 rfl rfl rfl (q_move (v := .int .i64 (n_6)) rfl rfl) ?_
          refine rv 18 rfl rfl rfl (q_add (a := n_6) (b := (8 : Int)) rfl rfl rfl) ?_
          refine rv 2 rfl rfl rfl (q_assign (v := .int .i64 ((IntKind.i64.wrap (n_6 + (8 : Int))))) rfl rfl) ?_
          refine ro_nil ?_
          exact ⟨(d12, (IntKind.i64.wrap (n_6 + (8 : Int)))), _, arr (upd_step (upd_step rfl rfl) rfl), h⟩
        · refine wp_skip ?_
          exact ⟨(x_5, n_6), _, arr (upd_step (upd_step rfl rfl) rfl), h⟩
    · refine wp_seq ?_
      refine wp_text [0, 1] rfl ?_
      refine rv 7 rfl rfl rfl (q_move (v := .int .u64 (x_2)) rfl rfl) ?_
      refine rv 8 rfl rfl rfl (q_geq (a := x_2) (b := (65536 : Int)) rfl rfl rfl) ?_
      refine ro_nil ?_
      refine wp_if (b := (decide (x_2 ≥ (65536 : Int)))) rfl h (fun hb15 h => ?_) (fun hb15 h => ?_)
      · refine wp_seq ?_
        refine wp_text [0, 1, 2] rfl ?_
        refine rv 9 rfl rfl rfl (q_move (v := .int .u64 (x_2)) rfl rfl) ?_
        obtain ⟨d14, hd14, h⟩ := h
        refine rv 10 rfl rfl rfl (q_shr (a := x_2) (b := (16 : Int)) (r := d14) rfl rfl rfl hd14) ?_
        refine rv 0 rfl rfl rfl (q_assign (v := .int .u64 (d14)) rfl rfl) ?_
        refine ro_nil ?_
        refine wp_text [0, 1, 2] rfl ?_
        refine rv 11 rfl rfl rfl (q_move (v := .int .i64 (n_3)) rfl rfl) ?_
        refine rv 12 rfl rfl rfl (q_add (a := n_3) (b := (16 : Int)) rfl rfl rfl) ?_
        refine rv 2 rfl rfl rfl (q_assign (v := .int .i64 ((IntKind.i64.wrap (n_3 + (16 : Int))))) rfl rfl) ?_
        refine ro_nil ?_
        exact ⟨(d14, (IntKind.i64.wrap (n_3 + (16 : Int)))), _, arr (upd_step (upd_step rfl rfl) rfl), h⟩
      · refine wp_skip ?_
        exact ⟨(x_2, n_3), _, arr (upd_step (upd_step rfl rfl) rfl), h⟩
  · refine wp_seq ?_
    refine wp_text [0, 1] rfl ?_
    refine rv 3 rfl rfl rfl (q_move (v := .int .u64 (x_1)) rfl rfl) ?_
    refine rv 4 rfl rfl rfl (q_geq (a := x_1) (b := (4294967296 : Int)) rfl rfl rfl) ?_
    refine ro_nil ?_
    refine wp_if (b := (decide (x_1 ≥ (4294967296 : Int)))) rfl h (fun hb17 h => ?_) (fun hb17 h => ?_)
    · refine wp_seq ?_
      refine wp_text [0, 1, 2] rfl ?_
      refine rv 5 rfl rfl rfl (q_move (v := .int .u64 (x_1)) rfl rfl) ?_
      obtain ⟨d16, hd16, h⟩ := h
      refine rv 6 rfl rfl rfl (q_shr (a := x_1) (b := (32 : Int)) (r := d16) rfl rfl rfl hd16) ?_
      refine rv 0 rfl rfl rfl (q_assign (v := .int .u64 (d16)) rfl rfl) ?_
      refine ro_nil ?_
      refine wp_text [0] rfl ?_
      refine rv 2 rfl rfl rfl (q_assign (v := .int .i64 ((32 : Int))) rfl rfl) ?_
      refine ro_nil ?_
      exact ⟨(d16, (32 : Int)), _, arr (upd_step (upd_step rfl rfl) rfl), h⟩
    · refine wp_skip ?_
      exact ⟨(x_1, (0 : Int)), _, arr (upd_step (upd_step rfl rfl) rfl), h⟩

-- math.Frexp
def F89 (f_1 : Nat) (w : World) (R : (Nat × Int) → World → Prop) : Prop :=
  cl Tryz.prog 103 [.float .f64 (f_1)] (tTup2 tFlt (tInt .i64)) w fun r3 w2 =>
  R (r3.1, r3.2) w2
theorem F89_ok {f_1 : Nat} {w : World} {R : (Nat × Int) → World → Prop} (h : F89 f_1 w R) : cl Tryz.prog 89 [.float .f64 (f_1)] (tTup2 tFlt (tInt .i64)) w R := by
  unfold F89 at h
  refine calls_start 12 Tryz.func89 rfl rfl (Nat.le_of_ble_eq_true rfl) ?_
  refine wp_seq ?_
  refine wp_text [0, 1] rfl ?_
  refine rv 2 rfl rfl rfl (q_assign (v := .float .f64 ((0 : Nat))) rfl rfl) ?_
  refine rv 3 rfl rfl rfl (q_assign (v := .int .i64 ((0 : Int))) rfl rfl) ?_
  refine ro_nil ?_
  refine wp_seq ?_
  refine wp_no rfl ?_
  refine wp_skip ?_
  refine wp_seq ?_
  refine wp_text [0, 1, 2, 3, 4, 5] rfl ?_
  refine rv 8 rfl rfl rfl (q_move (v := .float .f64 (f_1)) rfl rfl) ?_
  refine ro_wp rfl (.free rfl) (wp_cl (d := (some 9)) rfl (q_call (k := 103) (l := [.float .f64 (f_1)]) rfl ent103 rfl) h ?_)
  intro r3 w2 h
  refine rv 10 rfl rfl rfl (q_extract (vs := #[.float .f64 (r3.1), .int .i64 (r3.2)]) (v := .float .f64 (r3.1)) rfl rfl rfl) ?_
  refine rv 11 rfl rfl rfl (q_extract (vs := #[.float .f64 (r3.1), .int .i64 (r3.2)]) (v := .int .i64 (r3.2)) rfl rfl rfl) ?_
  refine rv 2 rfl rfl rfl (q_assign (v := .float .f64 (r3.1)) rfl rfl) ?_
  refine rv 3 rfl rfl rfl (q_assign (v := .int .i64 (r3.2)) rfl rfl) ?_
  refine ro_nil ?_
  refine wp_ret ?_
  exact ret_ok rfl (.cons (.tmp (v := .float .f64 (r3.1)) rfl) (.cons (.tmp (v := .int .i64 (r3.2)) rfl) .nil)) ⟨(r3.1, r3.2), rfl, h⟩

-- math.Ldexp
def F90 (frac_1 : Nat) (exp_2 : Int) (w : World) (R : Nat → World → Prop) : Prop :=
  cl Tryz.prog 105 [.float .f64 (frac_1), .int .i64 (exp_2)] tFlt w fun r4 w3 =>
  R r4 w3
theorem F90_ok {frac_1 : Nat} {exp_2 : Int} {w : World} {R : Nat → World → Prop} (h : F90 frac_1 exp_2 w R) : cl Tryz.prog 90 [.float .f64 (frac_1), .int .i64 (exp_2)] tFlt w R := by
  unfold F90 at h
  refine calls_start 11 Tryz.func90 rfl rfl (Nat.le_of_ble_eq_true rfl) ?_
  refine wp_seq ?_
  refine wp_text [0] rfl ?_
  refine rv 4 rfl rfl rfl (q_assign (v := .float .f64 ((0 : Nat))) rfl rfl) ?_
  refine ro_nil ?_
  refine wp_seq ?_
  refine wp_no rfl ?_
  refine wp_skip ?_
  refine wp_seq ?_
  refine wp_text [0, 1, 2, 3] rfl ?_
  refine rv 8 rfl rfl rfl (q_move (v := .float .f64 (frac_1)) rfl rfl) ?_
  refine rv 9 rfl rfl rfl (q_move (v := .int .i64 (exp_2)) rfl rfl) ?_
  refine ro_wp rfl (.free rfl) (wp_cl (d := (some 10)) rfl (q_call (k := 105) (l := [.float .f64 (frac_1), .int .i64 (exp_2)]) rfl ent105 rfl) h ?_)
  intro r4 w3 h
  refine rv 4 rfl rfl rfl (q_assign (v := .float .f64 (r4)) rfl rfl) ?_
  refine ro_nil ?_
  refine wp_ret ?_
  exact ret_ok rfl (.cons (.tmp (v := .float .f64 (r4)) rfl) .nil) ⟨r4, rfl, h⟩

end Go.Proofs.YtpdaapffkdejoaaGreat.Cf
