/- Characteristic formulae of Go functions, and that they are. Printed by gen.py (own tool). -/
import Derived.Test.YtleehieomicicaaTy
namespace Go.Proofs.Ytleehieomicicaa.Cf
open Go
set_option maxRecDepth 100000
set_option maxHeartbeats 1000000
set_option linter.unusedVariables false
set_option linter.unusedSimpArgs false

-- moiety/moietyref17.Check
def F12_l3 (r10 : Slc) (left_11 : Int) (i_12 : Int) (k_19 : Int) (w20 : World) (K14 : Int × Int → World → Prop) (K21 : Int → World → Prop) (R : (Int × Int) → World → Prop) : Prop :=
  if (decide (k_19 < i_12)) = true then (
    dr w20 fun w22 =>
    ex (IxA r10 2 k_19) fun a23 =>
    ex (IxA r10 2 i_12) fun a24 =>
    ex (RdAt (tInt .i64) (a23.add 0) w22) fun x25 =>
    ex (RdAt (tInt .i64) (a24.add 0) w22) fun x26 =>
    if (x25 == x26) = true then (
      R ((0 : Int), (182 : Int)) w22
    ) else (
      K21 ((IntKind.i64.wrap (k_19 + (1 : Int)))) w22
    )
  ) else (
    ex (IxA r10 2 i_12) fun a28 =>
    ex (RdAt (tInt .i64) (a28.add 1) w20) fun x29 =>
    ex (fun x => (!(decide (x29 < (0 : Int)))) = true → (IxA r10 2 i_12) x) fun a30 =>
    ex (fun x => (!(decide (x29 < (0 : Int)))) = true → (RdAt (tInt .i64) (a30.add 0) w20) x) fun x31 =>
    ex (fun x => ((!(decide (x29 < (0 : Int)))) && (decide (x31 < (4096 : Int)))) = true → (IxA r10 2 i_12) x) fun a32 =>
    ex (fun x => ((!(decide (x29 < (0 : Int)))) && (decide (x31 < (4096 : Int)))) = true → (RdAt (tInt .i64) (a32.add 1) w20) x) fun x33 =>
    ex (fun x => (!((decide (x29 < (0 : Int))) || ((decide (x31 < (4096 : Int))) && (decide (x33 > (1000000000000000 : Int)))))) = true → (IxA r10 2 i_12) x) fun a34 =>
    ex (fun x => (!((decide (x29 < (0 : Int))) || ((decide (x31 < (4096 : Int))) && (decide (x33 > (1000000000000000 : Int)))))) = true → (RdAt (tInt .i64) (a34.add 1) w20) x) fun x35 =>
    if (((decide (x29 < (0 : Int))) || ((decide (x31 < (4096 : Int))) && (decide (x33 > (1000000000000000 : Int))))) || (decide (x35 > (4611686018427387904 : Int)))) = true then (
      R ((0 : Int), (183 : Int)) w20
    ) else (
      ex (IxA r10 2 i_12) fun a36 =>
      ex (RdAt (tInt .i64) (a36.add 1) w20) fun x37 =>
      if (decide (x37 > left_11)) = true then (
        R ((0 : Int), (184 : Int)) w20
      ) else (
        ex (IxA r10 2 i_12) fun a38 =>
        ex (RdAt (tInt .i64) (a38.add 1) w20) fun x39 =>
        K14 ((IntKind.i64.wrap (left_11 - x39)), (IntKind.i64.wrap (i_12 + (1 : Int)))) w20
      )
    )
  )
def F12_l2 (r10 : Slc) (left_11 : Int) (i_12 : Int) (w13 : World) (K14 : Int × Int → World → Prop) (R : (Int × Int) → World → Prop) : Prop :=
  if (decide (i_12 < (r10.len : Int))) = true then (
    ex (IxA r10 2 i_12) fun a15 =>
    ex (RdAt (tInt .i64) (a15.add 0) w13) fun x16 =>
    ex (fun x => (!(decide (x16 < (0 : Int)))) = true → (IxA r10 2 i_12) x) fun a17 =>
    ex (fun x => (!(decide (x16 < (0 : Int)))) = true → (RdAt (tInt .i64) (a17.add 0) w13) x) fun x18 =>
    if ((decide (x16 < (0 : Int))) || (decide (x18 > (8191 : Int)))) = true then (
      R ((0 : Int), (181 : Int)) w13
    ) else (
      lp (fun (s : Int) w K => F12_l3 r10 left_11 i_12 s w K14 K R) ((0 : Int)) w13
    )
  ) else (
    R ((IntKind.i64.wrap ((4611686018427387904 : Int) - left_11)), (0 : Int)) w13
  )
def F12_l1 (at_1 : Int) (l_2 : Slc) (i_3 : Int) (w4 : World) (K5 : Int → World → Prop) (R : (Int × Int) → World → Prop) : Prop :=
  if (decide (i_3 < (l_2.len : Int))) = true then (
    ex (IxA l_2 2 i_3) fun a6 =>
    ex (RdAt (tInt .i64) (a6.add 0) w4) fun x7 =>
    if (x7 != at_1) = true then (
      R ((0 : Int), (180 : Int)) w4
    ) else (
      K5 ((IntKind.i64.wrap (i_3 + (1 : Int)))) w4
    )
  ) else (
    cl Try.prog 21 [tSlc.enc (l_2)] tSlc w4 fun r10 w9 =>
    lp (fun (s : Int × Int) w K => F12_l2 r10 s.1 s.2 w K R) ((4611686018427387904 : Int), (0 : Int)) w9
  )
def F12 (at_1 : Int) (l_2 : Slc) (w : World) (R : (Int × Int) → World → Prop) : Prop :=
  if ((decide (at_1 < (0 : Int))) || (decide (at_1 > (1125899906842624 : Int)))) = true then (
    R ((0 : Int), (180 : Int)) w
  ) else (
    lp (fun (s : Int) w K => F12_l1 at_1 l_2 s w K R) ((0 : Int)) w
  )
theorem F12_ok {at_1 : Int} {l_2 : Slc} {w : World} {R : (Int × Int) → World → Prop} (h : F12 at_1 l_2 w R) : cl Try.prog 12 [.int .i64 (at_1), tSlc.enc (l_2)] (tTup2 (tInt .i64) (tInt .i64)) w R := by
  unfold F12 at h
  refine calls_start 114 Try.func12 rfl rfl (Nat.le_of_ble_eq_true rfl) ?_
  refine wp_seq ?_
  refine wp_text [0, 1] rfl ?_
  refine ro_val (d := (some 4)) rfl (.free rfl) rfl (q_assign (v := .int .i64 ((0 : Int))) rfl rfl) ?_
  refine ro_val (d := (some 5)) rfl (.free rfl) rfl (q_assign (v := .int .i64 ((0 : Int))) rfl rfl) ?_
  refine ro_nil ?_
  refine wp_seq ?_
  refine wp_seq ?_
  refine wp_text [0, 1, 2, 3, 4, 5] rfl ?_
  refine ro_val (d := (some 11)) rfl (.free rfl) rfl (q_move (v := .int .i64 (at_1)) rfl rfl) ?_
  refine ro_val (d := (some 12)) rfl (.free rfl) rfl (q_lss (a := at_1) (b := (0 : Int)) rfl rfl rfl) ?_
  refine ro_val (d := (some 13)) rfl (.free rfl) rfl (q_move (v := .bool ((decide (at_1 < (0 : Int))))) rfl rfl) ?_
  refine ro_gval (g := (!(decide (at_1 < (0 : Int))))) (d := (some 14)) rfl (.no 2 13 true (decide (at_1 < (0 : Int))) rfl rfl rfl rfl) rfl (fun hg => q_move (v := .int .i64 (at_1)) rfl rfl) ?_
  refine ro_gval (g := (!(decide (at_1 < (0 : Int))))) (d := (some 15)) rfl (.no 2 13 true (decide (at_1 < (0 : Int))) rfl rfl rfl rfl) rfl (fun hg => q_gtr (a := at_1) (b := (1125899906842624 : Int)) rfl (gvb_yes hg) rfl) ?_
  refine ro_val (d := (some 16)) rfl (.free rfl) rfl (q_pickGF (a := (decide (at_1 < (0 : Int)))) (c := (decide (at_1 > (1125899906842624 : Int)))) rfl rfl rfl rfl) ?_
  refine ro_nil ?_
  refine wp_if (b := ((decide (at_1 < (0 : Int))) || (decide (at_1 > (1125899906842624 : Int))))) rfl h (fun hb46 h => ?_) (fun hb46 h => ?_)
  · refine wp_seq ?_
    refine wp_text [0, 1] rfl ?_
    refine ro_val (d := (some 4)) rfl (.free rfl) rfl (q_assign (v := .int .i64 ((0 : Int))) rfl rfl) ?_
    refine ro_val (d := (some 5)) rfl (.free rfl) rfl (q_assign (v := .int .i64 ((180 : Int))) rfl rfl) ?_
    refine ro_nil ?_
    refine wp_ret ?_
    exact ret_ok rfl (.cons (.tmp (v := .int .i64 ((0 : Int))) rfl) (.cons (.tmp (v := .int .i64 ((180 : Int))) rfl) .nil)) ⟨((0 : Int), (180 : Int)), rfl, h⟩
  · refine wp_skip ?_
    refine wp_seq ?_
    refine wp_seq ?_
    refine wp_text [0] rfl ?_
    refine ro_val (d := (some 6)) rfl (.free rfl) rfl (q_assign (v := .int .i64 ((0 : Int))) rfl rfl) ?_
    refine ro_nil ?_
    refine wp_block ?_
    refine loop_at (σ := Int) (fr := fun g (s : Int) => upd (upd (upd (g) 0 (.int .i64 (at_1))) 1 (tSlc.enc (l_2))) 6 (.int .i64 (s))) (s0 := ((0 : Int))) (upd_step (upd_step (upd_step rfl rfl) rfl) rfl) h ?_
    rintro i_3 g w4 K5 h
    unfold F12_l1 at h
    refine wp_seq ?_
    refine wp_seq ?_
    refine wp_text [0, 1, 2, 3] rfl ?_
    refine ro_val (d := (some 17)) rfl (.free rfl) rfl (q_move (v := .int .i64 (i_3)) rfl rfl) ?_
    refine ro_val (d := (some 18)) rfl (.free rfl) rfl (q_move (v := tSlc.enc (l_2)) rfl rfl) ?_
    refine ro_val (d := (some 19)) rfl (.free rfl) rfl (q_len (s := l_2) rfl Try.underlying22 rfl) ?_
    refine ro_val (d := (some 20)) rfl (.free rfl) rfl (q_lss (a := i_3) (b := (l_2.len : Int)) rfl rfl rfl) ?_
    refine ro_nil ?_
    refine wp_if (b := (decide (i_3 < (l_2.len : Int)))) rfl h (fun hb45 h => ?_) (fun hb45 h => ?_)
    · refine wp_skip ?_
      refine wp_seq ?_
      refine wp_block ?_
      refine wp_seq ?_
      refine wp_text [0, 1, 2, 3, 4, 5, 6] rfl ?_
      refine ro_val (d := (some 23)) rfl (.free rfl) rfl (q_move (v := tSlc.enc (l_2)) rfl rfl) ?_
      refine ro_val (d := (some 24)) rfl (.free rfl) rfl (q_move (v := .int .i64 (i_3)) rfl rfl) ?_
      obtain ⟨a6, ha6, h⟩ := h
      refine ro_val (d := (some 25)) rfl (.free rfl) rfl (q_indexAddr (s := l_2) (i := i_3) rfl Try.underlying22 ok39 rfl rfl ha6) ?_
      refine ro_val (d := (some 26)) rfl (.free rfl) rfl (q_fieldAddr (a := a6) (off := 0) rfl Try.underlying39 rfl rfl ok2 (by decide) rfl) ?_
      obtain ⟨x7, hx7, h⟩ := h
      refine ro_val (d := (some 27)) rfl (.free rfl) rfl (q_load (T := (tInt .i64)) (u := x7) (a := (a6.add 0)) rfl ok2 rfl hx7) ?_
      refine ro_val (d := (some 28)) rfl (.free rfl) rfl (q_move (v := .int .i64 (at_1)) rfl rfl) ?_
      refine ro_val (d := (some 29)) rfl (.free rfl) rfl (q_neq (a := x7) (b := at_1) rfl rfl rfl) ?_
      refine ro_nil ?_
      refine wp_if (b := (x7 != at_1)) rfl h (fun hb8 h => ?_) (fun hb8 h => ?_)
      · refine wp_seq ?_
        refine wp_text [0, 1] rfl ?_
        refine ro_val (d := (some 4)) rfl (.free rfl) rfl (q_assign (v := .int .i64 ((0 : Int))) rfl rfl) ?_
        refine ro_val (d := (some 5)) rfl (.free rfl) rfl (q_assign (v := .int .i64 ((180 : Int))) rfl rfl) ?_
        refine ro_nil ?_
        refine wp_ret ?_
        exact ret_ok rfl (.cons (.tmp (v := .int .i64 ((0 : Int))) rfl) (.cons (.tmp (v := .int .i64 ((180 : Int))) rfl) .nil)) ⟨((0 : Int), (180 : Int)), rfl, h⟩
      · refine wp_skip ?_
        refine wp_text [0, 1, 2] rfl ?_
        refine ro_val (d := (some 21)) rfl (.free rfl) rfl (q_move (v := .int .i64 (i_3)) rfl rfl) ?_
        refine ro_val (d := (some 22)) rfl (.free rfl) rfl (q_add (a := i_3) (b := (1 : Int)) rfl rfl rfl) ?_
        refine ro_val (d := (some 6)) rfl (.free rfl) rfl (q_assign (v := .int .i64 ((IntKind.i64.wrap (i_3 + (1 : Int))))) rfl rfl) ?_
        refine ro_nil ?_
        exact ⟨((IntKind.i64.wrap (i_3 + (1 : Int)))), _, arr (upd_step (upd_step (upd_step rfl rfl) rfl) rfl), h⟩
    · refine wp_exit ?_
      refine wp_seq ?_
      refine wp_text [0, 1, 2] rfl ?_
      refine ro_val (d := (some 30)) rfl (.free rfl) rfl (q_move (v := tSlc.enc (l_2)) rfl rfl) ?_
      refine ro_wp rfl (.free rfl) (wp_cl (d := (some 31)) rfl (q_call (k := 21) (l := [tSlc.enc (l_2)]) rfl ent21 rfl) h ?_)
      intro r10 w9 h
      refine ro_val (d := (some 7)) rfl (.free rfl) rfl (q_assign (v := tSlc.enc (r10)) rfl rfl) ?_
      refine ro_nil ?_
      refine wp_seq ?_
      refine wp_text [0] rfl ?_
      refine ro_val (d := (some 8)) rfl (.free rfl) rfl (q_assign (v := .int .i64 ((4611686018427387904 : Int))) rfl rfl) ?_
      refine ro_nil ?_
      refine wp_seq ?_
      refine wp_seq ?_
      refine wp_text [0] rfl ?_
      refine ro_val (d := (some 9)) rfl (.free rfl) rfl (q_assign (v := .int .i64 ((0 : Int))) rfl rfl) ?_
      refine ro_nil ?_
      refine wp_block ?_
      refine loop_at (σ := Int × Int) (fr := fun g (s : Int × Int) => upd (upd (upd (g) 7 (tSlc.enc (r10))) 8 (.int .i64 (s.1))) 9 (.int .i64 (s.2))) (s0 := ((4611686018427387904 : Int), (0 : Int))) (upd_step (upd_step (upd_step rfl rfl) rfl) rfl) h ?_
      rintro ⟨left_11, i_12⟩ g w13 K14 h
      unfold F12_l2 at h
      refine wp_seq ?_
      refine wp_seq ?_
      refine wp_text [0, 1, 2, 3] rfl ?_
      refine ro_val (d := (some 32)) rfl (.free rfl) rfl (q_move (v := .int .i64 (i_12)) rfl rfl) ?_
      refine ro_val (d := (some 33)) rfl (.free rfl) rfl (q_move (v := tSlc.enc (r10)) rfl rfl) ?_
      refine ro_val (d := (some 34)) rfl (.free rfl) rfl (q_len (s := r10) rfl Try.underlying31 rfl) ?_
      refine ro_val (d := (some 35)) rfl (.free rfl) rfl (q_lss (a := i_12) (b := (r10.len : Int)) rfl rfl rfl) ?_
      refine ro_nil ?_
      refine wp_if (b := (decide (i_12 < (r10.len : Int)))) rfl h (fun hb44 h => ?_) (fun hb44 h => ?_)
      · refine wp_skip ?_
        refine wp_seq ?_
        refine wp_block ?_
        refine wp_seq ?_
        refine wp_seq ?_
        refine wp_text [0, 1, 2, 3, 4, 5, 6, 7, 8, 9, 10, 11, 12, 13] rfl ?_
        refine ro_val (d := (some 38)) rfl (.free rfl) rfl (q_move (v := tSlc.enc (r10)) rfl rfl) ?_
        refine ro_val (d := (some 39)) rfl (.free rfl) rfl (q_move (v := .int .i64 (i_12)) rfl rfl) ?_
        obtain ⟨a15, ha15, h⟩ := h
        refine ro_val (d := (some 40)) rfl (.free rfl) rfl (q_indexAddr (s := r10) (i := i_12) rfl Try.underlying31 ok37 rfl rfl ha15) ?_
        refine ro_val (d := (some 41)) rfl (.free rfl) rfl (q_fieldAddr (a := a15) (off := 0) rfl Try.underlying37 rfl rfl ok3 (by decide) rfl) ?_
        obtain ⟨x16, hx16, h⟩ := h
        refine ro_val (d := (some 42)) rfl (.free rfl) rfl (q_load (T := (tInt .i64)) (u := x16) (a := (a15.add 0)) rfl ok3 rfl hx16) ?_
        refine ro_val (d := (some 43)) rfl (.free rfl) rfl (q_lss (a := x16) (b := (0 : Int)) rfl rfl rfl) ?_
        refine ro_val (d := (some 44)) rfl (.free rfl) rfl (q_move (v := .bool ((decide (x16 < (0 : Int))))) rfl rfl) ?_
        refine ro_gval (g := (!(decide (x16 < (0 : Int))))) (d := (some 45)) rfl (.no 6 44 true (decide (x16 < (0 : Int))) rfl rfl rfl rfl) rfl (fun hg => q_move (v := tSlc.enc (r10)) rfl rfl) ?_
        refine ro_gval (g := (!(decide (x16 < (0 : Int))))) (d := (some 46)) rfl (.no 6 44 true (decide (x16 < (0 : Int))) rfl rfl rfl rfl) rfl (fun hg => q_move (v := .int .i64 (i_12)) rfl rfl) ?_
        obtain ⟨a17, ha17, h⟩ := h
        refine ro_gval (g := (!(decide (x16 < (0 : Int))))) (d := (some 47)) rfl (.no 6 44 true (decide (x16 < (0 : Int))) rfl rfl rfl rfl) rfl (fun hg => q_indexAddr (s := r10) (i := i_12) rfl Try.underlying31 ok37 (gvb_yes hg) (gvb_yes hg) (ha17 hg)) ?_
        refine ro_gval (g := (!(decide (x16 < (0 : Int))))) (d := (some 48)) rfl (.no 6 44 true (decide (x16 < (0 : Int))) rfl rfl rfl rfl) rfl (fun hg => q_fieldAddr (a := a17) (off := 0) rfl Try.underlying37 rfl rfl ok3 (by decide) (gvb_yes hg)) ?_
        obtain ⟨x18, hx18, h⟩ := h
        refine ro_gval (g := (!(decide (x16 < (0 : Int))))) (d := (some 49)) rfl (.no 6 44 true (decide (x16 < (0 : Int))) rfl rfl rfl rfl) rfl (fun hg => q_load (T := (tInt .i64)) (u := x18) (a := (a17.add 0)) rfl ok3 (gvb_yes hg) (hx18 hg)) ?_
        refine ro_gval (g := (!(decide (x16 < (0 : Int))))) (d := (some 50)) rfl (.no 6 44 true (decide (x16 < (0 : Int))) rfl rfl rfl rfl) rfl (fun hg => q_gtr (a := x18) (b := (8191 : Int)) rfl (gvb_yes hg) rfl) ?_
        refine ro_val (d := (some 51)) rfl (.free rfl) rfl (q_pickGF (a := (decide (x16 < (0 : Int)))) (c := (decide (x18 > (8191 : Int)))) rfl rfl rfl rfl) ?_
        refine ro_nil ?_
        refine wp_if (b := ((decide (x16 < (0 : Int))) || (decide (x18 > (8191 : Int))))) rfl h (fun hb43 h => ?_) (fun hb43 h => ?_)
        · refine wp_seq ?_
          refine wp_text [0, 1] rfl ?_
          refine ro_val (d := (some 4)) rfl (.free rfl) rfl (q_assign (v := .int .i64 ((0 : Int))) rfl rfl) ?_
          refine ro_val (d := (some 5)) rfl (.free rfl) rfl (q_assign (v := .int .i64 ((181 : Int))) rfl rfl) ?_
          refine ro_nil ?_
          refine wp_ret ?_
          exact ret_ok rfl (.cons (.tmp (v := .int .i64 ((0 : Int))) rfl) (.cons (.tmp (v := .int .i64 ((181 : Int))) rfl) .nil)) ⟨((0 : Int), (181 : Int)), rfl, h⟩
        · refine wp_skip ?_
          refine wp_seq ?_
          refine wp_seq ?_
          refine wp_text [0] rfl ?_
          refine ro_val (d := (some 10)) rfl (.free rfl) rfl (q_assign (v := .int .i64 ((0 : Int))) rfl rfl) ?_
          refine ro_nil ?_
          refine wp_block ?_
          refine loop_at (σ := Int) (fr := fun g (s : Int) => upd (upd (upd (upd (g) 7 (tSlc.enc (r10))) 8 (.int .i64 (left_11))) 9 (.int .i64 (i_12))) 10 (.int .i64 (s))) (s0 := ((0 : Int))) (upd_step (upd_step (upd_step (upd_step rfl rfl) rfl) rfl) rfl) h ?_
          rintro k_19 g w20 K21 h
          unfold F12_l3 at h
          refine wp_seq ?_
          refine wp_seq ?_
          refine wp_text [0, 1, 2] rfl ?_
          refine ro_val (d := (some 52)) rfl (.free rfl) rfl (q_move (v := .int .i64 (k_19)) rfl rfl) ?_
          refine ro_val (d := (some 53)) rfl (.free rfl) rfl (q_move (v := .int .i64 (i_12)) rfl rfl) ?_
          refine ro_val (d := (some 54)) rfl (.free rfl) rfl (q_lss (a := k_19) (b := i_12) rfl rfl rfl) ?_
          refine ro_nil ?_
          refine wp_if (b := (decide (k_19 < i_12))) rfl h (fun hb42 h => ?_) (fun hb42 h => ?_)
          · refine wp_skip ?_
            refine wp_seq ?_
            refine wp_block ?_
            refine wp_seq ?_
            obtain ⟨w22, hw22, h⟩ := dr_open h
            refine wp_drawn 11 mixed rfl (by kernel_rfl) (by intro c a d v w h; cases d <;> exact h) hw22 (fun hD => ?_)
            refine rd_pure (i := 0) (d := (some 57)) hD (by kernel_rfl) (by kernel_rfl) rfl (.free rfl) rfl (fun _ => q_move (v := tSlc.enc (r10)) rfl rfl) ?_
            refine rd_pure (i := 1) (d := (some 58)) hD (by kernel_rfl) (by kernel_rfl) rfl (.free rfl) rfl (fun _ => q_move (v := .int .i64 (k_19)) rfl rfl) ?_
            obtain ⟨a23, ha23, h⟩ := h
            refine rd_pure (i := 2) (d := (some 59)) hD (by kernel_rfl) (by kernel_rfl) rfl (.free rfl) rfl (fun _ => q_indexAddr (s := r10) (i := k_19) rfl Try.underlying31 ok37 rfl rfl ha23) ?_
            refine rd_pure (i := 3) (d := (some 60)) hD (by kernel_rfl) (by kernel_rfl) rfl (.free rfl) rfl (fun _ => q_fieldAddr (a := a23) (off := 0) rfl Try.underlying37 rfl rfl ok3 (by decide) rfl) ?_
            refine rd_pure (i := 5) (d := (some 62)) hD (by kernel_rfl) (by kernel_rfl) rfl (.free rfl) rfl (fun _ => q_move (v := tSlc.enc (r10)) rfl rfl) ?_
            refine rd_pure (i := 6) (d := (some 63)) hD (by kernel_rfl) (by kernel_rfl) rfl (.free rfl) rfl (fun _ => q_move (v := .int .i64 (i_12)) rfl rfl) ?_
            obtain ⟨a24, ha24, h⟩ := h
            refine rd_pure (i := 7) (d := (some 64)) hD (by kernel_rfl) (by kernel_rfl) rfl (.free rfl) rfl (fun _ => q_indexAddr (s := r10) (i := i_12) rfl Try.underlying31 ok37 rfl rfl ha24) ?_
            refine rd_pure (i := 8) (d := (some 65)) hD (by kernel_rfl) (by kernel_rfl) rfl (.free rfl) rfl (fun _ => q_fieldAddr (a := a24) (off := 0) rfl Try.underlying37 rfl rfl ok3 (by decide) rfl) ?_
            obtain ⟨x25, hx25, h⟩ := h
            refine rd_read (i := 4) (d := (some 61)) (fun W => (RdAt (tInt .i64) (a23.add 0) W) x25) hD (by kernel_rfl) (by kernel_rfl) rfl (.free rfl) rfl (fun W hr => q_load (T := (tInt .i64)) (u := x25) (a := (a23.add 0)) rfl ok3 rfl hr) hx25 ?_
            obtain ⟨x26, hx26, h⟩ := h
            refine rd_read (i := 9) (d := (some 66)) (fun W => (RdAt (tInt .i64) (a24.add 0) W) x26) hD (by kernel_rfl) (by kernel_rfl) rfl (.free rfl) rfl (fun W hr => q_load (T := (tInt .i64)) (u := x26) (a := (a24.add 0)) rfl ok3 rfl hr) hx26 ?_
            refine rd_pure (i := 10) (d := (some 67)) hD (by kernel_rfl) (by kernel_rfl) rfl (.free rfl) rfl (fun _ => q_eql (a := x25) (b := x26) rfl rfl rfl) ?_
            refine rd_nil (by kernel_rfl) ?_
            refine wp_if (b := (x25 == x26)) rfl h (fun hb27 h => ?_) (fun hb27 h => ?_)
            · refine wp_seq ?_
              refine wp_text [0, 1] rfl ?_
              refine ro_val (d := (some 4)) rfl (.free rfl) rfl (q_assign (v := .int .i64 ((0 : Int))) rfl rfl) ?_
              refine ro_val (d := (some 5)) rfl (.free rfl) rfl (q_assign (v := .int .i64 ((182 : Int))) rfl rfl) ?_
              refine ro_nil ?_
              refine wp_ret ?_
              exact ret_ok rfl (.cons (.tmp (v := .int .i64 ((0 : Int))) rfl) (.cons (.tmp (v := .int .i64 ((182 : Int))) rfl) .nil)) ⟨((0 : Int), (182 : Int)), rfl, h⟩
            · refine wp_skip ?_
              refine wp_text [0, 1, 2] rfl ?_
              refine ro_val (d := (some 55)) rfl (.free rfl) rfl (q_move (v := .int .i64 (k_19)) rfl rfl) ?_
              refine ro_val (d := (some 56)) rfl (.free rfl) rfl (q_add (a := k_19) (b := (1 : Int)) rfl rfl rfl) ?_
              refine ro_val (d := (some 10)) rfl (.free rfl) rfl (q_assign (v := .int .i64 ((IntKind.i64.wrap (k_19 + (1 : Int))))) rfl rfl) ?_
              refine ro_nil ?_
              exact ⟨((IntKind.i64.wrap (k_19 + (1 : Int)))), _, arr (upd_step (upd_step (upd_step (upd_step rfl rfl) rfl) rfl) rfl), h⟩
          · refine wp_exit ?_
            refine wp_seq ?_
            refine wp_seq ?_
            refine wp_text [0, 1, 2, 3, 4, 5, 6, 7, 8, 9, 10, 11, 12, 13, 14, 15, 16, 17, 18, 19, 20, 21, 22, 23, 24, 25, 26, 27, 28, 29] rfl ?_
            refine ro_val (d := (some 68)) rfl (.free rfl) rfl (q_move (v := tSlc.enc (r10)) rfl rfl) ?_
            refine ro_val (d := (some 69)) rfl (.free rfl) rfl (q_move (v := .int .i64 (i_12)) rfl rfl) ?_
            obtain ⟨a28, ha28, h⟩ := h
            refine ro_val (d := (some 70)) rfl (.free rfl) rfl (q_indexAddr (s := r10) (i := i_12) rfl Try.underlying31 ok37 rfl rfl ha28) ?_
            refine ro_val (d := (some 71)) rfl (.free rfl) rfl (q_fieldAddr (a := a28) (off := 1) rfl Try.underlying37 rfl rfl ok2 (by decide) rfl) ?_
            obtain ⟨x29, hx29, h⟩ := h
            refine ro_val (d := (some 72)) rfl (.free rfl) rfl (q_load (T := (tInt .i64)) (u := x29) (a := (a28.add 1)) rfl ok2 rfl hx29) ?_
            refine ro_val (d := (some 73)) rfl (.free rfl) rfl (q_lss (a := x29) (b := (0 : Int)) rfl rfl rfl) ?_
            refine ro_val (d := (some 74)) rfl (.free rfl) rfl (q_move (v := .bool ((decide (x29 < (0 : Int))))) rfl rfl) ?_
            refine ro_gval (g := (!(decide (x29 < (0 : Int))))) (d := (some 75)) rfl (.no 6 74 true (decide (x29 < (0 : Int))) rfl rfl rfl rfl) rfl (fun hg => q_move (v := tSlc.enc (r10)) rfl rfl) ?_
            refine ro_gval (g := (!(decide (x29 < (0 : Int))))) (d := (some 76)) rfl (.no 6 74 true (decide (x29 < (0 : Int))) rfl rfl rfl rfl) rfl (fun hg => q_move (v := .int .i64 (i_12)) rfl rfl) ?_
            obtain ⟨a30, ha30, h⟩ := h
            refine ro_gval (g := (!(decide (x29 < (0 : Int))))) (d := (some 77)) rfl (.no 6 74 true (decide (x29 < (0 : Int))) rfl rfl rfl rfl) rfl (fun hg => q_indexAddr (s := r10) (i := i_12) rfl Try.underlying31 ok37 (gvb_yes hg) (gvb_yes hg) (ha30 hg)) ?_
            refine ro_gval (g := (!(decide (x29 < (0 : Int))))) (d := (some 78)) rfl (.no 6 74 true (decide (x29 < (0 : Int))) rfl rfl rfl rfl) rfl (fun hg => q_fieldAddr (a := a30) (off := 0) rfl Try.underlying37 rfl rfl ok3 (by decide) (gvb_yes hg)) ?_
            obtain ⟨x31, hx31, h⟩ := h
            refine ro_gval (g := (!(decide (x29 < (0 : Int))))) (d := (some 79)) rfl (.no 6 74 true (decide (x29 < (0 : Int))) rfl rfl rfl rfl) rfl (fun hg => q_load (T := (tInt .i64)) (u := x31) (a := (a30.add 0)) rfl ok3 (gvb_yes hg) (hx31 hg)) ?_
            refine ro_gval (g := (!(decide (x29 < (0 : Int))))) (d := (some 80)) rfl (.no 6 74 true (decide (x29 < (0 : Int))) rfl rfl rfl rfl) rfl (fun hg => q_lss (a := x31) (b := (4096 : Int)) rfl (gvb_yes hg) rfl) ?_
            refine ro_gval (g := (!(decide (x29 < (0 : Int))))) (d := (some 81)) rfl (.no 6 74 true (decide (x29 < (0 : Int))) rfl rfl rfl rfl) rfl (fun hg => q_move (v := .bool ((decide (x31 < (4096 : Int))))) rfl (gvb_yes hg)) ?_
            refine ro_gval (g := ((!(decide (x29 < (0 : Int)))) && (decide (x31 < (4096 : Int))))) (d := (some 82)) rfl (.yes 13 81 (!(decide (x29 < (0 : Int)))) (decide (x31 < (4096 : Int))) rfl rfl rfl rfl) rfl (fun hg => q_move (v := tSlc.enc (r10)) rfl rfl) ?_
            refine ro_gval (g := ((!(decide (x29 < (0 : Int)))) && (decide (x31 < (4096 : Int))))) (d := (some 83)) rfl (.yes 13 81 (!(decide (x29 < (0 : Int)))) (decide (x31 < (4096 : Int))) rfl rfl rfl rfl) rfl (fun hg => q_move (v := .int .i64 (i_12)) rfl rfl) ?_
            obtain ⟨a32, ha32, h⟩ := h
            refine ro_gval (g := ((!(decide (x29 < (0 : Int)))) && (decide (x31 < (4096 : Int))))) (d := (some 84)) rfl (.yes 13 81 (!(decide (x29 < (0 : Int)))) (decide (x31 < (4096 : Int))) rfl rfl rfl rfl) rfl (fun hg => q_indexAddr (s := r10) (i := i_12) rfl Try.underlying31 ok37 (gvb_yes hg) (gvb_yes hg) (ha32 hg)) ?_
            refine ro_gval (g := ((!(decide (x29 < (0 : Int)))) && (decide (x31 < (4096 : Int))))) (d := (some 85)) rfl (.yes 13 81 (!(decide (x29 < (0 : Int)))) (decide (x31 < (4096 : Int))) rfl rfl rfl rfl) rfl (fun hg => q_fieldAddr (a := a32) (off := 1) rfl Try.underlying37 rfl rfl ok2 (by decide) (gvb_yes hg)) ?_
            obtain ⟨x33, hx33, h⟩ := h
            refine ro_gval (g := ((!(decide (x29 < (0 : Int)))) && (decide (x31 < (4096 : Int))))) (d := (some 86)) rfl (.yes 13 81 (!(decide (x29 < (0 : Int)))) (decide (x31 < (4096 : Int))) rfl rfl rfl rfl) rfl (fun hg => q_load (T := (tInt .i64)) (u := x33) (a := (a32.add 1)) rfl ok2 (gvb_yes hg) (hx33 hg)) ?_
            refine ro_gval (g := ((!(decide (x29 < (0 : Int)))) && (decide (x31 < (4096 : Int))))) (d := (some 87)) rfl (.yes 13 81 (!(decide (x29 < (0 : Int)))) (decide (x31 < (4096 : Int))) rfl rfl rfl rfl) rfl (fun hg => q_gtr (a := x33) (b := (1000000000000000 : Int)) rfl (gvb_yes hg) rfl) ?_
            refine ro_gval (g := (!(decide (x29 < (0 : Int))))) (d := (some 88)) rfl (.no 6 74 true (decide (x29 < (0 : Int))) rfl rfl rfl rfl) rfl (fun hg => q_pickNT (g0 := (!(decide (x29 < (0 : Int))))) (a := (decide (x31 < (4096 : Int)))) (b := (decide (x33 > (1000000000000000 : Int)))) hg rfl rfl rfl rfl) ?_
            refine ro_val (d := (some 89)) rfl (.free rfl) rfl (q_pickGF (a := (decide (x29 < (0 : Int)))) (c := ((decide (x31 < (4096 : Int))) && (decide (x33 > (1000000000000000 : Int))))) rfl rfl rfl rfl) ?_
            refine ro_val (d := (some 90)) rfl (.free rfl) rfl (q_move (v := .bool (((decide (x29 < (0 : Int))) || ((decide (x31 < (4096 : Int))) && (decide (x33 > (1000000000000000 : Int))))))) rfl rfl) ?_
            refine ro_gval (g := (!((decide (x29 < (0 : Int))) || ((decide (x31 < (4096 : Int))) && (decide (x33 > (1000000000000000 : Int))))))) (d := (some 91)) rfl (.no 22 90 true ((decide (x29 < (0 : Int))) || ((decide (x31 < (4096 : Int))) && (decide (x33 > (1000000000000000 : Int))))) rfl rfl rfl rfl) rfl (fun hg => q_move (v := tSlc.enc (r10)) rfl rfl) ?_
            refine ro_gval (g := (!((decide (x29 < (0 : Int))) || ((decide (x31 < (4096 : Int))) && (decide (x33 > (1000000000000000 : Int))))))) (d := (some 92)) rfl (.no 22 90 true ((decide (x29 < (0 : Int))) || ((decide (x31 < (4096 : Int))) && (decide (x33 > (1000000000000000 : Int))))) rfl rfl rfl rfl) rfl (fun hg => q_move (v := .int .i64 (i_12)) rfl rfl) ?_
            obtain ⟨a34, ha34, h⟩ := h
            refine ro_gval (g := (!((decide (x29 < (0 : Int))) || ((decide (x31 < (4096 : Int))) && (decide (x33 > (1000000000000000 : Int))))))) (d := (some 93)) rfl (.no 22 90 true ((decide (x29 < (0 : Int))) || ((decide (x31 < (4096 : Int))) && (decide (x33 > (1000000000000000 : Int))))) rfl rfl rfl rfl) rfl (fun hg => q_indexAddr (s := r10) (i := i_12) rfl Try.underlying31 ok37 (gvb_yes hg) (gvb_yes hg) (ha34 hg)) ?_
            refine ro_gval (g := (!((decide (x29 < (0 : Int))) || ((decide (x31 < (4096 : Int))) && (decide (x33 > (1000000000000000 : Int))))))) (d := (some 94)) rfl (.no 22 90 true ((decide (x29 < (0 : Int))) || ((decide (x31 < (4096 : Int))) && (decide (x33 > (1000000000000000 : Int))))) rfl rfl rfl rfl) rfl (fun hg => q_fieldAddr (a := a34) (off := 1) rfl Try.underlying37 rfl rfl ok2 (by decide) (gvb_yes hg)) ?_
            obtain ⟨x35, hx35, h⟩ := h
            refine ro_gval (g := (!((decide (x29 < (0 : Int))) || ((decide (x31 < (4096 : Int))) && (decide (x33 > (1000000000000000 : Int))))))) (d := (some 95)) rfl (.no 22 90 true ((decide (x29 < (0 : Int))) || ((decide (x31 < (4096 : Int))) && (decide (x33 > (1000000000000000 : Int))))) rfl rfl rfl rfl) rfl (fun hg => q_load (T := (tInt .i64)) (u := x35) (a := (a34.add 1)) rfl ok2 (gvb_yes hg) (hx35 hg)) ?_
            refine ro_gval (g := (!((decide (x29 < (0 : Int))) || ((decide (x31 < (4096 : Int))) && (decide (x33 > (1000000000000000 : Int))))))) (d := (some 96)) rfl (.no 22 90 true ((decide (x29 < (0 : Int))) || ((decide (x31 < (4096 : Int))) && (decide (x33 > (1000000000000000 : Int))))) rfl rfl rfl rfl) rfl (fun hg => q_gtr (a := x35) (b := (4611686018427387904 : Int)) rfl (gvb_yes hg) rfl) ?_
            refine ro_val (d := (some 97)) rfl (.free rfl) rfl (q_pickGF (a := ((decide (x29 < (0 : Int))) || ((decide (x31 < (4096 : Int))) && (decide (x33 > (1000000000000000 : Int)))))) (c := (decide (x35 > (4611686018427387904 : Int)))) rfl rfl rfl rfl) ?_
            refine ro_nil ?_
            refine wp_if (b := (((decide (x29 < (0 : Int))) || ((decide (x31 < (4096 : Int))) && (decide (x33 > (1000000000000000 : Int))))) || (decide (x35 > (4611686018427387904 : Int))))) rfl h (fun hb41 h => ?_) (fun hb41 h => ?_)
            · refine wp_seq ?_
              refine wp_text [0, 1] rfl ?_
              refine ro_val (d := (some 4)) rfl (.free rfl) rfl (q_assign (v := .int .i64 ((0 : Int))) rfl rfl) ?_
              refine ro_val (d := (some 5)) rfl (.free rfl) rfl (q_assign (v := .int .i64 ((183 : Int))) rfl rfl) ?_
              refine ro_nil ?_
              refine wp_ret ?_
              exact ret_ok rfl (.cons (.tmp (v := .int .i64 ((0 : Int))) rfl) (.cons (.tmp (v := .int .i64 ((183 : Int))) rfl) .nil)) ⟨((0 : Int), (183 : Int)), rfl, h⟩
            · refine wp_skip ?_
              refine wp_seq ?_
              refine wp_seq ?_
              refine wp_text [0, 1, 2, 3, 4, 5, 6] rfl ?_
              refine ro_val (d := (some 98)) rfl (.free rfl) rfl (q_move (v := tSlc.enc (r10)) rfl rfl) ?_
              refine ro_val (d := (some 99)) rfl (.free rfl) rfl (q_move (v := .int .i64 (i_12)) rfl rfl) ?_
              obtain ⟨a36, ha36, h⟩ := h
              refine ro_val (d := (some 100)) rfl (.free rfl) rfl (q_indexAddr (s := r10) (i := i_12) rfl Try.underlying31 ok37 rfl rfl ha36) ?_
              refine ro_val (d := (some 101)) rfl (.free rfl) rfl (q_fieldAddr (a := a36) (off := 1) rfl Try.underlying37 rfl rfl ok2 (by decide) rfl) ?_
              obtain ⟨x37, hx37, h⟩ := h
              refine ro_val (d := (some 102)) rfl (.free rfl) rfl (q_load (T := (tInt .i64)) (u := x37) (a := (a36.add 1)) rfl ok2 rfl hx37) ?_
              refine ro_val (d := (some 103)) rfl (.free rfl) rfl (q_move (v := .int .i64 (left_11)) rfl rfl) ?_
              refine ro_val (d := (some 104)) rfl (.free rfl) rfl (q_gtr (a := x37) (b := left_11) rfl rfl rfl) ?_
              refine ro_nil ?_
              refine wp_if (b := (decide (x37 > left_11))) rfl h (fun hb40 h => ?_) (fun hb40 h => ?_)
              · refine wp_seq ?_
                refine wp_text [0, 1] rfl ?_
                refine ro_val (d := (some 4)) rfl (.free rfl) rfl (q_assign (v := .int .i64 ((0 : Int))) rfl rfl) ?_
                refine ro_val (d := (some 5)) rfl (.free rfl) rfl (q_assign (v := .int .i64 ((184 : Int))) rfl rfl) ?_
                refine ro_nil ?_
                refine wp_ret ?_
                exact ret_ok rfl (.cons (.tmp (v := .int .i64 ((0 : Int))) rfl) (.cons (.tmp (v := .int .i64 ((184 : Int))) rfl) .nil)) ⟨((0 : Int), (184 : Int)), rfl, h⟩
              · refine wp_skip ?_
                refine wp_text [0, 1, 2, 3, 4, 5, 6, 7] rfl ?_
                refine ro_val (d := (some 105)) rfl (.free rfl) rfl (q_move (v := .int .i64 (left_11)) rfl rfl) ?_
                refine ro_val (d := (some 106)) rfl (.free rfl) rfl (q_move (v := tSlc.enc (r10)) rfl rfl) ?_
                refine ro_val (d := (some 107)) rfl (.free rfl) rfl (q_move (v := .int .i64 (i_12)) rfl rfl) ?_
                obtain ⟨a38, ha38, h⟩ := h
                refine ro_val (d := (some 108)) rfl (.free rfl) rfl (q_indexAddr (s := r10) (i := i_12) rfl Try.underlying31 ok37 rfl rfl ha38) ?_
                refine ro_val (d := (some 109)) rfl (.free rfl) rfl (q_fieldAddr (a := a38) (off := 1) rfl Try.underlying37 rfl rfl ok2 (by decide) rfl) ?_
                obtain ⟨x39, hx39, h⟩ := h
                refine ro_val (d := (some 110)) rfl (.free rfl) rfl (q_load (T := (tInt .i64)) (u := x39) (a := (a38.add 1)) rfl ok2 rfl hx39) ?_
                refine ro_val (d := (some 111)) rfl (.free rfl) rfl (q_sub (a := left_11) (b := x39) rfl rfl rfl) ?_
                refine ro_val (d := (some 8)) rfl (.free rfl) rfl (q_assign (v := .int .i64 ((IntKind.i64.wrap (left_11 - x39)))) rfl rfl) ?_
                refine ro_nil ?_
                refine wp_text [0, 1, 2] rfl ?_
                refine ro_val (d := (some 36)) rfl (.free rfl) rfl (q_move (v := .int .i64 (i_12)) rfl rfl) ?_
                refine ro_val (d := (some 37)) rfl (.free rfl) rfl (q_add (a := i_12) (b := (1 : Int)) rfl rfl rfl) ?_
                refine ro_val (d := (some 9)) rfl (.free rfl) rfl (q_assign (v := .int .i64 ((IntKind.i64.wrap (i_12 + (1 : Int))))) rfl rfl) ?_
                refine ro_nil ?_
                exact ⟨((IntKind.i64.wrap (left_11 - x39)), (IntKind.i64.wrap (i_12 + (1 : Int)))), _, arr (upd_step (upd_step (upd_step rfl rfl) rfl) rfl), h⟩
      · refine wp_exit ?_
        refine wp_seq ?_
        refine wp_text [0, 1, 2, 3] rfl ?_
        refine ro_val (d := (some 112)) rfl (.free rfl) rfl (q_move (v := .int .i64 (left_11)) rfl rfl) ?_
        refine ro_val (d := (some 113)) rfl (.free rfl) rfl (q_sub (a := (4611686018427387904 : Int)) (b := left_11) rfl rfl rfl) ?_
        refine ro_val (d := (some 4)) rfl (.free rfl) rfl (q_assign (v := .int .i64 ((IntKind.i64.wrap ((4611686018427387904 : Int) - left_11)))) rfl rfl) ?_
        refine ro_val (d := (some 5)) rfl (.free rfl) rfl (q_assign (v := .int .i64 ((0 : Int))) rfl rfl) ?_
        refine ro_nil ?_
        refine wp_ret ?_
        exact ret_ok rfl (.cons (.tmp (v := .int .i64 ((IntKind.i64.wrap ((4611686018427387904 : Int) - left_11)))) rfl) (.cons (.tmp (v := .int .i64 ((0 : Int))) rfl) .nil)) ⟨((IntKind.i64.wrap ((4611686018427387904 : Int) - left_11)), (0 : Int)), rfl, h⟩

-- moiety/moietylaw17.kept
def F13_j2 (i_3 : Int) (t_6 : Bool) (w7 : World) (K5 : Int → World → Prop) (R : Bool → World → Prop) : Prop :=
  if t_6 = true then (
    R false w7
  ) else (
    K5 ((IntKind.i64.wrap (i_3 + (1 : Int)))) w7
  )
def F13_l1 (l_1 : Slc) (m_2 : Slc) (i_3 : Int) (w4 : World) (K5 : Int → World → Prop) (R : Bool → World → Prop) : Prop :=
  if (decide (i_3 < (m_2.len : Int))) = true then (
    dr w4 fun w9 =>
    ex (IxA l_1 2 i_3) fun a10 =>
    ex (IxA m_2 2 i_3) fun a11 =>
    ex (RdAt (tInt .i64) (a10.add 0) w9) fun x12 =>
    ex (RdAt (tInt .i64) (a11.add 0) w9) fun x13 =>
    if (x12 != x13) = true then (
      F13_j2 i_3 true w9 K5 R
    ) else (
      ex (IxA l_1 2 i_3) fun a15 =>
      ex (IxA m_2 2 i_3) fun a16 =>
      ex (RdAt tSlc (a15.add 1) w9) fun x17 =>
      ex (RdAt tSlc (a16.add 1) w9) fun x18 =>
      cl Try.prog 16 [tSlc.enc (x17), tSlc.enc (x18)] tBool w9 fun r20 w19 =>
      kp ((RdAt (tInt .i64) (a10.add 0) w19) x12) <|
      kp ((RdAt (tInt .i64) (a11.add 0) w19) x13) <|
      F13_j2 i_3 (!r20) w19 K5 R
    )
  ) else (
    R ((l_1.len : Int) == (m_2.len : Int)) w4
  )
def F13 (l_1 : Slc) (m_2 : Slc) (w : World) (R : Bool → World → Prop) : Prop :=
  lp (fun (s : Int) w K => F13_l1 l_1 m_2 s w K R) ((0 : Int)) w
theorem F13_ok {l_1 : Slc} {m_2 : Slc} {w : World} {R : Bool → World → Prop} (h : F13 l_1 m_2 w R) : cl Try.prog 13 [tSlc.enc (l_1), tSlc.enc (m_2)] tBool w R := by
  unfold F13 at h
  refine calls_start 42 Try.func13 rfl rfl (Nat.le_of_ble_eq_true rfl) ?_
  refine wp_seq ?_
  refine wp_text [0] rfl ?_
  refine ro_val (d := (some 4)) rfl (.free rfl) rfl (q_assign (v := .bool (false)) rfl rfl) ?_
  refine ro_nil ?_
  refine wp_seq ?_
  refine wp_seq ?_
  refine wp_text [0] rfl ?_
  refine ro_val (d := (some 5)) rfl (.free rfl) rfl (q_assign (v := .int .i64 ((0 : Int))) rfl rfl) ?_
  refine ro_nil ?_
  refine wp_block ?_
  refine loop_at (σ := Int) (fr := fun g (s : Int) => upd (upd (upd (g) 0 (tSlc.enc (l_1))) 1 (tSlc.enc (m_2))) 5 (.int .i64 (s))) (s0 := ((0 : Int))) (upd_step (upd_step (upd_step rfl rfl) rfl) rfl) h ?_
  rintro i_3 g w4 K5 h
  unfold F13_l1 at h
  refine wp_seq ?_
  refine wp_seq ?_
  refine wp_text [0, 1, 2, 3] rfl ?_
  refine ro_val (d := (some 6)) rfl (.free rfl) rfl (q_move (v := .int .i64 (i_3)) rfl rfl) ?_
  refine ro_val (d := (some 7)) rfl (.free rfl) rfl (q_move (v := tSlc.enc (m_2)) rfl rfl) ?_
  refine ro_val (d := (some 8)) rfl (.free rfl) rfl (q_len (s := m_2) rfl Try.underlying22 rfl) ?_
  refine ro_val (d := (some 9)) rfl (.free rfl) rfl (q_lss (a := i_3) (b := (m_2.len : Int)) rfl rfl rfl) ?_
  refine ro_nil ?_
  refine wp_if (b := (decide (i_3 < (m_2.len : Int)))) rfl h (fun hb23 h => ?_) (fun hb23 h => ?_)
  · refine wp_skip ?_
    refine wp_seq ?_
    refine wp_block ?_
    refine seq_join (σ := Bool) (J := fun (s : Bool) w => F13_j2 i_3 s w K5 R) (fr := fun g (s : Bool) => upd (upd (upd (upd (g) 0 (tSlc.enc (l_1))) 1 (tSlc.enc (m_2))) 5 (.int .i64 (i_3))) 36 (.bool (s))) ?_ ?_
    · rintro t_6 g w7 h
      unfold F13_j2 at h
      refine wp_if (b := t_6) rfl h (fun hb8 h => ?_) (fun hb8 h => ?_)
      · refine wp_seq ?_
        refine wp_text [0] rfl ?_
        refine ro_val (d := (some 4)) rfl (.free rfl) rfl (q_assign (v := .bool (false)) rfl rfl) ?_
        refine ro_nil ?_
        refine wp_ret ?_
        exact ret_ok rfl (.cons (.tmp (v := .bool (false)) rfl) .nil) ⟨false, rfl, h⟩
      · refine wp_skip ?_
        refine wp_text [0, 1, 2] rfl ?_
        refine ro_val (d := (some 10)) rfl (.free rfl) rfl (q_move (v := .int .i64 (i_3)) rfl rfl) ?_
        refine ro_val (d := (some 11)) rfl (.free rfl) rfl (q_add (a := i_3) (b := (1 : Int)) rfl rfl rfl) ?_
        refine ro_val (d := (some 5)) rfl (.free rfl) rfl (q_assign (v := .int .i64 ((IntKind.i64.wrap (i_3 + (1 : Int))))) rfl rfl) ?_
        refine ro_nil ?_
        exact ⟨((IntKind.i64.wrap (i_3 + (1 : Int)))), _, arr (upd_step (upd_step (upd_step rfl rfl) rfl) rfl), h⟩
    · obtain ⟨w9, hw9, h⟩ := dr_open h
      refine wp_drawn 25 mixed rfl (by kernel_rfl) (by intro c a d v w h; cases d <;> exact h) hw9 (fun hD => ?_)
      refine rd_pure (i := 0) (d := (some 12)) hD (by kernel_rfl) (by kernel_rfl) rfl (.free rfl) rfl (fun _ => q_move (v := tSlc.enc (l_1)) rfl rfl) ?_
      refine rd_pure (i := 1) (d := (some 13)) hD (by kernel_rfl) (by kernel_rfl) rfl (.free rfl) rfl (fun _ => q_move (v := .int .i64 (i_3)) rfl rfl) ?_
      obtain ⟨a10, ha10, h⟩ := h
      refine rd_pure (i := 2) (d := (some 14)) hD (by kernel_rfl) (by kernel_rfl) rfl (.free rfl) rfl (fun _ => q_indexAddr (s := l_1) (i := i_3) rfl Try.underlying22 ok39 rfl rfl ha10) ?_
      refine rd_pure (i := 3) (d := (some 15)) hD (by kernel_rfl) (by kernel_rfl) rfl (.free rfl) rfl (fun _ => q_fieldAddr (a := a10) (off := 0) rfl Try.underlying39 rfl rfl ok2 (by decide) rfl) ?_
      refine rd_pure (i := 5) (d := (some 17)) hD (by kernel_rfl) (by kernel_rfl) rfl (.free rfl) rfl (fun _ => q_move (v := tSlc.enc (m_2)) rfl rfl) ?_
      refine rd_pure (i := 6) (d := (some 18)) hD (by kernel_rfl) (by kernel_rfl) rfl (.free rfl) rfl (fun _ => q_move (v := .int .i64 (i_3)) rfl rfl) ?_
      obtain ⟨a11, ha11, h⟩ := h
      refine rd_pure (i := 7) (d := (some 19)) hD (by kernel_rfl) (by kernel_rfl) rfl (.free rfl) rfl (fun _ => q_indexAddr (s := m_2) (i := i_3) rfl Try.underlying22 ok39 rfl rfl ha11) ?_
      refine rd_pure (i := 8) (d := (some 20)) hD (by kernel_rfl) (by kernel_rfl) rfl (.free rfl) rfl (fun _ => q_fieldAddr (a := a11) (off := 0) rfl Try.underlying39 rfl rfl ok2 (by decide) rfl) ?_
      obtain ⟨x12, hx12, h⟩ := h
      refine rd_read (i := 4) (d := (some 16)) (fun W => (RdAt (tInt .i64) (a10.add 0) W) x12) hD (by kernel_rfl) (by kernel_rfl) rfl (.free rfl) rfl (fun W hr => q_load (T := (tInt .i64)) (u := x12) (a := (a10.add 0)) rfl ok2 rfl hr) hx12 ?_
      obtain ⟨x13, hx13, h⟩ := h
      refine rd_read (i := 9) (d := (some 21)) (fun W => (RdAt (tInt .i64) (a11.add 0) W) x13) hD (by kernel_rfl) (by kernel_rfl) rfl (.free rfl) rfl (fun W hr => q_load (T := (tInt .i64)) (u := x13) (a := (a11.add 0)) rfl ok2 rfl hr) hx13 ?_
      refine rd_pure (i := 10) (d := (some 22)) hD (by kernel_rfl) (by kernel_rfl) rfl (.free rfl) rfl (fun _ => q_neq (a := x12) (b := x13) rfl rfl rfl) ?_
      refine rd_pure (i := 11) (d := (some 23)) hD (by kernel_rfl) (by kernel_rfl) rfl (.free rfl) rfl (fun _ => q_move (v := .bool ((x12 != x13))) rfl rfl) ?_
      refine ro_if (b := (x12 != x13)) h (fun hb14 h => ?_) (fun hb14 h => ?_)
      · refine rd_bar (i := 12) (d := (some 24)) hD (by kernel_rfl) (by kernel_rfl) rfl (.by_ 11 false 23 (x12 != x13) rfl rfl rfl hb14) rfl ?_
        refine rd_bar (i := 13) (d := (some 25)) hD (by kernel_rfl) (by kernel_rfl) rfl (.by_ 11 false 23 (x12 != x13) rfl rfl rfl hb14) rfl ?_
        refine rd_bar (i := 14) (d := (some 26)) hD (by kernel_rfl) (by kernel_rfl) rfl (.by_ 11 false 23 (x12 != x13) rfl rfl rfl hb14) rfl ?_
        refine rd_bar (i := 15) (d := (some 27)) hD (by kernel_rfl) (by kernel_rfl) rfl (.by_ 11 false 23 (x12 != x13) rfl rfl rfl hb14) rfl ?_
        refine rd_bar (i := 17) (d := (some 29)) hD (by kernel_rfl) (by kernel_rfl) rfl (.by_ 11 false 23 (x12 != x13) rfl rfl rfl hb14) rfl ?_
        refine rd_bar (i := 18) (d := (some 30)) hD (by kernel_rfl) (by kernel_rfl) rfl (.by_ 11 false 23 (x12 != x13) rfl rfl rfl hb14) rfl ?_
        refine rd_bar (i := 19) (d := (some 31)) hD (by kernel_rfl) (by kernel_rfl) rfl (.by_ 11 false 23 (x12 != x13) rfl rfl rfl hb14) rfl ?_
        refine rd_bar (i := 20) (d := (some 32)) hD (by kernel_rfl) (by kernel_rfl) rfl (.by_ 11 false 23 (x12 != x13) rfl rfl rfl hb14) rfl ?_
        refine rd_bar (i := 16) (d := (some 28)) hD (by kernel_rfl) (by kernel_rfl) rfl (.by_ 11 false 23 (x12 != x13) rfl rfl rfl hb14) rfl ?_
        refine rd_bar (i := 21) (d := (some 33)) hD (by kernel_rfl) (by kernel_rfl) rfl (.by_ 11 false 23 (x12 != x13) rfl rfl rfl hb14) rfl ?_
        refine rd_one (i := 22) (by kernel_rfl) ?_
        refine po_bar (d := (some 34)) rfl (.by_ 11 false 23 (x12 != x13) rfl rfl rfl hb14) rfl ⟨fun _ _ _ h => h, ?_⟩
        refine rd_bar (i := 23) (d := (some 35)) hD (by kernel_rfl) (by kernel_rfl) rfl (.by_ 11 false 23 (x12 != x13) rfl rfl rfl hb14) rfl ?_
        refine rd_pure (i := 24) (d := (some 36)) hD (by kernel_rfl) (by kernel_rfl) rfl (.free rfl) rfl (fun _ => q_pickT (v := .bool (true)) (b := (x12 != x13)) rfl rfl hb14 rfl) ?_
        refine rd_nil (by kernel_rfl) ?_
        exact ⟨(true), _, arr (upd_step (upd_step (upd_step (upd_step rfl rfl) rfl) rfl) rfl), h⟩
      · refine rd_pure (i := 12) (d := (some 24)) hD (by kernel_rfl) (by kernel_rfl) rfl (.by_ 11 false 23 (x12 != x13) rfl rfl rfl hb14) rfl (fun _ => q_move (v := tSlc.enc (l_1)) rfl rfl) ?_
        refine rd_pure (i := 13) (d := (some 25)) hD (by kernel_rfl) (by kernel_rfl) rfl (.by_ 11 false 23 (x12 != x13) rfl rfl rfl hb14) rfl (fun _ => q_move (v := .int .i64 (i_3)) rfl rfl) ?_
        obtain ⟨a15, ha15, h⟩ := h
        refine rd_pure (i := 14) (d := (some 26)) hD (by kernel_rfl) (by kernel_rfl) rfl (.by_ 11 false 23 (x12 != x13) rfl rfl rfl hb14) rfl (fun _ => q_indexAddr (s := l_1) (i := i_3) rfl Try.underlying22 ok39 rfl rfl ha15) ?_
        refine rd_pure (i := 15) (d := (some 27)) hD (by kernel_rfl) (by kernel_rfl) rfl (.by_ 11 false 23 (x12 != x13) rfl rfl rfl hb14) rfl (fun _ => q_fieldAddr (a := a15) (off := 1) rfl Try.underlying39 rfl rfl ok31 (by decide) rfl) ?_
        refine rd_pure (i := 17) (d := (some 29)) hD (by kernel_rfl) (by kernel_rfl) rfl (.by_ 11 false 23 (x12 != x13) rfl rfl rfl hb14) rfl (fun _ => q_move (v := tSlc.enc (m_2)) rfl rfl) ?_
        refine rd_pure (i := 18) (d := (some 30)) hD (by kernel_rfl) (by kernel_rfl) rfl (.by_ 11 false 23 (x12 != x13) rfl rfl rfl hb14) rfl (fun _ => q_move (v := .int .i64 (i_3)) rfl rfl) ?_
        obtain ⟨a16, ha16, h⟩ := h
        refine rd_pure (i := 19) (d := (some 31)) hD (by kernel_rfl) (by kernel_rfl) rfl (.by_ 11 false 23 (x12 != x13) rfl rfl rfl hb14) rfl (fun _ => q_indexAddr (s := m_2) (i := i_3) rfl Try.underlying22 ok39 rfl rfl ha16) ?_
        refine rd_pure (i := 20) (d := (some 32)) hD (by kernel_rfl) (by kernel_rfl) rfl (.by_ 11 false 23 (x12 != x13) rfl rfl rfl hb14) rfl (fun _ => q_fieldAddr (a := a16) (off := 1) rfl Try.underlying39 rfl rfl ok31 (by decide) rfl) ?_
        obtain ⟨x17, hx17, h⟩ := h
        refine rd_read (i := 16) (d := (some 28)) (fun W => (RdAt tSlc (a15.add 1) W) x17) hD (by kernel_rfl) (by kernel_rfl) rfl (.by_ 11 false 23 (x12 != x13) rfl rfl rfl hb14) rfl (fun W hr => q_load (T := tSlc) (u := x17) (a := (a15.add 1)) rfl ok31 rfl hr) hx17 ?_
        obtain ⟨x18, hx18, h⟩ := h
        refine rd_read (i := 21) (d := (some 33)) (fun W => (RdAt tSlc (a16.add 1) W) x18) hD (by kernel_rfl) (by kernel_rfl) rfl (.by_ 11 false 23 (x12 != x13) rfl rfl rfl hb14) rfl (fun W hr => q_load (T := tSlc) (u := x18) (a := (a16.add 1)) rfl ok31 rfl hr) hx18 ?_
        refine rd_one (i := 22) (by kernel_rfl) ?_
        refine po_wp rfl (.by_ 11 false 23 (x12 != x13) rfl rfl rfl hb14) (wp_cl (d := (some 34)) rfl (q_call (k := 16) (l := [tSlc.enc (x17), tSlc.enc (x18)]) rfl ent16 rfl) h ?_)
        intro r20 w19 h
        obtain ⟨hk21, h⟩ := h
        obtain ⟨hk22, h⟩ := h
        refine ⟨(hk_wait (by kernel_rfl) (hk_wait (by kernel_rfl) (hk_keep (fun _ => hk22) (hk_keep (fun _ => hk21) hk_nil)))), ?_⟩
        refine rd_pure (i := 23) (d := (some 35)) hD (by kernel_rfl) (by kernel_rfl) rfl (.by_ 11 false 23 (x12 != x13) rfl rfl rfl hb14) rfl (fun _ => q_not (b := r20) rfl rfl) ?_
        refine rd_pure (i := 24) (d := (some 36)) hD (by kernel_rfl) (by kernel_rfl) rfl (.free rfl) rfl (fun _ => q_pickF (v := .bool ((!r20))) (b := (x12 != x13)) rfl rfl hb14 rfl) ?_
        refine rd_nil (by kernel_rfl) ?_
        exact ⟨((!r20)), _, arr (upd_step (upd_step (upd_step (upd_step rfl rfl) rfl) rfl) rfl), h⟩
  · refine wp_exit ?_
    refine wp_seq ?_
    refine wp_text [0, 1, 2, 3, 4, 5] rfl ?_
    refine ro_val (d := (some 37)) rfl (.free rfl) rfl (q_move (v := tSlc.enc (l_1)) rfl rfl) ?_
    refine ro_val (d := (some 38)) rfl (.free rfl) rfl (q_len (s := l_1) rfl Try.underlying22 rfl) ?_
    refine ro_val (d := (some 39)) rfl (.free rfl) rfl (q_move (v := tSlc.enc (m_2)) rfl rfl) ?_
    refine ro_val (d := (some 40)) rfl (.free rfl) rfl (q_len (s := m_2) rfl Try.underlying22 rfl) ?_
    refine ro_val (d := (some 41)) rfl (.free rfl) rfl (q_eql (a := (l_1.len : Int)) (b := (m_2.len : Int)) rfl rfl rfl) ?_
    refine ro_val (d := (some 4)) rfl (.free rfl) rfl (q_assign (v := .bool (((l_1.len : Int) == (m_2.len : Int)))) rfl rfl) ?_
    refine ro_nil ?_
    refine wp_ret ?_
    exact ret_ok rfl (.cons (.tmp (v := .bool (((l_1.len : Int) == (m_2.len : Int)))) rfl) .nil) ⟨((l_1.len : Int) == (m_2.len : Int)), rfl, h⟩

-- moiety/audit.Merge
def F14 (at_1 : Int) (l_2 : Slc) (w : World) (R : (Slc × Int) → World → Prop) : Prop :=
  cl Try.prog 20 [.int .i64 (at_1), tSlc.enc (l_2)] (tTup3 tMap (tInt .i64) (tInt .i64)) w fun r4 w3 =>
  if (r4.2.2 != (0 : Int)) = true then (
    R ((⟨none, 0, 0⟩ : Slc), r4.2.2) w3
  ) else (
    cl Try.prog 22 [.map (r4.1)] tSlc w3 fun r6 w5 =>
    R (r6, (0 : Int)) w5
  )
theorem F14_ok {at_1 : Int} {l_2 : Slc} {w : World} {R : (Slc × Int) → World → Prop} (h : F14 at_1 l_2 w R) : cl Try.prog 14 [.int .i64 (at_1), tSlc.enc (l_2)] (tTup2 tSlc (tInt .i64)) w R := by
  unfold F14 at h
  refine calls_start 21 Try.func14 rfl rfl (Nat.le_of_ble_eq_true rfl) ?_
  refine wp_seq ?_
  refine wp_text [0, 1] rfl ?_
  refine ro_val (d := (some 4)) rfl (.free rfl) rfl (q_assign (v := tSlc.enc ((⟨none, 0, 0⟩ : Slc))) rfl rfl) ?_
  refine ro_val (d := (some 5)) rfl (.free rfl) rfl (q_assign (v := .int .i64 ((0 : Int))) rfl rfl) ?_
  refine ro_nil ?_
  refine wp_seq ?_
  refine wp_text [0, 1, 2, 3, 4, 5, 6, 7, 8, 9] rfl ?_
  refine ro_val (d := (some 10)) rfl (.free rfl) rfl (q_move (v := .int .i64 (at_1)) rfl rfl) ?_
  refine ro_val (d := (some 11)) rfl (.free rfl) rfl (q_move (v := tSlc.enc (l_2)) rfl rfl) ?_
  refine ro_wp rfl (.free rfl) (wp_cl (d := (some 12)) rfl (q_call (k := 20) (l := [.int .i64 (at_1), tSlc.enc (l_2)]) rfl ent20 rfl) h ?_)
  intro r4 w3 h
  refine ro_val (d := (some 9)) rfl (.free rfl) rfl (q_move (v := (tTup3 tMap (tInt .i64) (tInt .i64)).enc (r4)) rfl rfl) ?_
  refine ro_val (d := (some 13)) rfl (.free rfl) rfl (q_extract (vs := #[.map (r4.1), .int .i64 (r4.2.1), .int .i64 (r4.2.2)]) (v := .map (r4.1)) rfl rfl rfl) ?_
  refine ro_val (d := (some 14)) rfl (.free rfl) rfl (q_extract (vs := #[.map (r4.1), .int .i64 (r4.2.1), .int .i64 (r4.2.2)]) (v := .int .i64 (r4.2.1)) rfl rfl rfl) ?_
  refine ro_val (d := (some 15)) rfl (.free rfl) rfl (q_extract (vs := #[.map (r4.1), .int .i64 (r4.2.1), .int .i64 (r4.2.2)]) (v := .int .i64 (r4.2.2)) rfl rfl rfl) ?_
  refine ro_val (d := (some 6)) rfl (.free rfl) rfl (q_assign (v := .map (r4.1)) rfl rfl) ?_
  refine ro_val (d := (some 7)) rfl (.free rfl) rfl (q_assign (v := .int .i64 (r4.2.1)) rfl rfl) ?_
  refine ro_val (d := (some 8)) rfl (.free rfl) rfl (q_assign (v := .int .i64 (r4.2.2)) rfl rfl) ?_
  refine ro_nil ?_
  refine wp_seq ?_
  refine wp_seq ?_
  refine wp_text [0, 1] rfl ?_
  refine ro_val (d := (some 16)) rfl (.free rfl) rfl (q_move (v := .int .i64 (r4.2.2)) rfl rfl) ?_
  refine ro_val (d := (some 17)) rfl (.free rfl) rfl (q_neq (a := r4.2.2) (b := (0 : Int)) rfl rfl rfl) ?_
  refine ro_nil ?_
  refine wp_if (b := (r4.2.2 != (0 : Int))) rfl h (fun hb7 h => ?_) (fun hb7 h => ?_)
  · refine wp_seq ?_
    refine wp_text [0, 1, 2] rfl ?_
    refine ro_val (d := (some 18)) rfl (.free rfl) rfl (q_move (v := .int .i64 (r4.2.2)) rfl rfl) ?_
    refine ro_val (d := (some 4)) rfl (.free rfl) rfl (q_assign (v := tSlc.enc ((⟨none, 0, 0⟩ : Slc))) rfl rfl) ?_
    refine ro_val (d := (some 5)) rfl (.free rfl) rfl (q_assign (v := .int .i64 (r4.2.2)) rfl rfl) ?_
    refine ro_nil ?_
    refine wp_ret ?_
    exact ret_ok rfl (.cons (.tmp (v := tSlc.enc ((⟨none, 0, 0⟩ : Slc))) rfl) (.cons (.tmp (v := .int .i64 (r4.2.2)) rfl) .nil)) ⟨((⟨none, 0, 0⟩ : Slc), r4.2.2), rfl, h⟩
  · refine wp_skip ?_
    refine wp_seq ?_
    refine wp_text [0, 1, 2, 3] rfl ?_
    refine ro_val (d := (some 19)) rfl (.free rfl) rfl (q_move (v := .map (r4.1)) rfl rfl) ?_
    refine ro_wp rfl (.free rfl) (wp_cl (d := (some 20)) rfl (q_call (k := 22) (l := [.map (r4.1)]) rfl ent22 rfl) h ?_)
    intro r6 w5 h
    refine ro_val (d := (some 4)) rfl (.free rfl) rfl (q_assign (v := tSlc.enc (r6)) rfl rfl) ?_
    refine ro_val (d := (some 5)) rfl (.free rfl) rfl (q_assign (v := .int .i64 ((0 : Int))) rfl rfl) ?_
    refine ro_nil ?_
    refine wp_ret ?_
    exact ret_ok rfl (.cons (.tmp (v := tSlc.enc (r6)) rfl) (.cons (.tmp (v := .int .i64 ((0 : Int))) rfl) .nil)) ⟨(r6, (0 : Int)), rfl, h⟩

-- moiety/moietyref17.Merge
def F15 (at_1 : Int) (l_2 : Slc) (w : World) (R : (Slc × Int) → World → Prop) : Prop :=
  cl Try.prog 12 [.int .i64 (at_1), tSlc.enc (l_2)] (tTup2 (tInt .i64) (tInt .i64)) w fun r4 w3 =>
  if (r4.2 != (0 : Int)) = true then (
    R ((⟨none, 0, 0⟩ : Slc), r4.2) w3
  ) else (
    cl Try.prog 21 [tSlc.enc (l_2)] tSlc w3 fun r6 w5 =>
    cl Try.prog 23 [tSlc.enc (r6)] tSlc w5 fun r8 w7 =>
    R (r8, (0 : Int)) w7
  )
theorem F15_ok {at_1 : Int} {l_2 : Slc} {w : World} {R : (Slc × Int) → World → Prop} (h : F15 at_1 l_2 w R) : cl Try.prog 15 [.int .i64 (at_1), tSlc.enc (l_2)] (tTup2 tSlc (tInt .i64)) w R := by
  unfold F15 at h
  refine calls_start 20 Try.func15 rfl rfl (Nat.le_of_ble_eq_true rfl) ?_
  refine wp_seq ?_
  refine wp_text [0, 1] rfl ?_
  refine ro_val (d := (some 4)) rfl (.free rfl) rfl (q_assign (v := tSlc.enc ((⟨none, 0, 0⟩ : Slc))) rfl rfl) ?_
  refine ro_val (d := (some 5)) rfl (.free rfl) rfl (q_assign (v := .int .i64 ((0 : Int))) rfl rfl) ?_
  refine ro_nil ?_
  refine wp_seq ?_
  refine wp_seq ?_
  refine wp_text [0, 1, 2, 3, 4, 5, 6, 7] rfl ?_
  refine ro_val (d := (some 9)) rfl (.free rfl) rfl (q_move (v := .int .i64 (at_1)) rfl rfl) ?_
  refine ro_val (d := (some 10)) rfl (.free rfl) rfl (q_move (v := tSlc.enc (l_2)) rfl rfl) ?_
  refine ro_wp rfl (.free rfl) (wp_cl (d := (some 11)) rfl (q_call (k := 12) (l := [.int .i64 (at_1), tSlc.enc (l_2)]) rfl ent12 rfl) h ?_)
  intro r4 w3 h
  refine ro_val (d := (some 8)) rfl (.free rfl) rfl (q_move (v := (tTup2 (tInt .i64) (tInt .i64)).enc (r4)) rfl rfl) ?_
  refine ro_val (d := (some 12)) rfl (.free rfl) rfl (q_extract (vs := #[.int .i64 (r4.1), .int .i64 (r4.2)]) (v := .int .i64 (r4.1)) rfl rfl rfl) ?_
  refine ro_val (d := (some 13)) rfl (.free rfl) rfl (q_extract (vs := #[.int .i64 (r4.1), .int .i64 (r4.2)]) (v := .int .i64 (r4.2)) rfl rfl rfl) ?_
  refine ro_val (d := (some 6)) rfl (.free rfl) rfl (q_assign (v := .int .i64 (r4.1)) rfl rfl) ?_
  refine ro_val (d := (some 7)) rfl (.free rfl) rfl (q_assign (v := .int .i64 (r4.2)) rfl rfl) ?_
  refine ro_nil ?_
  refine wp_seq ?_
  refine wp_text [0, 1] rfl ?_
  refine ro_val (d := (some 14)) rfl (.free rfl) rfl (q_move (v := .int .i64 (r4.2)) rfl rfl) ?_
  refine ro_val (d := (some 15)) rfl (.free rfl) rfl (q_neq (a := r4.2) (b := (0 : Int)) rfl rfl rfl) ?_
  refine ro_nil ?_
  refine wp_if (b := (r4.2 != (0 : Int))) rfl h (fun hb9 h => ?_) (fun hb9 h => ?_)
  · refine wp_seq ?_
    refine wp_text [0, 1, 2] rfl ?_
    refine ro_val (d := (some 16)) rfl (.free rfl) rfl (q_move (v := .int .i64 (r4.2)) rfl rfl) ?_
    refine ro_val (d := (some 4)) rfl (.free rfl) rfl (q_assign (v := tSlc.enc ((⟨none, 0, 0⟩ : Slc))) rfl rfl) ?_
    refine ro_val (d := (some 5)) rfl (.free rfl) rfl (q_assign (v := .int .i64 (r4.2)) rfl rfl) ?_
    refine ro_nil ?_
    refine wp_ret ?_
    exact ret_ok rfl (.cons (.tmp (v := tSlc.enc ((⟨none, 0, 0⟩ : Slc))) rfl) (.cons (.tmp (v := .int .i64 (r4.2)) rfl) .nil)) ⟨((⟨none, 0, 0⟩ : Slc), r4.2), rfl, h⟩
  · refine wp_skip ?_
    refine wp_seq ?_
    refine wp_text [0, 1, 2, 3, 4] rfl ?_
    refine ro_val (d := (some 17)) rfl (.free rfl) rfl (q_move (v := tSlc.enc (l_2)) rfl rfl) ?_
    refine ro_wp rfl (.free rfl) (wp_cl (d := (some 18)) rfl (q_call (k := 21) (l := [tSlc.enc (l_2)]) rfl ent21 rfl) h ?_)
    intro r6 w5 h
    refine ro_wp rfl (.free rfl) (wp_cl (d := (some 19)) rfl (q_call (k := 23) (l := [tSlc.enc (r6)]) rfl ent23 rfl) h ?_)
    intro r8 w7 h
    refine ro_val (d := (some 4)) rfl (.free rfl) rfl (q_assign (v := tSlc.enc (r8)) rfl rfl) ?_
    refine ro_val (d := (some 5)) rfl (.free rfl) rfl (q_assign (v := .int .i64 ((0 : Int))) rfl rfl) ?_
    refine ro_nil ?_
    refine wp_ret ?_
    exact ret_ok rfl (.cons (.tmp (v := tSlc.enc (r8)) rfl) (.cons (.tmp (v := .int .i64 ((0 : Int))) rfl) .nil)) ⟨(r8, (0 : Int)), rfl, h⟩

end Go.Proofs.Ytleehieomicicaa.Cf
