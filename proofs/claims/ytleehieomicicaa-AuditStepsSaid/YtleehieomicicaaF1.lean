/- Characteristic formulae of Go functions, and that they are. Printed by gen.py (own tool). -/
import Derived.Test.YtleehieomicicaaTy
namespace Go.Proofs.Ytleehieomicicaa.Cf
open Go
set_option maxRecDepth 100000
set_option maxHeartbeats 1000000
set_option linter.unusedVariables false
set_option linter.unusedSimpArgs false

-- moiety/moietylaw17.AuditSums
def F6_j3 (r9 : (Int × Int)) (r47 : (Int × Int)) (t_48 : Bool) (w49 : World) (R : Bool → World → Prop) : Prop :=
  R ((t_48 && (r47.2 == (0 : Int))) && (r47.1 == r9.1)) w49
def F6_l2 (at_1 : Int) (turn_3 : Int) (r5 : (Slc × Bool)) (r9 : (Int × Int)) (r11 : (Slc × Int)) (sum_16 : Int) (many_28 : Int) (i_29 : Int) (w30 : World) (K31 : Int × Int → World → Prop) (R : Bool → World → Prop) : Prop :=
  if (decide (i_29 < (r5.1.len : Int))) = true then (
    ex (IxA r5.1 2 i_29) fun a32 =>
    ex (RdAt tSlc (a32.add 1) w30) fun x33 =>
    K31 ((IntKind.i64.wrap (many_28 + (x33.len : Int))), (IntKind.i64.wrap (i_29 + (1 : Int)))) w30
  ) else (
    ex (Div0 (r5.1.len : Int) (Int.tmod (IntKind.i64.wrap turn_3) (r5.1.len : Int))) fun d34 =>
    dr w30 fun w35 =>
    ex (Sub r5.1 2 d34 ((r5.1).len : Int) ((r5.1).cap : Int)) fun s36 =>
    ex (Sub r5.1 2 0 d34 ((r5.1).cap : Int)) fun s37 =>
    nwS 39 T38 ([] : List S38) w35 fun a38 w39 =>
    apd 39 T38 2 32 (⟨some a38, 0, 0⟩ : Slc) s36 w39 fun r41 w40 =>
    apd 39 T38 2 32 r41 s37 w40 fun r43 w42 =>
    cl Try.prog 14 [.int .i64 (at_1), tSlc.enc (r43)] (tTup2 tSlc (tInt .i64)) w42 fun r45 w44 =>
    cl Try.prog 11 [.int .i64 (at_1), tSlc.enc (r43)] (tTup2 (tInt .i64) (tInt .i64)) w44 fun r47 w46 =>
    if (((sum_16 == r9.1) && (many_28 == (r11.1.len : Int))) && (r45.2 == (0 : Int))) = true then (
      cl Try.prog 16 [tSlc.enc (r11.1), tSlc.enc (r45.1)] tBool w46 fun r52 w51 =>
      F6_j3 r9 r47 r52 w51 R
    ) else (
      F6_j3 r9 r47 false w46 R
    )
  )
def F6_l1 (at_1 : Int) (turn_3 : Int) (r5 : (Slc × Bool)) (r9 : (Int × Int)) (r11 : (Slc × Int)) (sum_16 : Int) (i_17 : Int) (w18 : World) (K19 : Int × Int → World → Prop) (R : Bool → World → Prop) : Prop :=
  if (decide (i_17 < (r11.1.len : Int))) = true then (
    dr w18 fun w20 =>
    ex (fun x => (decide (i_17 > (0 : Int))) = true → (IxA r11.1 2 (IntKind.i64.wrap (i_17 - (1 : Int)))) x) fun a21 =>
    ex (fun x => (decide (i_17 > (0 : Int))) = true → (IxA r11.1 2 i_17) x) fun a22 =>
    ex (fun x => (decide (i_17 > (0 : Int))) = true → (RdAt (tInt .i64) (a21.add 0) w20) x) fun x23 =>
    ex (fun x => (decide (i_17 > (0 : Int))) = true → (RdAt (tInt .i64) (a22.add 0) w20) x) fun x24 =>
    if ((decide (i_17 > (0 : Int))) && (decide (x23 ≥ x24))) = true then (
      R false w20
    ) else (
      ex (IxA r11.1 2 i_17) fun a25 =>
      ex (RdAt (tInt .i64) (a25.add 1) w20) fun x26 =>
      K19 ((IntKind.i64.wrap (sum_16 + x26)), (IntKind.i64.wrap (i_17 + (1 : Int)))) w20
    )
  ) else (
    lp (fun (s : Int × Int) w K => F6_l2 at_1 turn_3 r5 r9 r11 sum_16 s.1 s.2 w K R) ((0 : Int), (0 : Int)) w18
  )
def F6 (at_1 : Int) (l_2 : Slc) (turn_3 : Int) (w : World) (R : Bool → World → Prop) : Prop :=
  cl Try.prog 9 [tSlc.enc (l_2)] (tTup2 tSlc tBool) w fun r5 w4 =>
  if ((!r5.2) || ((r5.1.len : Int) == (0 : Int))) = true then (
    cl Try.prog 10 [] tBool w4 fun r7 w6 =>
    R r7 w6
  ) else (
    cl Try.prog 11 [.int .i64 (at_1), tSlc.enc (r5.1)] (tTup2 (tInt .i64) (tInt .i64)) w4 fun r9 w8 =>
    cl Try.prog 14 [.int .i64 (at_1), tSlc.enc (r5.1)] (tTup2 tSlc (tInt .i64)) w8 fun r11 w10 =>
    cl Try.prog 10 [] tBool w10 fun r13 w12 =>
    if (((!r13) || (r9.2 != r11.2)) || (r9.2 != (0 : Int))) = true then (
      cl Try.prog 10 [] tBool w12 fun r15 w14 =>
      R (((r15 && (r9.2 == r11.2)) && (r9.1 == (0 : Int))) && ((r11.1.len : Int) == (0 : Int))) w14
    ) else (
      lp (fun (s : Int × Int) w K => F6_l1 at_1 turn_3 r5 r9 r11 s.1 s.2 w K R) ((0 : Int), (0 : Int)) w12
    )
  )
theorem F6_ok {at_1 : Int} {l_2 : Slc} {turn_3 : Int} {w : World} {R : Bool → World → Prop} (h : F6 at_1 l_2 turn_3 w R) : cl Try.prog 6 [.int .i64 (at_1), tSlc.enc (l_2), .int .u8 (turn_3)] tBool w R := by
  unfold F6 at h
  refine calls_start 170 Try.func6 rfl rfl (Nat.le_of_ble_eq_true rfl) ?_
  refine wp_seq ?_
  refine wp_text [0] rfl ?_
  refine ro_val (d := (some 6)) rfl (.free rfl) rfl (q_assign (v := .bool (false)) rfl rfl) ?_
  refine ro_nil ?_
  refine wp_seq ?_
  refine wp_text [0, 1, 2, 3, 4, 5, 6] rfl ?_
  refine ro_val (d := (some 24)) rfl (.free rfl) rfl (q_move (v := tSlc.enc (l_2)) rfl rfl) ?_
  refine ro_wp rfl (.free rfl) (wp_cl (d := (some 25)) rfl (q_call (k := 9) (l := [tSlc.enc (l_2)]) rfl ent9 rfl) h ?_)
  intro r5 w4 h
  refine ro_val (d := (some 23)) rfl (.free rfl) rfl (q_move (v := (tTup2 tSlc tBool).enc (r5)) rfl rfl) ?_
  refine ro_val (d := (some 26)) rfl (.free rfl) rfl (q_extract (vs := #[tSlc.enc (r5.1), .bool (r5.2)]) (v := tSlc.enc (r5.1)) rfl rfl rfl) ?_
  refine ro_val (d := (some 27)) rfl (.free rfl) rfl (q_extract (vs := #[tSlc.enc (r5.1), .bool (r5.2)]) (v := .bool (r5.2)) rfl rfl rfl) ?_
  refine ro_val (d := (some 7)) rfl (.free rfl) rfl (q_assign (v := tSlc.enc (r5.1)) rfl rfl) ?_
  refine ro_val (d := (some 8)) rfl (.free rfl) rfl (q_assign (v := .bool (r5.2)) rfl rfl) ?_
  refine ro_nil ?_
  refine wp_seq ?_
  refine wp_seq ?_
  refine wp_text [0, 1, 2, 3, 4, 5, 6] rfl ?_
  refine ro_val (d := (some 28)) rfl (.free rfl) rfl (q_move (v := .bool (r5.2)) rfl rfl) ?_
  refine ro_val (d := (some 29)) rfl (.free rfl) rfl (q_not (b := r5.2) rfl rfl) ?_
  refine ro_val (d := (some 30)) rfl (.free rfl) rfl (q_move (v := .bool ((!r5.2))) rfl rfl) ?_
  refine ro_gval (g := (!(!r5.2))) (d := (some 31)) rfl (.no 2 30 true (!r5.2) rfl rfl rfl rfl) rfl (fun hg => q_move (v := tSlc.enc (r5.1)) rfl rfl) ?_
  refine ro_gval (g := (!(!r5.2))) (d := (some 32)) rfl (.no 2 30 true (!r5.2) rfl rfl rfl rfl) rfl (fun hg => q_len (s := r5.1) rfl Try.underlying22 (gvb_yes hg)) ?_
  refine ro_gval (g := (!(!r5.2))) (d := (some 33)) rfl (.no 2 30 true (!r5.2) rfl rfl rfl rfl) rfl (fun hg => q_eql (a := (r5.1.len : Int)) (b := (0 : Int)) rfl (gvb_yes hg) rfl) ?_
  refine ro_val (d := (some 34)) rfl (.free rfl) rfl (q_pickGF (a := (!r5.2)) (c := ((r5.1.len : Int) == (0 : Int))) rfl rfl rfl rfl) ?_
  refine ro_nil ?_
  refine wp_if (b := ((!r5.2) || ((r5.1.len : Int) == (0 : Int)))) rfl h (fun hb56 h => ?_) (fun hb56 h => ?_)
  · refine wp_seq ?_
    refine wp_text [0, 1] rfl ?_
    refine ro_wp rfl (.free rfl) (wp_cl (d := (some 35)) rfl (q_call (k := 10) (l := []) rfl ent10 rfl) h ?_)
    intro r7 w6 h
    refine ro_val (d := (some 6)) rfl (.free rfl) rfl (q_assign (v := .bool (r7)) rfl rfl) ?_
    refine ro_nil ?_
    refine wp_ret ?_
    exact ret_ok rfl (.cons (.tmp (v := .bool (r7)) rfl) .nil) ⟨r7, rfl, h⟩
  · refine wp_skip ?_
    refine wp_seq ?_
    refine wp_text [0, 1, 2, 3, 4, 5, 6, 7] rfl ?_
    refine ro_val (d := (some 37)) rfl (.free rfl) rfl (q_move (v := .int .i64 (at_1)) rfl rfl) ?_
    refine ro_val (d := (some 38)) rfl (.free rfl) rfl (q_move (v := tSlc.enc (r5.1)) rfl rfl) ?_
    refine ro_wp rfl (.free rfl) (wp_cl (d := (some 39)) rfl (q_call (k := 11) (l := [.int .i64 (at_1), tSlc.enc (r5.1)]) rfl ent11 rfl) h ?_)
    intro r9 w8 h
    refine ro_val (d := (some 36)) rfl (.free rfl) rfl (q_move (v := (tTup2 (tInt .i64) (tInt .i64)).enc (r9)) rfl rfl) ?_
    refine ro_val (d := (some 40)) rfl (.free rfl) rfl (q_extract (vs := #[.int .i64 (r9.1), .int .i64 (r9.2)]) (v := .int .i64 (r9.1)) rfl rfl rfl) ?_
    refine ro_val (d := (some 41)) rfl (.free rfl) rfl (q_extract (vs := #[.int .i64 (r9.1), .int .i64 (r9.2)]) (v := .int .i64 (r9.2)) rfl rfl rfl) ?_
    refine ro_val (d := (some 9)) rfl (.free rfl) rfl (q_assign (v := .int .i64 (r9.1)) rfl rfl) ?_
    refine ro_val (d := (some 10)) rfl (.free rfl) rfl (q_assign (v := .int .i64 (r9.2)) rfl rfl) ?_
    refine ro_nil ?_
    refine wp_seq ?_
    refine wp_text [0, 1, 2, 3, 4, 5, 6, 7] rfl ?_
    refine ro_val (d := (some 43)) rfl (.free rfl) rfl (q_move (v := .int .i64 (at_1)) rfl rfl) ?_
    refine ro_val (d := (some 44)) rfl (.free rfl) rfl (q_move (v := tSlc.enc (r5.1)) rfl rfl) ?_
    refine ro_wp rfl (.free rfl) (wp_cl (d := (some 45)) rfl (q_call (k := 14) (l := [.int .i64 (at_1), tSlc.enc (r5.1)]) rfl ent14 rfl) h ?_)
    intro r11 w10 h
    refine ro_val (d := (some 42)) rfl (.free rfl) rfl (q_move (v := (tTup2 tSlc (tInt .i64)).enc (r11)) rfl rfl) ?_
    refine ro_val (d := (some 46)) rfl (.free rfl) rfl (q_extract (vs := #[tSlc.enc (r11.1), .int .i64 (r11.2)]) (v := tSlc.enc (r11.1)) rfl rfl rfl) ?_
    refine ro_val (d := (some 47)) rfl (.free rfl) rfl (q_extract (vs := #[tSlc.enc (r11.1), .int .i64 (r11.2)]) (v := .int .i64 (r11.2)) rfl rfl rfl) ?_
    refine ro_val (d := (some 11)) rfl (.free rfl) rfl (q_assign (v := tSlc.enc (r11.1)) rfl rfl) ?_
    refine ro_val (d := (some 12)) rfl (.free rfl) rfl (q_assign (v := .int .i64 (r11.2)) rfl rfl) ?_
    refine ro_nil ?_
    refine wp_seq ?_
    refine wp_seq ?_
    refine wp_text [0, 1, 2, 3, 4, 5, 6, 7, 8, 9, 10] rfl ?_
    refine ro_wp rfl (.free rfl) (wp_cl (d := (some 48)) rfl (q_call (k := 10) (l := []) rfl ent10 rfl) h ?_)
    intro r13 w12 h
    refine ro_val (d := (some 49)) rfl (.free rfl) rfl (q_not (b := r13) rfl rfl) ?_
    refine ro_val (d := (some 50)) rfl (.free rfl) rfl (q_move (v := .bool ((!r13))) rfl rfl) ?_
    refine ro_gval (g := (!(!r13))) (d := (some 51)) rfl (.no 2 50 true (!r13) rfl rfl rfl rfl) rfl (fun hg => q_move (v := .int .i64 (r9.2)) rfl rfl) ?_
    refine ro_gval (g := (!(!r13))) (d := (some 52)) rfl (.no 2 50 true (!r13) rfl rfl rfl rfl) rfl (fun hg => q_move (v := .int .i64 (r11.2)) rfl rfl) ?_
    refine ro_gval (g := (!(!r13))) (d := (some 53)) rfl (.no 2 50 true (!r13) rfl rfl rfl rfl) rfl (fun hg => q_neq (a := r9.2) (b := r11.2) rfl (gvb_yes hg) (gvb_yes hg)) ?_
    refine ro_val (d := (some 54)) rfl (.free rfl) rfl (q_pickGF (a := (!r13)) (c := (r9.2 != r11.2)) rfl rfl rfl rfl) ?_
    refine ro_val (d := (some 55)) rfl (.free rfl) rfl (q_move (v := .bool (((!r13) || (r9.2 != r11.2)))) rfl rfl) ?_
    refine ro_gval (g := (!((!r13) || (r9.2 != r11.2)))) (d := (some 56)) rfl (.no 7 55 true ((!r13) || (r9.2 != r11.2)) rfl rfl rfl rfl) rfl (fun hg => q_move (v := .int .i64 (r9.2)) rfl rfl) ?_
    refine ro_gval (g := (!((!r13) || (r9.2 != r11.2)))) (d := (some 57)) rfl (.no 7 55 true ((!r13) || (r9.2 != r11.2)) rfl rfl rfl rfl) rfl (fun hg => q_neq (a := r9.2) (b := (0 : Int)) rfl (gvb_yes hg) rfl) ?_
    refine ro_val (d := (some 58)) rfl (.free rfl) rfl (q_pickGF (a := ((!r13) || (r9.2 != r11.2))) (c := (r9.2 != (0 : Int))) rfl rfl rfl rfl) ?_
    refine ro_nil ?_
    refine wp_if (b := (((!r13) || (r9.2 != r11.2)) || (r9.2 != (0 : Int)))) rfl h (fun hb55 h => ?_) (fun hb55 h => ?_)
    · refine wp_seq ?_
      refine wp_text [0, 1, 2, 3, 4, 5, 6, 7, 8, 9, 10, 11, 12, 13, 14, 15] rfl ?_
      refine ro_wp rfl (.free rfl) (wp_cl (d := (some 59)) rfl (q_call (k := 10) (l := []) rfl ent10 rfl) h ?_)
      intro r15 w14 h
      refine ro_val (d := (some 60)) rfl (.free rfl) rfl (q_move (v := .bool (r15)) rfl rfl) ?_
      refine ro_gval (g := r15) (d := (some 61)) rfl (.yes 1 60 true r15 rfl rfl rfl rfl) rfl (fun hg => q_move (v := .int .i64 (r9.2)) rfl rfl) ?_
      refine ro_gval (g := r15) (d := (some 62)) rfl (.yes 1 60 true r15 rfl rfl rfl rfl) rfl (fun hg => q_move (v := .int .i64 (r11.2)) rfl rfl) ?_
      refine ro_gval (g := r15) (d := (some 63)) rfl (.yes 1 60 true r15 rfl rfl rfl rfl) rfl (fun hg => q_eql (a := r9.2) (b := r11.2) rfl (gvb_yes hg) (gvb_yes hg)) ?_
      refine ro_val (d := (some 64)) rfl (.free rfl) rfl (q_pickGT (a := r15) (b := (r9.2 == r11.2)) rfl rfl rfl rfl) ?_
      refine ro_val (d := (some 65)) rfl (.free rfl) rfl (q_move (v := .bool ((r15 && (r9.2 == r11.2)))) rfl rfl) ?_
      refine ro_gval (g := (r15 && (r9.2 == r11.2))) (d := (some 66)) rfl (.yes 6 65 true (r15 && (r9.2 == r11.2)) rfl rfl rfl rfl) rfl (fun hg => q_move (v := .int .i64 (r9.1)) rfl rfl) ?_
      refine ro_gval (g := (r15 && (r9.2 == r11.2))) (d := (some 67)) rfl (.yes 6 65 true (r15 && (r9.2 == r11.2)) rfl rfl rfl rfl) rfl (fun hg => q_eql (a := r9.1) (b := (0 : Int)) rfl (gvb_yes hg) rfl) ?_
      refine ro_val (d := (some 68)) rfl (.free rfl) rfl (q_pickGT (a := (r15 && (r9.2 == r11.2))) (b := (r9.1 == (0 : Int))) rfl rfl rfl rfl) ?_
      refine ro_val (d := (some 69)) rfl (.free rfl) rfl (q_move (v := .bool (((r15 && (r9.2 == r11.2)) && (r9.1 == (0 : Int))))) rfl rfl) ?_
      refine ro_gval (g := ((r15 && (r9.2 == r11.2)) && (r9.1 == (0 : Int)))) (d := (some 70)) rfl (.yes 10 69 true ((r15 && (r9.2 == r11.2)) && (r9.1 == (0 : Int))) rfl rfl rfl rfl) rfl (fun hg => q_move (v := tSlc.enc (r11.1)) rfl rfl) ?_
      refine ro_gval (g := ((r15 && (r9.2 == r11.2)) && (r9.1 == (0 : Int)))) (d := (some 71)) rfl (.yes 10 69 true ((r15 && (r9.2 == r11.2)) && (r9.1 == (0 : Int))) rfl rfl rfl rfl) rfl (fun hg => q_len (s := r11.1) rfl Try.underlying31 (gvb_yes hg)) ?_
      refine ro_gval (g := ((r15 && (r9.2 == r11.2)) && (r9.1 == (0 : Int)))) (d := (some 72)) rfl (.yes 10 69 true ((r15 && (r9.2 == r11.2)) && (r9.1 == (0 : Int))) rfl rfl rfl rfl) rfl (fun hg => q_eql (a := (r11.1.len : Int)) (b := (0 : Int)) rfl (gvb_yes hg) rfl) ?_
      refine ro_val (d := (some 73)) rfl (.free rfl) rfl (q_pickGT (a := ((r15 && (r9.2 == r11.2)) && (r9.1 == (0 : Int)))) (b := ((r11.1.len : Int) == (0 : Int))) rfl rfl rfl rfl) ?_
      refine ro_val (d := (some 6)) rfl (.free rfl) rfl (q_assign (v := .bool ((((r15 && (r9.2 == r11.2)) && (r9.1 == (0 : Int))) && ((r11.1.len : Int) == (0 : Int))))) rfl rfl) ?_
      refine ro_nil ?_
      refine wp_ret ?_
      exact ret_ok rfl (.cons (.tmp (v := .bool ((((r15 && (r9.2 == r11.2)) && (r9.1 == (0 : Int))) && ((r11.1.len : Int) == (0 : Int))))) rfl) .nil) ⟨(((r15 && (r9.2 == r11.2)) && (r9.1 == (0 : Int))) && ((r11.1.len : Int) == (0 : Int))), rfl, h⟩
    · refine wp_skip ?_
      refine wp_seq ?_
      refine wp_text [0, 1] rfl ?_
      refine ro_val (d := (some 13)) rfl (.free rfl) rfl (q_assign (v := .int .i64 ((0 : Int))) rfl rfl) ?_
      refine ro_val (d := (some 14)) rfl (.free rfl) rfl (q_assign (v := .int .i64 ((0 : Int))) rfl rfl) ?_
      refine ro_nil ?_
      refine wp_seq ?_
      refine wp_seq ?_
      refine wp_text [0] rfl ?_
      refine ro_val (d := (some 15)) rfl (.free rfl) rfl (q_assign (v := .int .i64 ((0 : Int))) rfl rfl) ?_
      refine ro_nil ?_
      refine wp_block ?_
      refine loop_at (σ := Int × Int) (fr := fun g (s : Int × Int) => upd (upd (upd (upd (upd (upd (upd (upd (g) 0 (.int .i64 (at_1))) 2 (.int .u8 (turn_3))) 7 (tSlc.enc (r5.1))) 9 (.int .i64 (r9.1))) 11 (tSlc.enc (r11.1))) 14 (.int .i64 ((0 : Int)))) 13 (.int .i64 (s.1))) 15 (.int .i64 (s.2))) (s0 := ((0 : Int), (0 : Int))) (upd_step (upd_step (upd_step (upd_step (upd_step (upd_step (upd_step (upd_step rfl rfl) rfl) rfl) rfl) rfl) rfl) rfl) rfl) h ?_
      rintro ⟨sum_16, i_17⟩ g w18 K19 h
      unfold F6_l1 at h
      refine wp_seq ?_
      refine wp_seq ?_
      refine wp_text [0, 1, 2, 3] rfl ?_
      refine ro_val (d := (some 74)) rfl (.free rfl) rfl (q_move (v := .int .i64 (i_17)) rfl rfl) ?_
      refine ro_val (d := (some 75)) rfl (.free rfl) rfl (q_move (v := tSlc.enc (r11.1)) rfl rfl) ?_
      refine ro_val (d := (some 76)) rfl (.free rfl) rfl (q_len (s := r11.1) rfl Try.underlying31 rfl) ?_
      refine ro_val (d := (some 77)) rfl (.free rfl) rfl (q_lss (a := i_17) (b := (r11.1.len : Int)) rfl rfl rfl) ?_
      refine ro_nil ?_
      refine wp_if (b := (decide (i_17 < (r11.1.len : Int)))) rfl h (fun hb54 h => ?_) (fun hb54 h => ?_)
      · refine wp_skip ?_
        refine wp_seq ?_
        refine wp_block ?_
        refine wp_seq ?_
        refine wp_seq ?_
        obtain ⟨w20, hw20, h⟩ := dr_open h
        refine wp_drawn 16 mixed rfl (by kernel_rfl) (by intro c a d v w h; cases d <;> exact h) hw20 (fun hD => ?_)
        refine rd_pure (i := 0) (d := (some 80)) hD (by kernel_rfl) (by kernel_rfl) rfl (.free rfl) rfl (fun _ => q_move (v := .int .i64 (i_17)) rfl rfl) ?_
        refine rd_pure (i := 1) (d := (some 81)) hD (by kernel_rfl) (by kernel_rfl) rfl (.free rfl) rfl (fun _ => q_gtr (a := i_17) (b := (0 : Int)) rfl rfl rfl) ?_
        refine rd_pure (i := 2) (d := (some 82)) hD (by kernel_rfl) (by kernel_rfl) rfl (.free rfl) rfl (fun _ => q_move (v := .bool ((decide (i_17 > (0 : Int))))) rfl rfl) ?_
        refine rd_gpure (i := 3) (g := (decide (i_17 > (0 : Int)))) (d := (some 83)) hD (by kernel_rfl) (by kernel_rfl) rfl (.yes 2 82 true (decide (i_17 > (0 : Int))) rfl rfl rfl rfl) rfl (fun hg _ => q_move (v := tSlc.enc (r11.1)) rfl rfl) ?_
        refine rd_gpure (i := 4) (g := (decide (i_17 > (0 : Int)))) (d := (some 84)) hD (by kernel_rfl) (by kernel_rfl) rfl (.yes 2 82 true (decide (i_17 > (0 : Int))) rfl rfl rfl rfl) rfl (fun hg _ => q_move (v := .int .i64 (i_17)) rfl rfl) ?_
        refine rd_gpure (i := 5) (g := (decide (i_17 > (0 : Int)))) (d := (some 85)) hD (by kernel_rfl) (by kernel_rfl) rfl (.yes 2 82 true (decide (i_17 > (0 : Int))) rfl rfl rfl rfl) rfl (fun hg _ => q_sub (a := i_17) (b := (1 : Int)) rfl (gvb_yes hg) rfl) ?_
        obtain ⟨a21, ha21, h⟩ := h
        refine rd_gpure (i := 6) (g := (decide (i_17 > (0 : Int)))) (d := (some 86)) hD (by kernel_rfl) (by kernel_rfl) rfl (.yes 2 82 true (decide (i_17 > (0 : Int))) rfl rfl rfl rfl) rfl (fun hg _ => q_indexAddr (s := r11.1) (i := (IntKind.i64.wrap (i_17 - (1 : Int)))) rfl Try.underlying31 ok37 (gvb_yes hg) (gvb_yes hg) (ha21 hg)) ?_
        refine rd_gpure (i := 7) (g := (decide (i_17 > (0 : Int)))) (d := (some 87)) hD (by kernel_rfl) (by kernel_rfl) rfl (.yes 2 82 true (decide (i_17 > (0 : Int))) rfl rfl rfl rfl) rfl (fun hg _ => q_fieldAddr (a := a21) (off := 0) rfl Try.underlying37 rfl rfl ok3 (by decide) (gvb_yes hg)) ?_
        refine rd_gpure (i := 9) (g := (decide (i_17 > (0 : Int)))) (d := (some 89)) hD (by kernel_rfl) (by kernel_rfl) rfl (.yes 2 82 true (decide (i_17 > (0 : Int))) rfl rfl rfl rfl) rfl (fun hg _ => q_move (v := tSlc.enc (r11.1)) rfl rfl) ?_
        refine rd_gpure (i := 10) (g := (decide (i_17 > (0 : Int)))) (d := (some 90)) hD (by kernel_rfl) (by kernel_rfl) rfl (.yes 2 82 true (decide (i_17 > (0 : Int))) rfl rfl rfl rfl) rfl (fun hg _ => q_move (v := .int .i64 (i_17)) rfl rfl) ?_
        obtain ⟨a22, ha22, h⟩ := h
        refine rd_gpure (i := 11) (g := (decide (i_17 > (0 : Int)))) (d := (some 91)) hD (by kernel_rfl) (by kernel_rfl) rfl (.yes 2 82 true (decide (i_17 > (0 : Int))) rfl rfl rfl rfl) rfl (fun hg _ => q_indexAddr (s := r11.1) (i := i_17) rfl Try.underlying31 ok37 (gvb_yes hg) (gvb_yes hg) (ha22 hg)) ?_
        refine rd_gpure (i := 12) (g := (decide (i_17 > (0 : Int)))) (d := (some 92)) hD (by kernel_rfl) (by kernel_rfl) rfl (.yes 2 82 true (decide (i_17 > (0 : Int))) rfl rfl rfl rfl) rfl (fun hg _ => q_fieldAddr (a := a22) (off := 0) rfl Try.underlying37 rfl rfl ok3 (by decide) (gvb_yes hg)) ?_
        obtain ⟨x23, hx23, h⟩ := h
        refine rd_gread (i := 8) (g := (decide (i_17 > (0 : Int)))) (d := (some 88)) (fun W => (RdAt (tInt .i64) (a21.add 0) W) x23) hD (by kernel_rfl) (by kernel_rfl) rfl (.yes 2 82 true (decide (i_17 > (0 : Int))) rfl rfl rfl rfl) rfl (fun hg W hr => q_load (T := (tInt .i64)) (u := x23) (a := (a21.add 0)) rfl ok3 (gvb_yes hg) hr) hx23 ?_
        obtain ⟨x24, hx24, h⟩ := h
        refine rd_gread (i := 13) (g := (decide (i_17 > (0 : Int)))) (d := (some 93)) (fun W => (RdAt (tInt .i64) (a22.add 0) W) x24) hD (by kernel_rfl) (by kernel_rfl) rfl (.yes 2 82 true (decide (i_17 > (0 : Int))) rfl rfl rfl rfl) rfl (fun hg W hr => q_load (T := (tInt .i64)) (u := x24) (a := (a22.add 0)) rfl ok3 (gvb_yes hg) hr) hx24 ?_
        refine rd_gpure (i := 14) (g := (decide (i_17 > (0 : Int)))) (d := (some 94)) hD (by kernel_rfl) (by kernel_rfl) rfl (.yes 2 82 true (decide (i_17 > (0 : Int))) rfl rfl rfl rfl) rfl (fun hg _ => q_geq (a := x23) (b := x24) rfl (gvb_yes hg) (gvb_yes hg)) ?_
        refine rd_pure (i := 15) (d := (some 95)) hD (by kernel_rfl) (by kernel_rfl) rfl (.free rfl) rfl (fun _ => q_pickGT (a := (decide (i_17 > (0 : Int)))) (b := (decide (x23 ≥ x24))) rfl rfl rfl rfl) ?_
        refine rd_nil (by kernel_rfl) ?_
        refine wp_if (b := ((decide (i_17 > (0 : Int))) && (decide (x23 ≥ x24)))) rfl h (fun hb27 h => ?_) (fun hb27 h => ?_)
        · refine wp_seq ?_
          refine wp_text [0] rfl ?_
          refine ro_val (d := (some 6)) rfl (.free rfl) rfl (q_assign (v := .bool (false)) rfl rfl) ?_
          refine ro_nil ?_
          refine wp_ret ?_
          exact ret_ok rfl (.cons (.tmp (v := .bool (false)) rfl) .nil) ⟨false, rfl, h⟩
        · refine wp_skip ?_
          refine wp_text [0, 1, 2, 3, 4, 5, 6, 7] rfl ?_
          refine ro_val (d := (some 96)) rfl (.free rfl) rfl (q_move (v := .int .i64 (sum_16)) rfl rfl) ?_
          refine ro_val (d := (some 97)) rfl (.free rfl) rfl (q_move (v := tSlc.enc (r11.1)) rfl rfl) ?_
          refine ro_val (d := (some 98)) rfl (.free rfl) rfl (q_move (v := .int .i64 (i_17)) rfl rfl) ?_
          obtain ⟨a25, ha25, h⟩ := h
          refine ro_val (d := (some 99)) rfl (.free rfl) rfl (q_indexAddr (s := r11.1) (i := i_17) rfl Try.underlying31 ok37 rfl rfl ha25) ?_
          refine ro_val (d := (some 100)) rfl (.free rfl) rfl (q_fieldAddr (a := a25) (off := 1) rfl Try.underlying37 rfl rfl ok2 (by decide) rfl) ?_
          obtain ⟨x26, hx26, h⟩ := h
          refine ro_val (d := (some 101)) rfl (.free rfl) rfl (q_load (T := (tInt .i64)) (u := x26) (a := (a25.add 1)) rfl ok2 rfl hx26) ?_
          refine ro_val (d := (some 102)) rfl (.free rfl) rfl (q_add (a := sum_16) (b := x26) rfl rfl rfl) ?_
          refine ro_val (d := (some 13)) rfl (.free rfl) rfl (q_assign (v := .int .i64 ((IntKind.i64.wrap (sum_16 + x26)))) rfl rfl) ?_
          refine ro_nil ?_
          refine wp_text [0, 1, 2] rfl ?_
          refine ro_val (d := (some 78)) rfl (.free rfl) rfl (q_move (v := .int .i64 (i_17)) rfl rfl) ?_
          refine ro_val (d := (some 79)) rfl (.free rfl) rfl (q_add (a := i_17) (b := (1 : Int)) rfl rfl rfl) ?_
          refine ro_val (d := (some 15)) rfl (.free rfl) rfl (q_assign (v := .int .i64 ((IntKind.i64.wrap (i_17 + (1 : Int))))) rfl rfl) ?_
          refine ro_nil ?_
          exact ⟨((IntKind.i64.wrap (sum_16 + x26)), (IntKind.i64.wrap (i_17 + (1 : Int)))), _, arr (upd_step (upd_step (upd_step (upd_step (upd_step (upd_step (upd_step (upd_step rfl rfl) rfl) rfl) rfl) rfl) rfl) rfl) rfl), h⟩
      · refine wp_exit ?_
        refine wp_seq ?_
        refine wp_seq ?_
        refine wp_text [0] rfl ?_
        refine ro_val (d := (some 16)) rfl (.free rfl) rfl (q_assign (v := .int .i64 ((0 : Int))) rfl rfl) ?_
        refine ro_nil ?_
        refine wp_block ?_
        refine loop_at (σ := Int × Int) (fr := fun g (s : Int × Int) => upd (upd (upd (upd (upd (upd (upd (upd (g) 0 (.int .i64 (at_1))) 2 (.int .u8 (turn_3))) 7 (tSlc.enc (r5.1))) 9 (.int .i64 (r9.1))) 11 (tSlc.enc (r11.1))) 13 (.int .i64 (sum_16))) 14 (.int .i64 (s.1))) 16 (.int .i64 (s.2))) (s0 := ((0 : Int), (0 : Int))) (upd_step (upd_step (upd_step (upd_step (upd_step (upd_step (upd_step (upd_step rfl rfl) rfl) rfl) rfl) rfl) rfl) rfl) rfl) h ?_
        rintro ⟨many_28, i_29⟩ g w30 K31 h
        unfold F6_l2 at h
        refine wp_seq ?_
        refine wp_seq ?_
        refine wp_text [0, 1, 2, 3] rfl ?_
        refine ro_val (d := (some 103)) rfl (.free rfl) rfl (q_move (v := .int .i64 (i_29)) rfl rfl) ?_
        refine ro_val (d := (some 104)) rfl (.free rfl) rfl (q_move (v := tSlc.enc (r5.1)) rfl rfl) ?_
        refine ro_val (d := (some 105)) rfl (.free rfl) rfl (q_len (s := r5.1) rfl Try.underlying22 rfl) ?_
        refine ro_val (d := (some 106)) rfl (.free rfl) rfl (q_lss (a := i_29) (b := (r5.1.len : Int)) rfl rfl rfl) ?_
        refine ro_nil ?_
        refine wp_if (b := (decide (i_29 < (r5.1.len : Int)))) rfl h (fun hb53 h => ?_) (fun hb53 h => ?_)
        · refine wp_skip ?_
          refine wp_seq ?_
          refine wp_block ?_
          refine wp_text [0, 1, 2, 3, 4, 5, 6, 7, 8] rfl ?_
          refine ro_val (d := (some 109)) rfl (.free rfl) rfl (q_move (v := .int .i64 (many_28)) rfl rfl) ?_
          refine ro_val (d := (some 110)) rfl (.free rfl) rfl (q_move (v := tSlc.enc (r5.1)) rfl rfl) ?_
          refine ro_val (d := (some 111)) rfl (.free rfl) rfl (q_move (v := .int .i64 (i_29)) rfl rfl) ?_
          obtain ⟨a32, ha32, h⟩ := h
          refine ro_val (d := (some 112)) rfl (.free rfl) rfl (q_indexAddr (s := r5.1) (i := i_29) rfl Try.underlying22 ok39 rfl rfl ha32) ?_
          refine ro_val (d := (some 113)) rfl (.free rfl) rfl (q_fieldAddr (a := a32) (off := 1) rfl Try.underlying39 rfl rfl ok31 (by decide) rfl) ?_
          obtain ⟨x33, hx33, h⟩ := h
          refine ro_val (d := (some 114)) rfl (.free rfl) rfl (q_load (T := tSlc) (u := x33) (a := (a32.add 1)) rfl ok31 rfl hx33) ?_
          refine ro_val (d := (some 115)) rfl (.free rfl) rfl (q_len (s := x33) rfl Try.underlying31 rfl) ?_
          refine ro_val (d := (some 116)) rfl (.free rfl) rfl (q_add (a := many_28) (b := (x33.len : Int)) rfl rfl rfl) ?_
          refine ro_val (d := (some 14)) rfl (.free rfl) rfl (q_assign (v := .int .i64 ((IntKind.i64.wrap (many_28 + (x33.len : Int))))) rfl rfl) ?_
          refine ro_nil ?_
          refine wp_text [0, 1, 2] rfl ?_
          refine ro_val (d := (some 107)) rfl (.free rfl) rfl (q_move (v := .int .i64 (i_29)) rfl rfl) ?_
          refine ro_val (d := (some 108)) rfl (.free rfl) rfl (q_add (a := i_29) (b := (1 : Int)) rfl rfl rfl) ?_
          refine ro_val (d := (some 16)) rfl (.free rfl) rfl (q_assign (v := .int .i64 ((IntKind.i64.wrap (i_29 + (1 : Int))))) rfl rfl) ?_
          refine ro_nil ?_
          exact ⟨((IntKind.i64.wrap (many_28 + (x33.len : Int))), (IntKind.i64.wrap (i_29 + (1 : Int)))), _, arr (upd_step (upd_step (upd_step (upd_step (upd_step (upd_step (upd_step (upd_step rfl rfl) rfl) rfl) rfl) rfl) rfl) rfl) rfl), h⟩
        · refine wp_exit ?_
          refine wp_seq ?_
          refine wp_text [0, 1, 2, 3, 4, 5] rfl ?_
          refine ro_val (d := (some 117)) rfl (.free rfl) rfl (q_move (v := .int .u8 (turn_3)) rfl rfl) ?_
          refine ro_val (d := (some 118)) rfl (.free rfl) rfl (q_cvtI (a := turn_3) rfl Try.underlying5 Try.underlying3 rfl) ?_
          refine ro_val (d := (some 119)) rfl (.free rfl) rfl (q_move (v := tSlc.enc (r5.1)) rfl rfl) ?_
          refine ro_val (d := (some 120)) rfl (.free rfl) rfl (q_len (s := r5.1) rfl Try.underlying22 rfl) ?_
          obtain ⟨d34, hd34, h⟩ := h
          refine ro_val (d := (some 121)) rfl (.free rfl) rfl (q_rem0 (a := (IntKind.i64.wrap turn_3)) (b := (r5.1.len : Int)) (r := d34) rfl rfl rfl hd34) ?_
          refine ro_val (d := (some 17)) rfl (.free rfl) rfl (q_assign (v := .int .i64 (d34)) rfl rfl) ?_
          refine ro_nil ?_
          refine wp_seq ?_
          obtain ⟨w35, hw35, h⟩ := dr_open h
          refine wp_drawn 10 mixed rfl (by kernel_rfl) (by intro c a d v w h; cases d <;> exact h) hw35 (fun hD => ?_)
          refine rd_pure (i := 1) (d := (some 123)) hD (by kernel_rfl) (by kernel_rfl) rfl (.free rfl) rfl (fun _ => q_move (v := tSlc.enc (r5.1)) rfl rfl) ?_
          refine rd_pure (i := 2) (d := (some 124)) hD (by kernel_rfl) (by kernel_rfl) rfl (.free rfl) rfl (fun _ => q_move (v := .int .i64 (d34)) rfl rfl) ?_
          obtain ⟨s36, hs36, h⟩ := h
          refine rd_pure (i := 3) (d := (some 125)) hD (by kernel_rfl) (by kernel_rfl) rfl (.free rfl) rfl (fun _ => q_sliceL (s := r5.1) (l := d34) rfl Try.underlying22 ok39 rfl rfl hs36) ?_
          refine rd_pure (i := 5) (d := (some 127)) hD (by kernel_rfl) (by kernel_rfl) rfl (.free rfl) rfl (fun _ => q_move (v := tSlc.enc (r5.1)) rfl rfl) ?_
          refine rd_pure (i := 6) (d := (some 128)) hD (by kernel_rfl) (by kernel_rfl) rfl (.free rfl) rfl (fun _ => q_move (v := .int .i64 (d34)) rfl rfl) ?_
          obtain ⟨s37, hs37, h⟩ := h
          refine rd_pure (i := 7) (d := (some 129)) hD (by kernel_rfl) (by kernel_rfl) rfl (.free rfl) rfl (fun _ => q_sliceH (s := r5.1) (h := d34) rfl Try.underlying22 ok39 rfl rfl hs37) ?_
          refine rd_one (i := 0) (by kernel_rfl) ?_
          obtain ⟨a38, w39, ha38, hw39, h⟩ := nwS_open h
          refine po_val (d := (some 122)) rfl (.free rfl) rfl (q_row0 (T := T38) rfl Try.underlying22 ok39 inf39 ha38 hw39) ⟨hk_nil, ?_⟩
          refine rd_one (i := 4) (by kernel_rfl) ?_
          refine po_wp rfl (.free rfl) (wp_append (d := (some 126)) (T := T38) rfl rfl Try.underlying22 ⟨_, Try.underlying22⟩ ok39 inf39 rfl rfl (Nat.lt_of_lt_of_le Nat.zero_lt_one (Nat.le_of_ble_eq_true rfl)) rfl rfl h ?_)
          intro r41 w40 h
          refine ⟨hk_nil, ?_⟩
          refine rd_one (i := 8) (by kernel_rfl) ?_
          refine po_wp rfl (.free rfl) (wp_append (d := (some 130)) (T := T38) rfl rfl Try.underlying22 ⟨_, Try.underlying22⟩ ok39 inf39 rfl rfl (Nat.lt_of_lt_of_le Nat.zero_lt_one (Nat.le_of_ble_eq_true rfl)) rfl rfl h ?_)
          intro r43 w42 h
          refine ⟨hk_nil, ?_⟩
          refine rd_pure (i := 9) (d := (some 18)) hD (by kernel_rfl) (by kernel_rfl) rfl (.free rfl) rfl (fun _ => q_assign (v := tSlc.enc (r43)) rfl rfl) ?_
          refine rd_nil (by kernel_rfl) ?_
          refine wp_seq ?_
          refine wp_text [0, 1, 2, 3, 4, 5, 6, 7] rfl ?_
          refine ro_val (d := (some 132)) rfl (.free rfl) rfl (q_move (v := .int .i64 (at_1)) rfl rfl) ?_
          refine ro_val (d := (some 133)) rfl (.free rfl) rfl (q_move (v := tSlc.enc (r43)) rfl rfl) ?_
          refine ro_wp rfl (.free rfl) (wp_cl (d := (some 134)) rfl (q_call (k := 14) (l := [.int .i64 (at_1), tSlc.enc (r43)]) rfl ent14 rfl) h ?_)
          intro r45 w44 h
          refine ro_val (d := (some 131)) rfl (.free rfl) rfl (q_move (v := (tTup2 tSlc (tInt .i64)).enc (r45)) rfl rfl) ?_
          refine ro_val (d := (some 135)) rfl (.free rfl) rfl (q_extract (vs := #[tSlc.enc (r45.1), .int .i64 (r45.2)]) (v := tSlc.enc (r45.1)) rfl rfl rfl) ?_
          refine ro_val (d := (some 136)) rfl (.free rfl) rfl (q_extract (vs := #[tSlc.enc (r45.1), .int .i64 (r45.2)]) (v := .int .i64 (r45.2)) rfl rfl rfl) ?_
          refine ro_val (d := (some 19)) rfl (.free rfl) rfl (q_assign (v := tSlc.enc (r45.1)) rfl rfl) ?_
          refine ro_val (d := (some 20)) rfl (.free rfl) rfl (q_assign (v := .int .i64 (r45.2)) rfl rfl) ?_
          refine ro_nil ?_
          refine wp_seq ?_
          refine wp_text [0, 1, 2, 3, 4, 5, 6, 7] rfl ?_
          refine ro_val (d := (some 138)) rfl (.free rfl) rfl (q_move (v := .int .i64 (at_1)) rfl rfl) ?_
          refine ro_val (d := (some 139)) rfl (.free rfl) rfl (q_move (v := tSlc.enc (r43)) rfl rfl) ?_
          refine ro_wp rfl (.free rfl) (wp_cl (d := (some 140)) rfl (q_call (k := 11) (l := [.int .i64 (at_1), tSlc.enc (r43)]) rfl ent11 rfl) h ?_)
          intro r47 w46 h
          refine ro_val (d := (some 137)) rfl (.free rfl) rfl (q_move (v := (tTup2 (tInt .i64) (tInt .i64)).enc (r47)) rfl rfl) ?_
          refine ro_val (d := (some 141)) rfl (.free rfl) rfl (q_extract (vs := #[.int .i64 (r47.1), .int .i64 (r47.2)]) (v := .int .i64 (r47.1)) rfl rfl rfl) ?_
          refine ro_val (d := (some 142)) rfl (.free rfl) rfl (q_extract (vs := #[.int .i64 (r47.1), .int .i64 (r47.2)]) (v := .int .i64 (r47.2)) rfl rfl rfl) ?_
          refine ro_val (d := (some 21)) rfl (.free rfl) rfl (q_assign (v := .int .i64 (r47.1)) rfl rfl) ?_
          refine ro_val (d := (some 22)) rfl (.free rfl) rfl (q_assign (v := .int .i64 (r47.2)) rfl rfl) ?_
          refine ro_nil ?_
          refine wp_seq ?_
          refine wp_text [0, 1, 2, 3, 4, 5, 6, 7, 8, 9, 10, 11, 12, 13, 14, 15, 16, 17, 18, 19, 20, 21, 22, 23, 24, 25, 26, 27] rfl ?_
          refine ro_val (d := (some 143)) rfl (.free rfl) rfl (q_move (v := .int .i64 (sum_16)) rfl rfl) ?_
          refine ro_val (d := (some 144)) rfl (.free rfl) rfl (q_move (v := .int .i64 (r9.1)) rfl rfl) ?_
          refine ro_val (d := (some 145)) rfl (.free rfl) rfl (q_eql (a := sum_16) (b := r9.1) rfl rfl rfl) ?_
          refine ro_val (d := (some 146)) rfl (.free rfl) rfl (q_move (v := .bool ((sum_16 == r9.1))) rfl rfl) ?_
          refine ro_gval (g := (sum_16 == r9.1)) (d := (some 147)) rfl (.yes 3 146 true (sum_16 == r9.1) rfl rfl rfl rfl) rfl (fun hg => q_move (v := .int .i64 (many_28)) rfl rfl) ?_
          refine ro_gval (g := (sum_16 == r9.1)) (d := (some 148)) rfl (.yes 3 146 true (sum_16 == r9.1) rfl rfl rfl rfl) rfl (fun hg => q_move (v := tSlc.enc (r11.1)) rfl rfl) ?_
          refine ro_gval (g := (sum_16 == r9.1)) (d := (some 149)) rfl (.yes 3 146 true (sum_16 == r9.1) rfl rfl rfl rfl) rfl (fun hg => q_len (s := r11.1) rfl Try.underlying31 (gvb_yes hg)) ?_
          refine ro_gval (g := (sum_16 == r9.1)) (d := (some 150)) rfl (.yes 3 146 true (sum_16 == r9.1) rfl rfl rfl rfl) rfl (fun hg => q_eql (a := many_28) (b := (r11.1.len : Int)) rfl (gvb_yes hg) (gvb_yes hg)) ?_
          refine ro_val (d := (some 151)) rfl (.free rfl) rfl (q_pickGT (a := (sum_16 == r9.1)) (b := (many_28 == (r11.1.len : Int))) rfl rfl rfl rfl) ?_
          refine ro_val (d := (some 152)) rfl (.free rfl) rfl (q_move (v := .bool (((sum_16 == r9.1) && (many_28 == (r11.1.len : Int))))) rfl rfl) ?_
          refine ro_gval (g := ((sum_16 == r9.1) && (many_28 == (r11.1.len : Int)))) (d := (some 153)) rfl (.yes 9 152 true ((sum_16 == r9.1) && (many_28 == (r11.1.len : Int))) rfl rfl rfl rfl) rfl (fun hg => q_move (v := .int .i64 (r45.2)) rfl rfl) ?_
          refine ro_gval (g := ((sum_16 == r9.1) && (many_28 == (r11.1.len : Int)))) (d := (some 154)) rfl (.yes 9 152 true ((sum_16 == r9.1) && (many_28 == (r11.1.len : Int))) rfl rfl rfl rfl) rfl (fun hg => q_eql (a := r45.2) (b := (0 : Int)) rfl (gvb_yes hg) rfl) ?_
          refine ro_val (d := (some 155)) rfl (.free rfl) rfl (q_pickGT (a := ((sum_16 == r9.1) && (many_28 == (r11.1.len : Int)))) (b := (r45.2 == (0 : Int))) rfl rfl rfl rfl) ?_
          refine ro_val (d := (some 156)) rfl (.free rfl) rfl (q_move (v := .bool ((((sum_16 == r9.1) && (many_28 == (r11.1.len : Int))) && (r45.2 == (0 : Int))))) rfl rfl) ?_
          refine ro_join (σ := Bool) (J := fun (s : Bool) w => F6_j3 r9 r47 s w R) (fr := fun g (s : Bool) => upd (upd (upd (upd (g) 9 (.int .i64 (r9.1))) 21 (.int .i64 (r47.1))) 22 (.int .i64 (r47.2))) 160 (.bool (s))) [14, 15, 16, 17] [18, 19, 20, 21, 22, 23, 24, 25, 26, 27] ?_ ?_
          · rintro t_48 g w49 h
            unfold F6_j3 at h
            refine ro_val (d := (some 161)) rfl (.free rfl) rfl (q_move (v := .bool (t_48)) rfl rfl) ?_
            refine ro_gval (g := t_48) (d := (some 162)) rfl (.yes 18 161 true t_48 rfl rfl rfl rfl) rfl (fun hg => q_move (v := .int .i64 (r47.2)) rfl rfl) ?_
            refine ro_gval (g := t_48) (d := (some 163)) rfl (.yes 18 161 true t_48 rfl rfl rfl rfl) rfl (fun hg => q_eql (a := r47.2) (b := (0 : Int)) rfl (gvb_yes hg) rfl) ?_
            refine ro_val (d := (some 164)) rfl (.free rfl) rfl (q_pickGT (a := t_48) (b := (r47.2 == (0 : Int))) rfl rfl rfl rfl) ?_
            refine ro_val (d := (some 165)) rfl (.free rfl) rfl (q_move (v := .bool ((t_48 && (r47.2 == (0 : Int))))) rfl rfl) ?_
            refine ro_gval (g := (t_48 && (r47.2 == (0 : Int)))) (d := (some 166)) rfl (.yes 22 165 true (t_48 && (r47.2 == (0 : Int))) rfl rfl rfl rfl) rfl (fun hg => q_move (v := .int .i64 (r47.1)) rfl rfl) ?_
            refine ro_gval (g := (t_48 && (r47.2 == (0 : Int)))) (d := (some 167)) rfl (.yes 22 165 true (t_48 && (r47.2 == (0 : Int))) rfl rfl rfl rfl) rfl (fun hg => q_move (v := .int .i64 (r9.1)) rfl rfl) ?_
            refine ro_gval (g := (t_48 && (r47.2 == (0 : Int)))) (d := (some 168)) rfl (.yes 22 165 true (t_48 && (r47.2 == (0 : Int))) rfl rfl rfl rfl) rfl (fun hg => q_eql (a := r47.1) (b := r9.1) rfl (gvb_yes hg) (gvb_yes hg)) ?_
            refine ro_val (d := (some 169)) rfl (.free rfl) rfl (q_pickGT (a := (t_48 && (r47.2 == (0 : Int)))) (b := (r47.1 == r9.1)) rfl rfl rfl rfl) ?_
            refine ro_val (d := (some 6)) rfl (.free rfl) rfl (q_assign (v := .bool (((t_48 && (r47.2 == (0 : Int))) && (r47.1 == r9.1)))) rfl rfl) ?_
            refine ro_nil ?_
            refine wp_ret ?_
            exact ret_ok rfl (.cons (.tmp (v := .bool (((t_48 && (r47.2 == (0 : Int))) && (r47.1 == r9.1)))) rfl) .nil) ⟨((t_48 && (r47.2 == (0 : Int))) && (r47.1 == r9.1)), rfl, h⟩
          · refine ro_if (b := (((sum_16 == r9.1) && (many_28 == (r11.1.len : Int))) && (r45.2 == (0 : Int)))) h (fun hb50 h => ?_) (fun hb50 h => ?_)
            · refine ro_val (d := (some 157)) rfl (.by_ 13 true 156 (((sum_16 == r9.1) && (many_28 == (r11.1.len : Int))) && (r45.2 == (0 : Int))) rfl rfl rfl hb50) rfl (q_move (v := tSlc.enc (r11.1)) rfl rfl) ?_
              refine ro_val (d := (some 158)) rfl (.by_ 13 true 156 (((sum_16 == r9.1) && (many_28 == (r11.1.len : Int))) && (r45.2 == (0 : Int))) rfl rfl rfl hb50) rfl (q_move (v := tSlc.enc (r45.1)) rfl rfl) ?_
              refine ro_wp rfl (.by_ 13 true 156 (((sum_16 == r9.1) && (many_28 == (r11.1.len : Int))) && (r45.2 == (0 : Int))) rfl rfl rfl hb50) (wp_cl (d := (some 159)) rfl (q_call (k := 16) (l := [tSlc.enc (r11.1), tSlc.enc (r45.1)]) rfl ent16 rfl) h ?_)
              intro r52 w51 h
              refine ro_val (d := (some 160)) rfl (.free rfl) rfl (q_pickT (v := .bool (r52)) (b := (((sum_16 == r9.1) && (many_28 == (r11.1.len : Int))) && (r45.2 == (0 : Int)))) rfl rfl hb50 rfl) ?_
              refine ro_nil ?_
              exact ⟨(r52), _, arr (upd_step (upd_step (upd_step (upd_step rfl rfl) rfl) rfl) rfl), h⟩
            · refine ro_bar (d := (some 157)) rfl (.by_ 13 true 156 (((sum_16 == r9.1) && (many_28 == (r11.1.len : Int))) && (r45.2 == (0 : Int))) rfl rfl rfl hb50) rfl ?_
              refine ro_bar (d := (some 158)) rfl (.by_ 13 true 156 (((sum_16 == r9.1) && (many_28 == (r11.1.len : Int))) && (r45.2 == (0 : Int))) rfl rfl rfl hb50) rfl ?_
              refine ro_bar (d := (some 159)) rfl (.by_ 13 true 156 (((sum_16 == r9.1) && (many_28 == (r11.1.len : Int))) && (r45.2 == (0 : Int))) rfl rfl rfl hb50) rfl ?_
              refine ro_val (d := (some 160)) rfl (.free rfl) rfl (q_pickF (v := .bool (false)) (b := (((sum_16 == r9.1) && (many_28 == (r11.1.len : Int))) && (r45.2 == (0 : Int)))) rfl rfl hb50 rfl) ?_
              refine ro_nil ?_
              exact ⟨(false), _, arr (upd_step (upd_step (upd_step (upd_step rfl rfl) rfl) rfl) rfl), h⟩

end Go.Proofs.Ytleehieomicicaa.Cf
