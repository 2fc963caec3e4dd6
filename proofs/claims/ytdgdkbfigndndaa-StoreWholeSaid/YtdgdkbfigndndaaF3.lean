/- Characteristic formulae of Go functions, and that they are. Printed by gen.py (own tool). -/
import Derived.Test.YtdgdkbfigndndaaTy
namespace Go.Proofs.Ytdgdkbfigndndaa.Cf
open Go
set_option maxRecDepth 100000
set_option maxHeartbeats 1000000
set_option linter.unusedVariables false
set_option linter.unusedSimpArgs false

-- moiety/moietylaw12.StoreAgrees
def F7_l4 (at_2 : Int) (r4 : (Option Addr)) (r8 : (Slc × Int)) (a41 : Addr) (k_44 : Int) (in_48 : Bool) (j_49 : Int) (w50 : World) (K46 : Int → World → Prop) (K51 : Bool × Int → World → Prop) (R : Bool → World → Prop) : Prop :=
  if (decide (j_49 < (r8.1.len : Int))) = true then (
    dr w50 fun w52 =>
    ex (fun x => (!in_48) = true → (IxA r8.1 2 j_49) x) fun a53 =>
    ex (fun x => (!in_48) = true → (RdAt (tInt .i64) (a53.add 0) w52) x) fun x54 =>
    ex (fun x => (!in_48) = true → (RdAt tSlc (a41.add 3) w52) x) fun x55 =>
    ex (fun x => (!in_48) = true → (IxA x55 2 k_44) x) fun a56 =>
    ex (fun x => (!in_48) = true → (RdAt (tInt .i64) (a56.add 0) w52) x) fun x57 =>
    K51 ((in_48 || (x54 == x57)), (IntKind.i64.wrap (j_49 + (1 : Int)))) w52
  ) else (
    ex (RdAt tSlc (a41.add 3) w50) fun x58 =>
    ex (IxA x58 2 k_44) fun a59 =>
    ex (RdAt (tInt .i64) (a59.add 0) w50) fun x60 =>
    cl Try.prog 25 [.pointer (r4), .int .i64 (x60), .int .i64 (at_2)] (tTup2 T35 (tInt .i64)) w50 fun r62 w61 =>
    nw 36 T35 Z35 w61 fun a63 w64 =>
    st T35 a63 r62.1 w64 fun w65 =>
    if (((!in_48) && (r62.2 != (127 : Int))) && (r62.2 != (123 : Int))) = true then (
      R false w65
    ) else (
      K46 ((IntKind.i64.wrap (k_44 + (1 : Int)))) w65
    )
  )
def F7_l3 (at_2 : Int) (r4 : (Option Addr)) (r8 : (Slc × Int)) (i_34 : Int) (a41 : Addr) (k_44 : Int) (w45 : World) (K36 : Int → World → Prop) (K46 : Int → World → Prop) (R : Bool → World → Prop) : Prop :=
  ex (RdAt tSlc (a41.add 3) w45) fun x47 =>
  if (decide (k_44 < (x47.len : Int))) = true then (
    lp (fun (s : Bool × Int) w K => F7_l4 at_2 r4 r8 a41 k_44 s.1 s.2 w K46 K R) (false, (0 : Int)) w45
  ) else (
    K36 ((IntKind.i64.wrap (i_34 + (1 : Int)))) w45
  )
def F7_l2 (l_1 : Slc) (at_2 : Int) (r4 : (Option Addr)) (r8 : (Slc × Int)) (i_34 : Int) (w35 : World) (K36 : Int → World → Prop) (R : Bool → World → Prop) : Prop :=
  if ((decide (i_34 < (l_1.len : Int))) && (decide (i_34 < (30 : Int)))) = true then (
    ex (IxA l_1 4 i_34) fun a37 =>
    ex (RdAt T32 a37 w35) fun x38 =>
    cl Try.prog 12 [T32.enc (x38)] T32 w35 fun r40 w39 =>
    nw 33 T32 Z32 w39 fun a41 w42 =>
    st T32 a41 r40 w42 fun w43 =>
    lp (fun (s : Int) w K => F7_l3 at_2 r4 r8 i_34 a41 s w K36 K R) ((0 : Int)) w43
  ) else (
    R true w35
  )
def F7_l1 (l_1 : Slc) (at_2 : Int) (r4 : (Option Addr)) (r8 : (Slc × Int)) (i_14 : Int) (w15 : World) (K16 : Int → World → Prop) (R : Bool → World → Prop) : Prop :=
  if (decide (i_14 < (r8.1.len : Int))) = true then (
    ex (IxA r8.1 2 i_14) fun a17 =>
    ex (RdAt (tInt .i64) (a17.add 0) w15) fun x18 =>
    cl Try.prog 25 [.pointer (r4), .int .i64 (x18), .int .i64 (at_2)] (tTup2 T35 (tInt .i64)) w15 fun r20 w19 =>
    nw 36 T35 Z35 w19 fun a21 w22 =>
    st T35 a21 r20.1 w22 fun w23 =>
    dr w23 fun w24 =>
    ex (fun x => (!(r20.2 != (0 : Int))) = true → (IxA r8.1 2 i_14) x) fun a25 =>
    ex (fun x => (!(r20.2 != (0 : Int))) = true → (RdAt (tInt .i64) (a21.add 1) w24) x) fun x26 =>
    ex (fun x => (!(r20.2 != (0 : Int))) = true → (RdAt (tInt .i64) (a25.add 1) w24) x) fun x27 =>
    ex (fun x => (!((r20.2 != (0 : Int)) || (x26 != x27))) = true → (RdAt (tInt .i64) (a21.add 0) w24) x) fun x28 =>
    ex (fun x => ((!(((r20.2 != (0 : Int)) || (x26 != x27)) || (decide (x28 > at_2)))) && (decide (i_14 > (0 : Int)))) = true → (IxA r8.1 2 (IntKind.i64.wrap (i_14 - (1 : Int)))) x) fun a29 =>
    ex (fun x => ((!(((r20.2 != (0 : Int)) || (x26 != x27)) || (decide (x28 > at_2)))) && (decide (i_14 > (0 : Int)))) = true → (IxA r8.1 2 i_14) x) fun a30 =>
    ex (fun x => ((!(((r20.2 != (0 : Int)) || (x26 != x27)) || (decide (x28 > at_2)))) && (decide (i_14 > (0 : Int)))) = true → (RdAt (tInt .i64) (a29.add 0) w24) x) fun x31 =>
    ex (fun x => ((!(((r20.2 != (0 : Int)) || (x26 != x27)) || (decide (x28 > at_2)))) && (decide (i_14 > (0 : Int)))) = true → (RdAt (tInt .i64) (a30.add 0) w24) x) fun x32 =>
    if ((((r20.2 != (0 : Int)) || (x26 != x27)) || (decide (x28 > at_2))) || ((decide (i_14 > (0 : Int))) && (decide (x31 ≥ x32)))) = true then (
      R false w24
    ) else (
      K16 ((IntKind.i64.wrap (i_14 + (1 : Int)))) w24
    )
  ) else (
    lp (fun (s : Int) w K => F7_l2 l_1 at_2 r4 r8 s w K R) ((0 : Int)) w15
  )
def F7 (l_1 : Slc) (at_2 : Int) (w : World) (R : Bool → World → Prop) : Prop :=
  cl Try.prog 21 [tSlc.enc (l_1)] tPtr w fun r4 w3 =>
  cl Try.prog 10 [] tBool w3 fun r6 w5 =>
  if ((!r6) || r4.isNone) = true then (
    R false w5
  ) else (
    cl Try.prog 18 [.pointer (r4), .int .i64 (at_2)] (tTup2 tSlc (tInt .i64)) w5 fun r8 w7 =>
    if (r8.2 != (0 : Int)) = true then (
      cl Try.prog 25 [.pointer (r4), .int .i64 ((0 : Int)), .int .i64 (at_2)] (tTup2 T35 (tInt .i64)) w7 fun r10 w9 =>
      nw 36 T35 Z35 w9 fun a11 w12 =>
      st T35 a11 r10.1 w12 fun w13 =>
      R (((r8.1.len : Int) == (0 : Int)) && (r10.2 == r8.2)) w13
    ) else (
      lp (fun (s : Int) w K => F7_l1 l_1 at_2 r4 r8 s w K R) ((0 : Int)) w7
    )
  )
theorem F7_ok {l_1 : Slc} {at_2 : Int} {w : World} {R : Bool → World → Prop} (h : F7 l_1 at_2 w R) : cl Try.prog 7 [tSlc.enc (l_1), .int .i64 (at_2)] tBool w R := by
  unfold F7 at h
  refine calls_start 168 Try.func7 rfl rfl (Nat.le_of_ble_eq_true rfl) ?_
  refine wp_seq ?_
  refine wp_text [0] rfl ?_
  refine ro_val (d := (some 4)) rfl (.free rfl) rfl (q_assign (v := .bool (false)) rfl rfl) ?_
  refine ro_nil ?_
  refine wp_seq ?_
  refine wp_text [0, 1, 2] rfl ?_
  refine ro_val (d := (some 20)) rfl (.free rfl) rfl (q_move (v := tSlc.enc (l_1)) rfl rfl) ?_
  refine ro_wp rfl (.free rfl) (wp_cl (d := (some 21)) rfl (q_call (k := 21) (l := [tSlc.enc (l_1)]) rfl ent21 rfl) h ?_)
  intro r4 w3 h
  refine ro_val (d := (some 5)) rfl (.free rfl) rfl (q_assign (v := .pointer (r4)) rfl rfl) ?_
  refine ro_nil ?_
  refine wp_seq ?_
  refine wp_seq ?_
  refine wp_text [0, 1, 2, 3, 4, 5] rfl ?_
  refine ro_wp rfl (.free rfl) (wp_cl (d := (some 22)) rfl (q_call (k := 10) (l := []) rfl ent10 rfl) h ?_)
  intro r6 w5 h
  refine ro_val (d := (some 23)) rfl (.free rfl) rfl (q_not (b := r6) rfl rfl) ?_
  refine ro_val (d := (some 24)) rfl (.free rfl) rfl (q_move (v := .bool ((!r6))) rfl rfl) ?_
  refine ro_gval (g := (!(!r6))) (d := (some 25)) rfl (.no 2 24 true (!r6) rfl rfl rfl rfl) rfl (fun hg => q_move (v := .pointer (r4)) rfl rfl) ?_
  refine ro_gval (g := (!(!r6))) (d := (some 26)) rfl (.no 2 24 true (!r6) rfl rfl rfl rfl) rfl (fun hg => q_eqP0 (a := r4) rfl Try.underlying23 (gvb_yes hg) rfl) ?_
  refine ro_val (d := (some 27)) rfl (.free rfl) rfl (q_pickGF (a := (!r6)) (c := r4.isNone) rfl rfl rfl rfl) ?_
  refine ro_nil ?_
  refine wp_if (b := ((!r6) || r4.isNone)) rfl h (fun hb72 h => ?_) (fun hb72 h => ?_)
  · refine wp_seq ?_
    refine wp_text [0] rfl ?_
    refine ro_val (d := (some 4)) rfl (.free rfl) rfl (q_assign (v := .bool (false)) rfl rfl) ?_
    refine ro_nil ?_
    refine wp_ret ?_
    exact ret_ok rfl (.cons (.tmp (v := .bool (false)) rfl) .nil) ⟨false, rfl, h⟩
  · refine wp_skip ?_
    refine wp_seq ?_
    refine wp_text [0, 1, 2, 3, 4, 5, 6, 7] rfl ?_
    refine ro_val (d := (some 29)) rfl (.free rfl) rfl (q_move (v := .pointer (r4)) rfl rfl) ?_
    refine ro_val (d := (some 30)) rfl (.free rfl) rfl (q_move (v := .int .i64 (at_2)) rfl rfl) ?_
    refine ro_wp rfl (.free rfl) (wp_cl (d := (some 31)) rfl (q_call (k := 18) (l := [.pointer (r4), .int .i64 (at_2)]) rfl ent18 rfl) h ?_)
    intro r8 w7 h
    refine ro_val (d := (some 28)) rfl (.free rfl) rfl (q_move (v := (tTup2 tSlc (tInt .i64)).enc (r8)) rfl rfl) ?_
    refine ro_val (d := (some 32)) rfl (.free rfl) rfl (q_extract (vs := #[tSlc.enc (r8.1), .int .i64 (r8.2)]) (v := tSlc.enc (r8.1)) rfl rfl rfl) ?_
    refine ro_val (d := (some 33)) rfl (.free rfl) rfl (q_extract (vs := #[tSlc.enc (r8.1), .int .i64 (r8.2)]) (v := .int .i64 (r8.2)) rfl rfl rfl) ?_
    refine ro_val (d := (some 6)) rfl (.free rfl) rfl (q_assign (v := tSlc.enc (r8.1)) rfl rfl) ?_
    refine ro_val (d := (some 7)) rfl (.free rfl) rfl (q_assign (v := .int .i64 (r8.2)) rfl rfl) ?_
    refine ro_nil ?_
    refine wp_seq ?_
    refine wp_seq ?_
    refine wp_text [0, 1] rfl ?_
    refine ro_val (d := (some 34)) rfl (.free rfl) rfl (q_move (v := .int .i64 (r8.2)) rfl rfl) ?_
    refine ro_val (d := (some 35)) rfl (.free rfl) rfl (q_neq (a := r8.2) (b := (0 : Int)) rfl rfl rfl) ?_
    refine ro_nil ?_
    refine wp_if (b := (r8.2 != (0 : Int))) rfl h (fun hb71 h => ?_) (fun hb71 h => ?_)
    · refine wp_seq ?_
      refine wp_text [0, 1, 2, 3, 4, 5, 6, 7, 8] rfl ?_
      refine ro_val (d := (some 37)) rfl (.free rfl) rfl (q_move (v := .pointer (r4)) rfl rfl) ?_
      refine ro_val (d := (some 38)) rfl (.free rfl) rfl (q_move (v := .int .i64 (at_2)) rfl rfl) ?_
      refine ro_wp rfl (.free rfl) (wp_cl (d := (some 39)) rfl (q_call (k := 25) (l := [.pointer (r4), .int .i64 ((0 : Int)), .int .i64 (at_2)]) rfl ent25 rfl) h ?_)
      intro r10 w9 h
      refine ro_val (d := (some 36)) rfl (.free rfl) rfl (q_move (v := (tTup2 T35 (tInt .i64)).enc (r10)) rfl rfl) ?_
      refine ro_val (d := (some 40)) rfl (.free rfl) rfl (q_extract (vs := #[T35.enc (r10.1), .int .i64 (r10.2)]) (v := T35.enc (r10.1)) rfl rfl rfl) ?_
      refine ro_val (d := (some 41)) rfl (.free rfl) rfl (q_extract (vs := #[T35.enc (r10.1), .int .i64 (r10.2)]) (v := .int .i64 (r10.2)) rfl rfl rfl) ?_
      obtain ⟨a11, w12, ha11, hw12, h⟩ := nw_open h
      refine ro_val (d := (some 8)) rfl (.free rfl) rfl (q_alloc (u := Z35) rfl ok36 inf36 ha11 hw12) ?_
      obtain ⟨w13, hw13, hrw13, h⟩ := st_open h
      refine ro_skip (d := none) rfl (.free rfl) rfl (q_store (T := T35) (u := r10.1) (a := a11) rfl ok36 rfl rfl hrw13 hw13) ?_
      refine ro_val (d := (some 9)) rfl (.free rfl) rfl (q_assign (v := .int .i64 (r10.2)) rfl rfl) ?_
      refine ro_nil ?_
      refine wp_seq ?_
      refine wp_text [0, 1, 2, 3, 4, 5, 6, 7, 8] rfl ?_
      refine ro_val (d := (some 42)) rfl (.free rfl) rfl (q_move (v := tSlc.enc (r8.1)) rfl rfl) ?_
      refine ro_val (d := (some 43)) rfl (.free rfl) rfl (q_len (s := r8.1) rfl Try.underlying31 rfl) ?_
      refine ro_val (d := (some 44)) rfl (.free rfl) rfl (q_eql (a := (r8.1.len : Int)) (b := (0 : Int)) rfl rfl rfl) ?_
      refine ro_val (d := (some 45)) rfl (.free rfl) rfl (q_move (v := .bool (((r8.1.len : Int) == (0 : Int)))) rfl rfl) ?_
      refine ro_gval (g := ((r8.1.len : Int) == (0 : Int))) (d := (some 46)) rfl (.yes 3 45 true ((r8.1.len : Int) == (0 : Int)) rfl rfl rfl rfl) rfl (fun hg => q_move (v := .int .i64 (r10.2)) rfl rfl) ?_
      refine ro_gval (g := ((r8.1.len : Int) == (0 : Int))) (d := (some 47)) rfl (.yes 3 45 true ((r8.1.len : Int) == (0 : Int)) rfl rfl rfl rfl) rfl (fun hg => q_move (v := .int .i64 (r8.2)) rfl rfl) ?_
      refine ro_gval (g := ((r8.1.len : Int) == (0 : Int))) (d := (some 48)) rfl (.yes 3 45 true ((r8.1.len : Int) == (0 : Int)) rfl rfl rfl rfl) rfl (fun hg => q_eql (a := r10.2) (b := r8.2) rfl (gvb_yes hg) (gvb_yes hg)) ?_
      refine ro_val (d := (some 49)) rfl (.free rfl) rfl (q_pickGT (a := ((r8.1.len : Int) == (0 : Int))) (b := (r10.2 == r8.2)) rfl rfl rfl rfl) ?_
      refine ro_val (d := (some 4)) rfl (.free rfl) rfl (q_assign (v := .bool ((((r8.1.len : Int) == (0 : Int)) && (r10.2 == r8.2)))) rfl rfl) ?_
      refine ro_nil ?_
      refine wp_ret ?_
      exact ret_ok rfl (.cons (.tmp (v := .bool ((((r8.1.len : Int) == (0 : Int)) && (r10.2 == r8.2)))) rfl) .nil) ⟨(((r8.1.len : Int) == (0 : Int)) && (r10.2 == r8.2)), rfl, h⟩
    · refine wp_skip ?_
      refine wp_seq ?_
      refine wp_seq ?_
      refine wp_text [0] rfl ?_
      refine ro_val (d := (some 10)) rfl (.free rfl) rfl (q_assign (v := .int .i64 ((0 : Int))) rfl rfl) ?_
      refine ro_nil ?_
      refine wp_block ?_
      refine loop_at (σ := Int) (fr := fun g (s : Int) => upd (upd (upd (upd (upd (g) 0 (tSlc.enc (l_1))) 1 (.int .i64 (at_2))) 5 (.pointer (r4))) 6 (tSlc.enc (r8.1))) 10 (.int .i64 (s))) (s0 := ((0 : Int))) (upd_step (upd_step (upd_step (upd_step (upd_step rfl rfl) rfl) rfl) rfl) rfl) h ?_
      rintro i_14 g w15 K16 h
      unfold F7_l1 at h
      refine wp_seq ?_
      refine wp_seq ?_
      refine wp_text [0, 1, 2, 3] rfl ?_
      refine ro_val (d := (some 50)) rfl (.free rfl) rfl (q_move (v := .int .i64 (i_14)) rfl rfl) ?_
      refine ro_val (d := (some 51)) rfl (.free rfl) rfl (q_move (v := tSlc.enc (r8.1)) rfl rfl) ?_
      refine ro_val (d := (some 52)) rfl (.free rfl) rfl (q_len (s := r8.1) rfl Try.underlying31 rfl) ?_
      refine ro_val (d := (some 53)) rfl (.free rfl) rfl (q_lss (a := i_14) (b := (r8.1.len : Int)) rfl rfl rfl) ?_
      refine ro_nil ?_
      refine wp_if (b := (decide (i_14 < (r8.1.len : Int)))) rfl h (fun hb70 h => ?_) (fun hb70 h => ?_)
      · refine wp_skip ?_
        refine wp_seq ?_
        refine wp_block ?_
        refine wp_seq ?_
        refine wp_text [0, 1, 2, 3, 4, 5, 6, 7, 8, 9, 10, 11, 12, 13] rfl ?_
        refine ro_val (d := (some 57)) rfl (.free rfl) rfl (q_move (v := .pointer (r4)) rfl rfl) ?_
        refine ro_val (d := (some 58)) rfl (.free rfl) rfl (q_move (v := tSlc.enc (r8.1)) rfl rfl) ?_
        refine ro_val (d := (some 59)) rfl (.free rfl) rfl (q_move (v := .int .i64 (i_14)) rfl rfl) ?_
        obtain ⟨a17, ha17, h⟩ := h
        refine ro_val (d := (some 60)) rfl (.free rfl) rfl (q_indexAddr (s := r8.1) (i := i_14) rfl Try.underlying31 ok58 rfl rfl ha17) ?_
        refine ro_val (d := (some 61)) rfl (.free rfl) rfl (q_fieldAddr (a := a17) (off := 0) rfl Try.underlying58 rfl rfl ok3 (by decide) rfl) ?_
        obtain ⟨x18, hx18, h⟩ := h
        refine ro_val (d := (some 62)) rfl (.free rfl) rfl (q_load (T := (tInt .i64)) (u := x18) (a := (a17.add 0)) rfl ok3 rfl hx18) ?_
        refine ro_val (d := (some 63)) rfl (.free rfl) rfl (q_move (v := .int .i64 (at_2)) rfl rfl) ?_
        refine ro_wp rfl (.free rfl) (wp_cl (d := (some 64)) rfl (q_call (k := 25) (l := [.pointer (r4), .int .i64 (x18), .int .i64 (at_2)]) rfl ent25 rfl) h ?_)
        intro r20 w19 h
        refine ro_val (d := (some 56)) rfl (.free rfl) rfl (q_move (v := (tTup2 T35 (tInt .i64)).enc (r20)) rfl rfl) ?_
        refine ro_val (d := (some 65)) rfl (.free rfl) rfl (q_extract (vs := #[T35.enc (r20.1), .int .i64 (r20.2)]) (v := T35.enc (r20.1)) rfl rfl rfl) ?_
        refine ro_val (d := (some 66)) rfl (.free rfl) rfl (q_extract (vs := #[T35.enc (r20.1), .int .i64 (r20.2)]) (v := .int .i64 (r20.2)) rfl rfl rfl) ?_
        obtain ⟨a21, w22, ha21, hw22, h⟩ := nw_open h
        refine ro_val (d := (some 11)) rfl (.free rfl) rfl (q_alloc (u := Z35) rfl ok36 inf36 ha21 hw22) ?_
        obtain ⟨w23, hw23, hrw23, h⟩ := st_open h
        refine ro_skip (d := none) rfl (.free rfl) rfl (q_store (T := T35) (u := r20.1) (a := a21) rfl ok36 rfl rfl hrw23 hw23) ?_
        refine ro_val (d := (some 12)) rfl (.free rfl) rfl (q_assign (v := .int .i64 (r20.2)) rfl rfl) ?_
        refine ro_nil ?_
        refine wp_seq ?_
        obtain ⟨w24, hw24, h⟩ := dr_open h
        refine wp_drawn 36 mixed rfl (by kernel_rfl) (by intro c a d v w h; cases d <;> exact h) hw24 (fun hD => ?_)
        refine rd_pure (i := 0) (d := (some 67)) hD (by kernel_rfl) (by kernel_rfl) rfl (.free rfl) rfl (fun _ => q_move (v := .int .i64 (r20.2)) rfl rfl) ?_
        refine rd_pure (i := 1) (d := (some 68)) hD (by kernel_rfl) (by kernel_rfl) rfl (.free rfl) rfl (fun _ => q_neq (a := r20.2) (b := (0 : Int)) rfl rfl rfl) ?_
        refine rd_pure (i := 2) (d := (some 69)) hD (by kernel_rfl) (by kernel_rfl) rfl (.free rfl) rfl (fun _ => q_move (v := .bool ((r20.2 != (0 : Int)))) rfl rfl) ?_
        refine rd_gpure (i := 3) (g := (!(r20.2 != (0 : Int)))) (d := (some 70)) hD (by kernel_rfl) (by kernel_rfl) rfl (.no 2 69 true (r20.2 != (0 : Int)) rfl rfl rfl rfl) rfl (fun hg _ => q_fieldAddr (a := a21) (off := 1) rfl Try.underlying36 rfl rfl ok2 (by decide) rfl) ?_
        refine rd_gpure (i := 5) (g := (!(r20.2 != (0 : Int)))) (d := (some 72)) hD (by kernel_rfl) (by kernel_rfl) rfl (.no 2 69 true (r20.2 != (0 : Int)) rfl rfl rfl rfl) rfl (fun hg _ => q_move (v := tSlc.enc (r8.1)) rfl rfl) ?_
        refine rd_gpure (i := 6) (g := (!(r20.2 != (0 : Int)))) (d := (some 73)) hD (by kernel_rfl) (by kernel_rfl) rfl (.no 2 69 true (r20.2 != (0 : Int)) rfl rfl rfl rfl) rfl (fun hg _ => q_move (v := .int .i64 (i_14)) rfl rfl) ?_
        obtain ⟨a25, ha25, h⟩ := h
        refine rd_gpure (i := 7) (g := (!(r20.2 != (0 : Int)))) (d := (some 74)) hD (by kernel_rfl) (by kernel_rfl) rfl (.no 2 69 true (r20.2 != (0 : Int)) rfl rfl rfl rfl) rfl (fun hg _ => q_indexAddr (s := r8.1) (i := i_14) rfl Try.underlying31 ok58 (gvb_yes hg) (gvb_yes hg) (ha25 hg)) ?_
        refine rd_gpure (i := 8) (g := (!(r20.2 != (0 : Int)))) (d := (some 75)) hD (by kernel_rfl) (by kernel_rfl) rfl (.no 2 69 true (r20.2 != (0 : Int)) rfl rfl rfl rfl) rfl (fun hg _ => q_fieldAddr (a := a25) (off := 1) rfl Try.underlying58 rfl rfl ok2 (by decide) (gvb_yes hg)) ?_
        obtain ⟨x26, hx26, h⟩ := h
        refine rd_gread (i := 4) (g := (!(r20.2 != (0 : Int)))) (d := (some 71)) (fun W => (RdAt (tInt .i64) (a21.add 1) W) x26) hD (by kernel_rfl) (by kernel_rfl) rfl (.no 2 69 true (r20.2 != (0 : Int)) rfl rfl rfl rfl) rfl (fun hg W hr => q_load (T := (tInt .i64)) (u := x26) (a := (a21.add 1)) rfl ok2 (gvb_yes hg) hr) hx26 ?_
        obtain ⟨x27, hx27, h⟩ := h
        refine rd_gread (i := 9) (g := (!(r20.2 != (0 : Int)))) (d := (some 76)) (fun W => (RdAt (tInt .i64) (a25.add 1) W) x27) hD (by kernel_rfl) (by kernel_rfl) rfl (.no 2 69 true (r20.2 != (0 : Int)) rfl rfl rfl rfl) rfl (fun hg W hr => q_load (T := (tInt .i64)) (u := x27) (a := (a25.add 1)) rfl ok2 (gvb_yes hg) hr) hx27 ?_
        refine rd_gpure (i := 10) (g := (!(r20.2 != (0 : Int)))) (d := (some 77)) hD (by kernel_rfl) (by kernel_rfl) rfl (.no 2 69 true (r20.2 != (0 : Int)) rfl rfl rfl rfl) rfl (fun hg _ => q_neq (a := x26) (b := x27) rfl (gvb_yes hg) (gvb_yes hg)) ?_
        refine rd_pure (i := 11) (d := (some 78)) hD (by kernel_rfl) (by kernel_rfl) rfl (.free rfl) rfl (fun _ => q_pickGF (a := (r20.2 != (0 : Int))) (c := (x26 != x27)) rfl rfl rfl rfl) ?_
        refine rd_pure (i := 12) (d := (some 79)) hD (by kernel_rfl) (by kernel_rfl) rfl (.free rfl) rfl (fun _ => q_move (v := .bool (((r20.2 != (0 : Int)) || (x26 != x27)))) rfl rfl) ?_
        refine rd_gpure (i := 13) (g := (!((r20.2 != (0 : Int)) || (x26 != x27)))) (d := (some 80)) hD (by kernel_rfl) (by kernel_rfl) rfl (.no 12 79 true ((r20.2 != (0 : Int)) || (x26 != x27)) rfl rfl rfl rfl) rfl (fun hg _ => q_fieldAddr (a := a21) (off := 0) rfl Try.underlying36 rfl rfl ok2 (by decide) rfl) ?_
        refine rd_gpure (i := 15) (g := (!((r20.2 != (0 : Int)) || (x26 != x27)))) (d := (some 82)) hD (by kernel_rfl) (by kernel_rfl) rfl (.no 12 79 true ((r20.2 != (0 : Int)) || (x26 != x27)) rfl rfl rfl rfl) rfl (fun hg _ => q_move (v := .int .i64 (at_2)) rfl rfl) ?_
        obtain ⟨x28, hx28, h⟩ := h
        refine rd_gread (i := 14) (g := (!((r20.2 != (0 : Int)) || (x26 != x27)))) (d := (some 81)) (fun W => (RdAt (tInt .i64) (a21.add 0) W) x28) hD (by kernel_rfl) (by kernel_rfl) rfl (.no 12 79 true ((r20.2 != (0 : Int)) || (x26 != x27)) rfl rfl rfl rfl) rfl (fun hg W hr => q_load (T := (tInt .i64)) (u := x28) (a := (a21.add 0)) rfl ok2 (gvb_yes hg) hr) hx28 ?_
        refine rd_gpure (i := 16) (g := (!((r20.2 != (0 : Int)) || (x26 != x27)))) (d := (some 83)) hD (by kernel_rfl) (by kernel_rfl) rfl (.no 12 79 true ((r20.2 != (0 : Int)) || (x26 != x27)) rfl rfl rfl rfl) rfl (fun hg _ => q_gtr (a := x28) (b := at_2) rfl (gvb_yes hg) (gvb_yes hg)) ?_
        refine rd_pure (i := 17) (d := (some 84)) hD (by kernel_rfl) (by kernel_rfl) rfl (.free rfl) rfl (fun _ => q_pickGF (a := ((r20.2 != (0 : Int)) || (x26 != x27))) (c := (decide (x28 > at_2))) rfl rfl rfl rfl) ?_
        refine rd_pure (i := 18) (d := (some 85)) hD (by kernel_rfl) (by kernel_rfl) rfl (.free rfl) rfl (fun _ => q_move (v := .bool ((((r20.2 != (0 : Int)) || (x26 != x27)) || (decide (x28 > at_2))))) rfl rfl) ?_
        refine rd_gpure (i := 19) (g := (!(((r20.2 != (0 : Int)) || (x26 != x27)) || (decide (x28 > at_2))))) (d := (some 86)) hD (by kernel_rfl) (by kernel_rfl) rfl (.no 18 85 true (((r20.2 != (0 : Int)) || (x26 != x27)) || (decide (x28 > at_2))) rfl rfl rfl rfl) rfl (fun hg _ => q_move (v := .int .i64 (i_14)) rfl rfl) ?_
        refine rd_gpure (i := 20) (g := (!(((r20.2 != (0 : Int)) || (x26 != x27)) || (decide (x28 > at_2))))) (d := (some 87)) hD (by kernel_rfl) (by kernel_rfl) rfl (.no 18 85 true (((r20.2 != (0 : Int)) || (x26 != x27)) || (decide (x28 > at_2))) rfl rfl rfl rfl) rfl (fun hg _ => q_gtr (a := i_14) (b := (0 : Int)) rfl (gvb_yes hg) rfl) ?_
        refine rd_gpure (i := 21) (g := (!(((r20.2 != (0 : Int)) || (x26 != x27)) || (decide (x28 > at_2))))) (d := (some 88)) hD (by kernel_rfl) (by kernel_rfl) rfl (.no 18 85 true (((r20.2 != (0 : Int)) || (x26 != x27)) || (decide (x28 > at_2))) rfl rfl rfl rfl) rfl (fun hg _ => q_move (v := .bool ((decide (i_14 > (0 : Int))))) rfl (gvb_yes hg)) ?_
        refine rd_gpure (i := 22) (g := ((!(((r20.2 != (0 : Int)) || (x26 != x27)) || (decide (x28 > at_2)))) && (decide (i_14 > (0 : Int))))) (d := (some 89)) hD (by kernel_rfl) (by kernel_rfl) rfl (.yes 21 88 (!(((r20.2 != (0 : Int)) || (x26 != x27)) || (decide (x28 > at_2)))) (decide (i_14 > (0 : Int))) rfl rfl rfl rfl) rfl (fun hg _ => q_move (v := tSlc.enc (r8.1)) rfl rfl) ?_
        refine rd_gpure (i := 23) (g := ((!(((r20.2 != (0 : Int)) || (x26 != x27)) || (decide (x28 > at_2)))) && (decide (i_14 > (0 : Int))))) (d := (some 90)) hD (by kernel_rfl) (by kernel_rfl) rfl (.yes 21 88 (!(((r20.2 != (0 : Int)) || (x26 != x27)) || (decide (x28 > at_2)))) (decide (i_14 > (0 : Int))) rfl rfl rfl rfl) rfl (fun hg _ => q_move (v := .int .i64 (i_14)) rfl rfl) ?_
        refine rd_gpure (i := 24) (g := ((!(((r20.2 != (0 : Int)) || (x26 != x27)) || (decide (x28 > at_2)))) && (decide (i_14 > (0 : Int))))) (d := (some 91)) hD (by kernel_rfl) (by kernel_rfl) rfl (.yes 21 88 (!(((r20.2 != (0 : Int)) || (x26 != x27)) || (decide (x28 > at_2)))) (decide (i_14 > (0 : Int))) rfl rfl rfl rfl) rfl (fun hg _ => q_sub (a := i_14) (b := (1 : Int)) rfl (gvb_yes hg) rfl) ?_
        obtain ⟨a29, ha29, h⟩ := h
        refine rd_gpure (i := 25) (g := ((!(((r20.2 != (0 : Int)) || (x26 != x27)) || (decide (x28 > at_2)))) && (decide (i_14 > (0 : Int))))) (d := (some 92)) hD (by kernel_rfl) (by kernel_rfl) rfl (.yes 21 88 (!(((r20.2 != (0 : Int)) || (x26 != x27)) || (decide (x28 > at_2)))) (decide (i_14 > (0 : Int))) rfl rfl rfl rfl) rfl (fun hg _ => q_indexAddr (s := r8.1) (i := (IntKind.i64.wrap (i_14 - (1 : Int)))) rfl Try.underlying31 ok58 (gvb_yes hg) (gvb_yes hg) (ha29 hg)) ?_
        refine rd_gpure (i := 26) (g := ((!(((r20.2 != (0 : Int)) || (x26 != x27)) || (decide (x28 > at_2)))) && (decide (i_14 > (0 : Int))))) (d := (some 93)) hD (by kernel_rfl) (by kernel_rfl) rfl (.yes 21 88 (!(((r20.2 != (0 : Int)) || (x26 != x27)) || (decide (x28 > at_2)))) (decide (i_14 > (0 : Int))) rfl rfl rfl rfl) rfl (fun hg _ => q_fieldAddr (a := a29) (off := 0) rfl Try.underlying58 rfl rfl ok3 (by decide) (gvb_yes hg)) ?_
        refine rd_gpure (i := 28) (g := ((!(((r20.2 != (0 : Int)) || (x26 != x27)) || (decide (x28 > at_2)))) && (decide (i_14 > (0 : Int))))) (d := (some 95)) hD (by kernel_rfl) (by kernel_rfl) rfl (.yes 21 88 (!(((r20.2 != (0 : Int)) || (x26 != x27)) || (decide (x28 > at_2)))) (decide (i_14 > (0 : Int))) rfl rfl rfl rfl) rfl (fun hg _ => q_move (v := tSlc.enc (r8.1)) rfl rfl) ?_
        refine rd_gpure (i := 29) (g := ((!(((r20.2 != (0 : Int)) || (x26 != x27)) || (decide (x28 > at_2)))) && (decide (i_14 > (0 : Int))))) (d := (some 96)) hD (by kernel_rfl) (by kernel_rfl) rfl (.yes 21 88 (!(((r20.2 != (0 : Int)) || (x26 != x27)) || (decide (x28 > at_2)))) (decide (i_14 > (0 : Int))) rfl rfl rfl rfl) rfl (fun hg _ => q_move (v := .int .i64 (i_14)) rfl rfl) ?_
        obtain ⟨a30, ha30, h⟩ := h
        refine rd_gpure (i := 30) (g := ((!(((r20.2 != (0 : Int)) || (x26 != x27)) || (decide (x28 > at_2)))) && (decide (i_14 > (0 : Int))))) (d := (some 97)) hD (by kernel_rfl) (by kernel_rfl) rfl (.yes 21 88 (!(((r20.2 != (0 : Int)) || (x26 != x27)) || (decide (x28 > at_2)))) (decide (i_14 > (0 : Int))) rfl rfl rfl rfl) rfl (fun hg _ => q_indexAddr (s := r8.1) (i := i_14) rfl Try.underlying31 ok58 (gvb_yes hg) (gvb_yes hg) (ha30 hg)) ?_
        refine rd_gpure (i := 31) (g := ((!(((r20.2 != (0 : Int)) || (x26 != x27)) || (decide (x28 > at_2)))) && (decide (i_14 > (0 : Int))))) (d := (some 98)) hD (by kernel_rfl) (by kernel_rfl) rfl (.yes 21 88 (!(((r20.2 != (0 : Int)) || (x26 != x27)) || (decide (x28 > at_2)))) (decide (i_14 > (0 : Int))) rfl rfl rfl rfl) rfl (fun hg _ => q_fieldAddr (a := a30) (off := 0) rfl Try.underlying58 rfl rfl ok3 (by decide) (gvb_yes hg)) ?_
        obtain ⟨x31, hx31, h⟩ := h
        refine rd_gread (i := 27) (g := ((!(((r20.2 != (0 : Int)) || (x26 != x27)) || (decide (x28 > at_2)))) && (decide (i_14 > (0 : Int))))) (d := (some 94)) (fun W => (RdAt (tInt .i64) (a29.add 0) W) x31) hD (by kernel_rfl) (by kernel_rfl) rfl (.yes 21 88 (!(((r20.2 != (0 : Int)) || (x26 != x27)) || (decide (x28 > at_2)))) (decide (i_14 > (0 : Int))) rfl rfl rfl rfl) rfl (fun hg W hr => q_load (T := (tInt .i64)) (u := x31) (a := (a29.add 0)) rfl ok3 (gvb_yes hg) hr) hx31 ?_
        obtain ⟨x32, hx32, h⟩ := h
        refine rd_gread (i := 32) (g := ((!(((r20.2 != (0 : Int)) || (x26 != x27)) || (decide (x28 > at_2)))) && (decide (i_14 > (0 : Int))))) (d := (some 99)) (fun W => (RdAt (tInt .i64) (a30.add 0) W) x32) hD (by kernel_rfl) (by kernel_rfl) rfl (.yes 21 88 (!(((r20.2 != (0 : Int)) || (x26 != x27)) || (decide (x28 > at_2)))) (decide (i_14 > (0 : Int))) rfl rfl rfl rfl) rfl (fun hg W hr => q_load (T := (tInt .i64)) (u := x32) (a := (a30.add 0)) rfl ok3 (gvb_yes hg) hr) hx32 ?_
        refine rd_gpure (i := 33) (g := ((!(((r20.2 != (0 : Int)) || (x26 != x27)) || (decide (x28 > at_2)))) && (decide (i_14 > (0 : Int))))) (d := (some 100)) hD (by kernel_rfl) (by kernel_rfl) rfl (.yes 21 88 (!(((r20.2 != (0 : Int)) || (x26 != x27)) || (decide (x28 > at_2)))) (decide (i_14 > (0 : Int))) rfl rfl rfl rfl) rfl (fun hg _ => q_geq (a := x31) (b := x32) rfl (gvb_yes hg) (gvb_yes hg)) ?_
        refine rd_gpure (i := 34) (g := (!(((r20.2 != (0 : Int)) || (x26 != x27)) || (decide (x28 > at_2))))) (d := (some 101)) hD (by kernel_rfl) (by kernel_rfl) rfl (.no 18 85 true (((r20.2 != (0 : Int)) || (x26 != x27)) || (decide (x28 > at_2))) rfl rfl rfl rfl) rfl (fun hg _ => q_pickNT (g0 := (!(((r20.2 != (0 : Int)) || (x26 != x27)) || (decide (x28 > at_2))))) (a := (decide (i_14 > (0 : Int)))) (b := (decide (x31 ≥ x32))) hg rfl rfl rfl rfl) ?_
        refine rd_pure (i := 35) (d := (some 102)) hD (by kernel_rfl) (by kernel_rfl) rfl (.free rfl) rfl (fun _ => q_pickGF (a := (((r20.2 != (0 : Int)) || (x26 != x27)) || (decide (x28 > at_2)))) (c := ((decide (i_14 > (0 : Int))) && (decide (x31 ≥ x32)))) rfl rfl rfl rfl) ?_
        refine rd_nil (by kernel_rfl) ?_
        refine wp_if (b := ((((r20.2 != (0 : Int)) || (x26 != x27)) || (decide (x28 > at_2))) || ((decide (i_14 > (0 : Int))) && (decide (x31 ≥ x32))))) rfl h (fun hb33 h => ?_) (fun hb33 h => ?_)
        · refine wp_seq ?_
          refine wp_text [0] rfl ?_
          refine ro_val (d := (some 4)) rfl (.free rfl) rfl (q_assign (v := .bool (false)) rfl rfl) ?_
          refine ro_nil ?_
          refine wp_ret ?_
          exact ret_ok rfl (.cons (.tmp (v := .bool (false)) rfl) .nil) ⟨false, rfl, h⟩
        · refine wp_skip ?_
          refine wp_text [0, 1, 2] rfl ?_
          refine ro_val (d := (some 54)) rfl (.free rfl) rfl (q_move (v := .int .i64 (i_14)) rfl rfl) ?_
          refine ro_val (d := (some 55)) rfl (.free rfl) rfl (q_add (a := i_14) (b := (1 : Int)) rfl rfl rfl) ?_
          refine ro_val (d := (some 10)) rfl (.free rfl) rfl (q_assign (v := .int .i64 ((IntKind.i64.wrap (i_14 + (1 : Int))))) rfl rfl) ?_
          refine ro_nil ?_
          exact ⟨((IntKind.i64.wrap (i_14 + (1 : Int)))), _, arr (upd_step (upd_step (upd_step (upd_step (upd_step rfl rfl) rfl) rfl) rfl) rfl), h⟩
      · refine wp_exit ?_
        refine wp_seq ?_
        refine wp_seq ?_
        refine wp_text [0] rfl ?_
        refine ro_val (d := (some 13)) rfl (.free rfl) rfl (q_assign (v := .int .i64 ((0 : Int))) rfl rfl) ?_
        refine ro_nil ?_
        refine wp_block ?_
        refine loop_at (σ := Int) (fr := fun g (s : Int) => upd (upd (upd (upd (upd (g) 0 (tSlc.enc (l_1))) 1 (.int .i64 (at_2))) 5 (.pointer (r4))) 6 (tSlc.enc (r8.1))) 13 (.int .i64 (s))) (s0 := ((0 : Int))) (upd_step (upd_step (upd_step (upd_step (upd_step rfl rfl) rfl) rfl) rfl) rfl) h ?_
        rintro i_34 g w35 K36 h
        unfold F7_l2 at h
        refine wp_seq ?_
        refine wp_seq ?_
        refine wp_text [0, 1, 2, 3, 4, 5, 6, 7] rfl ?_
        refine ro_val (d := (some 103)) rfl (.free rfl) rfl (q_move (v := .int .i64 (i_34)) rfl rfl) ?_
        refine ro_val (d := (some 104)) rfl (.free rfl) rfl (q_move (v := tSlc.enc (l_1)) rfl rfl) ?_
        refine ro_val (d := (some 105)) rfl (.free rfl) rfl (q_len (s := l_1) rfl Try.underlying22 rfl) ?_
        refine ro_val (d := (some 106)) rfl (.free rfl) rfl (q_lss (a := i_34) (b := (l_1.len : Int)) rfl rfl rfl) ?_
        refine ro_val (d := (some 107)) rfl (.free rfl) rfl (q_move (v := .bool ((decide (i_34 < (l_1.len : Int))))) rfl rfl) ?_
        refine ro_gval (g := (decide (i_34 < (l_1.len : Int)))) (d := (some 108)) rfl (.yes 4 107 true (decide (i_34 < (l_1.len : Int))) rfl rfl rfl rfl) rfl (fun hg => q_move (v := .int .i64 (i_34)) rfl rfl) ?_
        refine ro_gval (g := (decide (i_34 < (l_1.len : Int)))) (d := (some 109)) rfl (.yes 4 107 true (decide (i_34 < (l_1.len : Int))) rfl rfl rfl rfl) rfl (fun hg => q_lss (a := i_34) (b := (30 : Int)) rfl (gvb_yes hg) rfl) ?_
        refine ro_val (d := (some 110)) rfl (.free rfl) rfl (q_pickGT (a := (decide (i_34 < (l_1.len : Int)))) (b := (decide (i_34 < (30 : Int)))) rfl rfl rfl rfl) ?_
        refine ro_nil ?_
        refine wp_if (b := ((decide (i_34 < (l_1.len : Int))) && (decide (i_34 < (30 : Int))))) rfl h (fun hb69 h => ?_) (fun hb69 h => ?_)
        · refine wp_skip ?_
          refine wp_seq ?_
          refine wp_block ?_
          refine wp_seq ?_
          refine wp_text [0, 1, 2, 3, 4, 5, 6] rfl ?_
          refine ro_val (d := (some 113)) rfl (.free rfl) rfl (q_move (v := tSlc.enc (l_1)) rfl rfl) ?_
          refine ro_val (d := (some 114)) rfl (.free rfl) rfl (q_move (v := .int .i64 (i_34)) rfl rfl) ?_
          obtain ⟨a37, ha37, h⟩ := h
          refine ro_val (d := (some 115)) rfl (.free rfl) rfl (q_indexAddr (s := l_1) (i := i_34) rfl Try.underlying22 ok33 rfl rfl ha37) ?_
          obtain ⟨x38, hx38, h⟩ := h
          refine ro_val (d := (some 116)) rfl (.free rfl) rfl (q_load (T := T32) (u := x38) (a := a37) rfl ok33 rfl hx38) ?_
          refine ro_wp rfl (.free rfl) (wp_cl (d := (some 117)) rfl (q_call (k := 12) (l := [T32.enc (x38)]) rfl ent12 rfl) h ?_)
          intro r40 w39 h
          obtain ⟨a41, w42, ha41, hw42, h⟩ := nw_open h
          refine ro_val (d := (some 14)) rfl (.free rfl) rfl (q_alloc (u := Z32) rfl ok33 inf33 ha41 hw42) ?_
          obtain ⟨w43, hw43, hrw43, h⟩ := st_open h
          refine ro_skip (d := none) rfl (.free rfl) rfl (q_store (T := T32) (u := r40) (a := a41) rfl ok33 rfl rfl hrw43 hw43) ?_
          refine ro_nil ?_
          refine wp_seq ?_
          refine wp_text [0] rfl ?_
          refine ro_val (d := (some 15)) rfl (.free rfl) rfl (q_assign (v := .int .i64 ((0 : Int))) rfl rfl) ?_
          refine ro_nil ?_
          refine wp_block ?_
          refine loop_at (σ := Int) (fr := fun g (s : Int) => upd (upd (upd (upd (upd (upd (upd (g) 0 (tSlc.enc (l_1))) 1 (.int .i64 (at_2))) 5 (.pointer (r4))) 6 (tSlc.enc (r8.1))) 13 (.int .i64 (i_34))) 14 (.pointer (some a41))) 15 (.int .i64 (s))) (s0 := ((0 : Int))) (upd_step (upd_step (upd_step (upd_step (upd_step (upd_step (upd_step rfl rfl) rfl) rfl) rfl) rfl) rfl) rfl) h ?_
          rintro k_44 g w45 K46 h
          unfold F7_l3 at h
          refine wp_seq ?_
          refine wp_seq ?_
          refine wp_text [0, 1, 2, 3, 4] rfl ?_
          refine ro_val (d := (some 118)) rfl (.free rfl) rfl (q_move (v := .int .i64 (k_44)) rfl rfl) ?_
          refine ro_val (d := (some 119)) rfl (.free rfl) rfl (q_fieldAddr (a := a41) (off := 3) rfl Try.underlying33 rfl rfl ok31 (by decide) rfl) ?_
          obtain ⟨x47, hx47, h⟩ := h
          refine ro_val (d := (some 120)) rfl (.free rfl) rfl (q_load (T := tSlc) (u := x47) (a := (a41.add 3)) rfl ok31 rfl hx47) ?_
          refine ro_val (d := (some 121)) rfl (.free rfl) rfl (q_len (s := x47) rfl Try.underlying31 rfl) ?_
          refine ro_val (d := (some 122)) rfl (.free rfl) rfl (q_lss (a := k_44) (b := (x47.len : Int)) rfl rfl rfl) ?_
          refine ro_nil ?_
          refine wp_if (b := (decide (k_44 < (x47.len : Int)))) rfl h (fun hb68 h => ?_) (fun hb68 h => ?_)
          · refine wp_skip ?_
            refine wp_seq ?_
            refine wp_block ?_
            refine wp_seq ?_
            refine wp_text [0] rfl ?_
            refine ro_val (d := (some 16)) rfl (.free rfl) rfl (q_assign (v := .bool (false)) rfl rfl) ?_
            refine ro_nil ?_
            refine wp_seq ?_
            refine wp_seq ?_
            refine wp_text [0] rfl ?_
            refine ro_val (d := (some 17)) rfl (.free rfl) rfl (q_assign (v := .int .i64 ((0 : Int))) rfl rfl) ?_
            refine ro_nil ?_
            refine wp_block ?_
            refine loop_at (σ := Bool × Int) (fr := fun g (s : Bool × Int) => upd (upd (upd (upd (upd (upd (upd (upd (upd (g) 0 (tSlc.enc (l_1))) 1 (.int .i64 (at_2))) 5 (.pointer (r4))) 6 (tSlc.enc (r8.1))) 13 (.int .i64 (i_34))) 14 (.pointer (some a41))) 15 (.int .i64 (k_44))) 16 (.bool (s.1))) 17 (.int .i64 (s.2))) (s0 := (false, (0 : Int))) (upd_step (upd_step (upd_step (upd_step (upd_step (upd_step (upd_step (upd_step (upd_step rfl rfl) rfl) rfl) rfl) rfl) rfl) rfl) rfl) rfl) h ?_
            rintro ⟨in_48, j_49⟩ g w50 K51 h
            unfold F7_l4 at h
            refine wp_seq ?_
            refine wp_seq ?_
            refine wp_text [0, 1, 2, 3] rfl ?_
            refine ro_val (d := (some 125)) rfl (.free rfl) rfl (q_move (v := .int .i64 (j_49)) rfl rfl) ?_
            refine ro_val (d := (some 126)) rfl (.free rfl) rfl (q_move (v := tSlc.enc (r8.1)) rfl rfl) ?_
            refine ro_val (d := (some 127)) rfl (.free rfl) rfl (q_len (s := r8.1) rfl Try.underlying31 rfl) ?_
            refine ro_val (d := (some 128)) rfl (.free rfl) rfl (q_lss (a := j_49) (b := (r8.1.len : Int)) rfl rfl rfl) ?_
            refine ro_nil ?_
            refine wp_if (b := (decide (j_49 < (r8.1.len : Int)))) rfl h (fun hb67 h => ?_) (fun hb67 h => ?_)
            · refine wp_skip ?_
              refine wp_seq ?_
              refine wp_block ?_
              obtain ⟨w52, hw52, h⟩ := dr_open h
              refine wp_drawn 16 mixed rfl (by kernel_rfl) (by intro c a d v w h; cases d <;> exact h) hw52 (fun hD => ?_)
              refine rd_pure (i := 0) (d := (some 131)) hD (by kernel_rfl) (by kernel_rfl) rfl (.free rfl) rfl (fun _ => q_move (v := .bool (in_48)) rfl rfl) ?_
              refine rd_pure (i := 1) (d := (some 132)) hD (by kernel_rfl) (by kernel_rfl) rfl (.free rfl) rfl (fun _ => q_move (v := .bool (in_48)) rfl rfl) ?_
              refine rd_gpure (i := 2) (g := (!in_48)) (d := (some 133)) hD (by kernel_rfl) (by kernel_rfl) rfl (.no 1 132 true in_48 rfl rfl rfl rfl) rfl (fun hg _ => q_move (v := tSlc.enc (r8.1)) rfl rfl) ?_
              refine rd_gpure (i := 3) (g := (!in_48)) (d := (some 134)) hD (by kernel_rfl) (by kernel_rfl) rfl (.no 1 132 true in_48 rfl rfl rfl rfl) rfl (fun hg _ => q_move (v := .int .i64 (j_49)) rfl rfl) ?_
              obtain ⟨a53, ha53, h⟩ := h
              refine rd_gpure (i := 4) (g := (!in_48)) (d := (some 135)) hD (by kernel_rfl) (by kernel_rfl) rfl (.no 1 132 true in_48 rfl rfl rfl rfl) rfl (fun hg _ => q_indexAddr (s := r8.1) (i := j_49) rfl Try.underlying31 ok58 (gvb_yes hg) (gvb_yes hg) (ha53 hg)) ?_
              refine rd_gpure (i := 5) (g := (!in_48)) (d := (some 136)) hD (by kernel_rfl) (by kernel_rfl) rfl (.no 1 132 true in_48 rfl rfl rfl rfl) rfl (fun hg _ => q_fieldAddr (a := a53) (off := 0) rfl Try.underlying58 rfl rfl ok3 (by decide) (gvb_yes hg)) ?_
              refine rd_gpure (i := 7) (g := (!in_48)) (d := (some 138)) hD (by kernel_rfl) (by kernel_rfl) rfl (.no 1 132 true in_48 rfl rfl rfl rfl) rfl (fun hg _ => q_fieldAddr (a := a41) (off := 3) rfl Try.underlying33 rfl rfl ok31 (by decide) rfl) ?_
              refine rd_gpure (i := 9) (g := (!in_48)) (d := (some 140)) hD (by kernel_rfl) (by kernel_rfl) rfl (.no 1 132 true in_48 rfl rfl rfl rfl) rfl (fun hg _ => q_move (v := .int .i64 (k_44)) rfl rfl) ?_
              obtain ⟨x54, hx54, h⟩ := h
              refine rd_gread (i := 6) (g := (!in_48)) (d := (some 137)) (fun W => (RdAt (tInt .i64) (a53.add 0) W) x54) hD (by kernel_rfl) (by kernel_rfl) rfl (.no 1 132 true in_48 rfl rfl rfl rfl) rfl (fun hg W hr => q_load (T := (tInt .i64)) (u := x54) (a := (a53.add 0)) rfl ok3 (gvb_yes hg) hr) hx54 ?_
              obtain ⟨x55, hx55, h⟩ := h
              refine rd_gread (i := 8) (g := (!in_48)) (d := (some 139)) (fun W => (RdAt tSlc (a41.add 3) W) x55) hD (by kernel_rfl) (by kernel_rfl) rfl (.no 1 132 true in_48 rfl rfl rfl rfl) rfl (fun hg W hr => q_load (T := tSlc) (u := x55) (a := (a41.add 3)) rfl ok31 (gvb_yes hg) hr) hx55 ?_
              obtain ⟨a56, ha56, h⟩ := h
              refine rd_gpure (i := 10) (g := (!in_48)) (d := (some 141)) hD (by kernel_rfl) (by kernel_rfl) rfl (.no 1 132 true in_48 rfl rfl rfl rfl) rfl (fun hg _ => q_indexAddr (s := x55) (i := k_44) rfl Try.underlying31 ok58 (gvb_yes hg) (gvb_yes hg) (ha56 hg)) ?_
              refine rd_gpure (i := 11) (g := (!in_48)) (d := (some 142)) hD (by kernel_rfl) (by kernel_rfl) rfl (.no 1 132 true in_48 rfl rfl rfl rfl) rfl (fun hg _ => q_fieldAddr (a := a56) (off := 0) rfl Try.underlying58 rfl rfl ok3 (by decide) (gvb_yes hg)) ?_
              obtain ⟨x57, hx57, h⟩ := h
              refine rd_gread (i := 12) (g := (!in_48)) (d := (some 143)) (fun W => (RdAt (tInt .i64) (a56.add 0) W) x57) hD (by kernel_rfl) (by kernel_rfl) rfl (.no 1 132 true in_48 rfl rfl rfl rfl) rfl (fun hg W hr => q_load (T := (tInt .i64)) (u := x57) (a := (a56.add 0)) rfl ok3 (gvb_yes hg) hr) hx57 ?_
              refine rd_gpure (i := 13) (g := (!in_48)) (d := (some 144)) hD (by kernel_rfl) (by kernel_rfl) rfl (.no 1 132 true in_48 rfl rfl rfl rfl) rfl (fun hg _ => q_eql (a := x54) (b := x57) rfl (gvb_yes hg) (gvb_yes hg)) ?_
              refine rd_pure (i := 14) (d := (some 145)) hD (by kernel_rfl) (by kernel_rfl) rfl (.free rfl) rfl (fun _ => q_pickGF (a := in_48) (c := (x54 == x57)) rfl rfl rfl rfl) ?_
              refine rd_pure (i := 15) (d := (some 16)) hD (by kernel_rfl) (by kernel_rfl) rfl (.free rfl) rfl (fun _ => q_assign (v := .bool ((in_48 || (x54 == x57)))) rfl rfl) ?_
              refine rd_nil (by kernel_rfl) ?_
              refine wp_text [0, 1, 2] rfl ?_
              refine ro_val (d := (some 129)) rfl (.free rfl) rfl (q_move (v := .int .i64 (j_49)) rfl rfl) ?_
              refine ro_val (d := (some 130)) rfl (.free rfl) rfl (q_add (a := j_49) (b := (1 : Int)) rfl rfl rfl) ?_
              refine ro_val (d := (some 17)) rfl (.free rfl) rfl (q_assign (v := .int .i64 ((IntKind.i64.wrap (j_49 + (1 : Int))))) rfl rfl) ?_
              refine ro_nil ?_
              exact ⟨((in_48 || (x54 == x57)), (IntKind.i64.wrap (j_49 + (1 : Int)))), _, arr (upd_step (upd_step (upd_step (upd_step (upd_step (upd_step (upd_step (upd_step (upd_step rfl rfl) rfl) rfl) rfl) rfl) rfl) rfl) rfl) rfl), h⟩
            · refine wp_exit ?_
              refine wp_seq ?_
              refine wp_text [0, 1, 2, 3, 4, 5, 6, 7, 8, 9, 10, 11, 12, 13, 14] rfl ?_
              refine ro_val (d := (some 147)) rfl (.free rfl) rfl (q_move (v := .pointer (r4)) rfl rfl) ?_
              refine ro_val (d := (some 148)) rfl (.free rfl) rfl (q_fieldAddr (a := a41) (off := 3) rfl Try.underlying33 rfl rfl ok31 (by decide) rfl) ?_
              obtain ⟨x58, hx58, h⟩ := h
              refine ro_val (d := (some 149)) rfl (.free rfl) rfl (q_load (T := tSlc) (u := x58) (a := (a41.add 3)) rfl ok31 rfl hx58) ?_
              refine ro_val (d := (some 150)) rfl (.free rfl) rfl (q_move (v := .int .i64 (k_44)) rfl rfl) ?_
              obtain ⟨a59, ha59, h⟩ := h
              refine ro_val (d := (some 151)) rfl (.free rfl) rfl (q_indexAddr (s := x58) (i := k_44) rfl Try.underlying31 ok58 rfl rfl ha59) ?_
              refine ro_val (d := (some 152)) rfl (.free rfl) rfl (q_fieldAddr (a := a59) (off := 0) rfl Try.underlying58 rfl rfl ok3 (by decide) rfl) ?_
              obtain ⟨x60, hx60, h⟩ := h
              refine ro_val (d := (some 153)) rfl (.free rfl) rfl (q_load (T := (tInt .i64)) (u := x60) (a := (a59.add 0)) rfl ok3 rfl hx60) ?_
              refine ro_val (d := (some 154)) rfl (.free rfl) rfl (q_move (v := .int .i64 (at_2)) rfl rfl) ?_
              refine ro_wp rfl (.free rfl) (wp_cl (d := (some 155)) rfl (q_call (k := 25) (l := [.pointer (r4), .int .i64 (x60), .int .i64 (at_2)]) rfl ent25 rfl) h ?_)
              intro r62 w61 h
              refine ro_val (d := (some 146)) rfl (.free rfl) rfl (q_move (v := (tTup2 T35 (tInt .i64)).enc (r62)) rfl rfl) ?_
              refine ro_val (d := (some 156)) rfl (.free rfl) rfl (q_extract (vs := #[T35.enc (r62.1), .int .i64 (r62.2)]) (v := T35.enc (r62.1)) rfl rfl rfl) ?_
              refine ro_val (d := (some 157)) rfl (.free rfl) rfl (q_extract (vs := #[T35.enc (r62.1), .int .i64 (r62.2)]) (v := .int .i64 (r62.2)) rfl rfl rfl) ?_
              obtain ⟨a63, w64, ha63, hw64, h⟩ := nw_open h
              refine ro_val (d := (some 18)) rfl (.free rfl) rfl (q_alloc (u := Z35) rfl ok36 inf36 ha63 hw64) ?_
              obtain ⟨w65, hw65, hrw65, h⟩ := st_open h
              refine ro_skip (d := none) rfl (.free rfl) rfl (q_store (T := T35) (u := r62.1) (a := a63) rfl ok36 rfl rfl hrw65 hw65) ?_
              refine ro_val (d := (some 19)) rfl (.free rfl) rfl (q_assign (v := .int .i64 (r62.2)) rfl rfl) ?_
              refine ro_nil ?_
              refine wp_seq ?_
              refine wp_text [0, 1, 2, 3, 4, 5, 6, 7, 8, 9] rfl ?_
              refine ro_val (d := (some 158)) rfl (.free rfl) rfl (q_move (v := .bool (in_48)) rfl rfl) ?_
              refine ro_val (d := (some 159)) rfl (.free rfl) rfl (q_not (b := in_48) rfl rfl) ?_
              refine ro_val (d := (some 160)) rfl (.free rfl) rfl (q_move (v := .bool ((!in_48))) rfl rfl) ?_
              refine ro_gval (g := (!in_48)) (d := (some 161)) rfl (.yes 2 160 true (!in_48) rfl rfl rfl rfl) rfl (fun hg => q_move (v := .int .i64 (r62.2)) rfl rfl) ?_
              refine ro_gval (g := (!in_48)) (d := (some 162)) rfl (.yes 2 160 true (!in_48) rfl rfl rfl rfl) rfl (fun hg => q_neq (a := r62.2) (b := (127 : Int)) rfl (gvb_yes hg) rfl) ?_
              refine ro_val (d := (some 163)) rfl (.free rfl) rfl (q_pickGT (a := (!in_48)) (b := (r62.2 != (127 : Int))) rfl rfl rfl rfl) ?_
              refine ro_val (d := (some 164)) rfl (.free rfl) rfl (q_move (v := .bool (((!in_48) && (r62.2 != (127 : Int))))) rfl rfl) ?_
              refine ro_gval (g := ((!in_48) && (r62.2 != (127 : Int)))) (d := (some 165)) rfl (.yes 6 164 true ((!in_48) && (r62.2 != (127 : Int))) rfl rfl rfl rfl) rfl (fun hg => q_move (v := .int .i64 (r62.2)) rfl rfl) ?_
              refine ro_gval (g := ((!in_48) && (r62.2 != (127 : Int)))) (d := (some 166)) rfl (.yes 6 164 true ((!in_48) && (r62.2 != (127 : Int))) rfl rfl rfl rfl) rfl (fun hg => q_neq (a := r62.2) (b := (123 : Int)) rfl (gvb_yes hg) rfl) ?_
              refine ro_val (d := (some 167)) rfl (.free rfl) rfl (q_pickGT (a := ((!in_48) && (r62.2 != (127 : Int)))) (b := (r62.2 != (123 : Int))) rfl rfl rfl rfl) ?_
              refine ro_nil ?_
              refine wp_if (b := (((!in_48) && (r62.2 != (127 : Int))) && (r62.2 != (123 : Int)))) rfl h (fun hb66 h => ?_) (fun hb66 h => ?_)
              · refine wp_seq ?_
                refine wp_text [0] rfl ?_
                refine ro_val (d := (some 4)) rfl (.free rfl) rfl (q_assign (v := .bool (false)) rfl rfl) ?_
                refine ro_nil ?_
                refine wp_ret ?_
                exact ret_ok rfl (.cons (.tmp (v := .bool (false)) rfl) .nil) ⟨false, rfl, h⟩
              · refine wp_skip ?_
                refine wp_text [0, 1, 2] rfl ?_
                refine ro_val (d := (some 123)) rfl (.free rfl) rfl (q_move (v := .int .i64 (k_44)) rfl rfl) ?_
                refine ro_val (d := (some 124)) rfl (.free rfl) rfl (q_add (a := k_44) (b := (1 : Int)) rfl rfl rfl) ?_
                refine ro_val (d := (some 15)) rfl (.free rfl) rfl (q_assign (v := .int .i64 ((IntKind.i64.wrap (k_44 + (1 : Int))))) rfl rfl) ?_
                refine ro_nil ?_
                exact ⟨((IntKind.i64.wrap (k_44 + (1 : Int)))), _, arr (upd_step (upd_step (upd_step (upd_step (upd_step (upd_step (upd_step rfl rfl) rfl) rfl) rfl) rfl) rfl) rfl), h⟩
          · refine wp_exit ?_
            refine wp_text [0, 1, 2] rfl ?_
            refine ro_val (d := (some 111)) rfl (.free rfl) rfl (q_move (v := .int .i64 (i_34)) rfl rfl) ?_
            refine ro_val (d := (some 112)) rfl (.free rfl) rfl (q_add (a := i_34) (b := (1 : Int)) rfl rfl rfl) ?_
            refine ro_val (d := (some 13)) rfl (.free rfl) rfl (q_assign (v := .int .i64 ((IntKind.i64.wrap (i_34 + (1 : Int))))) rfl rfl) ?_
            refine ro_nil ?_
            exact ⟨((IntKind.i64.wrap (i_34 + (1 : Int)))), _, arr (upd_step (upd_step (upd_step (upd_step (upd_step rfl rfl) rfl) rfl) rfl) rfl), h⟩
        · refine wp_exit ?_
          refine wp_seq ?_
          refine wp_text [0] rfl ?_
          refine ro_val (d := (some 4)) rfl (.free rfl) rfl (q_assign (v := .bool (true)) rfl rfl) ?_
          refine ro_nil ?_
          refine wp_ret ?_
          exact ret_ok rfl (.cons (.tmp (v := .bool (true)) rfl) .nil) ⟨true, rfl, h⟩

end Go.Proofs.Ytdgdkbfigndndaa.Cf
