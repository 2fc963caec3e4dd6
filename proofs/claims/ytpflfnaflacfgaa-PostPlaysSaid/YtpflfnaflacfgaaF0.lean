/- Characteristic formulae of Go functions, and that they are. Printed by gen.py (own tool). -/
import Derived.Test.YtpflfnaflacfgaaTy
namespace Go.Proofs.Ytpflfnaflacfgaa.Cf
open Go
set_option maxRecDepth 100000
set_option maxHeartbeats 1000000
set_option linter.unusedVariables false
set_option linter.unusedSimpArgs false

-- moiety/moietylaw09.PostCuts
def F3_j2 (i_7 : Int) (w10 : World) (K9 : Int → World → Prop) (R : Bool → World → Prop) : Prop :=
  K9 ((IntKind.i64.wrap (i_7 + (1 : Int)))) w10
def F3_j4 (i_26 : Int) (at_29 : Int) (w30 : World) (K28 : Int × Int → World → Prop) (R : Bool → World → Prop) : Prop :=
  K28 (at_29, (IntKind.i64.wrap (i_26 + (1 : Int)))) w30
def F3_l6 (r4 : ((Option Addr) × Int)) (at_51 : Int) (w52 : World) (K53 : Int → World → Prop) (R : Bool → World → Prop) : Prop :=
  if (decide (at_51 > (0 : Int))) = true then (
    cl Try.prog 14 [.pointer (r4.1), .int .i64 ((0 : Int))] (tTup2 T35 (tInt .i64)) w52 fun r55 w54 =>
    nw 36 T35 Z35 w54 fun a56 w57 =>
    st T35 a56 r55.1 w57 fun w58 =>
    if (r55.2 != (0 : Int)) = true then (
      R false w58
    ) else (
      K53 ((IntKind.i64.wrap (at_51 - (1 : Int)))) w58
    )
  ) else (
    cl Try.prog 14 [.pointer (r4.1), .int .i64 ((0 : Int))] (tTup2 T35 (tInt .i64)) w52 fun r61 w60 =>
    nw 36 T35 Z35 w60 fun a62 w63 =>
    st T35 a62 r61.1 w63 fun w64 =>
    R (r61.2 == (92 : Int)) w64
  )
def F3_j5 (r4 : ((Option Addr) × Int)) (at_25 : Int) (t_49 : Bool) (w50 : World) (R : Bool → World → Prop) : Prop :=
  if t_49 = true then (
    R false w50
  ) else (
    lp (fun (s : Int) w K => F3_l6 r4 s w K R) (at_25) w50
  )
def F3_l3 (node_2 : Int) (r4 : ((Option Addr) × Int)) (r24 : Slc) (at_25 : Int) (i_26 : Int) (w27 : World) (K28 : Int × Int → World → Prop) (R : Bool → World → Prop) : Prop :=
  if (decide (i_26 < (r24.len : Int))) = true then (
    cl Try.prog 14 [.pointer (r4.1), .int .i64 (at_25)] (tTup2 T35 (tInt .i64)) w27 fun r32 w31 =>
    nw 36 T35 Z35 w31 fun a33 w34 =>
    st T35 a33 r32.1 w34 fun w35 =>
    ex (IxA r24 4 i_26) fun a36 =>
    ex (RdAt (tInt .i64) (a36.add 1) w35) fun x37 =>
    ex (fun x => (!(x37 == (IntKind.i64.wrap (bits .and .u8 node_2 (3 : Int))))) = true → (IxA r24 4 i_26) x) fun a38 =>
    ex (fun x => (!(x37 == (IntKind.i64.wrap (bits .and .u8 node_2 (3 : Int))))) = true → (RdAt (tInt .i64) (a38.add 2) w35) x) fun x39 =>
    if ((x37 == (IntKind.i64.wrap (bits .and .u8 node_2 (3 : Int)))) || (x39 == (IntKind.i64.wrap (bits .and .u8 node_2 (3 : Int))))) = true then (
      if (r32.2 != (93 : Int)) = true then (
        R false w35
      ) else (
        F3_j4 i_26 (IntKind.i64.wrap (at_25 + (1 : Int))) w35 K28 R
      )
    ) else (
      dr w35 fun w41 =>
      ex (fun x => (!(r32.2 != (0 : Int))) = true → (IxA r24 4 i_26) x) fun a42 =>
      ex (fun x => (!(r32.2 != (0 : Int))) = true → (RdAt T35 a33 w41) x) fun x43 =>
      ex (fun x => (!(r32.2 != (0 : Int))) = true → (RdAt T35 a42 w41) x) fun x44 =>
      if ((r32.2 != (0 : Int)) || (!(S35.eqb x43 x44))) = true then (
        R false w41
      ) else (
        F3_j4 i_26 at_25 w41 K28 R
      )
    )
  ) else (
    cl Try.prog 12 [.pointer (r4.1), .int .i64 ((IntKind.i64.wrap (bits .and .u8 node_2 (3 : Int)))), .bool (false)] (tInt .i64) w27 fun r48 w47 =>
    if (r48 != (0 : Int)) = true then (
      F3_j5 r4 at_25 true w47 R
    ) else (
      cl Try.prog 13 [.pointer (r4.1)] tSlc w47 fun r69 w68 =>
      F3_j5 r4 at_25 ((r69.len : Int) != at_25) w68 R
    )
  )
def F3_l1 (l_1 : Slc) (node_2 : Int) (r4 : ((Option Addr) × Int)) (i_7 : Int) (w8 : World) (K9 : Int → World → Prop) (R : Bool → World → Prop) : Prop :=
  if ((decide (i_7 < (l_1.len : Int))) && (decide (i_7 < (40 : Int)))) = true then (
    ex (IxA l_1 5 i_7) fun a11 =>
    ex (RdAt (tInt .i64) (a11.add 0) w8) fun x12 =>
    if (x12 == (0 : Int)) = true then (
      dr w8 fun w13 =>
      ex (IxA l_1 5 i_7) fun a14 =>
      ex (IxA l_1 5 i_7) fun a15 =>
      ex (RdAt (tInt .i64) (a14.add 1) w13) fun x16 =>
      ex (RdAt (tInt .i64) (a15.add 2) w13) fun x17 =>
      cl Try.prog 11 [.pointer (r4.1), .int .i64 (x16), .int .i64 (x17), .string ⟨(([120] : List UInt8)).toArray⟩] (tTup2 (tInt .i64) (tInt .i64)) w13 fun r19 w18 =>
      F3_j2 i_7 w18 K9 R
    ) else (
      F3_j2 i_7 w8 K9 R
    )
  ) else (
    cl Try.prog 12 [.pointer (r4.1), .int .i64 ((IntKind.i64.wrap (bits .and .u8 node_2 (3 : Int)))), .bool (true)] (tInt .i64) w8 fun r22 w21 =>
    if (r22 != (0 : Int)) = true then (
      R false w21
    ) else (
      cl Try.prog 13 [.pointer (r4.1)] tSlc w21 fun r24 w23 =>
      lp (fun (s : Int × Int) w K => F3_l3 node_2 r4 r24 s.1 s.2 w K R) ((0 : Int), (0 : Int)) w23
    )
  )
def F3 (l_1 : Slc) (node_2 : Int) (w : World) (R : Bool → World → Prop) : Prop :=
  cl Try.prog 9 [.int .i64 ((4 : Int))] (tTup2 tPtr (tInt .i64)) w fun r4 w3 =>
  cl Try.prog 10 [] tBool w3 fun r6 w5 =>
  if (((!r6) || (r4.2 != (0 : Int))) || r4.1.isNone) = true then (
    R false w5
  ) else (
    lp (fun (s : Int) w K => F3_l1 l_1 node_2 r4 s w K R) ((0 : Int)) w5
  )
theorem F3_ok {l_1 : Slc} {node_2 : Int} {w : World} {R : Bool → World → Prop} (h : F3 l_1 node_2 w R) : cl Try.prog 3 [tSlc.enc (l_1), .int .u8 (node_2)] tBool w R := by
  unfold F3 at h
  refine calls_start 140 Try.func3 rfl rfl (Nat.le_of_ble_eq_true rfl) ?_
  refine wp_seq ?_
  refine wp_text [0] rfl ?_
  refine ro_val (d := (some 4)) rfl (.free rfl) rfl (q_assign (v := .bool (false)) rfl rfl) ?_
  refine ro_nil ?_
  refine wp_seq ?_
  refine wp_text [0, 1, 2, 3, 4, 5] rfl ?_
  refine ro_wp rfl (.free rfl) (wp_cl (d := (some 19)) rfl (q_call (k := 9) (l := [.int .i64 ((4 : Int))]) rfl ent9 rfl) h ?_)
  intro r4 w3 h
  refine ro_val (d := (some 18)) rfl (.free rfl) rfl (q_move (v := (tTup2 tPtr (tInt .i64)).enc (r4)) rfl rfl) ?_
  refine ro_val (d := (some 20)) rfl (.free rfl) rfl (q_extract (vs := #[.pointer (r4.1), .int .i64 (r4.2)]) (v := .pointer (r4.1)) rfl rfl rfl) ?_
  refine ro_val (d := (some 21)) rfl (.free rfl) rfl (q_extract (vs := #[.pointer (r4.1), .int .i64 (r4.2)]) (v := .int .i64 (r4.2)) rfl rfl rfl) ?_
  refine ro_val (d := (some 5)) rfl (.free rfl) rfl (q_assign (v := .pointer (r4.1)) rfl rfl) ?_
  refine ro_val (d := (some 6)) rfl (.free rfl) rfl (q_assign (v := .int .i64 (r4.2)) rfl rfl) ?_
  refine ro_nil ?_
  refine wp_seq ?_
  refine wp_seq ?_
  refine wp_text [0, 1, 2, 3, 4, 5, 6, 7, 8, 9] rfl ?_
  refine ro_wp rfl (.free rfl) (wp_cl (d := (some 22)) rfl (q_call (k := 10) (l := []) rfl ent10 rfl) h ?_)
  intro r6 w5 h
  refine ro_val (d := (some 23)) rfl (.free rfl) rfl (q_not (b := r6) rfl rfl) ?_
  refine ro_val (d := (some 24)) rfl (.free rfl) rfl (q_move (v := .bool ((!r6))) rfl rfl) ?_
  refine ro_gval (g := (!(!r6))) (d := (some 25)) rfl (.no 2 24 true (!r6) rfl rfl rfl rfl) rfl (fun hg => q_move (v := .int .i64 (r4.2)) rfl rfl) ?_
  refine ro_gval (g := (!(!r6))) (d := (some 26)) rfl (.no 2 24 true (!r6) rfl rfl rfl rfl) rfl (fun hg => q_neq (a := r4.2) (b := (0 : Int)) rfl (gvb_yes hg) rfl) ?_
  refine ro_val (d := (some 27)) rfl (.free rfl) rfl (q_pickGF (a := (!r6)) (c := (r4.2 != (0 : Int))) rfl rfl rfl rfl) ?_
  refine ro_val (d := (some 28)) rfl (.free rfl) rfl (q_move (v := .bool (((!r6) || (r4.2 != (0 : Int))))) rfl rfl) ?_
  refine ro_gval (g := (!((!r6) || (r4.2 != (0 : Int))))) (d := (some 29)) rfl (.no 6 28 true ((!r6) || (r4.2 != (0 : Int))) rfl rfl rfl rfl) rfl (fun hg => q_move (v := .pointer (r4.1)) rfl rfl) ?_
  refine ro_gval (g := (!((!r6) || (r4.2 != (0 : Int))))) (d := (some 30)) rfl (.no 6 28 true ((!r6) || (r4.2 != (0 : Int))) rfl rfl rfl rfl) rfl (fun hg => q_eqP0 (a := r4.1) rfl Try.underlying23 (gvb_yes hg) rfl) ?_
  refine ro_val (d := (some 31)) rfl (.free rfl) rfl (q_pickGF (a := ((!r6) || (r4.2 != (0 : Int)))) (c := r4.1.isNone) rfl rfl rfl rfl) ?_
  refine ro_nil ?_
  refine wp_if (b := (((!r6) || (r4.2 != (0 : Int))) || r4.1.isNone)) rfl h (fun hb73 h => ?_) (fun hb73 h => ?_)
  · refine wp_seq ?_
    refine wp_text [0] rfl ?_
    refine ro_val (d := (some 4)) rfl (.free rfl) rfl (q_assign (v := .bool (false)) rfl rfl) ?_
    refine ro_nil ?_
    refine wp_ret ?_
    exact ret_ok rfl (.cons (.tmp (v := .bool (false)) rfl) .nil) ⟨false, rfl, h⟩
  · refine wp_skip ?_
    refine wp_seq ?_
    refine wp_seq ?_
    refine wp_text [0] rfl ?_
    refine ro_val (d := (some 7)) rfl (.free rfl) rfl (q_assign (v := .int .i64 ((0 : Int))) rfl rfl) ?_
    refine ro_nil ?_
    refine wp_block ?_
    refine loop_at (σ := Int) (fr := fun g (s : Int) => upd (upd (upd (upd (g) 0 (tSlc.enc (l_1))) 1 (.int .u8 (node_2))) 5 (.pointer (r4.1))) 7 (.int .i64 (s))) (s0 := ((0 : Int))) (upd_step (upd_step (upd_step (upd_step rfl rfl) rfl) rfl) rfl) h ?_
    rintro i_7 g w8 K9 h
    unfold F3_l1 at h
    refine wp_seq ?_
    refine wp_seq ?_
    refine wp_text [0, 1, 2, 3, 4, 5, 6, 7] rfl ?_
    refine ro_val (d := (some 32)) rfl (.free rfl) rfl (q_move (v := .int .i64 (i_7)) rfl rfl) ?_
    refine ro_val (d := (some 33)) rfl (.free rfl) rfl (q_move (v := tSlc.enc (l_1)) rfl rfl) ?_
    refine ro_val (d := (some 34)) rfl (.free rfl) rfl (q_len (s := l_1) rfl Try.underlying22 rfl) ?_
    refine ro_val (d := (some 35)) rfl (.free rfl) rfl (q_lss (a := i_7) (b := (l_1.len : Int)) rfl rfl rfl) ?_
    refine ro_val (d := (some 36)) rfl (.free rfl) rfl (q_move (v := .bool ((decide (i_7 < (l_1.len : Int))))) rfl rfl) ?_
    refine ro_gval (g := (decide (i_7 < (l_1.len : Int)))) (d := (some 37)) rfl (.yes 4 36 true (decide (i_7 < (l_1.len : Int))) rfl rfl rfl rfl) rfl (fun hg => q_move (v := .int .i64 (i_7)) rfl rfl) ?_
    refine ro_gval (g := (decide (i_7 < (l_1.len : Int)))) (d := (some 38)) rfl (.yes 4 36 true (decide (i_7 < (l_1.len : Int))) rfl rfl rfl rfl) rfl (fun hg => q_lss (a := i_7) (b := (40 : Int)) rfl (gvb_yes hg) rfl) ?_
    refine ro_val (d := (some 39)) rfl (.free rfl) rfl (q_pickGT (a := (decide (i_7 < (l_1.len : Int)))) (b := (decide (i_7 < (40 : Int)))) rfl rfl rfl rfl) ?_
    refine ro_nil ?_
    refine wp_if (b := ((decide (i_7 < (l_1.len : Int))) && (decide (i_7 < (40 : Int))))) rfl h (fun hb72 h => ?_) (fun hb72 h => ?_)
    · refine wp_skip ?_
      refine seq_join (σ := Unit) (J := fun (s : Unit) w => F3_j2 i_7 w K9 R) (fr := fun g (s : Unit) => upd (upd (upd (upd (g) 0 (tSlc.enc (l_1))) 1 (.int .u8 (node_2))) 5 (.pointer (r4.1))) 7 (.int .i64 (i_7))) ?_ ?_
      · rintro ⟨⟩ g w10 h
        unfold F3_j2 at h
        refine wp_text [0, 1, 2] rfl ?_
        refine ro_val (d := (some 40)) rfl (.free rfl) rfl (q_move (v := .int .i64 (i_7)) rfl rfl) ?_
        refine ro_val (d := (some 41)) rfl (.free rfl) rfl (q_add (a := i_7) (b := (1 : Int)) rfl rfl rfl) ?_
        refine ro_val (d := (some 7)) rfl (.free rfl) rfl (q_assign (v := .int .i64 ((IntKind.i64.wrap (i_7 + (1 : Int))))) rfl rfl) ?_
        refine ro_nil ?_
        exact ⟨((IntKind.i64.wrap (i_7 + (1 : Int)))), _, arr (upd_step (upd_step (upd_step (upd_step rfl rfl) rfl) rfl) rfl), h⟩
      · refine wp_block ?_
        refine wp_seq ?_
        refine wp_text [0, 1, 2, 3, 4, 5] rfl ?_
        refine ro_val (d := (some 42)) rfl (.free rfl) rfl (q_move (v := tSlc.enc (l_1)) rfl rfl) ?_
        refine ro_val (d := (some 43)) rfl (.free rfl) rfl (q_move (v := .int .i64 (i_7)) rfl rfl) ?_
        obtain ⟨a11, ha11, h⟩ := h
        refine ro_val (d := (some 44)) rfl (.free rfl) rfl (q_indexAddr (s := l_1) (i := i_7) rfl Try.underlying22 ok29 rfl rfl ha11) ?_
        refine ro_val (d := (some 45)) rfl (.free rfl) rfl (q_fieldAddr (a := a11) (off := 0) rfl Try.underlying29 rfl rfl ok3 (by decide) rfl) ?_
        obtain ⟨x12, hx12, h⟩ := h
        refine ro_val (d := (some 46)) rfl (.free rfl) rfl (q_load (T := (tInt .i64)) (u := x12) (a := (a11.add 0)) rfl ok3 rfl hx12) ?_
        refine ro_val (d := (some 47)) rfl (.free rfl) rfl (q_eql (a := x12) (b := (0 : Int)) rfl rfl rfl) ?_
        refine ro_nil ?_
        refine wp_if (b := (x12 == (0 : Int))) rfl h (fun hb20 h => ?_) (fun hb20 h => ?_)
        · obtain ⟨w13, hw13, h⟩ := dr_open h
          refine wp_drawn 12 mixed rfl (by kernel_rfl) (by intro c a d v w h; cases d <;> exact h) hw13 (fun hD => ?_)
          refine rd_pure (i := 0) (d := (some 48)) hD (by kernel_rfl) (by kernel_rfl) rfl (.free rfl) rfl (fun _ => q_move (v := .pointer (r4.1)) rfl rfl) ?_
          refine rd_pure (i := 1) (d := (some 49)) hD (by kernel_rfl) (by kernel_rfl) rfl (.free rfl) rfl (fun _ => q_move (v := tSlc.enc (l_1)) rfl rfl) ?_
          refine rd_pure (i := 2) (d := (some 50)) hD (by kernel_rfl) (by kernel_rfl) rfl (.free rfl) rfl (fun _ => q_move (v := .int .i64 (i_7)) rfl rfl) ?_
          obtain ⟨a14, ha14, h⟩ := h
          refine rd_pure (i := 3) (d := (some 51)) hD (by kernel_rfl) (by kernel_rfl) rfl (.free rfl) rfl (fun _ => q_indexAddr (s := l_1) (i := i_7) rfl Try.underlying22 ok29 rfl rfl ha14) ?_
          refine rd_pure (i := 4) (d := (some 52)) hD (by kernel_rfl) (by kernel_rfl) rfl (.free rfl) rfl (fun _ => q_fieldAddr (a := a14) (off := 1) rfl Try.underlying29 rfl rfl ok3 (by decide) rfl) ?_
          refine rd_pure (i := 6) (d := (some 54)) hD (by kernel_rfl) (by kernel_rfl) rfl (.free rfl) rfl (fun _ => q_move (v := tSlc.enc (l_1)) rfl rfl) ?_
          refine rd_pure (i := 7) (d := (some 55)) hD (by kernel_rfl) (by kernel_rfl) rfl (.free rfl) rfl (fun _ => q_move (v := .int .i64 (i_7)) rfl rfl) ?_
          obtain ⟨a15, ha15, h⟩ := h
          refine rd_pure (i := 8) (d := (some 56)) hD (by kernel_rfl) (by kernel_rfl) rfl (.free rfl) rfl (fun _ => q_indexAddr (s := l_1) (i := i_7) rfl Try.underlying22 ok29 rfl rfl ha15) ?_
          refine rd_pure (i := 9) (d := (some 57)) hD (by kernel_rfl) (by kernel_rfl) rfl (.free rfl) rfl (fun _ => q_fieldAddr (a := a15) (off := 2) rfl Try.underlying29 rfl rfl ok3 (by decide) rfl) ?_
          obtain ⟨x16, hx16, h⟩ := h
          refine rd_read (i := 5) (d := (some 53)) (fun W => (RdAt (tInt .i64) (a14.add 1) W) x16) hD (by kernel_rfl) (by kernel_rfl) rfl (.free rfl) rfl (fun W hr => q_load (T := (tInt .i64)) (u := x16) (a := (a14.add 1)) rfl ok3 rfl hr) hx16 ?_
          obtain ⟨x17, hx17, h⟩ := h
          refine rd_read (i := 10) (d := (some 58)) (fun W => (RdAt (tInt .i64) (a15.add 2) W) x17) hD (by kernel_rfl) (by kernel_rfl) rfl (.free rfl) rfl (fun W hr => q_load (T := (tInt .i64)) (u := x17) (a := (a15.add 2)) rfl ok3 rfl hr) hx17 ?_
          refine rd_one (i := 11) (by kernel_rfl) ?_
          refine po_wp rfl (.free rfl) (wp_cl (d := (some 59)) rfl (q_call (k := 11) (l := [.pointer (r4.1), .int .i64 (x16), .int .i64 (x17), .string ⟨(([120] : List UInt8)).toArray⟩]) rfl ent11 rfl) h ?_)
          intro r19 w18 h
          refine ⟨(hk_wait (by kernel_rfl) (hk_wait (by kernel_rfl) hk_nil)), ?_⟩
          refine rd_nil (by kernel_rfl) ?_
          exact ⟨(), _, arr (upd_step (upd_step (upd_step (upd_step rfl rfl) rfl) rfl) rfl), h⟩
        · refine wp_skip ?_
          exact ⟨(), _, arr (upd_step (upd_step (upd_step (upd_step rfl rfl) rfl) rfl) rfl), h⟩
    · refine wp_exit ?_
      refine wp_seq ?_
      refine wp_text [0, 1, 2, 3] rfl ?_
      refine ro_val (d := (some 60)) rfl (.free rfl) rfl (q_move (v := .int .u8 (node_2)) rfl rfl) ?_
      refine ro_val (d := (some 61)) rfl (.free rfl) rfl (q_and (a := node_2) (b := (3 : Int)) rfl rfl rfl) ?_
      refine ro_val (d := (some 62)) rfl (.free rfl) rfl (q_cvtI (a := (bits .and .u8 node_2 (3 : Int))) rfl Try.underlying5 Try.underlying3 rfl) ?_
      refine ro_val (d := (some 8)) rfl (.free rfl) rfl (q_assign (v := .int .i64 ((IntKind.i64.wrap (bits .and .u8 node_2 (3 : Int))))) rfl rfl) ?_
      refine ro_nil ?_
      refine wp_seq ?_
      refine wp_seq ?_
      refine wp_text [0, 1, 2, 3] rfl ?_
      refine ro_val (d := (some 63)) rfl (.free rfl) rfl (q_move (v := .pointer (r4.1)) rfl rfl) ?_
      refine ro_val (d := (some 64)) rfl (.free rfl) rfl (q_move (v := .int .i64 ((IntKind.i64.wrap (bits .and .u8 node_2 (3 : Int))))) rfl rfl) ?_
      refine ro_wp rfl (.free rfl) (wp_cl (d := (some 65)) rfl (q_call (k := 12) (l := [.pointer (r4.1), .int .i64 ((IntKind.i64.wrap (bits .and .u8 node_2 (3 : Int)))), .bool (true)]) rfl ent12 rfl) h ?_)
      intro r22 w21 h
      refine ro_val (d := (some 66)) rfl (.free rfl) rfl (q_neq (a := r22) (b := (0 : Int)) rfl rfl rfl) ?_
      refine ro_nil ?_
      refine wp_if (b := (r22 != (0 : Int))) rfl h (fun hb71 h => ?_) (fun hb71 h => ?_)
      · refine wp_seq ?_
        refine wp_text [0] rfl ?_
        refine ro_val (d := (some 4)) rfl (.free rfl) rfl (q_assign (v := .bool (false)) rfl rfl) ?_
        refine ro_nil ?_
        refine wp_ret ?_
        exact ret_ok rfl (.cons (.tmp (v := .bool (false)) rfl) .nil) ⟨false, rfl, h⟩
      · refine wp_skip ?_
        refine wp_seq ?_
        refine wp_text [0, 1, 2] rfl ?_
        refine ro_val (d := (some 67)) rfl (.free rfl) rfl (q_move (v := .pointer (r4.1)) rfl rfl) ?_
        refine ro_wp rfl (.free rfl) (wp_cl (d := (some 68)) rfl (q_call (k := 13) (l := [.pointer (r4.1)]) rfl ent13 rfl) h ?_)
        intro r24 w23 h
        refine ro_val (d := (some 9)) rfl (.free rfl) rfl (q_assign (v := tSlc.enc (r24)) rfl rfl) ?_
        refine ro_nil ?_
        refine wp_seq ?_
        refine wp_text [0] rfl ?_
        refine ro_val (d := (some 10)) rfl (.free rfl) rfl (q_assign (v := .int .i64 ((0 : Int))) rfl rfl) ?_
        refine ro_nil ?_
        refine wp_seq ?_
        refine wp_seq ?_
        refine wp_text [0] rfl ?_
        refine ro_val (d := (some 11)) rfl (.free rfl) rfl (q_assign (v := .int .i64 ((0 : Int))) rfl rfl) ?_
        refine ro_nil ?_
        refine wp_block ?_
        refine loop_at (σ := Int × Int) (fr := fun g (s : Int × Int) => upd (upd (upd (upd (upd (g) 5 (.pointer (r4.1))) 8 (.int .i64 ((IntKind.i64.wrap (bits .and .u8 node_2 (3 : Int)))))) 9 (tSlc.enc (r24))) 10 (.int .i64 (s.1))) 11 (.int .i64 (s.2))) (s0 := ((0 : Int), (0 : Int))) (upd_step (upd_step (upd_step (upd_step (upd_step rfl rfl) rfl) rfl) rfl) rfl) h ?_
        rintro ⟨at_25, i_26⟩ g w27 K28 h
        unfold F3_l3 at h
        refine wp_seq ?_
        refine wp_seq ?_
        refine wp_text [0, 1, 2, 3] rfl ?_
        refine ro_val (d := (some 69)) rfl (.free rfl) rfl (q_move (v := .int .i64 (i_26)) rfl rfl) ?_
        refine ro_val (d := (some 70)) rfl (.free rfl) rfl (q_move (v := tSlc.enc (r24)) rfl rfl) ?_
        refine ro_val (d := (some 71)) rfl (.free rfl) rfl (q_len (s := r24) rfl Try.underlying33 rfl) ?_
        refine ro_val (d := (some 72)) rfl (.free rfl) rfl (q_lss (a := i_26) (b := (r24.len : Int)) rfl rfl rfl) ?_
        refine ro_nil ?_
        refine wp_if (b := (decide (i_26 < (r24.len : Int)))) rfl h (fun hb70 h => ?_) (fun hb70 h => ?_)
        · refine wp_skip ?_
          refine seq_join (σ := Int) (J := fun (s : Int) w => F3_j4 i_26 s w K28 R) (fr := fun g (s : Int) => upd (upd (upd (upd (upd (g) 5 (.pointer (r4.1))) 8 (.int .i64 ((IntKind.i64.wrap (bits .and .u8 node_2 (3 : Int)))))) 9 (tSlc.enc (r24))) 11 (.int .i64 (i_26))) 10 (.int .i64 (s))) ?_ ?_
          · rintro at_29 g w30 h
            unfold F3_j4 at h
            refine wp_text [0, 1, 2] rfl ?_
            refine ro_val (d := (some 73)) rfl (.free rfl) rfl (q_move (v := .int .i64 (i_26)) rfl rfl) ?_
            refine ro_val (d := (some 74)) rfl (.free rfl) rfl (q_add (a := i_26) (b := (1 : Int)) rfl rfl rfl) ?_
            refine ro_val (d := (some 11)) rfl (.free rfl) rfl (q_assign (v := .int .i64 ((IntKind.i64.wrap (i_26 + (1 : Int))))) rfl rfl) ?_
            refine ro_nil ?_
            exact ⟨(at_29, (IntKind.i64.wrap (i_26 + (1 : Int)))), _, arr (upd_step (upd_step (upd_step (upd_step (upd_step rfl rfl) rfl) rfl) rfl) rfl), h⟩
          · refine wp_block ?_
            refine wp_seq ?_
            refine wp_text [0, 1, 2, 3, 4, 5, 6, 7, 8] rfl ?_
            refine ro_val (d := (some 76)) rfl (.free rfl) rfl (q_move (v := .pointer (r4.1)) rfl rfl) ?_
            refine ro_val (d := (some 77)) rfl (.free rfl) rfl (q_move (v := .int .i64 (at_25)) rfl rfl) ?_
            refine ro_wp rfl (.free rfl) (wp_cl (d := (some 78)) rfl (q_call (k := 14) (l := [.pointer (r4.1), .int .i64 (at_25)]) rfl ent14 rfl) h ?_)
            intro r32 w31 h
            refine ro_val (d := (some 75)) rfl (.free rfl) rfl (q_move (v := (tTup2 T35 (tInt .i64)).enc (r32)) rfl rfl) ?_
            refine ro_val (d := (some 79)) rfl (.free rfl) rfl (q_extract (vs := #[T35.enc (r32.1), .int .i64 (r32.2)]) (v := T35.enc (r32.1)) rfl rfl rfl) ?_
            refine ro_val (d := (some 80)) rfl (.free rfl) rfl (q_extract (vs := #[T35.enc (r32.1), .int .i64 (r32.2)]) (v := .int .i64 (r32.2)) rfl rfl rfl) ?_
            obtain ⟨a33, w34, ha33, hw34, h⟩ := nw_open h
            refine ro_val (d := (some 12)) rfl (.free rfl) rfl (q_alloc (u := Z35) rfl ok36 inf36 ha33 hw34) ?_
            obtain ⟨w35, hw35, hrw35, h⟩ := st_open h
            refine ro_skip (d := none) rfl (.free rfl) rfl (q_store (T := T35) (u := r32.1) (a := a33) rfl ok36 rfl rfl hrw35 hw35) ?_
            refine ro_val (d := (some 13)) rfl (.free rfl) rfl (q_assign (v := .int .i64 (r32.2)) rfl rfl) ?_
            refine ro_nil ?_
            refine wp_seq ?_
            refine wp_text [0, 1, 2, 3, 4, 5, 6, 7, 8, 9, 10, 11, 12, 13, 14, 15] rfl ?_
            refine ro_val (d := (some 81)) rfl (.free rfl) rfl (q_move (v := tSlc.enc (r24)) rfl rfl) ?_
            refine ro_val (d := (some 82)) rfl (.free rfl) rfl (q_move (v := .int .i64 (i_26)) rfl rfl) ?_
            obtain ⟨a36, ha36, h⟩ := h
            refine ro_val (d := (some 83)) rfl (.free rfl) rfl (q_indexAddr (s := r24) (i := i_26) rfl Try.underlying33 ok36 rfl rfl ha36) ?_
            refine ro_val (d := (some 84)) rfl (.free rfl) rfl (q_fieldAddr (a := a36) (off := 1) rfl Try.underlying36 rfl rfl ok3 (by decide) rfl) ?_
            obtain ⟨x37, hx37, h⟩ := h
            refine ro_val (d := (some 85)) rfl (.free rfl) rfl (q_load (T := (tInt .i64)) (u := x37) (a := (a36.add 1)) rfl ok3 rfl hx37) ?_
            refine ro_val (d := (some 86)) rfl (.free rfl) rfl (q_move (v := .int .i64 ((IntKind.i64.wrap (bits .and .u8 node_2 (3 : Int))))) rfl rfl) ?_
            refine ro_val (d := (some 87)) rfl (.free rfl) rfl (q_eql (a := x37) (b := (IntKind.i64.wrap (bits .and .u8 node_2 (3 : Int)))) rfl rfl rfl) ?_
            refine ro_val (d := (some 88)) rfl (.free rfl) rfl (q_move (v := .bool ((x37 == (IntKind.i64.wrap (bits .and .u8 node_2 (3 : Int)))))) rfl rfl) ?_
            refine ro_gval (g := (!(x37 == (IntKind.i64.wrap (bits .and .u8 node_2 (3 : Int)))))) (d := (some 89)) rfl (.no 7 88 true (x37 == (IntKind.i64.wrap (bits .and .u8 node_2 (3 : Int)))) rfl rfl rfl rfl) rfl (fun hg => q_move (v := tSlc.enc (r24)) rfl rfl) ?_
            refine ro_gval (g := (!(x37 == (IntKind.i64.wrap (bits .and .u8 node_2 (3 : Int)))))) (d := (some 90)) rfl (.no 7 88 true (x37 == (IntKind.i64.wrap (bits .and .u8 node_2 (3 : Int)))) rfl rfl rfl rfl) rfl (fun hg => q_move (v := .int .i64 (i_26)) rfl rfl) ?_
            obtain ⟨a38, ha38, h⟩ := h
            refine ro_gval (g := (!(x37 == (IntKind.i64.wrap (bits .and .u8 node_2 (3 : Int)))))) (d := (some 91)) rfl (.no 7 88 true (x37 == (IntKind.i64.wrap (bits .and .u8 node_2 (3 : Int)))) rfl rfl rfl rfl) rfl (fun hg => q_indexAddr (s := r24) (i := i_26) rfl Try.underlying33 ok36 (gvb_yes hg) (gvb_yes hg) (ha38 hg)) ?_
            refine ro_gval (g := (!(x37 == (IntKind.i64.wrap (bits .and .u8 node_2 (3 : Int)))))) (d := (some 92)) rfl (.no 7 88 true (x37 == (IntKind.i64.wrap (bits .and .u8 node_2 (3 : Int)))) rfl rfl rfl rfl) rfl (fun hg => q_fieldAddr (a := a38) (off := 2) rfl Try.underlying36 rfl rfl ok3 (by decide) (gvb_yes hg)) ?_
            obtain ⟨x39, hx39, h⟩ := h
            refine ro_gval (g := (!(x37 == (IntKind.i64.wrap (bits .and .u8 node_2 (3 : Int)))))) (d := (some 93)) rfl (.no 7 88 true (x37 == (IntKind.i64.wrap (bits .and .u8 node_2 (3 : Int)))) rfl rfl rfl rfl) rfl (fun hg => q_load (T := (tInt .i64)) (u := x39) (a := (a38.add 2)) rfl ok3 (gvb_yes hg) (hx39 hg)) ?_
            refine ro_gval (g := (!(x37 == (IntKind.i64.wrap (bits .and .u8 node_2 (3 : Int)))))) (d := (some 94)) rfl (.no 7 88 true (x37 == (IntKind.i64.wrap (bits .and .u8 node_2 (3 : Int)))) rfl rfl rfl rfl) rfl (fun hg => q_move (v := .int .i64 ((IntKind.i64.wrap (bits .and .u8 node_2 (3 : Int))))) rfl rfl) ?_
            refine ro_gval (g := (!(x37 == (IntKind.i64.wrap (bits .and .u8 node_2 (3 : Int)))))) (d := (some 95)) rfl (.no 7 88 true (x37 == (IntKind.i64.wrap (bits .and .u8 node_2 (3 : Int)))) rfl rfl rfl rfl) rfl (fun hg => q_eql (a := x39) (b := (IntKind.i64.wrap (bits .and .u8 node_2 (3 : Int)))) rfl (gvb_yes hg) (gvb_yes hg)) ?_
            refine ro_val (d := (some 96)) rfl (.free rfl) rfl (q_pickGF (a := (x37 == (IntKind.i64.wrap (bits .and .u8 node_2 (3 : Int))))) (c := (x39 == (IntKind.i64.wrap (bits .and .u8 node_2 (3 : Int))))) rfl rfl rfl rfl) ?_
            refine ro_nil ?_
            refine wp_if (b := ((x37 == (IntKind.i64.wrap (bits .and .u8 node_2 (3 : Int)))) || (x39 == (IntKind.i64.wrap (bits .and .u8 node_2 (3 : Int)))))) rfl h (fun hb46 h => ?_) (fun hb46 h => ?_)
            · refine wp_seq ?_
              refine wp_seq ?_
              refine wp_text [0, 1] rfl ?_
              refine ro_val (d := (some 97)) rfl (.free rfl) rfl (q_move (v := .int .i64 (r32.2)) rfl rfl) ?_
              refine ro_val (d := (some 98)) rfl (.free rfl) rfl (q_neq (a := r32.2) (b := (93 : Int)) rfl rfl rfl) ?_
              refine ro_nil ?_
              refine wp_if (b := (r32.2 != (93 : Int))) rfl h (fun hb40 h => ?_) (fun hb40 h => ?_)
              · refine wp_seq ?_
                refine wp_text [0] rfl ?_
                refine ro_val (d := (some 4)) rfl (.free rfl) rfl (q_assign (v := .bool (false)) rfl rfl) ?_
                refine ro_nil ?_
                refine wp_ret ?_
                exact ret_ok rfl (.cons (.tmp (v := .bool (false)) rfl) .nil) ⟨false, rfl, h⟩
              · refine wp_skip ?_
                refine wp_text [0, 1, 2] rfl ?_
                refine ro_val (d := (some 99)) rfl (.free rfl) rfl (q_move (v := .int .i64 (at_25)) rfl rfl) ?_
                refine ro_val (d := (some 100)) rfl (.free rfl) rfl (q_add (a := at_25) (b := (1 : Int)) rfl rfl rfl) ?_
                refine ro_val (d := (some 10)) rfl (.free rfl) rfl (q_assign (v := .int .i64 ((IntKind.i64.wrap (at_25 + (1 : Int))))) rfl rfl) ?_
                refine ro_nil ?_
                exact ⟨((IntKind.i64.wrap (at_25 + (1 : Int)))), _, arr (upd_step (upd_step (upd_step (upd_step (upd_step rfl rfl) rfl) rfl) rfl) rfl), h⟩
            · refine wp_seq ?_
              obtain ⟨w41, hw41, h⟩ := dr_open h
              refine wp_drawn 10 mixed rfl (by kernel_rfl) (by intro c a d v w h; cases d <;> exact h) hw41 (fun hD => ?_)
              refine rd_pure (i := 0) (d := (some 101)) hD (by kernel_rfl) (by kernel_rfl) rfl (.free rfl) rfl (fun _ => q_move (v := .int .i64 (r32.2)) rfl rfl) ?_
              refine rd_pure (i := 1) (d := (some 102)) hD (by kernel_rfl) (by kernel_rfl) rfl (.free rfl) rfl (fun _ => q_neq (a := r32.2) (b := (0 : Int)) rfl rfl rfl) ?_
              refine rd_pure (i := 2) (d := (some 103)) hD (by kernel_rfl) (by kernel_rfl) rfl (.free rfl) rfl (fun _ => q_move (v := .bool ((r32.2 != (0 : Int)))) rfl rfl) ?_
              refine rd_gpure (i := 4) (g := (!(r32.2 != (0 : Int)))) (d := (some 105)) hD (by kernel_rfl) (by kernel_rfl) rfl (.no 2 103 true (r32.2 != (0 : Int)) rfl rfl rfl rfl) rfl (fun hg _ => q_move (v := tSlc.enc (r24)) rfl rfl) ?_
              refine rd_gpure (i := 5) (g := (!(r32.2 != (0 : Int)))) (d := (some 106)) hD (by kernel_rfl) (by kernel_rfl) rfl (.no 2 103 true (r32.2 != (0 : Int)) rfl rfl rfl rfl) rfl (fun hg _ => q_move (v := .int .i64 (i_26)) rfl rfl) ?_
              obtain ⟨a42, ha42, h⟩ := h
              refine rd_gpure (i := 6) (g := (!(r32.2 != (0 : Int)))) (d := (some 107)) hD (by kernel_rfl) (by kernel_rfl) rfl (.no 2 103 true (r32.2 != (0 : Int)) rfl rfl rfl rfl) rfl (fun hg _ => q_indexAddr (s := r24) (i := i_26) rfl Try.underlying33 ok36 (gvb_yes hg) (gvb_yes hg) (ha42 hg)) ?_
              obtain ⟨x43, hx43, h⟩ := h
              refine rd_gread (i := 3) (g := (!(r32.2 != (0 : Int)))) (d := (some 104)) (fun W => (RdAt T35 a33 W) x43) hD (by kernel_rfl) (by kernel_rfl) rfl (.no 2 103 true (r32.2 != (0 : Int)) rfl rfl rfl rfl) rfl (fun hg W hr => q_load (T := T35) (u := x43) (a := a33) rfl ok36 rfl hr) hx43 ?_
              obtain ⟨x44, hx44, h⟩ := h
              refine rd_gread (i := 7) (g := (!(r32.2 != (0 : Int)))) (d := (some 108)) (fun W => (RdAt T35 a42 W) x44) hD (by kernel_rfl) (by kernel_rfl) rfl (.no 2 103 true (r32.2 != (0 : Int)) rfl rfl rfl rfl) rfl (fun hg W hr => q_load (T := T35) (u := x44) (a := a42) rfl ok36 (gvb_yes hg) hr) hx44 ?_
              refine rd_gpure (i := 8) (g := (!(r32.2 != (0 : Int)))) (d := (some 109)) hD (by kernel_rfl) (by kernel_rfl) rfl (.no 2 103 true (r32.2 != (0 : Int)) rfl rfl rfl rfl) rfl (fun hg _ => q_neT (r := (S35.eqb x43 x44)) rfl (eq36 x43 x44) (gvb_yes hg) (gvb_yes hg)) ?_
              refine rd_pure (i := 9) (d := (some 110)) hD (by kernel_rfl) (by kernel_rfl) rfl (.free rfl) rfl (fun _ => q_pickGF (a := (r32.2 != (0 : Int))) (c := (!(S35.eqb x43 x44))) rfl rfl rfl rfl) ?_
              refine rd_nil (by kernel_rfl) ?_
              refine wp_if (b := ((r32.2 != (0 : Int)) || (!(S35.eqb x43 x44)))) rfl h (fun hb45 h => ?_) (fun hb45 h => ?_)
              · refine wp_seq ?_
                refine wp_text [0] rfl ?_
                refine ro_val (d := (some 4)) rfl (.free rfl) rfl (q_assign (v := .bool (false)) rfl rfl) ?_
                refine ro_nil ?_
                refine wp_ret ?_
                exact ret_ok rfl (.cons (.tmp (v := .bool (false)) rfl) .nil) ⟨false, rfl, h⟩
              · refine wp_skip ?_
                exact ⟨(at_25), _, arr (upd_step (upd_step (upd_step (upd_step (upd_step rfl rfl) rfl) rfl) rfl) rfl), h⟩
        · refine wp_exit ?_
          refine wp_seq ?_
          refine wp_seq ?_
          refine wp_text [0, 1, 2, 3, 4, 5, 6, 7, 8, 9, 10] rfl ?_
          refine ro_val (d := (some 111)) rfl (.free rfl) rfl (q_move (v := .pointer (r4.1)) rfl rfl) ?_
          refine ro_val (d := (some 112)) rfl (.free rfl) rfl (q_move (v := .int .i64 ((IntKind.i64.wrap (bits .and .u8 node_2 (3 : Int))))) rfl rfl) ?_
          refine ro_wp rfl (.free rfl) (wp_cl (d := (some 113)) rfl (q_call (k := 12) (l := [.pointer (r4.1), .int .i64 ((IntKind.i64.wrap (bits .and .u8 node_2 (3 : Int)))), .bool (false)]) rfl ent12 rfl) h ?_)
          intro r48 w47 h
          refine ro_val (d := (some 114)) rfl (.free rfl) rfl (q_neq (a := r48) (b := (0 : Int)) rfl rfl rfl) ?_
          refine ro_val (d := (some 115)) rfl (.free rfl) rfl (q_move (v := .bool ((r48 != (0 : Int)))) rfl rfl) ?_
          refine ro_join (σ := Bool) (J := fun (s : Bool) w => F3_j5 r4 at_25 s w R) (fr := fun g (s : Bool) => upd (upd (upd (g) 5 (.pointer (r4.1))) 10 (.int .i64 (at_25))) 121 (.bool (s))) [5, 6, 7, 8, 9, 10] [] ?_ ?_
          · rintro t_49 g w50 h
            unfold F3_j5 at h
            refine ro_nil ?_
            refine wp_if (b := t_49) rfl h (fun hb66 h => ?_) (fun hb66 h => ?_)
            · refine wp_seq ?_
              refine wp_text [0] rfl ?_
              refine ro_val (d := (some 4)) rfl (.free rfl) rfl (q_assign (v := .bool (false)) rfl rfl) ?_
              refine ro_nil ?_
              refine wp_ret ?_
              exact ret_ok rfl (.cons (.tmp (v := .bool (false)) rfl) .nil) ⟨false, rfl, h⟩
            · refine wp_skip ?_
              refine wp_seq ?_
              refine wp_block ?_
              refine loop_at (σ := Int) (fr := fun g (s : Int) => upd (upd (g) 5 (.pointer (r4.1))) 10 (.int .i64 (s))) (s0 := (at_25)) (upd_step (upd_step rfl rfl) rfl) h ?_
              rintro at_51 g w52 K53 h
              unfold F3_l6 at h
              refine wp_seq ?_
              refine wp_seq ?_
              refine wp_text [0, 1] rfl ?_
              refine ro_val (d := (some 122)) rfl (.free rfl) rfl (q_move (v := .int .i64 (at_51)) rfl rfl) ?_
              refine ro_val (d := (some 123)) rfl (.free rfl) rfl (q_gtr (a := at_51) (b := (0 : Int)) rfl rfl rfl) ?_
              refine ro_nil ?_
              refine wp_if (b := (decide (at_51 > (0 : Int)))) rfl h (fun hb65 h => ?_) (fun hb65 h => ?_)
              · refine wp_skip ?_
                refine wp_block ?_
                refine wp_seq ?_
                refine wp_seq ?_
                refine wp_text [0, 1, 2, 3, 4, 5, 6, 7] rfl ?_
                refine ro_val (d := (some 125)) rfl (.free rfl) rfl (q_move (v := .pointer (r4.1)) rfl rfl) ?_
                refine ro_wp rfl (.free rfl) (wp_cl (d := (some 126)) rfl (q_call (k := 14) (l := [.pointer (r4.1), .int .i64 ((0 : Int))]) rfl ent14 rfl) h ?_)
                intro r55 w54 h
                refine ro_val (d := (some 124)) rfl (.free rfl) rfl (q_move (v := (tTup2 T35 (tInt .i64)).enc (r55)) rfl rfl) ?_
                refine ro_val (d := (some 127)) rfl (.free rfl) rfl (q_extract (vs := #[T35.enc (r55.1), .int .i64 (r55.2)]) (v := T35.enc (r55.1)) rfl rfl rfl) ?_
                refine ro_val (d := (some 128)) rfl (.free rfl) rfl (q_extract (vs := #[T35.enc (r55.1), .int .i64 (r55.2)]) (v := .int .i64 (r55.2)) rfl rfl rfl) ?_
                obtain ⟨a56, w57, ha56, hw57, h⟩ := nw_open h
                refine ro_val (d := (some 14)) rfl (.free rfl) rfl (q_alloc (u := Z35) rfl ok36 inf36 ha56 hw57) ?_
                obtain ⟨w58, hw58, hrw58, h⟩ := st_open h
                refine ro_skip (d := none) rfl (.free rfl) rfl (q_store (T := T35) (u := r55.1) (a := a56) rfl ok36 rfl rfl hrw58 hw58) ?_
                refine ro_val (d := (some 15)) rfl (.free rfl) rfl (q_assign (v := .int .i64 (r55.2)) rfl rfl) ?_
                refine ro_nil ?_
                refine wp_seq ?_
                refine wp_text [0, 1] rfl ?_
                refine ro_val (d := (some 129)) rfl (.free rfl) rfl (q_move (v := .int .i64 (r55.2)) rfl rfl) ?_
                refine ro_val (d := (some 130)) rfl (.free rfl) rfl (q_neq (a := r55.2) (b := (0 : Int)) rfl rfl rfl) ?_
                refine ro_nil ?_
                refine wp_if (b := (r55.2 != (0 : Int))) rfl h (fun hb59 h => ?_) (fun hb59 h => ?_)
                · refine wp_seq ?_
                  refine wp_text [0] rfl ?_
                  refine ro_val (d := (some 4)) rfl (.free rfl) rfl (q_assign (v := .bool (false)) rfl rfl) ?_
                  refine ro_nil ?_
                  refine wp_ret ?_
                  exact ret_ok rfl (.cons (.tmp (v := .bool (false)) rfl) .nil) ⟨false, rfl, h⟩
                · refine wp_skip ?_
                  refine wp_text [0, 1, 2] rfl ?_
                  refine ro_val (d := (some 131)) rfl (.free rfl) rfl (q_move (v := .int .i64 (at_51)) rfl rfl) ?_
                  refine ro_val (d := (some 132)) rfl (.free rfl) rfl (q_sub (a := at_51) (b := (1 : Int)) rfl rfl rfl) ?_
                  refine ro_val (d := (some 10)) rfl (.free rfl) rfl (q_assign (v := .int .i64 ((IntKind.i64.wrap (at_51 - (1 : Int))))) rfl rfl) ?_
                  refine ro_nil ?_
                  exact ⟨((IntKind.i64.wrap (at_51 - (1 : Int)))), _, arr (upd_step (upd_step rfl rfl) rfl), h⟩
              · refine wp_exit ?_
                refine wp_seq ?_
                refine wp_text [0, 1, 2, 3, 4, 5, 6, 7] rfl ?_
                refine ro_val (d := (some 134)) rfl (.free rfl) rfl (q_move (v := .pointer (r4.1)) rfl rfl) ?_
                refine ro_wp rfl (.free rfl) (wp_cl (d := (some 135)) rfl (q_call (k := 14) (l := [.pointer (r4.1), .int .i64 ((0 : Int))]) rfl ent14 rfl) h ?_)
                intro r61 w60 h
                refine ro_val (d := (some 133)) rfl (.free rfl) rfl (q_move (v := (tTup2 T35 (tInt .i64)).enc (r61)) rfl rfl) ?_
                refine ro_val (d := (some 136)) rfl (.free rfl) rfl (q_extract (vs := #[T35.enc (r61.1), .int .i64 (r61.2)]) (v := T35.enc (r61.1)) rfl rfl rfl) ?_
                refine ro_val (d := (some 137)) rfl (.free rfl) rfl (q_extract (vs := #[T35.enc (r61.1), .int .i64 (r61.2)]) (v := .int .i64 (r61.2)) rfl rfl rfl) ?_
                obtain ⟨a62, w63, ha62, hw63, h⟩ := nw_open h
                refine ro_val (d := (some 16)) rfl (.free rfl) rfl (q_alloc (u := Z35) rfl ok36 inf36 ha62 hw63) ?_
                obtain ⟨w64, hw64, hrw64, h⟩ := st_open h
                refine ro_skip (d := none) rfl (.free rfl) rfl (q_store (T := T35) (u := r61.1) (a := a62) rfl ok36 rfl rfl hrw64 hw64) ?_
                refine ro_val (d := (some 17)) rfl (.free rfl) rfl (q_assign (v := .int .i64 (r61.2)) rfl rfl) ?_
                refine ro_nil ?_
                refine wp_seq ?_
                refine wp_text [0, 1, 2] rfl ?_
                refine ro_val (d := (some 138)) rfl (.free rfl) rfl (q_move (v := .int .i64 (r61.2)) rfl rfl) ?_
                refine ro_val (d := (some 139)) rfl (.free rfl) rfl (q_eql (a := r61.2) (b := (92 : Int)) rfl rfl rfl) ?_
                refine ro_val (d := (some 4)) rfl (.free rfl) rfl (q_assign (v := .bool ((r61.2 == (92 : Int)))) rfl rfl) ?_
                refine ro_nil ?_
                refine wp_ret ?_
                exact ret_ok rfl (.cons (.tmp (v := .bool ((r61.2 == (92 : Int)))) rfl) .nil) ⟨(r61.2 == (92 : Int)), rfl, h⟩
          · refine ro_if (b := (r48 != (0 : Int))) h (fun hb67 h => ?_) (fun hb67 h => ?_)
            · refine ro_bar (d := (some 116)) rfl (.by_ 4 false 115 (r48 != (0 : Int)) rfl rfl rfl hb67) rfl ?_
              refine ro_bar (d := (some 117)) rfl (.by_ 4 false 115 (r48 != (0 : Int)) rfl rfl rfl hb67) rfl ?_
              refine ro_bar (d := (some 118)) rfl (.by_ 4 false 115 (r48 != (0 : Int)) rfl rfl rfl hb67) rfl ?_
              refine ro_bar (d := (some 119)) rfl (.by_ 4 false 115 (r48 != (0 : Int)) rfl rfl rfl hb67) rfl ?_
              refine ro_bar (d := (some 120)) rfl (.by_ 4 false 115 (r48 != (0 : Int)) rfl rfl rfl hb67) rfl ?_
              refine ro_val (d := (some 121)) rfl (.free rfl) rfl (q_pickT (v := .bool (true)) (b := (r48 != (0 : Int))) rfl rfl hb67 rfl) ?_
              refine ro_nil ?_
              exact ⟨(true), _, arr (upd_step (upd_step (upd_step rfl rfl) rfl) rfl), h⟩
            · refine ro_val (d := (some 116)) rfl (.by_ 4 false 115 (r48 != (0 : Int)) rfl rfl rfl hb67) rfl (q_move (v := .pointer (r4.1)) rfl rfl) ?_
              refine ro_wp rfl (.by_ 4 false 115 (r48 != (0 : Int)) rfl rfl rfl hb67) (wp_cl (d := (some 117)) rfl (q_call (k := 13) (l := [.pointer (r4.1)]) rfl ent13 rfl) h ?_)
              intro r69 w68 h
              refine ro_val (d := (some 118)) rfl (.by_ 4 false 115 (r48 != (0 : Int)) rfl rfl rfl hb67) rfl (q_len (s := r69) rfl Try.underlying33 rfl) ?_
              refine ro_val (d := (some 119)) rfl (.by_ 4 false 115 (r48 != (0 : Int)) rfl rfl rfl hb67) rfl (q_move (v := .int .i64 (at_25)) rfl rfl) ?_
              refine ro_val (d := (some 120)) rfl (.by_ 4 false 115 (r48 != (0 : Int)) rfl rfl rfl hb67) rfl (q_neq (a := (r69.len : Int)) (b := at_25) rfl rfl rfl) ?_
              refine ro_val (d := (some 121)) rfl (.free rfl) rfl (q_pickF (v := .bool (((r69.len : Int) != at_25))) (b := (r48 != (0 : Int))) rfl rfl hb67 rfl) ?_
              refine ro_nil ?_
              exact ⟨(((r69.len : Int) != at_25)), _, arr (upd_step (upd_step (upd_step rfl rfl) rfl) rfl), h⟩

end Go.Proofs.Ytpflfnaflacfgaa.Cf
