/- Characteristic formulae of Go functions, and that they are. Printed by gen.py (own tool). -/
import Derived.Test.YtpflfnaflacfgaaTy
namespace Go.Proofs.Ytpflfnaflacfgaa.Cf
open Go
set_option maxRecDepth 100000
set_option maxHeartbeats 1000000
set_option linter.unusedVariables false
set_option linter.unusedSimpArgs false

-- moiety/moietylaw09.PostPurges
def F6_j2 (i_7 : Int) (w10 : World) (K9 : Int → World → Prop) (R : Bool → World → Prop) : Prop :=
  K9 ((IntKind.i64.wrap (i_7 + (1 : Int)))) w10
def F6_j4 (i_37 : Int) (at_40 : Int) (w41 : World) (K39 : Int × Int → World → Prop) (R : Bool → World → Prop) : Prop :=
  K39 (at_40, (IntKind.i64.wrap (i_37 + (1 : Int)))) w41
def F6_l3 (node_2 : Int) (r31 : Slc) (r35 : Slc) (at_36 : Int) (i_37 : Int) (w38 : World) (K39 : Int × Int → World → Prop) (R : Bool → World → Prop) : Prop :=
  if (decide (i_37 < (r31.len : Int))) = true then (
    ex (IxA r31 4 i_37) fun a42 =>
    ex (RdAt (tInt .i64) (a42.add 2) w38) fun x43 =>
    if (x43 == (IntKind.i64.wrap (bits .and .u8 node_2 (3 : Int)))) = true then (
      F6_j4 i_37 at_36 w38 K39 R
    ) else (
      dr w38 fun w44 =>
      ex (fun x => (!(decide (at_36 ≥ (r35.len : Int)))) = true → (IxA r35 4 at_36) x) fun a45 =>
      ex (fun x => (!(decide (at_36 ≥ (r35.len : Int)))) = true → (IxA r31 4 i_37) x) fun a46 =>
      ex (fun x => (!(decide (at_36 ≥ (r35.len : Int)))) = true → (RdAt T35 a45 w44) x) fun x47 =>
      ex (fun x => (!(decide (at_36 ≥ (r35.len : Int)))) = true → (RdAt T35 a46 w44) x) fun x48 =>
      if ((decide (at_36 ≥ (r35.len : Int))) || (!(S35.eqb x47 x48))) = true then (
        R false w44
      ) else (
        F6_j4 i_37 (IntKind.i64.wrap (at_36 + (1 : Int))) w44 K39 R
      )
    )
  ) else (
    R (at_36 == (r35.len : Int)) w38
  )
def F6_l1 (l_1 : Slc) (node_2 : Int) (r4 : ((Option Addr) × Int)) (i_7 : Int) (w8 : World) (K9 : Int → World → Prop) (R : Bool → World → Prop) : Prop :=
  if ((decide (i_7 < (l_1.len : Int))) && (decide (i_7 < (40 : Int)))) = true then (
    ex (IxA l_1 5 i_7) fun a11 =>
    ex (RdAt T28 a11 w8) fun x12 =>
    cl Try.prog 15 [T28.enc (x12)] T28 w8 fun r14 w13 =>
    nw 29 T28 Z28 w13 fun a15 w16 =>
    st T28 a15 r14 w16 fun w17 =>
    ex (RdAt (tInt .i64) (a15.add 0) w17) fun x18 =>
    if (x18 == (0 : Int)) = true then (
      ex (RdAt (tInt .i64) (a15.add 1) w17) fun x19 =>
      ex (RdAt (tInt .i64) (a15.add 2) w17) fun x20 =>
      ex (RdAt tStr (a15.add 3) w17) fun x21 =>
      cl Try.prog 11 [.pointer (r4.1), .int .i64 (x19), .int .i64 (x20), .string ⟨(x21).toArray⟩] (tTup2 (tInt .i64) (tInt .i64)) w17 fun r23 w22 =>
      F6_j2 i_7 w22 K9 R
    ) else (
      ex (RdAt (tInt .i64) (a15.add 0) w17) fun x24 =>
      if (x24 == (2 : Int)) = true then (
        ex (RdAt (tInt .i64) (a15.add 1) w17) fun x25 =>
        cl Try.prog 16 [.pointer (r4.1), .int .i64 (x25)] (tInt .i64) w17 fun r27 w26 =>
        F6_j2 i_7 w26 K9 R
      ) else (
        F6_j2 i_7 w17 K9 R
      )
    )
  ) else (
    cl Try.prog 13 [.pointer (r4.1)] tSlc w8 fun r31 w30 =>
    cl Try.prog 18 [.pointer (r4.1), .int .i64 ((IntKind.i64.wrap (bits .and .u8 node_2 (3 : Int))))] (tInt .i64) w30 fun r33 w32 =>
    if (r33 != (0 : Int)) = true then (
      R false w32
    ) else (
      cl Try.prog 13 [.pointer (r4.1)] tSlc w32 fun r35 w34 =>
      lp (fun (s : Int × Int) w K => F6_l3 node_2 r31 r35 s.1 s.2 w K R) ((0 : Int), (0 : Int)) w34
    )
  )
def F6 (l_1 : Slc) (node_2 : Int) (w : World) (R : Bool → World → Prop) : Prop :=
  cl Try.prog 9 [.int .i64 ((4 : Int))] (tTup2 tPtr (tInt .i64)) w fun r4 w3 =>
  cl Try.prog 10 [] tBool w3 fun r6 w5 =>
  if (((!r6) || (r4.2 != (0 : Int))) || r4.1.isNone) = true then (
    R false w5
  ) else (
    lp (fun (s : Int) w K => F6_l1 l_1 node_2 r4 s w K R) ((0 : Int)) w5
  )
theorem F6_ok {l_1 : Slc} {node_2 : Int} {w : World} {R : Bool → World → Prop} (h : F6 l_1 node_2 w R) : cl Try.prog 6 [tSlc.enc (l_1), .int .u8 (node_2)] tBool w R := by
  unfold F6 at h
  refine calls_start 106 Try.func6 rfl rfl (Nat.le_of_ble_eq_true rfl) ?_
  refine wp_seq ?_
  refine wp_text [0] rfl ?_
  refine ro_val (d := (some 4)) rfl (.free rfl) rfl (q_assign (v := .bool (false)) rfl rfl) ?_
  refine ro_nil ?_
  refine wp_seq ?_
  refine wp_text [0, 1, 2, 3, 4, 5] rfl ?_
  refine ro_wp rfl (.free rfl) (wp_cl (d := (some 15)) rfl (q_call (k := 9) (l := [.int .i64 ((4 : Int))]) rfl ent9 rfl) h ?_)
  intro r4 w3 h
  refine ro_val (d := (some 14)) rfl (.free rfl) rfl (q_move (v := (tTup2 tPtr (tInt .i64)).enc (r4)) rfl rfl) ?_
  refine ro_val (d := (some 16)) rfl (.free rfl) rfl (q_extract (vs := #[.pointer (r4.1), .int .i64 (r4.2)]) (v := .pointer (r4.1)) rfl rfl rfl) ?_
  refine ro_val (d := (some 17)) rfl (.free rfl) rfl (q_extract (vs := #[.pointer (r4.1), .int .i64 (r4.2)]) (v := .int .i64 (r4.2)) rfl rfl rfl) ?_
  refine ro_val (d := (some 5)) rfl (.free rfl) rfl (q_assign (v := .pointer (r4.1)) rfl rfl) ?_
  refine ro_val (d := (some 6)) rfl (.free rfl) rfl (q_assign (v := .int .i64 (r4.2)) rfl rfl) ?_
  refine ro_nil ?_
  refine wp_seq ?_
  refine wp_seq ?_
  refine wp_text [0, 1, 2, 3, 4, 5, 6, 7, 8, 9] rfl ?_
  refine ro_wp rfl (.free rfl) (wp_cl (d := (some 18)) rfl (q_call (k := 10) (l := []) rfl ent10 rfl) h ?_)
  intro r6 w5 h
  refine ro_val (d := (some 19)) rfl (.free rfl) rfl (q_not (b := r6) rfl rfl) ?_
  refine ro_val (d := (some 20)) rfl (.free rfl) rfl (q_move (v := .bool ((!r6))) rfl rfl) ?_
  refine ro_gval (g := (!(!r6))) (d := (some 21)) rfl (.no 2 20 true (!r6) rfl rfl rfl rfl) rfl (fun hg => q_move (v := .int .i64 (r4.2)) rfl rfl) ?_
  refine ro_gval (g := (!(!r6))) (d := (some 22)) rfl (.no 2 20 true (!r6) rfl rfl rfl rfl) rfl (fun hg => q_neq (a := r4.2) (b := (0 : Int)) rfl (gvb_yes hg) rfl) ?_
  refine ro_val (d := (some 23)) rfl (.free rfl) rfl (q_pickGF (a := (!r6)) (c := (r4.2 != (0 : Int))) rfl rfl rfl rfl) ?_
  refine ro_val (d := (some 24)) rfl (.free rfl) rfl (q_move (v := .bool (((!r6) || (r4.2 != (0 : Int))))) rfl rfl) ?_
  refine ro_gval (g := (!((!r6) || (r4.2 != (0 : Int))))) (d := (some 25)) rfl (.no 6 24 true ((!r6) || (r4.2 != (0 : Int))) rfl rfl rfl rfl) rfl (fun hg => q_move (v := .pointer (r4.1)) rfl rfl) ?_
  refine ro_gval (g := (!((!r6) || (r4.2 != (0 : Int))))) (d := (some 26)) rfl (.no 6 24 true ((!r6) || (r4.2 != (0 : Int))) rfl rfl rfl rfl) rfl (fun hg => q_eqP0 (a := r4.1) rfl Try.underlying23 (gvb_yes hg) rfl) ?_
  refine ro_val (d := (some 27)) rfl (.free rfl) rfl (q_pickGF (a := ((!r6) || (r4.2 != (0 : Int)))) (c := r4.1.isNone) rfl rfl rfl rfl) ?_
  refine ro_nil ?_
  refine wp_if (b := (((!r6) || (r4.2 != (0 : Int))) || r4.1.isNone)) rfl h (fun hb54 h => ?_) (fun hb54 h => ?_)
  · refine wp_seq ?_
    refine wp_text [0] rfl ?_
    refine ro_val (d := (some 4)) rfl (.free rfl) rfl (q_assign (v := .bool (false)) rfl rfl) ?_
    refine ro_nil ?_
    refine wp_ret ?_
    exact ret_ok rfl (.cons (.tmp (v := .bool (false)) rfl) .nil) ⟨false, rfl, h⟩
  · refine wp_skip ?_
    refine wp_seq ?_
    refine wp_seq ?_
    refine wp_text [0] rfl ?_
    refine ro_val (d := (some 7)) rfl (.free rfl) rfl (q_assign (v := .int .i64 ((0 : Int))) rfl rfl) ?_
    refine ro_nil ?_
    refine wp_block ?_
    refine loop_at (σ := Int) (fr := fun g (s : Int) => upd (upd (upd (upd (g) 0 (tSlc.enc (l_1))) 1 (.int .u8 (node_2))) 5 (.pointer (r4.1))) 7 (.int .i64 (s))) (s0 := ((0 : Int))) (upd_step (upd_step (upd_step (upd_step rfl rfl) rfl) rfl) rfl) h ?_
    rintro i_7 g w8 K9 h
    unfold F6_l1 at h
    refine wp_seq ?_
    refine wp_seq ?_
    refine wp_text [0, 1, 2, 3, 4, 5, 6, 7] rfl ?_
    refine ro_val (d := (some 28)) rfl (.free rfl) rfl (q_move (v := .int .i64 (i_7)) rfl rfl) ?_
    refine ro_val (d := (some 29)) rfl (.free rfl) rfl (q_move (v := tSlc.enc (l_1)) rfl rfl) ?_
    refine ro_val (d := (some 30)) rfl (.free rfl) rfl (q_len (s := l_1) rfl Try.underlying22 rfl) ?_
    refine ro_val (d := (some 31)) rfl (.free rfl) rfl (q_lss (a := i_7) (b := (l_1.len : Int)) rfl rfl rfl) ?_
    refine ro_val (d := (some 32)) rfl (.free rfl) rfl (q_move (v := .bool ((decide (i_7 < (l_1.len : Int))))) rfl rfl) ?_
    refine ro_gval (g := (decide (i_7 < (l_1.len : Int)))) (d := (some 33)) rfl (.yes 4 32 true (decide (i_7 < (l_1.len : Int))) rfl rfl rfl rfl) rfl (fun hg => q_move (v := .int .i64 (i_7)) rfl rfl) ?_
    refine ro_gval (g := (decide (i_7 < (l_1.len : Int)))) (d := (some 34)) rfl (.yes 4 32 true (decide (i_7 < (l_1.len : Int))) rfl rfl rfl rfl) rfl (fun hg => q_lss (a := i_7) (b := (40 : Int)) rfl (gvb_yes hg) rfl) ?_
    refine ro_val (d := (some 35)) rfl (.free rfl) rfl (q_pickGT (a := (decide (i_7 < (l_1.len : Int)))) (b := (decide (i_7 < (40 : Int)))) rfl rfl rfl rfl) ?_
    refine ro_nil ?_
    refine wp_if (b := ((decide (i_7 < (l_1.len : Int))) && (decide (i_7 < (40 : Int))))) rfl h (fun hb53 h => ?_) (fun hb53 h => ?_)
    · refine wp_skip ?_
      refine seq_join (σ := Unit) (J := fun (s : Unit) w => F6_j2 i_7 w K9 R) (fr := fun g (s : Unit) => upd (upd (upd (upd (g) 0 (tSlc.enc (l_1))) 1 (.int .u8 (node_2))) 5 (.pointer (r4.1))) 7 (.int .i64 (i_7))) ?_ ?_
      · rintro ⟨⟩ g w10 h
        unfold F6_j2 at h
        refine wp_text [0, 1, 2] rfl ?_
        refine ro_val (d := (some 36)) rfl (.free rfl) rfl (q_move (v := .int .i64 (i_7)) rfl rfl) ?_
        refine ro_val (d := (some 37)) rfl (.free rfl) rfl (q_add (a := i_7) (b := (1 : Int)) rfl rfl rfl) ?_
        refine ro_val (d := (some 7)) rfl (.free rfl) rfl (q_assign (v := .int .i64 ((IntKind.i64.wrap (i_7 + (1 : Int))))) rfl rfl) ?_
        refine ro_nil ?_
        exact ⟨((IntKind.i64.wrap (i_7 + (1 : Int)))), _, arr (upd_step (upd_step (upd_step (upd_step rfl rfl) rfl) rfl) rfl), h⟩
      · refine wp_block ?_
        refine wp_seq ?_
        refine wp_text [0, 1, 2, 3, 4, 5, 6] rfl ?_
        refine ro_val (d := (some 38)) rfl (.free rfl) rfl (q_move (v := tSlc.enc (l_1)) rfl rfl) ?_
        refine ro_val (d := (some 39)) rfl (.free rfl) rfl (q_move (v := .int .i64 (i_7)) rfl rfl) ?_
        obtain ⟨a11, ha11, h⟩ := h
        refine ro_val (d := (some 40)) rfl (.free rfl) rfl (q_indexAddr (s := l_1) (i := i_7) rfl Try.underlying22 ok29 rfl rfl ha11) ?_
        obtain ⟨x12, hx12, h⟩ := h
        refine ro_val (d := (some 41)) rfl (.free rfl) rfl (q_load (T := T28) (u := x12) (a := a11) rfl ok29 rfl hx12) ?_
        refine ro_wp rfl (.free rfl) (wp_cl (d := (some 42)) rfl (q_call (k := 15) (l := [T28.enc (x12)]) rfl ent15 rfl) h ?_)
        intro r14 w13 h
        obtain ⟨a15, w16, ha15, hw16, h⟩ := nw_open h
        refine ro_val (d := (some 8)) rfl (.free rfl) rfl (q_alloc (u := Z28) rfl ok29 inf29 ha15 hw16) ?_
        obtain ⟨w17, hw17, hrw17, h⟩ := st_open h
        refine ro_skip (d := none) rfl (.free rfl) rfl (q_store (T := T28) (u := r14) (a := a15) rfl ok29 rfl rfl hrw17 hw17) ?_
        refine ro_nil ?_
        refine wp_seq ?_
        refine wp_text [0, 1, 2] rfl ?_
        refine ro_val (d := (some 43)) rfl (.free rfl) rfl (q_fieldAddr (a := a15) (off := 0) rfl Try.underlying29 rfl rfl ok3 (by decide) rfl) ?_
        obtain ⟨x18, hx18, h⟩ := h
        refine ro_val (d := (some 44)) rfl (.free rfl) rfl (q_load (T := (tInt .i64)) (u := x18) (a := (a15.add 0)) rfl ok3 rfl hx18) ?_
        refine ro_val (d := (some 45)) rfl (.free rfl) rfl (q_eql (a := x18) (b := (0 : Int)) rfl rfl rfl) ?_
        refine ro_nil ?_
        refine wp_if (b := (x18 == (0 : Int))) rfl h (fun hb29 h => ?_) (fun hb29 h => ?_)
        · refine wp_text [0, 1, 2, 3, 4, 5, 6, 7] rfl ?_
          refine ro_val (d := (some 46)) rfl (.free rfl) rfl (q_move (v := .pointer (r4.1)) rfl rfl) ?_
          refine ro_val (d := (some 47)) rfl (.free rfl) rfl (q_fieldAddr (a := a15) (off := 1) rfl Try.underlying29 rfl rfl ok3 (by decide) rfl) ?_
          obtain ⟨x19, hx19, h⟩ := h
          refine ro_val (d := (some 48)) rfl (.free rfl) rfl (q_load (T := (tInt .i64)) (u := x19) (a := (a15.add 1)) rfl ok3 rfl hx19) ?_
          refine ro_val (d := (some 49)) rfl (.free rfl) rfl (q_fieldAddr (a := a15) (off := 2) rfl Try.underlying29 rfl rfl ok3 (by decide) rfl) ?_
          obtain ⟨x20, hx20, h⟩ := h
          refine ro_val (d := (some 50)) rfl (.free rfl) rfl (q_load (T := (tInt .i64)) (u := x20) (a := (a15.add 2)) rfl ok3 rfl hx20) ?_
          refine ro_val (d := (some 51)) rfl (.free rfl) rfl (q_fieldAddr (a := a15) (off := 3) rfl Try.underlying29 rfl rfl ok9 (by decide) rfl) ?_
          obtain ⟨x21, hx21, h⟩ := h
          refine ro_val (d := (some 52)) rfl (.free rfl) rfl (q_load (T := tStr) (u := x21) (a := (a15.add 3)) rfl ok9 rfl hx21) ?_
          refine ro_wp rfl (.free rfl) (wp_cl (d := (some 53)) rfl (q_call (k := 11) (l := [.pointer (r4.1), .int .i64 (x19), .int .i64 (x20), .string ⟨(x21).toArray⟩]) rfl ent11 rfl) h ?_)
          intro r23 w22 h
          refine ro_nil ?_
          exact ⟨(), _, arr (upd_step (upd_step (upd_step (upd_step rfl rfl) rfl) rfl) rfl), h⟩
        · refine wp_seq ?_
          refine wp_text [0, 1, 2] rfl ?_
          refine ro_val (d := (some 54)) rfl (.free rfl) rfl (q_fieldAddr (a := a15) (off := 0) rfl Try.underlying29 rfl rfl ok3 (by decide) rfl) ?_
          obtain ⟨x24, hx24, h⟩ := h
          refine ro_val (d := (some 55)) rfl (.free rfl) rfl (q_load (T := (tInt .i64)) (u := x24) (a := (a15.add 0)) rfl ok3 rfl hx24) ?_
          refine ro_val (d := (some 56)) rfl (.free rfl) rfl (q_eql (a := x24) (b := (2 : Int)) rfl rfl rfl) ?_
          refine ro_nil ?_
          refine wp_if (b := (x24 == (2 : Int))) rfl h (fun hb28 h => ?_) (fun hb28 h => ?_)
          · refine wp_text [0, 1, 2, 3] rfl ?_
            refine ro_val (d := (some 57)) rfl (.free rfl) rfl (q_move (v := .pointer (r4.1)) rfl rfl) ?_
            refine ro_val (d := (some 58)) rfl (.free rfl) rfl (q_fieldAddr (a := a15) (off := 1) rfl Try.underlying29 rfl rfl ok3 (by decide) rfl) ?_
            obtain ⟨x25, hx25, h⟩ := h
            refine ro_val (d := (some 59)) rfl (.free rfl) rfl (q_load (T := (tInt .i64)) (u := x25) (a := (a15.add 1)) rfl ok3 rfl hx25) ?_
            refine ro_wp rfl (.free rfl) (wp_cl (d := (some 60)) rfl (q_call (k := 16) (l := [.pointer (r4.1), .int .i64 (x25)]) rfl ent16 rfl) h ?_)
            intro r27 w26 h
            refine ro_nil ?_
            exact ⟨(), _, arr (upd_step (upd_step (upd_step (upd_step rfl rfl) rfl) rfl) rfl), h⟩
          · refine wp_skip ?_
            exact ⟨(), _, arr (upd_step (upd_step (upd_step (upd_step rfl rfl) rfl) rfl) rfl), h⟩
    · refine wp_exit ?_
      refine wp_seq ?_
      refine wp_text [0, 1, 2, 3] rfl ?_
      refine ro_val (d := (some 61)) rfl (.free rfl) rfl (q_move (v := .int .u8 (node_2)) rfl rfl) ?_
      refine ro_val (d := (some 62)) rfl (.free rfl) rfl (q_and (a := node_2) (b := (3 : Int)) rfl rfl rfl) ?_
      refine ro_val (d := (some 63)) rfl (.free rfl) rfl (q_cvtI (a := (bits .and .u8 node_2 (3 : Int))) rfl Try.underlying5 Try.underlying3 rfl) ?_
      refine ro_val (d := (some 9)) rfl (.free rfl) rfl (q_assign (v := .int .i64 ((IntKind.i64.wrap (bits .and .u8 node_2 (3 : Int))))) rfl rfl) ?_
      refine ro_nil ?_
      refine wp_seq ?_
      refine wp_text [0, 1, 2] rfl ?_
      refine ro_val (d := (some 64)) rfl (.free rfl) rfl (q_move (v := .pointer (r4.1)) rfl rfl) ?_
      refine ro_wp rfl (.free rfl) (wp_cl (d := (some 65)) rfl (q_call (k := 13) (l := [.pointer (r4.1)]) rfl ent13 rfl) h ?_)
      intro r31 w30 h
      refine ro_val (d := (some 10)) rfl (.free rfl) rfl (q_assign (v := tSlc.enc (r31)) rfl rfl) ?_
      refine ro_nil ?_
      refine wp_seq ?_
      refine wp_seq ?_
      refine wp_text [0, 1, 2, 3] rfl ?_
      refine ro_val (d := (some 66)) rfl (.free rfl) rfl (q_move (v := .pointer (r4.1)) rfl rfl) ?_
      refine ro_val (d := (some 67)) rfl (.free rfl) rfl (q_move (v := .int .i64 ((IntKind.i64.wrap (bits .and .u8 node_2 (3 : Int))))) rfl rfl) ?_
      refine ro_wp rfl (.free rfl) (wp_cl (d := (some 68)) rfl (q_call (k := 18) (l := [.pointer (r4.1), .int .i64 ((IntKind.i64.wrap (bits .and .u8 node_2 (3 : Int))))]) rfl ent18 rfl) h ?_)
      intro r33 w32 h
      refine ro_val (d := (some 69)) rfl (.free rfl) rfl (q_neq (a := r33) (b := (0 : Int)) rfl rfl rfl) ?_
      refine ro_nil ?_
      refine wp_if (b := (r33 != (0 : Int))) rfl h (fun hb52 h => ?_) (fun hb52 h => ?_)
      · refine wp_seq ?_
        refine wp_text [0] rfl ?_
        refine ro_val (d := (some 4)) rfl (.free rfl) rfl (q_assign (v := .bool (false)) rfl rfl) ?_
        refine ro_nil ?_
        refine wp_ret ?_
        exact ret_ok rfl (.cons (.tmp (v := .bool (false)) rfl) .nil) ⟨false, rfl, h⟩
      · refine wp_skip ?_
        refine wp_seq ?_
        refine wp_text [0, 1, 2] rfl ?_
        refine ro_val (d := (some 70)) rfl (.free rfl) rfl (q_move (v := .pointer (r4.1)) rfl rfl) ?_
        refine ro_wp rfl (.free rfl) (wp_cl (d := (some 71)) rfl (q_call (k := 13) (l := [.pointer (r4.1)]) rfl ent13 rfl) h ?_)
        intro r35 w34 h
        refine ro_val (d := (some 11)) rfl (.free rfl) rfl (q_assign (v := tSlc.enc (r35)) rfl rfl) ?_
        refine ro_nil ?_
        refine wp_seq ?_
        refine wp_text [0] rfl ?_
        refine ro_val (d := (some 12)) rfl (.free rfl) rfl (q_assign (v := .int .i64 ((0 : Int))) rfl rfl) ?_
        refine ro_nil ?_
        refine wp_seq ?_
        refine wp_seq ?_
        refine wp_text [0] rfl ?_
        refine ro_val (d := (some 13)) rfl (.free rfl) rfl (q_assign (v := .int .i64 ((0 : Int))) rfl rfl) ?_
        refine ro_nil ?_
        refine wp_block ?_
        refine loop_at (σ := Int × Int) (fr := fun g (s : Int × Int) => upd (upd (upd (upd (upd (g) 9 (.int .i64 ((IntKind.i64.wrap (bits .and .u8 node_2 (3 : Int)))))) 10 (tSlc.enc (r31))) 11 (tSlc.enc (r35))) 12 (.int .i64 (s.1))) 13 (.int .i64 (s.2))) (s0 := ((0 : Int), (0 : Int))) (upd_step (upd_step (upd_step (upd_step (upd_step rfl rfl) rfl) rfl) rfl) rfl) h ?_
        rintro ⟨at_36, i_37⟩ g w38 K39 h
        unfold F6_l3 at h
        refine wp_seq ?_
        refine wp_seq ?_
        refine wp_text [0, 1, 2, 3] rfl ?_
        refine ro_val (d := (some 72)) rfl (.free rfl) rfl (q_move (v := .int .i64 (i_37)) rfl rfl) ?_
        refine ro_val (d := (some 73)) rfl (.free rfl) rfl (q_move (v := tSlc.enc (r31)) rfl rfl) ?_
        refine ro_val (d := (some 74)) rfl (.free rfl) rfl (q_len (s := r31) rfl Try.underlying33 rfl) ?_
        refine ro_val (d := (some 75)) rfl (.free rfl) rfl (q_lss (a := i_37) (b := (r31.len : Int)) rfl rfl rfl) ?_
        refine ro_nil ?_
        refine wp_if (b := (decide (i_37 < (r31.len : Int)))) rfl h (fun hb51 h => ?_) (fun hb51 h => ?_)
        · refine wp_skip ?_
          refine seq_join (σ := Int) (J := fun (s : Int) w => F6_j4 i_37 s w K39 R) (fr := fun g (s : Int) => upd (upd (upd (upd (upd (g) 9 (.int .i64 ((IntKind.i64.wrap (bits .and .u8 node_2 (3 : Int)))))) 10 (tSlc.enc (r31))) 11 (tSlc.enc (r35))) 13 (.int .i64 (i_37))) 12 (.int .i64 (s))) ?_ ?_
          · rintro at_40 g w41 h
            unfold F6_j4 at h
            refine wp_text [0, 1, 2] rfl ?_
            refine ro_val (d := (some 76)) rfl (.free rfl) rfl (q_move (v := .int .i64 (i_37)) rfl rfl) ?_
            refine ro_val (d := (some 77)) rfl (.free rfl) rfl (q_add (a := i_37) (b := (1 : Int)) rfl rfl rfl) ?_
            refine ro_val (d := (some 13)) rfl (.free rfl) rfl (q_assign (v := .int .i64 ((IntKind.i64.wrap (i_37 + (1 : Int))))) rfl rfl) ?_
            refine ro_nil ?_
            exact ⟨(at_40, (IntKind.i64.wrap (i_37 + (1 : Int)))), _, arr (upd_step (upd_step (upd_step (upd_step (upd_step rfl rfl) rfl) rfl) rfl) rfl), h⟩
          · refine wp_block ?_
            refine wp_seq ?_
            refine wp_seq ?_
            refine wp_text [0, 1, 2, 3, 4, 5, 6] rfl ?_
            refine ro_val (d := (some 78)) rfl (.free rfl) rfl (q_move (v := tSlc.enc (r31)) rfl rfl) ?_
            refine ro_val (d := (some 79)) rfl (.free rfl) rfl (q_move (v := .int .i64 (i_37)) rfl rfl) ?_
            obtain ⟨a42, ha42, h⟩ := h
            refine ro_val (d := (some 80)) rfl (.free rfl) rfl (q_indexAddr (s := r31) (i := i_37) rfl Try.underlying33 ok36 rfl rfl ha42) ?_
            refine ro_val (d := (some 81)) rfl (.free rfl) rfl (q_fieldAddr (a := a42) (off := 2) rfl Try.underlying36 rfl rfl ok3 (by decide) rfl) ?_
            obtain ⟨x43, hx43, h⟩ := h
            refine ro_val (d := (some 82)) rfl (.free rfl) rfl (q_load (T := (tInt .i64)) (u := x43) (a := (a42.add 2)) rfl ok3 rfl hx43) ?_
            refine ro_val (d := (some 83)) rfl (.free rfl) rfl (q_move (v := .int .i64 ((IntKind.i64.wrap (bits .and .u8 node_2 (3 : Int))))) rfl rfl) ?_
            refine ro_val (d := (some 84)) rfl (.free rfl) rfl (q_eql (a := x43) (b := (IntKind.i64.wrap (bits .and .u8 node_2 (3 : Int)))) rfl rfl rfl) ?_
            refine ro_nil ?_
            refine wp_if (b := (x43 == (IntKind.i64.wrap (bits .and .u8 node_2 (3 : Int))))) rfl h (fun hb50 h => ?_) (fun hb50 h => ?_)
            · refine wp_exit ?_
              exact ⟨(at_36), _, arr (upd_step (upd_step (upd_step (upd_step (upd_step rfl rfl) rfl) rfl) rfl) rfl), h⟩
            · refine wp_skip ?_
              refine wp_seq ?_
              refine wp_seq ?_
              obtain ⟨w44, hw44, h⟩ := dr_open h
              refine wp_drawn 15 mixed rfl (by kernel_rfl) (by intro c a d v w h; cases d <;> exact h) hw44 (fun hD => ?_)
              refine rd_pure (i := 0) (d := (some 85)) hD (by kernel_rfl) (by kernel_rfl) rfl (.free rfl) rfl (fun _ => q_move (v := .int .i64 (at_36)) rfl rfl) ?_
              refine rd_pure (i := 1) (d := (some 86)) hD (by kernel_rfl) (by kernel_rfl) rfl (.free rfl) rfl (fun _ => q_move (v := tSlc.enc (r35)) rfl rfl) ?_
              refine rd_pure (i := 2) (d := (some 87)) hD (by kernel_rfl) (by kernel_rfl) rfl (.free rfl) rfl (fun _ => q_len (s := r35) rfl Try.underlying33 rfl) ?_
              refine rd_pure (i := 3) (d := (some 88)) hD (by kernel_rfl) (by kernel_rfl) rfl (.free rfl) rfl (fun _ => q_geq (a := at_36) (b := (r35.len : Int)) rfl rfl rfl) ?_
              refine rd_pure (i := 4) (d := (some 89)) hD (by kernel_rfl) (by kernel_rfl) rfl (.free rfl) rfl (fun _ => q_move (v := .bool ((decide (at_36 ≥ (r35.len : Int))))) rfl rfl) ?_
              refine rd_gpure (i := 5) (g := (!(decide (at_36 ≥ (r35.len : Int))))) (d := (some 90)) hD (by kernel_rfl) (by kernel_rfl) rfl (.no 4 89 true (decide (at_36 ≥ (r35.len : Int))) rfl rfl rfl rfl) rfl (fun hg _ => q_move (v := tSlc.enc (r35)) rfl rfl) ?_
              refine rd_gpure (i := 6) (g := (!(decide (at_36 ≥ (r35.len : Int))))) (d := (some 91)) hD (by kernel_rfl) (by kernel_rfl) rfl (.no 4 89 true (decide (at_36 ≥ (r35.len : Int))) rfl rfl rfl rfl) rfl (fun hg _ => q_move (v := .int .i64 (at_36)) rfl rfl) ?_
              obtain ⟨a45, ha45, h⟩ := h
              refine rd_gpure (i := 7) (g := (!(decide (at_36 ≥ (r35.len : Int))))) (d := (some 92)) hD (by kernel_rfl) (by kernel_rfl) rfl (.no 4 89 true (decide (at_36 ≥ (r35.len : Int))) rfl rfl rfl rfl) rfl (fun hg _ => q_indexAddr (s := r35) (i := at_36) rfl Try.underlying33 ok36 (gvb_yes hg) (gvb_yes hg) (ha45 hg)) ?_
              refine rd_gpure (i := 9) (g := (!(decide (at_36 ≥ (r35.len : Int))))) (d := (some 94)) hD (by kernel_rfl) (by kernel_rfl) rfl (.no 4 89 true (decide (at_36 ≥ (r35.len : Int))) rfl rfl rfl rfl) rfl (fun hg _ => q_move (v := tSlc.enc (r31)) rfl rfl) ?_
              refine rd_gpure (i := 10) (g := (!(decide (at_36 ≥ (r35.len : Int))))) (d := (some 95)) hD (by kernel_rfl) (by kernel_rfl) rfl (.no 4 89 true (decide (at_36 ≥ (r35.len : Int))) rfl rfl rfl rfl) rfl (fun hg _ => q_move (v := .int .i64 (i_37)) rfl rfl) ?_
              obtain ⟨a46, ha46, h⟩ := h
              refine rd_gpure (i := 11) (g := (!(decide (at_36 ≥ (r35.len : Int))))) (d := (some 96)) hD (by kernel_rfl) (by kernel_rfl) rfl (.no 4 89 true (decide (at_36 ≥ (r35.len : Int))) rfl rfl rfl rfl) rfl (fun hg _ => q_indexAddr (s := r31) (i := i_37) rfl Try.underlying33 ok36 (gvb_yes hg) (gvb_yes hg) (ha46 hg)) ?_
              obtain ⟨x47, hx47, h⟩ := h
              refine rd_gread (i := 8) (g := (!(decide (at_36 ≥ (r35.len : Int))))) (d := (some 93)) (fun W => (RdAt T35 a45 W) x47) hD (by kernel_rfl) (by kernel_rfl) rfl (.no 4 89 true (decide (at_36 ≥ (r35.len : Int))) rfl rfl rfl rfl) rfl (fun hg W hr => q_load (T := T35) (u := x47) (a := a45) rfl ok36 (gvb_yes hg) hr) hx47 ?_
              obtain ⟨x48, hx48, h⟩ := h
              refine rd_gread (i := 12) (g := (!(decide (at_36 ≥ (r35.len : Int))))) (d := (some 97)) (fun W => (RdAt T35 a46 W) x48) hD (by kernel_rfl) (by kernel_rfl) rfl (.no 4 89 true (decide (at_36 ≥ (r35.len : Int))) rfl rfl rfl rfl) rfl (fun hg W hr => q_load (T := T35) (u := x48) (a := a46) rfl ok36 (gvb_yes hg) hr) hx48 ?_
              refine rd_gpure (i := 13) (g := (!(decide (at_36 ≥ (r35.len : Int))))) (d := (some 98)) hD (by kernel_rfl) (by kernel_rfl) rfl (.no 4 89 true (decide (at_36 ≥ (r35.len : Int))) rfl rfl rfl rfl) rfl (fun hg _ => q_neT (r := (S35.eqb x47 x48)) rfl (eq36 x47 x48) (gvb_yes hg) (gvb_yes hg)) ?_
              refine rd_pure (i := 14) (d := (some 99)) hD (by kernel_rfl) (by kernel_rfl) rfl (.free rfl) rfl (fun _ => q_pickGF (a := (decide (at_36 ≥ (r35.len : Int)))) (c := (!(S35.eqb x47 x48))) rfl rfl rfl rfl) ?_
              refine rd_nil (by kernel_rfl) ?_
              refine wp_if (b := ((decide (at_36 ≥ (r35.len : Int))) || (!(S35.eqb x47 x48)))) rfl h (fun hb49 h => ?_) (fun hb49 h => ?_)
              · refine wp_seq ?_
                refine wp_text [0] rfl ?_
                refine ro_val (d := (some 4)) rfl (.free rfl) rfl (q_assign (v := .bool (false)) rfl rfl) ?_
                refine ro_nil ?_
                refine wp_ret ?_
                exact ret_ok rfl (.cons (.tmp (v := .bool (false)) rfl) .nil) ⟨false, rfl, h⟩
              · refine wp_skip ?_
                refine wp_text [0, 1, 2] rfl ?_
                refine ro_val (d := (some 100)) rfl (.free rfl) rfl (q_move (v := .int .i64 (at_36)) rfl rfl) ?_
                refine ro_val (d := (some 101)) rfl (.free rfl) rfl (q_add (a := at_36) (b := (1 : Int)) rfl rfl rfl) ?_
                refine ro_val (d := (some 12)) rfl (.free rfl) rfl (q_assign (v := .int .i64 ((IntKind.i64.wrap (at_36 + (1 : Int))))) rfl rfl) ?_
                refine ro_nil ?_
                exact ⟨((IntKind.i64.wrap (at_36 + (1 : Int)))), _, arr (upd_step (upd_step (upd_step (upd_step (upd_step rfl rfl) rfl) rfl) rfl) rfl), h⟩
        · refine wp_exit ?_
          refine wp_seq ?_
          refine wp_text [0, 1, 2, 3, 4] rfl ?_
          refine ro_val (d := (some 102)) rfl (.free rfl) rfl (q_move (v := .int .i64 (at_36)) rfl rfl) ?_
          refine ro_val (d := (some 103)) rfl (.free rfl) rfl (q_move (v := tSlc.enc (r35)) rfl rfl) ?_
          refine ro_val (d := (some 104)) rfl (.free rfl) rfl (q_len (s := r35) rfl Try.underlying33 rfl) ?_
          refine ro_val (d := (some 105)) rfl (.free rfl) rfl (q_eql (a := at_36) (b := (r35.len : Int)) rfl rfl rfl) ?_
          refine ro_val (d := (some 4)) rfl (.free rfl) rfl (q_assign (v := .bool ((at_36 == (r35.len : Int)))) rfl rfl) ?_
          refine ro_nil ?_
          refine wp_ret ?_
          exact ret_ok rfl (.cons (.tmp (v := .bool ((at_36 == (r35.len : Int)))) rfl) .nil) ⟨(at_36 == (r35.len : Int)), rfl, h⟩

-- moiety/moietylaw09.PostPlays
def F7_j2 (i_12 : Int) (t_26 : Bool) (w27 : World) (K14 : Int → World → Prop) (R : Bool → World → Prop) : Prop :=
  if t_26 = true then (
    R false w27
  ) else (
    K14 ((IntKind.i64.wrap (i_12 + (1 : Int)))) w27
  )
def F7_l1 (l_2 : Slc) (r4 : ((Option Addr) × Int)) (a7 : Addr) (i_12 : Int) (w13 : World) (K14 : Int → World → Prop) (R : Bool → World → Prop) : Prop :=
  if ((decide (i_12 < (l_2.len : Int))) && (decide (i_12 < (60 : Int)))) = true then (
    dr w13 fun w15 =>
    ex (IxA l_2 5 i_12) fun a16 =>
    ex (RdAt T48 a7 w15) fun x17 =>
    ex (RdAt T28 a16 w15) fun x18 =>
    cl Try.prog 15 [T28.enc (x18)] T28 w15 fun r20 w19 =>
    kp ((RdAt T48 a7 w19) x17) <|
    cl Try.prog 20 [.pointer (r4.1), T48.enc (x17), T28.enc (r20)] (tTup2 T48 tBool) w19 fun r23 w22 =>
    kp ((RdAt T28 a16 w22) x18) <|
    st T48 a7 r23.1 w22 fun w25 =>
    dr w25 fun w29 =>
    if (!r23.2) = true then (
      F7_j2 i_12 true w29 K14 R
    ) else (
      ex (RdAt tSlc (a7.add 66) w29) fun x31 =>
      cl Try.prog 13 [.pointer (r4.1)] tSlc w29 fun r33 w32 =>
      kp ((RdAt tSlc (a7.add 66) w32) x31) <|
      cl Try.prog 21 [tSlc.enc (r33), tSlc.enc (x31)] tBool w32 fun r36 w35 =>
      F7_j2 i_12 (!r36) w35 K14 R
    )
  ) else (
    R true w13
  )
def F7 (nodes_1 : Int) (l_2 : Slc) (w : World) (R : Bool → World → Prop) : Prop :=
  cl Try.prog 9 [.int .i64 (nodes_1)] (tTup2 tPtr (tInt .i64)) w fun r4 w3 =>
  cl Try.prog 19 [.int .i64 (nodes_1)] (tTup2 T48 tBool) w3 fun r6 w5 =>
  nw 49 T48 Z48 w5 fun a7 w8 =>
  st T48 a7 r6.1 w8 fun w9 =>
  cl Try.prog 10 [] tBool w9 fun r11 w10 =>
  if (((!r11) || (!((r4.2 == (0 : Int)) == r6.2))) || (r4.1.isNone == r6.2)) = true then (
    R false w10
  ) else (
    if r4.1.isNone = true then (
      R (r4.2 == (90 : Int)) w10
    ) else (
      lp (fun (s : Int) w K => F7_l1 l_2 r4 a7 s w K R) ((0 : Int)) w10
    )
  )
theorem F7_ok {nodes_1 : Int} {l_2 : Slc} {w : World} {R : Bool → World → Prop} (h : F7 nodes_1 l_2 w R) : cl Try.prog 7 [.int .i64 (nodes_1), tSlc.enc (l_2)] tBool w R := by
  unfold F7 at h
  refine calls_start 69 Try.func7 rfl rfl (Nat.le_of_ble_eq_true rfl) ?_
  refine wp_seq ?_
  refine wp_text [0] rfl ?_
  refine ro_val (d := (some 4)) rfl (.free rfl) rfl (q_assign (v := .bool (false)) rfl rfl) ?_
  refine ro_nil ?_
  refine wp_seq ?_
  refine wp_text [0, 1, 2, 3, 4, 5, 6] rfl ?_
  refine ro_val (d := (some 11)) rfl (.free rfl) rfl (q_move (v := .int .i64 (nodes_1)) rfl rfl) ?_
  refine ro_wp rfl (.free rfl) (wp_cl (d := (some 12)) rfl (q_call (k := 9) (l := [.int .i64 (nodes_1)]) rfl ent9 rfl) h ?_)
  intro r4 w3 h
  refine ro_val (d := (some 10)) rfl (.free rfl) rfl (q_move (v := (tTup2 tPtr (tInt .i64)).enc (r4)) rfl rfl) ?_
  refine ro_val (d := (some 13)) rfl (.free rfl) rfl (q_extract (vs := #[.pointer (r4.1), .int .i64 (r4.2)]) (v := .pointer (r4.1)) rfl rfl rfl) ?_
  refine ro_val (d := (some 14)) rfl (.free rfl) rfl (q_extract (vs := #[.pointer (r4.1), .int .i64 (r4.2)]) (v := .int .i64 (r4.2)) rfl rfl rfl) ?_
  refine ro_val (d := (some 5)) rfl (.free rfl) rfl (q_assign (v := .pointer (r4.1)) rfl rfl) ?_
  refine ro_val (d := (some 6)) rfl (.free rfl) rfl (q_assign (v := .int .i64 (r4.2)) rfl rfl) ?_
  refine ro_nil ?_
  refine wp_seq ?_
  refine wp_text [0, 1, 2, 3, 4, 5, 6, 7] rfl ?_
  refine ro_val (d := (some 16)) rfl (.free rfl) rfl (q_move (v := .int .i64 (nodes_1)) rfl rfl) ?_
  refine ro_wp rfl (.free rfl) (wp_cl (d := (some 17)) rfl (q_call (k := 19) (l := [.int .i64 (nodes_1)]) rfl ent19 rfl) h ?_)
  intro r6 w5 h
  refine ro_val (d := (some 15)) rfl (.free rfl) rfl (q_move (v := (tTup2 T48 tBool).enc (r6)) rfl rfl) ?_
  refine ro_val (d := (some 18)) rfl (.free rfl) rfl (q_extract (vs := #[T48.enc (r6.1), .bool (r6.2)]) (v := T48.enc (r6.1)) rfl rfl rfl) ?_
  refine ro_val (d := (some 19)) rfl (.free rfl) rfl (q_extract (vs := #[T48.enc (r6.1), .bool (r6.2)]) (v := .bool (r6.2)) rfl rfl rfl) ?_
  obtain ⟨a7, w8, ha7, hw8, h⟩ := nw_open h
  refine ro_val (d := (some 7)) rfl (.free rfl) rfl (q_alloc (u := Z48) rfl ok49 inf49 ha7 hw8) ?_
  obtain ⟨w9, hw9, hrw9, h⟩ := st_open h
  refine ro_skip (d := none) rfl (.free rfl) rfl (q_store (T := T48) (u := r6.1) (a := a7) rfl ok49 rfl rfl hrw9 hw9) ?_
  refine ro_val (d := (some 8)) rfl (.free rfl) rfl (q_assign (v := .bool (r6.2)) rfl rfl) ?_
  refine ro_nil ?_
  refine wp_seq ?_
  refine wp_seq ?_
  refine wp_text [0, 1, 2, 3, 4, 5, 6, 7, 8, 9, 10, 11, 12, 13] rfl ?_
  refine ro_wp rfl (.free rfl) (wp_cl (d := (some 20)) rfl (q_call (k := 10) (l := []) rfl ent10 rfl) h ?_)
  intro r11 w10 h
  refine ro_val (d := (some 21)) rfl (.free rfl) rfl (q_not (b := r11) rfl rfl) ?_
  refine ro_val (d := (some 22)) rfl (.free rfl) rfl (q_move (v := .bool ((!r11))) rfl rfl) ?_
  refine ro_gval (g := (!(!r11))) (d := (some 23)) rfl (.no 2 22 true (!r11) rfl rfl rfl rfl) rfl (fun hg => q_move (v := .int .i64 (r4.2)) rfl rfl) ?_
  refine ro_gval (g := (!(!r11))) (d := (some 24)) rfl (.no 2 22 true (!r11) rfl rfl rfl rfl) rfl (fun hg => q_eql (a := r4.2) (b := (0 : Int)) rfl (gvb_yes hg) rfl) ?_
  refine ro_gval (g := (!(!r11))) (d := (some 25)) rfl (.no 2 22 true (!r11) rfl rfl rfl rfl) rfl (fun hg => q_move (v := .bool (r6.2)) rfl rfl) ?_
  refine ro_gval (g := (!(!r11))) (d := (some 26)) rfl (.no 2 22 true (!r11) rfl rfl rfl rfl) rfl (fun hg => q_neB (a := (r4.2 == (0 : Int))) (b := r6.2) rfl Try.underlying4 (gvb_yes hg) (gvb_yes hg)) ?_
  refine ro_val (d := (some 27)) rfl (.free rfl) rfl (q_pickGF (a := (!r11)) (c := (!((r4.2 == (0 : Int)) == r6.2))) rfl rfl rfl rfl) ?_
  refine ro_val (d := (some 28)) rfl (.free rfl) rfl (q_move (v := .bool (((!r11) || (!((r4.2 == (0 : Int)) == r6.2))))) rfl rfl) ?_
  refine ro_gval (g := (!((!r11) || (!((r4.2 == (0 : Int)) == r6.2))))) (d := (some 29)) rfl (.no 8 28 true ((!r11) || (!((r4.2 == (0 : Int)) == r6.2))) rfl rfl rfl rfl) rfl (fun hg => q_move (v := .pointer (r4.1)) rfl rfl) ?_
  refine ro_gval (g := (!((!r11) || (!((r4.2 == (0 : Int)) == r6.2))))) (d := (some 30)) rfl (.no 8 28 true ((!r11) || (!((r4.2 == (0 : Int)) == r6.2))) rfl rfl rfl rfl) rfl (fun hg => q_eqP0 (a := r4.1) rfl Try.underlying23 (gvb_yes hg) rfl) ?_
  refine ro_gval (g := (!((!r11) || (!((r4.2 == (0 : Int)) == r6.2))))) (d := (some 31)) rfl (.no 8 28 true ((!r11) || (!((r4.2 == (0 : Int)) == r6.2))) rfl rfl rfl rfl) rfl (fun hg => q_move (v := .bool (r6.2)) rfl rfl) ?_
  refine ro_gval (g := (!((!r11) || (!((r4.2 == (0 : Int)) == r6.2))))) (d := (some 32)) rfl (.no 8 28 true ((!r11) || (!((r4.2 == (0 : Int)) == r6.2))) rfl rfl rfl rfl) rfl (fun hg => q_eqB (a := r4.1.isNone) (b := r6.2) rfl Try.underlying4 (gvb_yes hg) (gvb_yes hg)) ?_
  refine ro_val (d := (some 33)) rfl (.free rfl) rfl (q_pickGF (a := ((!r11) || (!((r4.2 == (0 : Int)) == r6.2)))) (c := (r4.1.isNone == r6.2)) rfl rfl rfl rfl) ?_
  refine ro_nil ?_
  refine wp_if (b := (((!r11) || (!((r4.2 == (0 : Int)) == r6.2))) || (r4.1.isNone == r6.2))) rfl h (fun hb39 h => ?_) (fun hb39 h => ?_)
  · refine wp_seq ?_
    refine wp_text [0] rfl ?_
    refine ro_val (d := (some 4)) rfl (.free rfl) rfl (q_assign (v := .bool (false)) rfl rfl) ?_
    refine ro_nil ?_
    refine wp_ret ?_
    exact ret_ok rfl (.cons (.tmp (v := .bool (false)) rfl) .nil) ⟨false, rfl, h⟩
  · refine wp_skip ?_
    refine wp_seq ?_
    refine wp_seq ?_
    refine wp_text [0, 1] rfl ?_
    refine ro_val (d := (some 34)) rfl (.free rfl) rfl (q_move (v := .pointer (r4.1)) rfl rfl) ?_
    refine ro_val (d := (some 35)) rfl (.free rfl) rfl (q_eqP0 (a := r4.1) rfl Try.underlying23 rfl rfl) ?_
    refine ro_nil ?_
    refine wp_if (b := r4.1.isNone) rfl h (fun hb38 h => ?_) (fun hb38 h => ?_)
    · refine wp_seq ?_
      refine wp_text [0, 1, 2] rfl ?_
      refine ro_val (d := (some 36)) rfl (.free rfl) rfl (q_move (v := .int .i64 (r4.2)) rfl rfl) ?_
      refine ro_val (d := (some 37)) rfl (.free rfl) rfl (q_eql (a := r4.2) (b := (90 : Int)) rfl rfl rfl) ?_
      refine ro_val (d := (some 4)) rfl (.free rfl) rfl (q_assign (v := .bool ((r4.2 == (90 : Int)))) rfl rfl) ?_
      refine ro_nil ?_
      refine wp_ret ?_
      exact ret_ok rfl (.cons (.tmp (v := .bool ((r4.2 == (90 : Int)))) rfl) .nil) ⟨(r4.2 == (90 : Int)), rfl, h⟩
    · refine wp_skip ?_
      refine wp_seq ?_
      refine wp_seq ?_
      refine wp_text [0] rfl ?_
      refine ro_val (d := (some 9)) rfl (.free rfl) rfl (q_assign (v := .int .i64 ((0 : Int))) rfl rfl) ?_
      refine ro_nil ?_
      refine wp_block ?_
      refine loop_at (σ := Int) (fr := fun g (s : Int) => upd (upd (upd (upd (g) 1 (tSlc.enc (l_2))) 5 (.pointer (r4.1))) 7 (.pointer (some a7))) 9 (.int .i64 (s))) (s0 := ((0 : Int))) (upd_step (upd_step (upd_step (upd_step rfl rfl) rfl) rfl) rfl) h ?_
      rintro i_12 g w13 K14 h
      unfold F7_l1 at h
      refine wp_seq ?_
      refine wp_seq ?_
      refine wp_text [0, 1, 2, 3, 4, 5, 6, 7] rfl ?_
      refine ro_val (d := (some 38)) rfl (.free rfl) rfl (q_move (v := .int .i64 (i_12)) rfl rfl) ?_
      refine ro_val (d := (some 39)) rfl (.free rfl) rfl (q_move (v := tSlc.enc (l_2)) rfl rfl) ?_
      refine ro_val (d := (some 40)) rfl (.free rfl) rfl (q_len (s := l_2) rfl Try.underlying22 rfl) ?_
      refine ro_val (d := (some 41)) rfl (.free rfl) rfl (q_lss (a := i_12) (b := (l_2.len : Int)) rfl rfl rfl) ?_
      refine ro_val (d := (some 42)) rfl (.free rfl) rfl (q_move (v := .bool ((decide (i_12 < (l_2.len : Int))))) rfl rfl) ?_
      refine ro_gval (g := (decide (i_12 < (l_2.len : Int)))) (d := (some 43)) rfl (.yes 4 42 true (decide (i_12 < (l_2.len : Int))) rfl rfl rfl rfl) rfl (fun hg => q_move (v := .int .i64 (i_12)) rfl rfl) ?_
      refine ro_gval (g := (decide (i_12 < (l_2.len : Int)))) (d := (some 44)) rfl (.yes 4 42 true (decide (i_12 < (l_2.len : Int))) rfl rfl rfl rfl) rfl (fun hg => q_lss (a := i_12) (b := (60 : Int)) rfl (gvb_yes hg) rfl) ?_
      refine ro_val (d := (some 45)) rfl (.free rfl) rfl (q_pickGT (a := (decide (i_12 < (l_2.len : Int)))) (b := (decide (i_12 < (60 : Int)))) rfl rfl rfl rfl) ?_
      refine ro_nil ?_
      refine wp_if (b := ((decide (i_12 < (l_2.len : Int))) && (decide (i_12 < (60 : Int))))) rfl h (fun hb37 h => ?_) (fun hb37 h => ?_)
      · refine wp_skip ?_
        refine wp_seq ?_
        refine wp_block ?_
        refine wp_seq ?_
        obtain ⟨w15, hw15, h⟩ := dr_open h
        refine wp_drawn 13 mixed rfl (by kernel_rfl) (by intro c a d v w h; cases d <;> exact h) hw15 (fun hD => ?_)
        refine rd_pure (i := 0) (d := (some 49)) hD (by kernel_rfl) (by kernel_rfl) rfl (.free rfl) rfl (fun _ => q_move (v := .pointer (r4.1)) rfl rfl) ?_
        refine rd_pure (i := 2) (d := (some 51)) hD (by kernel_rfl) (by kernel_rfl) rfl (.free rfl) rfl (fun _ => q_move (v := tSlc.enc (l_2)) rfl rfl) ?_
        refine rd_pure (i := 3) (d := (some 52)) hD (by kernel_rfl) (by kernel_rfl) rfl (.free rfl) rfl (fun _ => q_move (v := .int .i64 (i_12)) rfl rfl) ?_
        obtain ⟨a16, ha16, h⟩ := h
        refine rd_pure (i := 4) (d := (some 53)) hD (by kernel_rfl) (by kernel_rfl) rfl (.free rfl) rfl (fun _ => q_indexAddr (s := l_2) (i := i_12) rfl Try.underlying22 ok29 rfl rfl ha16) ?_
        obtain ⟨x17, hx17, h⟩ := h
        refine rd_read (i := 1) (d := (some 50)) (fun W => (RdAt T48 a7 W) x17) hD (by kernel_rfl) (by kernel_rfl) rfl (.free rfl) rfl (fun W hr => q_load (T := T48) (u := x17) (a := a7) rfl ok49 rfl hr) hx17 ?_
        obtain ⟨x18, hx18, h⟩ := h
        refine rd_read (i := 5) (d := (some 54)) (fun W => (RdAt T28 a16 W) x18) hD (by kernel_rfl) (by kernel_rfl) rfl (.free rfl) rfl (fun W hr => q_load (T := T28) (u := x18) (a := a16) rfl ok29 rfl hr) hx18 ?_
        refine rd_one (i := 6) (by kernel_rfl) ?_
        refine po_wp rfl (.free rfl) (wp_cl (d := (some 55)) rfl (q_call (k := 15) (l := [T28.enc (x18)]) rfl ent15 rfl) h ?_)
        intro r20 w19 h
        obtain ⟨hk21, h⟩ := h
        refine ⟨(hk_wait (by kernel_rfl) (hk_keep (fun _ => hk21) hk_nil)), ?_⟩
        refine rd_one (i := 7) (by kernel_rfl) ?_
        refine po_wp rfl (.free rfl) (wp_cl (d := (some 56)) rfl (q_call (k := 20) (l := [.pointer (r4.1), T48.enc (x17), T28.enc (r20)]) rfl ent20 rfl) h ?_)
        intro r23 w22 h
        obtain ⟨hk24, h⟩ := h
        refine ⟨(hk_keep (fun _ => hk24) (hk_wait (by kernel_rfl) hk_nil)), ?_⟩
        refine rd_pure (i := 8) (d := (some 48)) hD (by kernel_rfl) (by kernel_rfl) rfl (.free rfl) rfl (fun _ => q_move (v := (tTup2 T48 tBool).enc (r23)) rfl rfl) ?_
        refine rd_pure (i := 9) (d := (some 57)) hD (by kernel_rfl) (by kernel_rfl) rfl (.free rfl) rfl (fun _ => q_extract (vs := #[T48.enc (r23.1), .bool (r23.2)]) (v := T48.enc (r23.1)) rfl rfl rfl) ?_
        refine rd_pure (i := 10) (d := (some 58)) hD (by kernel_rfl) (by kernel_rfl) rfl (.free rfl) rfl (fun _ => q_extract (vs := #[T48.enc (r23.1), .bool (r23.2)]) (v := .bool (r23.2)) rfl rfl rfl) ?_
        refine rd_one (i := 11) (by kernel_rfl) ?_
        obtain ⟨w25, hw25, hrw25, h⟩ := st_open h
        refine po_skip (d := none) rfl (.free rfl) rfl (q_store (T := T48) (u := r23.1) (a := a7) rfl ok49 rfl rfl hrw25 hw25) ⟨(hk_wait (by kernel_rfl) (hk_wait (by kernel_rfl) hk_nil)), ?_⟩
        refine rd_pure (i := 12) (d := (some 8)) hD (by kernel_rfl) (by kernel_rfl) rfl (.free rfl) rfl (fun _ => q_assign (v := .bool (r23.2)) rfl rfl) ?_
        refine rd_nil (by kernel_rfl) ?_
        refine seq_join (σ := Bool) (J := fun (s : Bool) w => F7_j2 i_12 s w K14 R) (fr := fun g (s : Bool) => upd (upd (upd (upd (upd (g) 1 (tSlc.enc (l_2))) 5 (.pointer (r4.1))) 7 (.pointer (some a7))) 9 (.int .i64 (i_12))) 68 (.bool (s))) ?_ ?_
        · rintro t_26 g w27 h
          unfold F7_j2 at h
          refine wp_if (b := t_26) rfl h (fun hb28 h => ?_) (fun hb28 h => ?_)
          · refine wp_seq ?_
            refine wp_text [0] rfl ?_
            refine ro_val (d := (some 4)) rfl (.free rfl) rfl (q_assign (v := .bool (false)) rfl rfl) ?_
            refine ro_nil ?_
            refine wp_ret ?_
            exact ret_ok rfl (.cons (.tmp (v := .bool (false)) rfl) .nil) ⟨false, rfl, h⟩
          · refine wp_skip ?_
            refine wp_text [0, 1, 2] rfl ?_
            refine ro_val (d := (some 46)) rfl (.free rfl) rfl (q_move (v := .int .i64 (i_12)) rfl rfl) ?_
            refine ro_val (d := (some 47)) rfl (.free rfl) rfl (q_add (a := i_12) (b := (1 : Int)) rfl rfl rfl) ?_
            refine ro_val (d := (some 9)) rfl (.free rfl) rfl (q_assign (v := .int .i64 ((IntKind.i64.wrap (i_12 + (1 : Int))))) rfl rfl) ?_
            refine ro_nil ?_
            exact ⟨((IntKind.i64.wrap (i_12 + (1 : Int)))), _, arr (upd_step (upd_step (upd_step (upd_step rfl rfl) rfl) rfl) rfl), h⟩
        · obtain ⟨w29, hw29, h⟩ := dr_open h
          refine wp_drawn 10 mixed rfl (by kernel_rfl) (by intro c a d v w h; cases d <;> exact h) hw29 (fun hD => ?_)
          refine rd_pure (i := 0) (d := (some 59)) hD (by kernel_rfl) (by kernel_rfl) rfl (.free rfl) rfl (fun _ => q_move (v := .bool (r23.2)) rfl rfl) ?_
          refine rd_pure (i := 1) (d := (some 60)) hD (by kernel_rfl) (by kernel_rfl) rfl (.free rfl) rfl (fun _ => q_not (b := r23.2) rfl rfl) ?_
          refine rd_pure (i := 2) (d := (some 61)) hD (by kernel_rfl) (by kernel_rfl) rfl (.free rfl) rfl (fun _ => q_move (v := .bool ((!r23.2))) rfl rfl) ?_
          refine ro_if (b := (!r23.2)) h (fun hb30 h => ?_) (fun hb30 h => ?_)
          · refine rd_bar (i := 3) (d := (some 62)) hD (by kernel_rfl) (by kernel_rfl) rfl (.by_ 2 false 61 (!r23.2) rfl rfl rfl hb30) rfl ?_
            refine rd_bar (i := 5) (d := (some 64)) hD (by kernel_rfl) (by kernel_rfl) rfl (.by_ 2 false 61 (!r23.2) rfl rfl rfl hb30) rfl ?_
            refine rd_bar (i := 6) (d := (some 65)) hD (by kernel_rfl) (by kernel_rfl) rfl (.by_ 2 false 61 (!r23.2) rfl rfl rfl hb30) rfl ?_
            refine rd_one (i := 4) (by kernel_rfl) ?_
            refine po_bar (d := (some 63)) rfl (.by_ 2 false 61 (!r23.2) rfl rfl rfl hb30) rfl ⟨fun _ _ _ h => h, ?_⟩
            refine rd_one (i := 7) (by kernel_rfl) ?_
            refine po_bar (d := (some 66)) rfl (.by_ 2 false 61 (!r23.2) rfl rfl rfl hb30) rfl ⟨fun _ _ _ h => h, ?_⟩
            refine rd_bar (i := 8) (d := (some 67)) hD (by kernel_rfl) (by kernel_rfl) rfl (.by_ 2 false 61 (!r23.2) rfl rfl rfl hb30) rfl ?_
            refine rd_pure (i := 9) (d := (some 68)) hD (by kernel_rfl) (by kernel_rfl) rfl (.free rfl) rfl (fun _ => q_pickT (v := .bool (true)) (b := (!r23.2)) rfl rfl hb30 rfl) ?_
            refine rd_nil (by kernel_rfl) ?_
            exact ⟨(true), _, arr (upd_step (upd_step (upd_step (upd_step (upd_step rfl rfl) rfl) rfl) rfl) rfl), h⟩
          · refine rd_pure (i := 3) (d := (some 62)) hD (by kernel_rfl) (by kernel_rfl) rfl (.by_ 2 false 61 (!r23.2) rfl rfl rfl hb30) rfl (fun _ => q_move (v := .pointer (r4.1)) rfl rfl) ?_
            refine rd_pure (i := 5) (d := (some 64)) hD (by kernel_rfl) (by kernel_rfl) rfl (.by_ 2 false 61 (!r23.2) rfl rfl rfl hb30) rfl (fun _ => q_fieldAddr (a := a7) (off := 66) rfl Try.underlying49 rfl rfl ok47 (by decide) rfl) ?_
            obtain ⟨x31, hx31, h⟩ := h
            refine rd_read (i := 6) (d := (some 65)) (fun W => (RdAt tSlc (a7.add 66) W) x31) hD (by kernel_rfl) (by kernel_rfl) rfl (.by_ 2 false 61 (!r23.2) rfl rfl rfl hb30) rfl (fun W hr => q_load (T := tSlc) (u := x31) (a := (a7.add 66)) rfl ok47 rfl hr) hx31 ?_
            refine rd_one (i := 4) (by kernel_rfl) ?_
            refine po_wp rfl (.by_ 2 false 61 (!r23.2) rfl rfl rfl hb30) (wp_cl (d := (some 63)) rfl (q_call (k := 13) (l := [.pointer (r4.1)]) rfl ent13 rfl) h ?_)
            intro r33 w32 h
            obtain ⟨hk34, h⟩ := h
            refine ⟨(hk_keep (fun _ => hk34) hk_nil), ?_⟩
            refine rd_one (i := 7) (by kernel_rfl) ?_
            refine po_wp rfl (.by_ 2 false 61 (!r23.2) rfl rfl rfl hb30) (wp_cl (d := (some 66)) rfl (q_call (k := 21) (l := [tSlc.enc (r33), tSlc.enc (x31)]) rfl ent21 rfl) h ?_)
            intro r36 w35 h
            refine ⟨(hk_wait (by kernel_rfl) hk_nil), ?_⟩
            refine rd_pure (i := 8) (d := (some 67)) hD (by kernel_rfl) (by kernel_rfl) rfl (.by_ 2 false 61 (!r23.2) rfl rfl rfl hb30) rfl (fun _ => q_not (b := r36) rfl rfl) ?_
            refine rd_pure (i := 9) (d := (some 68)) hD (by kernel_rfl) (by kernel_rfl) rfl (.free rfl) rfl (fun _ => q_pickF (v := .bool ((!r36))) (b := (!r23.2)) rfl rfl hb30 rfl) ?_
            refine rd_nil (by kernel_rfl) ?_
            exact ⟨((!r36)), _, arr (upd_step (upd_step (upd_step (upd_step (upd_step rfl rfl) rfl) rfl) rfl) rfl), h⟩
      · refine wp_exit ?_
        refine wp_seq ?_
        refine wp_text [0] rfl ?_
        refine ro_val (d := (some 4)) rfl (.free rfl) rfl (q_assign (v := .bool (true)) rfl rfl) ?_
        refine ro_nil ?_
        refine wp_ret ?_
        exact ret_ok rfl (.cons (.tmp (v := .bool (true)) rfl) .nil) ⟨true, rfl, h⟩

end Go.Proofs.Ytpflfnaflacfgaa.Cf
