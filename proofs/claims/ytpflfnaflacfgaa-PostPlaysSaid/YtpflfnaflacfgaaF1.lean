/- Characteristic formulae of Go functions, and that they are. Printed by gen.py (own tool). -/
import Derived.Test.YtpflfnaflacfgaaTy
namespace Go.Proofs.Ytpflfnaflacfgaa.Cf
open Go
set_option maxRecDepth 100000
set_option maxHeartbeats 1000000
set_option linter.unusedVariables false
set_option linter.unusedSimpArgs false

-- moiety/moietylaw09.PostOwn
def F4_j2 (i_6 : Int) (w9 : World) (K8 : Int → World → Prop) (R : Bool → World → Prop) : Prop :=
  K8 ((IntKind.i64.wrap (i_6 + (1 : Int)))) w9
def F4_l4 (r27 : Slc) (r38 : Slc) (i_39 : Int) (w40 : World) (K41 : Int → World → Prop) (R : Bool → World → Prop) : Prop :=
  if (decide (i_39 < (r38.len : Int))) = true then (
    dr w40 fun w42 =>
    ex (IxA r38 4 i_39) fun a43 =>
    ex (IxA r27 4 i_39) fun a44 =>
    ex (RdAt T35 a43 w42) fun x45 =>
    ex (RdAt T35 a44 w42) fun x46 =>
    if (!(S35.eqb x45 x46)) = true then (
      R false w42
    ) else (
      K41 ((IntKind.i64.wrap (i_39 + (1 : Int)))) w42
    )
  ) else (
    R true w40
  )
def F4_l3 (r3 : ((Option Addr) × Int)) (r25 : Slc) (r27 : Slc) (i_28 : Int) (w29 : World) (K30 : Int → World → Prop) (R : Bool → World → Prop) : Prop :=
  if (decide (i_28 < (r25.len : Int))) = true then (
    ex (IxA r25 4 i_28) fun a31 =>
    st T35 a31 (⟨(-1 : Int), (0 : Int), (0 : Int), ([] : List UInt8)⟩ : S35) w29 fun w32 =>
    K30 ((IntKind.i64.wrap (i_28 + (1 : Int)))) w32
  ) else (
    apl 36 T35 4 40 r25 [(⟨(-2 : Int), (0 : Int), (0 : Int), ([] : List UInt8)⟩ : S35)] w29 fun r36 w35 =>
    cl Try.prog 13 [.pointer (r3.1)] tSlc w35 fun r38 w37 =>
    if (((r38.len : Int) != (r27.len : Int)) || ((r36.len : Int) != (IntKind.i64.wrap ((r27.len : Int) + (1 : Int))))) = true then (
      R false w37
    ) else (
      lp (fun (s : Int) w K => F4_l4 r27 r38 s w K R) ((0 : Int)) w37
    )
  )
def F4_l1 (l_1 : Slc) (r3 : ((Option Addr) × Int)) (i_6 : Int) (w7 : World) (K8 : Int → World → Prop) (R : Bool → World → Prop) : Prop :=
  if ((decide (i_6 < (l_1.len : Int))) && (decide (i_6 < (30 : Int)))) = true then (
    ex (IxA l_1 5 i_6) fun a10 =>
    ex (RdAt T28 a10 w7) fun x11 =>
    cl Try.prog 15 [T28.enc (x11)] T28 w7 fun r13 w12 =>
    nw 29 T28 Z28 w12 fun a14 w15 =>
    st T28 a14 r13 w15 fun w16 =>
    ex (RdAt (tInt .i64) (a14.add 0) w16) fun x17 =>
    if (x17 == (0 : Int)) = true then (
      ex (RdAt (tInt .i64) (a14.add 1) w16) fun x18 =>
      ex (RdAt (tInt .i64) (a14.add 2) w16) fun x19 =>
      ex (RdAt tStr (a14.add 3) w16) fun x20 =>
      cl Try.prog 11 [.pointer (r3.1), .int .i64 (x18), .int .i64 (x19), .string ⟨(x20).toArray⟩] (tTup2 (tInt .i64) (tInt .i64)) w16 fun r22 w21 =>
      F4_j2 i_6 w21 K8 R
    ) else (
      F4_j2 i_6 w16 K8 R
    )
  ) else (
    cl Try.prog 13 [.pointer (r3.1)] tSlc w7 fun r25 w24 =>
    cl Try.prog 13 [.pointer (r3.1)] tSlc w24 fun r27 w26 =>
    lp (fun (s : Int) w K => F4_l3 r3 r25 r27 s w K R) ((0 : Int)) w26
  )
def F4 (l_1 : Slc) (w : World) (R : Bool → World → Prop) : Prop :=
  cl Try.prog 9 [.int .i64 ((3 : Int))] (tTup2 tPtr (tInt .i64)) w fun r3 w2 =>
  cl Try.prog 10 [] tBool w2 fun r5 w4 =>
  if (((!r5) || (r3.2 != (0 : Int))) || r3.1.isNone) = true then (
    R false w4
  ) else (
    lp (fun (s : Int) w K => F4_l1 l_1 r3 s w K R) ((0 : Int)) w4
  )
theorem F4_ok {l_1 : Slc} {w : World} {R : Bool → World → Prop} (h : F4 l_1 w R) : cl Try.prog 4 [tSlc.enc (l_1)] tBool w R := by
  unfold F4 at h
  refine calls_start 100 Try.func4 rfl rfl (Nat.le_of_ble_eq_true rfl) ?_
  refine wp_seq ?_
  refine wp_text [0] rfl ?_
  refine ro_val (d := (some 2)) rfl (.free rfl) rfl (q_assign (v := .bool (false)) rfl rfl) ?_
  refine ro_nil ?_
  refine wp_seq ?_
  refine wp_text [0, 1, 2, 3, 4, 5] rfl ?_
  refine ro_wp rfl (.free rfl) (wp_cl (d := (some 13)) rfl (q_call (k := 9) (l := [.int .i64 ((3 : Int))]) rfl ent9 rfl) h ?_)
  intro r3 w2 h
  refine ro_val (d := (some 12)) rfl (.free rfl) rfl (q_move (v := (tTup2 tPtr (tInt .i64)).enc (r3)) rfl rfl) ?_
  refine ro_val (d := (some 14)) rfl (.free rfl) rfl (q_extract (vs := #[.pointer (r3.1), .int .i64 (r3.2)]) (v := .pointer (r3.1)) rfl rfl rfl) ?_
  refine ro_val (d := (some 15)) rfl (.free rfl) rfl (q_extract (vs := #[.pointer (r3.1), .int .i64 (r3.2)]) (v := .int .i64 (r3.2)) rfl rfl rfl) ?_
  refine ro_val (d := (some 3)) rfl (.free rfl) rfl (q_assign (v := .pointer (r3.1)) rfl rfl) ?_
  refine ro_val (d := (some 4)) rfl (.free rfl) rfl (q_assign (v := .int .i64 (r3.2)) rfl rfl) ?_
  refine ro_nil ?_
  refine wp_seq ?_
  refine wp_seq ?_
  refine wp_text [0, 1, 2, 3, 4, 5, 6, 7, 8, 9] rfl ?_
  refine ro_wp rfl (.free rfl) (wp_cl (d := (some 16)) rfl (q_call (k := 10) (l := []) rfl ent10 rfl) h ?_)
  intro r5 w4 h
  refine ro_val (d := (some 17)) rfl (.free rfl) rfl (q_not (b := r5) rfl rfl) ?_
  refine ro_val (d := (some 18)) rfl (.free rfl) rfl (q_move (v := .bool ((!r5))) rfl rfl) ?_
  refine ro_gval (g := (!(!r5))) (d := (some 19)) rfl (.no 2 18 true (!r5) rfl rfl rfl rfl) rfl (fun hg => q_move (v := .int .i64 (r3.2)) rfl rfl) ?_
  refine ro_gval (g := (!(!r5))) (d := (some 20)) rfl (.no 2 18 true (!r5) rfl rfl rfl rfl) rfl (fun hg => q_neq (a := r3.2) (b := (0 : Int)) rfl (gvb_yes hg) rfl) ?_
  refine ro_val (d := (some 21)) rfl (.free rfl) rfl (q_pickGF (a := (!r5)) (c := (r3.2 != (0 : Int))) rfl rfl rfl rfl) ?_
  refine ro_val (d := (some 22)) rfl (.free rfl) rfl (q_move (v := .bool (((!r5) || (r3.2 != (0 : Int))))) rfl rfl) ?_
  refine ro_gval (g := (!((!r5) || (r3.2 != (0 : Int))))) (d := (some 23)) rfl (.no 6 22 true ((!r5) || (r3.2 != (0 : Int))) rfl rfl rfl rfl) rfl (fun hg => q_move (v := .pointer (r3.1)) rfl rfl) ?_
  refine ro_gval (g := (!((!r5) || (r3.2 != (0 : Int))))) (d := (some 24)) rfl (.no 6 22 true ((!r5) || (r3.2 != (0 : Int))) rfl rfl rfl rfl) rfl (fun hg => q_eqP0 (a := r3.1) rfl Try.underlying23 (gvb_yes hg) rfl) ?_
  refine ro_val (d := (some 25)) rfl (.free rfl) rfl (q_pickGF (a := ((!r5) || (r3.2 != (0 : Int)))) (c := r3.1.isNone) rfl rfl rfl rfl) ?_
  refine ro_nil ?_
  refine wp_if (b := (((!r5) || (r3.2 != (0 : Int))) || r3.1.isNone)) rfl h (fun hb52 h => ?_) (fun hb52 h => ?_)
  · refine wp_seq ?_
    refine wp_text [0] rfl ?_
    refine ro_val (d := (some 2)) rfl (.free rfl) rfl (q_assign (v := .bool (false)) rfl rfl) ?_
    refine ro_nil ?_
    refine wp_ret ?_
    exact ret_ok rfl (.cons (.tmp (v := .bool (false)) rfl) .nil) ⟨false, rfl, h⟩
  · refine wp_skip ?_
    refine wp_seq ?_
    refine wp_seq ?_
    refine wp_text [0] rfl ?_
    refine ro_val (d := (some 5)) rfl (.free rfl) rfl (q_assign (v := .int .i64 ((0 : Int))) rfl rfl) ?_
    refine ro_nil ?_
    refine wp_block ?_
    refine loop_at (σ := Int) (fr := fun g (s : Int) => upd (upd (upd (g) 0 (tSlc.enc (l_1))) 3 (.pointer (r3.1))) 5 (.int .i64 (s))) (s0 := ((0 : Int))) (upd_step (upd_step (upd_step rfl rfl) rfl) rfl) h ?_
    rintro i_6 g w7 K8 h
    unfold F4_l1 at h
    refine wp_seq ?_
    refine wp_seq ?_
    refine wp_text [0, 1, 2, 3, 4, 5, 6, 7] rfl ?_
    refine ro_val (d := (some 26)) rfl (.free rfl) rfl (q_move (v := .int .i64 (i_6)) rfl rfl) ?_
    refine ro_val (d := (some 27)) rfl (.free rfl) rfl (q_move (v := tSlc.enc (l_1)) rfl rfl) ?_
    refine ro_val (d := (some 28)) rfl (.free rfl) rfl (q_len (s := l_1) rfl Try.underlying22 rfl) ?_
    refine ro_val (d := (some 29)) rfl (.free rfl) rfl (q_lss (a := i_6) (b := (l_1.len : Int)) rfl rfl rfl) ?_
    refine ro_val (d := (some 30)) rfl (.free rfl) rfl (q_move (v := .bool ((decide (i_6 < (l_1.len : Int))))) rfl rfl) ?_
    refine ro_gval (g := (decide (i_6 < (l_1.len : Int)))) (d := (some 31)) rfl (.yes 4 30 true (decide (i_6 < (l_1.len : Int))) rfl rfl rfl rfl) rfl (fun hg => q_move (v := .int .i64 (i_6)) rfl rfl) ?_
    refine ro_gval (g := (decide (i_6 < (l_1.len : Int)))) (d := (some 32)) rfl (.yes 4 30 true (decide (i_6 < (l_1.len : Int))) rfl rfl rfl rfl) rfl (fun hg => q_lss (a := i_6) (b := (30 : Int)) rfl (gvb_yes hg) rfl) ?_
    refine ro_val (d := (some 33)) rfl (.free rfl) rfl (q_pickGT (a := (decide (i_6 < (l_1.len : Int)))) (b := (decide (i_6 < (30 : Int)))) rfl rfl rfl rfl) ?_
    refine ro_nil ?_
    refine wp_if (b := ((decide (i_6 < (l_1.len : Int))) && (decide (i_6 < (30 : Int))))) rfl h (fun hb51 h => ?_) (fun hb51 h => ?_)
    · refine wp_skip ?_
      refine seq_join (σ := Unit) (J := fun (s : Unit) w => F4_j2 i_6 w K8 R) (fr := fun g (s : Unit) => upd (upd (upd (g) 0 (tSlc.enc (l_1))) 3 (.pointer (r3.1))) 5 (.int .i64 (i_6))) ?_ ?_
      · rintro ⟨⟩ g w9 h
        unfold F4_j2 at h
        refine wp_text [0, 1, 2] rfl ?_
        refine ro_val (d := (some 34)) rfl (.free rfl) rfl (q_move (v := .int .i64 (i_6)) rfl rfl) ?_
        refine ro_val (d := (some 35)) rfl (.free rfl) rfl (q_add (a := i_6) (b := (1 : Int)) rfl rfl rfl) ?_
        refine ro_val (d := (some 5)) rfl (.free rfl) rfl (q_assign (v := .int .i64 ((IntKind.i64.wrap (i_6 + (1 : Int))))) rfl rfl) ?_
        refine ro_nil ?_
        exact ⟨((IntKind.i64.wrap (i_6 + (1 : Int)))), _, arr (upd_step (upd_step (upd_step rfl rfl) rfl) rfl), h⟩
      · refine wp_block ?_
        refine wp_seq ?_
        refine wp_text [0, 1, 2, 3, 4, 5, 6] rfl ?_
        refine ro_val (d := (some 36)) rfl (.free rfl) rfl (q_move (v := tSlc.enc (l_1)) rfl rfl) ?_
        refine ro_val (d := (some 37)) rfl (.free rfl) rfl (q_move (v := .int .i64 (i_6)) rfl rfl) ?_
        obtain ⟨a10, ha10, h⟩ := h
        refine ro_val (d := (some 38)) rfl (.free rfl) rfl (q_indexAddr (s := l_1) (i := i_6) rfl Try.underlying22 ok29 rfl rfl ha10) ?_
        obtain ⟨x11, hx11, h⟩ := h
        refine ro_val (d := (some 39)) rfl (.free rfl) rfl (q_load (T := T28) (u := x11) (a := a10) rfl ok29 rfl hx11) ?_
        refine ro_wp rfl (.free rfl) (wp_cl (d := (some 40)) rfl (q_call (k := 15) (l := [T28.enc (x11)]) rfl ent15 rfl) h ?_)
        intro r13 w12 h
        obtain ⟨a14, w15, ha14, hw15, h⟩ := nw_open h
        refine ro_val (d := (some 6)) rfl (.free rfl) rfl (q_alloc (u := Z28) rfl ok29 inf29 ha14 hw15) ?_
        obtain ⟨w16, hw16, hrw16, h⟩ := st_open h
        refine ro_skip (d := none) rfl (.free rfl) rfl (q_store (T := T28) (u := r13) (a := a14) rfl ok29 rfl rfl hrw16 hw16) ?_
        refine ro_nil ?_
        refine wp_seq ?_
        refine wp_text [0, 1, 2] rfl ?_
        refine ro_val (d := (some 41)) rfl (.free rfl) rfl (q_fieldAddr (a := a14) (off := 0) rfl Try.underlying29 rfl rfl ok3 (by decide) rfl) ?_
        obtain ⟨x17, hx17, h⟩ := h
        refine ro_val (d := (some 42)) rfl (.free rfl) rfl (q_load (T := (tInt .i64)) (u := x17) (a := (a14.add 0)) rfl ok3 rfl hx17) ?_
        refine ro_val (d := (some 43)) rfl (.free rfl) rfl (q_eql (a := x17) (b := (0 : Int)) rfl rfl rfl) ?_
        refine ro_nil ?_
        refine wp_if (b := (x17 == (0 : Int))) rfl h (fun hb23 h => ?_) (fun hb23 h => ?_)
        · refine wp_text [0, 1, 2, 3, 4, 5, 6, 7] rfl ?_
          refine ro_val (d := (some 44)) rfl (.free rfl) rfl (q_move (v := .pointer (r3.1)) rfl rfl) ?_
          refine ro_val (d := (some 45)) rfl (.free rfl) rfl (q_fieldAddr (a := a14) (off := 1) rfl Try.underlying29 rfl rfl ok3 (by decide) rfl) ?_
          obtain ⟨x18, hx18, h⟩ := h
          refine ro_val (d := (some 46)) rfl (.free rfl) rfl (q_load (T := (tInt .i64)) (u := x18) (a := (a14.add 1)) rfl ok3 rfl hx18) ?_
          refine ro_val (d := (some 47)) rfl (.free rfl) rfl (q_fieldAddr (a := a14) (off := 2) rfl Try.underlying29 rfl rfl ok3 (by decide) rfl) ?_
          obtain ⟨x19, hx19, h⟩ := h
          refine ro_val (d := (some 48)) rfl (.free rfl) rfl (q_load (T := (tInt .i64)) (u := x19) (a := (a14.add 2)) rfl ok3 rfl hx19) ?_
          refine ro_val (d := (some 49)) rfl (.free rfl) rfl (q_fieldAddr (a := a14) (off := 3) rfl Try.underlying29 rfl rfl ok9 (by decide) rfl) ?_
          obtain ⟨x20, hx20, h⟩ := h
          refine ro_val (d := (some 50)) rfl (.free rfl) rfl (q_load (T := tStr) (u := x20) (a := (a14.add 3)) rfl ok9 rfl hx20) ?_
          refine ro_wp rfl (.free rfl) (wp_cl (d := (some 51)) rfl (q_call (k := 11) (l := [.pointer (r3.1), .int .i64 (x18), .int .i64 (x19), .string ⟨(x20).toArray⟩]) rfl ent11 rfl) h ?_)
          intro r22 w21 h
          refine ro_nil ?_
          exact ⟨(), _, arr (upd_step (upd_step (upd_step rfl rfl) rfl) rfl), h⟩
        · refine wp_skip ?_
          exact ⟨(), _, arr (upd_step (upd_step (upd_step rfl rfl) rfl) rfl), h⟩
    · refine wp_exit ?_
      refine wp_seq ?_
      refine wp_text [0, 1, 2] rfl ?_
      refine ro_val (d := (some 52)) rfl (.free rfl) rfl (q_move (v := .pointer (r3.1)) rfl rfl) ?_
      refine ro_wp rfl (.free rfl) (wp_cl (d := (some 53)) rfl (q_call (k := 13) (l := [.pointer (r3.1)]) rfl ent13 rfl) h ?_)
      intro r25 w24 h
      refine ro_val (d := (some 7)) rfl (.free rfl) rfl (q_assign (v := tSlc.enc (r25)) rfl rfl) ?_
      refine ro_nil ?_
      refine wp_seq ?_
      refine wp_text [0, 1, 2] rfl ?_
      refine ro_val (d := (some 54)) rfl (.free rfl) rfl (q_move (v := .pointer (r3.1)) rfl rfl) ?_
      refine ro_wp rfl (.free rfl) (wp_cl (d := (some 55)) rfl (q_call (k := 13) (l := [.pointer (r3.1)]) rfl ent13 rfl) h ?_)
      intro r27 w26 h
      refine ro_val (d := (some 8)) rfl (.free rfl) rfl (q_assign (v := tSlc.enc (r27)) rfl rfl) ?_
      refine ro_nil ?_
      refine wp_seq ?_
      refine wp_seq ?_
      refine wp_text [0] rfl ?_
      refine ro_val (d := (some 9)) rfl (.free rfl) rfl (q_assign (v := .int .i64 ((0 : Int))) rfl rfl) ?_
      refine ro_nil ?_
      refine wp_block ?_
      refine loop_at (σ := Int) (fr := fun g (s : Int) => upd (upd (upd (upd (g) 3 (.pointer (r3.1))) 7 (tSlc.enc (r25))) 8 (tSlc.enc (r27))) 9 (.int .i64 (s))) (s0 := ((0 : Int))) (upd_step (upd_step (upd_step (upd_step rfl rfl) rfl) rfl) rfl) h ?_
      rintro i_28 g w29 K30 h
      unfold F4_l3 at h
      refine wp_seq ?_
      refine wp_seq ?_
      refine wp_text [0, 1, 2, 3] rfl ?_
      refine ro_val (d := (some 56)) rfl (.free rfl) rfl (q_move (v := .int .i64 (i_28)) rfl rfl) ?_
      refine ro_val (d := (some 57)) rfl (.free rfl) rfl (q_move (v := tSlc.enc (r25)) rfl rfl) ?_
      refine ro_val (d := (some 58)) rfl (.free rfl) rfl (q_len (s := r25) rfl Try.underlying33 rfl) ?_
      refine ro_val (d := (some 59)) rfl (.free rfl) rfl (q_lss (a := i_28) (b := (r25.len : Int)) rfl rfl rfl) ?_
      refine ro_nil ?_
      refine wp_if (b := (decide (i_28 < (r25.len : Int)))) rfl h (fun hb50 h => ?_) (fun hb50 h => ?_)
      · refine wp_skip ?_
        refine wp_seq ?_
        refine wp_block ?_
        refine wp_text [0, 1, 2, 3, 4] rfl ?_
        refine ro_val (d := (some 62)) rfl (.free rfl) rfl (q_move (v := tSlc.enc (r25)) rfl rfl) ?_
        refine ro_val (d := (some 63)) rfl (.free rfl) rfl (q_move (v := .int .i64 (i_28)) rfl rfl) ?_
        refine ro_val (d := (some 64)) rfl (.free rfl) rfl (q_build36_0 (v0 := (-1 : Int)) rfl rfl) ?_
        obtain ⟨a31, ha31, h⟩ := h
        refine ro_val (d := (some 65)) rfl (.free rfl) rfl (q_indexAddr (s := r25) (i := i_28) rfl Try.underlying33 ok36 rfl rfl ha31) ?_
        obtain ⟨w32, hw32, hrw32, h⟩ := st_open h
        refine ro_skip (d := none) rfl (.free rfl) rfl (q_store (T := T35) (u := (⟨(-1 : Int), (0 : Int), (0 : Int), ([] : List UInt8)⟩ : S35)) (a := a31) rfl ok36 rfl rfl hrw32 hw32) ?_
        refine ro_nil ?_
        refine wp_text [0, 1, 2] rfl ?_
        refine ro_val (d := (some 60)) rfl (.free rfl) rfl (q_move (v := .int .i64 (i_28)) rfl rfl) ?_
        refine ro_val (d := (some 61)) rfl (.free rfl) rfl (q_add (a := i_28) (b := (1 : Int)) rfl rfl rfl) ?_
        refine ro_val (d := (some 9)) rfl (.free rfl) rfl (q_assign (v := .int .i64 ((IntKind.i64.wrap (i_28 + (1 : Int))))) rfl rfl) ?_
        refine ro_nil ?_
        exact ⟨((IntKind.i64.wrap (i_28 + (1 : Int)))), _, arr (upd_step (upd_step (upd_step (upd_step rfl rfl) rfl) rfl) rfl), h⟩
      · refine wp_exit ?_
        refine wp_seq ?_
        refine wp_text [0, 1, 2, 3, 4] rfl ?_
        refine ro_val (d := (some 66)) rfl (.free rfl) rfl (q_move (v := tSlc.enc (r25)) rfl rfl) ?_
        refine ro_val (d := (some 67)) rfl (.free rfl) rfl (q_build36_0 (v0 := (-2 : Int)) rfl rfl) ?_
        obtain ⟨a33, w34, ha33, hw34, h⟩ := apl_open h
        refine ro_val (d := (some 68)) rfl (.free rfl) rfl (q_rowOf (T := T35) (xs := [(⟨(-2 : Int), (0 : Int), (0 : Int), ([] : List UInt8)⟩ : S35)]) rfl Try.underlying33 ok36 inf36 rfl (by decide) (by decide) rfl ha33 hw34) ?_
        refine ro_wp rfl (.free rfl) (wp_append (d := (some 69)) (T := T35) rfl rfl Try.underlying33 ⟨_, Try.underlying33⟩ ok36 inf36 rfl rfl (Nat.lt_of_lt_of_le Nat.zero_lt_one (Nat.le_of_ble_eq_true rfl)) rfl rfl h ?_)
        intro r36 w35 h
        refine ro_val (d := (some 7)) rfl (.free rfl) rfl (q_assign (v := tSlc.enc (r36)) rfl rfl) ?_
        refine ro_nil ?_
        refine wp_seq ?_
        refine wp_text [0, 1, 2] rfl ?_
        refine ro_val (d := (some 70)) rfl (.free rfl) rfl (q_move (v := .pointer (r3.1)) rfl rfl) ?_
        refine ro_wp rfl (.free rfl) (wp_cl (d := (some 71)) rfl (q_call (k := 13) (l := [.pointer (r3.1)]) rfl ent13 rfl) h ?_)
        intro r38 w37 h
        refine ro_val (d := (some 10)) rfl (.free rfl) rfl (q_assign (v := tSlc.enc (r38)) rfl rfl) ?_
        refine ro_nil ?_
        refine wp_seq ?_
        refine wp_seq ?_
        refine wp_text [0, 1, 2, 3, 4, 5, 6, 7, 8, 9, 10, 11, 12] rfl ?_
        refine ro_val (d := (some 72)) rfl (.free rfl) rfl (q_move (v := tSlc.enc (r38)) rfl rfl) ?_
        refine ro_val (d := (some 73)) rfl (.free rfl) rfl (q_len (s := r38) rfl Try.underlying33 rfl) ?_
        refine ro_val (d := (some 74)) rfl (.free rfl) rfl (q_move (v := tSlc.enc (r27)) rfl rfl) ?_
        refine ro_val (d := (some 75)) rfl (.free rfl) rfl (q_len (s := r27) rfl Try.underlying33 rfl) ?_
        refine ro_val (d := (some 76)) rfl (.free rfl) rfl (q_neq (a := (r38.len : Int)) (b := (r27.len : Int)) rfl rfl rfl) ?_
        refine ro_val (d := (some 77)) rfl (.free rfl) rfl (q_move (v := .bool (((r38.len : Int) != (r27.len : Int)))) rfl rfl) ?_
        refine ro_gval (g := (!((r38.len : Int) != (r27.len : Int)))) (d := (some 78)) rfl (.no 5 77 true ((r38.len : Int) != (r27.len : Int)) rfl rfl rfl rfl) rfl (fun hg => q_move (v := tSlc.enc (r36)) rfl rfl) ?_
        refine ro_gval (g := (!((r38.len : Int) != (r27.len : Int)))) (d := (some 79)) rfl (.no 5 77 true ((r38.len : Int) != (r27.len : Int)) rfl rfl rfl rfl) rfl (fun hg => q_len (s := r36) rfl Try.underlying33 (gvb_yes hg)) ?_
        refine ro_gval (g := (!((r38.len : Int) != (r27.len : Int)))) (d := (some 80)) rfl (.no 5 77 true ((r38.len : Int) != (r27.len : Int)) rfl rfl rfl rfl) rfl (fun hg => q_move (v := tSlc.enc (r27)) rfl rfl) ?_
        refine ro_gval (g := (!((r38.len : Int) != (r27.len : Int)))) (d := (some 81)) rfl (.no 5 77 true ((r38.len : Int) != (r27.len : Int)) rfl rfl rfl rfl) rfl (fun hg => q_len (s := r27) rfl Try.underlying33 (gvb_yes hg)) ?_
        refine ro_gval (g := (!((r38.len : Int) != (r27.len : Int)))) (d := (some 82)) rfl (.no 5 77 true ((r38.len : Int) != (r27.len : Int)) rfl rfl rfl rfl) rfl (fun hg => q_add (a := (r27.len : Int)) (b := (1 : Int)) rfl (gvb_yes hg) rfl) ?_
        refine ro_gval (g := (!((r38.len : Int) != (r27.len : Int)))) (d := (some 83)) rfl (.no 5 77 true ((r38.len : Int) != (r27.len : Int)) rfl rfl rfl rfl) rfl (fun hg => q_neq (a := (r36.len : Int)) (b := (IntKind.i64.wrap ((r27.len : Int) + (1 : Int)))) rfl (gvb_yes hg) (gvb_yes hg)) ?_
        refine ro_val (d := (some 84)) rfl (.free rfl) rfl (q_pickGF (a := ((r38.len : Int) != (r27.len : Int))) (c := ((r36.len : Int) != (IntKind.i64.wrap ((r27.len : Int) + (1 : Int))))) rfl rfl rfl rfl) ?_
        refine ro_nil ?_
        refine wp_if (b := (((r38.len : Int) != (r27.len : Int)) || ((r36.len : Int) != (IntKind.i64.wrap ((r27.len : Int) + (1 : Int)))))) rfl h (fun hb49 h => ?_) (fun hb49 h => ?_)
        · refine wp_seq ?_
          refine wp_text [0] rfl ?_
          refine ro_val (d := (some 2)) rfl (.free rfl) rfl (q_assign (v := .bool (false)) rfl rfl) ?_
          refine ro_nil ?_
          refine wp_ret ?_
          exact ret_ok rfl (.cons (.tmp (v := .bool (false)) rfl) .nil) ⟨false, rfl, h⟩
        · refine wp_skip ?_
          refine wp_seq ?_
          refine wp_seq ?_
          refine wp_text [0] rfl ?_
          refine ro_val (d := (some 11)) rfl (.free rfl) rfl (q_assign (v := .int .i64 ((0 : Int))) rfl rfl) ?_
          refine ro_nil ?_
          refine wp_block ?_
          refine loop_at (σ := Int) (fr := fun g (s : Int) => upd (upd (upd (g) 8 (tSlc.enc (r27))) 10 (tSlc.enc (r38))) 11 (.int .i64 (s))) (s0 := ((0 : Int))) (upd_step (upd_step (upd_step rfl rfl) rfl) rfl) h ?_
          rintro i_39 g w40 K41 h
          unfold F4_l4 at h
          refine wp_seq ?_
          refine wp_seq ?_
          refine wp_text [0, 1, 2, 3] rfl ?_
          refine ro_val (d := (some 85)) rfl (.free rfl) rfl (q_move (v := .int .i64 (i_39)) rfl rfl) ?_
          refine ro_val (d := (some 86)) rfl (.free rfl) rfl (q_move (v := tSlc.enc (r38)) rfl rfl) ?_
          refine ro_val (d := (some 87)) rfl (.free rfl) rfl (q_len (s := r38) rfl Try.underlying33 rfl) ?_
          refine ro_val (d := (some 88)) rfl (.free rfl) rfl (q_lss (a := i_39) (b := (r38.len : Int)) rfl rfl rfl) ?_
          refine ro_nil ?_
          refine wp_if (b := (decide (i_39 < (r38.len : Int)))) rfl h (fun hb48 h => ?_) (fun hb48 h => ?_)
          · refine wp_skip ?_
            refine wp_seq ?_
            refine wp_block ?_
            refine wp_seq ?_
            obtain ⟨w42, hw42, h⟩ := dr_open h
            refine wp_drawn 9 mixed rfl (by kernel_rfl) (by intro c a d v w h; cases d <;> exact h) hw42 (fun hD => ?_)
            refine rd_pure (i := 0) (d := (some 91)) hD (by kernel_rfl) (by kernel_rfl) rfl (.free rfl) rfl (fun _ => q_move (v := tSlc.enc (r38)) rfl rfl) ?_
            refine rd_pure (i := 1) (d := (some 92)) hD (by kernel_rfl) (by kernel_rfl) rfl (.free rfl) rfl (fun _ => q_move (v := .int .i64 (i_39)) rfl rfl) ?_
            obtain ⟨a43, ha43, h⟩ := h
            refine rd_pure (i := 2) (d := (some 93)) hD (by kernel_rfl) (by kernel_rfl) rfl (.free rfl) rfl (fun _ => q_indexAddr (s := r38) (i := i_39) rfl Try.underlying33 ok36 rfl rfl ha43) ?_
            refine rd_pure (i := 4) (d := (some 95)) hD (by kernel_rfl) (by kernel_rfl) rfl (.free rfl) rfl (fun _ => q_move (v := tSlc.enc (r27)) rfl rfl) ?_
            refine rd_pure (i := 5) (d := (some 96)) hD (by kernel_rfl) (by kernel_rfl) rfl (.free rfl) rfl (fun _ => q_move (v := .int .i64 (i_39)) rfl rfl) ?_
            obtain ⟨a44, ha44, h⟩ := h
            refine rd_pure (i := 6) (d := (some 97)) hD (by kernel_rfl) (by kernel_rfl) rfl (.free rfl) rfl (fun _ => q_indexAddr (s := r27) (i := i_39) rfl Try.underlying33 ok36 rfl rfl ha44) ?_
            obtain ⟨x45, hx45, h⟩ := h
            refine rd_read (i := 3) (d := (some 94)) (fun W => (RdAt T35 a43 W) x45) hD (by kernel_rfl) (by kernel_rfl) rfl (.free rfl) rfl (fun W hr => q_load (T := T35) (u := x45) (a := a43) rfl ok36 rfl hr) hx45 ?_
            obtain ⟨x46, hx46, h⟩ := h
            refine rd_read (i := 7) (d := (some 98)) (fun W => (RdAt T35 a44 W) x46) hD (by kernel_rfl) (by kernel_rfl) rfl (.free rfl) rfl (fun W hr => q_load (T := T35) (u := x46) (a := a44) rfl ok36 rfl hr) hx46 ?_
            refine rd_pure (i := 8) (d := (some 99)) hD (by kernel_rfl) (by kernel_rfl) rfl (.free rfl) rfl (fun _ => q_neT (r := (S35.eqb x45 x46)) rfl (eq36 x45 x46) rfl rfl) ?_
            refine rd_nil (by kernel_rfl) ?_
            refine wp_if (b := (!(S35.eqb x45 x46))) rfl h (fun hb47 h => ?_) (fun hb47 h => ?_)
            · refine wp_seq ?_
              refine wp_text [0] rfl ?_
              refine ro_val (d := (some 2)) rfl (.free rfl) rfl (q_assign (v := .bool (false)) rfl rfl) ?_
              refine ro_nil ?_
              refine wp_ret ?_
              exact ret_ok rfl (.cons (.tmp (v := .bool (false)) rfl) .nil) ⟨false, rfl, h⟩
            · refine wp_skip ?_
              refine wp_text [0, 1, 2] rfl ?_
              refine ro_val (d := (some 89)) rfl (.free rfl) rfl (q_move (v := .int .i64 (i_39)) rfl rfl) ?_
              refine ro_val (d := (some 90)) rfl (.free rfl) rfl (q_add (a := i_39) (b := (1 : Int)) rfl rfl rfl) ?_
              refine ro_val (d := (some 11)) rfl (.free rfl) rfl (q_assign (v := .int .i64 ((IntKind.i64.wrap (i_39 + (1 : Int))))) rfl rfl) ?_
              refine ro_nil ?_
              exact ⟨((IntKind.i64.wrap (i_39 + (1 : Int)))), _, arr (upd_step (upd_step (upd_step rfl rfl) rfl) rfl), h⟩
          · refine wp_exit ?_
            refine wp_seq ?_
            refine wp_text [0] rfl ?_
            refine ro_val (d := (some 2)) rfl (.free rfl) rfl (q_assign (v := .bool (true)) rfl rfl) ?_
            refine ro_nil ?_
            refine wp_ret ?_
            exact ret_ok rfl (.cons (.tmp (v := .bool (true)) rfl) .nil) ⟨true, rfl, h⟩

end Go.Proofs.Ytpflfnaflacfgaa.Cf
