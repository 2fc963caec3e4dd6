/- Characteristic formulae of Go functions, and that they are. Printed by gen.py (own tool). -/
import Derived.Test.YtojcgejjdfcaaaaTy
namespace Go.Proofs.Ytojcgejjdfcaaaa.Cf
open Go
set_option maxRecDepth 100000
set_option maxHeartbeats 1000000
set_option linter.unusedVariables false
set_option linter.unusedSimpArgs false

-- moiety/moietylaw13.LocksEldest
def F6_l3 (r3 : (Option Addr)) (i_7 : Int) (a12 : Addr) (r17 : (S33 × Int)) (a18 : Addr) (alive_21 : Bool) (k_23 : Int) (w24 : World) (K9 : Bool × Int → World → Prop) (K25 : Int → World → Prop) (R : Bool → World → Prop) : Prop :=
  ex (RdAt tSlc (a18.add 1) w24) fun x26 =>
  if (decide (k_23 < (x26.len : Int))) = true then (
    dr w24 fun w27 =>
    ex (RdAt tSlc (a18.add 1) w27) fun x28 =>
    ex (IxA x28 1 k_23) fun a29 =>
    ex (RdAt (tInt .i64) a29 w27) fun x30 =>
    ex (RdAt (tInt .i64) (a12.add 1) w27) fun x31 =>
    if (decide (x30 ≤ x31)) = true then (
      R false w27
    ) else (
      K25 ((IntKind.i64.wrap (k_23 + (1 : Int)))) w27
    )
  ) else (
    cl Try.prog 18 [.pointer (r3), .int .i64 ((1 : Int))] tBool w24 fun r34 w33 =>
    ex (fun x => (!r34) = true → (RdAt (tInt .i64) (a12.add 1) w33) x) fun x35 =>
    if (r34 || ((x35 == (1 : Int)) && ((r17.2 == (132 : Int)) || (r17.2 == (133 : Int))))) = true then (
      R false w33
    ) else (
      K9 (alive_21, (IntKind.i64.wrap (i_7 + (1 : Int)))) w33
    )
  )
def F6_j2 (r3 : (Option Addr)) (i_7 : Int) (a12 : Addr) (r17 : (S33 × Int)) (a18 : Addr) (alive_21 : Bool) (w22 : World) (K9 : Bool × Int → World → Prop) (R : Bool → World → Prop) : Prop :=
  lp (fun (s : Int) w K => F6_l3 r3 i_7 a12 r17 a18 alive_21 s w K9 K R) ((0 : Int)) w22
def F6_l1 (l_1 : Slc) (r3 : (Option Addr)) (alive_6 : Bool) (i_7 : Int) (w8 : World) (K9 : Bool × Int → World → Prop) (R : Bool → World → Prop) : Prop :=
  if ((decide (i_7 < (l_1.len : Int))) && (decide (i_7 < (40 : Int)))) = true then (
    ex (IxA l_1 4 i_7) fun a10 =>
    ex (RdAt T30 a10 w8) fun x11 =>
    nw 31 T30 Z30 w8 fun a12 w13 =>
    st T30 a12 x11 w13 fun w14 =>
    ex (RdAt T30 a12 w14) fun x15 =>
    cl Try.prog 20 [.pointer (r3), T30.enc (x15)] (tTup2 T33 (tInt .i64)) w14 fun r17 w16 =>
    nw 34 T33 Z33 w16 fun a18 w19 =>
    st T33 a18 r17.1 w19 fun w20 =>
    ex (RdAt (tInt .i64) (a12.add 1) w20) fun x38 =>
    ex (fun x => (x38 == (1 : Int)) = true → (RdAt (tInt .i64) (a12.add 0) w20) x) fun x39 =>
    if ((x38 == (1 : Int)) && (x39 != (0 : Int))) = true then (
      F6_j2 r3 i_7 a12 r17 a18 false w20 K9 R
    ) else (
      ex (RdAt (tInt .i64) (a12.add 1) w20) fun x40 =>
      if ((x40 == (1 : Int)) && (r17.2 == (0 : Int))) = true then (
        ex (RdAt tBool (a18.add 0) w20) fun x41 =>
        if (!x41) = true then (
          R false w20
        ) else (
          F6_j2 r3 i_7 a12 r17 a18 true w20 K9 R
        )
      ) else (
        F6_j2 r3 i_7 a12 r17 a18 alive_6 w20 K9 R
      )
    )
  ) else (
    cl Try.prog 15 [.pointer (r3), .int .i64 ((1 : Int))] (tTup2 tSlc (tInt .i64)) w8 fun r46 w45 =>
    if ((!alive_6) && ((r46.2 != (0 : Int)) || (decide ((r46.1.len : Int) > (0 : Int))))) = true then (
      R false w45
    ) else (
      R true w45
    )
  )
def F6 (l_1 : Slc) (w : World) (R : Bool → World → Prop) : Prop :=
  cl Try.prog 9 [] tPtr w fun r3 w2 =>
  cl Try.prog 10 [] tBool w2 fun r5 w4 =>
  if ((!r5) || r3.isNone) = true then (
    R false w4
  ) else (
    lp (fun (s : Bool × Int) w K => F6_l1 l_1 r3 s.1 s.2 w K R) (false, (0 : Int)) w4
  )
theorem F6_ok {l_1 : Slc} {w : World} {R : Bool → World → Prop} (h : F6 l_1 w R) : cl Try.prog 6 [tSlc.enc (l_1)] tBool w R := by
  unfold F6 at h
  refine calls_start 103 Try.func6 rfl rfl (Nat.le_of_ble_eq_true rfl) ?_
  refine wp_seq ?_
  refine wp_text [0] rfl ?_
  refine ro_val (d := (some 2)) rfl (.free rfl) rfl (q_assign (v := .bool (false)) rfl rfl) ?_
  refine ro_nil ?_
  refine wp_seq ?_
  refine wp_text [0, 1] rfl ?_
  refine ro_wp rfl (.free rfl) (wp_cl (d := (some 12)) rfl (q_call (k := 9) (l := []) rfl ent9 rfl) h ?_)
  intro r3 w2 h
  refine ro_val (d := (some 3)) rfl (.free rfl) rfl (q_assign (v := .pointer (r3)) rfl rfl) ?_
  refine ro_nil ?_
  refine wp_seq ?_
  refine wp_seq ?_
  refine wp_text [0, 1, 2, 3, 4, 5] rfl ?_
  refine ro_wp rfl (.free rfl) (wp_cl (d := (some 13)) rfl (q_call (k := 10) (l := []) rfl ent10 rfl) h ?_)
  intro r5 w4 h
  refine ro_val (d := (some 14)) rfl (.free rfl) rfl (q_not (b := r5) rfl rfl) ?_
  refine ro_val (d := (some 15)) rfl (.free rfl) rfl (q_move (v := .bool ((!r5))) rfl rfl) ?_
  refine ro_gval (g := (!(!r5))) (d := (some 16)) rfl (.no 2 15 true (!r5) rfl rfl rfl rfl) rfl (fun hg => q_move (v := .pointer (r3)) rfl rfl) ?_
  refine ro_gval (g := (!(!r5))) (d := (some 17)) rfl (.no 2 15 true (!r5) rfl rfl rfl rfl) rfl (fun hg => q_eqP0 (a := r3) rfl Try.underlying23 (gvb_yes hg) rfl) ?_
  refine ro_val (d := (some 18)) rfl (.free rfl) rfl (q_pickGF (a := (!r5)) (c := r3.isNone) rfl rfl rfl rfl) ?_
  refine ro_nil ?_
  refine wp_if (b := ((!r5) || r3.isNone)) rfl h (fun hb49 h => ?_) (fun hb49 h => ?_)
  · refine wp_seq ?_
    refine wp_text [0] rfl ?_
    refine ro_val (d := (some 2)) rfl (.free rfl) rfl (q_assign (v := .bool (false)) rfl rfl) ?_
    refine ro_nil ?_
    refine wp_ret ?_
    exact ret_ok rfl (.cons (.tmp (v := .bool (false)) rfl) .nil) ⟨false, rfl, h⟩
  · refine wp_skip ?_
    refine wp_seq ?_
    refine wp_text [0] rfl ?_
    refine ro_val (d := (some 4)) rfl (.free rfl) rfl (q_assign (v := .bool (false)) rfl rfl) ?_
    refine ro_nil ?_
    refine wp_seq ?_
    refine wp_seq ?_
    refine wp_text [0] rfl ?_
    refine ro_val (d := (some 5)) rfl (.free rfl) rfl (q_assign (v := .int .i64 ((0 : Int))) rfl rfl) ?_
    refine ro_nil ?_
    refine wp_block ?_
    refine loop_at (σ := Bool × Int) (fr := fun g (s : Bool × Int) => upd (upd (upd (upd (g) 0 (tSlc.enc (l_1))) 3 (.pointer (r3))) 4 (.bool (s.1))) 5 (.int .i64 (s.2))) (s0 := (false, (0 : Int))) (upd_step (upd_step (upd_step (upd_step rfl rfl) rfl) rfl) rfl) h ?_
    rintro ⟨alive_6, i_7⟩ g w8 K9 h
    unfold F6_l1 at h
    refine wp_seq ?_
    refine wp_seq ?_
    refine wp_text [0, 1, 2, 3, 4, 5, 6, 7] rfl ?_
    refine ro_val (d := (some 19)) rfl (.free rfl) rfl (q_move (v := .int .i64 (i_7)) rfl rfl) ?_
    refine ro_val (d := (some 20)) rfl (.free rfl) rfl (q_move (v := tSlc.enc (l_1)) rfl rfl) ?_
    refine ro_val (d := (some 21)) rfl (.free rfl) rfl (q_len (s := l_1) rfl Try.underlying22 rfl) ?_
    refine ro_val (d := (some 22)) rfl (.free rfl) rfl (q_lss (a := i_7) (b := (l_1.len : Int)) rfl rfl rfl) ?_
    refine ro_val (d := (some 23)) rfl (.free rfl) rfl (q_move (v := .bool ((decide (i_7 < (l_1.len : Int))))) rfl rfl) ?_
    refine ro_gval (g := (decide (i_7 < (l_1.len : Int)))) (d := (some 24)) rfl (.yes 4 23 true (decide (i_7 < (l_1.len : Int))) rfl rfl rfl rfl) rfl (fun hg => q_move (v := .int .i64 (i_7)) rfl rfl) ?_
    refine ro_gval (g := (decide (i_7 < (l_1.len : Int)))) (d := (some 25)) rfl (.yes 4 23 true (decide (i_7 < (l_1.len : Int))) rfl rfl rfl rfl) rfl (fun hg => q_lss (a := i_7) (b := (40 : Int)) rfl (gvb_yes hg) rfl) ?_
    refine ro_val (d := (some 26)) rfl (.free rfl) rfl (q_pickGT (a := (decide (i_7 < (l_1.len : Int)))) (b := (decide (i_7 < (40 : Int)))) rfl rfl rfl rfl) ?_
    refine ro_nil ?_
    refine wp_if (b := ((decide (i_7 < (l_1.len : Int))) && (decide (i_7 < (40 : Int))))) rfl h (fun hb48 h => ?_) (fun hb48 h => ?_)
    · refine wp_skip ?_
      refine wp_seq ?_
      refine wp_block ?_
      refine wp_seq ?_
      refine wp_text [0, 1, 2, 3, 4, 5] rfl ?_
      refine ro_val (d := (some 29)) rfl (.free rfl) rfl (q_move (v := tSlc.enc (l_1)) rfl rfl) ?_
      refine ro_val (d := (some 30)) rfl (.free rfl) rfl (q_move (v := .int .i64 (i_7)) rfl rfl) ?_
      obtain ⟨a10, ha10, h⟩ := h
      refine ro_val (d := (some 31)) rfl (.free rfl) rfl (q_indexAddr (s := l_1) (i := i_7) rfl Try.underlying22 ok31 rfl rfl ha10) ?_
      obtain ⟨x11, hx11, h⟩ := h
      refine ro_val (d := (some 32)) rfl (.free rfl) rfl (q_load (T := T30) (u := x11) (a := a10) rfl ok31 rfl hx11) ?_
      obtain ⟨a12, w13, ha12, hw13, h⟩ := nw_open h
      refine ro_val (d := (some 6)) rfl (.free rfl) rfl (q_alloc (u := Z30) rfl ok31 inf31 ha12 hw13) ?_
      obtain ⟨w14, hw14, hrw14, h⟩ := st_open h
      refine ro_skip (d := none) rfl (.free rfl) rfl (q_store (T := T30) (u := x11) (a := a12) rfl ok31 rfl rfl hrw14 hw14) ?_
      refine ro_nil ?_
      refine wp_seq ?_
      refine wp_text [0, 1, 2, 3, 4, 5, 6, 7, 8] rfl ?_
      refine ro_val (d := (some 34)) rfl (.free rfl) rfl (q_move (v := .pointer (r3)) rfl rfl) ?_
      obtain ⟨x15, hx15, h⟩ := h
      refine ro_val (d := (some 35)) rfl (.free rfl) rfl (q_load (T := T30) (u := x15) (a := a12) rfl ok31 rfl hx15) ?_
      refine ro_wp rfl (.free rfl) (wp_cl (d := (some 36)) rfl (q_call (k := 20) (l := [.pointer (r3), T30.enc (x15)]) rfl ent20 rfl) h ?_)
      intro r17 w16 h
      refine ro_val (d := (some 33)) rfl (.free rfl) rfl (q_move (v := (tTup2 T33 (tInt .i64)).enc (r17)) rfl rfl) ?_
      refine ro_val (d := (some 37)) rfl (.free rfl) rfl (q_extract (vs := #[T33.enc (r17.1), .int .i64 (r17.2)]) (v := T33.enc (r17.1)) rfl rfl rfl) ?_
      refine ro_val (d := (some 38)) rfl (.free rfl) rfl (q_extract (vs := #[T33.enc (r17.1), .int .i64 (r17.2)]) (v := .int .i64 (r17.2)) rfl rfl rfl) ?_
      obtain ⟨a18, w19, ha18, hw19, h⟩ := nw_open h
      refine ro_val (d := (some 7)) rfl (.free rfl) rfl (q_alloc (u := Z33) rfl ok34 inf34 ha18 hw19) ?_
      obtain ⟨w20, hw20, hrw20, h⟩ := st_open h
      refine ro_skip (d := none) rfl (.free rfl) rfl (q_store (T := T33) (u := r17.1) (a := a18) rfl ok34 rfl rfl hrw20 hw20) ?_
      refine ro_val (d := (some 8)) rfl (.free rfl) rfl (q_assign (v := .int .i64 (r17.2)) rfl rfl) ?_
      refine ro_nil ?_
      refine seq_join (σ := Bool) (J := fun (s : Bool) w => F6_j2 r3 i_7 a12 r17 a18 s w K9 R) (fr := fun g (s : Bool) => upd (upd (upd (upd (upd (upd (upd (g) 0 (tSlc.enc (l_1))) 3 (.pointer (r3))) 5 (.int .i64 (i_7))) 6 (.pointer (some a12))) 7 (.pointer (some a18))) 8 (.int .i64 (r17.2))) 4 (.bool (s))) ?_ ?_
      · rintro alive_21 g w22 h
        unfold F6_j2 at h
        refine wp_seq ?_
        refine wp_seq ?_
        refine wp_text [0] rfl ?_
        refine ro_val (d := (some 9)) rfl (.free rfl) rfl (q_assign (v := .int .i64 ((0 : Int))) rfl rfl) ?_
        refine ro_nil ?_
        refine wp_block ?_
        refine loop_at (σ := Int) (fr := fun g (s : Int) => upd (upd (upd (upd (upd (upd (upd (upd (g) 0 (tSlc.enc (l_1))) 3 (.pointer (r3))) 4 (.bool (alive_21))) 5 (.int .i64 (i_7))) 6 (.pointer (some a12))) 7 (.pointer (some a18))) 8 (.int .i64 (r17.2))) 9 (.int .i64 (s))) (s0 := ((0 : Int))) (upd_step (upd_step (upd_step (upd_step (upd_step (upd_step (upd_step (upd_step rfl rfl) rfl) rfl) rfl) rfl) rfl) rfl) rfl) h ?_
        rintro k_23 g w24 K25 h
        unfold F6_l3 at h
        refine wp_seq ?_
        refine wp_seq ?_
        refine wp_text [0, 1, 2, 3, 4] rfl ?_
        refine ro_val (d := (some 57)) rfl (.free rfl) rfl (q_move (v := .int .i64 (k_23)) rfl rfl) ?_
        refine ro_val (d := (some 58)) rfl (.free rfl) rfl (q_fieldAddr (a := a18) (off := 1) rfl Try.underlying34 rfl rfl ok26 (by decide) rfl) ?_
        obtain ⟨x26, hx26, h⟩ := h
        refine ro_val (d := (some 59)) rfl (.free rfl) rfl (q_load (T := tSlc) (u := x26) (a := (a18.add 1)) rfl ok26 rfl hx26) ?_
        refine ro_val (d := (some 60)) rfl (.free rfl) rfl (q_len (s := x26) rfl Try.underlying26 rfl) ?_
        refine ro_val (d := (some 61)) rfl (.free rfl) rfl (q_lss (a := k_23) (b := (x26.len : Int)) rfl rfl rfl) ?_
        refine ro_nil ?_
        refine wp_if (b := (decide (k_23 < (x26.len : Int)))) rfl h (fun hb37 h => ?_) (fun hb37 h => ?_)
        · refine wp_skip ?_
          refine wp_seq ?_
          refine wp_block ?_
          refine wp_seq ?_
          obtain ⟨w27, hw27, h⟩ := dr_open h
          refine wp_drawn 8 mixed rfl (by kernel_rfl) (by intro c a d v w h; cases d <;> exact h) hw27 (fun hD => ?_)
          refine rd_pure (i := 0) (d := (some 64)) hD (by kernel_rfl) (by kernel_rfl) rfl (.free rfl) rfl (fun _ => q_fieldAddr (a := a18) (off := 1) rfl Try.underlying34 rfl rfl ok26 (by decide) rfl) ?_
          refine rd_pure (i := 2) (d := (some 66)) hD (by kernel_rfl) (by kernel_rfl) rfl (.free rfl) rfl (fun _ => q_move (v := .int .i64 (k_23)) rfl rfl) ?_
          refine rd_pure (i := 5) (d := (some 69)) hD (by kernel_rfl) (by kernel_rfl) rfl (.free rfl) rfl (fun _ => q_fieldAddr (a := a12) (off := 1) rfl Try.underlying31 rfl rfl ok3 (by decide) rfl) ?_
          obtain ⟨x28, hx28, h⟩ := h
          refine rd_read (i := 1) (d := (some 65)) (fun W => (RdAt tSlc (a18.add 1) W) x28) hD (by kernel_rfl) (by kernel_rfl) rfl (.free rfl) rfl (fun W hr => q_load (T := tSlc) (u := x28) (a := (a18.add 1)) rfl ok26 rfl hr) hx28 ?_
          obtain ⟨a29, ha29, h⟩ := h
          refine rd_pure (i := 3) (d := (some 67)) hD (by kernel_rfl) (by kernel_rfl) rfl (.free rfl) rfl (fun _ => q_indexAddr (s := x28) (i := k_23) rfl Try.underlying26 ok3 rfl rfl ha29) ?_
          obtain ⟨x30, hx30, h⟩ := h
          refine rd_read (i := 4) (d := (some 68)) (fun W => (RdAt (tInt .i64) a29 W) x30) hD (by kernel_rfl) (by kernel_rfl) rfl (.free rfl) rfl (fun W hr => q_load (T := (tInt .i64)) (u := x30) (a := a29) rfl ok3 rfl hr) hx30 ?_
          obtain ⟨x31, hx31, h⟩ := h
          refine rd_read (i := 6) (d := (some 70)) (fun W => (RdAt (tInt .i64) (a12.add 1) W) x31) hD (by kernel_rfl) (by kernel_rfl) rfl (.free rfl) rfl (fun W hr => q_load (T := (tInt .i64)) (u := x31) (a := (a12.add 1)) rfl ok3 rfl hr) hx31 ?_
          refine rd_pure (i := 7) (d := (some 71)) hD (by kernel_rfl) (by kernel_rfl) rfl (.free rfl) rfl (fun _ => q_leq (a := x30) (b := x31) rfl rfl rfl) ?_
          refine rd_nil (by kernel_rfl) ?_
          refine wp_if (b := (decide (x30 ≤ x31))) rfl h (fun hb32 h => ?_) (fun hb32 h => ?_)
          · refine wp_seq ?_
            refine wp_text [0] rfl ?_
            refine ro_val (d := (some 2)) rfl (.free rfl) rfl (q_assign (v := .bool (false)) rfl rfl) ?_
            refine ro_nil ?_
            refine wp_ret ?_
            exact ret_ok rfl (.cons (.tmp (v := .bool (false)) rfl) .nil) ⟨false, rfl, h⟩
          · refine wp_skip ?_
            refine wp_text [0, 1, 2] rfl ?_
            refine ro_val (d := (some 62)) rfl (.free rfl) rfl (q_move (v := .int .i64 (k_23)) rfl rfl) ?_
            refine ro_val (d := (some 63)) rfl (.free rfl) rfl (q_add (a := k_23) (b := (1 : Int)) rfl rfl rfl) ?_
            refine ro_val (d := (some 9)) rfl (.free rfl) rfl (q_assign (v := .int .i64 ((IntKind.i64.wrap (k_23 + (1 : Int))))) rfl rfl) ?_
            refine ro_nil ?_
            exact ⟨((IntKind.i64.wrap (k_23 + (1 : Int)))), _, arr (upd_step (upd_step (upd_step (upd_step (upd_step (upd_step (upd_step (upd_step rfl rfl) rfl) rfl) rfl) rfl) rfl) rfl) rfl), h⟩
        · refine wp_exit ?_
          refine wp_seq ?_
          refine wp_text [0, 1, 2, 3, 4, 5, 6, 7, 8, 9, 10, 11, 12, 13, 14] rfl ?_
          refine ro_val (d := (some 72)) rfl (.free rfl) rfl (q_move (v := .pointer (r3)) rfl rfl) ?_
          refine ro_wp rfl (.free rfl) (wp_cl (d := (some 73)) rfl (q_call (k := 18) (l := [.pointer (r3), .int .i64 ((1 : Int))]) rfl ent18 rfl) h ?_)
          intro r34 w33 h
          refine ro_val (d := (some 74)) rfl (.free rfl) rfl (q_move (v := .bool (r34)) rfl rfl) ?_
          refine ro_gval (g := (!r34)) (d := (some 75)) rfl (.no 2 74 true r34 rfl rfl rfl rfl) rfl (fun hg => q_fieldAddr (a := a12) (off := 1) rfl Try.underlying31 rfl rfl ok3 (by decide) rfl) ?_
          obtain ⟨x35, hx35, h⟩ := h
          refine ro_gval (g := (!r34)) (d := (some 76)) rfl (.no 2 74 true r34 rfl rfl rfl rfl) rfl (fun hg => q_load (T := (tInt .i64)) (u := x35) (a := (a12.add 1)) rfl ok3 (gvb_yes hg) (hx35 hg)) ?_
          refine ro_gval (g := (!r34)) (d := (some 77)) rfl (.no 2 74 true r34 rfl rfl rfl rfl) rfl (fun hg => q_eql (a := x35) (b := (1 : Int)) rfl (gvb_yes hg) rfl) ?_
          refine ro_gval (g := (!r34)) (d := (some 78)) rfl (.no 2 74 true r34 rfl rfl rfl rfl) rfl (fun hg => q_move (v := .bool ((x35 == (1 : Int)))) rfl (gvb_yes hg)) ?_
          refine ro_gval (g := ((!r34) && (x35 == (1 : Int)))) (d := (some 79)) rfl (.yes 6 78 (!r34) (x35 == (1 : Int)) rfl rfl rfl rfl) rfl (fun hg => q_move (v := .int .i64 (r17.2)) rfl rfl) ?_
          refine ro_gval (g := ((!r34) && (x35 == (1 : Int)))) (d := (some 80)) rfl (.yes 6 78 (!r34) (x35 == (1 : Int)) rfl rfl rfl rfl) rfl (fun hg => q_eql (a := r17.2) (b := (132 : Int)) rfl (gvb_yes hg) rfl) ?_
          refine ro_gval (g := ((!r34) && (x35 == (1 : Int)))) (d := (some 81)) rfl (.yes 6 78 (!r34) (x35 == (1 : Int)) rfl rfl rfl rfl) rfl (fun hg => q_move (v := .bool ((r17.2 == (132 : Int)))) rfl (gvb_yes hg)) ?_
          refine ro_gval (g := (((!r34) && (x35 == (1 : Int))) && (!(r17.2 == (132 : Int))))) (d := (some 82)) rfl (.no 9 81 ((!r34) && (x35 == (1 : Int))) (r17.2 == (132 : Int)) rfl rfl rfl rfl) rfl (fun hg => q_move (v := .int .i64 (r17.2)) rfl rfl) ?_
          refine ro_gval (g := (((!r34) && (x35 == (1 : Int))) && (!(r17.2 == (132 : Int))))) (d := (some 83)) rfl (.no 9 81 ((!r34) && (x35 == (1 : Int))) (r17.2 == (132 : Int)) rfl rfl rfl rfl) rfl (fun hg => q_eql (a := r17.2) (b := (133 : Int)) rfl (gvb_yes hg) rfl) ?_
          refine ro_gval (g := ((!r34) && (x35 == (1 : Int)))) (d := (some 84)) rfl (.yes 6 78 (!r34) (x35 == (1 : Int)) rfl rfl rfl rfl) rfl (fun hg => q_pickNF (g0 := ((!r34) && (x35 == (1 : Int)))) (a := (r17.2 == (132 : Int))) (c := (r17.2 == (133 : Int))) hg rfl rfl rfl rfl) ?_
          refine ro_gval (g := (!r34)) (d := (some 85)) rfl (.no 2 74 true r34 rfl rfl rfl rfl) rfl (fun hg => q_pickNT (g0 := (!r34)) (a := (x35 == (1 : Int))) (b := ((r17.2 == (132 : Int)) || (r17.2 == (133 : Int)))) hg rfl rfl rfl rfl) ?_
          refine ro_val (d := (some 86)) rfl (.free rfl) rfl (q_pickGF (a := r34) (c := ((x35 == (1 : Int)) && ((r17.2 == (132 : Int)) || (r17.2 == (133 : Int))))) rfl rfl rfl rfl) ?_
          refine ro_nil ?_
          refine wp_if (b := (r34 || ((x35 == (1 : Int)) && ((r17.2 == (132 : Int)) || (r17.2 == (133 : Int)))))) rfl h (fun hb36 h => ?_) (fun hb36 h => ?_)
          · refine wp_seq ?_
            refine wp_text [0] rfl ?_
            refine ro_val (d := (some 2)) rfl (.free rfl) rfl (q_assign (v := .bool (false)) rfl rfl) ?_
            refine ro_nil ?_
            refine wp_ret ?_
            exact ret_ok rfl (.cons (.tmp (v := .bool (false)) rfl) .nil) ⟨false, rfl, h⟩
          · refine wp_skip ?_
            refine wp_text [0, 1, 2] rfl ?_
            refine ro_val (d := (some 27)) rfl (.free rfl) rfl (q_move (v := .int .i64 (i_7)) rfl rfl) ?_
            refine ro_val (d := (some 28)) rfl (.free rfl) rfl (q_add (a := i_7) (b := (1 : Int)) rfl rfl rfl) ?_
            refine ro_val (d := (some 5)) rfl (.free rfl) rfl (q_assign (v := .int .i64 ((IntKind.i64.wrap (i_7 + (1 : Int))))) rfl rfl) ?_
            refine ro_nil ?_
            exact ⟨(alive_21, (IntKind.i64.wrap (i_7 + (1 : Int)))), _, arr (upd_step (upd_step (upd_step (upd_step rfl rfl) rfl) rfl) rfl), h⟩
      · refine wp_seq ?_
        refine wp_text [0, 1, 2, 3, 4, 5, 6, 7] rfl ?_
        refine ro_val (d := (some 39)) rfl (.free rfl) rfl (q_fieldAddr (a := a12) (off := 1) rfl Try.underlying31 rfl rfl ok3 (by decide) rfl) ?_
        obtain ⟨x38, hx38, h⟩ := h
        refine ro_val (d := (some 40)) rfl (.free rfl) rfl (q_load (T := (tInt .i64)) (u := x38) (a := (a12.add 1)) rfl ok3 rfl hx38) ?_
        refine ro_val (d := (some 41)) rfl (.free rfl) rfl (q_eql (a := x38) (b := (1 : Int)) rfl rfl rfl) ?_
        refine ro_val (d := (some 42)) rfl (.free rfl) rfl (q_move (v := .bool ((x38 == (1 : Int)))) rfl rfl) ?_
        refine ro_gval (g := (x38 == (1 : Int))) (d := (some 43)) rfl (.yes 3 42 true (x38 == (1 : Int)) rfl rfl rfl rfl) rfl (fun hg => q_fieldAddr (a := a12) (off := 0) rfl Try.underlying31 rfl rfl ok3 (by decide) rfl) ?_
        obtain ⟨x39, hx39, h⟩ := h
        refine ro_gval (g := (x38 == (1 : Int))) (d := (some 44)) rfl (.yes 3 42 true (x38 == (1 : Int)) rfl rfl rfl rfl) rfl (fun hg => q_load (T := (tInt .i64)) (u := x39) (a := (a12.add 0)) rfl ok3 (gvb_yes hg) (hx39 hg)) ?_
        refine ro_gval (g := (x38 == (1 : Int))) (d := (some 45)) rfl (.yes 3 42 true (x38 == (1 : Int)) rfl rfl rfl rfl) rfl (fun hg => q_neq (a := x39) (b := (0 : Int)) rfl (gvb_yes hg) rfl) ?_
        refine ro_val (d := (some 46)) rfl (.free rfl) rfl (q_pickGT (a := (x38 == (1 : Int))) (b := (x39 != (0 : Int))) rfl rfl rfl rfl) ?_
        refine ro_nil ?_
        refine wp_if (b := ((x38 == (1 : Int)) && (x39 != (0 : Int)))) rfl h (fun hb44 h => ?_) (fun hb44 h => ?_)
        · refine wp_text [0] rfl ?_
          refine ro_val (d := (some 4)) rfl (.free rfl) rfl (q_assign (v := .bool (false)) rfl rfl) ?_
          refine ro_nil ?_
          exact ⟨(false), _, arr (upd_step (upd_step (upd_step (upd_step (upd_step (upd_step (upd_step rfl rfl) rfl) rfl) rfl) rfl) rfl) rfl), h⟩
        · refine wp_seq ?_
          refine wp_text [0, 1, 2, 3, 4, 5, 6] rfl ?_
          refine ro_val (d := (some 47)) rfl (.free rfl) rfl (q_fieldAddr (a := a12) (off := 1) rfl Try.underlying31 rfl rfl ok3 (by decide) rfl) ?_
          obtain ⟨x40, hx40, h⟩ := h
          refine ro_val (d := (some 48)) rfl (.free rfl) rfl (q_load (T := (tInt .i64)) (u := x40) (a := (a12.add 1)) rfl ok3 rfl hx40) ?_
          refine ro_val (d := (some 49)) rfl (.free rfl) rfl (q_eql (a := x40) (b := (1 : Int)) rfl rfl rfl) ?_
          refine ro_val (d := (some 50)) rfl (.free rfl) rfl (q_move (v := .bool ((x40 == (1 : Int)))) rfl rfl) ?_
          refine ro_gval (g := (x40 == (1 : Int))) (d := (some 51)) rfl (.yes 3 50 true (x40 == (1 : Int)) rfl rfl rfl rfl) rfl (fun hg => q_move (v := .int .i64 (r17.2)) rfl rfl) ?_
          refine ro_gval (g := (x40 == (1 : Int))) (d := (some 52)) rfl (.yes 3 50 true (x40 == (1 : Int)) rfl rfl rfl rfl) rfl (fun hg => q_eql (a := r17.2) (b := (0 : Int)) rfl (gvb_yes hg) rfl) ?_
          refine ro_val (d := (some 53)) rfl (.free rfl) rfl (q_pickGT (a := (x40 == (1 : Int))) (b := (r17.2 == (0 : Int))) rfl rfl rfl rfl) ?_
          refine ro_nil ?_
          refine wp_if (b := ((x40 == (1 : Int)) && (r17.2 == (0 : Int)))) rfl h (fun hb43 h => ?_) (fun hb43 h => ?_)
          · refine wp_seq ?_
            refine wp_seq ?_
            refine wp_text [0, 1, 2] rfl ?_
            refine ro_val (d := (some 54)) rfl (.free rfl) rfl (q_fieldAddr (a := a18) (off := 0) rfl Try.underlying34 rfl rfl ok4 (by decide) rfl) ?_
            obtain ⟨x41, hx41, h⟩ := h
            refine ro_val (d := (some 55)) rfl (.free rfl) rfl (q_load (T := tBool) (u := x41) (a := (a18.add 0)) rfl ok4 rfl hx41) ?_
            refine ro_val (d := (some 56)) rfl (.free rfl) rfl (q_not (b := x41) rfl rfl) ?_
            refine ro_nil ?_
            refine wp_if (b := (!x41)) rfl h (fun hb42 h => ?_) (fun hb42 h => ?_)
            · refine wp_seq ?_
              refine wp_text [0] rfl ?_
              refine ro_val (d := (some 2)) rfl (.free rfl) rfl (q_assign (v := .bool (false)) rfl rfl) ?_
              refine ro_nil ?_
              refine wp_ret ?_
              exact ret_ok rfl (.cons (.tmp (v := .bool (false)) rfl) .nil) ⟨false, rfl, h⟩
            · refine wp_skip ?_
              refine wp_text [0] rfl ?_
              refine ro_val (d := (some 4)) rfl (.free rfl) rfl (q_assign (v := .bool (true)) rfl rfl) ?_
              refine ro_nil ?_
              exact ⟨(true), _, arr (upd_step (upd_step (upd_step (upd_step (upd_step (upd_step (upd_step rfl rfl) rfl) rfl) rfl) rfl) rfl) rfl), h⟩
          · refine wp_skip ?_
            exact ⟨(alive_6), _, arr (upd_step (upd_step (upd_step (upd_step (upd_step (upd_step (upd_step rfl rfl) rfl) rfl) rfl) rfl) rfl) rfl), h⟩
    · refine wp_exit ?_
      refine wp_seq ?_
      refine wp_seq ?_
      refine wp_text [0, 1, 2, 3, 4, 5, 6] rfl ?_
      refine ro_val (d := (some 88)) rfl (.free rfl) rfl (q_move (v := .pointer (r3)) rfl rfl) ?_
      refine ro_wp rfl (.free rfl) (wp_cl (d := (some 89)) rfl (q_call (k := 15) (l := [.pointer (r3), .int .i64 ((1 : Int))]) rfl ent15 rfl) h ?_)
      intro r46 w45 h
      refine ro_val (d := (some 87)) rfl (.free rfl) rfl (q_move (v := (tTup2 tSlc (tInt .i64)).enc (r46)) rfl rfl) ?_
      refine ro_val (d := (some 90)) rfl (.free rfl) rfl (q_extract (vs := #[tSlc.enc (r46.1), .int .i64 (r46.2)]) (v := tSlc.enc (r46.1)) rfl rfl rfl) ?_
      refine ro_val (d := (some 91)) rfl (.free rfl) rfl (q_extract (vs := #[tSlc.enc (r46.1), .int .i64 (r46.2)]) (v := .int .i64 (r46.2)) rfl rfl rfl) ?_
      refine ro_val (d := (some 10)) rfl (.free rfl) rfl (q_assign (v := tSlc.enc (r46.1)) rfl rfl) ?_
      refine ro_val (d := (some 11)) rfl (.free rfl) rfl (q_assign (v := .int .i64 (r46.2)) rfl rfl) ?_
      refine ro_nil ?_
      refine wp_seq ?_
      refine wp_text [0, 1, 2, 3, 4, 5, 6, 7, 8, 9, 10] rfl ?_
      refine ro_val (d := (some 92)) rfl (.free rfl) rfl (q_move (v := .bool (alive_6)) rfl rfl) ?_
      refine ro_val (d := (some 93)) rfl (.free rfl) rfl (q_not (b := alive_6) rfl rfl) ?_
      refine ro_val (d := (some 94)) rfl (.free rfl) rfl (q_move (v := .bool ((!alive_6))) rfl rfl) ?_
      refine ro_gval (g := (!alive_6)) (d := (some 95)) rfl (.yes 2 94 true (!alive_6) rfl rfl rfl rfl) rfl (fun hg => q_move (v := .int .i64 (r46.2)) rfl rfl) ?_
      refine ro_gval (g := (!alive_6)) (d := (some 96)) rfl (.yes 2 94 true (!alive_6) rfl rfl rfl rfl) rfl (fun hg => q_neq (a := r46.2) (b := (0 : Int)) rfl (gvb_yes hg) rfl) ?_
      refine ro_gval (g := (!alive_6)) (d := (some 97)) rfl (.yes 2 94 true (!alive_6) rfl rfl rfl rfl) rfl (fun hg => q_move (v := .bool ((r46.2 != (0 : Int)))) rfl (gvb_yes hg)) ?_
      refine ro_gval (g := ((!alive_6) && (!(r46.2 != (0 : Int))))) (d := (some 98)) rfl (.no 5 97 (!alive_6) (r46.2 != (0 : Int)) rfl rfl rfl rfl) rfl (fun hg => q_move (v := tSlc.enc (r46.1)) rfl rfl) ?_
      refine ro_gval (g := ((!alive_6) && (!(r46.2 != (0 : Int))))) (d := (some 99)) rfl (.no 5 97 (!alive_6) (r46.2 != (0 : Int)) rfl rfl rfl rfl) rfl (fun hg => q_len (s := r46.1) rfl Try.underlying32 (gvb_yes hg)) ?_
      refine ro_gval (g := ((!alive_6) && (!(r46.2 != (0 : Int))))) (d := (some 100)) rfl (.no 5 97 (!alive_6) (r46.2 != (0 : Int)) rfl rfl rfl rfl) rfl (fun hg => q_gtr (a := (r46.1.len : Int)) (b := (0 : Int)) rfl (gvb_yes hg) rfl) ?_
      refine ro_gval (g := (!alive_6)) (d := (some 101)) rfl (.yes 2 94 true (!alive_6) rfl rfl rfl rfl) rfl (fun hg => q_pickNF (g0 := (!alive_6)) (a := (r46.2 != (0 : Int))) (c := (decide ((r46.1.len : Int) > (0 : Int)))) hg rfl rfl rfl rfl) ?_
      refine ro_val (d := (some 102)) rfl (.free rfl) rfl (q_pickGT (a := (!alive_6)) (b := ((r46.2 != (0 : Int)) || (decide ((r46.1.len : Int) > (0 : Int))))) rfl rfl rfl rfl) ?_
      refine ro_nil ?_
      refine wp_if (b := ((!alive_6) && ((r46.2 != (0 : Int)) || (decide ((r46.1.len : Int) > (0 : Int)))))) rfl h (fun hb47 h => ?_) (fun hb47 h => ?_)
      · refine wp_seq ?_
        refine wp_text [0] rfl ?_
        refine ro_val (d := (some 2)) rfl (.free rfl) rfl (q_assign (v := .bool (false)) rfl rfl) ?_
        refine ro_nil ?_
        refine wp_ret ?_
        exact ret_ok rfl (.cons (.tmp (v := .bool (false)) rfl) .nil) ⟨false, rfl, h⟩
      · refine wp_skip ?_
        refine wp_seq ?_
        refine wp_text [0] rfl ?_
        refine ro_val (d := (some 2)) rfl (.free rfl) rfl (q_assign (v := .bool (true)) rfl rfl) ?_
        refine ro_nil ?_
        refine wp_ret ?_
        exact ret_ok rfl (.cons (.tmp (v := .bool (true)) rfl) .nil) ⟨true, rfl, h⟩

end Go.Proofs.Ytojcgejjdfcaaaa.Cf
