/- Characteristic formulae of Go functions, and that they are. Printed by gen.py (own tool). -/
import Derived.Test.YtojcgejjdfcaaaaTy
namespace Go.Proofs.Ytojcgejjdfcaaaa.Cf
open Go
set_option maxRecDepth 100000
set_option maxHeartbeats 1000000
set_option linter.unusedVariables false
set_option linter.unusedSimpArgs false

-- moiety/moietylaw13.LocksPlays
def F3_j4 (k_18 : Int) (t_21 : Bool) (w22 : World) (K20 : Int → World → Prop) (R : Bool → World → Prop) : Prop :=
  if t_21 = true then (
    R false w22
  ) else (
    K20 ((IntKind.i64.wrap (k_18 + (1 : Int)))) w22
  )
def F3_l3 (l_1 : Slc) (r3 : (Option Addr)) (a4 : Addr) (i_9 : Int) (k_18 : Int) (w19 : World) (K11 : Int → World → Prop) (K20 : Int → World → Prop) (R : Bool → World → Prop) : Prop :=
  if (decide (k_18 ≤ i_9)) = true then (
    dr w19 fun w24 =>
    ex (IxA l_1 4 k_18) fun a25 =>
    ex (RdAt T27 a4 w24) fun x26 =>
    ex (RdAt (tInt .i64) (a25.add 2) w24) fun x27 =>
    cl Try.prog 17 [.pointer (r3), T27.enc (x26), .int .i64 (x27)] tBool w24 fun r29 w28 =>
    if (!r29) = true then (
      F3_j4 k_18 true w28 K20 R
    ) else (
      ex (IxA l_1 4 k_18) fun a31 =>
      ex (IxA l_1 4 k_18) fun a32 =>
      ex (RdAt (tInt .i64) (a31.add 1) w28) fun x33 =>
      ex (RdAt tSlc (a4.add 2) w28) fun x34 =>
      ex (RdAt (tInt .i64) (a32.add 1) w28) fun x35 =>
      cl Try.prog 18 [.pointer (r3), .int .i64 (x33)] tBool w28 fun r37 w36 =>
      kp ((RdAt T27 a4 w36) x26) <|
      kp ((RdAt (tInt .i64) (a25.add 2) w36) x27) <|
      kp ((RdAt tSlc (a4.add 2) w36) x34) <|
      kp ((RdAt (tInt .i64) (a32.add 1) w36) x35) <|
      cl Try.prog 19 [tSlc.enc (x34), .int .i64 (x35)] tBool w36 fun r43 w42 =>
      kp ((RdAt T27 a4 w42) x26) <|
      kp ((RdAt (tInt .i64) (a25.add 2) w42) x27) <|
      kp ((RdAt (tInt .i64) (a31.add 1) w42) x33) <|
      F3_j4 k_18 (!(r37 == r43)) w42 K20 R
    )
  ) else (
    K11 ((IntKind.i64.wrap (i_9 + (1 : Int)))) w19
  )
def F3_j2 (l_1 : Slc) (r3 : (Option Addr)) (a4 : Addr) (i_9 : Int) (w17 : World) (K11 : Int → World → Prop) (R : Bool → World → Prop) : Prop :=
  lp (fun (s : Int) w K => F3_l3 l_1 r3 a4 i_9 s w K11 K R) ((0 : Int)) w17
def F3_j6 (l_1 : Slc) (r3 : (Option Addr)) (a4 : Addr) (i_9 : Int) (t_75 : Bool) (w76 : World) (K11 : Int → World → Prop) (R : Bool → World → Prop) : Prop :=
  if t_75 = true then (
    R false w76
  ) else (
    F3_j2 l_1 r3 a4 i_9 w76 K11 R
  )
def F3_j5 (l_1 : Slc) (r3 : (Option Addr)) (a4 : Addr) (i_9 : Int) (a54 : Addr) (a65 : Addr) (t_73 : Bool) (w74 : World) (K11 : Int → World → Prop) (R : Bool → World → Prop) : Prop :=
  if t_73 = true then (
    F3_j6 l_1 r3 a4 i_9 true w74 K11 R
  ) else (
    ex (RdAt tSlc (a54.add 2) w74) fun x79 =>
    ex (RdAt tSlc (a65.add 2) w74) fun x80 =>
    cl Try.prog 14 [tSlc.enc (x79), tSlc.enc (x80)] tBool w74 fun r82 w81 =>
    F3_j6 l_1 r3 a4 i_9 (!r82) w81 K11 R
  )
def F3_j7 (l_1 : Slc) (r3 : (Option Addr)) (a4 : Addr) (i_9 : Int) (t_100 : Bool) (w101 : World) (K11 : Int → World → Prop) (R : Bool → World → Prop) : Prop :=
  if t_100 = true then (
    R false w101
  ) else (
    F3_j2 l_1 r3 a4 i_9 w101 K11 R
  )
def F3_l1 (l_1 : Slc) (r3 : (Option Addr)) (a4 : Addr) (i_9 : Int) (w10 : World) (K11 : Int → World → Prop) (R : Bool → World → Prop) : Prop :=
  if ((decide (i_9 < (l_1.len : Int))) && (decide (i_9 < (30 : Int)))) = true then (
    ex (IxA l_1 4 i_9) fun a12 =>
    ex (RdAt T30 a12 w10) fun x13 =>
    nw 31 T30 Z30 w10 fun a14 w15 =>
    st T30 a14 x13 w15 fun w16 =>
    ex (RdAt (tInt .i64) (a14.add 0) w16) fun x48 =>
    if (x48 == (0 : Int)) = true then (
      ex (RdAt (tInt .i64) (a14.add 1) w16) fun x49 =>
      ex (RdAt (tInt .i64) (a14.add 2) w16) fun x50 =>
      ex (RdAt tBool (a14.add 3) w16) fun x51 =>
      cl Try.prog 11 [.pointer (r3), .int .i64 (x49), .int .i64 (x50), .bool (x51)] (tTup2 T33 (tInt .i64)) w16 fun r53 w52 =>
      nw 34 T33 Z33 w52 fun a54 w55 =>
      st T33 a54 r53.1 w55 fun w56 =>
      ex (RdAt T27 a4 w56) fun x57 =>
      ex (RdAt (tInt .i64) (a14.add 1) w56) fun x58 =>
      ex (RdAt (tInt .i64) (a14.add 2) w56) fun x59 =>
      ex (RdAt tBool (a14.add 3) w56) fun x60 =>
      cl Try.prog 12 [T27.enc (x57), .int .i64 (x58), .int .i64 (x59), .bool (x60)] (tTup3 T27 T33 (tInt .i64)) w56 fun r62 w61 =>
      nw 28 T27 Z27 w61 fun a63 w64 =>
      nw 34 T33 Z33 w64 fun a65 w66 =>
      st T27 a63 r62.1 w66 fun w67 =>
      st T33 a65 r62.2.1 w67 fun w68 =>
      ex (RdAt T27 a63 w68) fun x69 =>
      st T27 a4 x69 w68 fun w70 =>
      ex (fun x => (!(r53.2 != r62.2.2)) = true → (RdAt tBool (a54.add 0) w70) x) fun x71 =>
      ex (fun x => (!(r53.2 != r62.2.2)) = true → (RdAt tBool (a65.add 0) w70) x) fun x72 =>
      if ((r53.2 != r62.2.2) || (!(x71 == x72))) = true then (
        F3_j5 l_1 r3 a4 i_9 a54 a65 true w70 K11 R
      ) else (
        ex (RdAt tSlc (a54.add 1) w70) fun x84 =>
        ex (RdAt tSlc (a65.add 1) w70) fun x85 =>
        cl Try.prog 13 [tSlc.enc (x84), tSlc.enc (x85)] tBool w70 fun r87 w86 =>
        F3_j5 l_1 r3 a4 i_9 a54 a65 (!r87) w86 K11 R
      )
    ) else (
      ex (RdAt (tInt .i64) (a14.add 1) w16) fun x88 =>
      cl Try.prog 15 [.pointer (r3), .int .i64 (x88)] (tTup2 tSlc (tInt .i64)) w16 fun r90 w89 =>
      ex (RdAt T27 a4 w89) fun x91 =>
      ex (RdAt (tInt .i64) (a14.add 1) w89) fun x92 =>
      cl Try.prog 16 [T27.enc (x91), .int .i64 (x92)] (tTup3 T27 tSlc (tInt .i64)) w89 fun r94 w93 =>
      nw 28 T27 Z27 w93 fun a95 w96 =>
      st T27 a95 r94.1 w96 fun w97 =>
      ex (RdAt T27 a95 w97) fun x98 =>
      st T27 a4 x98 w97 fun w99 =>
      if (r90.2 != r94.2.2) = true then (
        F3_j7 l_1 r3 a4 i_9 true w99 K11 R
      ) else (
        cl Try.prog 14 [tSlc.enc (r90.1), tSlc.enc (r94.2.1)] tBool w99 fun r105 w104 =>
        F3_j7 l_1 r3 a4 i_9 (!r105) w104 K11 R
      )
    )
  ) else (
    R true w10
  )
def F3 (l_1 : Slc) (w : World) (R : Bool → World → Prop) : Prop :=
  cl Try.prog 9 [] tPtr w fun r3 w2 =>
  nw 28 T27 Z27 w2 fun a4 w5 =>
  st T27 a4 (⟨(⟨none, 0, 0⟩ : Slc), (⟨none, 0, 0⟩ : Slc), (⟨none, 0, 0⟩ : Slc)⟩ : S27) w5 fun w6 =>
  cl Try.prog 10 [] tBool w6 fun r8 w7 =>
  if ((!r8) || r3.isNone) = true then (
    R false w7
  ) else (
    lp (fun (s : Int) w K => F3_l1 l_1 r3 a4 s w K R) ((0 : Int)) w7
  )
theorem F3_ok {l_1 : Slc} {w : World} {R : Bool → World → Prop} (h : F3 l_1 w R) : cl Try.prog 3 [tSlc.enc (l_1)] tBool w R := by
  unfold F3 at h
  refine calls_start 150 Try.func3 rfl rfl (Nat.le_of_ble_eq_true rfl) ?_
  refine wp_seq ?_
  refine wp_text [0] rfl ?_
  refine ro_val (d := (some 2)) rfl (.free rfl) rfl (q_assign (v := .bool (false)) rfl rfl) ?_
  refine ro_nil ?_
  refine wp_seq ?_
  refine wp_text [0, 1] rfl ?_
  refine ro_wp rfl (.free rfl) (wp_cl (d := (some 18)) rfl (q_call (k := 9) (l := []) rfl ent9 rfl) h ?_)
  intro r3 w2 h
  refine ro_val (d := (some 3)) rfl (.free rfl) rfl (q_assign (v := .pointer (r3)) rfl rfl) ?_
  refine ro_nil ?_
  refine wp_seq ?_
  refine wp_text [0, 1, 2] rfl ?_
  refine ro_val (d := (some 19)) rfl (.free rfl) rfl (q_build28_  rfl ) ?_
  obtain ⟨a4, w5, ha4, hw5, h⟩ := nw_open h
  refine ro_val (d := (some 4)) rfl (.free rfl) rfl (q_alloc (u := Z27) rfl ok28 inf28 ha4 hw5) ?_
  obtain ⟨w6, hw6, hrw6, h⟩ := st_open h
  refine ro_skip (d := none) rfl (.free rfl) rfl (q_store (T := T27) (u := (⟨(⟨none, 0, 0⟩ : Slc), (⟨none, 0, 0⟩ : Slc), (⟨none, 0, 0⟩ : Slc)⟩ : S27)) (a := a4) rfl ok28 rfl rfl hrw6 hw6) ?_
  refine ro_nil ?_
  refine wp_seq ?_
  refine wp_seq ?_
  refine wp_text [0, 1, 2, 3, 4, 5] rfl ?_
  refine ro_wp rfl (.free rfl) (wp_cl (d := (some 20)) rfl (q_call (k := 10) (l := []) rfl ent10 rfl) h ?_)
  intro r8 w7 h
  refine ro_val (d := (some 21)) rfl (.free rfl) rfl (q_not (b := r8) rfl rfl) ?_
  refine ro_val (d := (some 22)) rfl (.free rfl) rfl (q_move (v := .bool ((!r8))) rfl rfl) ?_
  refine ro_gval (g := (!(!r8))) (d := (some 23)) rfl (.no 2 22 true (!r8) rfl rfl rfl rfl) rfl (fun hg => q_move (v := .pointer (r3)) rfl rfl) ?_
  refine ro_gval (g := (!(!r8))) (d := (some 24)) rfl (.no 2 22 true (!r8) rfl rfl rfl rfl) rfl (fun hg => q_eqP0 (a := r3) rfl Try.underlying23 (gvb_yes hg) rfl) ?_
  refine ro_val (d := (some 25)) rfl (.free rfl) rfl (q_pickGF (a := (!r8)) (c := r3.isNone) rfl rfl rfl rfl) ?_
  refine ro_nil ?_
  refine wp_if (b := ((!r8) || r3.isNone)) rfl h (fun hb108 h => ?_) (fun hb108 h => ?_)
  · refine wp_seq ?_
    refine wp_text [0] rfl ?_
    refine ro_val (d := (some 2)) rfl (.free rfl) rfl (q_assign (v := .bool (false)) rfl rfl) ?_
    refine ro_nil ?_
    refine wp_ret ?_
    exact ret_ok rfl (.cons (.tmp (v := .bool (false)) rfl) .nil) ⟨false, rfl, h⟩
  · refine wp_skip ?_
    refine wp_seq ?_
    refine wp_seq ?_
    refine wp_text [0] rfl ?_
    refine ro_val (d := (some 5)) rfl (.free rfl) rfl (q_assign (v := .int .i64 ((0 : Int))) rfl rfl) ?_
    refine ro_nil ?_
    refine wp_block ?_
    refine loop_at (σ := Int) (fr := fun g (s : Int) => upd (upd (upd (upd (g) 0 (tSlc.enc (l_1))) 3 (.pointer (r3))) 4 (.pointer (some a4))) 5 (.int .i64 (s))) (s0 := ((0 : Int))) (upd_step (upd_step (upd_step (upd_step rfl rfl) rfl) rfl) rfl) h ?_
    rintro i_9 g w10 K11 h
    unfold F3_l1 at h
    refine wp_seq ?_
    refine wp_seq ?_
    refine wp_text [0, 1, 2, 3, 4, 5, 6, 7] rfl ?_
    refine ro_val (d := (some 26)) rfl (.free rfl) rfl (q_move (v := .int .i64 (i_9)) rfl rfl) ?_
    refine ro_val (d := (some 27)) rfl (.free rfl) rfl (q_move (v := tSlc.enc (l_1)) rfl rfl) ?_
    refine ro_val (d := (some 28)) rfl (.free rfl) rfl (q_len (s := l_1) rfl Try.underlying22 rfl) ?_
    refine ro_val (d := (some 29)) rfl (.free rfl) rfl (q_lss (a := i_9) (b := (l_1.len : Int)) rfl rfl rfl) ?_
    refine ro_val (d := (some 30)) rfl (.free rfl) rfl (q_move (v := .bool ((decide (i_9 < (l_1.len : Int))))) rfl rfl) ?_
    refine ro_gval (g := (decide (i_9 < (l_1.len : Int)))) (d := (some 31)) rfl (.yes 4 30 true (decide (i_9 < (l_1.len : Int))) rfl rfl rfl rfl) rfl (fun hg => q_move (v := .int .i64 (i_9)) rfl rfl) ?_
    refine ro_gval (g := (decide (i_9 < (l_1.len : Int)))) (d := (some 32)) rfl (.yes 4 30 true (decide (i_9 < (l_1.len : Int))) rfl rfl rfl rfl) rfl (fun hg => q_lss (a := i_9) (b := (30 : Int)) rfl (gvb_yes hg) rfl) ?_
    refine ro_val (d := (some 33)) rfl (.free rfl) rfl (q_pickGT (a := (decide (i_9 < (l_1.len : Int)))) (b := (decide (i_9 < (30 : Int)))) rfl rfl rfl rfl) ?_
    refine ro_nil ?_
    refine wp_if (b := ((decide (i_9 < (l_1.len : Int))) && (decide (i_9 < (30 : Int))))) rfl h (fun hb107 h => ?_) (fun hb107 h => ?_)
    · refine wp_skip ?_
      refine wp_seq ?_
      refine wp_block ?_
      refine wp_seq ?_
      refine wp_text [0, 1, 2, 3, 4, 5] rfl ?_
      refine ro_val (d := (some 36)) rfl (.free rfl) rfl (q_move (v := tSlc.enc (l_1)) rfl rfl) ?_
      refine ro_val (d := (some 37)) rfl (.free rfl) rfl (q_move (v := .int .i64 (i_9)) rfl rfl) ?_
      obtain ⟨a12, ha12, h⟩ := h
      refine ro_val (d := (some 38)) rfl (.free rfl) rfl (q_indexAddr (s := l_1) (i := i_9) rfl Try.underlying22 ok31 rfl rfl ha12) ?_
      obtain ⟨x13, hx13, h⟩ := h
      refine ro_val (d := (some 39)) rfl (.free rfl) rfl (q_load (T := T30) (u := x13) (a := a12) rfl ok31 rfl hx13) ?_
      obtain ⟨a14, w15, ha14, hw15, h⟩ := nw_open h
      refine ro_val (d := (some 6)) rfl (.free rfl) rfl (q_alloc (u := Z30) rfl ok31 inf31 ha14 hw15) ?_
      obtain ⟨w16, hw16, hrw16, h⟩ := st_open h
      refine ro_skip (d := none) rfl (.free rfl) rfl (q_store (T := T30) (u := x13) (a := a14) rfl ok31 rfl rfl hrw16 hw16) ?_
      refine ro_nil ?_
      refine seq_join (σ := Unit) (J := fun (s : Unit) w => F3_j2 l_1 r3 a4 i_9 w K11 R) (fr := fun g (s : Unit) => upd (upd (upd (upd (g) 0 (tSlc.enc (l_1))) 3 (.pointer (r3))) 4 (.pointer (some a4))) 5 (.int .i64 (i_9))) ?_ ?_
      · rintro ⟨⟩ g w17 h
        unfold F3_j2 at h
        refine wp_seq ?_
        refine wp_text [0] rfl ?_
        refine ro_val (d := (some 17)) rfl (.free rfl) rfl (q_assign (v := .int .i64 ((0 : Int))) rfl rfl) ?_
        refine ro_nil ?_
        refine wp_block ?_
        refine loop_at (σ := Int) (fr := fun g (s : Int) => upd (upd (upd (upd (upd (g) 0 (tSlc.enc (l_1))) 3 (.pointer (r3))) 4 (.pointer (some a4))) 5 (.int .i64 (i_9))) 17 (.int .i64 (s))) (s0 := ((0 : Int))) (upd_step (upd_step (upd_step (upd_step (upd_step rfl rfl) rfl) rfl) rfl) rfl) h ?_
        rintro k_18 g w19 K20 h
        unfold F3_l3 at h
        refine wp_seq ?_
        refine wp_seq ?_
        refine wp_text [0, 1, 2] rfl ?_
        refine ro_val (d := (some 118)) rfl (.free rfl) rfl (q_move (v := .int .i64 (k_18)) rfl rfl) ?_
        refine ro_val (d := (some 119)) rfl (.free rfl) rfl (q_move (v := .int .i64 (i_9)) rfl rfl) ?_
        refine ro_val (d := (some 120)) rfl (.free rfl) rfl (q_leq (a := k_18) (b := i_9) rfl rfl rfl) ?_
        refine ro_nil ?_
        refine wp_if (b := (decide (k_18 ≤ i_9))) rfl h (fun hb47 h => ?_) (fun hb47 h => ?_)
        · refine wp_skip ?_
          refine wp_seq ?_
          refine wp_block ?_
          refine seq_join (σ := Bool) (J := fun (s : Bool) w => F3_j4 k_18 s w K20 R) (fr := fun g (s : Bool) => upd (upd (upd (upd (upd (upd (g) 0 (tSlc.enc (l_1))) 3 (.pointer (r3))) 4 (.pointer (some a4))) 5 (.int .i64 (i_9))) 17 (.int .i64 (k_18))) 149 (.bool (s))) ?_ ?_
          · rintro t_21 g w22 h
            unfold F3_j4 at h
            refine wp_if (b := t_21) rfl h (fun hb23 h => ?_) (fun hb23 h => ?_)
            · refine wp_seq ?_
              refine wp_text [0] rfl ?_
              refine ro_val (d := (some 2)) rfl (.free rfl) rfl (q_assign (v := .bool (false)) rfl rfl) ?_
              refine ro_nil ?_
              refine wp_ret ?_
              exact ret_ok rfl (.cons (.tmp (v := .bool (false)) rfl) .nil) ⟨false, rfl, h⟩
            · refine wp_skip ?_
              refine wp_text [0, 1, 2] rfl ?_
              refine ro_val (d := (some 121)) rfl (.free rfl) rfl (q_move (v := .int .i64 (k_18)) rfl rfl) ?_
              refine ro_val (d := (some 122)) rfl (.free rfl) rfl (q_add (a := k_18) (b := (1 : Int)) rfl rfl rfl) ?_
              refine ro_val (d := (some 17)) rfl (.free rfl) rfl (q_assign (v := .int .i64 ((IntKind.i64.wrap (k_18 + (1 : Int))))) rfl rfl) ?_
              refine ro_nil ?_
              exact ⟨((IntKind.i64.wrap (k_18 + (1 : Int)))), _, arr (upd_step (upd_step (upd_step (upd_step (upd_step rfl rfl) rfl) rfl) rfl) rfl), h⟩
          · obtain ⟨w24, hw24, h⟩ := dr_open h
            refine wp_drawn 27 mixed rfl (by kernel_rfl) (by intro c a d v w h; cases d <;> exact h) hw24 (fun hD => ?_)
            refine rd_pure (i := 0) (d := (some 123)) hD (by kernel_rfl) (by kernel_rfl) rfl (.free rfl) rfl (fun _ => q_move (v := .pointer (r3)) rfl rfl) ?_
            refine rd_pure (i := 2) (d := (some 125)) hD (by kernel_rfl) (by kernel_rfl) rfl (.free rfl) rfl (fun _ => q_move (v := tSlc.enc (l_1)) rfl rfl) ?_
            refine rd_pure (i := 3) (d := (some 126)) hD (by kernel_rfl) (by kernel_rfl) rfl (.free rfl) rfl (fun _ => q_move (v := .int .i64 (k_18)) rfl rfl) ?_
            obtain ⟨a25, ha25, h⟩ := h
            refine rd_pure (i := 4) (d := (some 127)) hD (by kernel_rfl) (by kernel_rfl) rfl (.free rfl) rfl (fun _ => q_indexAddr (s := l_1) (i := k_18) rfl Try.underlying22 ok31 rfl rfl ha25) ?_
            refine rd_pure (i := 5) (d := (some 128)) hD (by kernel_rfl) (by kernel_rfl) rfl (.free rfl) rfl (fun _ => q_fieldAddr (a := a25) (off := 2) rfl Try.underlying31 rfl rfl ok3 (by decide) rfl) ?_
            obtain ⟨x26, hx26, h⟩ := h
            refine rd_read (i := 1) (d := (some 124)) (fun W => (RdAt T27 a4 W) x26) hD (by kernel_rfl) (by kernel_rfl) rfl (.free rfl) rfl (fun W hr => q_load (T := T27) (u := x26) (a := a4) rfl ok28 rfl hr) hx26 ?_
            obtain ⟨x27, hx27, h⟩ := h
            refine rd_read (i := 6) (d := (some 129)) (fun W => (RdAt (tInt .i64) (a25.add 2) W) x27) hD (by kernel_rfl) (by kernel_rfl) rfl (.free rfl) rfl (fun W hr => q_load (T := (tInt .i64)) (u := x27) (a := (a25.add 2)) rfl ok3 rfl hr) hx27 ?_
            refine rd_one (i := 7) (by kernel_rfl) ?_
            refine po_wp rfl (.free rfl) (wp_cl (d := (some 130)) rfl (q_call (k := 17) (l := [.pointer (r3), T27.enc (x26), .int .i64 (x27)]) rfl ent17 rfl) h ?_)
            intro r29 w28 h
            refine ⟨(hk_wait (by kernel_rfl) (hk_wait (by kernel_rfl) hk_nil)), ?_⟩
            refine rd_pure (i := 8) (d := (some 131)) hD (by kernel_rfl) (by kernel_rfl) rfl (.free rfl) rfl (fun _ => q_not (b := r29) rfl rfl) ?_
            refine rd_pure (i := 9) (d := (some 132)) hD (by kernel_rfl) (by kernel_rfl) rfl (.free rfl) rfl (fun _ => q_move (v := .bool ((!r29))) rfl rfl) ?_
            refine ro_if (b := (!r29)) h (fun hb30 h => ?_) (fun hb30 h => ?_)
            · refine rd_bar (i := 10) (d := (some 133)) hD (by kernel_rfl) (by kernel_rfl) rfl (.by_ 9 false 132 (!r29) rfl rfl rfl hb30) rfl ?_
              refine rd_bar (i := 11) (d := (some 134)) hD (by kernel_rfl) (by kernel_rfl) rfl (.by_ 9 false 132 (!r29) rfl rfl rfl hb30) rfl ?_
              refine rd_bar (i := 12) (d := (some 135)) hD (by kernel_rfl) (by kernel_rfl) rfl (.by_ 9 false 132 (!r29) rfl rfl rfl hb30) rfl ?_
              refine rd_bar (i := 13) (d := (some 136)) hD (by kernel_rfl) (by kernel_rfl) rfl (.by_ 9 false 132 (!r29) rfl rfl rfl hb30) rfl ?_
              refine rd_bar (i := 14) (d := (some 137)) hD (by kernel_rfl) (by kernel_rfl) rfl (.by_ 9 false 132 (!r29) rfl rfl rfl hb30) rfl ?_
              refine rd_bar (i := 17) (d := (some 140)) hD (by kernel_rfl) (by kernel_rfl) rfl (.by_ 9 false 132 (!r29) rfl rfl rfl hb30) rfl ?_
              refine rd_bar (i := 19) (d := (some 142)) hD (by kernel_rfl) (by kernel_rfl) rfl (.by_ 9 false 132 (!r29) rfl rfl rfl hb30) rfl ?_
              refine rd_bar (i := 20) (d := (some 143)) hD (by kernel_rfl) (by kernel_rfl) rfl (.by_ 9 false 132 (!r29) rfl rfl rfl hb30) rfl ?_
              refine rd_bar (i := 21) (d := (some 144)) hD (by kernel_rfl) (by kernel_rfl) rfl (.by_ 9 false 132 (!r29) rfl rfl rfl hb30) rfl ?_
              refine rd_bar (i := 22) (d := (some 145)) hD (by kernel_rfl) (by kernel_rfl) rfl (.by_ 9 false 132 (!r29) rfl rfl rfl hb30) rfl ?_
              refine rd_bar (i := 15) (d := (some 138)) hD (by kernel_rfl) (by kernel_rfl) rfl (.by_ 9 false 132 (!r29) rfl rfl rfl hb30) rfl ?_
              refine rd_bar (i := 18) (d := (some 141)) hD (by kernel_rfl) (by kernel_rfl) rfl (.by_ 9 false 132 (!r29) rfl rfl rfl hb30) rfl ?_
              refine rd_bar (i := 23) (d := (some 146)) hD (by kernel_rfl) (by kernel_rfl) rfl (.by_ 9 false 132 (!r29) rfl rfl rfl hb30) rfl ?_
              refine rd_one (i := 16) (by kernel_rfl) ?_
              refine po_bar (d := (some 139)) rfl (.by_ 9 false 132 (!r29) rfl rfl rfl hb30) rfl ⟨fun _ _ _ h => h, ?_⟩
              refine rd_one (i := 24) (by kernel_rfl) ?_
              refine po_bar (d := (some 147)) rfl (.by_ 9 false 132 (!r29) rfl rfl rfl hb30) rfl ⟨fun _ _ _ h => h, ?_⟩
              refine rd_bar (i := 25) (d := (some 148)) hD (by kernel_rfl) (by kernel_rfl) rfl (.by_ 9 false 132 (!r29) rfl rfl rfl hb30) rfl ?_
              refine rd_pure (i := 26) (d := (some 149)) hD (by kernel_rfl) (by kernel_rfl) rfl (.free rfl) rfl (fun _ => q_pickT (v := .bool (true)) (b := (!r29)) rfl rfl hb30 rfl) ?_
              refine rd_nil (by kernel_rfl) ?_
              exact ⟨(true), _, arr (upd_step (upd_step (upd_step (upd_step (upd_step (upd_step rfl rfl) rfl) rfl) rfl) rfl) rfl), h⟩
            · refine rd_pure (i := 10) (d := (some 133)) hD (by kernel_rfl) (by kernel_rfl) rfl (.by_ 9 false 132 (!r29) rfl rfl rfl hb30) rfl (fun _ => q_move (v := .pointer (r3)) rfl rfl) ?_
              refine rd_pure (i := 11) (d := (some 134)) hD (by kernel_rfl) (by kernel_rfl) rfl (.by_ 9 false 132 (!r29) rfl rfl rfl hb30) rfl (fun _ => q_move (v := tSlc.enc (l_1)) rfl rfl) ?_
              refine rd_pure (i := 12) (d := (some 135)) hD (by kernel_rfl) (by kernel_rfl) rfl (.by_ 9 false 132 (!r29) rfl rfl rfl hb30) rfl (fun _ => q_move (v := .int .i64 (k_18)) rfl rfl) ?_
              obtain ⟨a31, ha31, h⟩ := h
              refine rd_pure (i := 13) (d := (some 136)) hD (by kernel_rfl) (by kernel_rfl) rfl (.by_ 9 false 132 (!r29) rfl rfl rfl hb30) rfl (fun _ => q_indexAddr (s := l_1) (i := k_18) rfl Try.underlying22 ok31 rfl rfl ha31) ?_
              refine rd_pure (i := 14) (d := (some 137)) hD (by kernel_rfl) (by kernel_rfl) rfl (.by_ 9 false 132 (!r29) rfl rfl rfl hb30) rfl (fun _ => q_fieldAddr (a := a31) (off := 1) rfl Try.underlying31 rfl rfl ok3 (by decide) rfl) ?_
              refine rd_pure (i := 17) (d := (some 140)) hD (by kernel_rfl) (by kernel_rfl) rfl (.by_ 9 false 132 (!r29) rfl rfl rfl hb30) rfl (fun _ => q_fieldAddr (a := a4) (off := 2) rfl Try.underlying28 rfl rfl ok26 (by decide) rfl) ?_
              refine rd_pure (i := 19) (d := (some 142)) hD (by kernel_rfl) (by kernel_rfl) rfl (.by_ 9 false 132 (!r29) rfl rfl rfl hb30) rfl (fun _ => q_move (v := tSlc.enc (l_1)) rfl rfl) ?_
              refine rd_pure (i := 20) (d := (some 143)) hD (by kernel_rfl) (by kernel_rfl) rfl (.by_ 9 false 132 (!r29) rfl rfl rfl hb30) rfl (fun _ => q_move (v := .int .i64 (k_18)) rfl rfl) ?_
              obtain ⟨a32, ha32, h⟩ := h
              refine rd_pure (i := 21) (d := (some 144)) hD (by kernel_rfl) (by kernel_rfl) rfl (.by_ 9 false 132 (!r29) rfl rfl rfl hb30) rfl (fun _ => q_indexAddr (s := l_1) (i := k_18) rfl Try.underlying22 ok31 rfl rfl ha32) ?_
              refine rd_pure (i := 22) (d := (some 145)) hD (by kernel_rfl) (by kernel_rfl) rfl (.by_ 9 false 132 (!r29) rfl rfl rfl hb30) rfl (fun _ => q_fieldAddr (a := a32) (off := 1) rfl Try.underlying31 rfl rfl ok3 (by decide) rfl) ?_
              obtain ⟨x33, hx33, h⟩ := h
              refine rd_read (i := 15) (d := (some 138)) (fun W => (RdAt (tInt .i64) (a31.add 1) W) x33) hD (by kernel_rfl) (by kernel_rfl) rfl (.by_ 9 false 132 (!r29) rfl rfl rfl hb30) rfl (fun W hr => q_load (T := (tInt .i64)) (u := x33) (a := (a31.add 1)) rfl ok3 rfl hr) hx33 ?_
              obtain ⟨x34, hx34, h⟩ := h
              refine rd_read (i := 18) (d := (some 141)) (fun W => (RdAt tSlc (a4.add 2) W) x34) hD (by kernel_rfl) (by kernel_rfl) rfl (.by_ 9 false 132 (!r29) rfl rfl rfl hb30) rfl (fun W hr => q_load (T := tSlc) (u := x34) (a := (a4.add 2)) rfl ok26 rfl hr) hx34 ?_
              obtain ⟨x35, hx35, h⟩ := h
              refine rd_read (i := 23) (d := (some 146)) (fun W => (RdAt (tInt .i64) (a32.add 1) W) x35) hD (by kernel_rfl) (by kernel_rfl) rfl (.by_ 9 false 132 (!r29) rfl rfl rfl hb30) rfl (fun W hr => q_load (T := (tInt .i64)) (u := x35) (a := (a32.add 1)) rfl ok3 rfl hr) hx35 ?_
              refine rd_one (i := 16) (by kernel_rfl) ?_
              refine po_wp rfl (.by_ 9 false 132 (!r29) rfl rfl rfl hb30) (wp_cl (d := (some 139)) rfl (q_call (k := 18) (l := [.pointer (r3), .int .i64 (x33)]) rfl ent18 rfl) h ?_)
              intro r37 w36 h
              obtain ⟨hk38, h⟩ := h
              obtain ⟨hk39, h⟩ := h
              obtain ⟨hk40, h⟩ := h
              obtain ⟨hk41, h⟩ := h
              refine ⟨(hk_keep (fun _ => hk41) (hk_keep (fun _ => hk40) (hk_wait (by kernel_rfl) (hk_keep (fun _ => hk39) (hk_keep (fun _ => hk38) hk_nil))))), ?_⟩
              refine rd_one (i := 24) (by kernel_rfl) ?_
              refine po_wp rfl (.by_ 9 false 132 (!r29) rfl rfl rfl hb30) (wp_cl (d := (some 147)) rfl (q_call (k := 19) (l := [tSlc.enc (x34), .int .i64 (x35)]) rfl ent19 rfl) h ?_)
              intro r43 w42 h
              obtain ⟨hk44, h⟩ := h
              obtain ⟨hk45, h⟩ := h
              obtain ⟨hk46, h⟩ := h
              refine ⟨(hk_wait (by kernel_rfl) (hk_wait (by kernel_rfl) (hk_keep (fun _ => hk46) (hk_keep (fun _ => hk45) (hk_keep (fun _ => hk44) hk_nil))))), ?_⟩
              refine rd_pure (i := 25) (d := (some 148)) hD (by kernel_rfl) (by kernel_rfl) rfl (.by_ 9 false 132 (!r29) rfl rfl rfl hb30) rfl (fun _ => q_neB (a := r37) (b := r43) rfl Try.underlying4 rfl rfl) ?_
              refine rd_pure (i := 26) (d := (some 149)) hD (by kernel_rfl) (by kernel_rfl) rfl (.free rfl) rfl (fun _ => q_pickF (v := .bool ((!(r37 == r43)))) (b := (!r29)) rfl rfl hb30 rfl) ?_
              refine rd_nil (by kernel_rfl) ?_
              exact ⟨((!(r37 == r43))), _, arr (upd_step (upd_step (upd_step (upd_step (upd_step (upd_step rfl rfl) rfl) rfl) rfl) rfl) rfl), h⟩
        · refine wp_exit ?_
          refine wp_text [0, 1, 2] rfl ?_
          refine ro_val (d := (some 34)) rfl (.free rfl) rfl (q_move (v := .int .i64 (i_9)) rfl rfl) ?_
          refine ro_val (d := (some 35)) rfl (.free rfl) rfl (q_add (a := i_9) (b := (1 : Int)) rfl rfl rfl) ?_
          refine ro_val (d := (some 5)) rfl (.free rfl) rfl (q_assign (v := .int .i64 ((IntKind.i64.wrap (i_9 + (1 : Int))))) rfl rfl) ?_
          refine ro_nil ?_
          exact ⟨((IntKind.i64.wrap (i_9 + (1 : Int)))), _, arr (upd_step (upd_step (upd_step (upd_step rfl rfl) rfl) rfl) rfl), h⟩
      · refine wp_seq ?_
        refine wp_text [0, 1, 2] rfl ?_
        refine ro_val (d := (some 40)) rfl (.free rfl) rfl (q_fieldAddr (a := a14) (off := 0) rfl Try.underlying31 rfl rfl ok3 (by decide) rfl) ?_
        obtain ⟨x48, hx48, h⟩ := h
        refine ro_val (d := (some 41)) rfl (.free rfl) rfl (q_load (T := (tInt .i64)) (u := x48) (a := (a14.add 0)) rfl ok3 rfl hx48) ?_
        refine ro_val (d := (some 42)) rfl (.free rfl) rfl (q_eql (a := x48) (b := (0 : Int)) rfl rfl rfl) ?_
        refine ro_nil ?_
        refine wp_if (b := (x48 == (0 : Int))) rfl h (fun hb106 h => ?_) (fun hb106 h => ?_)
        · refine wp_seq ?_
          refine wp_text [0, 1, 2, 3, 4, 5, 6, 7, 8, 9, 10, 11, 12, 13] rfl ?_
          refine ro_val (d := (some 44)) rfl (.free rfl) rfl (q_move (v := .pointer (r3)) rfl rfl) ?_
          refine ro_val (d := (some 45)) rfl (.free rfl) rfl (q_fieldAddr (a := a14) (off := 1) rfl Try.underlying31 rfl rfl ok3 (by decide) rfl) ?_
          obtain ⟨x49, hx49, h⟩ := h
          refine ro_val (d := (some 46)) rfl (.free rfl) rfl (q_load (T := (tInt .i64)) (u := x49) (a := (a14.add 1)) rfl ok3 rfl hx49) ?_
          refine ro_val (d := (some 47)) rfl (.free rfl) rfl (q_fieldAddr (a := a14) (off := 2) rfl Try.underlying31 rfl rfl ok3 (by decide) rfl) ?_
          obtain ⟨x50, hx50, h⟩ := h
          refine ro_val (d := (some 48)) rfl (.free rfl) rfl (q_load (T := (tInt .i64)) (u := x50) (a := (a14.add 2)) rfl ok3 rfl hx50) ?_
          refine ro_val (d := (some 49)) rfl (.free rfl) rfl (q_fieldAddr (a := a14) (off := 3) rfl Try.underlying31 rfl rfl ok4 (by decide) rfl) ?_
          obtain ⟨x51, hx51, h⟩ := h
          refine ro_val (d := (some 50)) rfl (.free rfl) rfl (q_load (T := tBool) (u := x51) (a := (a14.add 3)) rfl ok4 rfl hx51) ?_
          refine ro_wp rfl (.free rfl) (wp_cl (d := (some 51)) rfl (q_call (k := 11) (l := [.pointer (r3), .int .i64 (x49), .int .i64 (x50), .bool (x51)]) rfl ent11 rfl) h ?_)
          intro r53 w52 h
          refine ro_val (d := (some 43)) rfl (.free rfl) rfl (q_move (v := (tTup2 T33 (tInt .i64)).enc (r53)) rfl rfl) ?_
          refine ro_val (d := (some 52)) rfl (.free rfl) rfl (q_extract (vs := #[T33.enc (r53.1), .int .i64 (r53.2)]) (v := T33.enc (r53.1)) rfl rfl rfl) ?_
          refine ro_val (d := (some 53)) rfl (.free rfl) rfl (q_extract (vs := #[T33.enc (r53.1), .int .i64 (r53.2)]) (v := .int .i64 (r53.2)) rfl rfl rfl) ?_
          obtain ⟨a54, w55, ha54, hw55, h⟩ := nw_open h
          refine ro_val (d := (some 7)) rfl (.free rfl) rfl (q_alloc (u := Z33) rfl ok34 inf34 ha54 hw55) ?_
          obtain ⟨w56, hw56, hrw56, h⟩ := st_open h
          refine ro_skip (d := none) rfl (.free rfl) rfl (q_store (T := T33) (u := r53.1) (a := a54) rfl ok34 rfl rfl hrw56 hw56) ?_
          refine ro_val (d := (some 8)) rfl (.free rfl) rfl (q_assign (v := .int .i64 (r53.2)) rfl rfl) ?_
          refine ro_nil ?_
          refine wp_seq ?_
          refine wp_text [0, 1, 2, 3, 4, 5, 6, 7, 8, 9, 10, 11, 12, 13, 14, 15, 16] rfl ?_
          obtain ⟨x57, hx57, h⟩ := h
          refine ro_val (d := (some 55)) rfl (.free rfl) rfl (q_load (T := T27) (u := x57) (a := a4) rfl ok28 rfl hx57) ?_
          refine ro_val (d := (some 56)) rfl (.free rfl) rfl (q_fieldAddr (a := a14) (off := 1) rfl Try.underlying31 rfl rfl ok3 (by decide) rfl) ?_
          obtain ⟨x58, hx58, h⟩ := h
          refine ro_val (d := (some 57)) rfl (.free rfl) rfl (q_load (T := (tInt .i64)) (u := x58) (a := (a14.add 1)) rfl ok3 rfl hx58) ?_
          refine ro_val (d := (some 58)) rfl (.free rfl) rfl (q_fieldAddr (a := a14) (off := 2) rfl Try.underlying31 rfl rfl ok3 (by decide) rfl) ?_
          obtain ⟨x59, hx59, h⟩ := h
          refine ro_val (d := (some 59)) rfl (.free rfl) rfl (q_load (T := (tInt .i64)) (u := x59) (a := (a14.add 2)) rfl ok3 rfl hx59) ?_
          refine ro_val (d := (some 60)) rfl (.free rfl) rfl (q_fieldAddr (a := a14) (off := 3) rfl Try.underlying31 rfl rfl ok4 (by decide) rfl) ?_
          obtain ⟨x60, hx60, h⟩ := h
          refine ro_val (d := (some 61)) rfl (.free rfl) rfl (q_load (T := tBool) (u := x60) (a := (a14.add 3)) rfl ok4 rfl hx60) ?_
          refine ro_wp rfl (.free rfl) (wp_cl (d := (some 62)) rfl (q_call (k := 12) (l := [T27.enc (x57), .int .i64 (x58), .int .i64 (x59), .bool (x60)]) rfl ent12 rfl) h ?_)
          intro r62 w61 h
          refine ro_val (d := (some 54)) rfl (.free rfl) rfl (q_move (v := (tTup3 T27 T33 (tInt .i64)).enc (r62)) rfl rfl) ?_
          refine ro_val (d := (some 63)) rfl (.free rfl) rfl (q_extract (vs := #[T27.enc (r62.1), T33.enc (r62.2.1), .int .i64 (r62.2.2)]) (v := T27.enc (r62.1)) rfl rfl rfl) ?_
          refine ro_val (d := (some 64)) rfl (.free rfl) rfl (q_extract (vs := #[T27.enc (r62.1), T33.enc (r62.2.1), .int .i64 (r62.2.2)]) (v := T33.enc (r62.2.1)) rfl rfl rfl) ?_
          refine ro_val (d := (some 65)) rfl (.free rfl) rfl (q_extract (vs := #[T27.enc (r62.1), T33.enc (r62.2.1), .int .i64 (r62.2.2)]) (v := .int .i64 (r62.2.2)) rfl rfl rfl) ?_
          obtain ⟨a63, w64, ha63, hw64, h⟩ := nw_open h
          refine ro_val (d := (some 9)) rfl (.free rfl) rfl (q_alloc (u := Z27) rfl ok28 inf28 ha63 hw64) ?_
          obtain ⟨a65, w66, ha65, hw66, h⟩ := nw_open h
          refine ro_val (d := (some 10)) rfl (.free rfl) rfl (q_alloc (u := Z33) rfl ok34 inf34 ha65 hw66) ?_
          obtain ⟨w67, hw67, hrw67, h⟩ := st_open h
          refine ro_skip (d := none) rfl (.free rfl) rfl (q_store (T := T27) (u := r62.1) (a := a63) rfl ok28 rfl rfl hrw67 hw67) ?_
          obtain ⟨w68, hw68, hrw68, h⟩ := st_open h
          refine ro_skip (d := none) rfl (.free rfl) rfl (q_store (T := T33) (u := r62.2.1) (a := a65) rfl ok34 rfl rfl hrw68 hw68) ?_
          refine ro_val (d := (some 11)) rfl (.free rfl) rfl (q_assign (v := .int .i64 (r62.2.2)) rfl rfl) ?_
          refine ro_nil ?_
          refine wp_seq ?_
          refine wp_text [0, 1] rfl ?_
          obtain ⟨x69, hx69, h⟩ := h
          refine ro_val (d := (some 66)) rfl (.free rfl) rfl (q_load (T := T27) (u := x69) (a := a63) rfl ok28 rfl hx69) ?_
          obtain ⟨w70, hw70, hrw70, h⟩ := st_open h
          refine ro_skip (d := none) rfl (.free rfl) rfl (q_store (T := T27) (u := x69) (a := a4) rfl ok28 rfl rfl hrw70 hw70) ?_
          refine ro_nil ?_
          refine wp_seq ?_
          refine wp_text [0, 1, 2, 3, 4, 5, 6, 7, 8, 9, 10, 11, 12, 13, 14, 15, 16, 17, 18, 19, 20, 21, 22, 23, 24, 25] rfl ?_
          refine ro_val (d := (some 67)) rfl (.free rfl) rfl (q_move (v := .int .i64 (r53.2)) rfl rfl) ?_
          refine ro_val (d := (some 68)) rfl (.free rfl) rfl (q_move (v := .int .i64 (r62.2.2)) rfl rfl) ?_
          refine ro_val (d := (some 69)) rfl (.free rfl) rfl (q_neq (a := r53.2) (b := r62.2.2) rfl rfl rfl) ?_
          refine ro_val (d := (some 70)) rfl (.free rfl) rfl (q_move (v := .bool ((r53.2 != r62.2.2))) rfl rfl) ?_
          refine ro_gval (g := (!(r53.2 != r62.2.2))) (d := (some 71)) rfl (.no 3 70 true (r53.2 != r62.2.2) rfl rfl rfl rfl) rfl (fun hg => q_fieldAddr (a := a54) (off := 0) rfl Try.underlying34 rfl rfl ok4 (by decide) rfl) ?_
          obtain ⟨x71, hx71, h⟩ := h
          refine ro_gval (g := (!(r53.2 != r62.2.2))) (d := (some 72)) rfl (.no 3 70 true (r53.2 != r62.2.2) rfl rfl rfl rfl) rfl (fun hg => q_load (T := tBool) (u := x71) (a := (a54.add 0)) rfl ok4 (gvb_yes hg) (hx71 hg)) ?_
          refine ro_gval (g := (!(r53.2 != r62.2.2))) (d := (some 73)) rfl (.no 3 70 true (r53.2 != r62.2.2) rfl rfl rfl rfl) rfl (fun hg => q_fieldAddr (a := a65) (off := 0) rfl Try.underlying34 rfl rfl ok4 (by decide) rfl) ?_
          obtain ⟨x72, hx72, h⟩ := h
          refine ro_gval (g := (!(r53.2 != r62.2.2))) (d := (some 74)) rfl (.no 3 70 true (r53.2 != r62.2.2) rfl rfl rfl rfl) rfl (fun hg => q_load (T := tBool) (u := x72) (a := (a65.add 0)) rfl ok4 (gvb_yes hg) (hx72 hg)) ?_
          refine ro_gval (g := (!(r53.2 != r62.2.2))) (d := (some 75)) rfl (.no 3 70 true (r53.2 != r62.2.2) rfl rfl rfl rfl) rfl (fun hg => q_neB (a := x71) (b := x72) rfl Try.underlying4 (gvb_yes hg) (gvb_yes hg)) ?_
          refine ro_val (d := (some 76)) rfl (.free rfl) rfl (q_pickGF (a := (r53.2 != r62.2.2)) (c := (!(x71 == x72))) rfl rfl rfl rfl) ?_
          refine ro_val (d := (some 77)) rfl (.free rfl) rfl (q_move (v := .bool (((r53.2 != r62.2.2) || (!(x71 == x72))))) rfl rfl) ?_
          refine ro_join (σ := Bool) (J := fun (s : Bool) w => F3_j5 l_1 r3 a4 i_9 a54 a65 s w K11 R) (fr := fun g (s : Bool) => upd (upd (upd (upd (upd (upd (upd (g) 0 (tSlc.enc (l_1))) 3 (.pointer (r3))) 4 (.pointer (some a4))) 5 (.int .i64 (i_9))) 7 (.pointer (some a54))) 10 (.pointer (some a65))) 84 (.bool (s))) [11, 12, 13, 14, 15, 16, 17] [18, 19, 20, 21, 22, 23, 24, 25] ?_ ?_
          · rintro t_73 g w74 h
            unfold F3_j5 at h
            refine ro_val (d := (some 85)) rfl (.free rfl) rfl (q_move (v := .bool (t_73)) rfl rfl) ?_
            refine ro_join (σ := Bool) (J := fun (s : Bool) w => F3_j6 l_1 r3 a4 i_9 s w K11 R) (fr := fun g (s : Bool) => upd (upd (upd (upd (upd (g) 0 (tSlc.enc (l_1))) 3 (.pointer (r3))) 4 (.pointer (some a4))) 5 (.int .i64 (i_9))) 92 (.bool (s))) [19, 20, 21, 22, 23, 24, 25] [] ?_ ?_
            · rintro t_75 g w76 h
              unfold F3_j6 at h
              refine ro_nil ?_
              refine wp_if (b := t_75) rfl h (fun hb77 h => ?_) (fun hb77 h => ?_)
              · refine wp_seq ?_
                refine wp_text [0] rfl ?_
                refine ro_val (d := (some 2)) rfl (.free rfl) rfl (q_assign (v := .bool (false)) rfl rfl) ?_
                refine ro_nil ?_
                refine wp_ret ?_
                exact ret_ok rfl (.cons (.tmp (v := .bool (false)) rfl) .nil) ⟨false, rfl, h⟩
              · refine wp_skip ?_
                exact ⟨(), _, arr (upd_step (upd_step (upd_step (upd_step rfl rfl) rfl) rfl) rfl), h⟩
            · refine ro_if (b := t_73) h (fun hb78 h => ?_) (fun hb78 h => ?_)
              · refine ro_bar (d := (some 86)) rfl (.by_ 18 false 85 t_73 rfl rfl rfl hb78) rfl ?_
                refine ro_bar (d := (some 87)) rfl (.by_ 18 false 85 t_73 rfl rfl rfl hb78) rfl ?_
                refine ro_bar (d := (some 88)) rfl (.by_ 18 false 85 t_73 rfl rfl rfl hb78) rfl ?_
                refine ro_bar (d := (some 89)) rfl (.by_ 18 false 85 t_73 rfl rfl rfl hb78) rfl ?_
                refine ro_bar (d := (some 90)) rfl (.by_ 18 false 85 t_73 rfl rfl rfl hb78) rfl ?_
                refine ro_bar (d := (some 91)) rfl (.by_ 18 false 85 t_73 rfl rfl rfl hb78) rfl ?_
                refine ro_val (d := (some 92)) rfl (.free rfl) rfl (q_pickT (v := .bool (true)) (b := t_73) rfl rfl hb78 rfl) ?_
                refine ro_nil ?_
                exact ⟨(true), _, arr (upd_step (upd_step (upd_step (upd_step (upd_step rfl rfl) rfl) rfl) rfl) rfl), h⟩
              · refine ro_val (d := (some 86)) rfl (.by_ 18 false 85 t_73 rfl rfl rfl hb78) rfl (q_fieldAddr (a := a54) (off := 2) rfl Try.underlying34 rfl rfl ok32 (by decide) rfl) ?_
                obtain ⟨x79, hx79, h⟩ := h
                refine ro_val (d := (some 87)) rfl (.by_ 18 false 85 t_73 rfl rfl rfl hb78) rfl (q_load (T := tSlc) (u := x79) (a := (a54.add 2)) rfl ok32 rfl hx79) ?_
                refine ro_val (d := (some 88)) rfl (.by_ 18 false 85 t_73 rfl rfl rfl hb78) rfl (q_fieldAddr (a := a65) (off := 2) rfl Try.underlying34 rfl rfl ok32 (by decide) rfl) ?_
                obtain ⟨x80, hx80, h⟩ := h
                refine ro_val (d := (some 89)) rfl (.by_ 18 false 85 t_73 rfl rfl rfl hb78) rfl (q_load (T := tSlc) (u := x80) (a := (a65.add 2)) rfl ok32 rfl hx80) ?_
                refine ro_wp rfl (.by_ 18 false 85 t_73 rfl rfl rfl hb78) (wp_cl (d := (some 90)) rfl (q_call (k := 14) (l := [tSlc.enc (x79), tSlc.enc (x80)]) rfl ent14 rfl) h ?_)
                intro r82 w81 h
                refine ro_val (d := (some 91)) rfl (.by_ 18 false 85 t_73 rfl rfl rfl hb78) rfl (q_not (b := r82) rfl rfl) ?_
                refine ro_val (d := (some 92)) rfl (.free rfl) rfl (q_pickF (v := .bool ((!r82))) (b := t_73) rfl rfl hb78 rfl) ?_
                refine ro_nil ?_
                exact ⟨((!r82)), _, arr (upd_step (upd_step (upd_step (upd_step (upd_step rfl rfl) rfl) rfl) rfl) rfl), h⟩
          · refine ro_if (b := ((r53.2 != r62.2.2) || (!(x71 == x72)))) h (fun hb83 h => ?_) (fun hb83 h => ?_)
            · refine ro_bar (d := (some 78)) rfl (.by_ 10 false 77 ((r53.2 != r62.2.2) || (!(x71 == x72))) rfl rfl rfl hb83) rfl ?_
              refine ro_bar (d := (some 79)) rfl (.by_ 10 false 77 ((r53.2 != r62.2.2) || (!(x71 == x72))) rfl rfl rfl hb83) rfl ?_
              refine ro_bar (d := (some 80)) rfl (.by_ 10 false 77 ((r53.2 != r62.2.2) || (!(x71 == x72))) rfl rfl rfl hb83) rfl ?_
              refine ro_bar (d := (some 81)) rfl (.by_ 10 false 77 ((r53.2 != r62.2.2) || (!(x71 == x72))) rfl rfl rfl hb83) rfl ?_
              refine ro_bar (d := (some 82)) rfl (.by_ 10 false 77 ((r53.2 != r62.2.2) || (!(x71 == x72))) rfl rfl rfl hb83) rfl ?_
              refine ro_bar (d := (some 83)) rfl (.by_ 10 false 77 ((r53.2 != r62.2.2) || (!(x71 == x72))) rfl rfl rfl hb83) rfl ?_
              refine ro_val (d := (some 84)) rfl (.free rfl) rfl (q_pickT (v := .bool (true)) (b := ((r53.2 != r62.2.2) || (!(x71 == x72)))) rfl rfl hb83 rfl) ?_
              refine ro_nil ?_
              exact ⟨(true), _, arr (upd_step (upd_step (upd_step (upd_step (upd_step (upd_step (upd_step rfl rfl) rfl) rfl) rfl) rfl) rfl) rfl), h⟩
            · refine ro_val (d := (some 78)) rfl (.by_ 10 false 77 ((r53.2 != r62.2.2) || (!(x71 == x72))) rfl rfl rfl hb83) rfl (q_fieldAddr (a := a54) (off := 1) rfl Try.underlying34 rfl rfl ok26 (by decide) rfl) ?_
              obtain ⟨x84, hx84, h⟩ := h
              refine ro_val (d := (some 79)) rfl (.by_ 10 false 77 ((r53.2 != r62.2.2) || (!(x71 == x72))) rfl rfl rfl hb83) rfl (q_load (T := tSlc) (u := x84) (a := (a54.add 1)) rfl ok26 rfl hx84) ?_
              refine ro_val (d := (some 80)) rfl (.by_ 10 false 77 ((r53.2 != r62.2.2) || (!(x71 == x72))) rfl rfl rfl hb83) rfl (q_fieldAddr (a := a65) (off := 1) rfl Try.underlying34 rfl rfl ok26 (by decide) rfl) ?_
              obtain ⟨x85, hx85, h⟩ := h
              refine ro_val (d := (some 81)) rfl (.by_ 10 false 77 ((r53.2 != r62.2.2) || (!(x71 == x72))) rfl rfl rfl hb83) rfl (q_load (T := tSlc) (u := x85) (a := (a65.add 1)) rfl ok26 rfl hx85) ?_
              refine ro_wp rfl (.by_ 10 false 77 ((r53.2 != r62.2.2) || (!(x71 == x72))) rfl rfl rfl hb83) (wp_cl (d := (some 82)) rfl (q_call (k := 13) (l := [tSlc.enc (x84), tSlc.enc (x85)]) rfl ent13 rfl) h ?_)
              intro r87 w86 h
              refine ro_val (d := (some 83)) rfl (.by_ 10 false 77 ((r53.2 != r62.2.2) || (!(x71 == x72))) rfl rfl rfl hb83) rfl (q_not (b := r87) rfl rfl) ?_
              refine ro_val (d := (some 84)) rfl (.free rfl) rfl (q_pickF (v := .bool ((!r87))) (b := ((r53.2 != r62.2.2) || (!(x71 == x72)))) rfl rfl hb83 rfl) ?_
              refine ro_nil ?_
              exact ⟨((!r87)), _, arr (upd_step (upd_step (upd_step (upd_step (upd_step (upd_step (upd_step rfl rfl) rfl) rfl) rfl) rfl) rfl) rfl), h⟩
        · refine wp_seq ?_
          refine wp_text [0, 1, 2, 3, 4, 5, 6, 7, 8] rfl ?_
          refine ro_val (d := (some 94)) rfl (.free rfl) rfl (q_move (v := .pointer (r3)) rfl rfl) ?_
          refine ro_val (d := (some 95)) rfl (.free rfl) rfl (q_fieldAddr (a := a14) (off := 1) rfl Try.underlying31 rfl rfl ok3 (by decide) rfl) ?_
          obtain ⟨x88, hx88, h⟩ := h
          refine ro_val (d := (some 96)) rfl (.free rfl) rfl (q_load (T := (tInt .i64)) (u := x88) (a := (a14.add 1)) rfl ok3 rfl hx88) ?_
          refine ro_wp rfl (.free rfl) (wp_cl (d := (some 97)) rfl (q_call (k := 15) (l := [.pointer (r3), .int .i64 (x88)]) rfl ent15 rfl) h ?_)
          intro r90 w89 h
          refine ro_val (d := (some 93)) rfl (.free rfl) rfl (q_move (v := (tTup2 tSlc (tInt .i64)).enc (r90)) rfl rfl) ?_
          refine ro_val (d := (some 98)) rfl (.free rfl) rfl (q_extract (vs := #[tSlc.enc (r90.1), .int .i64 (r90.2)]) (v := tSlc.enc (r90.1)) rfl rfl rfl) ?_
          refine ro_val (d := (some 99)) rfl (.free rfl) rfl (q_extract (vs := #[tSlc.enc (r90.1), .int .i64 (r90.2)]) (v := .int .i64 (r90.2)) rfl rfl rfl) ?_
          refine ro_val (d := (some 12)) rfl (.free rfl) rfl (q_assign (v := tSlc.enc (r90.1)) rfl rfl) ?_
          refine ro_val (d := (some 13)) rfl (.free rfl) rfl (q_assign (v := .int .i64 (r90.2)) rfl rfl) ?_
          refine ro_nil ?_
          refine wp_seq ?_
          refine wp_text [0, 1, 2, 3, 4, 5, 6, 7, 8, 9, 10, 11] rfl ?_
          obtain ⟨x91, hx91, h⟩ := h
          refine ro_val (d := (some 101)) rfl (.free rfl) rfl (q_load (T := T27) (u := x91) (a := a4) rfl ok28 rfl hx91) ?_
          refine ro_val (d := (some 102)) rfl (.free rfl) rfl (q_fieldAddr (a := a14) (off := 1) rfl Try.underlying31 rfl rfl ok3 (by decide) rfl) ?_
          obtain ⟨x92, hx92, h⟩ := h
          refine ro_val (d := (some 103)) rfl (.free rfl) rfl (q_load (T := (tInt .i64)) (u := x92) (a := (a14.add 1)) rfl ok3 rfl hx92) ?_
          refine ro_wp rfl (.free rfl) (wp_cl (d := (some 104)) rfl (q_call (k := 16) (l := [T27.enc (x91), .int .i64 (x92)]) rfl ent16 rfl) h ?_)
          intro r94 w93 h
          refine ro_val (d := (some 100)) rfl (.free rfl) rfl (q_move (v := (tTup3 T27 tSlc (tInt .i64)).enc (r94)) rfl rfl) ?_
          refine ro_val (d := (some 105)) rfl (.free rfl) rfl (q_extract (vs := #[T27.enc (r94.1), tSlc.enc (r94.2.1), .int .i64 (r94.2.2)]) (v := T27.enc (r94.1)) rfl rfl rfl) ?_
          refine ro_val (d := (some 106)) rfl (.free rfl) rfl (q_extract (vs := #[T27.enc (r94.1), tSlc.enc (r94.2.1), .int .i64 (r94.2.2)]) (v := tSlc.enc (r94.2.1)) rfl rfl rfl) ?_
          refine ro_val (d := (some 107)) rfl (.free rfl) rfl (q_extract (vs := #[T27.enc (r94.1), tSlc.enc (r94.2.1), .int .i64 (r94.2.2)]) (v := .int .i64 (r94.2.2)) rfl rfl rfl) ?_
          obtain ⟨a95, w96, ha95, hw96, h⟩ := nw_open h
          refine ro_val (d := (some 14)) rfl (.free rfl) rfl (q_alloc (u := Z27) rfl ok28 inf28 ha95 hw96) ?_
          obtain ⟨w97, hw97, hrw97, h⟩ := st_open h
          refine ro_skip (d := none) rfl (.free rfl) rfl (q_store (T := T27) (u := r94.1) (a := a95) rfl ok28 rfl rfl hrw97 hw97) ?_
          refine ro_val (d := (some 15)) rfl (.free rfl) rfl (q_assign (v := tSlc.enc (r94.2.1)) rfl rfl) ?_
          refine ro_val (d := (some 16)) rfl (.free rfl) rfl (q_assign (v := .int .i64 (r94.2.2)) rfl rfl) ?_
          refine ro_nil ?_
          refine wp_seq ?_
          refine wp_text [0, 1] rfl ?_
          obtain ⟨x98, hx98, h⟩ := h
          refine ro_val (d := (some 108)) rfl (.free rfl) rfl (q_load (T := T27) (u := x98) (a := a95) rfl ok28 rfl hx98) ?_
          obtain ⟨w99, hw99, hrw99, h⟩ := st_open h
          refine ro_skip (d := none) rfl (.free rfl) rfl (q_store (T := T27) (u := x98) (a := a4) rfl ok28 rfl rfl hrw99 hw99) ?_
          refine ro_nil ?_
          refine wp_seq ?_
          refine wp_text [0, 1, 2, 3, 4, 5, 6, 7, 8] rfl ?_
          refine ro_val (d := (some 109)) rfl (.free rfl) rfl (q_move (v := .int .i64 (r90.2)) rfl rfl) ?_
          refine ro_val (d := (some 110)) rfl (.free rfl) rfl (q_move (v := .int .i64 (r94.2.2)) rfl rfl) ?_
          refine ro_val (d := (some 111)) rfl (.free rfl) rfl (q_neq (a := r90.2) (b := r94.2.2) rfl rfl rfl) ?_
          refine ro_val (d := (some 112)) rfl (.free rfl) rfl (q_move (v := .bool ((r90.2 != r94.2.2))) rfl rfl) ?_
          refine ro_join (σ := Bool) (J := fun (s : Bool) w => F3_j7 l_1 r3 a4 i_9 s w K11 R) (fr := fun g (s : Bool) => upd (upd (upd (upd (upd (g) 0 (tSlc.enc (l_1))) 3 (.pointer (r3))) 4 (.pointer (some a4))) 5 (.int .i64 (i_9))) 117 (.bool (s))) [4, 5, 6, 7, 8] [] ?_ ?_
          · rintro t_100 g w101 h
            unfold F3_j7 at h
            refine ro_nil ?_
            refine wp_if (b := t_100) rfl h (fun hb102 h => ?_) (fun hb102 h => ?_)
            · refine wp_seq ?_
              refine wp_text [0] rfl ?_
              refine ro_val (d := (some 2)) rfl (.free rfl) rfl (q_assign (v := .bool (false)) rfl rfl) ?_
              refine ro_nil ?_
              refine wp_ret ?_
              exact ret_ok rfl (.cons (.tmp (v := .bool (false)) rfl) .nil) ⟨false, rfl, h⟩
            · refine wp_skip ?_
              exact ⟨(), _, arr (upd_step (upd_step (upd_step (upd_step rfl rfl) rfl) rfl) rfl), h⟩
          · refine ro_if (b := (r90.2 != r94.2.2)) h (fun hb103 h => ?_) (fun hb103 h => ?_)
            · refine ro_bar (d := (some 113)) rfl (.by_ 3 false 112 (r90.2 != r94.2.2) rfl rfl rfl hb103) rfl ?_
              refine ro_bar (d := (some 114)) rfl (.by_ 3 false 112 (r90.2 != r94.2.2) rfl rfl rfl hb103) rfl ?_
              refine ro_bar (d := (some 115)) rfl (.by_ 3 false 112 (r90.2 != r94.2.2) rfl rfl rfl hb103) rfl ?_
              refine ro_bar (d := (some 116)) rfl (.by_ 3 false 112 (r90.2 != r94.2.2) rfl rfl rfl hb103) rfl ?_
              refine ro_val (d := (some 117)) rfl (.free rfl) rfl (q_pickT (v := .bool (true)) (b := (r90.2 != r94.2.2)) rfl rfl hb103 rfl) ?_
              refine ro_nil ?_
              exact ⟨(true), _, arr (upd_step (upd_step (upd_step (upd_step (upd_step rfl rfl) rfl) rfl) rfl) rfl), h⟩
            · refine ro_val (d := (some 113)) rfl (.by_ 3 false 112 (r90.2 != r94.2.2) rfl rfl rfl hb103) rfl (q_move (v := tSlc.enc (r90.1)) rfl rfl) ?_
              refine ro_val (d := (some 114)) rfl (.by_ 3 false 112 (r90.2 != r94.2.2) rfl rfl rfl hb103) rfl (q_move (v := tSlc.enc (r94.2.1)) rfl rfl) ?_
              refine ro_wp rfl (.by_ 3 false 112 (r90.2 != r94.2.2) rfl rfl rfl hb103) (wp_cl (d := (some 115)) rfl (q_call (k := 14) (l := [tSlc.enc (r90.1), tSlc.enc (r94.2.1)]) rfl ent14 rfl) h ?_)
              intro r105 w104 h
              refine ro_val (d := (some 116)) rfl (.by_ 3 false 112 (r90.2 != r94.2.2) rfl rfl rfl hb103) rfl (q_not (b := r105) rfl rfl) ?_
              refine ro_val (d := (some 117)) rfl (.free rfl) rfl (q_pickF (v := .bool ((!r105))) (b := (r90.2 != r94.2.2)) rfl rfl hb103 rfl) ?_
              refine ro_nil ?_
              exact ⟨((!r105)), _, arr (upd_step (upd_step (upd_step (upd_step (upd_step rfl rfl) rfl) rfl) rfl) rfl), h⟩
    · refine wp_exit ?_
      refine wp_seq ?_
      refine wp_text [0] rfl ?_
      refine ro_val (d := (some 2)) rfl (.free rfl) rfl (q_assign (v := .bool (true)) rfl rfl) ?_
      refine ro_nil ?_
      refine wp_ret ?_
      exact ret_ok rfl (.cons (.tmp (v := .bool (true)) rfl) .nil) ⟨true, rfl, h⟩

end Go.Proofs.Ytojcgejjdfcaaaa.Cf
