/- Characteristic formulae of Go functions, and that they are. Printed by gen.py (own tool). -/
import Derived.Test.YtleehieomicicaaTy
namespace Go.Proofs.Ytleehieomicicaa.Cf
open Go
set_option maxRecDepth 100000
set_option maxHeartbeats 1000000
set_option linter.unusedVariables false
set_option linter.unusedSimpArgs false

-- moiety/moietyref17.Diff
def F18_l2 (a3 : Addr) (i_6 : Int) (k_9 : Int) (w10 : World) (K8 : Int → World → Prop) (K11 : Int → World → Prop) (R : (Slc × Int) → World → Prop) : Prop :=
  ex (IxR a3 2 1 i_6) fun a12 =>
  ex (RdAt tSlc a12 w10) fun x13 =>
  if (decide (k_9 < (x13.len : Int))) = true then (
    dr w10 fun w14 =>
    ex (IxR a3 2 1 i_6) fun a15 =>
    ex (IxR a3 2 1 i_6) fun a16 =>
    ex (RdAt tSlc a15 w14) fun x17 =>
    ex (IxA x17 2 (IntKind.i64.wrap (k_9 - (1 : Int)))) fun a18 =>
    ex (RdAt (tInt .i64) (a18.add 0) w14) fun x19 =>
    ex (RdAt tSlc a16 w14) fun x20 =>
    ex (IxA x20 2 k_9) fun a21 =>
    ex (RdAt (tInt .i64) (a21.add 0) w14) fun x22 =>
    if (decide (x19 ≥ x22)) = true then (
      R ((⟨none, 0, 0⟩ : Slc), (185 : Int)) w14
    ) else (
      K11 ((IntKind.i64.wrap (k_9 + (1 : Int)))) w14
    )
  ) else (
    K8 ((IntKind.i64.wrap (i_6 + (1 : Int)))) w10
  )
def F18_l4 (a3 : Addr) (i_25 : Int) (k_28 : Int) (w29 : World) (K27 : Int → World → Prop) (K30 : Int → World → Prop) (R : (Slc × Int) → World → Prop) : Prop :=
  ex (IxR a3 2 1 i_25) fun a31 =>
  ex (RdAt tSlc a31 w29) fun x32 =>
  if (decide (k_28 < (x32.len : Int))) = true then (
    ex (IxR a3 2 1 i_25) fun a33 =>
    ex (RdAt tSlc a33 w29) fun x34 =>
    ex (IxA x34 2 k_28) fun a35 =>
    ex (RdAt (tInt .i64) (a35.add 1) w29) fun x36 =>
    ex (fun x => (!(decide (x36 < (0 : Int)))) = true → (IxR a3 2 1 i_25) x) fun a37 =>
    ex (fun x => (!(decide (x36 < (0 : Int)))) = true → (RdAt tSlc a37 w29) x) fun x38 =>
    ex (fun x => (!(decide (x36 < (0 : Int)))) = true → (IxA x38 2 k_28) x) fun a39 =>
    ex (fun x => (!(decide (x36 < (0 : Int)))) = true → (RdAt (tInt .i64) (a39.add 1) w29) x) fun x40 =>
    if ((decide (x36 < (0 : Int))) || (decide (x40 > (4611686018427387904 : Int)))) = true then (
      R ((⟨none, 0, 0⟩ : Slc), (183 : Int)) w29
    ) else (
      K30 ((IntKind.i64.wrap (k_28 + (1 : Int)))) w29
    )
  ) else (
    K27 ((IntKind.i64.wrap (i_25 + (1 : Int)))) w29
  )
def F18_j6 (i_46 : Int) (out_49 : Slc) (w50 : World) (K48 : Slc × Int → World → Prop) (R : (Slc × Int) → World → Prop) : Prop :=
  K48 (out_49, (IntKind.i64.wrap (i_46 + (1 : Int)))) w50
def F18_j8 (i_67 : Int) (out_70 : Slc) (w71 : World) (K69 : Slc × Int → World → Prop) (R : (Slc × Int) → World → Prop) : Prop :=
  K69 (out_70, (IntKind.i64.wrap (i_67 + (1 : Int)))) w71
def F18_l9 (a_1 : Slc) (b_2 : Slc) (out_66 : Slc) (i_67 : Int) (there_72 : Bool) (k_73 : Int) (w74 : World) (K69 : Slc × Int → World → Prop) (K75 : Bool × Int → World → Prop) (R : (Slc × Int) → World → Prop) : Prop :=
  if (decide (k_73 < (a_1.len : Int))) = true then (
    dr w74 fun w76 =>
    ex (fun x => (!there_72) = true → (IxA a_1 2 k_73) x) fun a77 =>
    ex (fun x => (!there_72) = true → (IxA b_2 2 i_67) x) fun a78 =>
    ex (fun x => (!there_72) = true → (RdAt (tInt .i64) (a77.add 0) w76) x) fun x79 =>
    ex (fun x => (!there_72) = true → (RdAt (tInt .i64) (a78.add 0) w76) x) fun x80 =>
    K75 ((there_72 || (x79 == x80)), (IntKind.i64.wrap (k_73 + (1 : Int)))) w76
  ) else (
    ex (fun x => (!there_72) = true → (IxA b_2 2 i_67) x) fun a81 =>
    ex (fun x => (!there_72) = true → (RdAt (tInt .i64) (a81.add 1) w74) x) fun x82 =>
    if ((!there_72) && (x82 != (0 : Int))) = true then (
      ex (IxA b_2 2 i_67) fun a83 =>
      ex (RdAt T36 a83 w74) fun x84 =>
      apl 37 T36 2 16 out_66 [x84] w74 fun r88 w87 =>
      F18_j8 i_67 r88 w87 K69 R
    ) else (
      F18_j8 i_67 out_66 w74 K69 R
    )
  )
def F18_l7 (a_1 : Slc) (b_2 : Slc) (out_66 : Slc) (i_67 : Int) (w68 : World) (K69 : Slc × Int → World → Prop) (R : (Slc × Int) → World → Prop) : Prop :=
  if (decide (i_67 < (b_2.len : Int))) = true then (
    lp (fun (s : Bool × Int) w K => F18_l9 a_1 b_2 out_66 i_67 s.1 s.2 w K69 K R) (false, (0 : Int)) w68
  ) else (
    cl Try.prog 23 [tSlc.enc (out_66)] tSlc w68 fun r92 w91 =>
    R (r92, (0 : Int)) w91
  )
def F18_l5 (a_1 : Slc) (b_2 : Slc) (out_45 : Slc) (i_46 : Int) (w47 : World) (K48 : Slc × Int → World → Prop) (R : (Slc × Int) → World → Prop) : Prop :=
  if (decide (i_46 < (a_1.len : Int))) = true then (
    dr w47 fun w51 =>
    ex (IxA a_1 2 i_46) fun a52 =>
    ex (IxA a_1 2 i_46) fun a53 =>
    ex (RdAt (tInt .i64) (a52.add 0) w51) fun x54 =>
    ex (RdAt (tInt .i64) (a53.add 1) w51) fun x55 =>
    cl Try.prog 28 [tSlc.enc (b_2), .int .i64 (x54)] (tInt .i64) w51 fun r57 w56 =>
    kp ((RdAt (tInt .i64) (a53.add 1) w56) x55) <|
    if ((IntKind.i64.wrap (r57 - x55)) != (0 : Int)) = true then (
      ex (IxA a_1 2 i_46) fun a59 =>
      ex (RdAt (tInt .i64) (a59.add 0) w56) fun x60 =>
      apl 37 T36 2 16 out_45 [(⟨x60, (IntKind.i64.wrap (r57 - x55))⟩ : S36)] w56 fun r64 w63 =>
      F18_j6 i_46 r64 w63 K48 R
    ) else (
      F18_j6 i_46 out_45 w56 K48 R
    )
  ) else (
    lp (fun (s : Slc × Int) w K => F18_l7 a_1 b_2 s.1 s.2 w K R) (out_45, (0 : Int)) w47
  )
def F18_l3 (a_1 : Slc) (b_2 : Slc) (a3 : Addr) (i_25 : Int) (w26 : World) (K27 : Int → World → Prop) (R : (Slc × Int) → World → Prop) : Prop :=
  if (decide (i_25 < (2 : Int))) = true then (
    lp (fun (s : Int) w K => F18_l4 a3 i_25 s w K27 K R) ((0 : Int)) w26
  ) else (
    nwS 37 T36 ([] : List S36) w26 fun a43 w44 =>
    lp (fun (s : Slc × Int) w K => F18_l5 a_1 b_2 s.1 s.2 w K R) ((⟨some a43, 0, 0⟩ : Slc), (0 : Int)) w44
  )
def F18_l1 (a_1 : Slc) (b_2 : Slc) (a3 : Addr) (i_6 : Int) (w7 : World) (K8 : Int → World → Prop) (R : (Slc × Int) → World → Prop) : Prop :=
  if (decide (i_6 < (2 : Int))) = true then (
    lp (fun (s : Int) w K => F18_l2 a3 i_6 s w K8 K R) ((1 : Int)) w7
  ) else (
    lp (fun (s : Int) w K => F18_l3 a_1 b_2 a3 s w K R) ((0 : Int)) w7
  )
def F18 (a_1 : Slc) (b_2 : Slc) (w : World) (R : (Slc × Int) → World → Prop) : Prop :=
  nw 52 (tArr tSlc 2) (Vector.replicate 2 (⟨none, 0, 0⟩ : Slc)) w fun a3 w4 =>
  st (tArr tSlc 2) a3 (⟨#[a_1, b_2], rfl⟩ : (Vector Slc 2)) w4 fun w5 =>
  lp (fun (s : Int) w K => F18_l1 a_1 b_2 a3 s w K R) ((0 : Int)) w5
theorem F18_ok {a_1 : Slc} {b_2 : Slc} {w : World} {R : (Slc × Int) → World → Prop} (h : F18 a_1 b_2 w R) : cl Try.prog 18 [tSlc.enc (a_1), tSlc.enc (b_2)] (tTup2 tSlc (tInt .i64)) w R := by
  unfold F18 at h
  refine calls_start 155 Try.func18 rfl rfl (Nat.le_of_ble_eq_true rfl) ?_
  refine wp_seq ?_
  refine wp_text [0, 1] rfl ?_
  refine ro_val (d := (some 4)) rfl (.free rfl) rfl (q_assign (v := tSlc.enc ((⟨none, 0, 0⟩ : Slc))) rfl rfl) ?_
  refine ro_val (d := (some 5)) rfl (.free rfl) rfl (q_assign (v := .int .i64 ((0 : Int))) rfl rfl) ?_
  refine ro_nil ?_
  refine wp_seq ?_
  refine wp_text [0, 1, 2, 3, 4] rfl ?_
  refine ro_val (d := (some 17)) rfl (.free rfl) rfl (q_move (v := tSlc.enc (a_1)) rfl rfl) ?_
  refine ro_val (d := (some 18)) rfl (.free rfl) rfl (q_move (v := tSlc.enc (b_2)) rfl rfl) ?_
  refine ro_val (d := (some 19)) rfl (.free rfl) rfl (q_build52_0_1 (v0 := a_1) (v1 := b_2) rfl rfl rfl) ?_
  obtain ⟨a3, w4, ha3, hw4, h⟩ := nw_open h
  refine ro_val (d := (some 6)) rfl (.free rfl) rfl (q_alloc (u := (Vector.replicate 2 (⟨none, 0, 0⟩ : Slc))) rfl ok52 inf52 ha3 hw4) ?_
  obtain ⟨w5, hw5, hrw5, h⟩ := st_open h
  refine ro_skip (d := none) rfl (.free rfl) rfl (q_store (T := (tArr tSlc 2)) (u := (⟨#[a_1, b_2], rfl⟩ : (Vector Slc 2))) (a := a3) rfl ok52 rfl rfl hrw5 hw5) ?_
  refine ro_nil ?_
  refine wp_seq ?_
  refine wp_seq ?_
  refine wp_text [0] rfl ?_
  refine ro_val (d := (some 7)) rfl (.free rfl) rfl (q_assign (v := .int .i64 ((0 : Int))) rfl rfl) ?_
  refine ro_nil ?_
  refine wp_block ?_
  refine loop_at (σ := Int) (fr := fun g (s : Int) => upd (upd (upd (upd (g) 0 (tSlc.enc (a_1))) 1 (tSlc.enc (b_2))) 6 (.pointer (some a3))) 7 (.int .i64 (s))) (s0 := ((0 : Int))) (upd_step (upd_step (upd_step (upd_step rfl rfl) rfl) rfl) rfl) h ?_
  rintro i_6 g w7 K8 h
  unfold F18_l1 at h
  refine wp_seq ?_
  refine wp_seq ?_
  refine wp_text [0, 1] rfl ?_
  refine ro_val (d := (some 20)) rfl (.free rfl) rfl (q_move (v := .int .i64 (i_6)) rfl rfl) ?_
  refine ro_val (d := (some 21)) rfl (.free rfl) rfl (q_lss (a := i_6) (b := (2 : Int)) rfl rfl rfl) ?_
  refine ro_nil ?_
  refine wp_if (b := (decide (i_6 < (2 : Int)))) rfl h (fun hb96 h => ?_) (fun hb96 h => ?_)
  · refine wp_skip ?_
    refine wp_seq ?_
    refine wp_block ?_
    refine wp_seq ?_
    refine wp_text [0] rfl ?_
    refine ro_val (d := (some 8)) rfl (.free rfl) rfl (q_assign (v := .int .i64 ((1 : Int))) rfl rfl) ?_
    refine ro_nil ?_
    refine wp_block ?_
    refine loop_at (σ := Int) (fr := fun g (s : Int) => upd (upd (upd (upd (upd (g) 0 (tSlc.enc (a_1))) 1 (tSlc.enc (b_2))) 6 (.pointer (some a3))) 7 (.int .i64 (i_6))) 8 (.int .i64 (s))) (s0 := ((1 : Int))) (upd_step (upd_step (upd_step (upd_step (upd_step rfl rfl) rfl) rfl) rfl) rfl) h ?_
    rintro k_9 g w10 K11 h
    unfold F18_l2 at h
    refine wp_seq ?_
    refine wp_seq ?_
    refine wp_text [0, 1, 2, 3, 4, 5] rfl ?_
    refine ro_val (d := (some 24)) rfl (.free rfl) rfl (q_move (v := .int .i64 (k_9)) rfl rfl) ?_
    refine ro_val (d := (some 25)) rfl (.free rfl) rfl (q_move (v := .int .i64 (i_6)) rfl rfl) ?_
    obtain ⟨a12, ha12, h⟩ := h
    refine ro_val (d := (some 26)) rfl (.free rfl) rfl (q_indexAddrA (b := a3) (i := i_6) rfl Try.underlying52 ok31 rfl rfl ha12) ?_
    obtain ⟨x13, hx13, h⟩ := h
    refine ro_val (d := (some 27)) rfl (.free rfl) rfl (q_load (T := tSlc) (u := x13) (a := a12) rfl ok31 rfl hx13) ?_
    refine ro_val (d := (some 28)) rfl (.free rfl) rfl (q_len (s := x13) rfl Try.underlying31 rfl) ?_
    refine ro_val (d := (some 29)) rfl (.free rfl) rfl (q_lss (a := k_9) (b := (x13.len : Int)) rfl rfl rfl) ?_
    refine ro_nil ?_
    refine wp_if (b := (decide (k_9 < (x13.len : Int)))) rfl h (fun hb24 h => ?_) (fun hb24 h => ?_)
    · refine wp_skip ?_
      refine wp_seq ?_
      refine wp_block ?_
      refine wp_seq ?_
      obtain ⟨w14, hw14, h⟩ := dr_open h
      refine wp_drawn 16 mixed rfl (by kernel_rfl) (by intro c a d v w h; cases d <;> exact h) hw14 (fun hD => ?_)
      refine rd_pure (i := 0) (d := (some 32)) hD (by kernel_rfl) (by kernel_rfl) rfl (.free rfl) rfl (fun _ => q_move (v := .int .i64 (i_6)) rfl rfl) ?_
      obtain ⟨a15, ha15, h⟩ := h
      refine rd_pure (i := 1) (d := (some 33)) hD (by kernel_rfl) (by kernel_rfl) rfl (.free rfl) rfl (fun _ => q_indexAddrA (b := a3) (i := i_6) rfl Try.underlying52 ok31 rfl rfl ha15) ?_
      refine rd_pure (i := 3) (d := (some 35)) hD (by kernel_rfl) (by kernel_rfl) rfl (.free rfl) rfl (fun _ => q_move (v := .int .i64 (k_9)) rfl rfl) ?_
      refine rd_pure (i := 4) (d := (some 36)) hD (by kernel_rfl) (by kernel_rfl) rfl (.free rfl) rfl (fun _ => q_sub (a := k_9) (b := (1 : Int)) rfl rfl rfl) ?_
      refine rd_pure (i := 8) (d := (some 40)) hD (by kernel_rfl) (by kernel_rfl) rfl (.free rfl) rfl (fun _ => q_move (v := .int .i64 (i_6)) rfl rfl) ?_
      obtain ⟨a16, ha16, h⟩ := h
      refine rd_pure (i := 9) (d := (some 41)) hD (by kernel_rfl) (by kernel_rfl) rfl (.free rfl) rfl (fun _ => q_indexAddrA (b := a3) (i := i_6) rfl Try.underlying52 ok31 rfl rfl ha16) ?_
      refine rd_pure (i := 11) (d := (some 43)) hD (by kernel_rfl) (by kernel_rfl) rfl (.free rfl) rfl (fun _ => q_move (v := .int .i64 (k_9)) rfl rfl) ?_
      obtain ⟨x17, hx17, h⟩ := h
      refine rd_read (i := 2) (d := (some 34)) (fun W => (RdAt tSlc a15 W) x17) hD (by kernel_rfl) (by kernel_rfl) rfl (.free rfl) rfl (fun W hr => q_load (T := tSlc) (u := x17) (a := a15) rfl ok31 rfl hr) hx17 ?_
      obtain ⟨a18, ha18, h⟩ := h
      refine rd_pure (i := 5) (d := (some 37)) hD (by kernel_rfl) (by kernel_rfl) rfl (.free rfl) rfl (fun _ => q_indexAddr (s := x17) (i := (IntKind.i64.wrap (k_9 - (1 : Int)))) rfl Try.underlying31 ok37 rfl rfl ha18) ?_
      refine rd_pure (i := 6) (d := (some 38)) hD (by kernel_rfl) (by kernel_rfl) rfl (.free rfl) rfl (fun _ => q_fieldAddr (a := a18) (off := 0) rfl Try.underlying37 rfl rfl ok3 (by decide) rfl) ?_
      obtain ⟨x19, hx19, h⟩ := h
      refine rd_read (i := 7) (d := (some 39)) (fun W => (RdAt (tInt .i64) (a18.add 0) W) x19) hD (by kernel_rfl) (by kernel_rfl) rfl (.free rfl) rfl (fun W hr => q_load (T := (tInt .i64)) (u := x19) (a := (a18.add 0)) rfl ok3 rfl hr) hx19 ?_
      obtain ⟨x20, hx20, h⟩ := h
      refine rd_read (i := 10) (d := (some 42)) (fun W => (RdAt tSlc a16 W) x20) hD (by kernel_rfl) (by kernel_rfl) rfl (.free rfl) rfl (fun W hr => q_load (T := tSlc) (u := x20) (a := a16) rfl ok31 rfl hr) hx20 ?_
      obtain ⟨a21, ha21, h⟩ := h
      refine rd_pure (i := 12) (d := (some 44)) hD (by kernel_rfl) (by kernel_rfl) rfl (.free rfl) rfl (fun _ => q_indexAddr (s := x20) (i := k_9) rfl Try.underlying31 ok37 rfl rfl ha21) ?_
      refine rd_pure (i := 13) (d := (some 45)) hD (by kernel_rfl) (by kernel_rfl) rfl (.free rfl) rfl (fun _ => q_fieldAddr (a := a21) (off := 0) rfl Try.underlying37 rfl rfl ok3 (by decide) rfl) ?_
      obtain ⟨x22, hx22, h⟩ := h
      refine rd_read (i := 14) (d := (some 46)) (fun W => (RdAt (tInt .i64) (a21.add 0) W) x22) hD (by kernel_rfl) (by kernel_rfl) rfl (.free rfl) rfl (fun W hr => q_load (T := (tInt .i64)) (u := x22) (a := (a21.add 0)) rfl ok3 rfl hr) hx22 ?_
      refine rd_pure (i := 15) (d := (some 47)) hD (by kernel_rfl) (by kernel_rfl) rfl (.free rfl) rfl (fun _ => q_geq (a := x19) (b := x22) rfl rfl rfl) ?_
      refine rd_nil (by kernel_rfl) ?_
      refine wp_if (b := (decide (x19 ≥ x22))) rfl h (fun hb23 h => ?_) (fun hb23 h => ?_)
      · refine wp_seq ?_
        refine wp_text [0, 1] rfl ?_
        refine ro_val (d := (some 4)) rfl (.free rfl) rfl (q_assign (v := tSlc.enc ((⟨none, 0, 0⟩ : Slc))) rfl rfl) ?_
        refine ro_val (d := (some 5)) rfl (.free rfl) rfl (q_assign (v := .int .i64 ((185 : Int))) rfl rfl) ?_
        refine ro_nil ?_
        refine wp_ret ?_
        exact ret_ok rfl (.cons (.tmp (v := tSlc.enc ((⟨none, 0, 0⟩ : Slc))) rfl) (.cons (.tmp (v := .int .i64 ((185 : Int))) rfl) .nil)) ⟨((⟨none, 0, 0⟩ : Slc), (185 : Int)), rfl, h⟩
      · refine wp_skip ?_
        refine wp_text [0, 1, 2] rfl ?_
        refine ro_val (d := (some 30)) rfl (.free rfl) rfl (q_move (v := .int .i64 (k_9)) rfl rfl) ?_
        refine ro_val (d := (some 31)) rfl (.free rfl) rfl (q_add (a := k_9) (b := (1 : Int)) rfl rfl rfl) ?_
        refine ro_val (d := (some 8)) rfl (.free rfl) rfl (q_assign (v := .int .i64 ((IntKind.i64.wrap (k_9 + (1 : Int))))) rfl rfl) ?_
        refine ro_nil ?_
        exact ⟨((IntKind.i64.wrap (k_9 + (1 : Int)))), _, arr (upd_step (upd_step (upd_step (upd_step (upd_step rfl rfl) rfl) rfl) rfl) rfl), h⟩
    · refine wp_exit ?_
      refine wp_text [0, 1, 2] rfl ?_
      refine ro_val (d := (some 22)) rfl (.free rfl) rfl (q_move (v := .int .i64 (i_6)) rfl rfl) ?_
      refine ro_val (d := (some 23)) rfl (.free rfl) rfl (q_add (a := i_6) (b := (1 : Int)) rfl rfl rfl) ?_
      refine ro_val (d := (some 7)) rfl (.free rfl) rfl (q_assign (v := .int .i64 ((IntKind.i64.wrap (i_6 + (1 : Int))))) rfl rfl) ?_
      refine ro_nil ?_
      exact ⟨((IntKind.i64.wrap (i_6 + (1 : Int)))), _, arr (upd_step (upd_step (upd_step (upd_step rfl rfl) rfl) rfl) rfl), h⟩
  · refine wp_exit ?_
    refine wp_seq ?_
    refine wp_seq ?_
    refine wp_text [0] rfl ?_
    refine ro_val (d := (some 9)) rfl (.free rfl) rfl (q_assign (v := .int .i64 ((0 : Int))) rfl rfl) ?_
    refine ro_nil ?_
    refine wp_block ?_
    refine loop_at (σ := Int) (fr := fun g (s : Int) => upd (upd (upd (upd (g) 0 (tSlc.enc (a_1))) 1 (tSlc.enc (b_2))) 6 (.pointer (some a3))) 9 (.int .i64 (s))) (s0 := ((0 : Int))) (upd_step (upd_step (upd_step (upd_step rfl rfl) rfl) rfl) rfl) h ?_
    rintro i_25 g w26 K27 h
    unfold F18_l3 at h
    refine wp_seq ?_
    refine wp_seq ?_
    refine wp_text [0, 1] rfl ?_
    refine ro_val (d := (some 48)) rfl (.free rfl) rfl (q_move (v := .int .i64 (i_25)) rfl rfl) ?_
    refine ro_val (d := (some 49)) rfl (.free rfl) rfl (q_lss (a := i_25) (b := (2 : Int)) rfl rfl rfl) ?_
    refine ro_nil ?_
    refine wp_if (b := (decide (i_25 < (2 : Int)))) rfl h (fun hb95 h => ?_) (fun hb95 h => ?_)
    · refine wp_skip ?_
      refine wp_seq ?_
      refine wp_block ?_
      refine wp_seq ?_
      refine wp_text [0] rfl ?_
      refine ro_val (d := (some 10)) rfl (.free rfl) rfl (q_assign (v := .int .i64 ((0 : Int))) rfl rfl) ?_
      refine ro_nil ?_
      refine wp_block ?_
      refine loop_at (σ := Int) (fr := fun g (s : Int) => upd (upd (upd (upd (upd (g) 0 (tSlc.enc (a_1))) 1 (tSlc.enc (b_2))) 6 (.pointer (some a3))) 9 (.int .i64 (i_25))) 10 (.int .i64 (s))) (s0 := ((0 : Int))) (upd_step (upd_step (upd_step (upd_step (upd_step rfl rfl) rfl) rfl) rfl) rfl) h ?_
      rintro k_28 g w29 K30 h
      unfold F18_l4 at h
      refine wp_seq ?_
      refine wp_seq ?_
      refine wp_text [0, 1, 2, 3, 4, 5] rfl ?_
      refine ro_val (d := (some 52)) rfl (.free rfl) rfl (q_move (v := .int .i64 (k_28)) rfl rfl) ?_
      refine ro_val (d := (some 53)) rfl (.free rfl) rfl (q_move (v := .int .i64 (i_25)) rfl rfl) ?_
      obtain ⟨a31, ha31, h⟩ := h
      refine ro_val (d := (some 54)) rfl (.free rfl) rfl (q_indexAddrA (b := a3) (i := i_25) rfl Try.underlying52 ok31 rfl rfl ha31) ?_
      obtain ⟨x32, hx32, h⟩ := h
      refine ro_val (d := (some 55)) rfl (.free rfl) rfl (q_load (T := tSlc) (u := x32) (a := a31) rfl ok31 rfl hx32) ?_
      refine ro_val (d := (some 56)) rfl (.free rfl) rfl (q_len (s := x32) rfl Try.underlying31 rfl) ?_
      refine ro_val (d := (some 57)) rfl (.free rfl) rfl (q_lss (a := k_28) (b := (x32.len : Int)) rfl rfl rfl) ?_
      refine ro_nil ?_
      refine wp_if (b := (decide (k_28 < (x32.len : Int)))) rfl h (fun hb42 h => ?_) (fun hb42 h => ?_)
      · refine wp_skip ?_
        refine wp_seq ?_
        refine wp_block ?_
        refine wp_seq ?_
        refine wp_text [0, 1, 2, 3, 4, 5, 6, 7, 8, 9, 10, 11, 12, 13, 14, 15, 16, 17] rfl ?_
        refine ro_val (d := (some 60)) rfl (.free rfl) rfl (q_move (v := .int .i64 (i_25)) rfl rfl) ?_
        obtain ⟨a33, ha33, h⟩ := h
        refine ro_val (d := (some 61)) rfl (.free rfl) rfl (q_indexAddrA (b := a3) (i := i_25) rfl Try.underlying52 ok31 rfl rfl ha33) ?_
        obtain ⟨x34, hx34, h⟩ := h
        refine ro_val (d := (some 62)) rfl (.free rfl) rfl (q_load (T := tSlc) (u := x34) (a := a33) rfl ok31 rfl hx34) ?_
        refine ro_val (d := (some 63)) rfl (.free rfl) rfl (q_move (v := .int .i64 (k_28)) rfl rfl) ?_
        obtain ⟨a35, ha35, h⟩ := h
        refine ro_val (d := (some 64)) rfl (.free rfl) rfl (q_indexAddr (s := x34) (i := k_28) rfl Try.underlying31 ok37 rfl rfl ha35) ?_
        refine ro_val (d := (some 65)) rfl (.free rfl) rfl (q_fieldAddr (a := a35) (off := 1) rfl Try.underlying37 rfl rfl ok2 (by decide) rfl) ?_
        obtain ⟨x36, hx36, h⟩ := h
        refine ro_val (d := (some 66)) rfl (.free rfl) rfl (q_load (T := (tInt .i64)) (u := x36) (a := (a35.add 1)) rfl ok2 rfl hx36) ?_
        refine ro_val (d := (some 67)) rfl (.free rfl) rfl (q_lss (a := x36) (b := (0 : Int)) rfl rfl rfl) ?_
        refine ro_val (d := (some 68)) rfl (.free rfl) rfl (q_move (v := .bool ((decide (x36 < (0 : Int))))) rfl rfl) ?_
        refine ro_gval (g := (!(decide (x36 < (0 : Int))))) (d := (some 69)) rfl (.no 8 68 true (decide (x36 < (0 : Int))) rfl rfl rfl rfl) rfl (fun hg => q_move (v := .int .i64 (i_25)) rfl rfl) ?_
        obtain ⟨a37, ha37, h⟩ := h
        refine ro_gval (g := (!(decide (x36 < (0 : Int))))) (d := (some 70)) rfl (.no 8 68 true (decide (x36 < (0 : Int))) rfl rfl rfl rfl) rfl (fun hg => q_indexAddrA (b := a3) (i := i_25) rfl Try.underlying52 ok31 rfl (gvb_yes hg) (ha37 hg)) ?_
        obtain ⟨x38, hx38, h⟩ := h
        refine ro_gval (g := (!(decide (x36 < (0 : Int))))) (d := (some 71)) rfl (.no 8 68 true (decide (x36 < (0 : Int))) rfl rfl rfl rfl) rfl (fun hg => q_load (T := tSlc) (u := x38) (a := a37) rfl ok31 (gvb_yes hg) (hx38 hg)) ?_
        refine ro_gval (g := (!(decide (x36 < (0 : Int))))) (d := (some 72)) rfl (.no 8 68 true (decide (x36 < (0 : Int))) rfl rfl rfl rfl) rfl (fun hg => q_move (v := .int .i64 (k_28)) rfl rfl) ?_
        obtain ⟨a39, ha39, h⟩ := h
        refine ro_gval (g := (!(decide (x36 < (0 : Int))))) (d := (some 73)) rfl (.no 8 68 true (decide (x36 < (0 : Int))) rfl rfl rfl rfl) rfl (fun hg => q_indexAddr (s := x38) (i := k_28) rfl Try.underlying31 ok37 (gvb_yes hg) (gvb_yes hg) (ha39 hg)) ?_
        refine ro_gval (g := (!(decide (x36 < (0 : Int))))) (d := (some 74)) rfl (.no 8 68 true (decide (x36 < (0 : Int))) rfl rfl rfl rfl) rfl (fun hg => q_fieldAddr (a := a39) (off := 1) rfl Try.underlying37 rfl rfl ok2 (by decide) (gvb_yes hg)) ?_
        obtain ⟨x40, hx40, h⟩ := h
        refine ro_gval (g := (!(decide (x36 < (0 : Int))))) (d := (some 75)) rfl (.no 8 68 true (decide (x36 < (0 : Int))) rfl rfl rfl rfl) rfl (fun hg => q_load (T := (tInt .i64)) (u := x40) (a := (a39.add 1)) rfl ok2 (gvb_yes hg) (hx40 hg)) ?_
        refine ro_gval (g := (!(decide (x36 < (0 : Int))))) (d := (some 76)) rfl (.no 8 68 true (decide (x36 < (0 : Int))) rfl rfl rfl rfl) rfl (fun hg => q_gtr (a := x40) (b := (4611686018427387904 : Int)) rfl (gvb_yes hg) rfl) ?_
        refine ro_val (d := (some 77)) rfl (.free rfl) rfl (q_pickGF (a := (decide (x36 < (0 : Int)))) (c := (decide (x40 > (4611686018427387904 : Int)))) rfl rfl rfl rfl) ?_
        refine ro_nil ?_
        refine wp_if (b := ((decide (x36 < (0 : Int))) || (decide (x40 > (4611686018427387904 : Int))))) rfl h (fun hb41 h => ?_) (fun hb41 h => ?_)
        · refine wp_seq ?_
          refine wp_text [0, 1] rfl ?_
          refine ro_val (d := (some 4)) rfl (.free rfl) rfl (q_assign (v := tSlc.enc ((⟨none, 0, 0⟩ : Slc))) rfl rfl) ?_
          refine ro_val (d := (some 5)) rfl (.free rfl) rfl (q_assign (v := .int .i64 ((183 : Int))) rfl rfl) ?_
          refine ro_nil ?_
          refine wp_ret ?_
          exact ret_ok rfl (.cons (.tmp (v := tSlc.enc ((⟨none, 0, 0⟩ : Slc))) rfl) (.cons (.tmp (v := .int .i64 ((183 : Int))) rfl) .nil)) ⟨((⟨none, 0, 0⟩ : Slc), (183 : Int)), rfl, h⟩
        · refine wp_skip ?_
          refine wp_text [0, 1, 2] rfl ?_
          refine ro_val (d := (some 58)) rfl (.free rfl) rfl (q_move (v := .int .i64 (k_28)) rfl rfl) ?_
          refine ro_val (d := (some 59)) rfl (.free rfl) rfl (q_add (a := k_28) (b := (1 : Int)) rfl rfl rfl) ?_
          refine ro_val (d := (some 10)) rfl (.free rfl) rfl (q_assign (v := .int .i64 ((IntKind.i64.wrap (k_28 + (1 : Int))))) rfl rfl) ?_
          refine ro_nil ?_
          exact ⟨((IntKind.i64.wrap (k_28 + (1 : Int)))), _, arr (upd_step (upd_step (upd_step (upd_step (upd_step rfl rfl) rfl) rfl) rfl) rfl), h⟩
      · refine wp_exit ?_
        refine wp_text [0, 1, 2] rfl ?_
        refine ro_val (d := (some 50)) rfl (.free rfl) rfl (q_move (v := .int .i64 (i_25)) rfl rfl) ?_
        refine ro_val (d := (some 51)) rfl (.free rfl) rfl (q_add (a := i_25) (b := (1 : Int)) rfl rfl rfl) ?_
        refine ro_val (d := (some 9)) rfl (.free rfl) rfl (q_assign (v := .int .i64 ((IntKind.i64.wrap (i_25 + (1 : Int))))) rfl rfl) ?_
        refine ro_nil ?_
        exact ⟨((IntKind.i64.wrap (i_25 + (1 : Int)))), _, arr (upd_step (upd_step (upd_step (upd_step rfl rfl) rfl) rfl) rfl), h⟩
    · refine wp_exit ?_
      refine wp_seq ?_
      refine wp_text [0, 1] rfl ?_
      obtain ⟨a43, w44, ha43, hw44, h⟩ := nwS_open h
      refine ro_val (d := (some 78)) rfl (.free rfl) rfl (q_row0 (T := T36) rfl Try.underlying31 ok37 inf37 ha43 hw44) ?_
      refine ro_val (d := (some 11)) rfl (.free rfl) rfl (q_assign (v := tSlc.enc ((⟨some a43, 0, 0⟩ : Slc))) rfl rfl) ?_
      refine ro_nil ?_
      refine wp_seq ?_
      refine wp_seq ?_
      refine wp_text [0] rfl ?_
      refine ro_val (d := (some 12)) rfl (.free rfl) rfl (q_assign (v := .int .i64 ((0 : Int))) rfl rfl) ?_
      refine ro_nil ?_
      refine wp_block ?_
      refine loop_at (σ := Slc × Int) (fr := fun g (s : Slc × Int) => upd (upd (upd (upd (g) 0 (tSlc.enc (a_1))) 1 (tSlc.enc (b_2))) 11 (tSlc.enc (s.1))) 12 (.int .i64 (s.2))) (s0 := ((⟨some a43, 0, 0⟩ : Slc), (0 : Int))) (upd_step (upd_step (upd_step (upd_step rfl rfl) rfl) rfl) rfl) h ?_
      rintro ⟨out_45, i_46⟩ g w47 K48 h
      unfold F18_l5 at h
      refine wp_seq ?_
      refine wp_seq ?_
      refine wp_text [0, 1, 2, 3] rfl ?_
      refine ro_val (d := (some 79)) rfl (.free rfl) rfl (q_move (v := .int .i64 (i_46)) rfl rfl) ?_
      refine ro_val (d := (some 80)) rfl (.free rfl) rfl (q_move (v := tSlc.enc (a_1)) rfl rfl) ?_
      refine ro_val (d := (some 81)) rfl (.free rfl) rfl (q_len (s := a_1) rfl Try.underlying31 rfl) ?_
      refine ro_val (d := (some 82)) rfl (.free rfl) rfl (q_lss (a := i_46) (b := (a_1.len : Int)) rfl rfl rfl) ?_
      refine ro_nil ?_
      refine wp_if (b := (decide (i_46 < (a_1.len : Int)))) rfl h (fun hb94 h => ?_) (fun hb94 h => ?_)
      · refine wp_skip ?_
        refine seq_join (σ := Slc) (J := fun (s : Slc) w => F18_j6 i_46 s w K48 R) (fr := fun g (s : Slc) => upd (upd (upd (upd (g) 0 (tSlc.enc (a_1))) 1 (tSlc.enc (b_2))) 12 (.int .i64 (i_46))) 11 (tSlc.enc (s))) ?_ ?_
        · rintro out_49 g w50 h
          unfold F18_j6 at h
          refine wp_text [0, 1, 2] rfl ?_
          refine ro_val (d := (some 83)) rfl (.free rfl) rfl (q_move (v := .int .i64 (i_46)) rfl rfl) ?_
          refine ro_val (d := (some 84)) rfl (.free rfl) rfl (q_add (a := i_46) (b := (1 : Int)) rfl rfl rfl) ?_
          refine ro_val (d := (some 12)) rfl (.free rfl) rfl (q_assign (v := .int .i64 ((IntKind.i64.wrap (i_46 + (1 : Int))))) rfl rfl) ?_
          refine ro_nil ?_
          exact ⟨(out_49, (IntKind.i64.wrap (i_46 + (1 : Int)))), _, arr (upd_step (upd_step (upd_step (upd_step rfl rfl) rfl) rfl) rfl), h⟩
        · refine wp_block ?_
          refine wp_seq ?_
          obtain ⟨w51, hw51, h⟩ := dr_open h
          refine wp_drawn 14 mixed rfl (by kernel_rfl) (by intro c a d v w h; cases d <;> exact h) hw51 (fun hD => ?_)
          refine rd_pure (i := 0) (d := (some 85)) hD (by kernel_rfl) (by kernel_rfl) rfl (.free rfl) rfl (fun _ => q_move (v := tSlc.enc (b_2)) rfl rfl) ?_
          refine rd_pure (i := 1) (d := (some 86)) hD (by kernel_rfl) (by kernel_rfl) rfl (.free rfl) rfl (fun _ => q_move (v := tSlc.enc (a_1)) rfl rfl) ?_
          refine rd_pure (i := 2) (d := (some 87)) hD (by kernel_rfl) (by kernel_rfl) rfl (.free rfl) rfl (fun _ => q_move (v := .int .i64 (i_46)) rfl rfl) ?_
          obtain ⟨a52, ha52, h⟩ := h
          refine rd_pure (i := 3) (d := (some 88)) hD (by kernel_rfl) (by kernel_rfl) rfl (.free rfl) rfl (fun _ => q_indexAddr (s := a_1) (i := i_46) rfl Try.underlying31 ok37 rfl rfl ha52) ?_
          refine rd_pure (i := 4) (d := (some 89)) hD (by kernel_rfl) (by kernel_rfl) rfl (.free rfl) rfl (fun _ => q_fieldAddr (a := a52) (off := 0) rfl Try.underlying37 rfl rfl ok3 (by decide) rfl) ?_
          refine rd_pure (i := 7) (d := (some 92)) hD (by kernel_rfl) (by kernel_rfl) rfl (.free rfl) rfl (fun _ => q_move (v := tSlc.enc (a_1)) rfl rfl) ?_
          refine rd_pure (i := 8) (d := (some 93)) hD (by kernel_rfl) (by kernel_rfl) rfl (.free rfl) rfl (fun _ => q_move (v := .int .i64 (i_46)) rfl rfl) ?_
          obtain ⟨a53, ha53, h⟩ := h
          refine rd_pure (i := 9) (d := (some 94)) hD (by kernel_rfl) (by kernel_rfl) rfl (.free rfl) rfl (fun _ => q_indexAddr (s := a_1) (i := i_46) rfl Try.underlying31 ok37 rfl rfl ha53) ?_
          refine rd_pure (i := 10) (d := (some 95)) hD (by kernel_rfl) (by kernel_rfl) rfl (.free rfl) rfl (fun _ => q_fieldAddr (a := a53) (off := 1) rfl Try.underlying37 rfl rfl ok2 (by decide) rfl) ?_
          obtain ⟨x54, hx54, h⟩ := h
          refine rd_read (i := 5) (d := (some 90)) (fun W => (RdAt (tInt .i64) (a52.add 0) W) x54) hD (by kernel_rfl) (by kernel_rfl) rfl (.free rfl) rfl (fun W hr => q_load (T := (tInt .i64)) (u := x54) (a := (a52.add 0)) rfl ok3 rfl hr) hx54 ?_
          obtain ⟨x55, hx55, h⟩ := h
          refine rd_read (i := 11) (d := (some 96)) (fun W => (RdAt (tInt .i64) (a53.add 1) W) x55) hD (by kernel_rfl) (by kernel_rfl) rfl (.free rfl) rfl (fun W hr => q_load (T := (tInt .i64)) (u := x55) (a := (a53.add 1)) rfl ok2 rfl hr) hx55 ?_
          refine rd_one (i := 6) (by kernel_rfl) ?_
          refine po_wp rfl (.free rfl) (wp_cl (d := (some 91)) rfl (q_call (k := 28) (l := [tSlc.enc (b_2), .int .i64 (x54)]) rfl ent28 rfl) h ?_)
          intro r57 w56 h
          obtain ⟨hk58, h⟩ := h
          refine ⟨(hk_keep (fun _ => hk58) (hk_wait (by kernel_rfl) hk_nil)), ?_⟩
          refine rd_pure (i := 12) (d := (some 97)) hD (by kernel_rfl) (by kernel_rfl) rfl (.free rfl) rfl (fun _ => q_sub (a := r57) (b := x55) rfl rfl rfl) ?_
          refine rd_pure (i := 13) (d := (some 13)) hD (by kernel_rfl) (by kernel_rfl) rfl (.free rfl) rfl (fun _ => q_assign (v := .int .i64 ((IntKind.i64.wrap (r57 - x55)))) rfl rfl) ?_
          refine rd_nil (by kernel_rfl) ?_
          refine wp_seq ?_
          refine wp_text [0, 1] rfl ?_
          refine ro_val (d := (some 98)) rfl (.free rfl) rfl (q_move (v := .int .i64 ((IntKind.i64.wrap (r57 - x55)))) rfl rfl) ?_
          refine ro_val (d := (some 99)) rfl (.free rfl) rfl (q_neq (a := (IntKind.i64.wrap (r57 - x55))) (b := (0 : Int)) rfl rfl rfl) ?_
          refine ro_nil ?_
          refine wp_if (b := ((IntKind.i64.wrap (r57 - x55)) != (0 : Int))) rfl h (fun hb65 h => ?_) (fun hb65 h => ?_)
          · refine wp_text [0, 1, 2, 3, 4, 5, 6, 7, 8, 9, 10] rfl ?_
            refine ro_val (d := (some 100)) rfl (.free rfl) rfl (q_move (v := tSlc.enc (out_45)) rfl rfl) ?_
            refine ro_val (d := (some 101)) rfl (.free rfl) rfl (q_move (v := tSlc.enc (a_1)) rfl rfl) ?_
            refine ro_val (d := (some 102)) rfl (.free rfl) rfl (q_move (v := .int .i64 (i_46)) rfl rfl) ?_
            obtain ⟨a59, ha59, h⟩ := h
            refine ro_val (d := (some 103)) rfl (.free rfl) rfl (q_indexAddr (s := a_1) (i := i_46) rfl Try.underlying31 ok37 rfl rfl ha59) ?_
            refine ro_val (d := (some 104)) rfl (.free rfl) rfl (q_fieldAddr (a := a59) (off := 0) rfl Try.underlying37 rfl rfl ok3 (by decide) rfl) ?_
            obtain ⟨x60, hx60, h⟩ := h
            refine ro_val (d := (some 105)) rfl (.free rfl) rfl (q_load (T := (tInt .i64)) (u := x60) (a := (a59.add 0)) rfl ok3 rfl hx60) ?_
            refine ro_val (d := (some 106)) rfl (.free rfl) rfl (q_move (v := .int .i64 ((IntKind.i64.wrap (r57 - x55)))) rfl rfl) ?_
            refine ro_val (d := (some 107)) rfl (.free rfl) rfl (q_build37_0_1 (v0 := x60) (v1 := (IntKind.i64.wrap (r57 - x55))) rfl rfl rfl) ?_
            obtain ⟨a61, w62, ha61, hw62, h⟩ := apl_open h
            refine ro_val (d := (some 108)) rfl (.free rfl) rfl (q_rowOf (T := T36) (xs := [(⟨x60, (IntKind.i64.wrap (r57 - x55))⟩ : S36)]) rfl Try.underlying31 ok37 inf37 rfl (by decide) (by decide) rfl ha61 hw62) ?_
            refine ro_wp rfl (.free rfl) (wp_append (d := (some 109)) (T := T36) rfl rfl Try.underlying31 ⟨_, Try.underlying31⟩ ok37 inf37 rfl rfl (Nat.lt_of_lt_of_le Nat.zero_lt_one (Nat.le_of_ble_eq_true rfl)) rfl rfl h ?_)
            intro r64 w63 h
            refine ro_val (d := (some 11)) rfl (.free rfl) rfl (q_assign (v := tSlc.enc (r64)) rfl rfl) ?_
            refine ro_nil ?_
            exact ⟨(r64), _, arr (upd_step (upd_step (upd_step (upd_step rfl rfl) rfl) rfl) rfl), h⟩
          · refine wp_skip ?_
            exact ⟨(out_45), _, arr (upd_step (upd_step (upd_step (upd_step rfl rfl) rfl) rfl) rfl), h⟩
      · refine wp_exit ?_
        refine wp_seq ?_
        refine wp_seq ?_
        refine wp_text [0] rfl ?_
        refine ro_val (d := (some 14)) rfl (.free rfl) rfl (q_assign (v := .int .i64 ((0 : Int))) rfl rfl) ?_
        refine ro_nil ?_
        refine wp_block ?_
        refine loop_at (σ := Slc × Int) (fr := fun g (s : Slc × Int) => upd (upd (upd (upd (g) 0 (tSlc.enc (a_1))) 1 (tSlc.enc (b_2))) 11 (tSlc.enc (s.1))) 14 (.int .i64 (s.2))) (s0 := (out_45, (0 : Int))) (upd_step (upd_step (upd_step (upd_step rfl rfl) rfl) rfl) rfl) h ?_
        rintro ⟨out_66, i_67⟩ g w68 K69 h
        unfold F18_l7 at h
        refine wp_seq ?_
        refine wp_seq ?_
        refine wp_text [0, 1, 2, 3] rfl ?_
        refine ro_val (d := (some 110)) rfl (.free rfl) rfl (q_move (v := .int .i64 (i_67)) rfl rfl) ?_
        refine ro_val (d := (some 111)) rfl (.free rfl) rfl (q_move (v := tSlc.enc (b_2)) rfl rfl) ?_
        refine ro_val (d := (some 112)) rfl (.free rfl) rfl (q_len (s := b_2) rfl Try.underlying31 rfl) ?_
        refine ro_val (d := (some 113)) rfl (.free rfl) rfl (q_lss (a := i_67) (b := (b_2.len : Int)) rfl rfl rfl) ?_
        refine ro_nil ?_
        refine wp_if (b := (decide (i_67 < (b_2.len : Int)))) rfl h (fun hb93 h => ?_) (fun hb93 h => ?_)
        · refine wp_skip ?_
          refine seq_join (σ := Slc) (J := fun (s : Slc) w => F18_j8 i_67 s w K69 R) (fr := fun g (s : Slc) => upd (upd (upd (upd (g) 0 (tSlc.enc (a_1))) 1 (tSlc.enc (b_2))) 14 (.int .i64 (i_67))) 11 (tSlc.enc (s))) ?_ ?_
          · rintro out_70 g w71 h
            unfold F18_j8 at h
            refine wp_text [0, 1, 2] rfl ?_
            refine ro_val (d := (some 114)) rfl (.free rfl) rfl (q_move (v := .int .i64 (i_67)) rfl rfl) ?_
            refine ro_val (d := (some 115)) rfl (.free rfl) rfl (q_add (a := i_67) (b := (1 : Int)) rfl rfl rfl) ?_
            refine ro_val (d := (some 14)) rfl (.free rfl) rfl (q_assign (v := .int .i64 ((IntKind.i64.wrap (i_67 + (1 : Int))))) rfl rfl) ?_
            refine ro_nil ?_
            exact ⟨(out_70, (IntKind.i64.wrap (i_67 + (1 : Int)))), _, arr (upd_step (upd_step (upd_step (upd_step rfl rfl) rfl) rfl) rfl), h⟩
          · refine wp_block ?_
            refine wp_seq ?_
            refine wp_text [0] rfl ?_
            refine ro_val (d := (some 15)) rfl (.free rfl) rfl (q_assign (v := .bool (false)) rfl rfl) ?_
            refine ro_nil ?_
            refine wp_seq ?_
            refine wp_seq ?_
            refine wp_text [0] rfl ?_
            refine ro_val (d := (some 16)) rfl (.free rfl) rfl (q_assign (v := .int .i64 ((0 : Int))) rfl rfl) ?_
            refine ro_nil ?_
            refine wp_block ?_
            refine loop_at (σ := Bool × Int) (fr := fun g (s : Bool × Int) => upd (upd (upd (upd (upd (upd (g) 0 (tSlc.enc (a_1))) 1 (tSlc.enc (b_2))) 11 (tSlc.enc (out_66))) 14 (.int .i64 (i_67))) 15 (.bool (s.1))) 16 (.int .i64 (s.2))) (s0 := (false, (0 : Int))) (upd_step (upd_step (upd_step (upd_step (upd_step (upd_step rfl rfl) rfl) rfl) rfl) rfl) rfl) h ?_
            rintro ⟨there_72, k_73⟩ g w74 K75 h
            unfold F18_l9 at h
            refine wp_seq ?_
            refine wp_seq ?_
            refine wp_text [0, 1, 2, 3] rfl ?_
            refine ro_val (d := (some 116)) rfl (.free rfl) rfl (q_move (v := .int .i64 (k_73)) rfl rfl) ?_
            refine ro_val (d := (some 117)) rfl (.free rfl) rfl (q_move (v := tSlc.enc (a_1)) rfl rfl) ?_
            refine ro_val (d := (some 118)) rfl (.free rfl) rfl (q_len (s := a_1) rfl Try.underlying31 rfl) ?_
            refine ro_val (d := (some 119)) rfl (.free rfl) rfl (q_lss (a := k_73) (b := (a_1.len : Int)) rfl rfl rfl) ?_
            refine ro_nil ?_
            refine wp_if (b := (decide (k_73 < (a_1.len : Int)))) rfl h (fun hb90 h => ?_) (fun hb90 h => ?_)
            · refine wp_skip ?_
              refine wp_seq ?_
              refine wp_block ?_
              obtain ⟨w76, hw76, h⟩ := dr_open h
              refine wp_drawn 15 mixed rfl (by kernel_rfl) (by intro c a d v w h; cases d <;> exact h) hw76 (fun hD => ?_)
              refine rd_pure (i := 0) (d := (some 122)) hD (by kernel_rfl) (by kernel_rfl) rfl (.free rfl) rfl (fun _ => q_move (v := .bool (there_72)) rfl rfl) ?_
              refine rd_pure (i := 1) (d := (some 123)) hD (by kernel_rfl) (by kernel_rfl) rfl (.free rfl) rfl (fun _ => q_move (v := .bool (there_72)) rfl rfl) ?_
              refine rd_gpure (i := 2) (g := (!there_72)) (d := (some 124)) hD (by kernel_rfl) (by kernel_rfl) rfl (.no 1 123 true there_72 rfl rfl rfl rfl) rfl (fun hg _ => q_move (v := tSlc.enc (a_1)) rfl rfl) ?_
              refine rd_gpure (i := 3) (g := (!there_72)) (d := (some 125)) hD (by kernel_rfl) (by kernel_rfl) rfl (.no 1 123 true there_72 rfl rfl rfl rfl) rfl (fun hg _ => q_move (v := .int .i64 (k_73)) rfl rfl) ?_
              obtain ⟨a77, ha77, h⟩ := h
              refine rd_gpure (i := 4) (g := (!there_72)) (d := (some 126)) hD (by kernel_rfl) (by kernel_rfl) rfl (.no 1 123 true there_72 rfl rfl rfl rfl) rfl (fun hg _ => q_indexAddr (s := a_1) (i := k_73) rfl Try.underlying31 ok37 (gvb_yes hg) (gvb_yes hg) (ha77 hg)) ?_
              refine rd_gpure (i := 5) (g := (!there_72)) (d := (some 127)) hD (by kernel_rfl) (by kernel_rfl) rfl (.no 1 123 true there_72 rfl rfl rfl rfl) rfl (fun hg _ => q_fieldAddr (a := a77) (off := 0) rfl Try.underlying37 rfl rfl ok3 (by decide) (gvb_yes hg)) ?_
              refine rd_gpure (i := 7) (g := (!there_72)) (d := (some 129)) hD (by kernel_rfl) (by kernel_rfl) rfl (.no 1 123 true there_72 rfl rfl rfl rfl) rfl (fun hg _ => q_move (v := tSlc.enc (b_2)) rfl rfl) ?_
              refine rd_gpure (i := 8) (g := (!there_72)) (d := (some 130)) hD (by kernel_rfl) (by kernel_rfl) rfl (.no 1 123 true there_72 rfl rfl rfl rfl) rfl (fun hg _ => q_move (v := .int .i64 (i_67)) rfl rfl) ?_
              obtain ⟨a78, ha78, h⟩ := h
              refine rd_gpure (i := 9) (g := (!there_72)) (d := (some 131)) hD (by kernel_rfl) (by kernel_rfl) rfl (.no 1 123 true there_72 rfl rfl rfl rfl) rfl (fun hg _ => q_indexAddr (s := b_2) (i := i_67) rfl Try.underlying31 ok37 (gvb_yes hg) (gvb_yes hg) (ha78 hg)) ?_
              refine rd_gpure (i := 10) (g := (!there_72)) (d := (some 132)) hD (by kernel_rfl) (by kernel_rfl) rfl (.no 1 123 true there_72 rfl rfl rfl rfl) rfl (fun hg _ => q_fieldAddr (a := a78) (off := 0) rfl Try.underlying37 rfl rfl ok3 (by decide) (gvb_yes hg)) ?_
              obtain ⟨x79, hx79, h⟩ := h
              refine rd_gread (i := 6) (g := (!there_72)) (d := (some 128)) (fun W => (RdAt (tInt .i64) (a77.add 0) W) x79) hD (by kernel_rfl) (by kernel_rfl) rfl (.no 1 123 true there_72 rfl rfl rfl rfl) rfl (fun hg W hr => q_load (T := (tInt .i64)) (u := x79) (a := (a77.add 0)) rfl ok3 (gvb_yes hg) hr) hx79 ?_
              obtain ⟨x80, hx80, h⟩ := h
              refine rd_gread (i := 11) (g := (!there_72)) (d := (some 133)) (fun W => (RdAt (tInt .i64) (a78.add 0) W) x80) hD (by kernel_rfl) (by kernel_rfl) rfl (.no 1 123 true there_72 rfl rfl rfl rfl) rfl (fun hg W hr => q_load (T := (tInt .i64)) (u := x80) (a := (a78.add 0)) rfl ok3 (gvb_yes hg) hr) hx80 ?_
              refine rd_gpure (i := 12) (g := (!there_72)) (d := (some 134)) hD (by kernel_rfl) (by kernel_rfl) rfl (.no 1 123 true there_72 rfl rfl rfl rfl) rfl (fun hg _ => q_eql (a := x79) (b := x80) rfl (gvb_yes hg) (gvb_yes hg)) ?_
              refine rd_pure (i := 13) (d := (some 135)) hD (by kernel_rfl) (by kernel_rfl) rfl (.free rfl) rfl (fun _ => q_pickGF (a := there_72) (c := (x79 == x80)) rfl rfl rfl rfl) ?_
              refine rd_pure (i := 14) (d := (some 15)) hD (by kernel_rfl) (by kernel_rfl) rfl (.free rfl) rfl (fun _ => q_assign (v := .bool ((there_72 || (x79 == x80)))) rfl rfl) ?_
              refine rd_nil (by kernel_rfl) ?_
              refine wp_text [0, 1, 2] rfl ?_
              refine ro_val (d := (some 120)) rfl (.free rfl) rfl (q_move (v := .int .i64 (k_73)) rfl rfl) ?_
              refine ro_val (d := (some 121)) rfl (.free rfl) rfl (q_add (a := k_73) (b := (1 : Int)) rfl rfl rfl) ?_
              refine ro_val (d := (some 16)) rfl (.free rfl) rfl (q_assign (v := .int .i64 ((IntKind.i64.wrap (k_73 + (1 : Int))))) rfl rfl) ?_
              refine ro_nil ?_
              exact ⟨((there_72 || (x79 == x80)), (IntKind.i64.wrap (k_73 + (1 : Int)))), _, arr (upd_step (upd_step (upd_step (upd_step (upd_step (upd_step rfl rfl) rfl) rfl) rfl) rfl) rfl), h⟩
            · refine wp_exit ?_
              refine wp_seq ?_
              refine wp_text [0, 1, 2, 3, 4, 5, 6, 7, 8, 9] rfl ?_
              refine ro_val (d := (some 136)) rfl (.free rfl) rfl (q_move (v := .bool (there_72)) rfl rfl) ?_
              refine ro_val (d := (some 137)) rfl (.free rfl) rfl (q_not (b := there_72) rfl rfl) ?_
              refine ro_val (d := (some 138)) rfl (.free rfl) rfl (q_move (v := .bool ((!there_72))) rfl rfl) ?_
              refine ro_gval (g := (!there_72)) (d := (some 139)) rfl (.yes 2 138 true (!there_72) rfl rfl rfl rfl) rfl (fun hg => q_move (v := tSlc.enc (b_2)) rfl rfl) ?_
              refine ro_gval (g := (!there_72)) (d := (some 140)) rfl (.yes 2 138 true (!there_72) rfl rfl rfl rfl) rfl (fun hg => q_move (v := .int .i64 (i_67)) rfl rfl) ?_
              obtain ⟨a81, ha81, h⟩ := h
              refine ro_gval (g := (!there_72)) (d := (some 141)) rfl (.yes 2 138 true (!there_72) rfl rfl rfl rfl) rfl (fun hg => q_indexAddr (s := b_2) (i := i_67) rfl Try.underlying31 ok37 (gvb_yes hg) (gvb_yes hg) (ha81 hg)) ?_
              refine ro_gval (g := (!there_72)) (d := (some 142)) rfl (.yes 2 138 true (!there_72) rfl rfl rfl rfl) rfl (fun hg => q_fieldAddr (a := a81) (off := 1) rfl Try.underlying37 rfl rfl ok2 (by decide) (gvb_yes hg)) ?_
              obtain ⟨x82, hx82, h⟩ := h
              refine ro_gval (g := (!there_72)) (d := (some 143)) rfl (.yes 2 138 true (!there_72) rfl rfl rfl rfl) rfl (fun hg => q_load (T := (tInt .i64)) (u := x82) (a := (a81.add 1)) rfl ok2 (gvb_yes hg) (hx82 hg)) ?_
              refine ro_gval (g := (!there_72)) (d := (some 144)) rfl (.yes 2 138 true (!there_72) rfl rfl rfl rfl) rfl (fun hg => q_neq (a := x82) (b := (0 : Int)) rfl (gvb_yes hg) rfl) ?_
              refine ro_val (d := (some 145)) rfl (.free rfl) rfl (q_pickGT (a := (!there_72)) (b := (x82 != (0 : Int))) rfl rfl rfl rfl) ?_
              refine ro_nil ?_
              refine wp_if (b := ((!there_72) && (x82 != (0 : Int)))) rfl h (fun hb89 h => ?_) (fun hb89 h => ?_)
              · refine wp_text [0, 1, 2, 3, 4, 5, 6, 7] rfl ?_
                refine ro_val (d := (some 146)) rfl (.free rfl) rfl (q_move (v := tSlc.enc (out_66)) rfl rfl) ?_
                refine ro_val (d := (some 147)) rfl (.free rfl) rfl (q_move (v := tSlc.enc (b_2)) rfl rfl) ?_
                refine ro_val (d := (some 148)) rfl (.free rfl) rfl (q_move (v := .int .i64 (i_67)) rfl rfl) ?_
                obtain ⟨a83, ha83, h⟩ := h
                refine ro_val (d := (some 149)) rfl (.free rfl) rfl (q_indexAddr (s := b_2) (i := i_67) rfl Try.underlying31 ok37 rfl rfl ha83) ?_
                obtain ⟨x84, hx84, h⟩ := h
                refine ro_val (d := (some 150)) rfl (.free rfl) rfl (q_load (T := T36) (u := x84) (a := a83) rfl ok37 rfl hx84) ?_
                obtain ⟨a85, w86, ha85, hw86, h⟩ := apl_open h
                refine ro_val (d := (some 151)) rfl (.free rfl) rfl (q_rowOf (T := T36) (xs := [x84]) rfl Try.underlying31 ok37 inf37 rfl (by decide) (by decide) rfl ha85 hw86) ?_
                refine ro_wp rfl (.free rfl) (wp_append (d := (some 152)) (T := T36) rfl rfl Try.underlying31 ⟨_, Try.underlying31⟩ ok37 inf37 rfl rfl (Nat.lt_of_lt_of_le Nat.zero_lt_one (Nat.le_of_ble_eq_true rfl)) rfl rfl h ?_)
                intro r88 w87 h
                refine ro_val (d := (some 11)) rfl (.free rfl) rfl (q_assign (v := tSlc.enc (r88)) rfl rfl) ?_
                refine ro_nil ?_
                exact ⟨(r88), _, arr (upd_step (upd_step (upd_step (upd_step rfl rfl) rfl) rfl) rfl), h⟩
              · refine wp_skip ?_
                exact ⟨(out_66), _, arr (upd_step (upd_step (upd_step (upd_step rfl rfl) rfl) rfl) rfl), h⟩
        · refine wp_exit ?_
          refine wp_seq ?_
          refine wp_text [0, 1, 2, 3] rfl ?_
          refine ro_val (d := (some 153)) rfl (.free rfl) rfl (q_move (v := tSlc.enc (out_66)) rfl rfl) ?_
          refine ro_wp rfl (.free rfl) (wp_cl (d := (some 154)) rfl (q_call (k := 23) (l := [tSlc.enc (out_66)]) rfl ent23 rfl) h ?_)
          intro r92 w91 h
          refine ro_val (d := (some 4)) rfl (.free rfl) rfl (q_assign (v := tSlc.enc (r92)) rfl rfl) ?_
          refine ro_val (d := (some 5)) rfl (.free rfl) rfl (q_assign (v := .int .i64 ((0 : Int))) rfl rfl) ?_
          refine ro_nil ?_
          refine wp_ret ?_
          exact ret_ok rfl (.cons (.tmp (v := tSlc.enc (r92)) rfl) (.cons (.tmp (v := .int .i64 ((0 : Int))) rfl) .nil)) ⟨(r92, (0 : Int)), rfl, h⟩

end Go.Proofs.Ytleehieomicicaa.Cf
