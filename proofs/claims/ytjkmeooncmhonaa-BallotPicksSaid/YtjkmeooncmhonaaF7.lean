/- Characteristic formulae of Go functions, and that they are. Printed by gen.py (own tool). -/
import Derived.Test.YtjkmeooncmhonaaTy
namespace Go.Proofs.Ytjkmeooncmhonaa.Cf
open Go
set_option maxRecDepth 100000
set_option maxHeartbeats 1000000
set_option linter.unusedVariables false
set_option linter.unusedSimpArgs false

-- moiety/wire.plain
def F65 (v_1 : S90) (w : World) (R : Bool → World → Prop) : Prop :=
  nw 91 T90 v_1 w fun a2 w3 =>
  dr w3 fun w4 =>
  ex (RdAt (tInt .u64) (a2.add 1) w4) fun x5 =>
  ex (RdAt (tInt .i64) (a2.add 2) w4) fun x6 =>
  ex (RdAt tFlt (a2.add 3) w4) fun x7 =>
  ex (RdAt tStr (a2.add 4) w4) fun x8 =>
  ex (RdAt (tInt .i64) (a2.add 0) w4) fun x9 =>
  if (x9 == (1 : Int)) = true then (
    R (((x6 == (0 : Int)) && ((x7 : Int) == (0 : Int))) && (x8 == ([] : List UInt8))) w4
  ) else (
    if (x9 == (2 : Int)) = true then (
      R (((x5 == (0 : Int)) && ((x7 : Int) == (0 : Int))) && (x8 == ([] : List UInt8))) w4
    ) else (
      if (x9 == (3 : Int)) = true then (
        R (((x5 == (0 : Int)) && (x6 == (0 : Int))) && (x8 == ([] : List UInt8))) w4
      ) else (
        if (x9 == (4 : Int)) = true then (
          R (((x5 == (0 : Int)) && (x6 == (0 : Int))) && ((x7 : Int) == (0 : Int))) w4
        ) else (
          R false w4
        )
      )
    )
  )
theorem F65_ok {v_1 : S90} {w : World} {R : Bool → World → Prop} (h : F65 v_1 w R) : cl Try.prog 65 [T90.enc (v_1)] tBool w R := by
  unfold F65 at h
  refine calls_start 58 Try.func65 rfl rfl (Nat.le_of_ble_eq_true rfl) ?_
  refine wp_seq ?_
  refine wp_text [0, 1] rfl ?_
  obtain ⟨a2, w3, ha2, hw3, h⟩ := nw_open h
  refine rv 1 rfl rfl rfl (q_box (u := v_1) rfl ok91 rfl ha2 hw3) ?_
  refine rv 2 rfl rfl rfl (q_assign (v := .bool (false)) rfl rfl) ?_
  refine ro_nil ?_
  refine wp_seq ?_
  obtain ⟨w4, hw4, h⟩ := dr_open h
  refine wp_drawn 17 mixed rfl (by kernel_rfl) (by intro c a d v w h; cases d <;> exact h) hw4 (fun hD => ?_)
  refine rp 0 7 hD rfl rfl rfl (fun _ => q_fieldAddr (a := a2) (off := 1) rfl Try.underlying91 rfl rfl ok88 (by decide) rfl) ?_
  refine rp 3 10 hD rfl rfl rfl (fun _ => q_fieldAddr (a := a2) (off := 2) rfl Try.underlying91 rfl rfl ok2 (by decide) rfl) ?_
  refine rp 6 13 hD rfl rfl rfl (fun _ => q_fieldAddr (a := a2) (off := 3) rfl Try.underlying91 rfl rfl ok89 (by decide) rfl) ?_
  refine rp 10 17 hD rfl rfl rfl (fun _ => q_fieldAddr (a := a2) (off := 4) rfl Try.underlying91 rfl rfl ok9 (by decide) rfl) ?_
  obtain ⟨x5, hx5, h⟩ := h
  refine rd_read (i := 1) (d := (some 8)) (fun W => (RdAt (tInt .u64) (a2.add 1) W) x5) hD (by kernel_rfl) (by kernel_rfl) rfl (.free rfl) rfl (fun W hr => q_load (T := (tInt .u64)) (u := x5) (a := (a2.add 1)) rfl ok88 rfl hr) hx5 ?_
  refine rp 2 9 hD rfl rfl rfl (fun _ => q_eql (a := x5) (b := (0 : Int)) rfl rfl rfl) ?_
  obtain ⟨x6, hx6, h⟩ := h
  refine rd_read (i := 4) (d := (some 11)) (fun W => (RdAt (tInt .i64) (a2.add 2) W) x6) hD (by kernel_rfl) (by kernel_rfl) rfl (.free rfl) rfl (fun W hr => q_load (T := (tInt .i64)) (u := x6) (a := (a2.add 2)) rfl ok2 rfl hr) hx6 ?_
  refine rp 5 12 hD rfl rfl rfl (fun _ => q_eql (a := x6) (b := (0 : Int)) rfl rfl rfl) ?_
  obtain ⟨x7, hx7, h⟩ := h
  refine rd_read (i := 7) (d := (some 14)) (fun W => (RdAt tFlt (a2.add 3) W) x7) hD (by kernel_rfl) (by kernel_rfl) rfl (.free rfl) rfl (fun W hr => q_load (T := tFlt) (u := x7) (a := (a2.add 3)) rfl ok89 rfl hr) hx7 ?_
  refine rp 8 15 hD rfl rfl rfl (fun _ => q_f64bits (b := x7) rfl ext83 rfl) ?_
  refine rp 9 16 hD rfl rfl rfl (fun _ => q_eql (a := (x7 : Int)) (b := (0 : Int)) rfl rfl rfl) ?_
  refine rp 13 3 hD rfl rfl rfl (fun _ => q_assign (v := .bool ((x5 == (0 : Int)))) rfl rfl) ?_
  refine rp 14 4 hD rfl rfl rfl (fun _ => q_assign (v := .bool ((x6 == (0 : Int)))) rfl rfl) ?_
  refine rp 15 5 hD rfl rfl rfl (fun _ => q_assign (v := .bool (((x7 : Int) == (0 : Int)))) rfl rfl) ?_
  obtain ⟨x8, hx8, h⟩ := h
  refine rd_read (i := 11) (d := (some 18)) (fun W => (RdAt tStr (a2.add 4) W) x8) hD (by kernel_rfl) (by kernel_rfl) rfl (.free rfl) rfl (fun W hr => q_load (T := tStr) (u := x8) (a := (a2.add 4)) rfl ok9 rfl hr) hx8 ?_
  refine rp 12 19 hD rfl rfl rfl (fun _ => q_eqS (a := x8) (b := ([] : List UInt8)) rfl rfl rfl) ?_
  refine rp 16 6 hD rfl rfl rfl (fun _ => q_assign (v := .bool ((x8 == ([] : List UInt8)))) rfl rfl) ?_
  refine rd_nil (by kernel_rfl) ?_
  refine wp_seq ?_
  refine wp_seq ?_
  refine wp_text [0, 1] rfl ?_
  refine rv 20 rfl rfl rfl (q_fieldAddr (a := a2) (off := 0) rfl Try.underlying91 rfl rfl ok87 (by decide) rfl) ?_
  obtain ⟨x9, hx9, h⟩ := h
  refine rv 21 rfl rfl rfl (q_load (T := (tInt .i64)) (u := x9) (a := (a2.add 0)) rfl ok87 rfl hx9) ?_
  refine ro_nil ?_
  refine wp_block ?_
  refine wp_seq ?_
  refine wp_text [0, 1] rfl ?_
  refine rv 23 rfl rfl rfl (q_eql (a := x9) (b := (1 : Int)) rfl rfl rfl) ?_
  refine rv 22 rfl rfl rfl (q_assign (v := .bool ((x9 == (1 : Int)))) rfl rfl) ?_
  refine ro_nil ?_
  refine wp_if (b := (x9 == (1 : Int))) rfl h (fun hb13 h => ?_) (fun hb13 h => ?_)
  · refine wp_seq ?_
    refine wp_text [0, 1, 2, 3, 4, 5, 6, 7] rfl ?_
    refine rv 24 rfl rfl rfl (q_move (v := .bool ((x6 == (0 : Int)))) rfl rfl) ?_
    refine rv 25 rfl rfl rfl (q_move (v := .bool ((x6 == (0 : Int)))) rfl rfl) ?_
    refine ro_gval (g := (x6 == (0 : Int))) (d := (some 26)) rfl (.yes 1 25 true (x6 == (0 : Int)) rfl rfl rfl rfl) rfl (fun hg => q_move (v := .bool (((x7 : Int) == (0 : Int)))) rfl rfl) ?_
    refine rv 27 rfl rfl rfl (q_pickGT (a := (x6 == (0 : Int))) (b := ((x7 : Int) == (0 : Int))) rfl rfl rfl rfl) ?_
    refine rv 28 rfl rfl rfl (q_move (v := .bool (((x6 == (0 : Int)) && ((x7 : Int) == (0 : Int))))) rfl rfl) ?_
    refine ro_gval (g := ((x6 == (0 : Int)) && ((x7 : Int) == (0 : Int)))) (d := (some 29)) rfl (.yes 4 28 true ((x6 == (0 : Int)) && ((x7 : Int) == (0 : Int))) rfl rfl rfl rfl) rfl (fun hg => q_move (v := .bool ((x8 == ([] : List UInt8)))) rfl rfl) ?_
    refine rv 30 rfl rfl rfl (q_pickGT (a := ((x6 == (0 : Int)) && ((x7 : Int) == (0 : Int)))) (b := (x8 == ([] : List UInt8))) rfl rfl rfl rfl) ?_
    refine rv 2 rfl rfl rfl (q_assign (v := .bool ((((x6 == (0 : Int)) && ((x7 : Int) == (0 : Int))) && (x8 == ([] : List UInt8))))) rfl rfl) ?_
    refine ro_nil ?_
    refine wp_ret ?_
    exact ret_ok rfl (.cons (.tmp (v := .bool ((((x6 == (0 : Int)) && ((x7 : Int) == (0 : Int))) && (x8 == ([] : List UInt8))))) rfl) .nil) ⟨(((x6 == (0 : Int)) && ((x7 : Int) == (0 : Int))) && (x8 == ([] : List UInt8))), rfl, h⟩
  · refine wp_seq ?_
    refine wp_text [0, 1] rfl ?_
    refine rv 32 rfl rfl rfl (q_eql (a := x9) (b := (2 : Int)) rfl rfl rfl) ?_
    refine rv 31 rfl rfl rfl (q_assign (v := .bool ((x9 == (2 : Int)))) rfl rfl) ?_
    refine ro_nil ?_
    refine wp_if (b := (x9 == (2 : Int))) rfl h (fun hb12 h => ?_) (fun hb12 h => ?_)
    · refine wp_seq ?_
      refine wp_text [0, 1, 2, 3, 4, 5, 6, 7] rfl ?_
      refine rv 33 rfl rfl rfl (q_move (v := .bool ((x5 == (0 : Int)))) rfl rfl) ?_
      refine rv 34 rfl rfl rfl (q_move (v := .bool ((x5 == (0 : Int)))) rfl rfl) ?_
      refine ro_gval (g := (x5 == (0 : Int))) (d := (some 35)) rfl (.yes 1 34 true (x5 == (0 : Int)) rfl rfl rfl rfl) rfl (fun hg => q_move (v := .bool (((x7 : Int) == (0 : Int)))) rfl rfl) ?_
      refine rv 36 rfl rfl rfl (q_pickGT (a := (x5 == (0 : Int))) (b := ((x7 : Int) == (0 : Int))) rfl rfl rfl rfl) ?_
      refine rv 37 rfl rfl rfl (q_move (v := .bool (((x5 == (0 : Int)) && ((x7 : Int) == (0 : Int))))) rfl rfl) ?_
      refine ro_gval (g := ((x5 == (0 : Int)) && ((x7 : Int) == (0 : Int)))) (d := (some 38)) rfl (.yes 4 37 true ((x5 == (0 : Int)) && ((x7 : Int) == (0 : Int))) rfl rfl rfl rfl) rfl (fun hg => q_move (v := .bool ((x8 == ([] : List UInt8)))) rfl rfl) ?_
      refine rv 39 rfl rfl rfl (q_pickGT (a := ((x5 == (0 : Int)) && ((x7 : Int) == (0 : Int)))) (b := (x8 == ([] : List UInt8))) rfl rfl rfl rfl) ?_
      refine rv 2 rfl rfl rfl (q_assign (v := .bool ((((x5 == (0 : Int)) && ((x7 : Int) == (0 : Int))) && (x8 == ([] : List UInt8))))) rfl rfl) ?_
      refine ro_nil ?_
      refine wp_ret ?_
      exact ret_ok rfl (.cons (.tmp (v := .bool ((((x5 == (0 : Int)) && ((x7 : Int) == (0 : Int))) && (x8 == ([] : List UInt8))))) rfl) .nil) ⟨(((x5 == (0 : Int)) && ((x7 : Int) == (0 : Int))) && (x8 == ([] : List UInt8))), rfl, h⟩
    · refine wp_seq ?_
      refine wp_text [0, 1] rfl ?_
      refine rv 41 rfl rfl rfl (q_eql (a := x9) (b := (3 : Int)) rfl rfl rfl) ?_
      refine rv 40 rfl rfl rfl (q_assign (v := .bool ((x9 == (3 : Int)))) rfl rfl) ?_
      refine ro_nil ?_
      refine wp_if (b := (x9 == (3 : Int))) rfl h (fun hb11 h => ?_) (fun hb11 h => ?_)
      · refine wp_seq ?_
        refine wp_text [0, 1, 2, 3, 4, 5, 6, 7] rfl ?_
        refine rv 42 rfl rfl rfl (q_move (v := .bool ((x5 == (0 : Int)))) rfl rfl) ?_
        refine rv 43 rfl rfl rfl (q_move (v := .bool ((x5 == (0 : Int)))) rfl rfl) ?_
        refine ro_gval (g := (x5 == (0 : Int))) (d := (some 44)) rfl (.yes 1 43 true (x5 == (0 : Int)) rfl rfl rfl rfl) rfl (fun hg => q_move (v := .bool ((x6 == (0 : Int)))) rfl rfl) ?_
        refine rv 45 rfl rfl rfl (q_pickGT (a := (x5 == (0 : Int))) (b := (x6 == (0 : Int))) rfl rfl rfl rfl) ?_
        refine rv 46 rfl rfl rfl (q_move (v := .bool (((x5 == (0 : Int)) && (x6 == (0 : Int))))) rfl rfl) ?_
        refine ro_gval (g := ((x5 == (0 : Int)) && (x6 == (0 : Int)))) (d := (some 47)) rfl (.yes 4 46 true ((x5 == (0 : Int)) && (x6 == (0 : Int))) rfl rfl rfl rfl) rfl (fun hg => q_move (v := .bool ((x8 == ([] : List UInt8)))) rfl rfl) ?_
        refine rv 48 rfl rfl rfl (q_pickGT (a := ((x5 == (0 : Int)) && (x6 == (0 : Int)))) (b := (x8 == ([] : List UInt8))) rfl rfl rfl rfl) ?_
        refine rv 2 rfl rfl rfl (q_assign (v := .bool ((((x5 == (0 : Int)) && (x6 == (0 : Int))) && (x8 == ([] : List UInt8))))) rfl rfl) ?_
        refine ro_nil ?_
        refine wp_ret ?_
        exact ret_ok rfl (.cons (.tmp (v := .bool ((((x5 == (0 : Int)) && (x6 == (0 : Int))) && (x8 == ([] : List UInt8))))) rfl) .nil) ⟨(((x5 == (0 : Int)) && (x6 == (0 : Int))) && (x8 == ([] : List UInt8))), rfl, h⟩
      · refine wp_seq ?_
        refine wp_text [0, 1] rfl ?_
        refine rv 50 rfl rfl rfl (q_eql (a := x9) (b := (4 : Int)) rfl rfl rfl) ?_
        refine rv 49 rfl rfl rfl (q_assign (v := .bool ((x9 == (4 : Int)))) rfl rfl) ?_
        refine ro_nil ?_
        refine wp_if (b := (x9 == (4 : Int))) rfl h (fun hb10 h => ?_) (fun hb10 h => ?_)
        · refine wp_seq ?_
          refine wp_text [0, 1, 2, 3, 4, 5, 6, 7] rfl ?_
          refine rv 51 rfl rfl rfl (q_move (v := .bool ((x5 == (0 : Int)))) rfl rfl) ?_
          refine rv 52 rfl rfl rfl (q_move (v := .bool ((x5 == (0 : Int)))) rfl rfl) ?_
          refine ro_gval (g := (x5 == (0 : Int))) (d := (some 53)) rfl (.yes 1 52 true (x5 == (0 : Int)) rfl rfl rfl rfl) rfl (fun hg => q_move (v := .bool ((x6 == (0 : Int)))) rfl rfl) ?_
          refine rv 54 rfl rfl rfl (q_pickGT (a := (x5 == (0 : Int))) (b := (x6 == (0 : Int))) rfl rfl rfl rfl) ?_
          refine rv 55 rfl rfl rfl (q_move (v := .bool (((x5 == (0 : Int)) && (x6 == (0 : Int))))) rfl rfl) ?_
          refine ro_gval (g := ((x5 == (0 : Int)) && (x6 == (0 : Int)))) (d := (some 56)) rfl (.yes 4 55 true ((x5 == (0 : Int)) && (x6 == (0 : Int))) rfl rfl rfl rfl) rfl (fun hg => q_move (v := .bool (((x7 : Int) == (0 : Int)))) rfl rfl) ?_
          refine rv 57 rfl rfl rfl (q_pickGT (a := ((x5 == (0 : Int)) && (x6 == (0 : Int)))) (b := ((x7 : Int) == (0 : Int))) rfl rfl rfl rfl) ?_
          refine rv 2 rfl rfl rfl (q_assign (v := .bool ((((x5 == (0 : Int)) && (x6 == (0 : Int))) && ((x7 : Int) == (0 : Int))))) rfl rfl) ?_
          refine ro_nil ?_
          refine wp_ret ?_
          exact ret_ok rfl (.cons (.tmp (v := .bool ((((x5 == (0 : Int)) && (x6 == (0 : Int))) && ((x7 : Int) == (0 : Int))))) rfl) .nil) ⟨(((x5 == (0 : Int)) && (x6 == (0 : Int))) && ((x7 : Int) == (0 : Int))), rfl, h⟩
        · refine wp_skip ?_
          refine wp_seq ?_
          refine wp_text [0] rfl ?_
          refine rv 2 rfl rfl rfl (q_assign (v := .bool (false)) rfl rfl) ?_
          refine ro_nil ?_
          refine wp_ret ?_
          exact ret_ok rfl (.cons (.tmp (v := .bool (false)) rfl) .nil) ⟨false, rfl, h⟩

-- moiety/wire.number
def F66_l1 (b_3 : Slc) (n_4 : Int) (w5 : World) (K6 : Slc × Int → World → Prop) (R : Slc → World → Prop) : Prop :=
  if (decide (n_4 ≥ (128 : Int))) = true then (
    apl 5 (tInt .u8) 1 1 b_3 [(bits .or .u8 (IntKind.u8.wrap n_4) (128 : Int))] w5 fun r10 w9 =>
    ex (Shift (7 : Int) (Int.fdiv n_4 (2 ^ (min ((7 : Int)).toNat IntKind.u64.bits)))) fun d11 =>
    K6 (r10, d11) w9
  ) else (
    apl 5 (tInt .u8) 1 1 b_3 [(IntKind.u8.wrap n_4)] w5 fun r15 w14 =>
    R r15 w14
  )
def F66 (b_1 : Slc) (n_2 : Int) (w : World) (R : Slc → World → Prop) : Prop :=
  lp (fun (s : Slc × Int) w K => F66_l1 s.1 s.2 w K R) (b_1, n_2) w
theorem F66_ok {b_1 : Slc} {n_2 : Int} {w : World} {R : Slc → World → Prop} (h : F66 b_1 n_2 w R) : cl Try.prog 66 [tSlc.enc (b_1), .int .u64 (n_2)] tSlc w R := by
  unfold F66 at h
  refine calls_start 20 Try.func66 rfl rfl (Nat.le_of_ble_eq_true rfl) ?_
  refine wp_seq ?_
  refine wp_text [0] rfl ?_
  refine rv 4 rfl rfl rfl (q_assign (v := tSlc.enc ((⟨none, 0, 0⟩ : Slc))) rfl rfl) ?_
  refine ro_nil ?_
  refine wp_seq ?_
  refine wp_block ?_
  refine loop_at (σ := Slc × Int) (fr := fun g (s : Slc × Int) => upd (upd (g) 0 (tSlc.enc (s.1))) 1 (.int .u64 (s.2))) (s0 := (b_1, n_2)) (upd_step (upd_step rfl rfl) rfl) h ?_
  rintro ⟨b_3, n_4⟩ g w5 K6 h
  unfold F66_l1 at h
  refine wp_seq ?_
  refine wp_seq ?_
  refine wp_text [0, 1] rfl ?_
  refine rv 5 rfl rfl rfl (q_move (v := .int .u64 (n_4)) rfl rfl) ?_
  refine rv 6 rfl rfl rfl (q_geq (a := n_4) (b := (128 : Int)) rfl rfl rfl) ?_
  refine ro_nil ?_
  refine wp_if (b := (decide (n_4 ≥ (128 : Int)))) rfl h (fun hb16 h => ?_) (fun hb16 h => ?_)
  · refine wp_skip ?_
    refine wp_seq ?_
    refine wp_block ?_
    refine wp_text [0, 1, 2, 3, 4, 5, 6] rfl ?_
    refine rv 9 rfl rfl rfl (q_move (v := tSlc.enc (b_3)) rfl rfl) ?_
    refine rv 10 rfl rfl rfl (q_move (v := .int .u64 (n_4)) rfl rfl) ?_
    refine rv 11 rfl rfl rfl (q_cvtI (a := n_4) rfl Try.underlying88 Try.underlying5 rfl) ?_
    refine rv 12 rfl rfl rfl (q_or (a := (IntKind.u8.wrap n_4)) (b := (128 : Int)) rfl rfl rfl) ?_
    obtain ⟨a7, w8, ha7, hw8, h⟩ := apl_open h
    refine rv 13 rfl rfl rfl (q_rowOf (T := (tInt .u8)) (xs := [(bits .or .u8 (IntKind.u8.wrap n_4) (128 : Int))]) rfl Try.underlying72 ok5 inf5 rfl (by decide) (by decide) rfl ha7 hw8) ?_
    refine ro_wp rfl (.free rfl) (wp_append (d := (some 14)) (T := (tInt .u8)) rfl rfl Try.underlying72 ⟨_, Try.underlying72⟩ ok5 inf5 rfl rfl (Nat.lt_of_lt_of_le Nat.zero_lt_one (Nat.le_of_ble_eq_true rfl)) rfl rfl h ?_)
    intro r10 w9 h
    refine rv 0 rfl rfl rfl (q_assign (v := tSlc.enc (r10)) rfl rfl) ?_
    refine ro_nil ?_
    refine wp_text [0, 1, 2] rfl ?_
    refine rv 7 rfl rfl rfl (q_move (v := .int .u64 (n_4)) rfl rfl) ?_
    obtain ⟨d11, hd11, h⟩ := h
    refine rv 8 rfl rfl rfl (q_shr (a := n_4) (b := (7 : Int)) (r := d11) rfl rfl rfl hd11) ?_
    refine rv 1 rfl rfl rfl (q_assign (v := .int .u64 (d11)) rfl rfl) ?_
    refine ro_nil ?_
    exact ⟨(r10, d11), _, arr (upd_step (upd_step rfl rfl) rfl), h⟩
  · refine wp_exit ?_
    refine wp_seq ?_
    refine wp_text [0, 1, 2, 3, 4, 5] rfl ?_
    refine rv 15 rfl rfl rfl (q_move (v := tSlc.enc (b_3)) rfl rfl) ?_
    refine rv 16 rfl rfl rfl (q_move (v := .int .u64 (n_4)) rfl rfl) ?_
    refine rv 17 rfl rfl rfl (q_cvtI (a := n_4) rfl Try.underlying88 Try.underlying5 rfl) ?_
    obtain ⟨a12, w13, ha12, hw13, h⟩ := apl_open h
    refine rv 18 rfl rfl rfl (q_rowOf (T := (tInt .u8)) (xs := [(IntKind.u8.wrap n_4)]) rfl Try.underlying72 ok5 inf5 rfl (by decide) (by decide) rfl ha12 hw13) ?_
    refine ro_wp rfl (.free rfl) (wp_append (d := (some 19)) (T := (tInt .u8)) rfl rfl Try.underlying72 ⟨_, Try.underlying72⟩ ok5 inf5 rfl rfl (Nat.lt_of_lt_of_le Nat.zero_lt_one (Nat.le_of_ble_eq_true rfl)) rfl rfl h ?_)
    intro r15 w14 h
    refine rv 4 rfl rfl rfl (q_assign (v := tSlc.enc (r15)) rfl rfl) ?_
    refine ro_nil ?_
    refine wp_ret ?_
    exact ret_ok rfl (.cons (.tmp (v := tSlc.enc (r15)) rfl) .nil) ⟨r15, rfl, h⟩

-- moiety/wire.bits
def F67 (f_1 : Nat) (w : World) (R : Int → World → Prop) : Prop :=
  cl Try.prog 84 [.float .f64 (f_1)] (tInt .i64) w fun r3 w2 =>
  if (r3 == (0 : Int)) = true then (
    cl Try.prog 85 [.int .u64 ((0 : Int))] (tTup2 tFlt tBool) w2 fun r5 w4 =>
    R (r5.1 : Int) w4
  ) else (
    R (f_1 : Int) w2
  )
theorem F67_ok {f_1 : Nat} {w : World} {R : Int → World → Prop} (h : F67 f_1 w R) : cl Try.prog 67 [.float .f64 (f_1)] (tInt .u64) w R := by
  unfold F67 at h
  refine calls_start 16 Try.func67 rfl rfl (Nat.le_of_ble_eq_true rfl) ?_
  refine wp_seq ?_
  refine wp_text [0] rfl ?_
  refine rv 2 rfl rfl rfl (q_assign (v := .int .u64 ((0 : Int))) rfl rfl) ?_
  refine ro_nil ?_
  refine wp_seq ?_
  refine wp_seq ?_
  refine wp_text [0, 1, 2] rfl ?_
  refine rv 5 rfl rfl rfl (q_move (v := .float .f64 (f_1)) rfl rfl) ?_
  refine ro_wp rfl (.free rfl) (wp_cl (d := (some 6)) rfl (q_call (k := 84) (l := [.float .f64 (f_1)]) rfl ent84 rfl) h ?_)
  intro r3 w2 h
  refine rv 7 rfl rfl rfl (q_eql (a := r3) (b := (0 : Int)) rfl rfl rfl) ?_
  refine ro_nil ?_
  refine wp_if (b := (r3 == (0 : Int))) rfl h (fun hb6 h => ?_) (fun hb6 h => ?_)
  · refine wp_seq ?_
    refine wp_text [0, 1, 2, 3, 4, 5] rfl ?_
    refine ro_wp rfl (.free rfl) (wp_cl (d := (some 9)) rfl (q_call (k := 85) (l := [.int .u64 ((0 : Int))]) rfl ent85 rfl) h ?_)
    intro r5 w4 h
    refine rv 8 rfl rfl rfl (q_move (v := (tTup2 tFlt tBool).enc (r5)) rfl rfl) ?_
    refine rv 10 rfl rfl rfl (q_extract (vs := #[.float .f64 (r5.1), .bool (r5.2)]) (v := .float .f64 (r5.1)) rfl rfl rfl) ?_
    refine rv 11 rfl rfl rfl (q_extract (vs := #[.float .f64 (r5.1), .bool (r5.2)]) (v := .bool (r5.2)) rfl rfl rfl) ?_
    refine rv 3 rfl rfl rfl (q_assign (v := .float .f64 (r5.1)) rfl rfl) ?_
    refine rv 4 rfl rfl rfl (q_assign (v := .bool (r5.2)) rfl rfl) ?_
    refine ro_nil ?_
    refine wp_seq ?_
    refine wp_text [0, 1, 2] rfl ?_
    refine rv 12 rfl rfl rfl (q_move (v := .float .f64 (r5.1)) rfl rfl) ?_
    refine rv 13 rfl rfl rfl (q_f64bits (b := r5.1) rfl ext83 rfl) ?_
    refine rv 2 rfl rfl rfl (q_assign (v := .int .u64 ((r5.1 : Int))) rfl rfl) ?_
    refine ro_nil ?_
    refine wp_ret ?_
    exact ret_ok rfl (.cons (.tmp (v := .int .u64 ((r5.1 : Int))) rfl) .nil) ⟨(r5.1 : Int), rfl, h⟩
  · refine wp_skip ?_
    refine wp_seq ?_
    refine wp_text [0, 1, 2] rfl ?_
    refine rv 14 rfl rfl rfl (q_move (v := .float .f64 (f_1)) rfl rfl) ?_
    refine rv 15 rfl rfl rfl (q_f64bits (b := f_1) rfl ext83 rfl) ?_
    refine rv 2 rfl rfl rfl (q_assign (v := .int .u64 ((f_1 : Int))) rfl rfl) ?_
    refine ro_nil ?_
    refine wp_ret ?_
    exact ret_ok rfl (.cons (.tmp (v := .int .u64 ((f_1 : Int))) rfl) .nil) ⟨(f_1 : Int), rfl, h⟩

-- moiety/frame.four
def F68 (b_1 : Slc) (n_2 : Int) (w : World) (R : Slc → World → Prop) : Prop :=
  ex (Shift (24 : Int) (Int.fdiv n_2 (2 ^ (min ((24 : Int)).toNat IntKind.u32.bits)))) fun d3 =>
  ex (Shift (16 : Int) (Int.fdiv n_2 (2 ^ (min ((16 : Int)).toNat IntKind.u32.bits)))) fun d4 =>
  ex (Shift (8 : Int) (Int.fdiv n_2 (2 ^ (min ((8 : Int)).toNat IntKind.u32.bits)))) fun d5 =>
  apl 5 (tInt .u8) 1 1 b_1 [(IntKind.u8.wrap d3), (IntKind.u8.wrap d4), (IntKind.u8.wrap d5), (IntKind.u8.wrap n_2)] w fun r9 w8 =>
  R r9 w8
theorem F68_ok {b_1 : Slc} {n_2 : Int} {w : World} {R : Slc → World → Prop} (h : F68 b_1 n_2 w R) : cl Try.prog 68 [tSlc.enc (b_1), .int .u32 (n_2)] tSlc w R := by
  unfold F68 at h
  refine calls_start 19 Try.func68 rfl rfl (Nat.le_of_ble_eq_true rfl) ?_
  refine wp_seq ?_
  refine wp_text [0] rfl ?_
  refine rv 4 rfl rfl rfl (q_assign (v := tSlc.enc ((⟨none, 0, 0⟩ : Slc))) rfl rfl) ?_
  refine ro_nil ?_
  refine wp_seq ?_
  refine wp_text [0, 1, 2, 3, 4, 5, 6, 7, 8, 9, 10, 11, 12, 13, 14] rfl ?_
  refine rv 5 rfl rfl rfl (q_move (v := tSlc.enc (b_1)) rfl rfl) ?_
  refine rv 6 rfl rfl rfl (q_move (v := .int .u32 (n_2)) rfl rfl) ?_
  obtain ⟨d3, hd3, h⟩ := h
  refine rv 7 rfl rfl rfl (q_shr (a := n_2) (b := (24 : Int)) (r := d3) rfl rfl rfl hd3) ?_
  refine rv 8 rfl rfl rfl (q_cvtI (a := d3) rfl Try.underlying137 Try.underlying5 rfl) ?_
  refine rv 9 rfl rfl rfl (q_move (v := .int .u32 (n_2)) rfl rfl) ?_
  obtain ⟨d4, hd4, h⟩ := h
  refine rv 10 rfl rfl rfl (q_shr (a := n_2) (b := (16 : Int)) (r := d4) rfl rfl rfl hd4) ?_
  refine rv 11 rfl rfl rfl (q_cvtI (a := d4) rfl Try.underlying137 Try.underlying5 rfl) ?_
  refine rv 12 rfl rfl rfl (q_move (v := .int .u32 (n_2)) rfl rfl) ?_
  obtain ⟨d5, hd5, h⟩ := h
  refine rv 13 rfl rfl rfl (q_shr (a := n_2) (b := (8 : Int)) (r := d5) rfl rfl rfl hd5) ?_
  refine rv 14 rfl rfl rfl (q_cvtI (a := d5) rfl Try.underlying137 Try.underlying5 rfl) ?_
  refine rv 15 rfl rfl rfl (q_move (v := .int .u32 (n_2)) rfl rfl) ?_
  refine rv 16 rfl rfl rfl (q_cvtI (a := n_2) rfl Try.underlying137 Try.underlying5 rfl) ?_
  obtain ⟨a6, w7, ha6, hw7, h⟩ := apl_open h
  refine rv 17 rfl rfl rfl (q_rowOf (T := (tInt .u8)) (xs := [(IntKind.u8.wrap d3), (IntKind.u8.wrap d4), (IntKind.u8.wrap d5), (IntKind.u8.wrap n_2)]) rfl Try.underlying72 ok5 inf5 rfl (by decide) (by decide) rfl ha6 hw7) ?_
  refine ro_wp rfl (.free rfl) (wp_append (d := (some 18)) (T := (tInt .u8)) rfl rfl Try.underlying72 ⟨_, Try.underlying72⟩ ok5 inf5 rfl rfl (Nat.lt_of_lt_of_le Nat.zero_lt_one (Nat.le_of_ble_eq_true rfl)) rfl rfl h ?_)
  intro r9 w8 h
  refine rv 4 rfl rfl rfl (q_assign (v := tSlc.enc (r9)) rfl rfl) ?_
  refine ro_nil ?_
  refine wp_ret ?_
  exact ret_ok rfl (.cons (.tmp (v := tSlc.enc (r9)) rfl) .nil) ⟨r9, rfl, h⟩

-- (*moiety/disk.Disk).Append$1
def F69 (l_1 : (Option Addr)) (t_2 : Addr) (w : World) (R : Unit → World → Prop) : Prop :=
  dr w fun w3 =>
  ex (NC l_1) fun a4 =>
  ex (RdAt tSlc (a4.add 0) w3) fun x5 =>
  ex (RdAt tSlc t_2 w3) fun x6 =>
  apd 5 (tInt .u8) 1 1 x5 x6 w3 fun r8 w7 =>
  st tSlc (a4.add 0) r8 w7 fun w9 =>
  R () w9
theorem F69_ok {l_1 : (Option Addr)} {t_2 : Addr} {w : World} {R : Unit → World → Prop} (h : F69 l_1 t_2 w R) : cl Try.prog 69 [.pointer (l_1), .pointer (some t_2)] tUnit w R := by
  unfold F69 at h
  refine calls_start 12 Try.func69 rfl rfl (Nat.le_of_ble_eq_true rfl) ?_
  obtain ⟨w3, hw3, h⟩ := dr_open h
  refine wp_drawn 10 mixed rfl (by kernel_rfl) (by intro c a d v w h; cases d <;> exact h) hw3 (fun hD => ?_)
  refine rp 0 3 hD rfl rfl rfl (fun _ => q_move (v := .pointer (l_1)) rfl rfl) ?_
  refine rp 1 4 hD rfl rfl rfl (fun _ => q_move (v := .pointer (l_1)) rfl rfl) ?_
  obtain ⟨a4, ha4, h⟩ := h
  refine rp 2 5 hD rfl rfl rfl (fun _ => q_nilCheck (a := a4) rfl (congrArg Value.pointer ha4)) ?_
  refine rp 3 6 hD rfl rfl rfl (fun _ => q_fieldAddr (a := a4) (off := 0) rfl Try.underlying102 rfl rfl ok72 (by decide) rfl) ?_
  obtain ⟨x5, hx5, h⟩ := h
  refine rd_read (i := 4) (d := (some 7)) (fun W => (RdAt tSlc (a4.add 0) W) x5) hD (by kernel_rfl) (by kernel_rfl) rfl (.free rfl) rfl (fun W hr => q_load (T := tSlc) (u := x5) (a := (a4.add 0)) rfl ok72 rfl hr) hx5 ?_
  obtain ⟨x6, hx6, h⟩ := h
  refine rd_read (i := 5) (d := (some 8)) (fun W => (RdAt tSlc t_2 W) x6) hD (by kernel_rfl) (by kernel_rfl) rfl (.free rfl) rfl (fun W hr => q_load (T := tSlc) (u := x6) (a := t_2) rfl ok72 rfl hr) hx6 ?_
  refine rd_one (i := 6) (by kernel_rfl) ?_
  refine po_wp rfl (.free rfl) (wp_append (d := (some 9)) (T := (tInt .u8)) rfl rfl Try.underlying72 ⟨_, Try.underlying72⟩ ok5 inf5 rfl rfl (Nat.lt_of_lt_of_le Nat.zero_lt_one (Nat.le_of_ble_eq_true rfl)) rfl rfl h ?_)
  intro r8 w7 h
  refine ⟨(hk_wait (by kernel_rfl) (hk_wait (by kernel_rfl) hk_nil)), ?_⟩
  refine rp 7 10 hD rfl rfl rfl (fun _ => q_nilCheck (a := a4) rfl (congrArg Value.pointer ha4)) ?_
  refine rp 8 11 hD rfl rfl rfl (fun _ => q_fieldAddr (a := a4) (off := 0) rfl Try.underlying102 rfl rfl ok72 (by decide) rfl) ?_
  refine rd_one (i := 9) (by kernel_rfl) ?_
  obtain ⟨w9, hw9, hrw9, h⟩ := st_open h
  refine po_skip (d := none) rfl (.free rfl) rfl (q_store (T := tSlc) (u := r8) (a := (a4.add 0)) rfl ok72 rfl rfl hrw9 hw9) ⟨(hk_wait (by kernel_rfl) (hk_wait (by kernel_rfl) hk_nil)), ?_⟩
  refine rd_nil (by kernel_rfl) ?_
  exact end_ok rfl .nil ⟨(), rfl, h⟩

-- moiety/frame.on
def F81_l2 (t_4 : Int) (c_9 : Int) (t_10 : Int) (w11 : World) (K6 : Int × Int → World → Prop) (K12 : Int × Int → World → Prop) (R : Int → World → Prop) : Prop :=
  if (decide (t_10 < (8 : Int))) = true then (
    ex (Shift (1 : Int) (Int.fdiv c_9 (2 ^ (min ((1 : Int)).toNat IntKind.u32.bits)))) fun d13 =>
    K12 ((bits .xor .u32 d13 (bits .and .u32 (IntKind.u32.wrap (0 - (bits .and .u32 c_9 (1 : Int)))) (3988292384 : Int))), (IntKind.i64.wrap (t_10 + (1 : Int)))) w11
  ) else (
    K6 (c_9, (IntKind.i64.wrap (t_4 + (1 : Int)))) w11
  )
def F81_l1 (b_2 : Slc) (c_3 : Int) (t_4 : Int) (w5 : World) (K6 : Int × Int → World → Prop) (R : Int → World → Prop) : Prop :=
  if (decide (t_4 < (b_2.len : Int))) = true then (
    ex (IxA b_2 1 t_4) fun a7 =>
    ex (RdAt (tInt .u8) a7 w5) fun x8 =>
    lp (fun (s : Int × Int) w K => F81_l2 t_4 s.1 s.2 w K6 K R) ((bits .xor .u32 c_3 (IntKind.u32.wrap x8)), (0 : Int)) w5
  ) else (
    R c_3 w5
  )
def F81 (c_1 : Int) (b_2 : Slc) (w : World) (R : Int → World → Prop) : Prop :=
  lp (fun (s : Int × Int) w K => F81_l1 b_2 s.1 s.2 w K R) (c_1, (0 : Int)) w
theorem F81_ok {c_1 : Int} {b_2 : Slc} {w : World} {R : Int → World → Prop} (h : F81 c_1 b_2 w R) : cl Try.prog 81 [.int .u32 (c_1), tSlc.enc (b_2)] (tInt .u32) w R := by
  unfold F81 at h
  refine calls_start 29 Try.func81 rfl rfl (Nat.le_of_ble_eq_true rfl) ?_
  refine wp_seq ?_
  refine wp_text [0] rfl ?_
  refine rv 4 rfl rfl rfl (q_assign (v := .int .u32 ((0 : Int))) rfl rfl) ?_
  refine ro_nil ?_
  refine wp_seq ?_
  refine wp_seq ?_
  refine wp_text [0, 1, 2] rfl ?_
  refine rv 7 rfl rfl rfl (q_move (v := tSlc.enc (b_2)) rfl rfl) ?_
  refine rv 8 rfl rfl rfl (q_len (s := b_2) rfl Try.underlying72 rfl) ?_
  refine rv 9 rfl rfl rfl (q_move (v := .int .i64 ((0 : Int))) rfl rfl) ?_
  refine ro_nil ?_
  refine wp_block ?_
  refine loop_at (σ := Int × Int) (fr := fun g (s : Int × Int) => upd (upd (upd (upd (g) 7 (tSlc.enc (b_2))) 8 (.int .i64 ((b_2.len : Int)))) 0 (.int .u32 (s.1))) 9 (.int .i64 (s.2))) (s0 := (c_1, (0 : Int))) (upd_step (upd_step (upd_step (upd_step rfl rfl) rfl) rfl) rfl) h ?_
  rintro ⟨c_3, t_4⟩ g w5 K6 h
  unfold F81_l1 at h
  refine wp_seq ?_
  refine wp_text [0] rfl ?_
  refine rv 10 rfl rfl rfl (q_lss (a := t_4) (b := (b_2.len : Int)) rfl rfl rfl) ?_
  refine ro_nil ?_
  refine wp_seq ?_
  refine wp_if (b := (decide (t_4 < (b_2.len : Int)))) rfl h (fun hb15 h => ?_) (fun hb15 h => ?_)
  · refine wp_skip ?_
    refine wp_seq ?_
    refine wp_block ?_
    refine wp_seq ?_
    refine wp_text [0, 1, 2] rfl ?_
    obtain ⟨a7, ha7, h⟩ := h
    refine rv 11 rfl rfl rfl (q_indexAddr (s := b_2) (i := t_4) rfl Try.underlying72 ok5 rfl rfl ha7) ?_
    obtain ⟨x8, hx8, h⟩ := h
    refine rv 12 rfl rfl rfl (q_load (T := (tInt .u8)) (u := x8) (a := a7) rfl ok5 rfl hx8) ?_
    refine rv 6 rfl rfl rfl (q_assign (v := .int .u8 (x8)) rfl rfl) ?_
    refine ro_nil ?_
    refine wp_seq ?_
    refine wp_text [0, 1, 2, 3, 4] rfl ?_
    refine rv 13 rfl rfl rfl (q_move (v := .int .u32 (c_3)) rfl rfl) ?_
    refine rv 14 rfl rfl rfl (q_move (v := .int .u8 (x8)) rfl rfl) ?_
    refine rv 15 rfl rfl rfl (q_cvtI (a := x8) rfl Try.underlying5 Try.underlying137 rfl) ?_
    refine rv 16 rfl rfl rfl (q_xor (a := c_3) (b := (IntKind.u32.wrap x8)) rfl rfl rfl) ?_
    refine rv 0 rfl rfl rfl (q_assign (v := .int .u32 ((bits .xor .u32 c_3 (IntKind.u32.wrap x8)))) rfl rfl) ?_
    refine ro_nil ?_
    refine wp_seq ?_
    refine wp_text [0] rfl ?_
    refine rv 17 rfl rfl rfl (q_move (v := .int .i64 ((0 : Int))) rfl rfl) ?_
    refine ro_nil ?_
    refine wp_block ?_
    refine loop_at (σ := Int × Int) (fr := fun g (s : Int × Int) => upd (upd (upd (upd (upd (g) 7 (tSlc.enc (b_2))) 8 (.int .i64 ((b_2.len : Int)))) 9 (.int .i64 (t_4))) 0 (.int .u32 (s.1))) 17 (.int .i64 (s.2))) (s0 := ((bits .xor .u32 c_3 (IntKind.u32.wrap x8)), (0 : Int))) (upd_step (upd_step (upd_step (upd_step (upd_step rfl rfl) rfl) rfl) rfl) rfl) h ?_
    rintro ⟨c_9, t_10⟩ g w11 K12 h
    unfold F81_l2 at h
    refine wp_seq ?_
    refine wp_text [0] rfl ?_
    refine rv 18 rfl rfl rfl (q_lss (a := t_10) (b := (8 : Int)) rfl rfl rfl) ?_
    refine ro_nil ?_
    refine wp_seq ?_
    refine wp_if (b := (decide (t_10 < (8 : Int)))) rfl h (fun hb14 h => ?_) (fun hb14 h => ?_)
    · refine wp_skip ?_
      refine wp_seq ?_
      refine wp_block ?_
      refine wp_text [0, 1, 2, 3, 4, 5, 6, 7] rfl ?_
      refine rv 19 rfl rfl rfl (q_move (v := .int .u32 (c_9)) rfl rfl) ?_
      obtain ⟨d13, hd13, h⟩ := h
      refine rv 20 rfl rfl rfl (q_shr (a := c_9) (b := (1 : Int)) (r := d13) rfl rfl rfl hd13) ?_
      refine rv 21 rfl rfl rfl (q_move (v := .int .u32 (c_9)) rfl rfl) ?_
      refine rv 22 rfl rfl rfl (q_and (a := c_9) (b := (1 : Int)) rfl rfl rfl) ?_
      refine rv 23 rfl rfl rfl (q_neg (a := (bits .and .u32 c_9 (1 : Int))) rfl rfl) ?_
      refine rv 24 rfl rfl rfl (q_and (a := (IntKind.u32.wrap (0 - (bits .and .u32 c_9 (1 : Int))))) (b := (3988292384 : Int)) rfl rfl rfl) ?_
      refine rv 25 rfl rfl rfl (q_xor (a := d13) (b := (bits .and .u32 (IntKind.u32.wrap (0 - (bits .and .u32 c_9 (1 : Int)))) (3988292384 : Int))) rfl rfl rfl) ?_
      refine rv 0 rfl rfl rfl (q_assign (v := .int .u32 ((bits .xor .u32 d13 (bits .and .u32 (IntKind.u32.wrap (0 - (bits .and .u32 c_9 (1 : Int)))) (3988292384 : Int))))) rfl rfl) ?_
      refine ro_nil ?_
      refine wp_text [0, 1] rfl ?_
      refine rv 26 rfl rfl rfl (q_add (a := t_10) (b := (1 : Int)) rfl rfl rfl) ?_
      refine rv 17 rfl rfl rfl (q_move (v := .int .i64 ((IntKind.i64.wrap (t_10 + (1 : Int))))) rfl rfl) ?_
      refine ro_nil ?_
      exact ⟨((bits .xor .u32 d13 (bits .and .u32 (IntKind.u32.wrap (0 - (bits .and .u32 c_9 (1 : Int)))) (3988292384 : Int))), (IntKind.i64.wrap (t_10 + (1 : Int)))), _, arr (upd_step (upd_step (upd_step (upd_step (upd_step rfl rfl) rfl) rfl) rfl) rfl), h⟩
    · refine wp_exit ?_
      refine wp_text [0, 1] rfl ?_
      refine rv 27 rfl rfl rfl (q_add (a := t_4) (b := (1 : Int)) rfl rfl rfl) ?_
      refine rv 9 rfl rfl rfl (q_move (v := .int .i64 ((IntKind.i64.wrap (t_4 + (1 : Int))))) rfl rfl) ?_
      refine ro_nil ?_
      exact ⟨(c_9, (IntKind.i64.wrap (t_4 + (1 : Int)))), _, arr (upd_step (upd_step (upd_step (upd_step rfl rfl) rfl) rfl) rfl), h⟩
  · refine wp_exit ?_
    refine wp_seq ?_
    refine wp_text [0, 1] rfl ?_
    refine rv 28 rfl rfl rfl (q_move (v := .int .u32 (c_3)) rfl rfl) ?_
    refine rv 4 rfl rfl rfl (q_assign (v := .int .u32 (c_3)) rfl rfl) ?_
    refine ro_nil ?_
    refine wp_ret ?_
    exact ret_ok rfl (.cons (.tmp (v := .int .u32 (c_3)) rfl) .nil) ⟨c_3, rfl, h⟩

-- moiety/num.Class
def F84 (f_1 : Nat) (w : World) (R : Int → World → Prop) : Prop :=
  if (fcmp .neq f_1 f_1) = true then (
    R (0 : Int) w
  ) else (
    if ((f_1 : Int) == (0 : Int)) = true then (
      R (4 : Int) w
    ) else (
      if ((f_1 : Int) == (9223372036854775808 : Int)) = true then (
        R (3 : Int) w
      ) else (
        cl Try.prog 92 [.float .f64 (f_1), .int .i64 ((-1 : Int))] tBool w fun r3 w2 =>
        if r3 = true then (
          R (1 : Int) w2
        ) else (
          cl Try.prog 92 [.float .f64 (f_1), .int .i64 ((1 : Int))] tBool w2 fun r5 w4 =>
          if r5 = true then (
            R (6 : Int) w4
          ) else (
            if (fcmp .lss f_1 (0 : Nat)) = true then (
              R (2 : Int) w4
            ) else (
              R (5 : Int) w4
            )
          )
        )
      )
    )
  )
theorem F84_ok {f_1 : Nat} {w : World} {R : Int → World → Prop} (h : F84 f_1 w R) : cl Try.prog 84 [.float .f64 (f_1)] (tInt .i64) w R := by
  unfold F84 at h
  refine calls_start 25 Try.func84 rfl rfl (Nat.le_of_ble_eq_true rfl) ?_
  refine wp_seq ?_
  refine wp_text [0] rfl ?_
  refine rv 2 rfl rfl rfl (q_assign (v := .int .i64 ((0 : Int))) rfl rfl) ?_
  refine ro_nil ?_
  refine wp_seq ?_
  refine wp_text [0, 1, 2] rfl ?_
  refine rv 4 rfl rfl rfl (q_move (v := .float .f64 (f_1)) rfl rfl) ?_
  refine rv 5 rfl rfl rfl (q_f64bits (b := f_1) rfl ext83 rfl) ?_
  refine rv 3 rfl rfl rfl (q_assign (v := .int .u64 ((f_1 : Int))) rfl rfl) ?_
  refine ro_nil ?_
  refine wp_seq ?_
  refine wp_block ?_
  refine wp_seq ?_
  refine wp_text [0, 1, 2, 3] rfl ?_
  refine rv 7 rfl rfl rfl (q_move (v := .float .f64 (f_1)) rfl rfl) ?_
  refine rv 8 rfl rfl rfl (q_move (v := .float .f64 (f_1)) rfl rfl) ?_
  refine rv 9 rfl rfl rfl (q_fcmp (op := .neq) (a := f_1) (b := f_1) rfl (by decide) rfl rfl) ?_
  refine rv 6 rfl rfl rfl (q_assign (v := .bool ((fcmp .neq f_1 f_1))) rfl rfl) ?_
  refine ro_nil ?_
  refine wp_if (b := (fcmp .neq f_1 f_1)) rfl h (fun hb11 h => ?_) (fun hb11 h => ?_)
  · refine wp_seq ?_
    refine wp_text [0] rfl ?_
    refine rv 2 rfl rfl rfl (q_assign (v := .int .i64 ((0 : Int))) rfl rfl) ?_
    refine ro_nil ?_
    refine wp_ret ?_
    exact ret_ok rfl (.cons (.tmp (v := .int .i64 ((0 : Int))) rfl) .nil) ⟨(0 : Int), rfl, h⟩
  · refine wp_seq ?_
    refine wp_text [0, 1, 2] rfl ?_
    refine rv 11 rfl rfl rfl (q_move (v := .int .u64 ((f_1 : Int))) rfl rfl) ?_
    refine rv 12 rfl rfl rfl (q_eql (a := (f_1 : Int)) (b := (0 : Int)) rfl rfl rfl) ?_
    refine rv 10 rfl rfl rfl (q_assign (v := .bool (((f_1 : Int) == (0 : Int)))) rfl rfl) ?_
    refine ro_nil ?_
    refine wp_if (b := ((f_1 : Int) == (0 : Int))) rfl h (fun hb10 h => ?_) (fun hb10 h => ?_)
    · refine wp_seq ?_
      refine wp_text [0] rfl ?_
      refine rv 2 rfl rfl rfl (q_assign (v := .int .i64 ((4 : Int))) rfl rfl) ?_
      refine ro_nil ?_
      refine wp_ret ?_
      exact ret_ok rfl (.cons (.tmp (v := .int .i64 ((4 : Int))) rfl) .nil) ⟨(4 : Int), rfl, h⟩
    · refine wp_seq ?_
      refine wp_text [0, 1, 2] rfl ?_
      refine rv 14 rfl rfl rfl (q_move (v := .int .u64 ((f_1 : Int))) rfl rfl) ?_
      refine rv 15 rfl rfl rfl (q_eql (a := (f_1 : Int)) (b := (9223372036854775808 : Int)) rfl rfl rfl) ?_
      refine rv 13 rfl rfl rfl (q_assign (v := .bool (((f_1 : Int) == (9223372036854775808 : Int)))) rfl rfl) ?_
      refine ro_nil ?_
      refine wp_if (b := ((f_1 : Int) == (9223372036854775808 : Int))) rfl h (fun hb9 h => ?_) (fun hb9 h => ?_)
      · refine wp_seq ?_
        refine wp_text [0] rfl ?_
        refine rv 2 rfl rfl rfl (q_assign (v := .int .i64 ((3 : Int))) rfl rfl) ?_
        refine ro_nil ?_
        refine wp_ret ?_
        exact ret_ok rfl (.cons (.tmp (v := .int .i64 ((3 : Int))) rfl) .nil) ⟨(3 : Int), rfl, h⟩
      · refine wp_seq ?_
        refine wp_text [0, 1, 2] rfl ?_
        refine rv 17 rfl rfl rfl (q_move (v := .float .f64 (f_1)) rfl rfl) ?_
        refine ro_wp rfl (.free rfl) (wp_cl (d := (some 18)) rfl (q_call (k := 92) (l := [.float .f64 (f_1), .int .i64 ((-1 : Int))]) rfl ent92 rfl) h ?_)
        intro r3 w2 h
        refine rv 16 rfl rfl rfl (q_assign (v := .bool (r3)) rfl rfl) ?_
        refine ro_nil ?_
        refine wp_if (b := r3) rfl h (fun hb8 h => ?_) (fun hb8 h => ?_)
        · refine wp_seq ?_
          refine wp_text [0] rfl ?_
          refine rv 2 rfl rfl rfl (q_assign (v := .int .i64 ((1 : Int))) rfl rfl) ?_
          refine ro_nil ?_
          refine wp_ret ?_
          exact ret_ok rfl (.cons (.tmp (v := .int .i64 ((1 : Int))) rfl) .nil) ⟨(1 : Int), rfl, h⟩
        · refine wp_seq ?_
          refine wp_text [0, 1, 2] rfl ?_
          refine rv 20 rfl rfl rfl (q_move (v := .float .f64 (f_1)) rfl rfl) ?_
          refine ro_wp rfl (.free rfl) (wp_cl (d := (some 21)) rfl (q_call (k := 92) (l := [.float .f64 (f_1), .int .i64 ((1 : Int))]) rfl ent92 rfl) h ?_)
          intro r5 w4 h
          refine rv 19 rfl rfl rfl (q_assign (v := .bool (r5)) rfl rfl) ?_
          refine ro_nil ?_
          refine wp_if (b := r5) rfl h (fun hb7 h => ?_) (fun hb7 h => ?_)
          · refine wp_seq ?_
            refine wp_text [0] rfl ?_
            refine rv 2 rfl rfl rfl (q_assign (v := .int .i64 ((6 : Int))) rfl rfl) ?_
            refine ro_nil ?_
            refine wp_ret ?_
            exact ret_ok rfl (.cons (.tmp (v := .int .i64 ((6 : Int))) rfl) .nil) ⟨(6 : Int), rfl, h⟩
          · refine wp_seq ?_
            refine wp_text [0, 1, 2] rfl ?_
            refine rv 23 rfl rfl rfl (q_move (v := .float .f64 (f_1)) rfl rfl) ?_
            refine rv 24 rfl rfl rfl (q_fcmp (op := .lss) (a := f_1) (b := (0 : Nat)) rfl (by decide) rfl rfl) ?_
            refine rv 22 rfl rfl rfl (q_assign (v := .bool ((fcmp .lss f_1 (0 : Nat)))) rfl rfl) ?_
            refine ro_nil ?_
            refine wp_if (b := (fcmp .lss f_1 (0 : Nat))) rfl h (fun hb6 h => ?_) (fun hb6 h => ?_)
            · refine wp_seq ?_
              refine wp_text [0] rfl ?_
              refine rv 2 rfl rfl rfl (q_assign (v := .int .i64 ((2 : Int))) rfl rfl) ?_
              refine ro_nil ?_
              refine wp_ret ?_
              exact ret_ok rfl (.cons (.tmp (v := .int .i64 ((2 : Int))) rfl) .nil) ⟨(2 : Int), rfl, h⟩
            · refine wp_skip ?_
              refine wp_seq ?_
              refine wp_text [0] rfl ?_
              refine rv 2 rfl rfl rfl (q_assign (v := .int .i64 ((5 : Int))) rfl rfl) ?_
              refine ro_nil ?_
              refine wp_ret ?_
              exact ret_ok rfl (.cons (.tmp (v := .int .i64 ((5 : Int))) rfl) .nil) ⟨(5 : Int), rfl, h⟩

-- moiety/num.Of
def F85_j1 (b_2 : Int) (w3 : World) (R : (Nat × Bool) → World → Prop) : Prop :=
  if (fcmp .neq (Int.toNat b_2) (Int.toNat b_2)) = true then (
    R ((0 : Nat), false) w3
  ) else (
    R ((Int.toNat b_2), true) w3
  )
def F85 (k_1 : Int) (w : World) (R : (Nat × Bool) → World → Prop) : Prop :=
  if (k_1 == (0 : Int)) = true then (
    R ((Int.toNat (9221120237041090561 : Int)), true) w
  ) else (
    ex (Shift (63 : Int) (Int.fdiv k_1 (2 ^ (min ((63 : Int)).toNat IntKind.u64.bits)))) fun d5 =>
    if (d5 == (1 : Int)) = true then (
      F85_j1 (bits .andNot .u64 k_1 (9223372036854775808 : Int)) w R
    ) else (
      F85_j1 (bits .xor .u64 IntKind.u64.max k_1) w R
    )
  )
theorem F85_ok {k_1 : Int} {w : World} {R : (Nat × Bool) → World → Prop} (h : F85 k_1 w R) : cl Try.prog 85 [.int .u64 (k_1)] (tTup2 tFlt tBool) w R := by
  unfold F85 at h
  refine calls_start 22 Try.func85 rfl rfl (Nat.le_of_ble_eq_true rfl) ?_
  refine wp_seq ?_
  refine wp_text [0, 1] rfl ?_
  refine rv 2 rfl rfl rfl (q_assign (v := .float .f64 ((0 : Nat))) rfl rfl) ?_
  refine rv 3 rfl rfl rfl (q_assign (v := .bool (false)) rfl rfl) ?_
  refine ro_nil ?_
  refine wp_seq ?_
  refine wp_seq ?_
  refine wp_text [0, 1] rfl ?_
  refine rv 6 rfl rfl rfl (q_move (v := .int .u64 (k_1)) rfl rfl) ?_
  refine rv 7 rfl rfl rfl (q_eql (a := k_1) (b := (0 : Int)) rfl rfl rfl) ?_
  refine ro_nil ?_
  refine wp_if (b := (k_1 == (0 : Int))) rfl h (fun hb7 h => ?_) (fun hb7 h => ?_)
  · refine wp_seq ?_
    refine wp_text [0, 1, 2] rfl ?_
    refine rv 8 rfl rfl rfl (q_f64from (b := (9221120237041090561 : Int)) rfl ext82 rfl) ?_
    refine rv 2 rfl rfl rfl (q_assign (v := .float .f64 ((Int.toNat (9221120237041090561 : Int)))) rfl rfl) ?_
    refine rv 3 rfl rfl rfl (q_assign (v := .bool (true)) rfl rfl) ?_
    refine ro_nil ?_
    refine wp_ret ?_
    exact ret_ok rfl (.cons (.tmp (v := .float .f64 ((Int.toNat (9221120237041090561 : Int)))) rfl) (.cons (.tmp (v := .bool (true)) rfl) .nil)) ⟨((Int.toNat (9221120237041090561 : Int)), true), rfl, h⟩
  · refine wp_skip ?_
    refine wp_seq ?_
    refine wp_text [0, 1, 2] rfl ?_
    refine rv 9 rfl rfl rfl (q_move (v := .int .u64 (k_1)) rfl rfl) ?_
    refine rv 10 rfl rfl rfl (q_notU (a := k_1) rfl rfl rfl) ?_
    refine rv 4 rfl rfl rfl (q_assign (v := .int .u64 ((bits .xor .u64 IntKind.u64.max k_1))) rfl rfl) ?_
    refine ro_nil ?_
    refine seq_join (σ := Int) (J := fun (s : Int) w => F85_j1 s w R) (fr := fun g (s : Int) => upd (g) 4 (.int .u64 (s))) ?_ ?_
    · rintro b_2 g w3 h
      unfold F85_j1 at h
      refine wp_seq ?_
      refine wp_text [0, 1, 2] rfl ?_
      refine rv 16 rfl rfl rfl (q_move (v := .int .u64 (b_2)) rfl rfl) ?_
      refine rv 17 rfl rfl rfl (q_f64from (b := b_2) rfl ext82 rfl) ?_
      refine rv 5 rfl rfl rfl (q_assign (v := .float .f64 ((Int.toNat b_2))) rfl rfl) ?_
      refine ro_nil ?_
      refine wp_seq ?_
      refine wp_seq ?_
      refine wp_text [0, 1, 2] rfl ?_
      refine rv 18 rfl rfl rfl (q_move (v := .float .f64 ((Int.toNat b_2))) rfl rfl) ?_
      refine rv 19 rfl rfl rfl (q_move (v := .float .f64 ((Int.toNat b_2))) rfl rfl) ?_
      refine rv 20 rfl rfl rfl (q_fcmp (op := .neq) (a := (Int.toNat b_2)) (b := (Int.toNat b_2)) rfl (by decide) rfl rfl) ?_
      refine ro_nil ?_
      refine wp_if (b := (fcmp .neq (Int.toNat b_2) (Int.toNat b_2))) rfl h (fun hb4 h => ?_) (fun hb4 h => ?_)
      · refine wp_seq ?_
        refine wp_text [0, 1] rfl ?_
        refine rv 2 rfl rfl rfl (q_assign (v := .float .f64 ((0 : Nat))) rfl rfl) ?_
        refine rv 3 rfl rfl rfl (q_assign (v := .bool (false)) rfl rfl) ?_
        refine ro_nil ?_
        refine wp_ret ?_
        exact ret_ok rfl (.cons (.tmp (v := .float .f64 ((0 : Nat))) rfl) (.cons (.tmp (v := .bool (false)) rfl) .nil)) ⟨((0 : Nat), false), rfl, h⟩
      · refine wp_skip ?_
        refine wp_seq ?_
        refine wp_text [0, 1, 2] rfl ?_
        refine rv 21 rfl rfl rfl (q_move (v := .float .f64 ((Int.toNat b_2))) rfl rfl) ?_
        refine rv 2 rfl rfl rfl (q_assign (v := .float .f64 ((Int.toNat b_2))) rfl rfl) ?_
        refine rv 3 rfl rfl rfl (q_assign (v := .bool (true)) rfl rfl) ?_
        refine ro_nil ?_
        refine wp_ret ?_
        exact ret_ok rfl (.cons (.tmp (v := .float .f64 ((Int.toNat b_2))) rfl) (.cons (.tmp (v := .bool (true)) rfl) .nil)) ⟨((Int.toNat b_2), true), rfl, h⟩
    · refine wp_seq ?_
      refine wp_text [0, 1, 2] rfl ?_
      refine rv 11 rfl rfl rfl (q_move (v := .int .u64 (k_1)) rfl rfl) ?_
      obtain ⟨d5, hd5, h⟩ := h
      refine rv 12 rfl rfl rfl (q_shr (a := k_1) (b := (63 : Int)) (r := d5) rfl rfl rfl hd5) ?_
      refine rv 13 rfl rfl rfl (q_eql (a := d5) (b := (1 : Int)) rfl rfl rfl) ?_
      refine ro_nil ?_
      refine wp_if (b := (d5 == (1 : Int))) rfl h (fun hb6 h => ?_) (fun hb6 h => ?_)
      · refine wp_text [0, 1, 2] rfl ?_
        refine rv 14 rfl rfl rfl (q_move (v := .int .u64 (k_1)) rfl rfl) ?_
        refine rv 15 rfl rfl rfl (q_andNot (a := k_1) (b := (9223372036854775808 : Int)) rfl rfl rfl) ?_
        refine rv 4 rfl rfl rfl (q_assign (v := .int .u64 ((bits .andNot .u64 k_1 (9223372036854775808 : Int)))) rfl rfl) ?_
        refine ro_nil ?_
        exact ⟨((bits .andNot .u64 k_1 (9223372036854775808 : Int))), _, arr (upd_step rfl rfl), h⟩
      · refine wp_skip ?_
        exact ⟨((bits .xor .u64 IntKind.u64.max k_1)), _, arr (upd_step rfl rfl), h⟩

-- math.IsInf
def F92_j1 (f_3 : Nat) (w4 : World) (R : Bool → World → Prop) : Prop :=
  R (fcmp .gtr f_3 (9218868437227405311 : Nat)) w4
def F92 (f_1 : Nat) (sign_2 : Int) (w : World) (R : Bool → World → Prop) : Prop :=
  if (sign_2 == (0 : Int)) = true then (
    cl Try.prog 94 [.float .f64 (f_1)] tFlt w fun r6 w5 =>
    F92_j1 r6 w5 R
  ) else (
    if (decide (sign_2 < (0 : Int))) = true then (
      F92_j1 (Op.negFloat .f64 f_1) w R
    ) else (
      F92_j1 f_1 w R
    )
  )
theorem F92_ok {f_1 : Nat} {sign_2 : Int} {w : World} {R : Bool → World → Prop} (h : F92 f_1 sign_2 w R) : cl Try.prog 92 [.float .f64 (f_1), .int .i64 (sign_2)] tBool w R := by
  unfold F92 at h
  refine calls_start 15 Try.func92 rfl rfl (Nat.le_of_ble_eq_true rfl) ?_
  refine wp_seq ?_
  refine wp_text [0] rfl ?_
  refine rv 4 rfl rfl rfl (q_assign (v := .bool (false)) rfl rfl) ?_
  refine ro_nil ?_
  refine seq_join (σ := Nat) (J := fun (s : Nat) w => F92_j1 s w R) (fr := fun g (s : Nat) => upd (g) 0 (.float .f64 (s))) ?_ ?_
  · rintro f_3 g w4 h
    unfold F92_j1 at h
    refine wp_seq ?_
    refine wp_text [0, 1, 2] rfl ?_
    refine rv 13 rfl rfl rfl (q_move (v := .float .f64 (f_3)) rfl rfl) ?_
    refine rv 14 rfl rfl rfl (q_fcmp (op := .gtr) (a := f_3) (b := (9218868437227405311 : Nat)) rfl (by decide) rfl rfl) ?_
    refine rv 4 rfl rfl rfl (q_assign (v := .bool ((fcmp .gtr f_3 (9218868437227405311 : Nat)))) rfl rfl) ?_
    refine ro_nil ?_
    refine wp_ret ?_
    exact ret_ok rfl (.cons (.tmp (v := .bool ((fcmp .gtr f_3 (9218868437227405311 : Nat)))) rfl) .nil) ⟨(fcmp .gtr f_3 (9218868437227405311 : Nat)), rfl, h⟩
  · refine wp_seq ?_
    refine wp_text [0, 1] rfl ?_
    refine rv 5 rfl rfl rfl (q_move (v := .int .i64 (sign_2)) rfl rfl) ?_
    refine rv 6 rfl rfl rfl (q_eql (a := sign_2) (b := (0 : Int)) rfl rfl rfl) ?_
    refine ro_nil ?_
    refine wp_if (b := (sign_2 == (0 : Int))) rfl h (fun hb8 h => ?_) (fun hb8 h => ?_)
    · refine wp_text [0, 1, 2] rfl ?_
      refine rv 7 rfl rfl rfl (q_move (v := .float .f64 (f_1)) rfl rfl) ?_
      refine ro_wp rfl (.free rfl) (wp_cl (d := (some 8)) rfl (q_call (k := 94) (l := [.float .f64 (f_1)]) rfl ent94 rfl) h ?_)
      intro r6 w5 h
      refine rv 0 rfl rfl rfl (q_assign (v := .float .f64 (r6)) rfl rfl) ?_
      refine ro_nil ?_
      exact ⟨(r6), _, arr (upd_step rfl rfl), h⟩
    · refine wp_seq ?_
      refine wp_text [0, 1] rfl ?_
      refine rv 9 rfl rfl rfl (q_move (v := .int .i64 (sign_2)) rfl rfl) ?_
      refine rv 10 rfl rfl rfl (q_lss (a := sign_2) (b := (0 : Int)) rfl rfl rfl) ?_
      refine ro_nil ?_
      refine wp_if (b := (decide (sign_2 < (0 : Int)))) rfl h (fun hb7 h => ?_) (fun hb7 h => ?_)
      · refine wp_text [0, 1, 2] rfl ?_
        refine rv 11 rfl rfl rfl (q_move (v := .float .f64 (f_1)) rfl rfl) ?_
        refine rv 12 rfl rfl rfl (q_negF (a := f_1) rfl rfl) ?_
        refine rv 0 rfl rfl rfl (q_assign (v := .float .f64 ((Op.negFloat .f64 f_1))) rfl rfl) ?_
        refine ro_nil ?_
        exact ⟨((Op.negFloat .f64 f_1)), _, arr (upd_step rfl rfl), h⟩
      · refine wp_skip ?_
        exact ⟨(f_1), _, arr (upd_step rfl rfl), h⟩

-- math.Abs
def F94 (x_1 : Nat) (w : World) (R : Nat → World → Prop) : Prop :=
  R (Int.toNat (bits .andNot .u64 (x_1 : Int) (9223372036854775808 : Int))) w
theorem F94_ok {x_1 : Nat} {w : World} {R : Nat → World → Prop} (h : F94 x_1 w R) : cl Try.prog 94 [.float .f64 (x_1)] tFlt w R := by
  unfold F94 at h
  refine calls_start 7 Try.func94 rfl rfl (Nat.le_of_ble_eq_true rfl) ?_
  refine wp_seq ?_
  refine wp_text [0] rfl ?_
  refine rv 2 rfl rfl rfl (q_assign (v := .float .f64 ((0 : Nat))) rfl rfl) ?_
  refine ro_nil ?_
  refine wp_seq ?_
  refine wp_text [0, 1, 2, 3, 4] rfl ?_
  refine rv 3 rfl rfl rfl (q_move (v := .float .f64 (x_1)) rfl rfl) ?_
  refine rv 4 rfl rfl rfl (q_f64bits (b := x_1) rfl ext83 rfl) ?_
  refine rv 5 rfl rfl rfl (q_andNot (a := (x_1 : Int)) (b := (9223372036854775808 : Int)) rfl rfl rfl) ?_
  refine rv 6 rfl rfl rfl (q_f64from (b := (bits .andNot .u64 (x_1 : Int) (9223372036854775808 : Int))) rfl ext82 rfl) ?_
  refine rv 2 rfl rfl rfl (q_assign (v := .float .f64 ((Int.toNat (bits .andNot .u64 (x_1 : Int) (9223372036854775808 : Int))))) rfl rfl) ?_
  refine ro_nil ?_
  refine wp_ret ?_
  exact ret_ok rfl (.cons (.tmp (v := .float .f64 ((Int.toNat (bits .andNot .u64 (x_1 : Int) (9223372036854775808 : Int))))) rfl) .nil) ⟨(Int.toNat (bits .andNot .u64 (x_1 : Int) (9223372036854775808 : Int))), rfl, h⟩

end Go.Proofs.Ytjkmeooncmhonaa.Cf
