/- Characteristic formulae of Go functions, and that they are. Printed by gen.py (own tool). -/
import Derived.Test.YtojcgejjdfcaaaaTy
namespace Go.Proofs.Ytojcgejjdfcaaaa.Cf
open Go
set_option maxRecDepth 100000
set_option maxHeartbeats 1000000
set_option linter.unusedVariables false
set_option linter.unusedSimpArgs false

-- moiety/moietyref13.Put
def F32_j2 (t_18 : Slc) (w19 : World) (R : Slc → World → Prop) : Prop :=
  R t_18 w19
def F32_l1 (l_1 : Slc) (a3 : Addr) (at_5 : Int) (w6 : World) (K7 : Int → World → Prop) (R : Slc → World → Prop) : Prop :=
  dr w6 fun w8 =>
  ex (fun x => (decide (at_5 < (l_1.len : Int))) = true → (IxA l_1 3 at_5) x) fun a9 =>
  ex (fun x => (decide (at_5 < (l_1.len : Int))) = true → (RdAt (tInt .i64) (a9.add 1) w8) x) fun x10 =>
  ex (fun x => (decide (at_5 < (l_1.len : Int))) = true → (RdAt (tInt .i64) (a3.add 1) w8) x) fun x11 =>
  ex (fun x => ((decide (at_5 < (l_1.len : Int))) && (!(decide (x10 < x11)))) = true → (IxA l_1 3 at_5) x) fun a12 =>
  ex (fun x => ((decide (at_5 < (l_1.len : Int))) && (!(decide (x10 < x11)))) = true → (RdAt (tInt .i64) (a12.add 1) w8) x) fun x13 =>
  ex (fun x => ((decide (at_5 < (l_1.len : Int))) && (!(decide (x10 < x11)))) = true → (RdAt (tInt .i64) (a3.add 1) w8) x) fun x14 =>
  ex (fun x => (((decide (at_5 < (l_1.len : Int))) && (!(decide (x10 < x11)))) && (x13 == x14)) = true → (IxA l_1 3 at_5) x) fun a15 =>
  ex (fun x => (((decide (at_5 < (l_1.len : Int))) && (!(decide (x10 < x11)))) && (x13 == x14)) = true → (RdAt (tInt .i64) (a15.add 0) w8) x) fun x16 =>
  ex (fun x => (((decide (at_5 < (l_1.len : Int))) && (!(decide (x10 < x11)))) && (x13 == x14)) = true → (RdAt (tInt .i64) (a3.add 0) w8) x) fun x17 =>
  if ((decide (at_5 < (l_1.len : Int))) && ((decide (x10 < x11)) || ((x13 == x14) && (decide (x16 < x17))))) = true then (
    K7 ((IntKind.i64.wrap (at_5 + (1 : Int)))) w8
  ) else (
    dr w8 fun w20 =>
    ex (Sub l_1 3 0 at_5 ((l_1).cap : Int)) fun s21 =>
    ex (Sub l_1 3 at_5 ((l_1).len : Int) ((l_1).cap : Int)) fun s22 =>
    ex (RdAt T79 a3 w20) fun x23 =>
    bth (
      nwS 80 T79 ([] : List S79) w20 fun a24 w25 =>
      bth (
        apd 80 T79 3 24 (⟨some a24, 0, 0⟩ : Slc) s21 w25 fun r27 w26 =>
        kp ((RdAt T79 a3 w26) x23) <|
        apl 80 T79 3 24 r27 [x23] w26 fun r32 w31 =>
        kp ((RdAt T79 a3 w31) x23) <|
        apd 80 T79 3 24 r32 s22 w31 fun r35 w34 =>
        kp ((RdAt T79 a3 w34) x23) <|
        F32_j2 r35 w34 R
      ) (
        nwS 80 T79 [x23] w25 fun a37 w38 =>
        apd 80 T79 3 24 (⟨some a24, 0, 0⟩ : Slc) s21 w38 fun r40 w39 =>
        kp ((RdAt T79 a3 w39) x23) <|
        apd 80 T79 3 24 r40 (⟨some a37, 1, 1⟩ : Slc) w39 fun r43 w42 =>
        kp ((RdAt T79 a3 w42) x23) <|
        apd 80 T79 3 24 r43 s22 w42 fun r46 w45 =>
        kp ((RdAt T79 a3 w45) x23) <|
        F32_j2 r46 w45 R
      )
    ) (
      nwS 80 T79 [x23] w20 fun a48 w49 =>
      nwS 80 T79 ([] : List S79) w49 fun a50 w51 =>
      apd 80 T79 3 24 (⟨some a50, 0, 0⟩ : Slc) s21 w51 fun r53 w52 =>
      kp ((RdAt T79 a3 w52) x23) <|
      apd 80 T79 3 24 r53 (⟨some a48, 1, 1⟩ : Slc) w52 fun r56 w55 =>
      kp ((RdAt T79 a3 w55) x23) <|
      apd 80 T79 3 24 r56 s22 w55 fun r59 w58 =>
      kp ((RdAt T79 a3 w58) x23) <|
      F32_j2 r59 w58 R
    )
  )
def F32 (l_1 : Slc) (x_2 : S79) (w : World) (R : Slc → World → Prop) : Prop :=
  nw 80 T79 x_2 w fun a3 w4 =>
  lp (fun (s : Int) w K => F32_l1 l_1 a3 s w K R) ((0 : Int)) w4
theorem F32_ok {l_1 : Slc} {x_2 : S79} {w : World} {R : Slc → World → Prop} (h : F32 l_1 x_2 w R) : cl Try.prog 32 [tSlc.enc (l_1), T79.enc (x_2)] tSlc w R := by
  unfold F32 at h
  refine calls_start 54 Try.func32 rfl rfl (Nat.le_of_ble_eq_true rfl) ?_
  refine wp_seq ?_
  refine wp_text [0, 1] rfl ?_
  obtain ⟨a3, w4, ha3, hw4, h⟩ := nw_open h
  refine ro_val (d := (some 3)) rfl (.free rfl) rfl (q_box (u := x_2) rfl ok80 rfl ha3 hw4) ?_
  refine ro_val (d := (some 4)) rfl (.free rfl) rfl (q_assign (v := tSlc.enc ((⟨none, 0, 0⟩ : Slc))) rfl rfl) ?_
  refine ro_nil ?_
  refine wp_seq ?_
  refine wp_text [0] rfl ?_
  refine ro_val (d := (some 5)) rfl (.free rfl) rfl (q_assign (v := .int .i64 ((0 : Int))) rfl rfl) ?_
  refine ro_nil ?_
  refine wp_seq ?_
  refine wp_block ?_
  refine loop_at (σ := Int) (fr := fun g (s : Int) => upd (upd (upd (g) 0 (tSlc.enc (l_1))) 3 (.pointer (some a3))) 5 (.int .i64 (s))) (s0 := ((0 : Int))) (upd_step (upd_step (upd_step rfl rfl) rfl) rfl) h ?_
  rintro at_5 g w6 K7 h
  unfold F32_l1 at h
  refine wp_seq ?_
  refine wp_seq ?_
  obtain ⟨w8, hw8, h⟩ := dr_open h
  refine wp_drawn 34 mixed rfl (by kernel_rfl) (by intro c a d v w h; cases d <;> exact h) hw8 (fun hD => ?_)
  refine rd_pure (i := 0) (d := (some 6)) hD (by kernel_rfl) (by kernel_rfl) rfl (.free rfl) rfl (fun _ => q_move (v := .int .i64 (at_5)) rfl rfl) ?_
  refine rd_pure (i := 1) (d := (some 7)) hD (by kernel_rfl) (by kernel_rfl) rfl (.free rfl) rfl (fun _ => q_move (v := tSlc.enc (l_1)) rfl rfl) ?_
  refine rd_pure (i := 2) (d := (some 8)) hD (by kernel_rfl) (by kernel_rfl) rfl (.free rfl) rfl (fun _ => q_len (s := l_1) rfl Try.underlying25 rfl) ?_
  refine rd_pure (i := 3) (d := (some 9)) hD (by kernel_rfl) (by kernel_rfl) rfl (.free rfl) rfl (fun _ => q_lss (a := at_5) (b := (l_1.len : Int)) rfl rfl rfl) ?_
  refine rd_pure (i := 4) (d := (some 10)) hD (by kernel_rfl) (by kernel_rfl) rfl (.free rfl) rfl (fun _ => q_move (v := .bool ((decide (at_5 < (l_1.len : Int))))) rfl rfl) ?_
  refine rd_gpure (i := 5) (g := (decide (at_5 < (l_1.len : Int)))) (d := (some 11)) hD (by kernel_rfl) (by kernel_rfl) rfl (.yes 4 10 true (decide (at_5 < (l_1.len : Int))) rfl rfl rfl rfl) rfl (fun hg _ => q_move (v := tSlc.enc (l_1)) rfl rfl) ?_
  refine rd_gpure (i := 6) (g := (decide (at_5 < (l_1.len : Int)))) (d := (some 12)) hD (by kernel_rfl) (by kernel_rfl) rfl (.yes 4 10 true (decide (at_5 < (l_1.len : Int))) rfl rfl rfl rfl) rfl (fun hg _ => q_move (v := .int .i64 (at_5)) rfl rfl) ?_
  obtain ⟨a9, ha9, h⟩ := h
  refine rd_gpure (i := 7) (g := (decide (at_5 < (l_1.len : Int)))) (d := (some 13)) hD (by kernel_rfl) (by kernel_rfl) rfl (.yes 4 10 true (decide (at_5 < (l_1.len : Int))) rfl rfl rfl rfl) rfl (fun hg _ => q_indexAddr (s := l_1) (i := at_5) rfl Try.underlying25 ok80 (gvb_yes hg) (gvb_yes hg) (ha9 hg)) ?_
  refine rd_gpure (i := 8) (g := (decide (at_5 < (l_1.len : Int)))) (d := (some 14)) hD (by kernel_rfl) (by kernel_rfl) rfl (.yes 4 10 true (decide (at_5 < (l_1.len : Int))) rfl rfl rfl rfl) rfl (fun hg _ => q_fieldAddr (a := a9) (off := 1) rfl Try.underlying80 rfl rfl ok3 (by decide) (gvb_yes hg)) ?_
  refine rd_gpure (i := 10) (g := (decide (at_5 < (l_1.len : Int)))) (d := (some 16)) hD (by kernel_rfl) (by kernel_rfl) rfl (.yes 4 10 true (decide (at_5 < (l_1.len : Int))) rfl rfl rfl rfl) rfl (fun hg _ => q_fieldAddr (a := a3) (off := 1) rfl Try.underlying80 rfl rfl ok3 (by decide) rfl) ?_
  obtain ⟨x10, hx10, h⟩ := h
  refine rd_gread (i := 9) (g := (decide (at_5 < (l_1.len : Int)))) (d := (some 15)) (fun W => (RdAt (tInt .i64) (a9.add 1) W) x10) hD (by kernel_rfl) (by kernel_rfl) rfl (.yes 4 10 true (decide (at_5 < (l_1.len : Int))) rfl rfl rfl rfl) rfl (fun hg W hr => q_load (T := (tInt .i64)) (u := x10) (a := (a9.add 1)) rfl ok3 (gvb_yes hg) hr) hx10 ?_
  obtain ⟨x11, hx11, h⟩ := h
  refine rd_gread (i := 11) (g := (decide (at_5 < (l_1.len : Int)))) (d := (some 17)) (fun W => (RdAt (tInt .i64) (a3.add 1) W) x11) hD (by kernel_rfl) (by kernel_rfl) rfl (.yes 4 10 true (decide (at_5 < (l_1.len : Int))) rfl rfl rfl rfl) rfl (fun hg W hr => q_load (T := (tInt .i64)) (u := x11) (a := (a3.add 1)) rfl ok3 (gvb_yes hg) hr) hx11 ?_
  refine rd_gpure (i := 12) (g := (decide (at_5 < (l_1.len : Int)))) (d := (some 18)) hD (by kernel_rfl) (by kernel_rfl) rfl (.yes 4 10 true (decide (at_5 < (l_1.len : Int))) rfl rfl rfl rfl) rfl (fun hg _ => q_lss (a := x10) (b := x11) rfl (gvb_yes hg) (gvb_yes hg)) ?_
  refine rd_gpure (i := 13) (g := (decide (at_5 < (l_1.len : Int)))) (d := (some 19)) hD (by kernel_rfl) (by kernel_rfl) rfl (.yes 4 10 true (decide (at_5 < (l_1.len : Int))) rfl rfl rfl rfl) rfl (fun hg _ => q_move (v := .bool ((decide (x10 < x11)))) rfl (gvb_yes hg)) ?_
  refine rd_gpure (i := 14) (g := ((decide (at_5 < (l_1.len : Int))) && (!(decide (x10 < x11))))) (d := (some 20)) hD (by kernel_rfl) (by kernel_rfl) rfl (.no 13 19 (decide (at_5 < (l_1.len : Int))) (decide (x10 < x11)) rfl rfl rfl rfl) rfl (fun hg _ => q_move (v := tSlc.enc (l_1)) rfl rfl) ?_
  refine rd_gpure (i := 15) (g := ((decide (at_5 < (l_1.len : Int))) && (!(decide (x10 < x11))))) (d := (some 21)) hD (by kernel_rfl) (by kernel_rfl) rfl (.no 13 19 (decide (at_5 < (l_1.len : Int))) (decide (x10 < x11)) rfl rfl rfl rfl) rfl (fun hg _ => q_move (v := .int .i64 (at_5)) rfl rfl) ?_
  obtain ⟨a12, ha12, h⟩ := h
  refine rd_gpure (i := 16) (g := ((decide (at_5 < (l_1.len : Int))) && (!(decide (x10 < x11))))) (d := (some 22)) hD (by kernel_rfl) (by kernel_rfl) rfl (.no 13 19 (decide (at_5 < (l_1.len : Int))) (decide (x10 < x11)) rfl rfl rfl rfl) rfl (fun hg _ => q_indexAddr (s := l_1) (i := at_5) rfl Try.underlying25 ok80 (gvb_yes hg) (gvb_yes hg) (ha12 hg)) ?_
  refine rd_gpure (i := 17) (g := ((decide (at_5 < (l_1.len : Int))) && (!(decide (x10 < x11))))) (d := (some 23)) hD (by kernel_rfl) (by kernel_rfl) rfl (.no 13 19 (decide (at_5 < (l_1.len : Int))) (decide (x10 < x11)) rfl rfl rfl rfl) rfl (fun hg _ => q_fieldAddr (a := a12) (off := 1) rfl Try.underlying80 rfl rfl ok3 (by decide) (gvb_yes hg)) ?_
  refine rd_gpure (i := 19) (g := ((decide (at_5 < (l_1.len : Int))) && (!(decide (x10 < x11))))) (d := (some 25)) hD (by kernel_rfl) (by kernel_rfl) rfl (.no 13 19 (decide (at_5 < (l_1.len : Int))) (decide (x10 < x11)) rfl rfl rfl rfl) rfl (fun hg _ => q_fieldAddr (a := a3) (off := 1) rfl Try.underlying80 rfl rfl ok3 (by decide) rfl) ?_
  obtain ⟨x13, hx13, h⟩ := h
  refine rd_gread (i := 18) (g := ((decide (at_5 < (l_1.len : Int))) && (!(decide (x10 < x11))))) (d := (some 24)) (fun W => (RdAt (tInt .i64) (a12.add 1) W) x13) hD (by kernel_rfl) (by kernel_rfl) rfl (.no 13 19 (decide (at_5 < (l_1.len : Int))) (decide (x10 < x11)) rfl rfl rfl rfl) rfl (fun hg W hr => q_load (T := (tInt .i64)) (u := x13) (a := (a12.add 1)) rfl ok3 (gvb_yes hg) hr) hx13 ?_
  obtain ⟨x14, hx14, h⟩ := h
  refine rd_gread (i := 20) (g := ((decide (at_5 < (l_1.len : Int))) && (!(decide (x10 < x11))))) (d := (some 26)) (fun W => (RdAt (tInt .i64) (a3.add 1) W) x14) hD (by kernel_rfl) (by kernel_rfl) rfl (.no 13 19 (decide (at_5 < (l_1.len : Int))) (decide (x10 < x11)) rfl rfl rfl rfl) rfl (fun hg W hr => q_load (T := (tInt .i64)) (u := x14) (a := (a3.add 1)) rfl ok3 (gvb_yes hg) hr) hx14 ?_
  refine rd_gpure (i := 21) (g := ((decide (at_5 < (l_1.len : Int))) && (!(decide (x10 < x11))))) (d := (some 27)) hD (by kernel_rfl) (by kernel_rfl) rfl (.no 13 19 (decide (at_5 < (l_1.len : Int))) (decide (x10 < x11)) rfl rfl rfl rfl) rfl (fun hg _ => q_eql (a := x13) (b := x14) rfl (gvb_yes hg) (gvb_yes hg)) ?_
  refine rd_gpure (i := 22) (g := ((decide (at_5 < (l_1.len : Int))) && (!(decide (x10 < x11))))) (d := (some 28)) hD (by kernel_rfl) (by kernel_rfl) rfl (.no 13 19 (decide (at_5 < (l_1.len : Int))) (decide (x10 < x11)) rfl rfl rfl rfl) rfl (fun hg _ => q_move (v := .bool ((x13 == x14))) rfl (gvb_yes hg)) ?_
  refine rd_gpure (i := 23) (g := (((decide (at_5 < (l_1.len : Int))) && (!(decide (x10 < x11)))) && (x13 == x14))) (d := (some 29)) hD (by kernel_rfl) (by kernel_rfl) rfl (.yes 22 28 ((decide (at_5 < (l_1.len : Int))) && (!(decide (x10 < x11)))) (x13 == x14) rfl rfl rfl rfl) rfl (fun hg _ => q_move (v := tSlc.enc (l_1)) rfl rfl) ?_
  refine rd_gpure (i := 24) (g := (((decide (at_5 < (l_1.len : Int))) && (!(decide (x10 < x11)))) && (x13 == x14))) (d := (some 30)) hD (by kernel_rfl) (by kernel_rfl) rfl (.yes 22 28 ((decide (at_5 < (l_1.len : Int))) && (!(decide (x10 < x11)))) (x13 == x14) rfl rfl rfl rfl) rfl (fun hg _ => q_move (v := .int .i64 (at_5)) rfl rfl) ?_
  obtain ⟨a15, ha15, h⟩ := h
  refine rd_gpure (i := 25) (g := (((decide (at_5 < (l_1.len : Int))) && (!(decide (x10 < x11)))) && (x13 == x14))) (d := (some 31)) hD (by kernel_rfl) (by kernel_rfl) rfl (.yes 22 28 ((decide (at_5 < (l_1.len : Int))) && (!(decide (x10 < x11)))) (x13 == x14) rfl rfl rfl rfl) rfl (fun hg _ => q_indexAddr (s := l_1) (i := at_5) rfl Try.underlying25 ok80 (gvb_yes hg) (gvb_yes hg) (ha15 hg)) ?_
  refine rd_gpure (i := 26) (g := (((decide (at_5 < (l_1.len : Int))) && (!(decide (x10 < x11)))) && (x13 == x14))) (d := (some 32)) hD (by kernel_rfl) (by kernel_rfl) rfl (.yes 22 28 ((decide (at_5 < (l_1.len : Int))) && (!(decide (x10 < x11)))) (x13 == x14) rfl rfl rfl rfl) rfl (fun hg _ => q_fieldAddr (a := a15) (off := 0) rfl Try.underlying80 rfl rfl ok3 (by decide) (gvb_yes hg)) ?_
  refine rd_gpure (i := 28) (g := (((decide (at_5 < (l_1.len : Int))) && (!(decide (x10 < x11)))) && (x13 == x14))) (d := (some 34)) hD (by kernel_rfl) (by kernel_rfl) rfl (.yes 22 28 ((decide (at_5 < (l_1.len : Int))) && (!(decide (x10 < x11)))) (x13 == x14) rfl rfl rfl rfl) rfl (fun hg _ => q_fieldAddr (a := a3) (off := 0) rfl Try.underlying80 rfl rfl ok3 (by decide) rfl) ?_
  obtain ⟨x16, hx16, h⟩ := h
  refine rd_gread (i := 27) (g := (((decide (at_5 < (l_1.len : Int))) && (!(decide (x10 < x11)))) && (x13 == x14))) (d := (some 33)) (fun W => (RdAt (tInt .i64) (a15.add 0) W) x16) hD (by kernel_rfl) (by kernel_rfl) rfl (.yes 22 28 ((decide (at_5 < (l_1.len : Int))) && (!(decide (x10 < x11)))) (x13 == x14) rfl rfl rfl rfl) rfl (fun hg W hr => q_load (T := (tInt .i64)) (u := x16) (a := (a15.add 0)) rfl ok3 (gvb_yes hg) hr) hx16 ?_
  obtain ⟨x17, hx17, h⟩ := h
  refine rd_gread (i := 29) (g := (((decide (at_5 < (l_1.len : Int))) && (!(decide (x10 < x11)))) && (x13 == x14))) (d := (some 35)) (fun W => (RdAt (tInt .i64) (a3.add 0) W) x17) hD (by kernel_rfl) (by kernel_rfl) rfl (.yes 22 28 ((decide (at_5 < (l_1.len : Int))) && (!(decide (x10 < x11)))) (x13 == x14) rfl rfl rfl rfl) rfl (fun hg W hr => q_load (T := (tInt .i64)) (u := x17) (a := (a3.add 0)) rfl ok3 (gvb_yes hg) hr) hx17 ?_
  refine rd_gpure (i := 30) (g := (((decide (at_5 < (l_1.len : Int))) && (!(decide (x10 < x11)))) && (x13 == x14))) (d := (some 36)) hD (by kernel_rfl) (by kernel_rfl) rfl (.yes 22 28 ((decide (at_5 < (l_1.len : Int))) && (!(decide (x10 < x11)))) (x13 == x14) rfl rfl rfl rfl) rfl (fun hg _ => q_lss (a := x16) (b := x17) rfl (gvb_yes hg) (gvb_yes hg)) ?_
  refine rd_gpure (i := 31) (g := ((decide (at_5 < (l_1.len : Int))) && (!(decide (x10 < x11))))) (d := (some 37)) hD (by kernel_rfl) (by kernel_rfl) rfl (.no 13 19 (decide (at_5 < (l_1.len : Int))) (decide (x10 < x11)) rfl rfl rfl rfl) rfl (fun hg _ => q_pickNT (g0 := ((decide (at_5 < (l_1.len : Int))) && (!(decide (x10 < x11))))) (a := (x13 == x14)) (b := (decide (x16 < x17))) hg rfl rfl rfl rfl) ?_
  refine rd_gpure (i := 32) (g := (decide (at_5 < (l_1.len : Int)))) (d := (some 38)) hD (by kernel_rfl) (by kernel_rfl) rfl (.yes 4 10 true (decide (at_5 < (l_1.len : Int))) rfl rfl rfl rfl) rfl (fun hg _ => q_pickNF (g0 := (decide (at_5 < (l_1.len : Int)))) (a := (decide (x10 < x11))) (c := ((x13 == x14) && (decide (x16 < x17)))) hg rfl rfl rfl rfl) ?_
  refine rd_pure (i := 33) (d := (some 39)) hD (by kernel_rfl) (by kernel_rfl) rfl (.free rfl) rfl (fun _ => q_pickGT (a := (decide (at_5 < (l_1.len : Int)))) (b := ((decide (x10 < x11)) || ((x13 == x14) && (decide (x16 < x17))))) rfl rfl rfl rfl) ?_
  refine rd_nil (by kernel_rfl) ?_
  refine wp_if (b := ((decide (at_5 < (l_1.len : Int))) && ((decide (x10 < x11)) || ((x13 == x14) && (decide (x16 < x17)))))) rfl h (fun hb61 h => ?_) (fun hb61 h => ?_)
  · refine wp_skip ?_
    refine wp_block ?_
    refine wp_text [0, 1, 2] rfl ?_
    refine ro_val (d := (some 40)) rfl (.free rfl) rfl (q_move (v := .int .i64 (at_5)) rfl rfl) ?_
    refine ro_val (d := (some 41)) rfl (.free rfl) rfl (q_add (a := at_5) (b := (1 : Int)) rfl rfl rfl) ?_
    refine ro_val (d := (some 5)) rfl (.free rfl) rfl (q_assign (v := .int .i64 ((IntKind.i64.wrap (at_5 + (1 : Int))))) rfl rfl) ?_
    refine ro_nil ?_
    exact ⟨((IntKind.i64.wrap (at_5 + (1 : Int)))), _, arr (upd_step (upd_step (upd_step rfl rfl) rfl) rfl), h⟩
  · refine wp_exit ?_
    refine seq_join (σ := Slc) (J := fun (s : Slc) w => F32_j2 s w R) (fr := fun g (s : Slc) => upd (g) 4 (tSlc.enc (s))) ?_ ?_
    · rintro t_18 g w19 h
      unfold F32_j2 at h
      refine wp_ret ?_
      exact ret_ok rfl (.cons (.tmp (v := tSlc.enc (t_18)) rfl) .nil) ⟨t_18, rfl, h⟩
    · obtain ⟨w20, hw20, h⟩ := dr_open h
      refine wp_drawn 13 mixed rfl (by kernel_rfl) (by intro c a d v w h; cases d <;> exact h) hw20 (fun hD => ?_)
      refine rd_pure (i := 1) (d := (some 43)) hD (by kernel_rfl) (by kernel_rfl) rfl (.free rfl) rfl (fun _ => q_move (v := tSlc.enc (l_1)) rfl rfl) ?_
      refine rd_pure (i := 2) (d := (some 44)) hD (by kernel_rfl) (by kernel_rfl) rfl (.free rfl) rfl (fun _ => q_move (v := .int .i64 (at_5)) rfl rfl) ?_
      obtain ⟨s21, hs21, h⟩ := h
      refine rd_pure (i := 3) (d := (some 45)) hD (by kernel_rfl) (by kernel_rfl) rfl (.free rfl) rfl (fun _ => q_sliceH (s := l_1) (h := at_5) rfl Try.underlying25 ok80 rfl rfl hs21) ?_
      refine rd_pure (i := 8) (d := (some 50)) hD (by kernel_rfl) (by kernel_rfl) rfl (.free rfl) rfl (fun _ => q_move (v := tSlc.enc (l_1)) rfl rfl) ?_
      refine rd_pure (i := 9) (d := (some 51)) hD (by kernel_rfl) (by kernel_rfl) rfl (.free rfl) rfl (fun _ => q_move (v := .int .i64 (at_5)) rfl rfl) ?_
      obtain ⟨s22, hs22, h⟩ := h
      refine rd_pure (i := 10) (d := (some 52)) hD (by kernel_rfl) (by kernel_rfl) rfl (.free rfl) rfl (fun _ => q_sliceL (s := l_1) (l := at_5) rfl Try.underlying25 ok80 rfl rfl hs22) ?_
      obtain ⟨x23, hx23, h⟩ := h
      refine rd_read (i := 5) (d := (some 47)) (fun W => (RdAt T79 a3 W) x23) hD (by kernel_rfl) (by kernel_rfl) rfl (.free rfl) rfl (fun W hr => q_load (T := T79) (u := x23) (a := a3) rfl ok80 rfl hr) hx23 ?_
      obtain ⟨h, h'⟩ := h
      refine rd_two (i := 0) (j := 6) (by kernel_rfl) ?_ ?_
      · clear h'
        obtain ⟨a24, w25, ha24, hw25, h⟩ := nwS_open h
        refine po_val (d := (some 42)) rfl (.free rfl) rfl (q_row0 (T := T79) rfl Try.underlying25 ok80 inf80 ha24 hw25) ⟨(hk_keep (fun h => keep_RdAt hw25 h) hk_nil), ?_⟩
        obtain ⟨h, h'⟩ := h
        refine rd_two (i := 4) (j := 6) (by kernel_rfl) ?_ ?_
        · clear h'
          refine po_wp rfl (.free rfl) (wp_append (d := (some 46)) (T := T79) rfl rfl Try.underlying25 ⟨_, Try.underlying25⟩ ok80 inf80 rfl rfl (Nat.lt_of_lt_of_le Nat.zero_lt_one (Nat.le_of_ble_eq_true rfl)) rfl rfl h ?_)
          intro r27 w26 h
          obtain ⟨hk28, h⟩ := h
          refine ⟨(hk_keep (fun _ => hk28) hk_nil), ?_⟩
          refine rd_one (i := 6) (by kernel_rfl) ?_
          obtain ⟨a29, w30, ha29, hw30, h⟩ := apl_open h
          refine po_val (d := (some 48)) rfl (.free rfl) rfl (q_rowOf (T := T79) (xs := [x23]) rfl Try.underlying25 ok80 inf80 rfl (by decide) (by decide) rfl ha29 hw30) ⟨(hk_wait (by kernel_rfl) hk_nil), ?_⟩
          refine rd_one (i := 7) (by kernel_rfl) ?_
          refine po_wp rfl (.free rfl) (wp_append (d := (some 49)) (T := T79) rfl rfl Try.underlying25 ⟨_, Try.underlying25⟩ ok80 inf80 rfl rfl (Nat.lt_of_lt_of_le Nat.zero_lt_one (Nat.le_of_ble_eq_true rfl)) rfl rfl h ?_)
          intro r32 w31 h
          obtain ⟨hk33, h⟩ := h
          refine ⟨(hk_keep (fun _ => hk33) hk_nil), ?_⟩
          refine rd_one (i := 11) (by kernel_rfl) ?_
          refine po_wp rfl (.free rfl) (wp_append (d := (some 53)) (T := T79) rfl rfl Try.underlying25 ⟨_, Try.underlying25⟩ ok80 inf80 rfl rfl (Nat.lt_of_lt_of_le Nat.zero_lt_one (Nat.le_of_ble_eq_true rfl)) rfl rfl h ?_)
          intro r35 w34 h
          obtain ⟨hk36, h⟩ := h
          refine ⟨(hk_keep (fun _ => hk36) hk_nil), ?_⟩
          refine rd_pure (i := 12) (d := (some 4)) hD (by kernel_rfl) (by kernel_rfl) rfl (.free rfl) rfl (fun _ => q_assign (v := tSlc.enc (r35)) rfl rfl) ?_
          refine rd_nil (by kernel_rfl) ?_
          exact ⟨(r35), _, arr (upd_step rfl rfl), h⟩
        · replace h := h'; clear h'
          obtain ⟨a37, w38, ha37, hw38, h⟩ := nwS_open h
          refine po_val (d := (some 48)) rfl (.free rfl) rfl (q_rowOf (T := T79) (xs := [x23]) rfl Try.underlying25 ok80 inf80 rfl (by decide) (by decide) rfl ha37 hw38) ⟨(hk_wait (by kernel_rfl) hk_nil), ?_⟩
          refine rd_one (i := 4) (by kernel_rfl) ?_
          refine po_wp rfl (.free rfl) (wp_append (d := (some 46)) (T := T79) rfl rfl Try.underlying25 ⟨_, Try.underlying25⟩ ok80 inf80 rfl rfl (Nat.lt_of_lt_of_le Nat.zero_lt_one (Nat.le_of_ble_eq_true rfl)) rfl rfl h ?_)
          intro r40 w39 h
          obtain ⟨hk41, h⟩ := h
          refine ⟨(hk_keep (fun _ => hk41) hk_nil), ?_⟩
          refine rd_one (i := 7) (by kernel_rfl) ?_
          refine po_wp rfl (.free rfl) (wp_append (d := (some 49)) (T := T79) rfl rfl Try.underlying25 ⟨_, Try.underlying25⟩ ok80 inf80 rfl rfl (Nat.lt_of_lt_of_le Nat.zero_lt_one (Nat.le_of_ble_eq_true rfl)) rfl rfl h ?_)
          intro r43 w42 h
          obtain ⟨hk44, h⟩ := h
          refine ⟨(hk_keep (fun _ => hk44) hk_nil), ?_⟩
          refine rd_one (i := 11) (by kernel_rfl) ?_
          refine po_wp rfl (.free rfl) (wp_append (d := (some 53)) (T := T79) rfl rfl Try.underlying25 ⟨_, Try.underlying25⟩ ok80 inf80 rfl rfl (Nat.lt_of_lt_of_le Nat.zero_lt_one (Nat.le_of_ble_eq_true rfl)) rfl rfl h ?_)
          intro r46 w45 h
          obtain ⟨hk47, h⟩ := h
          refine ⟨(hk_keep (fun _ => hk47) hk_nil), ?_⟩
          refine rd_pure (i := 12) (d := (some 4)) hD (by kernel_rfl) (by kernel_rfl) rfl (.free rfl) rfl (fun _ => q_assign (v := tSlc.enc (r46)) rfl rfl) ?_
          refine rd_nil (by kernel_rfl) ?_
          exact ⟨(r46), _, arr (upd_step rfl rfl), h⟩
      · replace h := h'; clear h'
        obtain ⟨a48, w49, ha48, hw49, h⟩ := nwS_open h
        refine po_val (d := (some 48)) rfl (.free rfl) rfl (q_rowOf (T := T79) (xs := [x23]) rfl Try.underlying25 ok80 inf80 rfl (by decide) (by decide) rfl ha48 hw49) ⟨(hk_wait (by kernel_rfl) hk_nil), ?_⟩
        refine rd_one (i := 0) (by kernel_rfl) ?_
        obtain ⟨a50, w51, ha50, hw51, h⟩ := nwS_open h
        refine po_val (d := (some 42)) rfl (.free rfl) rfl (q_row0 (T := T79) rfl Try.underlying25 ok80 inf80 ha50 hw51) ⟨(hk_keep (fun h => keep_RdAt hw51 h) hk_nil), ?_⟩
        refine rd_one (i := 4) (by kernel_rfl) ?_
        refine po_wp rfl (.free rfl) (wp_append (d := (some 46)) (T := T79) rfl rfl Try.underlying25 ⟨_, Try.underlying25⟩ ok80 inf80 rfl rfl (Nat.lt_of_lt_of_le Nat.zero_lt_one (Nat.le_of_ble_eq_true rfl)) rfl rfl h ?_)
        intro r53 w52 h
        obtain ⟨hk54, h⟩ := h
        refine ⟨(hk_keep (fun _ => hk54) hk_nil), ?_⟩
        refine rd_one (i := 7) (by kernel_rfl) ?_
        refine po_wp rfl (.free rfl) (wp_append (d := (some 49)) (T := T79) rfl rfl Try.underlying25 ⟨_, Try.underlying25⟩ ok80 inf80 rfl rfl (Nat.lt_of_lt_of_le Nat.zero_lt_one (Nat.le_of_ble_eq_true rfl)) rfl rfl h ?_)
        intro r56 w55 h
        obtain ⟨hk57, h⟩ := h
        refine ⟨(hk_keep (fun _ => hk57) hk_nil), ?_⟩
        refine rd_one (i := 11) (by kernel_rfl) ?_
        refine po_wp rfl (.free rfl) (wp_append (d := (some 53)) (T := T79) rfl rfl Try.underlying25 ⟨_, Try.underlying25⟩ ok80 inf80 rfl rfl (Nat.lt_of_lt_of_le Nat.zero_lt_one (Nat.le_of_ble_eq_true rfl)) rfl rfl h ?_)
        intro r59 w58 h
        obtain ⟨hk60, h⟩ := h
        refine ⟨(hk_keep (fun _ => hk60) hk_nil), ?_⟩
        refine rd_pure (i := 12) (d := (some 4)) hD (by kernel_rfl) (by kernel_rfl) rfl (.free rfl) rfl (fun _ => q_assign (v := tSlc.enc (r59)) rfl rfl) ?_
        refine rd_nil (by kernel_rfl) ?_
        exact ⟨(r59), _, arr (upd_step rfl rfl), h⟩

-- moiety/moietyref13.Give
def F33_j2 (i_10 : Int) (out_13 : Slc) (w14 : World) (K12 : Slc × Int → World → Prop) (R : (S27 × Slc) → World → Prop) : Prop :=
  K12 (out_13, (IntKind.i64.wrap (i_10 + (1 : Int)))) w14
def F33_j4 (k_29 : Int) (holds_33 : Slc) (w34 : World) (K31 : Slc × Int → World → Prop) (R : (S27 × Slc) → World → Prop) : Prop :=
  K31 (holds_33, (IntKind.i64.wrap (k_29 + (1 : Int)))) w34
def F33_l3 (a2 : Addr) (out_9 : Slc) (i_10 : Int) (a25 : Addr) (holds_28 : Slc) (k_29 : Int) (w30 : World) (K12 : Slc × Int → World → Prop) (K31 : Slc × Int → World → Prop) (R : (S27 × Slc) → World → Prop) : Prop :=
  ex (RdAt tSlc (a2.add 0) w30) fun x32 =>
  if (decide (k_29 < (x32.len : Int))) = true then (
    dr w30 fun w35 =>
    ex (RdAt tSlc (a2.add 0) w35) fun x36 =>
    ex (IxA x36 3 k_29) fun a37 =>
    ex (RdAt (tInt .i64) (a37.add 0) w35) fun x38 =>
    ex (RdAt (tInt .i64) (a25.add 0) w35) fun x39 =>
    ex (fun x => (x38 == x39) = true → (RdAt tSlc (a2.add 0) w35) x) fun x40 =>
    ex (fun x => (x38 == x39) = true → (IxA x40 3 k_29) x) fun a41 =>
    ex (fun x => (x38 == x39) = true → (RdAt (tInt .i64) (a41.add 1) w35) x) fun x42 =>
    ex (fun x => (x38 == x39) = true → (RdAt (tInt .i64) (a25.add 1) w35) x) fun x43 =>
    if ((x38 == x39) && (x42 == x43)) = true then (
      ex (RdAt tBool (a25.add 2) w35) fun x44 =>
      ex (fun x => (!x44) = true → (RdAt tSlc (a2.add 0) w35) x) fun x45 =>
      ex (fun x => (!x44) = true → (IxA x45 3 k_29) x) fun a46 =>
      ex (fun x => (!x44) = true → (RdAt tBool (a46.add 2) w35) x) fun x47 =>
      st tBool (a25.add 2) (x44 || x47) w35 fun w48 =>
      F33_j4 k_29 holds_28 w48 K31 R
    ) else (
      ex (RdAt tSlc (a2.add 0) w35) fun x49 =>
      ex (IxA x49 3 k_29) fun a50 =>
      ex (RdAt T79 a50 w35) fun x51 =>
      apl 80 T79 3 24 holds_28 [x51] w35 fun r55 w54 =>
      F33_j4 k_29 r55 w54 K31 R
    )
  ) else (
    dr w30 fun w57 =>
    ex (RdAt T79 a25 w57) fun x58 =>
    ex (RdAt tSlc (a2.add 1) w57) fun x59 =>
    ex (RdAt (tInt .i64) (a25.add 0) w57) fun x60 =>
    cl Try.prog 32 [tSlc.enc (holds_28), T79.enc (x58)] tSlc w57 fun r62 w61 =>
    kp ((RdAt tSlc (a2.add 1) w61) x59) <|
    kp ((RdAt (tInt .i64) (a25.add 0) w61) x60) <|
    cl Try.prog 31 [tSlc.enc (x59), .int .i64 (x60)] tSlc w61 fun r66 w65 =>
    kp ((RdAt T79 a25 w65) x58) <|
    st tSlc (a2.add 0) r62 w65 fun w68 =>
    kp ((RdAt (tInt .i64) (a25.add 0) w68) x60) <|
    st tSlc (a2.add 1) r66 w68 fun w70 =>
    ex (RdAt (tInt .i64) (a25.add 0) w70) fun x71 =>
    ex (RdAt (tInt .i64) (a25.add 1) w70) fun x72 =>
    apl 56 T55 2 16 out_9 [(⟨x71, x72⟩ : S55)] w70 fun r76 w75 =>
    F33_j2 i_10 r76 w75 K12 R
  )
def F33_l1 (a2 : Addr) (a4 : Addr) (x8 : Slc) (out_9 : Slc) (i_10 : Int) (w11 : World) (K12 : Slc × Int → World → Prop) (R : (S27 × Slc) → World → Prop) : Prop :=
  if (decide (i_10 < (x8.len : Int))) = true then (
    dr w11 fun w15 =>
    ex (IxA x8 3 i_10) fun a16 =>
    ex (RdAt T27 a2 w15) fun x17 =>
    ex (RdAt T79 a16 w15) fun x18 =>
    cl Try.prog 43 [T27.enc (x17), T79.enc (x18)] tBool w15 fun r20 w19 =>
    if (!r20) = true then (
      F33_j2 i_10 out_9 w19 K12 R
    ) else (
      nwS 80 T79 ([] : List S79) w19 fun a21 w22 =>
      ex (IxA x8 3 i_10) fun a23 =>
      ex (RdAt T79 a23 w22) fun x24 =>
      nw 80 T79 Z79 w22 fun a25 w26 =>
      st T79 a25 x24 w26 fun w27 =>
      lp (fun (s : Slc × Int) w K => F33_l3 a2 out_9 i_10 a25 s.1 s.2 w K12 K R) ((⟨some a21, 0, 0⟩ : Slc), (0 : Int)) w27
    )
  ) else (
    ex (RdAt T27 a2 w11) fun x79 =>
    st T27 a4 x79 w11 fun w80 =>
    ex (RdAt T27 a4 w80) fun x81 =>
    R (x81, out_9) w80
  )
def F33 (t_1 : S27) (w : World) (R : (S27 × Slc) → World → Prop) : Prop :=
  nw 28 T27 t_1 w fun a2 w3 =>
  nw 28 T27 Z27 w3 fun a4 w5 =>
  nwS 56 T55 ([] : List S55) w5 fun a6 w7 =>
  ex (RdAt tSlc (a2.add 1) w7) fun x8 =>
  lp (fun (s : Slc × Int) w K => F33_l1 a2 a4 x8 s.1 s.2 w K R) ((⟨some a6, 0, 0⟩ : Slc), (0 : Int)) w7
theorem F33_ok {t_1 : S27} {w : World} {R : (S27 × Slc) → World → Prop} (h : F33 t_1 w R) : cl Try.prog 33 [T27.enc (t_1)] (tTup2 T27 tSlc) w R := by
  unfold F33 at h
  refine calls_start 97 Try.func33 rfl rfl (Nat.le_of_ble_eq_true rfl) ?_
  refine wp_seq ?_
  refine wp_text [0, 1, 2] rfl ?_
  obtain ⟨a2, w3, ha2, hw3, h⟩ := nw_open h
  refine ro_val (d := (some 1)) rfl (.free rfl) rfl (q_box (u := t_1) rfl ok28 rfl ha2 hw3) ?_
  obtain ⟨a4, w5, ha4, hw5, h⟩ := nw_open h
  refine ro_val (d := (some 2)) rfl (.free rfl) rfl (q_alloc (u := Z27) rfl ok28 inf28 ha4 hw5) ?_
  refine ro_val (d := (some 3)) rfl (.free rfl) rfl (q_assign (v := tSlc.enc ((⟨none, 0, 0⟩ : Slc))) rfl rfl) ?_
  refine ro_nil ?_
  refine wp_seq ?_
  refine wp_text [0, 1] rfl ?_
  obtain ⟨a6, w7, ha6, hw7, h⟩ := nwS_open h
  refine ro_val (d := (some 10)) rfl (.free rfl) rfl (q_row0 (T := T55) rfl Try.underlying32 ok56 inf56 ha6 hw7) ?_
  refine ro_val (d := (some 4)) rfl (.free rfl) rfl (q_assign (v := tSlc.enc ((⟨some a6, 0, 0⟩ : Slc))) rfl rfl) ?_
  refine ro_nil ?_
  refine wp_seq ?_
  refine wp_text [0, 1, 2] rfl ?_
  refine ro_val (d := (some 11)) rfl (.free rfl) rfl (q_fieldAddr (a := a2) (off := 1) rfl Try.underlying28 rfl rfl ok25 (by decide) rfl) ?_
  obtain ⟨x8, hx8, h⟩ := h
  refine ro_val (d := (some 12)) rfl (.free rfl) rfl (q_load (T := tSlc) (u := x8) (a := (a2.add 1)) rfl ok25 rfl hx8) ?_
  refine ro_val (d := (some 5)) rfl (.free rfl) rfl (q_assign (v := tSlc.enc (x8)) rfl rfl) ?_
  refine ro_nil ?_
  refine wp_seq ?_
  refine wp_seq ?_
  refine wp_text [0] rfl ?_
  refine ro_val (d := (some 6)) rfl (.free rfl) rfl (q_assign (v := .int .i64 ((0 : Int))) rfl rfl) ?_
  refine ro_nil ?_
  refine wp_block ?_
  refine loop_at (σ := Slc × Int) (fr := fun g (s : Slc × Int) => upd (upd (upd (upd (upd (g) 1 (.pointer (some a2))) 2 (.pointer (some a4))) 5 (tSlc.enc (x8))) 4 (tSlc.enc (s.1))) 6 (.int .i64 (s.2))) (s0 := ((⟨some a6, 0, 0⟩ : Slc), (0 : Int))) (upd_step (upd_step (upd_step (upd_step (upd_step rfl rfl) rfl) rfl) rfl) rfl) h ?_
  rintro ⟨out_9, i_10⟩ g w11 K12 h
  unfold F33_l1 at h
  refine wp_seq ?_
  refine wp_seq ?_
  refine wp_text [0, 1, 2, 3] rfl ?_
  refine ro_val (d := (some 13)) rfl (.free rfl) rfl (q_move (v := .int .i64 (i_10)) rfl rfl) ?_
  refine ro_val (d := (some 14)) rfl (.free rfl) rfl (q_move (v := tSlc.enc (x8)) rfl rfl) ?_
  refine ro_val (d := (some 15)) rfl (.free rfl) rfl (q_len (s := x8) rfl Try.underlying25 rfl) ?_
  refine ro_val (d := (some 16)) rfl (.free rfl) rfl (q_lss (a := i_10) (b := (x8.len : Int)) rfl rfl rfl) ?_
  refine ro_nil ?_
  refine wp_if (b := (decide (i_10 < (x8.len : Int)))) rfl h (fun hb82 h => ?_) (fun hb82 h => ?_)
  · refine wp_skip ?_
    refine seq_join (σ := Slc) (J := fun (s : Slc) w => F33_j2 i_10 s w K12 R) (fr := fun g (s : Slc) => upd (upd (upd (upd (upd (g) 1 (.pointer (some a2))) 2 (.pointer (some a4))) 5 (tSlc.enc (x8))) 6 (.int .i64 (i_10))) 4 (tSlc.enc (s))) ?_ ?_
    · rintro out_13 g w14 h
      unfold F33_j2 at h
      refine wp_text [0, 1, 2] rfl ?_
      refine ro_val (d := (some 17)) rfl (.free rfl) rfl (q_move (v := .int .i64 (i_10)) rfl rfl) ?_
      refine ro_val (d := (some 18)) rfl (.free rfl) rfl (q_add (a := i_10) (b := (1 : Int)) rfl rfl rfl) ?_
      refine ro_val (d := (some 6)) rfl (.free rfl) rfl (q_assign (v := .int .i64 ((IntKind.i64.wrap (i_10 + (1 : Int))))) rfl rfl) ?_
      refine ro_nil ?_
      exact ⟨(out_13, (IntKind.i64.wrap (i_10 + (1 : Int)))), _, arr (upd_step (upd_step (upd_step (upd_step (upd_step rfl rfl) rfl) rfl) rfl) rfl), h⟩
    · refine wp_block ?_
      refine wp_seq ?_
      refine wp_seq ?_
      obtain ⟨w15, hw15, h⟩ := dr_open h
      refine wp_drawn 7 mixed rfl (by kernel_rfl) (by intro c a d v w h; cases d <;> exact h) hw15 (fun hD => ?_)
      refine rd_pure (i := 1) (d := (some 20)) hD (by kernel_rfl) (by kernel_rfl) rfl (.free rfl) rfl (fun _ => q_move (v := tSlc.enc (x8)) rfl rfl) ?_
      refine rd_pure (i := 2) (d := (some 21)) hD (by kernel_rfl) (by kernel_rfl) rfl (.free rfl) rfl (fun _ => q_move (v := .int .i64 (i_10)) rfl rfl) ?_
      obtain ⟨a16, ha16, h⟩ := h
      refine rd_pure (i := 3) (d := (some 22)) hD (by kernel_rfl) (by kernel_rfl) rfl (.free rfl) rfl (fun _ => q_indexAddr (s := x8) (i := i_10) rfl Try.underlying25 ok80 rfl rfl ha16) ?_
      obtain ⟨x17, hx17, h⟩ := h
      refine rd_read (i := 0) (d := (some 19)) (fun W => (RdAt T27 a2 W) x17) hD (by kernel_rfl) (by kernel_rfl) rfl (.free rfl) rfl (fun W hr => q_load (T := T27) (u := x17) (a := a2) rfl ok28 rfl hr) hx17 ?_
      obtain ⟨x18, hx18, h⟩ := h
      refine rd_read (i := 4) (d := (some 23)) (fun W => (RdAt T79 a16 W) x18) hD (by kernel_rfl) (by kernel_rfl) rfl (.free rfl) rfl (fun W hr => q_load (T := T79) (u := x18) (a := a16) rfl ok80 rfl hr) hx18 ?_
      refine rd_one (i := 5) (by kernel_rfl) ?_
      refine po_wp rfl (.free rfl) (wp_cl (d := (some 24)) rfl (q_call (k := 43) (l := [T27.enc (x17), T79.enc (x18)]) rfl ent43 rfl) h ?_)
      intro r20 w19 h
      refine ⟨(hk_wait (by kernel_rfl) (hk_wait (by kernel_rfl) hk_nil)), ?_⟩
      refine rd_pure (i := 6) (d := (some 25)) hD (by kernel_rfl) (by kernel_rfl) rfl (.free rfl) rfl (fun _ => q_not (b := r20) rfl rfl) ?_
      refine rd_nil (by kernel_rfl) ?_
      refine wp_if (b := (!r20)) rfl h (fun hb78 h => ?_) (fun hb78 h => ?_)
      · refine wp_exit ?_
        exact ⟨(out_9), _, arr (upd_step (upd_step (upd_step (upd_step (upd_step rfl rfl) rfl) rfl) rfl) rfl), h⟩
      · refine wp_skip ?_
        refine wp_seq ?_
        refine wp_text [0, 1] rfl ?_
        obtain ⟨a21, w22, ha21, hw22, h⟩ := nwS_open h
        refine ro_val (d := (some 26)) rfl (.free rfl) rfl (q_row0 (T := T79) rfl Try.underlying25 ok80 inf80 ha21 hw22) ?_
        refine ro_val (d := (some 7)) rfl (.free rfl) rfl (q_assign (v := tSlc.enc ((⟨some a21, 0, 0⟩ : Slc))) rfl rfl) ?_
        refine ro_nil ?_
        refine wp_seq ?_
        refine wp_text [0, 1, 2, 3, 4, 5] rfl ?_
        refine ro_val (d := (some 27)) rfl (.free rfl) rfl (q_move (v := tSlc.enc (x8)) rfl rfl) ?_
        refine ro_val (d := (some 28)) rfl (.free rfl) rfl (q_move (v := .int .i64 (i_10)) rfl rfl) ?_
        obtain ⟨a23, ha23, h⟩ := h
        refine ro_val (d := (some 29)) rfl (.free rfl) rfl (q_indexAddr (s := x8) (i := i_10) rfl Try.underlying25 ok80 rfl rfl ha23) ?_
        obtain ⟨x24, hx24, h⟩ := h
        refine ro_val (d := (some 30)) rfl (.free rfl) rfl (q_load (T := T79) (u := x24) (a := a23) rfl ok80 rfl hx24) ?_
        obtain ⟨a25, w26, ha25, hw26, h⟩ := nw_open h
        refine ro_val (d := (some 8)) rfl (.free rfl) rfl (q_alloc (u := Z79) rfl ok80 inf80 ha25 hw26) ?_
        obtain ⟨w27, hw27, hrw27, h⟩ := st_open h
        refine ro_skip (d := none) rfl (.free rfl) rfl (q_store (T := T79) (u := x24) (a := a25) rfl ok80 rfl rfl hrw27 hw27) ?_
        refine ro_nil ?_
        refine wp_seq ?_
        refine wp_seq ?_
        refine wp_text [0] rfl ?_
        refine ro_val (d := (some 9)) rfl (.free rfl) rfl (q_assign (v := .int .i64 ((0 : Int))) rfl rfl) ?_
        refine ro_nil ?_
        refine wp_block ?_
        refine loop_at (σ := Slc × Int) (fr := fun g (s : Slc × Int) => upd (upd (upd (upd (upd (upd (upd (upd (g) 1 (.pointer (some a2))) 2 (.pointer (some a4))) 4 (tSlc.enc (out_9))) 5 (tSlc.enc (x8))) 6 (.int .i64 (i_10))) 8 (.pointer (some a25))) 7 (tSlc.enc (s.1))) 9 (.int .i64 (s.2))) (s0 := ((⟨some a21, 0, 0⟩ : Slc), (0 : Int))) (upd_step (upd_step (upd_step (upd_step (upd_step (upd_step (upd_step (upd_step rfl rfl) rfl) rfl) rfl) rfl) rfl) rfl) rfl) h ?_
        rintro ⟨holds_28, k_29⟩ g w30 K31 h
        unfold F33_l3 at h
        refine wp_seq ?_
        refine wp_seq ?_
        refine wp_text [0, 1, 2, 3, 4] rfl ?_
        refine ro_val (d := (some 31)) rfl (.free rfl) rfl (q_move (v := .int .i64 (k_29)) rfl rfl) ?_
        refine ro_val (d := (some 32)) rfl (.free rfl) rfl (q_fieldAddr (a := a2) (off := 0) rfl Try.underlying28 rfl rfl ok25 (by decide) rfl) ?_
        obtain ⟨x32, hx32, h⟩ := h
        refine ro_val (d := (some 33)) rfl (.free rfl) rfl (q_load (T := tSlc) (u := x32) (a := (a2.add 0)) rfl ok25 rfl hx32) ?_
        refine ro_val (d := (some 34)) rfl (.free rfl) rfl (q_len (s := x32) rfl Try.underlying25 rfl) ?_
        refine ro_val (d := (some 35)) rfl (.free rfl) rfl (q_lss (a := k_29) (b := (x32.len : Int)) rfl rfl rfl) ?_
        refine ro_nil ?_
        refine wp_if (b := (decide (k_29 < (x32.len : Int)))) rfl h (fun hb77 h => ?_) (fun hb77 h => ?_)
        · refine wp_skip ?_
          refine seq_join (σ := Slc) (J := fun (s : Slc) w => F33_j4 k_29 s w K31 R) (fr := fun g (s : Slc) => upd (upd (upd (upd (upd (upd (upd (upd (g) 1 (.pointer (some a2))) 2 (.pointer (some a4))) 4 (tSlc.enc (out_9))) 5 (tSlc.enc (x8))) 6 (.int .i64 (i_10))) 8 (.pointer (some a25))) 9 (.int .i64 (k_29))) 7 (tSlc.enc (s))) ?_ ?_
          · rintro holds_33 g w34 h
            unfold F33_j4 at h
            refine wp_text [0, 1, 2] rfl ?_
            refine ro_val (d := (some 36)) rfl (.free rfl) rfl (q_move (v := .int .i64 (k_29)) rfl rfl) ?_
            refine ro_val (d := (some 37)) rfl (.free rfl) rfl (q_add (a := k_29) (b := (1 : Int)) rfl rfl rfl) ?_
            refine ro_val (d := (some 9)) rfl (.free rfl) rfl (q_assign (v := .int .i64 ((IntKind.i64.wrap (k_29 + (1 : Int))))) rfl rfl) ?_
            refine ro_nil ?_
            exact ⟨(holds_33, (IntKind.i64.wrap (k_29 + (1 : Int)))), _, arr (upd_step (upd_step (upd_step (upd_step (upd_step (upd_step (upd_step (upd_step rfl rfl) rfl) rfl) rfl) rfl) rfl) rfl) rfl), h⟩
          · refine wp_block ?_
            refine wp_seq ?_
            obtain ⟨w35, hw35, h⟩ := dr_open h
            refine wp_drawn 20 mixed rfl (by kernel_rfl) (by intro c a d v w h; cases d <;> exact h) hw35 (fun hD => ?_)
            refine rd_pure (i := 0) (d := (some 38)) hD (by kernel_rfl) (by kernel_rfl) rfl (.free rfl) rfl (fun _ => q_fieldAddr (a := a2) (off := 0) rfl Try.underlying28 rfl rfl ok25 (by decide) rfl) ?_
            refine rd_pure (i := 2) (d := (some 40)) hD (by kernel_rfl) (by kernel_rfl) rfl (.free rfl) rfl (fun _ => q_move (v := .int .i64 (k_29)) rfl rfl) ?_
            refine rd_pure (i := 6) (d := (some 44)) hD (by kernel_rfl) (by kernel_rfl) rfl (.free rfl) rfl (fun _ => q_fieldAddr (a := a25) (off := 0) rfl Try.underlying80 rfl rfl ok3 (by decide) rfl) ?_
            obtain ⟨x36, hx36, h⟩ := h
            refine rd_read (i := 1) (d := (some 39)) (fun W => (RdAt tSlc (a2.add 0) W) x36) hD (by kernel_rfl) (by kernel_rfl) rfl (.free rfl) rfl (fun W hr => q_load (T := tSlc) (u := x36) (a := (a2.add 0)) rfl ok25 rfl hr) hx36 ?_
            obtain ⟨a37, ha37, h⟩ := h
            refine rd_pure (i := 3) (d := (some 41)) hD (by kernel_rfl) (by kernel_rfl) rfl (.free rfl) rfl (fun _ => q_indexAddr (s := x36) (i := k_29) rfl Try.underlying25 ok80 rfl rfl ha37) ?_
            refine rd_pure (i := 4) (d := (some 42)) hD (by kernel_rfl) (by kernel_rfl) rfl (.free rfl) rfl (fun _ => q_fieldAddr (a := a37) (off := 0) rfl Try.underlying80 rfl rfl ok3 (by decide) rfl) ?_
            obtain ⟨x38, hx38, h⟩ := h
            refine rd_read (i := 5) (d := (some 43)) (fun W => (RdAt (tInt .i64) (a37.add 0) W) x38) hD (by kernel_rfl) (by kernel_rfl) rfl (.free rfl) rfl (fun W hr => q_load (T := (tInt .i64)) (u := x38) (a := (a37.add 0)) rfl ok3 rfl hr) hx38 ?_
            obtain ⟨x39, hx39, h⟩ := h
            refine rd_read (i := 7) (d := (some 45)) (fun W => (RdAt (tInt .i64) (a25.add 0) W) x39) hD (by kernel_rfl) (by kernel_rfl) rfl (.free rfl) rfl (fun W hr => q_load (T := (tInt .i64)) (u := x39) (a := (a25.add 0)) rfl ok3 rfl hr) hx39 ?_
            refine rd_pure (i := 8) (d := (some 46)) hD (by kernel_rfl) (by kernel_rfl) rfl (.free rfl) rfl (fun _ => q_eql (a := x38) (b := x39) rfl rfl rfl) ?_
            refine rd_pure (i := 9) (d := (some 47)) hD (by kernel_rfl) (by kernel_rfl) rfl (.free rfl) rfl (fun _ => q_move (v := .bool ((x38 == x39))) rfl rfl) ?_
            refine rd_gpure (i := 10) (g := (x38 == x39)) (d := (some 48)) hD (by kernel_rfl) (by kernel_rfl) rfl (.yes 9 47 true (x38 == x39) rfl rfl rfl rfl) rfl (fun hg _ => q_fieldAddr (a := a2) (off := 0) rfl Try.underlying28 rfl rfl ok25 (by decide) rfl) ?_
            refine rd_gpure (i := 12) (g := (x38 == x39)) (d := (some 50)) hD (by kernel_rfl) (by kernel_rfl) rfl (.yes 9 47 true (x38 == x39) rfl rfl rfl rfl) rfl (fun hg _ => q_move (v := .int .i64 (k_29)) rfl rfl) ?_
            refine rd_gpure (i := 16) (g := (x38 == x39)) (d := (some 54)) hD (by kernel_rfl) (by kernel_rfl) rfl (.yes 9 47 true (x38 == x39) rfl rfl rfl rfl) rfl (fun hg _ => q_fieldAddr (a := a25) (off := 1) rfl Try.underlying80 rfl rfl ok3 (by decide) rfl) ?_
            obtain ⟨x40, hx40, h⟩ := h
            refine rd_gread (i := 11) (g := (x38 == x39)) (d := (some 49)) (fun W => (RdAt tSlc (a2.add 0) W) x40) hD (by kernel_rfl) (by kernel_rfl) rfl (.yes 9 47 true (x38 == x39) rfl rfl rfl rfl) rfl (fun hg W hr => q_load (T := tSlc) (u := x40) (a := (a2.add 0)) rfl ok25 (gvb_yes hg) hr) hx40 ?_
            obtain ⟨a41, ha41, h⟩ := h
            refine rd_gpure (i := 13) (g := (x38 == x39)) (d := (some 51)) hD (by kernel_rfl) (by kernel_rfl) rfl (.yes 9 47 true (x38 == x39) rfl rfl rfl rfl) rfl (fun hg _ => q_indexAddr (s := x40) (i := k_29) rfl Try.underlying25 ok80 (gvb_yes hg) (gvb_yes hg) (ha41 hg)) ?_
            refine rd_gpure (i := 14) (g := (x38 == x39)) (d := (some 52)) hD (by kernel_rfl) (by kernel_rfl) rfl (.yes 9 47 true (x38 == x39) rfl rfl rfl rfl) rfl (fun hg _ => q_fieldAddr (a := a41) (off := 1) rfl Try.underlying80 rfl rfl ok3 (by decide) (gvb_yes hg)) ?_
            obtain ⟨x42, hx42, h⟩ := h
            refine rd_gread (i := 15) (g := (x38 == x39)) (d := (some 53)) (fun W => (RdAt (tInt .i64) (a41.add 1) W) x42) hD (by kernel_rfl) (by kernel_rfl) rfl (.yes 9 47 true (x38 == x39) rfl rfl rfl rfl) rfl (fun hg W hr => q_load (T := (tInt .i64)) (u := x42) (a := (a41.add 1)) rfl ok3 (gvb_yes hg) hr) hx42 ?_
            obtain ⟨x43, hx43, h⟩ := h
            refine rd_gread (i := 17) (g := (x38 == x39)) (d := (some 55)) (fun W => (RdAt (tInt .i64) (a25.add 1) W) x43) hD (by kernel_rfl) (by kernel_rfl) rfl (.yes 9 47 true (x38 == x39) rfl rfl rfl rfl) rfl (fun hg W hr => q_load (T := (tInt .i64)) (u := x43) (a := (a25.add 1)) rfl ok3 (gvb_yes hg) hr) hx43 ?_
            refine rd_gpure (i := 18) (g := (x38 == x39)) (d := (some 56)) hD (by kernel_rfl) (by kernel_rfl) rfl (.yes 9 47 true (x38 == x39) rfl rfl rfl rfl) rfl (fun hg _ => q_eql (a := x42) (b := x43) rfl (gvb_yes hg) (gvb_yes hg)) ?_
            refine rd_pure (i := 19) (d := (some 57)) hD (by kernel_rfl) (by kernel_rfl) rfl (.free rfl) rfl (fun _ => q_pickGT (a := (x38 == x39)) (b := (x42 == x43)) rfl rfl rfl rfl) ?_
            refine rd_nil (by kernel_rfl) ?_
            refine wp_if (b := ((x38 == x39) && (x42 == x43))) rfl h (fun hb56 h => ?_) (fun hb56 h => ?_)
            · refine wp_text [0, 1, 2, 3, 4, 5, 6, 7, 8, 9, 10, 11] rfl ?_
              refine ro_val (d := (some 58)) rfl (.free rfl) rfl (q_fieldAddr (a := a25) (off := 2) rfl Try.underlying80 rfl rfl ok4 (by decide) rfl) ?_
              obtain ⟨x44, hx44, h⟩ := h
              refine ro_val (d := (some 59)) rfl (.free rfl) rfl (q_load (T := tBool) (u := x44) (a := (a25.add 2)) rfl ok4 rfl hx44) ?_
              refine ro_val (d := (some 60)) rfl (.free rfl) rfl (q_move (v := .bool (x44)) rfl rfl) ?_
              refine ro_gval (g := (!x44)) (d := (some 61)) rfl (.no 2 60 true x44 rfl rfl rfl rfl) rfl (fun hg => q_fieldAddr (a := a2) (off := 0) rfl Try.underlying28 rfl rfl ok25 (by decide) rfl) ?_
              obtain ⟨x45, hx45, h⟩ := h
              refine ro_gval (g := (!x44)) (d := (some 62)) rfl (.no 2 60 true x44 rfl rfl rfl rfl) rfl (fun hg => q_load (T := tSlc) (u := x45) (a := (a2.add 0)) rfl ok25 (gvb_yes hg) (hx45 hg)) ?_
              refine ro_gval (g := (!x44)) (d := (some 63)) rfl (.no 2 60 true x44 rfl rfl rfl rfl) rfl (fun hg => q_move (v := .int .i64 (k_29)) rfl rfl) ?_
              obtain ⟨a46, ha46, h⟩ := h
              refine ro_gval (g := (!x44)) (d := (some 64)) rfl (.no 2 60 true x44 rfl rfl rfl rfl) rfl (fun hg => q_indexAddr (s := x45) (i := k_29) rfl Try.underlying25 ok80 (gvb_yes hg) (gvb_yes hg) (ha46 hg)) ?_
              refine ro_gval (g := (!x44)) (d := (some 65)) rfl (.no 2 60 true x44 rfl rfl rfl rfl) rfl (fun hg => q_fieldAddr (a := a46) (off := 2) rfl Try.underlying80 rfl rfl ok4 (by decide) (gvb_yes hg)) ?_
              obtain ⟨x47, hx47, h⟩ := h
              refine ro_gval (g := (!x44)) (d := (some 66)) rfl (.no 2 60 true x44 rfl rfl rfl rfl) rfl (fun hg => q_load (T := tBool) (u := x47) (a := (a46.add 2)) rfl ok4 (gvb_yes hg) (hx47 hg)) ?_
              refine ro_val (d := (some 67)) rfl (.free rfl) rfl (q_pickGF (a := x44) (c := x47) rfl rfl rfl rfl) ?_
              refine ro_val (d := (some 68)) rfl (.free rfl) rfl (q_fieldAddr (a := a25) (off := 2) rfl Try.underlying80 rfl rfl ok4 (by decide) rfl) ?_
              obtain ⟨w48, hw48, hrw48, h⟩ := st_open h
              refine ro_skip (d := none) rfl (.free rfl) rfl (q_store (T := tBool) (u := (x44 || x47)) (a := (a25.add 2)) rfl ok4 rfl rfl hrw48 hw48) ?_
              refine ro_nil ?_
              exact ⟨(holds_28), _, arr (upd_step (upd_step (upd_step (upd_step (upd_step (upd_step (upd_step (upd_step rfl rfl) rfl) rfl) rfl) rfl) rfl) rfl) rfl), h⟩
            · refine wp_text [0, 1, 2, 3, 4, 5, 6, 7, 8] rfl ?_
              refine ro_val (d := (some 69)) rfl (.free rfl) rfl (q_move (v := tSlc.enc (holds_28)) rfl rfl) ?_
              refine ro_val (d := (some 70)) rfl (.free rfl) rfl (q_fieldAddr (a := a2) (off := 0) rfl Try.underlying28 rfl rfl ok25 (by decide) rfl) ?_
              obtain ⟨x49, hx49, h⟩ := h
              refine ro_val (d := (some 71)) rfl (.free rfl) rfl (q_load (T := tSlc) (u := x49) (a := (a2.add 0)) rfl ok25 rfl hx49) ?_
              refine ro_val (d := (some 72)) rfl (.free rfl) rfl (q_move (v := .int .i64 (k_29)) rfl rfl) ?_
              obtain ⟨a50, ha50, h⟩ := h
              refine ro_val (d := (some 73)) rfl (.free rfl) rfl (q_indexAddr (s := x49) (i := k_29) rfl Try.underlying25 ok80 rfl rfl ha50) ?_
              obtain ⟨x51, hx51, h⟩ := h
              refine ro_val (d := (some 74)) rfl (.free rfl) rfl (q_load (T := T79) (u := x51) (a := a50) rfl ok80 rfl hx51) ?_
              obtain ⟨a52, w53, ha52, hw53, h⟩ := apl_open h
              refine ro_val (d := (some 75)) rfl (.free rfl) rfl (q_rowOf (T := T79) (xs := [x51]) rfl Try.underlying25 ok80 inf80 rfl (by decide) (by decide) rfl ha52 hw53) ?_
              refine ro_wp rfl (.free rfl) (wp_append (d := (some 76)) (T := T79) rfl rfl Try.underlying25 ⟨_, Try.underlying25⟩ ok80 inf80 rfl rfl (Nat.lt_of_lt_of_le Nat.zero_lt_one (Nat.le_of_ble_eq_true rfl)) rfl rfl h ?_)
              intro r55 w54 h
              refine ro_val (d := (some 7)) rfl (.free rfl) rfl (q_assign (v := tSlc.enc (r55)) rfl rfl) ?_
              refine ro_nil ?_
              exact ⟨(r55), _, arr (upd_step (upd_step (upd_step (upd_step (upd_step (upd_step (upd_step (upd_step rfl rfl) rfl) rfl) rfl) rfl) rfl) rfl) rfl), h⟩
        · refine wp_exit ?_
          refine wp_seq ?_
          obtain ⟨w57, hw57, h⟩ := dr_open h
          refine wp_drawn 12 mixed rfl (by kernel_rfl) (by intro c a d v w h; cases d <;> exact h) hw57 (fun hD => ?_)
          refine rd_pure (i := 0) (d := (some 77)) hD (by kernel_rfl) (by kernel_rfl) rfl (.free rfl) rfl (fun _ => q_move (v := tSlc.enc (holds_28)) rfl rfl) ?_
          refine rd_pure (i := 3) (d := (some 80)) hD (by kernel_rfl) (by kernel_rfl) rfl (.free rfl) rfl (fun _ => q_fieldAddr (a := a2) (off := 1) rfl Try.underlying28 rfl rfl ok25 (by decide) rfl) ?_
          refine rd_pure (i := 5) (d := (some 82)) hD (by kernel_rfl) (by kernel_rfl) rfl (.free rfl) rfl (fun _ => q_fieldAddr (a := a25) (off := 0) rfl Try.underlying80 rfl rfl ok3 (by decide) rfl) ?_
          obtain ⟨x58, hx58, h⟩ := h
          refine rd_read (i := 1) (d := (some 78)) (fun W => (RdAt T79 a25 W) x58) hD (by kernel_rfl) (by kernel_rfl) rfl (.free rfl) rfl (fun W hr => q_load (T := T79) (u := x58) (a := a25) rfl ok80 rfl hr) hx58 ?_
          obtain ⟨x59, hx59, h⟩ := h
          refine rd_read (i := 4) (d := (some 81)) (fun W => (RdAt tSlc (a2.add 1) W) x59) hD (by kernel_rfl) (by kernel_rfl) rfl (.free rfl) rfl (fun W hr => q_load (T := tSlc) (u := x59) (a := (a2.add 1)) rfl ok25 rfl hr) hx59 ?_
          obtain ⟨x60, hx60, h⟩ := h
          refine rd_read (i := 6) (d := (some 83)) (fun W => (RdAt (tInt .i64) (a25.add 0) W) x60) hD (by kernel_rfl) (by kernel_rfl) rfl (.free rfl) rfl (fun W hr => q_load (T := (tInt .i64)) (u := x60) (a := (a25.add 0)) rfl ok3 rfl hr) hx60 ?_
          refine rd_one (i := 2) (by kernel_rfl) ?_
          refine po_wp rfl (.free rfl) (wp_cl (d := (some 79)) rfl (q_call (k := 32) (l := [tSlc.enc (holds_28), T79.enc (x58)]) rfl ent32 rfl) h ?_)
          intro r62 w61 h
          obtain ⟨hk63, h⟩ := h
          obtain ⟨hk64, h⟩ := h
          refine ⟨(hk_keep (fun _ => hk64) (hk_keep (fun _ => hk63) (hk_wait (by kernel_rfl) hk_nil))), ?_⟩
          refine rd_pure (i := 8) (d := (some 85)) hD (by kernel_rfl) (by kernel_rfl) rfl (.free rfl) rfl (fun _ => q_fieldAddr (a := a2) (off := 0) rfl Try.underlying28 rfl rfl ok25 (by decide) rfl) ?_
          refine rd_one (i := 7) (by kernel_rfl) ?_
          refine po_wp rfl (.free rfl) (wp_cl (d := (some 84)) rfl (q_call (k := 31) (l := [tSlc.enc (x59), .int .i64 (x60)]) rfl ent31 rfl) h ?_)
          intro r66 w65 h
          obtain ⟨hk67, h⟩ := h
          refine ⟨(hk_wait (by kernel_rfl) (hk_wait (by kernel_rfl) (hk_keep (fun _ => hk67) hk_nil))), ?_⟩
          refine rd_one (i := 9) (by kernel_rfl) ?_
          obtain ⟨w68, hw68, hrw68, h⟩ := st_open h
          obtain ⟨hk69, h⟩ := h
          refine po_skip (d := none) rfl (.free rfl) rfl (q_store (T := tSlc) (u := r62) (a := (a2.add 0)) rfl ok25 rfl rfl hrw68 hw68) ⟨(hk_keep (fun _ => hk69) (hk_wait (by kernel_rfl) (hk_wait (by kernel_rfl) hk_nil))), ?_⟩
          refine rd_pure (i := 10) (d := (some 86)) hD (by kernel_rfl) (by kernel_rfl) rfl (.free rfl) rfl (fun _ => q_fieldAddr (a := a2) (off := 1) rfl Try.underlying28 rfl rfl ok25 (by decide) rfl) ?_
          refine rd_one (i := 11) (by kernel_rfl) ?_
          obtain ⟨w70, hw70, hrw70, h⟩ := st_open h
          refine po_skip (d := none) rfl (.free rfl) rfl (q_store (T := tSlc) (u := r66) (a := (a2.add 1)) rfl ok25 rfl rfl hrw70 hw70) ⟨(hk_wait (by kernel_rfl) (hk_wait (by kernel_rfl) (hk_wait (by kernel_rfl) hk_nil))), ?_⟩
          refine rd_nil (by kernel_rfl) ?_
          refine wp_text [0, 1, 2, 3, 4, 5, 6, 7, 8] rfl ?_
          refine ro_val (d := (some 87)) rfl (.free rfl) rfl (q_move (v := tSlc.enc (out_9)) rfl rfl) ?_
          refine ro_val (d := (some 88)) rfl (.free rfl) rfl (q_fieldAddr (a := a25) (off := 0) rfl Try.underlying80 rfl rfl ok3 (by decide) rfl) ?_
          obtain ⟨x71, hx71, h⟩ := h
          refine ro_val (d := (some 89)) rfl (.free rfl) rfl (q_load (T := (tInt .i64)) (u := x71) (a := (a25.add 0)) rfl ok3 rfl hx71) ?_
          refine ro_val (d := (some 90)) rfl (.free rfl) rfl (q_fieldAddr (a := a25) (off := 1) rfl Try.underlying80 rfl rfl ok3 (by decide) rfl) ?_
          obtain ⟨x72, hx72, h⟩ := h
          refine ro_val (d := (some 91)) rfl (.free rfl) rfl (q_load (T := (tInt .i64)) (u := x72) (a := (a25.add 1)) rfl ok3 rfl hx72) ?_
          refine ro_val (d := (some 92)) rfl (.free rfl) rfl (q_build56_0_1 (v0 := x71) (v1 := x72) rfl rfl rfl) ?_
          obtain ⟨a73, w74, ha73, hw74, h⟩ := apl_open h
          refine ro_val (d := (some 93)) rfl (.free rfl) rfl (q_rowOf (T := T55) (xs := [(⟨x71, x72⟩ : S55)]) rfl Try.underlying32 ok56 inf56 rfl (by decide) (by decide) rfl ha73 hw74) ?_
          refine ro_wp rfl (.free rfl) (wp_append (d := (some 94)) (T := T55) rfl rfl Try.underlying32 ⟨_, Try.underlying32⟩ ok56 inf56 rfl rfl (Nat.lt_of_lt_of_le Nat.zero_lt_one (Nat.le_of_ble_eq_true rfl)) rfl rfl h ?_)
          intro r76 w75 h
          refine ro_val (d := (some 4)) rfl (.free rfl) rfl (q_assign (v := tSlc.enc (r76)) rfl rfl) ?_
          refine ro_nil ?_
          exact ⟨(r76), _, arr (upd_step (upd_step (upd_step (upd_step (upd_step rfl rfl) rfl) rfl) rfl) rfl), h⟩
  · refine wp_exit ?_
    refine wp_seq ?_
    refine wp_text [0, 1, 2, 3] rfl ?_
    obtain ⟨x79, hx79, h⟩ := h
    refine ro_val (d := (some 95)) rfl (.free rfl) rfl (q_load (T := T27) (u := x79) (a := a2) rfl ok28 rfl hx79) ?_
    refine ro_val (d := (some 96)) rfl (.free rfl) rfl (q_move (v := tSlc.enc (out_9)) rfl rfl) ?_
    obtain ⟨w80, hw80, hrw80, h⟩ := st_open h
    refine ro_skip (d := none) rfl (.free rfl) rfl (q_store (T := T27) (u := x79) (a := a4) rfl ok28 rfl rfl hrw80 hw80) ?_
    refine ro_val (d := (some 3)) rfl (.free rfl) rfl (q_assign (v := tSlc.enc (out_9)) rfl rfl) ?_
    refine ro_nil ?_
    refine wp_ret ?_
    obtain ⟨x81, hx81, h⟩ := h
    exact ret_ok rfl (.cons (.cell (T := T27) (u := x81) (a := a4) ok28 rfl hx81) (.cons (.tmp (v := tSlc.enc (out_9)) rfl) .nil)) ⟨(x81, out_9), rfl, h⟩

end Go.Proofs.Ytojcgejjdfcaaaa.Cf
