/- Characteristic formulae of Go functions, and that they are. Printed by gen.py (own tool). -/
import Derived.Test.YtjhenlajkhckfaaTy
namespace Go.Proofs.Ytjhenlajkhckfaa.Cf
open Go
set_option maxRecDepth 100000
set_option maxHeartbeats 1000000
set_option linter.unusedVariables false
set_option linter.unusedSimpArgs false

-- moiety/moietyref02.Valid
def F17_j1 (a2 : Addr) (a5 : Addr) (w8 : World) (R : Int → World → Prop) : Prop :=
  ex (RdAt (tInt .u64) (a5.add 1) w8) fun x9 =>
  ex (RdAt (tInt .u64) (a2.add 1) w8) fun x10 =>
  ex (fun x => (!(x9 != x10)) = true → (RdAt (tInt .i64) (a5.add 2) w8) x) fun x11 =>
  ex (fun x => (!(x9 != x10)) = true → (RdAt (tInt .i64) (a2.add 2) w8) x) fun x12 =>
  ex (fun x => (!((x9 != x10) || (x11 != x12))) = true → (RdAt tStr (a5.add 4) w8) x) fun x13 =>
  ex (fun x => (!((x9 != x10) || (x11 != x12))) = true → (RdAt tStr (a2.add 4) w8) x) fun x14 =>
  ex (fun x => (!(((x9 != x10) || (x11 != x12)) || (!(x13 == x14)))) = true → (RdAt (tInt .i64) (a2.add 0) w8) x) fun x15 =>
  ex (fun x => ((!(((x9 != x10) || (x11 != x12)) || (!(x13 == x14)))) && (x15 != (3 : Int))) = true → (RdAt tFlt (a2.add 3) w8) x) fun x16 =>
  if ((((x9 != x10) || (x11 != x12)) || (!(x13 == x14))) || ((x15 != (3 : Int)) && ((x16 : Int) != (0 : Int)))) = true then (
    R (21 : Int) w8
  ) else (
    ex (RdAt tStr (a2.add 4) w8) fun x17 =>
    if (decide ((x17.length : Int) > (1000 : Int))) = true then (
      R (24 : Int) w8
    ) else (
      R (0 : Int) w8
    )
  )
def F17 (v_1 : S35) (w : World) (R : Int → World → Prop) : Prop :=
  nw 36 T35 v_1 w fun a2 w3 =>
  ex (RdAt (tInt .i64) (a2.add 0) w3) fun x4 =>
  nw 36 T35 Z35 w3 fun a5 w6 =>
  st T35 a5 (⟨x4, (0 : Int), (0 : Int), (0 : Nat), ([] : List UInt8)⟩ : S35) w6 fun w7 =>
  ex (RdAt (tInt .i64) (a2.add 0) w7) fun x20 =>
  if (x20 == (1 : Int)) = true then (
    ex (RdAt (tInt .u64) (a2.add 1) w7) fun x21 =>
    st (tInt .u64) (a5.add 1) x21 w7 fun w22 =>
    F17_j1 a2 a5 w22 R
  ) else (
    if (x20 == (2 : Int)) = true then (
      ex (RdAt (tInt .i64) (a2.add 2) w7) fun x23 =>
      st (tInt .i64) (a5.add 2) x23 w7 fun w24 =>
      F17_j1 a2 a5 w24 R
    ) else (
      if (x20 == (3 : Int)) = true then (
        ex (RdAt tFlt (a2.add 3) w7) fun x25 =>
        st tFlt (a5.add 3) x25 w7 fun w26 =>
        F17_j1 a2 a5 w26 R
      ) else (
        if (x20 == (4 : Int)) = true then (
          ex (RdAt tStr (a2.add 4) w7) fun x27 =>
          st tStr (a5.add 4) x27 w7 fun w28 =>
          F17_j1 a2 a5 w28 R
        ) else (
          R (21 : Int) w7
        )
      )
    )
  )
theorem F17_ok {v_1 : S35} {w : World} {R : Int → World → Prop} (h : F17 v_1 w R) : cl Try.prog 17 [T35.enc (v_1)] (tInt .i64) w R := by
  unfold F17 at h
  refine calls_start 63 Try.func17 rfl rfl (Nat.le_of_ble_eq_true rfl) ?_
  refine wp_seq ?_
  refine wp_text [0, 1] rfl ?_
  obtain ⟨a2, w3, ha2, hw3, h⟩ := nw_open h
  refine ro_val (d := (some 1)) rfl (.free rfl) rfl (q_box (u := v_1) rfl ok36 rfl ha2 hw3) ?_
  refine ro_val (d := (some 2)) rfl (.free rfl) rfl (q_assign (v := .int .i64 ((0 : Int))) rfl rfl) ?_
  refine ro_nil ?_
  refine wp_seq ?_
  refine wp_text [0, 1, 2, 3, 4] rfl ?_
  refine ro_val (d := (some 4)) rfl (.free rfl) rfl (q_fieldAddr (a := a2) (off := 0) rfl Try.underlying36 rfl rfl ok32 (by decide) rfl) ?_
  obtain ⟨x4, hx4, h⟩ := h
  refine ro_val (d := (some 5)) rfl (.free rfl) rfl (q_load (T := (tInt .i64)) (u := x4) (a := (a2.add 0)) rfl ok32 rfl hx4) ?_
  refine ro_val (d := (some 6)) rfl (.free rfl) rfl (q_build36_0 (v0 := x4) rfl rfl) ?_
  obtain ⟨a5, w6, ha5, hw6, h⟩ := nw_open h
  refine ro_val (d := (some 3)) rfl (.free rfl) rfl (q_alloc (u := Z35) rfl ok36 inf36 ha5 hw6) ?_
  obtain ⟨w7, hw7, hrw7, h⟩ := st_open h
  refine ro_skip (d := none) rfl (.free rfl) rfl (q_store (T := T35) (u := (⟨x4, (0 : Int), (0 : Int), (0 : Nat), ([] : List UInt8)⟩ : S35)) (a := a5) rfl ok36 rfl rfl hrw7 hw7) ?_
  refine ro_nil ?_
  refine seq_join (σ := Unit) (J := fun (s : Unit) w => F17_j1 a2 a5 w R) (fr := fun g (s : Unit) => upd (upd (g) 1 (.pointer (some a2))) 3 (.pointer (some a5))) ?_ ?_
  · rintro ⟨⟩ g w8 h
    unfold F17_j1 at h
    refine wp_seq ?_
    refine wp_seq ?_
    refine wp_text [0, 1, 2, 3, 4, 5, 6, 7, 8, 9, 10, 11, 12, 13, 14, 15, 16, 17, 18, 19, 20, 21, 22, 23, 24, 25, 26, 27, 28, 29] rfl ?_
    refine ro_val (d := (some 29)) rfl (.free rfl) rfl (q_fieldAddr (a := a5) (off := 1) rfl Try.underlying36 rfl rfl ok33 (by decide) rfl) ?_
    obtain ⟨x9, hx9, h⟩ := h
    refine ro_val (d := (some 30)) rfl (.free rfl) rfl (q_load (T := (tInt .u64)) (u := x9) (a := (a5.add 1)) rfl ok33 rfl hx9) ?_
    refine ro_val (d := (some 31)) rfl (.free rfl) rfl (q_fieldAddr (a := a2) (off := 1) rfl Try.underlying36 rfl rfl ok33 (by decide) rfl) ?_
    obtain ⟨x10, hx10, h⟩ := h
    refine ro_val (d := (some 32)) rfl (.free rfl) rfl (q_load (T := (tInt .u64)) (u := x10) (a := (a2.add 1)) rfl ok33 rfl hx10) ?_
    refine ro_val (d := (some 33)) rfl (.free rfl) rfl (q_neq (a := x9) (b := x10) rfl rfl rfl) ?_
    refine ro_val (d := (some 34)) rfl (.free rfl) rfl (q_move (v := .bool ((x9 != x10))) rfl rfl) ?_
    refine ro_gval (g := (!(x9 != x10))) (d := (some 35)) rfl (.no 5 34 true (x9 != x10) rfl rfl rfl rfl) rfl (fun hg => q_fieldAddr (a := a5) (off := 2) rfl Try.underlying36 rfl rfl ok2 (by decide) rfl) ?_
    obtain ⟨x11, hx11, h⟩ := h
    refine ro_gval (g := (!(x9 != x10))) (d := (some 36)) rfl (.no 5 34 true (x9 != x10) rfl rfl rfl rfl) rfl (fun hg => q_load (T := (tInt .i64)) (u := x11) (a := (a5.add 2)) rfl ok2 (gvb_yes hg) (hx11 hg)) ?_
    refine ro_gval (g := (!(x9 != x10))) (d := (some 37)) rfl (.no 5 34 true (x9 != x10) rfl rfl rfl rfl) rfl (fun hg => q_fieldAddr (a := a2) (off := 2) rfl Try.underlying36 rfl rfl ok2 (by decide) rfl) ?_
    obtain ⟨x12, hx12, h⟩ := h
    refine ro_gval (g := (!(x9 != x10))) (d := (some 38)) rfl (.no 5 34 true (x9 != x10) rfl rfl rfl rfl) rfl (fun hg => q_load (T := (tInt .i64)) (u := x12) (a := (a2.add 2)) rfl ok2 (gvb_yes hg) (hx12 hg)) ?_
    refine ro_gval (g := (!(x9 != x10))) (d := (some 39)) rfl (.no 5 34 true (x9 != x10) rfl rfl rfl rfl) rfl (fun hg => q_neq (a := x11) (b := x12) rfl (gvb_yes hg) (gvb_yes hg)) ?_
    refine ro_val (d := (some 40)) rfl (.free rfl) rfl (q_pickGF (a := (x9 != x10)) (c := (x11 != x12)) rfl rfl rfl rfl) ?_
    refine ro_val (d := (some 41)) rfl (.free rfl) rfl (q_move (v := .bool (((x9 != x10) || (x11 != x12)))) rfl rfl) ?_
    refine ro_gval (g := (!((x9 != x10) || (x11 != x12)))) (d := (some 42)) rfl (.no 12 41 true ((x9 != x10) || (x11 != x12)) rfl rfl rfl rfl) rfl (fun hg => q_fieldAddr (a := a5) (off := 4) rfl Try.underlying36 rfl rfl ok9 (by decide) rfl) ?_
    obtain ⟨x13, hx13, h⟩ := h
    refine ro_gval (g := (!((x9 != x10) || (x11 != x12)))) (d := (some 43)) rfl (.no 12 41 true ((x9 != x10) || (x11 != x12)) rfl rfl rfl rfl) rfl (fun hg => q_load (T := tStr) (u := x13) (a := (a5.add 4)) rfl ok9 (gvb_yes hg) (hx13 hg)) ?_
    refine ro_gval (g := (!((x9 != x10) || (x11 != x12)))) (d := (some 44)) rfl (.no 12 41 true ((x9 != x10) || (x11 != x12)) rfl rfl rfl rfl) rfl (fun hg => q_fieldAddr (a := a2) (off := 4) rfl Try.underlying36 rfl rfl ok9 (by decide) rfl) ?_
    obtain ⟨x14, hx14, h⟩ := h
    refine ro_gval (g := (!((x9 != x10) || (x11 != x12)))) (d := (some 45)) rfl (.no 12 41 true ((x9 != x10) || (x11 != x12)) rfl rfl rfl rfl) rfl (fun hg => q_load (T := tStr) (u := x14) (a := (a2.add 4)) rfl ok9 (gvb_yes hg) (hx14 hg)) ?_
    refine ro_gval (g := (!((x9 != x10) || (x11 != x12)))) (d := (some 46)) rfl (.no 12 41 true ((x9 != x10) || (x11 != x12)) rfl rfl rfl rfl) rfl (fun hg => q_neS (a := x13) (b := x14) rfl (gvb_yes hg) (gvb_yes hg)) ?_
    refine ro_val (d := (some 47)) rfl (.free rfl) rfl (q_pickGF (a := ((x9 != x10) || (x11 != x12))) (c := (!(x13 == x14))) rfl rfl rfl rfl) ?_
    refine ro_val (d := (some 48)) rfl (.free rfl) rfl (q_move (v := .bool ((((x9 != x10) || (x11 != x12)) || (!(x13 == x14))))) rfl rfl) ?_
    refine ro_gval (g := (!(((x9 != x10) || (x11 != x12)) || (!(x13 == x14))))) (d := (some 49)) rfl (.no 19 48 true (((x9 != x10) || (x11 != x12)) || (!(x13 == x14))) rfl rfl rfl rfl) rfl (fun hg => q_fieldAddr (a := a2) (off := 0) rfl Try.underlying36 rfl rfl ok32 (by decide) rfl) ?_
    obtain ⟨x15, hx15, h⟩ := h
    refine ro_gval (g := (!(((x9 != x10) || (x11 != x12)) || (!(x13 == x14))))) (d := (some 50)) rfl (.no 19 48 true (((x9 != x10) || (x11 != x12)) || (!(x13 == x14))) rfl rfl rfl rfl) rfl (fun hg => q_load (T := (tInt .i64)) (u := x15) (a := (a2.add 0)) rfl ok32 (gvb_yes hg) (hx15 hg)) ?_
    refine ro_gval (g := (!(((x9 != x10) || (x11 != x12)) || (!(x13 == x14))))) (d := (some 51)) rfl (.no 19 48 true (((x9 != x10) || (x11 != x12)) || (!(x13 == x14))) rfl rfl rfl rfl) rfl (fun hg => q_neq (a := x15) (b := (3 : Int)) rfl (gvb_yes hg) rfl) ?_
    refine ro_gval (g := (!(((x9 != x10) || (x11 != x12)) || (!(x13 == x14))))) (d := (some 52)) rfl (.no 19 48 true (((x9 != x10) || (x11 != x12)) || (!(x13 == x14))) rfl rfl rfl rfl) rfl (fun hg => q_move (v := .bool ((x15 != (3 : Int)))) rfl (gvb_yes hg)) ?_
    refine ro_gval (g := ((!(((x9 != x10) || (x11 != x12)) || (!(x13 == x14)))) && (x15 != (3 : Int)))) (d := (some 53)) rfl (.yes 23 52 (!(((x9 != x10) || (x11 != x12)) || (!(x13 == x14)))) (x15 != (3 : Int)) rfl rfl rfl rfl) rfl (fun hg => q_fieldAddr (a := a2) (off := 3) rfl Try.underlying36 rfl rfl ok34 (by decide) rfl) ?_
    obtain ⟨x16, hx16, h⟩ := h
    refine ro_gval (g := ((!(((x9 != x10) || (x11 != x12)) || (!(x13 == x14)))) && (x15 != (3 : Int)))) (d := (some 54)) rfl (.yes 23 52 (!(((x9 != x10) || (x11 != x12)) || (!(x13 == x14)))) (x15 != (3 : Int)) rfl rfl rfl rfl) rfl (fun hg => q_load (T := tFlt) (u := x16) (a := (a2.add 3)) rfl ok34 (gvb_yes hg) (hx16 hg)) ?_
    refine ro_gval (g := ((!(((x9 != x10) || (x11 != x12)) || (!(x13 == x14)))) && (x15 != (3 : Int)))) (d := (some 55)) rfl (.yes 23 52 (!(((x9 != x10) || (x11 != x12)) || (!(x13 == x14)))) (x15 != (3 : Int)) rfl rfl rfl rfl) rfl (fun hg => q_f64bits (b := x16) rfl ext23 (gvb_yes hg)) ?_
    refine ro_gval (g := ((!(((x9 != x10) || (x11 != x12)) || (!(x13 == x14)))) && (x15 != (3 : Int)))) (d := (some 56)) rfl (.yes 23 52 (!(((x9 != x10) || (x11 != x12)) || (!(x13 == x14)))) (x15 != (3 : Int)) rfl rfl rfl rfl) rfl (fun hg => q_neq (a := (x16 : Int)) (b := (0 : Int)) rfl (gvb_yes hg) rfl) ?_
    refine ro_gval (g := (!(((x9 != x10) || (x11 != x12)) || (!(x13 == x14))))) (d := (some 57)) rfl (.no 19 48 true (((x9 != x10) || (x11 != x12)) || (!(x13 == x14))) rfl rfl rfl rfl) rfl (fun hg => q_pickNT (g0 := (!(((x9 != x10) || (x11 != x12)) || (!(x13 == x14))))) (a := (x15 != (3 : Int))) (b := ((x16 : Int) != (0 : Int))) hg rfl rfl rfl rfl) ?_
    refine ro_val (d := (some 58)) rfl (.free rfl) rfl (q_pickGF (a := (((x9 != x10) || (x11 != x12)) || (!(x13 == x14)))) (c := ((x15 != (3 : Int)) && ((x16 : Int) != (0 : Int)))) rfl rfl rfl rfl) ?_
    refine ro_nil ?_
    refine wp_if (b := ((((x9 != x10) || (x11 != x12)) || (!(x13 == x14))) || ((x15 != (3 : Int)) && ((x16 : Int) != (0 : Int))))) rfl h (fun hb19 h => ?_) (fun hb19 h => ?_)
    · refine wp_seq ?_
      refine wp_text [0] rfl ?_
      refine ro_val (d := (some 2)) rfl (.free rfl) rfl (q_assign (v := .int .i64 ((21 : Int))) rfl rfl) ?_
      refine ro_nil ?_
      refine wp_ret ?_
      exact ret_ok rfl (.cons (.tmp (v := .int .i64 ((21 : Int))) rfl) .nil) ⟨(21 : Int), rfl, h⟩
    · refine wp_skip ?_
      refine wp_seq ?_
      refine wp_seq ?_
      refine wp_text [0, 1, 2, 3] rfl ?_
      refine ro_val (d := (some 59)) rfl (.free rfl) rfl (q_fieldAddr (a := a2) (off := 4) rfl Try.underlying36 rfl rfl ok9 (by decide) rfl) ?_
      obtain ⟨x17, hx17, h⟩ := h
      refine ro_val (d := (some 60)) rfl (.free rfl) rfl (q_load (T := tStr) (u := x17) (a := (a2.add 4)) rfl ok9 rfl hx17) ?_
      refine ro_val (d := (some 61)) rfl (.free rfl) rfl (q_lenS (s := x17) rfl Try.underlying9 rfl) ?_
      refine ro_val (d := (some 62)) rfl (.free rfl) rfl (q_gtr (a := (x17.length : Int)) (b := (1000 : Int)) rfl rfl rfl) ?_
      refine ro_nil ?_
      refine wp_if (b := (decide ((x17.length : Int) > (1000 : Int)))) rfl h (fun hb18 h => ?_) (fun hb18 h => ?_)
      · refine wp_seq ?_
        refine wp_text [0] rfl ?_
        refine ro_val (d := (some 2)) rfl (.free rfl) rfl (q_assign (v := .int .i64 ((24 : Int))) rfl rfl) ?_
        refine ro_nil ?_
        refine wp_ret ?_
        exact ret_ok rfl (.cons (.tmp (v := .int .i64 ((24 : Int))) rfl) .nil) ⟨(24 : Int), rfl, h⟩
      · refine wp_skip ?_
        refine wp_seq ?_
        refine wp_text [0] rfl ?_
        refine ro_val (d := (some 2)) rfl (.free rfl) rfl (q_assign (v := .int .i64 ((0 : Int))) rfl rfl) ?_
        refine ro_nil ?_
        refine wp_ret ?_
        exact ret_ok rfl (.cons (.tmp (v := .int .i64 ((0 : Int))) rfl) .nil) ⟨(0 : Int), rfl, h⟩
  · refine wp_seq ?_
    refine wp_text [0, 1] rfl ?_
    refine ro_val (d := (some 7)) rfl (.free rfl) rfl (q_fieldAddr (a := a2) (off := 0) rfl Try.underlying36 rfl rfl ok32 (by decide) rfl) ?_
    obtain ⟨x20, hx20, h⟩ := h
    refine ro_val (d := (some 8)) rfl (.free rfl) rfl (q_load (T := (tInt .i64)) (u := x20) (a := (a2.add 0)) rfl ok32 rfl hx20) ?_
    refine ro_nil ?_
    refine wp_block ?_
    refine wp_seq ?_
    refine wp_text [0, 1] rfl ?_
    refine ro_val (d := (some 10)) rfl (.free rfl) rfl (q_eql (a := x20) (b := (1 : Int)) rfl rfl rfl) ?_
    refine ro_val (d := (some 9)) rfl (.free rfl) rfl (q_assign (v := .bool ((x20 == (1 : Int)))) rfl rfl) ?_
    refine ro_nil ?_
    refine wp_if (b := (x20 == (1 : Int))) rfl h (fun hb32 h => ?_) (fun hb32 h => ?_)
    · refine wp_text [0, 1, 2, 3] rfl ?_
      refine ro_val (d := (some 11)) rfl (.free rfl) rfl (q_fieldAddr (a := a2) (off := 1) rfl Try.underlying36 rfl rfl ok33 (by decide) rfl) ?_
      obtain ⟨x21, hx21, h⟩ := h
      refine ro_val (d := (some 12)) rfl (.free rfl) rfl (q_load (T := (tInt .u64)) (u := x21) (a := (a2.add 1)) rfl ok33 rfl hx21) ?_
      refine ro_val (d := (some 13)) rfl (.free rfl) rfl (q_fieldAddr (a := a5) (off := 1) rfl Try.underlying36 rfl rfl ok33 (by decide) rfl) ?_
      obtain ⟨w22, hw22, hrw22, h⟩ := st_open h
      refine ro_skip (d := none) rfl (.free rfl) rfl (q_store (T := (tInt .u64)) (u := x21) (a := (a5.add 1)) rfl ok33 rfl rfl hrw22 hw22) ?_
      refine ro_nil ?_
      exact ⟨(), _, arr (upd_step (upd_step rfl rfl) rfl), h⟩
    · refine wp_seq ?_
      refine wp_text [0, 1] rfl ?_
      refine ro_val (d := (some 15)) rfl (.free rfl) rfl (q_eql (a := x20) (b := (2 : Int)) rfl rfl rfl) ?_
      refine ro_val (d := (some 14)) rfl (.free rfl) rfl (q_assign (v := .bool ((x20 == (2 : Int)))) rfl rfl) ?_
      refine ro_nil ?_
      refine wp_if (b := (x20 == (2 : Int))) rfl h (fun hb31 h => ?_) (fun hb31 h => ?_)
      · refine wp_text [0, 1, 2, 3] rfl ?_
        refine ro_val (d := (some 16)) rfl (.free rfl) rfl (q_fieldAddr (a := a2) (off := 2) rfl Try.underlying36 rfl rfl ok2 (by decide) rfl) ?_
        obtain ⟨x23, hx23, h⟩ := h
        refine ro_val (d := (some 17)) rfl (.free rfl) rfl (q_load (T := (tInt .i64)) (u := x23) (a := (a2.add 2)) rfl ok2 rfl hx23) ?_
        refine ro_val (d := (some 18)) rfl (.free rfl) rfl (q_fieldAddr (a := a5) (off := 2) rfl Try.underlying36 rfl rfl ok2 (by decide) rfl) ?_
        obtain ⟨w24, hw24, hrw24, h⟩ := st_open h
        refine ro_skip (d := none) rfl (.free rfl) rfl (q_store (T := (tInt .i64)) (u := x23) (a := (a5.add 2)) rfl ok2 rfl rfl hrw24 hw24) ?_
        refine ro_nil ?_
        exact ⟨(), _, arr (upd_step (upd_step rfl rfl) rfl), h⟩
      · refine wp_seq ?_
        refine wp_text [0, 1] rfl ?_
        refine ro_val (d := (some 20)) rfl (.free rfl) rfl (q_eql (a := x20) (b := (3 : Int)) rfl rfl rfl) ?_
        refine ro_val (d := (some 19)) rfl (.free rfl) rfl (q_assign (v := .bool ((x20 == (3 : Int)))) rfl rfl) ?_
        refine ro_nil ?_
        refine wp_if (b := (x20 == (3 : Int))) rfl h (fun hb30 h => ?_) (fun hb30 h => ?_)
        · refine wp_text [0, 1, 2, 3] rfl ?_
          refine ro_val (d := (some 21)) rfl (.free rfl) rfl (q_fieldAddr (a := a2) (off := 3) rfl Try.underlying36 rfl rfl ok34 (by decide) rfl) ?_
          obtain ⟨x25, hx25, h⟩ := h
          refine ro_val (d := (some 22)) rfl (.free rfl) rfl (q_load (T := tFlt) (u := x25) (a := (a2.add 3)) rfl ok34 rfl hx25) ?_
          refine ro_val (d := (some 23)) rfl (.free rfl) rfl (q_fieldAddr (a := a5) (off := 3) rfl Try.underlying36 rfl rfl ok34 (by decide) rfl) ?_
          obtain ⟨w26, hw26, hrw26, h⟩ := st_open h
          refine ro_skip (d := none) rfl (.free rfl) rfl (q_store (T := tFlt) (u := x25) (a := (a5.add 3)) rfl ok34 rfl rfl hrw26 hw26) ?_
          refine ro_nil ?_
          exact ⟨(), _, arr (upd_step (upd_step rfl rfl) rfl), h⟩
        · refine wp_seq ?_
          refine wp_text [0, 1] rfl ?_
          refine ro_val (d := (some 25)) rfl (.free rfl) rfl (q_eql (a := x20) (b := (4 : Int)) rfl rfl rfl) ?_
          refine ro_val (d := (some 24)) rfl (.free rfl) rfl (q_assign (v := .bool ((x20 == (4 : Int)))) rfl rfl) ?_
          refine ro_nil ?_
          refine wp_if (b := (x20 == (4 : Int))) rfl h (fun hb29 h => ?_) (fun hb29 h => ?_)
          · refine wp_text [0, 1, 2, 3] rfl ?_
            refine ro_val (d := (some 26)) rfl (.free rfl) rfl (q_fieldAddr (a := a2) (off := 4) rfl Try.underlying36 rfl rfl ok9 (by decide) rfl) ?_
            obtain ⟨x27, hx27, h⟩ := h
            refine ro_val (d := (some 27)) rfl (.free rfl) rfl (q_load (T := tStr) (u := x27) (a := (a2.add 4)) rfl ok9 rfl hx27) ?_
            refine ro_val (d := (some 28)) rfl (.free rfl) rfl (q_fieldAddr (a := a5) (off := 4) rfl Try.underlying36 rfl rfl ok9 (by decide) rfl) ?_
            obtain ⟨w28, hw28, hrw28, h⟩ := st_open h
            refine ro_skip (d := none) rfl (.free rfl) rfl (q_store (T := tStr) (u := x27) (a := (a5.add 4)) rfl ok9 rfl rfl hrw28 hw28) ?_
            refine ro_nil ?_
            exact ⟨(), _, arr (upd_step (upd_step rfl rfl) rfl), h⟩
          · refine wp_seq ?_
            refine wp_text [0] rfl ?_
            refine ro_val (d := (some 2)) rfl (.free rfl) rfl (q_assign (v := .int .i64 ((21 : Int))) rfl rfl) ?_
            refine ro_nil ?_
            refine wp_ret ?_
            exact ret_ok rfl (.cons (.tmp (v := .int .i64 ((21 : Int))) rfl) .nil) ⟨(21 : Int), rfl, h⟩

-- moiety/wire.Unpack
def F18_p (a10 : Addr) (a2 : Addr) (a4 : Addr) (a6 : Addr) (R : (Slc × Int × Int) → World → Prop) (v : Iv) (w : World) : Prop :=
  lvd Try.prog 24 [.pointer (some a10), .pointer (some a2), .pointer (some a4), .pointer (some a6)] (.panicking (pnc v)) w fun wD =>
  ex (RdAt tSlc a2 wD) fun y0 =>
  ex (RdAt (tInt .i64) a4 wD) fun y1 =>
  ex (RdAt (tInt .i64) a6 wD) fun y2 =>
  R (y0, y1, y2) wD
def F18_l1 (b_1 : Slc) (a2 : Addr) (a4 : Addr) (a6 : Addr) (a8 : Addr) (a10 : Addr) (w13 : World) (K14 : Unit → World → Prop) (R : (Slc × Int × Int) → World → Prop) : Prop :=
  ex (RdAt (tInt .i64) (a8.add 1) w13) fun x15 =>
  if (decide (x15 < (b_1.len : Int))) = true then (
    ex (RdAt (tInt .i64) (a8.add 1) w13) fun x16 =>
    st (tInt .i64) a10 x16 w13 fun w17 =>
    ex (RdAt tSlc a2 w17) fun x18 =>
    if ((x18.len : Int) == (1000 : Int)) = true then (
      (F18_p a10 a2 a4 a6 R) (Iv.mk 52 (T51.enc ((⟨(20 : Int)⟩ : S51)))) w17
    ) else (
      dr w17 fun w19 =>
      ex (RdAt tSlc a2 w19) fun x20 =>
      clp Try.prog 25 [.pointer ((some a8))] T35 w19 (F18_p a10 a2 a4 a6 R) fun r22 w21 =>
      kp ((RdAt tSlc a2 w21) x20) <|
      apl 36 T35 5 48 x20 [r22] w21 fun r27 w26 =>
      st tSlc a2 r27 w26 fun w28 =>
      K14 () w28
    )
  ) else (
    ex (RdAt tSlc a2 w13) fun x30 =>
    st tSlc a2 x30 w13 fun w31 =>
    st (tInt .i64) a4 (0 : Int) w31 fun w32 =>
    st (tInt .i64) a6 (0 : Int) w32 fun w33 =>
    lvd Try.prog 24 [.pointer (some a10), .pointer (some a2), .pointer (some a4), .pointer (some a6)] .returning w33 fun wD =>
    ex (RdAt tSlc a2 wD) fun y0 =>
    ex (RdAt (tInt .i64) a4 wD) fun y1 =>
    ex (RdAt (tInt .i64) a6 wD) fun y2 =>
    R (y0, y1, y2) wD
  )
def F18 (b_1 : Slc) (w : World) (R : (Slc × Int × Int) → World → Prop) : Prop :=
  nw 22 tSlc (⟨none, 0, 0⟩ : Slc) w fun a2 w3 =>
  nw 3 (tInt .i64) (0 : Int) w3 fun a4 w5 =>
  nw 26 (tInt .i64) (0 : Int) w5 fun a6 w7 =>
  nw 50 T49 (⟨b_1, (0 : Int)⟩ : S49) w7 fun a8 w9 =>
  nw 3 (tInt .i64) (0 : Int) w9 fun a10 w11 =>
  st (tInt .i64) a10 (0 : Int) w11 fun w12 =>
  lp (fun (s : Unit) w K => F18_l1 b_1 a2 a4 a6 a8 a10 w K R) () w12
theorem F18_ok {b_1 : Slc} {w : World} {R : (Slc × Int × Int) → World → Prop} (h : F18 b_1 w R) : cl Try.prog 18 [tSlc.enc (b_1)] (tTup3 tSlc (tInt .i64) (tInt .i64)) w R := by
  unfold F18 at h
  refine calls_startE (sl := [2, 3, 4]) 33 Try.func18 rfl rfl (Nat.le_of_ble_eq_true rfl) ?_
  refine wp_seq ?_
  refine wp_text [0, 1, 2] rfl ?_
  obtain ⟨a2, w3, ha2, hw3, h⟩ := nw_open h
  refine ro_val (d := (some 2)) rfl (.free rfl) rfl (q_alloc (u := (⟨none, 0, 0⟩ : Slc)) rfl ok22 inf22 ha2 hw3) ?_
  obtain ⟨a4, w5, ha4, hw5, h⟩ := nw_open h
  refine ro_val (d := (some 3)) rfl (.free rfl) rfl (q_alloc (u := (0 : Int)) rfl ok3 inf3 ha4 hw5) ?_
  obtain ⟨a6, w7, ha6, hw7, h⟩ := nw_open h
  refine ro_val (d := (some 4)) rfl (.free rfl) rfl (q_alloc (u := (0 : Int)) rfl ok26 inf26 ha6 hw7) ?_
  refine ro_nil ?_
  refine wp_seq ?_
  refine wp_text [0, 1, 2, 3] rfl ?_
  refine ro_val (d := (some 7)) rfl (.free rfl) rfl (q_move (v := tSlc.enc (b_1)) rfl rfl) ?_
  refine ro_val (d := (some 8)) rfl (.free rfl) rfl (q_build50_0 (v0 := b_1) rfl rfl) ?_
  obtain ⟨a8, w9, ha8, hw9, h⟩ := nw_open h
  refine ro_val (d := (some 9)) rfl (.free rfl) rfl (q_box (u := (⟨b_1, (0 : Int)⟩ : S49)) rfl ok50 rfl ha8 hw9) ?_
  refine ro_val (d := (some 5)) rfl (.free rfl) rfl (q_assign (v := .pointer (some a8)) rfl rfl) ?_
  refine ro_nil ?_
  refine wp_seq ?_
  refine wp_text [0, 1] rfl ?_
  obtain ⟨a10, w11, ha10, hw11, h⟩ := nw_open h
  refine ro_val (d := (some 6)) rfl (.free rfl) rfl (q_alloc (u := (0 : Int)) rfl ok3 inf3 ha10 hw11) ?_
  obtain ⟨w12, hw12, hrw12, h⟩ := st_open h
  refine ro_skip (d := none) rfl (.free rfl) rfl (q_store (T := (tInt .i64)) (u := (0 : Int)) (a := a10) rfl ok3 rfl rfl hrw12 hw12) ?_
  refine ro_nil ?_
  refine wp_seq ?_
  refine wp_text [0, 1] rfl ?_
  refine ro_val (d := (some 10)) rfl (.free rfl) rfl (q_makeFunc (fn := .func 24) (va := []) (vc := [.pointer (some a10), .pointer (some a2), .pointer (some a4), .pointer (some a6)]) rfl rfl rfl) ?_
  refine ro_wp rfl (.free rfl) (wp_defer (k := 24) (cs := [.pointer (some a10), .pointer (some a2), .pointer (some a4), .pointer (some a6)]) (d := none) rfl rfl rfl ?_)
  refine ro_nil ?_
  refine wp_seq ?_
  refine wp_block ?_
  refine loop_at (σ := Unit) (fr := fun g (s : Unit) => upd (upd (upd (upd (upd (upd (g) 0 (tSlc.enc (b_1))) 2 (.pointer (some a2))) 3 (.pointer (some a4))) 4 (.pointer (some a6))) 5 (.pointer ((some a8)))) 6 (.pointer (some a10))) (s0 := ()) (upd_step (upd_step (upd_step (upd_step (upd_step (upd_step rfl rfl) rfl) rfl) rfl) rfl) rfl) h ?_
  rintro ⟨⟩ g w13 K14 h
  unfold F18_l1 at h
  refine wp_seq ?_
  refine wp_seq ?_
  refine wp_text [0, 1, 2, 3, 4, 5, 6] rfl ?_
  refine ro_val (d := (some 11)) rfl (.free rfl) rfl (q_move (v := .pointer ((some a8))) rfl rfl) ?_
  refine ro_val (d := (some 12)) rfl (.free rfl) rfl (q_nilCheck (a := a8) rfl rfl) ?_
  refine ro_val (d := (some 13)) rfl (.free rfl) rfl (q_fieldAddr (a := a8) (off := 1) rfl Try.underlying50 rfl rfl ok3 (by decide) rfl) ?_
  obtain ⟨x15, hx15, h⟩ := h
  refine ro_val (d := (some 14)) rfl (.free rfl) rfl (q_load (T := (tInt .i64)) (u := x15) (a := (a8.add 1)) rfl ok3 rfl hx15) ?_
  refine ro_val (d := (some 15)) rfl (.free rfl) rfl (q_move (v := tSlc.enc (b_1)) rfl rfl) ?_
  refine ro_val (d := (some 16)) rfl (.free rfl) rfl (q_len (s := b_1) rfl Try.underlying25 rfl) ?_
  refine ro_val (d := (some 17)) rfl (.free rfl) rfl (q_lss (a := x15) (b := (b_1.len : Int)) rfl rfl rfl) ?_
  refine ro_nil ?_
  refine wp_if (b := (decide (x15 < (b_1.len : Int)))) rfl h (fun hb34 h => ?_) (fun hb34 h => ?_)
  · refine wp_skip ?_
    refine wp_block ?_
    refine wp_seq ?_
    refine wp_text [0, 1, 2, 3, 4] rfl ?_
    refine ro_val (d := (some 18)) rfl (.free rfl) rfl (q_move (v := .pointer ((some a8))) rfl rfl) ?_
    refine ro_val (d := (some 19)) rfl (.free rfl) rfl (q_nilCheck (a := a8) rfl rfl) ?_
    refine ro_val (d := (some 20)) rfl (.free rfl) rfl (q_fieldAddr (a := a8) (off := 1) rfl Try.underlying50 rfl rfl ok3 (by decide) rfl) ?_
    obtain ⟨x16, hx16, h⟩ := h
    refine ro_val (d := (some 21)) rfl (.free rfl) rfl (q_load (T := (tInt .i64)) (u := x16) (a := (a8.add 1)) rfl ok3 rfl hx16) ?_
    obtain ⟨w17, hw17, hrw17, h⟩ := st_open h
    refine ro_skip (d := none) rfl (.free rfl) rfl (q_store (T := (tInt .i64)) (u := x16) (a := a10) rfl ok3 rfl rfl hrw17 hw17) ?_
    refine ro_nil ?_
    refine wp_seq ?_
    refine wp_seq ?_
    refine wp_text [0, 1, 2] rfl ?_
    obtain ⟨x18, hx18, h⟩ := h
    refine ro_val (d := (some 22)) rfl (.free rfl) rfl (q_load (T := tSlc) (u := x18) (a := a2) rfl ok22 rfl hx18) ?_
    refine ro_val (d := (some 23)) rfl (.free rfl) rfl (q_len (s := x18) rfl Try.underlying22 rfl) ?_
    refine ro_val (d := (some 24)) rfl (.free rfl) rfl (q_eql (a := (x18.len : Int)) (b := (1000 : Int)) rfl rfl rfl) ?_
    refine ro_nil ?_
    refine wp_if (b := ((x18.len : Int) == (1000 : Int))) rfl h (fun hb29 h => ?_) (fun hb29 h => ?_)
    · refine wp_text [0, 1, 2] rfl ?_
      refine ro_val (d := (some 25)) rfl (.free rfl) rfl (q_build52_0 (v0 := (20 : Int)) rfl rfl) ?_
      refine ro_val (d := (some 26)) rfl (.free rfl) rfl (q_mkI (v := T51.enc ((⟨(20 : Int)⟩ : S51))) rfl Try.underlying52 rfl rfl) ?_
      refine ro_wp rfl (.free rfl) (wp_panic (v := (Iv.mk 52 (T51.enc ((⟨(20 : Int)⟩ : S51))))) rfl rfl ⟨_, _, rfl⟩ ?_)
      unfold F18_p at h
      refine pan_D (rs := [.cell 2 22, .cell 3 3, .cell 4 26]) rfl ent24 (lvd_mono h fun wD h => ?_)
      obtain ⟨y0, hy0, h⟩ := h
      obtain ⟨y1, hy1, h⟩ := h
      obtain ⟨y2, hy2, h⟩ := h
      exact ⟨_, (.cons (.cell (T := tSlc) (u := y0) (a := a2) ok22 rfl hy0) (.cons (.cell (T := (tInt .i64)) (u := y1) (a := a4) ok3 rfl hy1) (.cons (.cell (T := (tInt .i64)) (u := y2) (a := a6) ok26 rfl hy2) .nil))), ⟨(y0, y1, y2), rfl, h⟩⟩
    · refine wp_skip ?_
      obtain ⟨w19, hw19, h⟩ := dr_open h
      refine wp_drawnE 6 mixed rfl (by kernel_rfl) (fun c a d v w hd h => panE_put (sl := [2, 3, 4]) (dst_ok (by kernel_rfl) hd) h) hw19 (fun hD => ?_)
      refine rd_pure (i := 1) (d := (some 28)) hD (by kernel_rfl) (by kernel_rfl) rfl (.free rfl) rfl (fun _ => q_move (v := .pointer ((some a8))) rfl rfl) ?_
      obtain ⟨x20, hx20, h⟩ := h
      refine rd_read (i := 0) (d := (some 27)) (fun W => (RdAt tSlc a2 W) x20) hD (by kernel_rfl) (by kernel_rfl) rfl (.free rfl) rfl (fun W hr => q_load (T := tSlc) (u := x20) (a := a2) rfl ok22 rfl hr) hx20 ?_
      refine rd_one (i := 2) (by kernel_rfl) ?_
      refine po_wp rfl (.free rfl) (wp_clp (d := (some 29)) rfl (q_call (k := 25) (l := [.pointer ((some a8))]) rfl ent25 rfl) h ?_ ?_)
      · intro _ _ h
        unfold F18_p at h
        refine pan_D (rs := [.cell 2 22, .cell 3 3, .cell 4 26]) rfl ent24 (lvd_mono h fun wD h => ?_)
        obtain ⟨y0, hy0, h⟩ := h
        obtain ⟨y1, hy1, h⟩ := h
        obtain ⟨y2, hy2, h⟩ := h
        exact ⟨_, (.cons (.cell (T := tSlc) (u := y0) (a := a2) ok22 rfl hy0) (.cons (.cell (T := (tInt .i64)) (u := y1) (a := a4) ok3 rfl hy1) (.cons (.cell (T := (tInt .i64)) (u := y2) (a := a6) ok26 rfl hy2) .nil))), ⟨(y0, y1, y2), rfl, h⟩⟩
      intro r22 w21 h
      obtain ⟨hk23, h⟩ := h
      refine ⟨(hk_keep (fun _ => hk23) hk_nil), ?_⟩
      refine rd_one (i := 3) (by kernel_rfl) ?_
      obtain ⟨a24, w25, ha24, hw25, h⟩ := apl_open h
      refine po_val (d := (some 30)) rfl (.free rfl) rfl (q_rowOf (T := T35) (xs := [r22]) rfl Try.underlying22 ok36 inf36 rfl (by decide) (by decide) rfl ha24 hw25) ⟨(hk_keep (fun h => keep_RdAt hw25 h) hk_nil), ?_⟩
      refine rd_one (i := 4) (by kernel_rfl) ?_
      refine po_wp rfl (.free rfl) (wp_append (d := (some 31)) (T := T35) rfl rfl Try.underlying22 ⟨_, Try.underlying22⟩ ok36 inf36 rfl rfl (Nat.lt_of_lt_of_le Nat.zero_lt_one (Nat.le_of_ble_eq_true rfl)) rfl rfl h ?_)
      intro r27 w26 h
      refine ⟨(hk_wait (by kernel_rfl) hk_nil), ?_⟩
      refine rd_one (i := 5) (by kernel_rfl) ?_
      obtain ⟨w28, hw28, hrw28, h⟩ := st_open h
      refine po_skip (d := none) rfl (.free rfl) rfl (q_store (T := tSlc) (u := r27) (a := a2) rfl ok22 rfl rfl hrw28 hw28) ⟨(hk_wait (by kernel_rfl) hk_nil), ?_⟩
      refine rd_nil (by kernel_rfl) ?_
      exact ⟨(), _, arr (upd_step (upd_step (upd_step (upd_step (upd_step (upd_step rfl rfl) rfl) rfl) rfl) rfl) rfl), h⟩
  · refine wp_exit ?_
    refine wp_seq ?_
    refine wp_text [0, 1, 2, 3] rfl ?_
    obtain ⟨x30, hx30, h⟩ := h
    refine ro_val (d := (some 32)) rfl (.free rfl) rfl (q_load (T := tSlc) (u := x30) (a := a2) rfl ok22 rfl hx30) ?_
    obtain ⟨w31, hw31, hrw31, h⟩ := st_open h
    refine ro_skip (d := none) rfl (.free rfl) rfl (q_store (T := tSlc) (u := x30) (a := a2) rfl ok22 rfl rfl hrw31 hw31) ?_
    obtain ⟨w32, hw32, hrw32, h⟩ := st_open h
    refine ro_skip (d := none) rfl (.free rfl) rfl (q_store (T := (tInt .i64)) (u := (0 : Int)) (a := a4) rfl ok3 rfl rfl hrw32 hw32) ?_
    obtain ⟨w33, hw33, hrw33, h⟩ := st_open h
    refine ro_skip (d := none) rfl (.free rfl) rfl (q_store (T := (tInt .i64)) (u := (0 : Int)) (a := a6) rfl ok26 rfl rfl hrw33 hw33) ?_
    refine ro_nil ?_
    refine wp_ret ?_
    refine ret_D (rs := [.cell 2 22, .cell 3 3, .cell 4 26]) rfl ent24 (lvd_mono h fun wD h => ?_)
    obtain ⟨y0, hy0, h⟩ := h
    obtain ⟨y1, hy1, h⟩ := h
    obtain ⟨y2, hy2, h⟩ := h
    exact ⟨_, (.cons (.cell (T := tSlc) (u := y0) (a := a2) ok22 rfl hy0) (.cons (.cell (T := (tInt .i64)) (u := y1) (a := a4) ok3 rfl hy1) (.cons (.cell (T := (tInt .i64)) (u := y2) (a := a6) ok26 rfl hy2) .nil))), ⟨(y0, y1, y2), rfl, h⟩⟩

-- moiety/moietyref02.Same
def F19_j1 (t_7 : Bool) (w8 : World) (R : Bool → World → Prop) : Prop :=
  R t_7 w8
def F19 (a_1 : S35) (b_2 : S35) (w : World) (R : Bool → World → Prop) : Prop :=
  nw 36 T35 a_1 w fun a3 w4 =>
  nw 36 T35 b_2 w4 fun a5 w6 =>
  dr w6 fun w9 =>
  ex (RdAt (tInt .i64) (a3.add 0) w9) fun x10 =>
  ex (RdAt (tInt .i64) (a5.add 0) w9) fun x11 =>
  ex (fun x => (x10 == x11) = true → (RdAt (tInt .u64) (a3.add 1) w9) x) fun x12 =>
  ex (fun x => (x10 == x11) = true → (RdAt (tInt .u64) (a5.add 1) w9) x) fun x13 =>
  ex (fun x => ((x10 == x11) && (x12 == x13)) = true → (RdAt (tInt .i64) (a3.add 2) w9) x) fun x14 =>
  ex (fun x => ((x10 == x11) && (x12 == x13)) = true → (RdAt (tInt .i64) (a5.add 2) w9) x) fun x15 =>
  ex (fun x => (((x10 == x11) && (x12 == x13)) && (x14 == x15)) = true → (RdAt tStr (a3.add 4) w9) x) fun x16 =>
  ex (fun x => (((x10 == x11) && (x12 == x13)) && (x14 == x15)) = true → (RdAt tStr (a5.add 4) w9) x) fun x17 =>
  if ((((x10 == x11) && (x12 == x13)) && (x14 == x15)) && (x16 == x17)) = true then (
    ex (RdAt tFlt (a3.add 3) w9) fun x19 =>
    ex (RdAt tFlt (a5.add 3) w9) fun x20 =>
    cl Try.prog 26 [.float .f64 (x19)] (tInt .u64) w9 fun r22 w21 =>
    kp ((RdAt (tInt .i64) (a3.add 0) w21) x10) <|
    kp ((RdAt (tInt .i64) (a5.add 0) w21) x11) <|
    kp ((fun x => (x10 == x11) = true → (RdAt (tInt .u64) (a3.add 1) w21) x) x12) <|
    kp ((fun x => (x10 == x11) = true → (RdAt (tInt .u64) (a5.add 1) w21) x) x13) <|
    kp ((fun x => ((x10 == x11) && (x12 == x13)) = true → (RdAt (tInt .i64) (a3.add 2) w21) x) x14) <|
    kp ((fun x => ((x10 == x11) && (x12 == x13)) = true → (RdAt (tInt .i64) (a5.add 2) w21) x) x15) <|
    kp ((fun x => (((x10 == x11) && (x12 == x13)) && (x14 == x15)) = true → (RdAt tStr (a3.add 4) w21) x) x16) <|
    kp ((fun x => (((x10 == x11) && (x12 == x13)) && (x14 == x15)) = true → (RdAt tStr (a5.add 4) w21) x) x17) <|
    kp ((RdAt tFlt (a5.add 3) w21) x20) <|
    cl Try.prog 26 [.float .f64 (x20)] (tInt .u64) w21 fun r33 w32 =>
    kp ((RdAt (tInt .i64) (a3.add 0) w32) x10) <|
    kp ((RdAt (tInt .i64) (a5.add 0) w32) x11) <|
    kp ((fun x => (x10 == x11) = true → (RdAt (tInt .u64) (a3.add 1) w32) x) x12) <|
    kp ((fun x => (x10 == x11) = true → (RdAt (tInt .u64) (a5.add 1) w32) x) x13) <|
    kp ((fun x => ((x10 == x11) && (x12 == x13)) = true → (RdAt (tInt .i64) (a3.add 2) w32) x) x14) <|
    kp ((fun x => ((x10 == x11) && (x12 == x13)) = true → (RdAt (tInt .i64) (a5.add 2) w32) x) x15) <|
    kp ((fun x => (((x10 == x11) && (x12 == x13)) && (x14 == x15)) = true → (RdAt tStr (a3.add 4) w32) x) x16) <|
    kp ((fun x => (((x10 == x11) && (x12 == x13)) && (x14 == x15)) = true → (RdAt tStr (a5.add 4) w32) x) x17) <|
    kp ((RdAt tFlt (a3.add 3) w32) x19) <|
    F19_j1 (r22 == r33) w32 R
  ) else (
    F19_j1 false w9 R
  )
theorem F19_ok {a_1 : S35} {b_2 : S35} {w : World} {R : Bool → World → Prop} (h : F19 a_1 b_2 w R) : cl Try.prog 19 [T35.enc (a_1), T35.enc (b_2)] tBool w R := by
  unfold F19 at h
  refine calls_start 40 Try.func19 rfl rfl (Nat.le_of_ble_eq_true rfl) ?_
  refine wp_seq ?_
  refine wp_text [0, 1, 2] rfl ?_
  obtain ⟨a3, w4, ha3, hw4, h⟩ := nw_open h
  refine ro_val (d := (some 2)) rfl (.free rfl) rfl (q_box (u := a_1) rfl ok36 rfl ha3 hw4) ?_
  obtain ⟨a5, w6, ha5, hw6, h⟩ := nw_open h
  refine ro_val (d := (some 3)) rfl (.free rfl) rfl (q_box (u := b_2) rfl ok36 rfl ha5 hw6) ?_
  refine ro_val (d := (some 4)) rfl (.free rfl) rfl (q_assign (v := .bool (false)) rfl rfl) ?_
  refine ro_nil ?_
  refine seq_join (σ := Bool) (J := fun (s : Bool) w => F19_j1 s w R) (fr := fun g (s : Bool) => upd (g) 4 (.bool (s))) ?_ ?_
  · rintro t_7 g w8 h
    unfold F19_j1 at h
    refine wp_ret ?_
    exact ret_ok rfl (.cons (.tmp (v := .bool (t_7)) rfl) .nil) ⟨t_7, rfl, h⟩
  · obtain ⟨w9, hw9, h⟩ := dr_open h
    refine wp_drawn 36 mixed rfl (by kernel_rfl) (by intro c a d v w h; cases d <;> exact h) hw9 (fun hD => ?_)
    refine rd_pure (i := 0) (d := (some 5)) hD (by kernel_rfl) (by kernel_rfl) rfl (.free rfl) rfl (fun _ => q_fieldAddr (a := a3) (off := 0) rfl Try.underlying36 rfl rfl ok32 (by decide) rfl) ?_
    refine rd_pure (i := 2) (d := (some 7)) hD (by kernel_rfl) (by kernel_rfl) rfl (.free rfl) rfl (fun _ => q_fieldAddr (a := a5) (off := 0) rfl Try.underlying36 rfl rfl ok32 (by decide) rfl) ?_
    obtain ⟨x10, hx10, h⟩ := h
    refine rd_read (i := 1) (d := (some 6)) (fun W => (RdAt (tInt .i64) (a3.add 0) W) x10) hD (by kernel_rfl) (by kernel_rfl) rfl (.free rfl) rfl (fun W hr => q_load (T := (tInt .i64)) (u := x10) (a := (a3.add 0)) rfl ok32 rfl hr) hx10 ?_
    obtain ⟨x11, hx11, h⟩ := h
    refine rd_read (i := 3) (d := (some 8)) (fun W => (RdAt (tInt .i64) (a5.add 0) W) x11) hD (by kernel_rfl) (by kernel_rfl) rfl (.free rfl) rfl (fun W hr => q_load (T := (tInt .i64)) (u := x11) (a := (a5.add 0)) rfl ok32 rfl hr) hx11 ?_
    refine rd_pure (i := 4) (d := (some 9)) hD (by kernel_rfl) (by kernel_rfl) rfl (.free rfl) rfl (fun _ => q_eql (a := x10) (b := x11) rfl rfl rfl) ?_
    refine rd_pure (i := 5) (d := (some 10)) hD (by kernel_rfl) (by kernel_rfl) rfl (.free rfl) rfl (fun _ => q_move (v := .bool ((x10 == x11))) rfl rfl) ?_
    refine rd_gpure (i := 6) (g := (x10 == x11)) (d := (some 11)) hD (by kernel_rfl) (by kernel_rfl) rfl (.yes 5 10 true (x10 == x11) rfl rfl rfl rfl) rfl (fun hg _ => q_fieldAddr (a := a3) (off := 1) rfl Try.underlying36 rfl rfl ok33 (by decide) rfl) ?_
    refine rd_gpure (i := 8) (g := (x10 == x11)) (d := (some 13)) hD (by kernel_rfl) (by kernel_rfl) rfl (.yes 5 10 true (x10 == x11) rfl rfl rfl rfl) rfl (fun hg _ => q_fieldAddr (a := a5) (off := 1) rfl Try.underlying36 rfl rfl ok33 (by decide) rfl) ?_
    obtain ⟨x12, hx12, h⟩ := h
    refine rd_gread (i := 7) (g := (x10 == x11)) (d := (some 12)) (fun W => (RdAt (tInt .u64) (a3.add 1) W) x12) hD (by kernel_rfl) (by kernel_rfl) rfl (.yes 5 10 true (x10 == x11) rfl rfl rfl rfl) rfl (fun hg W hr => q_load (T := (tInt .u64)) (u := x12) (a := (a3.add 1)) rfl ok33 (gvb_yes hg) hr) hx12 ?_
    obtain ⟨x13, hx13, h⟩ := h
    refine rd_gread (i := 9) (g := (x10 == x11)) (d := (some 14)) (fun W => (RdAt (tInt .u64) (a5.add 1) W) x13) hD (by kernel_rfl) (by kernel_rfl) rfl (.yes 5 10 true (x10 == x11) rfl rfl rfl rfl) rfl (fun hg W hr => q_load (T := (tInt .u64)) (u := x13) (a := (a5.add 1)) rfl ok33 (gvb_yes hg) hr) hx13 ?_
    refine rd_gpure (i := 10) (g := (x10 == x11)) (d := (some 15)) hD (by kernel_rfl) (by kernel_rfl) rfl (.yes 5 10 true (x10 == x11) rfl rfl rfl rfl) rfl (fun hg _ => q_eql (a := x12) (b := x13) rfl (gvb_yes hg) (gvb_yes hg)) ?_
    refine rd_pure (i := 11) (d := (some 16)) hD (by kernel_rfl) (by kernel_rfl) rfl (.free rfl) rfl (fun _ => q_pickGT (a := (x10 == x11)) (b := (x12 == x13)) rfl rfl rfl rfl) ?_
    refine rd_pure (i := 12) (d := (some 17)) hD (by kernel_rfl) (by kernel_rfl) rfl (.free rfl) rfl (fun _ => q_move (v := .bool (((x10 == x11) && (x12 == x13)))) rfl rfl) ?_
    refine rd_gpure (i := 13) (g := ((x10 == x11) && (x12 == x13))) (d := (some 18)) hD (by kernel_rfl) (by kernel_rfl) rfl (.yes 12 17 true ((x10 == x11) && (x12 == x13)) rfl rfl rfl rfl) rfl (fun hg _ => q_fieldAddr (a := a3) (off := 2) rfl Try.underlying36 rfl rfl ok2 (by decide) rfl) ?_
    refine rd_gpure (i := 15) (g := ((x10 == x11) && (x12 == x13))) (d := (some 20)) hD (by kernel_rfl) (by kernel_rfl) rfl (.yes 12 17 true ((x10 == x11) && (x12 == x13)) rfl rfl rfl rfl) rfl (fun hg _ => q_fieldAddr (a := a5) (off := 2) rfl Try.underlying36 rfl rfl ok2 (by decide) rfl) ?_
    obtain ⟨x14, hx14, h⟩ := h
    refine rd_gread (i := 14) (g := ((x10 == x11) && (x12 == x13))) (d := (some 19)) (fun W => (RdAt (tInt .i64) (a3.add 2) W) x14) hD (by kernel_rfl) (by kernel_rfl) rfl (.yes 12 17 true ((x10 == x11) && (x12 == x13)) rfl rfl rfl rfl) rfl (fun hg W hr => q_load (T := (tInt .i64)) (u := x14) (a := (a3.add 2)) rfl ok2 (gvb_yes hg) hr) hx14 ?_
    obtain ⟨x15, hx15, h⟩ := h
    refine rd_gread (i := 16) (g := ((x10 == x11) && (x12 == x13))) (d := (some 21)) (fun W => (RdAt (tInt .i64) (a5.add 2) W) x15) hD (by kernel_rfl) (by kernel_rfl) rfl (.yes 12 17 true ((x10 == x11) && (x12 == x13)) rfl rfl rfl rfl) rfl (fun hg W hr => q_load (T := (tInt .i64)) (u := x15) (a := (a5.add 2)) rfl ok2 (gvb_yes hg) hr) hx15 ?_
    refine rd_gpure (i := 17) (g := ((x10 == x11) && (x12 == x13))) (d := (some 22)) hD (by kernel_rfl) (by kernel_rfl) rfl (.yes 12 17 true ((x10 == x11) && (x12 == x13)) rfl rfl rfl rfl) rfl (fun hg _ => q_eql (a := x14) (b := x15) rfl (gvb_yes hg) (gvb_yes hg)) ?_
    refine rd_pure (i := 18) (d := (some 23)) hD (by kernel_rfl) (by kernel_rfl) rfl (.free rfl) rfl (fun _ => q_pickGT (a := ((x10 == x11) && (x12 == x13))) (b := (x14 == x15)) rfl rfl rfl rfl) ?_
    refine rd_pure (i := 19) (d := (some 24)) hD (by kernel_rfl) (by kernel_rfl) rfl (.free rfl) rfl (fun _ => q_move (v := .bool ((((x10 == x11) && (x12 == x13)) && (x14 == x15)))) rfl rfl) ?_
    refine rd_gpure (i := 20) (g := (((x10 == x11) && (x12 == x13)) && (x14 == x15))) (d := (some 25)) hD (by kernel_rfl) (by kernel_rfl) rfl (.yes 19 24 true (((x10 == x11) && (x12 == x13)) && (x14 == x15)) rfl rfl rfl rfl) rfl (fun hg _ => q_fieldAddr (a := a3) (off := 4) rfl Try.underlying36 rfl rfl ok9 (by decide) rfl) ?_
    refine rd_gpure (i := 22) (g := (((x10 == x11) && (x12 == x13)) && (x14 == x15))) (d := (some 27)) hD (by kernel_rfl) (by kernel_rfl) rfl (.yes 19 24 true (((x10 == x11) && (x12 == x13)) && (x14 == x15)) rfl rfl rfl rfl) rfl (fun hg _ => q_fieldAddr (a := a5) (off := 4) rfl Try.underlying36 rfl rfl ok9 (by decide) rfl) ?_
    obtain ⟨x16, hx16, h⟩ := h
    refine rd_gread (i := 21) (g := (((x10 == x11) && (x12 == x13)) && (x14 == x15))) (d := (some 26)) (fun W => (RdAt tStr (a3.add 4) W) x16) hD (by kernel_rfl) (by kernel_rfl) rfl (.yes 19 24 true (((x10 == x11) && (x12 == x13)) && (x14 == x15)) rfl rfl rfl rfl) rfl (fun hg W hr => q_load (T := tStr) (u := x16) (a := (a3.add 4)) rfl ok9 (gvb_yes hg) hr) hx16 ?_
    obtain ⟨x17, hx17, h⟩ := h
    refine rd_gread (i := 23) (g := (((x10 == x11) && (x12 == x13)) && (x14 == x15))) (d := (some 28)) (fun W => (RdAt tStr (a5.add 4) W) x17) hD (by kernel_rfl) (by kernel_rfl) rfl (.yes 19 24 true (((x10 == x11) && (x12 == x13)) && (x14 == x15)) rfl rfl rfl rfl) rfl (fun hg W hr => q_load (T := tStr) (u := x17) (a := (a5.add 4)) rfl ok9 (gvb_yes hg) hr) hx17 ?_
    refine rd_gpure (i := 24) (g := (((x10 == x11) && (x12 == x13)) && (x14 == x15))) (d := (some 29)) hD (by kernel_rfl) (by kernel_rfl) rfl (.yes 19 24 true (((x10 == x11) && (x12 == x13)) && (x14 == x15)) rfl rfl rfl rfl) rfl (fun hg _ => q_eqS (a := x16) (b := x17) rfl (gvb_yes hg) (gvb_yes hg)) ?_
    refine rd_pure (i := 25) (d := (some 30)) hD (by kernel_rfl) (by kernel_rfl) rfl (.free rfl) rfl (fun _ => q_pickGT (a := (((x10 == x11) && (x12 == x13)) && (x14 == x15))) (b := (x16 == x17)) rfl rfl rfl rfl) ?_
    refine rd_pure (i := 26) (d := (some 31)) hD (by kernel_rfl) (by kernel_rfl) rfl (.free rfl) rfl (fun _ => q_move (v := .bool (((((x10 == x11) && (x12 == x13)) && (x14 == x15)) && (x16 == x17)))) rfl rfl) ?_
    refine ro_if (b := ((((x10 == x11) && (x12 == x13)) && (x14 == x15)) && (x16 == x17))) h (fun hb18 h => ?_) (fun hb18 h => ?_)
    · refine rd_pure (i := 27) (d := (some 32)) hD (by kernel_rfl) (by kernel_rfl) rfl (.by_ 26 true 31 ((((x10 == x11) && (x12 == x13)) && (x14 == x15)) && (x16 == x17)) rfl rfl rfl hb18) rfl (fun _ => q_fieldAddr (a := a3) (off := 3) rfl Try.underlying36 rfl rfl ok34 (by decide) rfl) ?_
      refine rd_pure (i := 30) (d := (some 35)) hD (by kernel_rfl) (by kernel_rfl) rfl (.by_ 26 true 31 ((((x10 == x11) && (x12 == x13)) && (x14 == x15)) && (x16 == x17)) rfl rfl rfl hb18) rfl (fun _ => q_fieldAddr (a := a5) (off := 3) rfl Try.underlying36 rfl rfl ok34 (by decide) rfl) ?_
      obtain ⟨x19, hx19, h⟩ := h
      refine rd_read (i := 28) (d := (some 33)) (fun W => (RdAt tFlt (a3.add 3) W) x19) hD (by kernel_rfl) (by kernel_rfl) rfl (.by_ 26 true 31 ((((x10 == x11) && (x12 == x13)) && (x14 == x15)) && (x16 == x17)) rfl rfl rfl hb18) rfl (fun W hr => q_load (T := tFlt) (u := x19) (a := (a3.add 3)) rfl ok34 rfl hr) hx19 ?_
      obtain ⟨x20, hx20, h⟩ := h
      refine rd_read (i := 31) (d := (some 36)) (fun W => (RdAt tFlt (a5.add 3) W) x20) hD (by kernel_rfl) (by kernel_rfl) rfl (.by_ 26 true 31 ((((x10 == x11) && (x12 == x13)) && (x14 == x15)) && (x16 == x17)) rfl rfl rfl hb18) rfl (fun W hr => q_load (T := tFlt) (u := x20) (a := (a5.add 3)) rfl ok34 rfl hr) hx20 ?_
      refine rd_one (i := 29) (by kernel_rfl) ?_
      refine po_wp rfl (.by_ 26 true 31 ((((x10 == x11) && (x12 == x13)) && (x14 == x15)) && (x16 == x17)) rfl rfl rfl hb18) (wp_cl (d := (some 34)) rfl (q_call (k := 26) (l := [.float .f64 (x19)]) rfl ent26 rfl) h ?_)
      intro r22 w21 h
      obtain ⟨hk23, h⟩ := h
      obtain ⟨hk24, h⟩ := h
      obtain ⟨hk25, h⟩ := h
      obtain ⟨hk26, h⟩ := h
      obtain ⟨hk27, h⟩ := h
      obtain ⟨hk28, h⟩ := h
      obtain ⟨hk29, h⟩ := h
      obtain ⟨hk30, h⟩ := h
      obtain ⟨hk31, h⟩ := h
      refine ⟨(hk_keep (fun _ => hk31) (hk_wait (by kernel_rfl) (hk_keep (fun _ => hk30) (hk_keep (fun _ => hk29) (hk_keep (fun _ => hk28) (hk_keep (fun _ => hk27) (hk_keep (fun _ => hk26) (hk_keep (fun _ => hk25) (hk_keep (fun _ => hk24) (hk_keep (fun _ => hk23) hk_nil)))))))))), ?_⟩
      refine rd_one (i := 32) (by kernel_rfl) ?_
      refine po_wp rfl (.by_ 26 true 31 ((((x10 == x11) && (x12 == x13)) && (x14 == x15)) && (x16 == x17)) rfl rfl rfl hb18) (wp_cl (d := (some 37)) rfl (q_call (k := 26) (l := [.float .f64 (x20)]) rfl ent26 rfl) h ?_)
      intro r33 w32 h
      obtain ⟨hk34, h⟩ := h
      obtain ⟨hk35, h⟩ := h
      obtain ⟨hk36, h⟩ := h
      obtain ⟨hk37, h⟩ := h
      obtain ⟨hk38, h⟩ := h
      obtain ⟨hk39, h⟩ := h
      obtain ⟨hk40, h⟩ := h
      obtain ⟨hk41, h⟩ := h
      obtain ⟨hk42, h⟩ := h
      refine ⟨(hk_wait (by kernel_rfl) (hk_keep (fun _ => hk42) (hk_keep (fun _ => hk41) (hk_keep (fun _ => hk40) (hk_keep (fun _ => hk39) (hk_keep (fun _ => hk38) (hk_keep (fun _ => hk37) (hk_keep (fun _ => hk36) (hk_keep (fun _ => hk35) (hk_keep (fun _ => hk34) hk_nil)))))))))), ?_⟩
      refine rd_pure (i := 33) (d := (some 38)) hD (by kernel_rfl) (by kernel_rfl) rfl (.by_ 26 true 31 ((((x10 == x11) && (x12 == x13)) && (x14 == x15)) && (x16 == x17)) rfl rfl rfl hb18) rfl (fun _ => q_eql (a := r22) (b := r33) rfl rfl rfl) ?_
      refine rd_pure (i := 34) (d := (some 39)) hD (by kernel_rfl) (by kernel_rfl) rfl (.free rfl) rfl (fun _ => q_pickT (v := .bool ((r22 == r33))) (b := ((((x10 == x11) && (x12 == x13)) && (x14 == x15)) && (x16 == x17))) rfl rfl hb18 rfl) ?_
      refine rd_pure (i := 35) (d := (some 4)) hD (by kernel_rfl) (by kernel_rfl) rfl (.free rfl) rfl (fun _ => q_assign (v := .bool ((r22 == r33))) rfl rfl) ?_
      refine rd_nil (by kernel_rfl) ?_
      exact ⟨((r22 == r33)), _, arr (upd_step rfl rfl), h⟩
    · refine rd_bar (i := 27) (d := (some 32)) hD (by kernel_rfl) (by kernel_rfl) rfl (.by_ 26 true 31 ((((x10 == x11) && (x12 == x13)) && (x14 == x15)) && (x16 == x17)) rfl rfl rfl hb18) rfl ?_
      refine rd_bar (i := 30) (d := (some 35)) hD (by kernel_rfl) (by kernel_rfl) rfl (.by_ 26 true 31 ((((x10 == x11) && (x12 == x13)) && (x14 == x15)) && (x16 == x17)) rfl rfl rfl hb18) rfl ?_
      refine rd_bar (i := 28) (d := (some 33)) hD (by kernel_rfl) (by kernel_rfl) rfl (.by_ 26 true 31 ((((x10 == x11) && (x12 == x13)) && (x14 == x15)) && (x16 == x17)) rfl rfl rfl hb18) rfl ?_
      refine rd_bar (i := 31) (d := (some 36)) hD (by kernel_rfl) (by kernel_rfl) rfl (.by_ 26 true 31 ((((x10 == x11) && (x12 == x13)) && (x14 == x15)) && (x16 == x17)) rfl rfl rfl hb18) rfl ?_
      refine rd_one (i := 29) (by kernel_rfl) ?_
      refine po_bar (d := (some 34)) rfl (.by_ 26 true 31 ((((x10 == x11) && (x12 == x13)) && (x14 == x15)) && (x16 == x17)) rfl rfl rfl hb18) rfl ⟨fun _ _ _ h => h, ?_⟩
      refine rd_one (i := 32) (by kernel_rfl) ?_
      refine po_bar (d := (some 37)) rfl (.by_ 26 true 31 ((((x10 == x11) && (x12 == x13)) && (x14 == x15)) && (x16 == x17)) rfl rfl rfl hb18) rfl ⟨fun _ _ _ h => h, ?_⟩
      refine rd_bar (i := 33) (d := (some 38)) hD (by kernel_rfl) (by kernel_rfl) rfl (.by_ 26 true 31 ((((x10 == x11) && (x12 == x13)) && (x14 == x15)) && (x16 == x17)) rfl rfl rfl hb18) rfl ?_
      refine rd_pure (i := 34) (d := (some 39)) hD (by kernel_rfl) (by kernel_rfl) rfl (.free rfl) rfl (fun _ => q_pickF (v := .bool (false)) (b := ((((x10 == x11) && (x12 == x13)) && (x14 == x15)) && (x16 == x17))) rfl rfl hb18 rfl) ?_
      refine rd_pure (i := 35) (d := (some 4)) hD (by kernel_rfl) (by kernel_rfl) rfl (.free rfl) rfl (fun _ => q_assign (v := .bool (false)) rfl rfl) ?_
      refine rd_nil (by kernel_rfl) ?_
      exact ⟨(false), _, arr (upd_step rfl rfl), h⟩

end Go.Proofs.Ytjhenlajkhckfaa.Cf
