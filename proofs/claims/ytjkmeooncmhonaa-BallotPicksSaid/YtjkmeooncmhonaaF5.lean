/- Characteristic formulae of Go functions, and that they are. Printed by gen.py (own tool). -/
import Derived.Test.YtjkmeooncmhonaaTy
namespace Go.Proofs.Ytjkmeooncmhonaa.Cf
open Go
set_option maxRecDepth 100000
set_option maxHeartbeats 1000000
set_option linter.unusedVariables false
set_option linter.unusedSimpArgs false

-- (*moiety/disk.Disk).act
def F42_j1 (d_1 : (Option Addr)) (n_2 : Int) (do_4 : Fv) (w5 : World) (R : Int → World → Prop) : Prop :=
  ex (NC d_1) fun a6 =>
  ex (RdAt (tInt .i64) (a6.add 1) w5) fun x7 =>
  st (tInt .i64) (a6.add 1) (IntKind.i64.wrap (x7 + (1 : Int))) w5 fun w8 =>
  ex (RdAt tSlc (a6.add 0) w8) fun x9 =>
  ex (IxA x9 2 n_2) fun a10 =>
  clv Try.prog do_4 [.pointer (some a10)] tUnit w8 fun r12 w11 =>
  R (0 : Int) w11
def F42 (d_1 : (Option Addr)) (n_2 : Int) (size_3 : Int) (do_4 : Fv) (w : World) (R : Int → World → Prop) : Prop :=
  cl Try.prog 47 [.pointer (d_1), .int .i64 (n_2)] tBool w fun r14 w13 =>
  if (!r14) = true then (
    R (70 : Int) w13
  ) else (
    ex (NC d_1) fun a15 =>
    ex (RdAt tBool (a15.add 2) w13) fun x16 =>
    if x16 = true then (
      R (71 : Int) w13
    ) else (
      if (decide (size_3 > (4194304 : Int))) = true then (
        R (72 : Int) w13
      ) else (
        ex (RdAt (tInt .i64) (a15.add 3) w13) fun x17 =>
        if (x17 == (1 : Int)) = true then (
          ex (RdAt tSlc (a15.add 4) w13) fun x18 =>
          cl Try.prog 19 [.pointer (d_1), tSlc.enc (x18)] tUnit w13 fun r20 w19 =>
          R (71 : Int) w19
        ) else (
          ex (RdAt (tInt .i64) (a15.add 3) w13) fun x21 =>
          if (decide (x21 > (1 : Int))) = true then (
            ex (RdAt (tInt .i64) (a15.add 3) w13) fun x22 =>
            st (tInt .i64) (a15.add 3) (IntKind.i64.wrap (x22 - (1 : Int))) w13 fun w23 =>
            F42_j1 d_1 n_2 do_4 w23 R
          ) else (
            F42_j1 d_1 n_2 do_4 w13 R
          )
        )
      )
    )
  )
theorem F42_ok {d_1 : (Option Addr)} {n_2 : Int} {size_3 : Int} {do_4 : Fv} {w : World} {R : Int → World → Prop} (h : F42 d_1 n_2 size_3 do_4 w R) : cl Try.prog 42 [.pointer (d_1), .int .i64 (n_2), .int .i64 (size_3), (do_4).enc] (tInt .i64) w R := by
  unfold F42 at h
  refine calls_start 62 Try.func42 rfl rfl (Nat.le_of_ble_eq_true rfl) ?_
  refine wp_seq ?_
  refine wp_text [0] rfl ?_
  refine rv 8 rfl rfl rfl (q_assign (v := .int .i64 ((0 : Int))) rfl rfl) ?_
  refine ro_nil ?_
  refine seq_join (σ := Unit) (J := fun (s : Unit) w => F42_j1 d_1 n_2 do_4 w R) (fr := fun g (s : Unit) => upd (upd (upd (g) 0 (.pointer (d_1))) 1 (.int .i64 (n_2))) 3 ((do_4).enc)) ?_ ?_
  · rintro ⟨⟩ g w5 h
    unfold F42_j1 at h
    refine wp_seq ?_
    refine wp_text [0, 1, 2, 3, 4, 5, 6, 7] rfl ?_
    refine rv 47 rfl rfl rfl (q_move (v := .pointer (d_1)) rfl rfl) ?_
    obtain ⟨a6, ha6, h⟩ := h
    refine rv 48 rfl rfl rfl (q_nilCheck (a := a6) rfl (congrArg Value.pointer ha6)) ?_
    refine rv 49 rfl rfl rfl (q_fieldAddr (a := a6) (off := 1) rfl Try.underlying80 rfl rfl ok3 (by decide) rfl) ?_
    obtain ⟨x7, hx7, h⟩ := h
    refine rv 50 rfl rfl rfl (q_load (T := (tInt .i64)) (u := x7) (a := (a6.add 1)) rfl ok3 rfl hx7) ?_
    refine rv 51 rfl rfl rfl (q_add (a := x7) (b := (1 : Int)) rfl rfl rfl) ?_
    refine rv 52 rfl rfl rfl (q_nilCheck (a := a6) rfl (congrArg Value.pointer ha6)) ?_
    refine rv 53 rfl rfl rfl (q_fieldAddr (a := a6) (off := 1) rfl Try.underlying80 rfl rfl ok3 (by decide) rfl) ?_
    obtain ⟨w8, hw8, hrw8, h⟩ := st_open h
    refine ro_skip (d := none) rfl (.free rfl) rfl (q_store (T := (tInt .i64)) (u := (IntKind.i64.wrap (x7 + (1 : Int)))) (a := (a6.add 1)) rfl ok3 rfl rfl hrw8 hw8) ?_
    refine ro_nil ?_
    refine wp_seq ?_
    refine wp_text [0, 1, 2, 3, 4, 5, 6, 7] rfl ?_
    refine rv 54 rfl rfl rfl (q_move (v := (do_4).enc) rfl rfl) ?_
    refine rv 55 rfl rfl rfl (q_move (v := .pointer (d_1)) rfl rfl) ?_
    refine rv 56 rfl rfl rfl (q_nilCheck (a := a6) rfl (congrArg Value.pointer ha6)) ?_
    refine rv 57 rfl rfl rfl (q_fieldAddr (a := a6) (off := 0) rfl Try.underlying80 rfl rfl ok78 (by decide) rfl) ?_
    obtain ⟨x9, hx9, h⟩ := h
    refine rv 58 rfl rfl rfl (q_load (T := tSlc) (u := x9) (a := (a6.add 0)) rfl ok78 rfl hx9) ?_
    refine rv 59 rfl rfl rfl (q_move (v := .int .i64 (n_2)) rfl rfl) ?_
    obtain ⟨a10, ha10, h⟩ := h
    refine rv 60 rfl rfl rfl (q_indexAddr (s := x9) (i := n_2) rfl Try.underlying78 ok102 rfl rfl ha10) ?_
    refine ro_wp rfl (.free rfl) (wp_clv (d := (some 61)) (l := [.pointer (some a10)]) (fv := do_4) rfl rfl rfl rfl h ?_)
    intro r12 w11 h
    refine ro_nil ?_
    refine wp_seq ?_
    refine wp_text [0] rfl ?_
    refine rv 8 rfl rfl rfl (q_assign (v := .int .i64 ((0 : Int))) rfl rfl) ?_
    refine ro_nil ?_
    refine wp_ret ?_
    exact ret_ok rfl (.cons (.tmp (v := .int .i64 ((0 : Int))) rfl) .nil) ⟨(0 : Int), rfl, h⟩
  · refine wp_block ?_
    refine wp_seq ?_
    refine wp_text [0, 1, 2, 3, 4] rfl ?_
    refine rv 10 rfl rfl rfl (q_move (v := .pointer (d_1)) rfl rfl) ?_
    refine rv 11 rfl rfl rfl (q_move (v := .int .i64 (n_2)) rfl rfl) ?_
    refine ro_wp rfl (.free rfl) (wp_cl (d := (some 12)) rfl (q_call (k := 47) (l := [.pointer (d_1), .int .i64 (n_2)]) rfl ent47 rfl) h ?_)
    intro r14 w13 h
    refine rv 13 rfl rfl rfl (q_not (b := r14) rfl rfl) ?_
    refine rv 9 rfl rfl rfl (q_assign (v := .bool ((!r14))) rfl rfl) ?_
    refine ro_nil ?_
    refine wp_if (b := (!r14)) rfl h (fun hb28 h => ?_) (fun hb28 h => ?_)
    · refine wp_seq ?_
      refine wp_text [0] rfl ?_
      refine rv 8 rfl rfl rfl (q_assign (v := .int .i64 ((70 : Int))) rfl rfl) ?_
      refine ro_nil ?_
      refine wp_ret ?_
      exact ret_ok rfl (.cons (.tmp (v := .int .i64 ((70 : Int))) rfl) .nil) ⟨(70 : Int), rfl, h⟩
    · refine wp_seq ?_
      refine wp_text [0, 1, 2, 3, 4] rfl ?_
      refine rv 15 rfl rfl rfl (q_move (v := .pointer (d_1)) rfl rfl) ?_
      obtain ⟨a15, ha15, h⟩ := h
      refine rv 16 rfl rfl rfl (q_nilCheck (a := a15) rfl (congrArg Value.pointer ha15)) ?_
      refine rv 17 rfl rfl rfl (q_fieldAddr (a := a15) (off := 2) rfl Try.underlying80 rfl rfl ok4 (by decide) rfl) ?_
      obtain ⟨x16, hx16, h⟩ := h
      refine rv 18 rfl rfl rfl (q_load (T := tBool) (u := x16) (a := (a15.add 2)) rfl ok4 rfl hx16) ?_
      refine rv 14 rfl rfl rfl (q_assign (v := .bool (x16)) rfl rfl) ?_
      refine ro_nil ?_
      refine wp_if (b := x16) rfl h (fun hb27 h => ?_) (fun hb27 h => ?_)
      · refine wp_seq ?_
        refine wp_text [0] rfl ?_
        refine rv 8 rfl rfl rfl (q_assign (v := .int .i64 ((71 : Int))) rfl rfl) ?_
        refine ro_nil ?_
        refine wp_ret ?_
        exact ret_ok rfl (.cons (.tmp (v := .int .i64 ((71 : Int))) rfl) .nil) ⟨(71 : Int), rfl, h⟩
      · refine wp_seq ?_
        refine wp_text [0, 1, 2] rfl ?_
        refine rv 20 rfl rfl rfl (q_move (v := .int .i64 (size_3)) rfl rfl) ?_
        refine rv 21 rfl rfl rfl (q_gtr (a := size_3) (b := (4194304 : Int)) rfl rfl rfl) ?_
        refine rv 19 rfl rfl rfl (q_assign (v := .bool ((decide (size_3 > (4194304 : Int))))) rfl rfl) ?_
        refine ro_nil ?_
        refine wp_if (b := (decide (size_3 > (4194304 : Int)))) rfl h (fun hb26 h => ?_) (fun hb26 h => ?_)
        · refine wp_seq ?_
          refine wp_text [0] rfl ?_
          refine rv 8 rfl rfl rfl (q_assign (v := .int .i64 ((72 : Int))) rfl rfl) ?_
          refine ro_nil ?_
          refine wp_ret ?_
          exact ret_ok rfl (.cons (.tmp (v := .int .i64 ((72 : Int))) rfl) .nil) ⟨(72 : Int), rfl, h⟩
        · refine wp_seq ?_
          refine wp_text [0, 1, 2, 3, 4, 5] rfl ?_
          refine rv 23 rfl rfl rfl (q_move (v := .pointer (d_1)) rfl rfl) ?_
          refine rv 24 rfl rfl rfl (q_nilCheck (a := a15) rfl (congrArg Value.pointer ha15)) ?_
          refine rv 25 rfl rfl rfl (q_fieldAddr (a := a15) (off := 3) rfl Try.underlying80 rfl rfl ok3 (by decide) rfl) ?_
          obtain ⟨x17, hx17, h⟩ := h
          refine rv 26 rfl rfl rfl (q_load (T := (tInt .i64)) (u := x17) (a := (a15.add 3)) rfl ok3 rfl hx17) ?_
          refine rv 27 rfl rfl rfl (q_eql (a := x17) (b := (1 : Int)) rfl rfl rfl) ?_
          refine rv 22 rfl rfl rfl (q_assign (v := .bool ((x17 == (1 : Int)))) rfl rfl) ?_
          refine ro_nil ?_
          refine wp_if (b := (x17 == (1 : Int))) rfl h (fun hb25 h => ?_) (fun hb25 h => ?_)
          · refine wp_seq ?_
            refine wp_text [0, 1, 2, 3, 4, 5] rfl ?_
            refine rv 28 rfl rfl rfl (q_move (v := .pointer (d_1)) rfl rfl) ?_
            refine rv 29 rfl rfl rfl (q_move (v := .pointer (d_1)) rfl rfl) ?_
            refine rv 30 rfl rfl rfl (q_nilCheck (a := a15) rfl (congrArg Value.pointer ha15)) ?_
            refine rv 31 rfl rfl rfl (q_fieldAddr (a := a15) (off := 4) rfl Try.underlying80 rfl rfl ok37 (by decide) rfl) ?_
            obtain ⟨x18, hx18, h⟩ := h
            refine rv 32 rfl rfl rfl (q_load (T := tSlc) (u := x18) (a := (a15.add 4)) rfl ok37 rfl hx18) ?_
            refine ro_wp rfl (.free rfl) (wp_cl (d := (some 33)) rfl (q_call (k := 19) (l := [.pointer (d_1), tSlc.enc (x18)]) rfl ent19 rfl) h ?_)
            intro r20 w19 h
            refine ro_nil ?_
            refine wp_seq ?_
            refine wp_text [0] rfl ?_
            refine rv 8 rfl rfl rfl (q_assign (v := .int .i64 ((71 : Int))) rfl rfl) ?_
            refine ro_nil ?_
            refine wp_ret ?_
            exact ret_ok rfl (.cons (.tmp (v := .int .i64 ((71 : Int))) rfl) .nil) ⟨(71 : Int), rfl, h⟩
          · refine wp_seq ?_
            refine wp_text [0, 1, 2, 3, 4, 5] rfl ?_
            refine rv 35 rfl rfl rfl (q_move (v := .pointer (d_1)) rfl rfl) ?_
            refine rv 36 rfl rfl rfl (q_nilCheck (a := a15) rfl (congrArg Value.pointer ha15)) ?_
            refine rv 37 rfl rfl rfl (q_fieldAddr (a := a15) (off := 3) rfl Try.underlying80 rfl rfl ok3 (by decide) rfl) ?_
            obtain ⟨x21, hx21, h⟩ := h
            refine rv 38 rfl rfl rfl (q_load (T := (tInt .i64)) (u := x21) (a := (a15.add 3)) rfl ok3 rfl hx21) ?_
            refine rv 39 rfl rfl rfl (q_gtr (a := x21) (b := (1 : Int)) rfl rfl rfl) ?_
            refine rv 34 rfl rfl rfl (q_assign (v := .bool ((decide (x21 > (1 : Int))))) rfl rfl) ?_
            refine ro_nil ?_
            refine wp_if (b := (decide (x21 > (1 : Int)))) rfl h (fun hb24 h => ?_) (fun hb24 h => ?_)
            · refine wp_text [0, 1, 2, 3, 4, 5, 6, 7] rfl ?_
              refine rv 40 rfl rfl rfl (q_move (v := .pointer (d_1)) rfl rfl) ?_
              refine rv 41 rfl rfl rfl (q_nilCheck (a := a15) rfl (congrArg Value.pointer ha15)) ?_
              refine rv 42 rfl rfl rfl (q_fieldAddr (a := a15) (off := 3) rfl Try.underlying80 rfl rfl ok3 (by decide) rfl) ?_
              obtain ⟨x22, hx22, h⟩ := h
              refine rv 43 rfl rfl rfl (q_load (T := (tInt .i64)) (u := x22) (a := (a15.add 3)) rfl ok3 rfl hx22) ?_
              refine rv 44 rfl rfl rfl (q_sub (a := x22) (b := (1 : Int)) rfl rfl rfl) ?_
              refine rv 45 rfl rfl rfl (q_nilCheck (a := a15) rfl (congrArg Value.pointer ha15)) ?_
              refine rv 46 rfl rfl rfl (q_fieldAddr (a := a15) (off := 3) rfl Try.underlying80 rfl rfl ok3 (by decide) rfl) ?_
              obtain ⟨w23, hw23, hrw23, h⟩ := st_open h
              refine ro_skip (d := none) rfl (.free rfl) rfl (q_store (T := (tInt .i64)) (u := (IntKind.i64.wrap (x22 - (1 : Int)))) (a := (a15.add 3)) rfl ok3 rfl rfl hrw23 hw23) ?_
              refine ro_nil ?_
              exact ⟨(), _, arr (upd_step (upd_step (upd_step rfl rfl) rfl) rfl), h⟩
            · refine wp_skip ?_
              exact ⟨(), _, arr (upd_step (upd_step (upd_step rfl rfl) rfl) rfl), h⟩

-- (*moiety/disk.Disk).Sync$1
def F43 (l_1 : (Option Addr)) (w : World) (R : Unit → World → Prop) : Prop :=
  ex (NC l_1) fun a2 =>
  ex (RdAt tSlc (a2.add 0) w) fun x3 =>
  st (tInt .i64) (a2.add 1) (x3.len : Int) w fun w4 =>
  R () w4
theorem F43_ok {l_1 : (Option Addr)} {w : World} {R : Unit → World → Prop} (h : F43 l_1 w R) : cl Try.prog 43 [.pointer (l_1)] tUnit w R := by
  unfold F43 at h
  refine calls_start 10 Try.func43 rfl rfl (Nat.le_of_ble_eq_true rfl) ?_
  refine wp_text [0, 1, 2, 3, 4, 5, 6, 7, 8] rfl ?_
  refine rv 2 rfl rfl rfl (q_move (v := .pointer (l_1)) rfl rfl) ?_
  refine rv 3 rfl rfl rfl (q_move (v := .pointer (l_1)) rfl rfl) ?_
  obtain ⟨a2, ha2, h⟩ := h
  refine rv 4 rfl rfl rfl (q_nilCheck (a := a2) rfl (congrArg Value.pointer ha2)) ?_
  refine rv 5 rfl rfl rfl (q_fieldAddr (a := a2) (off := 0) rfl Try.underlying102 rfl rfl ok72 (by decide) rfl) ?_
  obtain ⟨x3, hx3, h⟩ := h
  refine rv 6 rfl rfl rfl (q_load (T := tSlc) (u := x3) (a := (a2.add 0)) rfl ok72 rfl hx3) ?_
  refine rv 7 rfl rfl rfl (q_len (s := x3) rfl Try.underlying72 rfl) ?_
  refine rv 8 rfl rfl rfl (q_nilCheck (a := a2) rfl (congrArg Value.pointer ha2)) ?_
  refine rv 9 rfl rfl rfl (q_fieldAddr (a := a2) (off := 1) rfl Try.underlying102 rfl rfl ok3 (by decide) rfl) ?_
  obtain ⟨w4, hw4, hrw4, h⟩ := st_open h
  refine ro_skip (d := none) rfl (.free rfl) rfl (q_store (T := (tInt .i64)) (u := (x3.len : Int)) (a := (a2.add 1)) rfl ok3 rfl rfl hrw4 hw4) ?_
  refine ro_nil ?_
  exact end_ok rfl .nil ⟨(), rfl, h⟩

-- (*moiety/disk.Disk).has
def F47 (d_1 : (Option Addr)) (n_2 : Int) (w : World) (R : Bool → World → Prop) : Prop :=
  ex (fun x => (decide (n_2 ≥ (0 : Int))) = true → (NC d_1) x) fun a3 =>
  ex (fun x => (decide (n_2 ≥ (0 : Int))) = true → (RdAt tSlc (a3.add 0) w) x) fun x4 =>
  R ((decide (n_2 ≥ (0 : Int))) && (decide (n_2 < (x4.len : Int)))) w
theorem F47_ok {d_1 : (Option Addr)} {n_2 : Int} {w : World} {R : Bool → World → Prop} (h : F47 d_1 n_2 w R) : cl Try.prog 47 [.pointer (d_1), .int .i64 (n_2)] tBool w R := by
  unfold F47 at h
  refine calls_start 16 Try.func47 rfl rfl (Nat.le_of_ble_eq_true rfl) ?_
  refine wp_seq ?_
  refine wp_text [0] rfl ?_
  refine rv 4 rfl rfl rfl (q_assign (v := .bool (false)) rfl rfl) ?_
  refine ro_nil ?_
  refine wp_seq ?_
  refine wp_text [0, 1, 2, 3, 4, 5, 6, 7, 8, 9, 10, 11] rfl ?_
  refine rv 5 rfl rfl rfl (q_move (v := .int .i64 (n_2)) rfl rfl) ?_
  refine rv 6 rfl rfl rfl (q_geq (a := n_2) (b := (0 : Int)) rfl rfl rfl) ?_
  refine rv 7 rfl rfl rfl (q_move (v := .bool ((decide (n_2 ≥ (0 : Int))))) rfl rfl) ?_
  refine ro_gval (g := (decide (n_2 ≥ (0 : Int)))) (d := (some 8)) rfl (.yes 2 7 true (decide (n_2 ≥ (0 : Int))) rfl rfl rfl rfl) rfl (fun hg => q_move (v := .int .i64 (n_2)) rfl rfl) ?_
  refine ro_gval (g := (decide (n_2 ≥ (0 : Int)))) (d := (some 9)) rfl (.yes 2 7 true (decide (n_2 ≥ (0 : Int))) rfl rfl rfl rfl) rfl (fun hg => q_move (v := .pointer (d_1)) rfl rfl) ?_
  obtain ⟨a3, ha3, h⟩ := h
  refine ro_gval (g := (decide (n_2 ≥ (0 : Int)))) (d := (some 10)) rfl (.yes 2 7 true (decide (n_2 ≥ (0 : Int))) rfl rfl rfl rfl) rfl (fun hg => q_nilCheck (a := a3) rfl ((gvb_yes hg).trans (congrArg Value.pointer (ha3 hg)))) ?_
  refine ro_gval (g := (decide (n_2 ≥ (0 : Int)))) (d := (some 11)) rfl (.yes 2 7 true (decide (n_2 ≥ (0 : Int))) rfl rfl rfl rfl) rfl (fun hg => q_fieldAddr (a := a3) (off := 0) rfl Try.underlying80 rfl rfl ok78 (by decide) (gvb_yes hg)) ?_
  obtain ⟨x4, hx4, h⟩ := h
  refine ro_gval (g := (decide (n_2 ≥ (0 : Int)))) (d := (some 12)) rfl (.yes 2 7 true (decide (n_2 ≥ (0 : Int))) rfl rfl rfl rfl) rfl (fun hg => q_load (T := tSlc) (u := x4) (a := (a3.add 0)) rfl ok78 (gvb_yes hg) (hx4 hg)) ?_
  refine ro_gval (g := (decide (n_2 ≥ (0 : Int)))) (d := (some 13)) rfl (.yes 2 7 true (decide (n_2 ≥ (0 : Int))) rfl rfl rfl rfl) rfl (fun hg => q_len (s := x4) rfl Try.underlying78 (gvb_yes hg)) ?_
  refine ro_gval (g := (decide (n_2 ≥ (0 : Int)))) (d := (some 14)) rfl (.yes 2 7 true (decide (n_2 ≥ (0 : Int))) rfl rfl rfl rfl) rfl (fun hg => q_lss (a := n_2) (b := (x4.len : Int)) rfl (gvb_yes hg) (gvb_yes hg)) ?_
  refine rv 15 rfl rfl rfl (q_pickGT (a := (decide (n_2 ≥ (0 : Int)))) (b := (decide (n_2 < (x4.len : Int)))) rfl rfl rfl rfl) ?_
  refine rv 4 rfl rfl rfl (q_assign (v := .bool (((decide (n_2 ≥ (0 : Int))) && (decide (n_2 < (x4.len : Int)))))) rfl rfl) ?_
  refine ro_nil ?_
  refine wp_ret ?_
  exact ret_ok rfl (.cons (.tmp (v := .bool (((decide (n_2 ≥ (0 : Int))) && (decide (n_2 < (x4.len : Int)))))) rfl) .nil) ⟨((decide (n_2 ≥ (0 : Int))) && (decide (n_2 < (x4.len : Int)))), rfl, h⟩

-- moiety/frame.Open
def F48 (b_1 : Slc) (w : World) (R : (Slc × Int × Int) → World → Prop) : Prop :=
  if (decide ((b_1.len : Int) < (8 : Int))) = true then (
    R ((⟨none, 0, 0⟩ : Slc), (0 : Int), (31 : Int)) w
  ) else (
    cl Try.prog 59 [tSlc.enc (b_1)] (tInt .u32) w fun r3 w2 =>
    if (decide ((IntKind.i64.wrap r3) > (65536 : Int))) = true then (
      R ((⟨none, 0, 0⟩ : Slc), (0 : Int), (30 : Int)) w2
    ) else (
      if (decide ((IntKind.i64.wrap r3) > (IntKind.i64.wrap ((b_1.len : Int) - (8 : Int))))) = true then (
        R ((⟨none, 0, 0⟩ : Slc), (0 : Int), (31 : Int)) w2
      ) else (
        dr w2 fun w4 =>
        ex (Sub b_1 1 0 (4 : Int) ((b_1).cap : Int)) fun s5 =>
        ex (Sub b_1 1 (8 : Int) (IntKind.i64.wrap ((8 : Int) + (IntKind.i64.wrap r3))) ((b_1).cap : Int)) fun s6 =>
        ex (Sub b_1 1 (4 : Int) ((b_1).len : Int) ((b_1).cap : Int)) fun s7 =>
        cl Try.prog 60 [tSlc.enc (s5), tSlc.enc (s6)] (tInt .u32) w4 fun r9 w8 =>
        cl Try.prog 59 [tSlc.enc (s7)] (tInt .u32) w8 fun r11 w10 =>
        if (r9 != r11) = true then (
          R ((⟨none, 0, 0⟩ : Slc), (0 : Int), (32 : Int)) w10
        ) else (
          nwS 5 (tInt .u8) ([] : List Int) w10 fun a12 w13 =>
          ex (Sub b_1 1 (8 : Int) (IntKind.i64.wrap ((8 : Int) + (IntKind.i64.wrap r3))) ((b_1).cap : Int)) fun s14 =>
          apd 5 (tInt .u8) 1 1 (⟨some a12, 0, 0⟩ : Slc) s14 w13 fun r16 w15 =>
          ex (Sub r16 1 0 (IntKind.i64.wrap r3) (IntKind.i64.wrap r3)) fun s17 =>
          R (s17, (IntKind.i64.wrap ((8 : Int) + (IntKind.i64.wrap r3))), (0 : Int)) w15
        )
      )
    )
  )
theorem F48_ok {b_1 : Slc} {w : World} {R : (Slc × Int × Int) → World → Prop} (h : F48 b_1 w R) : cl Try.prog 48 [tSlc.enc (b_1)] (tTup3 tSlc (tInt .i64) (tInt .i64)) w R := by
  unfold F48 at h
  refine calls_start 46 Try.func48 rfl rfl (Nat.le_of_ble_eq_true rfl) ?_
  refine wp_seq ?_
  refine wp_text [0, 1, 2] rfl ?_
  refine rv 2 rfl rfl rfl (q_assign (v := tSlc.enc ((⟨none, 0, 0⟩ : Slc))) rfl rfl) ?_
  refine rv 3 rfl rfl rfl (q_assign (v := .int .i64 ((0 : Int))) rfl rfl) ?_
  refine rv 4 rfl rfl rfl (q_assign (v := .int .i64 ((0 : Int))) rfl rfl) ?_
  refine ro_nil ?_
  refine wp_seq ?_
  refine wp_seq ?_
  refine wp_text [0, 1, 2] rfl ?_
  refine rv 7 rfl rfl rfl (q_move (v := tSlc.enc (b_1)) rfl rfl) ?_
  refine rv 8 rfl rfl rfl (q_len (s := b_1) rfl Try.underlying72 rfl) ?_
  refine rv 9 rfl rfl rfl (q_lss (a := (b_1.len : Int)) (b := (8 : Int)) rfl rfl rfl) ?_
  refine ro_nil ?_
  refine wp_if (b := (decide ((b_1.len : Int) < (8 : Int)))) rfl h (fun hb21 h => ?_) (fun hb21 h => ?_)
  · refine wp_seq ?_
    refine wp_text [0, 1, 2] rfl ?_
    refine rv 2 rfl rfl rfl (q_assign (v := tSlc.enc ((⟨none, 0, 0⟩ : Slc))) rfl rfl) ?_
    refine rv 3 rfl rfl rfl (q_assign (v := .int .i64 ((0 : Int))) rfl rfl) ?_
    refine rv 4 rfl rfl rfl (q_assign (v := .int .i64 ((31 : Int))) rfl rfl) ?_
    refine ro_nil ?_
    refine wp_ret ?_
    exact ret_ok rfl (.cons (.tmp (v := tSlc.enc ((⟨none, 0, 0⟩ : Slc))) rfl) (.cons (.tmp (v := .int .i64 ((0 : Int))) rfl) (.cons (.tmp (v := .int .i64 ((31 : Int))) rfl) .nil))) ⟨((⟨none, 0, 0⟩ : Slc), (0 : Int), (31 : Int)), rfl, h⟩
  · refine wp_skip ?_
    refine wp_seq ?_
    refine wp_text [0, 1, 2, 3] rfl ?_
    refine rv 10 rfl rfl rfl (q_move (v := tSlc.enc (b_1)) rfl rfl) ?_
    refine ro_wp rfl (.free rfl) (wp_cl (d := (some 11)) rfl (q_call (k := 59) (l := [tSlc.enc (b_1)]) rfl ent59 rfl) h ?_)
    intro r3 w2 h
    refine rv 12 rfl rfl rfl (q_cvtI (a := r3) rfl Try.underlying137 Try.underlying3 rfl) ?_
    refine rv 5 rfl rfl rfl (q_assign (v := .int .i64 ((IntKind.i64.wrap r3))) rfl rfl) ?_
    refine ro_nil ?_
    refine wp_seq ?_
    refine wp_block ?_
    refine wp_seq ?_
    refine wp_text [0, 1, 2] rfl ?_
    refine rv 14 rfl rfl rfl (q_move (v := .int .i64 ((IntKind.i64.wrap r3))) rfl rfl) ?_
    refine rv 15 rfl rfl rfl (q_gtr (a := (IntKind.i64.wrap r3)) (b := (65536 : Int)) rfl rfl rfl) ?_
    refine rv 13 rfl rfl rfl (q_assign (v := .bool ((decide ((IntKind.i64.wrap r3) > (65536 : Int))))) rfl rfl) ?_
    refine ro_nil ?_
    refine wp_if (b := (decide ((IntKind.i64.wrap r3) > (65536 : Int)))) rfl h (fun hb20 h => ?_) (fun hb20 h => ?_)
    · refine wp_seq ?_
      refine wp_text [0, 1, 2] rfl ?_
      refine rv 2 rfl rfl rfl (q_assign (v := tSlc.enc ((⟨none, 0, 0⟩ : Slc))) rfl rfl) ?_
      refine rv 3 rfl rfl rfl (q_assign (v := .int .i64 ((0 : Int))) rfl rfl) ?_
      refine rv 4 rfl rfl rfl (q_assign (v := .int .i64 ((30 : Int))) rfl rfl) ?_
      refine ro_nil ?_
      refine wp_ret ?_
      exact ret_ok rfl (.cons (.tmp (v := tSlc.enc ((⟨none, 0, 0⟩ : Slc))) rfl) (.cons (.tmp (v := .int .i64 ((0 : Int))) rfl) (.cons (.tmp (v := .int .i64 ((30 : Int))) rfl) .nil))) ⟨((⟨none, 0, 0⟩ : Slc), (0 : Int), (30 : Int)), rfl, h⟩
    · refine wp_seq ?_
      refine wp_text [0, 1, 2, 3, 4, 5] rfl ?_
      refine rv 17 rfl rfl rfl (q_move (v := .int .i64 ((IntKind.i64.wrap r3))) rfl rfl) ?_
      refine rv 18 rfl rfl rfl (q_move (v := tSlc.enc (b_1)) rfl rfl) ?_
      refine rv 19 rfl rfl rfl (q_len (s := b_1) rfl Try.underlying72 rfl) ?_
      refine rv 20 rfl rfl rfl (q_sub (a := (b_1.len : Int)) (b := (8 : Int)) rfl rfl rfl) ?_
      refine rv 21 rfl rfl rfl (q_gtr (a := (IntKind.i64.wrap r3)) (b := (IntKind.i64.wrap ((b_1.len : Int) - (8 : Int)))) rfl rfl rfl) ?_
      refine rv 16 rfl rfl rfl (q_assign (v := .bool ((decide ((IntKind.i64.wrap r3) > (IntKind.i64.wrap ((b_1.len : Int) - (8 : Int))))))) rfl rfl) ?_
      refine ro_nil ?_
      refine wp_if (b := (decide ((IntKind.i64.wrap r3) > (IntKind.i64.wrap ((b_1.len : Int) - (8 : Int)))))) rfl h (fun hb19 h => ?_) (fun hb19 h => ?_)
      · refine wp_seq ?_
        refine wp_text [0, 1, 2] rfl ?_
        refine rv 2 rfl rfl rfl (q_assign (v := tSlc.enc ((⟨none, 0, 0⟩ : Slc))) rfl rfl) ?_
        refine rv 3 rfl rfl rfl (q_assign (v := .int .i64 ((0 : Int))) rfl rfl) ?_
        refine rv 4 rfl rfl rfl (q_assign (v := .int .i64 ((31 : Int))) rfl rfl) ?_
        refine ro_nil ?_
        refine wp_ret ?_
        exact ret_ok rfl (.cons (.tmp (v := tSlc.enc ((⟨none, 0, 0⟩ : Slc))) rfl) (.cons (.tmp (v := .int .i64 ((0 : Int))) rfl) (.cons (.tmp (v := .int .i64 ((31 : Int))) rfl) .nil))) ⟨((⟨none, 0, 0⟩ : Slc), (0 : Int), (31 : Int)), rfl, h⟩
      · refine wp_seq ?_
        obtain ⟨w4, hw4, h⟩ := dr_open h
        refine wp_drawn 12 mixed rfl (by kernel_rfl) (by intro c a d v w h; cases d <;> exact h) hw4 (fun hD => ?_)
        refine rp 0 23 hD rfl rfl rfl (fun _ => q_move (v := tSlc.enc (b_1)) rfl rfl) ?_
        obtain ⟨s5, hs5, h⟩ := h
        refine rp 1 24 hD rfl rfl rfl (fun _ => q_sliceH (s := b_1) (h := (4 : Int)) rfl Try.underlying72 ok5 rfl rfl hs5) ?_
        refine rp 2 25 hD rfl rfl rfl (fun _ => q_move (v := tSlc.enc (b_1)) rfl rfl) ?_
        refine rp 3 26 hD rfl rfl rfl (fun _ => q_move (v := .int .i64 ((IntKind.i64.wrap r3))) rfl rfl) ?_
        refine rp 4 27 hD rfl rfl rfl (fun _ => q_add (a := (8 : Int)) (b := (IntKind.i64.wrap r3)) rfl rfl rfl) ?_
        obtain ⟨s6, hs6, h⟩ := h
        refine rp 5 28 hD rfl rfl rfl (fun _ => q_sliceLH (s := b_1) (l := (8 : Int)) (h := (IntKind.i64.wrap ((8 : Int) + (IntKind.i64.wrap r3)))) rfl Try.underlying72 ok5 rfl rfl rfl hs6) ?_
        refine rp 7 30 hD rfl rfl rfl (fun _ => q_move (v := tSlc.enc (b_1)) rfl rfl) ?_
        obtain ⟨s7, hs7, h⟩ := h
        refine rp 8 31 hD rfl rfl rfl (fun _ => q_sliceL (s := b_1) (l := (4 : Int)) rfl Try.underlying72 ok5 rfl rfl hs7) ?_
        refine rd_one (i := 6) (by kernel_rfl) ?_
        refine po_wp rfl (.free rfl) (wp_cl (d := (some 29)) rfl (q_call (k := 60) (l := [tSlc.enc (s5), tSlc.enc (s6)]) rfl ent60 rfl) h ?_)
        intro r9 w8 h
        refine ⟨hk_nil, ?_⟩
        refine rd_one (i := 9) (by kernel_rfl) ?_
        refine po_wp rfl (.free rfl) (wp_cl (d := (some 32)) rfl (q_call (k := 59) (l := [tSlc.enc (s7)]) rfl ent59 rfl) h ?_)
        intro r11 w10 h
        refine ⟨hk_nil, ?_⟩
        refine rp 10 33 hD rfl rfl rfl (fun _ => q_neq (a := r9) (b := r11) rfl rfl rfl) ?_
        refine rp 11 22 hD rfl rfl rfl (fun _ => q_assign (v := .bool ((r9 != r11))) rfl rfl) ?_
        refine rd_nil (by kernel_rfl) ?_
        refine wp_if (b := (r9 != r11)) rfl h (fun hb18 h => ?_) (fun hb18 h => ?_)
        · refine wp_seq ?_
          refine wp_text [0, 1, 2] rfl ?_
          refine rv 2 rfl rfl rfl (q_assign (v := tSlc.enc ((⟨none, 0, 0⟩ : Slc))) rfl rfl) ?_
          refine rv 3 rfl rfl rfl (q_assign (v := .int .i64 ((0 : Int))) rfl rfl) ?_
          refine rv 4 rfl rfl rfl (q_assign (v := .int .i64 ((32 : Int))) rfl rfl) ?_
          refine ro_nil ?_
          refine wp_ret ?_
          exact ret_ok rfl (.cons (.tmp (v := tSlc.enc ((⟨none, 0, 0⟩ : Slc))) rfl) (.cons (.tmp (v := .int .i64 ((0 : Int))) rfl) (.cons (.tmp (v := .int .i64 ((32 : Int))) rfl) .nil))) ⟨((⟨none, 0, 0⟩ : Slc), (0 : Int), (32 : Int)), rfl, h⟩
        · refine wp_skip ?_
          refine wp_seq ?_
          refine wp_text [0, 1, 2, 3, 4, 5, 6] rfl ?_
          obtain ⟨a12, w13, ha12, hw13, h⟩ := nwS_open h
          refine rv 34 rfl rfl rfl (q_row0 (T := (tInt .u8)) rfl Try.underlying72 ok5 inf5 ha12 hw13) ?_
          refine rv 35 rfl rfl rfl (q_move (v := tSlc.enc (b_1)) rfl rfl) ?_
          refine rv 36 rfl rfl rfl (q_move (v := .int .i64 ((IntKind.i64.wrap r3))) rfl rfl) ?_
          refine rv 37 rfl rfl rfl (q_add (a := (8 : Int)) (b := (IntKind.i64.wrap r3)) rfl rfl rfl) ?_
          obtain ⟨s14, hs14, h⟩ := h
          refine rv 38 rfl rfl rfl (q_sliceLH (s := b_1) (l := (8 : Int)) (h := (IntKind.i64.wrap ((8 : Int) + (IntKind.i64.wrap r3)))) rfl Try.underlying72 ok5 rfl rfl rfl hs14) ?_
          refine ro_wp rfl (.free rfl) (wp_append (d := (some 39)) (T := (tInt .u8)) rfl rfl Try.underlying72 ⟨_, Try.underlying72⟩ ok5 inf5 rfl rfl (Nat.lt_of_lt_of_le Nat.zero_lt_one (Nat.le_of_ble_eq_true rfl)) rfl rfl h ?_)
          intro r16 w15 h
          refine rv 6 rfl rfl rfl (q_assign (v := tSlc.enc (r16)) rfl rfl) ?_
          refine ro_nil ?_
          refine wp_seq ?_
          refine wp_text [0, 1, 2, 3, 4, 5, 6, 7, 8] rfl ?_
          refine rv 40 rfl rfl rfl (q_move (v := tSlc.enc (r16)) rfl rfl) ?_
          refine rv 41 rfl rfl rfl (q_move (v := .int .i64 ((IntKind.i64.wrap r3))) rfl rfl) ?_
          refine rv 42 rfl rfl rfl (q_move (v := .int .i64 ((IntKind.i64.wrap r3))) rfl rfl) ?_
          obtain ⟨s17, hs17, h⟩ := h
          refine rv 43 rfl rfl rfl (q_sliceHM (s := r16) (h := (IntKind.i64.wrap r3)) (m := (IntKind.i64.wrap r3)) rfl Try.underlying72 ok5 rfl rfl rfl hs17) ?_
          refine rv 44 rfl rfl rfl (q_move (v := .int .i64 ((IntKind.i64.wrap r3))) rfl rfl) ?_
          refine rv 45 rfl rfl rfl (q_add (a := (8 : Int)) (b := (IntKind.i64.wrap r3)) rfl rfl rfl) ?_
          refine rv 2 rfl rfl rfl (q_assign (v := tSlc.enc (s17)) rfl rfl) ?_
          refine rv 3 rfl rfl rfl (q_assign (v := .int .i64 ((IntKind.i64.wrap ((8 : Int) + (IntKind.i64.wrap r3))))) rfl rfl) ?_
          refine rv 4 rfl rfl rfl (q_assign (v := .int .i64 ((0 : Int))) rfl rfl) ?_
          refine ro_nil ?_
          refine wp_ret ?_
          exact ret_ok rfl (.cons (.tmp (v := tSlc.enc (s17)) rfl) (.cons (.tmp (v := .int .i64 ((IntKind.i64.wrap ((8 : Int) + (IntKind.i64.wrap r3))))) rfl) (.cons (.tmp (v := .int .i64 ((0 : Int))) rfl) .nil))) ⟨(s17, (IntKind.i64.wrap ((8 : Int) + (IntKind.i64.wrap r3))), (0 : Int)), rfl, h⟩

-- (*moiety/disk.Disk).Swap$1
def F49 (l_1 : (Option Addr)) (t_2 : Addr) (w : World) (R : Unit → World → Prop) : Prop :=
  ex (RdAt tSlc t_2 w) fun x3 =>
  mkS 5 (tInt .u8) 1 (0 : Int) (x3.len : Int) (x3.len : Int) w fun r5 w4 =>
  ex (NC l_1) fun a6 =>
  st tSlc (a6.add 0) r5 w4 fun w7 =>
  dr w7 fun w8 =>
  ex (RdAt tSlc (a6.add 0) w8) fun x9 =>
  ex (RdAt tSlc t_2 w8) fun x10 =>
  cpy (tInt .u8) 1 x9 x10 w8 fun r12 w11 =>
  st (tInt .i64) (a6.add 1) (r12 : Int) w11 fun w13 =>
  R () w13
theorem F49_ok {l_1 : (Option Addr)} {t_2 : Addr} {w : World} {R : Unit → World → Prop} (h : F49 l_1 t_2 w R) : cl Try.prog 49 [.pointer (l_1), .pointer (some t_2)] tUnit w R := by
  unfold F49 at h
  refine calls_start 18 Try.func49 rfl rfl (Nat.le_of_ble_eq_true rfl) ?_
  refine wp_seq ?_
  refine wp_text [0, 1, 2, 3, 4, 5, 6] rfl ?_
  refine rv 3 rfl rfl rfl (q_move (v := .pointer (l_1)) rfl rfl) ?_
  obtain ⟨x3, hx3, h⟩ := h
  refine rv 4 rfl rfl rfl (q_load (T := tSlc) (u := x3) (a := t_2) rfl ok72 rfl hx3) ?_
  refine rv 5 rfl rfl rfl (q_len (s := x3) rfl Try.underlying72 rfl) ?_
  refine ro_wp rfl (.free rfl) (wp_mkS (T := (tInt .u8)) (z := (0 : Int)) (l := (x3.len : Int)) (c := (x3.len : Int)) (d := (some 6)) rfl rfl Try.underlying72 ok5 inf5 rfl rfl h ?_)
  intro r5 w4 h
  obtain ⟨a6, ha6, h⟩ := h
  refine rv 7 rfl rfl rfl (q_nilCheck (a := a6) rfl (congrArg Value.pointer ha6)) ?_
  refine rv 8 rfl rfl rfl (q_fieldAddr (a := a6) (off := 0) rfl Try.underlying102 rfl rfl ok72 (by decide) rfl) ?_
  obtain ⟨w7, hw7, hrw7, h⟩ := st_open h
  refine ro_skip (d := none) rfl (.free rfl) rfl (q_store (T := tSlc) (u := r5) (a := (a6.add 0)) rfl ok72 rfl rfl hrw7 hw7) ?_
  refine ro_nil ?_
  obtain ⟨w8, hw8, h⟩ := dr_open h
  refine wp_drawn 10 mixed rfl (by kernel_rfl) (by intro c a d v w h; cases d <;> exact h) hw8 (fun hD => ?_)
  refine rp 0 9 hD rfl rfl rfl (fun _ => q_move (v := .pointer (l_1)) rfl rfl) ?_
  refine rp 1 10 hD rfl rfl rfl (fun _ => q_move (v := .pointer (l_1)) rfl rfl) ?_
  refine rp 2 11 hD rfl rfl rfl (fun _ => q_nilCheck (a := a6) rfl (congrArg Value.pointer ha6)) ?_
  refine rp 3 12 hD rfl rfl rfl (fun _ => q_fieldAddr (a := a6) (off := 0) rfl Try.underlying102 rfl rfl ok72 (by decide) rfl) ?_
  obtain ⟨x9, hx9, h⟩ := h
  refine rd_read (i := 4) (d := (some 13)) (fun W => (RdAt tSlc (a6.add 0) W) x9) hD (by kernel_rfl) (by kernel_rfl) rfl (.free rfl) rfl (fun W hr => q_load (T := tSlc) (u := x9) (a := (a6.add 0)) rfl ok72 rfl hr) hx9 ?_
  obtain ⟨x10, hx10, h⟩ := h
  refine rd_read (i := 5) (d := (some 14)) (fun W => (RdAt tSlc t_2 W) x10) hD (by kernel_rfl) (by kernel_rfl) rfl (.free rfl) rfl (fun W hr => q_load (T := tSlc) (u := x10) (a := t_2) rfl ok72 rfl hr) hx10 ?_
  refine rd_one (i := 6) (by kernel_rfl) ?_
  refine po_wp rfl (.free rfl) (wp_cpy (T := (tInt .u8)) (s := x9) (b := x10) (d := (some 15)) rfl rfl Try.underlying72 ok5 rfl rfl h ?_)
  intro r12 w11 h
  refine ⟨(hk_wait (by kernel_rfl) (hk_wait (by kernel_rfl) hk_nil)), ?_⟩
  refine rp 7 16 hD rfl rfl rfl (fun _ => q_nilCheck (a := a6) rfl (congrArg Value.pointer ha6)) ?_
  refine rp 8 17 hD rfl rfl rfl (fun _ => q_fieldAddr (a := a6) (off := 1) rfl Try.underlying102 rfl rfl ok3 (by decide) rfl) ?_
  refine rd_one (i := 9) (by kernel_rfl) ?_
  obtain ⟨w13, hw13, hrw13, h⟩ := st_open h
  refine po_skip (d := none) rfl (.free rfl) rfl (q_store (T := (tInt .i64)) (u := (r12 : Int)) (a := (a6.add 1)) rfl ok3 rfl rfl hrw13 hw13) ⟨(hk_wait (by kernel_rfl) (hk_wait (by kernel_rfl) hk_nil)), ?_⟩
  refine rd_nil (by kernel_rfl) ?_
  exact end_ok rfl .nil ⟨(), rfl, h⟩

-- moiety/wire.Unpack$1
def F50 (t_1 : Addr) (t_2 : Addr) (t_3 : Addr) (t_4 : Addr) (rc : Iv) (w : World) (R : World → Prop) : Prop :=
  if (!(Iv.isNil rc)) = true then (
    ex (Asrt 127 T126 Z126 rc) fun p5 =>
    nw 127 T126 Z126 w fun a6 w7 =>
    st T126 a6 p5.1 w7 fun w8 =>
    if (!p5.2) = true then (
      False
    ) else (
      dr w8 fun w9 =>
      ex (RdAt (tInt .i64) t_1 w9) fun x10 =>
      ex (RdAt (tInt .i64) (a6.add 0) w9) fun x11 =>
      st tSlc t_2 (⟨none, 0, 0⟩ : Slc) w9 fun w12 =>
      kp ((RdAt (tInt .i64) (a6.add 0) w12) x11) <|
      st (tInt .i64) t_3 x10 w12 fun w14 =>
      kp ((RdAt (tInt .i64) (a6.add 0) w14) x11) <|
      st (tInt .i64) t_4 x11 w14 fun w16 =>
      R w16
    )
  ) else (
    R w
  )
theorem F50_ok {t_1 : Addr} {t_2 : Addr} {t_3 : Addr} {t_4 : Addr} {rc : Iv} {u u' : FrameMode} {w : World} {R : World → Prop} (hrc : Recov u rc u') (h : F50 t_1 t_2 t_3 t_4 rc w R) : CallsD Try.prog 50 (List.toArray [.pointer (some t_1), .pointer (some t_2), .pointer (some t_3), .pointer (some t_4)]) u w fun e u2 w' => (∃ v, e = .returned v) ∧ u2 = u' ∧ R w' := by
  unfold F50 at h
  refine callsD_start 21 Try.func50 rfl rfl (Nat.le_of_ble_eq_true rfl) fun c₀ cs hu => ?_
  refine wpS_seq ?_
  refine wpS_text [0, 1] rfl ?_
  refine ros_rec (v := rc) (d := (some 7)) rfl rfl rfl rfl hu hrc ?_
  refine ros_val (d := (some 4)) rfl rfl rfl (q_assign (v := (rc).enc) rfl rfl) ?_
  refine ros_nil (wpS_of_wp ?_)
  refine wp_seq ?_
  refine wp_text [0, 1] rfl ?_
  refine rv 8 rfl rfl rfl (q_move (v := (rc).enc) rfl rfl) ?_
  refine rv 9 rfl rfl rfl (q_neI0 (v := rc) rfl Try.underlying20 rfl) ?_
  refine ro_nil ?_
  refine wp_if (b := (!(Iv.isNil rc))) rfl h (fun hb18 h => ?_) (fun hb18 h => ?_)
  · refine wp_seq ?_
    refine wp_text [0, 1, 2, 3, 4, 5, 6, 7] rfl ?_
    refine rv 11 rfl rfl rfl (q_move (v := (rc).enc) rfl rfl) ?_
    obtain ⟨p5, hp5, h⟩ := h
    refine rv 12 rfl rfl rfl (q_assert2 (T := T126) (z := Z126) (v := rc) (p := p5) rfl ⟨_, Try.underlying127, rfl⟩ inf127 rfl hp5) ?_
    refine rv 10 rfl rfl rfl (q_move (v := (tTup2 T126 tBool).enc (p5)) rfl rfl) ?_
    refine rv 13 rfl rfl rfl (q_extract (vs := #[T126.enc (p5.1), .bool (p5.2)]) (v := T126.enc (p5.1)) rfl rfl rfl) ?_
    refine rv 14 rfl rfl rfl (q_extract (vs := #[T126.enc (p5.1), .bool (p5.2)]) (v := .bool (p5.2)) rfl rfl rfl) ?_
    obtain ⟨a6, w7, ha6, hw7, h⟩ := nw_open h
    refine rv 5 rfl rfl rfl (q_alloc (u := Z126) rfl ok127 inf127 ha6 hw7) ?_
    obtain ⟨w8, hw8, hrw8, h⟩ := st_open h
    refine ro_skip (d := none) rfl (.free rfl) rfl (q_store (T := T126) (u := p5.1) (a := a6) rfl ok127 rfl rfl hrw8 hw8) ?_
    refine rv 6 rfl rfl rfl (q_assign (v := .bool (p5.2)) rfl rfl) ?_
    refine ro_nil ?_
    refine wp_seq ?_
    refine wp_seq ?_
    refine wp_text [0, 1] rfl ?_
    refine rv 15 rfl rfl rfl (q_move (v := .bool (p5.2)) rfl rfl) ?_
    refine rv 16 rfl rfl rfl (q_not (b := p5.2) rfl rfl) ?_
    refine ro_nil ?_
    refine wp_if (b := (!p5.2)) rfl h (fun hb17 h => ?_) (fun hb17 h => ?_)
    · refine wp_text [0, 1] rfl ?_
      refine rv 17 rfl rfl rfl (q_move (v := (rc).enc) rfl rfl) ?_
      exact h.elim
    · refine wp_skip ?_
      obtain ⟨w9, hw9, h⟩ := dr_open h
      refine wp_drawn 6 mixed rfl (by kernel_rfl) (by intro c a d v w h; cases d <;> exact h) hw9 (fun hD => ?_)
      refine rp 1 19 hD rfl rfl rfl (fun _ => q_fieldAddr (a := a6) (off := 0) rfl Try.underlying127 rfl rfl ok31 (by decide) rfl) ?_
      obtain ⟨x10, hx10, h⟩ := h
      refine rd_read (i := 0) (d := (some 18)) (fun W => (RdAt (tInt .i64) t_1 W) x10) hD (by kernel_rfl) (by kernel_rfl) rfl (.free rfl) rfl (fun W hr => q_load (T := (tInt .i64)) (u := x10) (a := t_1) rfl ok3 rfl hr) hx10 ?_
      obtain ⟨x11, hx11, h⟩ := h
      refine rd_read (i := 2) (d := (some 20)) (fun W => (RdAt (tInt .i64) (a6.add 0) W) x11) hD (by kernel_rfl) (by kernel_rfl) rfl (.free rfl) rfl (fun W hr => q_load (T := (tInt .i64)) (u := x11) (a := (a6.add 0)) rfl ok31 rfl hr) hx11 ?_
      refine rd_one (i := 3) (by kernel_rfl) ?_
      obtain ⟨w12, hw12, hrw12, h⟩ := st_open h
      obtain ⟨hk13, h⟩ := h
      refine po_skip (d := none) rfl (.free rfl) rfl (q_store (T := tSlc) (u := (⟨none, 0, 0⟩ : Slc)) (a := t_2) rfl ok113 rfl rfl hrw12 hw12) ⟨(hk_keep (fun _ => hk13) (hk_wait (by kernel_rfl) hk_nil)), ?_⟩
      refine rd_one (i := 4) (by kernel_rfl) ?_
      obtain ⟨w14, hw14, hrw14, h⟩ := st_open h
      obtain ⟨hk15, h⟩ := h
      refine po_skip (d := none) rfl (.free rfl) rfl (q_store (T := (tInt .i64)) (u := x10) (a := t_3) rfl ok3 rfl rfl hrw14 hw14) ⟨(hk_keep (fun _ => hk15) (hk_wait (by kernel_rfl) hk_nil)), ?_⟩
      refine rd_one (i := 5) (by kernel_rfl) ?_
      obtain ⟨w16, hw16, hrw16, h⟩ := st_open h
      refine po_skip (d := none) rfl (.free rfl) rfl (q_store (T := (tInt .i64)) (u := x11) (a := t_4) rfl ok31 rfl rfl hrw16 hw16) ⟨(hk_wait (by kernel_rfl) (hk_wait (by kernel_rfl) hk_nil)), ?_⟩
      refine rd_nil (by kernel_rfl) ?_
      exact endS_ok rfl h
  · refine wp_skip ?_
    exact endS_ok rfl h

-- (*moiety/wire.reader).value
def F51_j1 (a2 : Addr) (a6 : Addr) (w9 : World) (R : S90 → World → Prop) (Pn : Iv → World → Prop) : Prop :=
  ex (RdAt T90 a6 w9) fun x10 =>
  st T90 a2 x10 w9 fun w11 =>
  ex (RdAt T90 a2 w11) fun x12 =>
  R x12 w11
def F51 (r_1 : (Option Addr)) (w : World) (R : S90 → World → Prop) (Pn : Iv → World → Prop) : Prop :=
  nw 91 T90 Z90 w fun a2 w3 =>
  clp Try.prog 61 [.pointer (r_1)] (tInt .u8) w3 Pn fun r5 w4 =>
  nw 91 T90 Z90 w4 fun a6 w7 =>
  st T90 a6 (⟨(IntKind.i64.wrap r5), (0 : Int), (0 : Int), (0 : Nat), ([] : List UInt8)⟩ : S90) w7 fun w8 =>
  ex (RdAt (tInt .i64) (a6.add 0) w8) fun x13 =>
  if (x13 == (1 : Int)) = true then (
    clp Try.prog 62 [.pointer (r_1)] (tInt .u64) w8 Pn fun r15 w14 =>
    st (tInt .u64) (a6.add 1) r15 w14 fun w16 =>
    F51_j1 a2 a6 w16 R Pn
  ) else (
    if (x13 == (2 : Int)) = true then (
      clp Try.prog 62 [.pointer (r_1)] (tInt .u64) w8 Pn fun r18 w17 =>
      ex (Shift (1 : Int) (Int.fdiv r18 (2 ^ (min ((1 : Int)).toNat IntKind.u64.bits)))) fun d19 =>
      st (tInt .i64) (a6.add 2) (bits .xor .i64 (IntKind.i64.wrap d19) (IntKind.i64.wrap (0 - (IntKind.i64.wrap (bits .and .u64 r18 (1 : Int)))))) w17 fun w20 =>
      F51_j1 a2 a6 w20 R Pn
    ) else (
      if (x13 == (3 : Int)) = true then (
        clp Try.prog 63 [.pointer (r_1)] tFlt w8 Pn fun r22 w21 =>
        st tFlt (a6.add 3) r22 w21 fun w23 =>
        F51_j1 a2 a6 w23 R Pn
      ) else (
        if (x13 == (4 : Int)) = true then (
          clp Try.prog 64 [.pointer (r_1)] tStr w8 Pn fun r25 w24 =>
          st tStr (a6.add 4) r25 w24 fun w26 =>
          F51_j1 a2 a6 w26 R Pn
        ) else (
          Pn (Iv.mk 127 (T126.enc ((⟨(21 : Int)⟩ : S126)))) w8
        )
      )
    )
  )
theorem F51_ok {r_1 : (Option Addr)} {w : World} {R : S90 → World → Prop} {Pn : Iv → World → Prop} (h : F51 r_1 w R Pn) : clp Try.prog 51 [.pointer (r_1)] T90 w Pn R := by
  unfold F51 at h
  refine calls_start 42 Try.func51 rfl rfl (Nat.le_of_ble_eq_true rfl) ?_
  refine wp_seq ?_
  refine wp_text [0] rfl ?_
  obtain ⟨a2, w3, ha2, hw3, h⟩ := nw_open h
  refine rv 2 rfl rfl rfl (q_alloc (u := Z90) rfl ok91 inf91 ha2 hw3) ?_
  refine ro_nil ?_
  refine wp_seq ?_
  refine wp_text [0, 1, 2, 3, 4, 5] rfl ?_
  refine rv 5 rfl rfl rfl (q_move (v := .pointer (r_1)) rfl rfl) ?_
  refine ro_wp rfl (.free rfl) (wp_clp (d := (some 6)) rfl (q_call (k := 61) (l := [.pointer (r_1)]) rfl ent61 rfl) h ?_ ?_)
  · exact fun _ _ h => pan_ok (P := Try.prog) (fn := Try.f51) h
  intro r5 w4 h
  refine rv 7 rfl rfl rfl (q_cvtI (a := r5) rfl Try.underlying5 Try.underlying87 rfl) ?_
  refine rv 8 rfl rfl rfl (q_build91_0 (v0 := (IntKind.i64.wrap r5)) rfl rfl) ?_
  obtain ⟨a6, w7, ha6, hw7, h⟩ := nw_open h
  refine rv 3 rfl rfl rfl (q_alloc (u := Z90) rfl ok91 inf91 ha6 hw7) ?_
  obtain ⟨w8, hw8, hrw8, h⟩ := st_open h
  refine ro_skip (d := none) rfl (.free rfl) rfl (q_store (T := T90) (u := (⟨(IntKind.i64.wrap r5), (0 : Int), (0 : Int), (0 : Nat), ([] : List UInt8)⟩ : S90)) (a := a6) rfl ok91 rfl rfl hrw8 hw8) ?_
  refine ro_nil ?_
  refine seq_join (σ := Unit) (J := fun (s : Unit) w => F51_j1 a2 a6 w R Pn) (fr := fun g (s : Unit) => upd (upd (g) 2 (.pointer (some a2))) 3 (.pointer (some a6))) ?_ ?_
  · rintro ⟨⟩ g w9 h
    unfold F51_j1 at h
    refine wp_seq ?_
    refine wp_text [0, 1] rfl ?_
    obtain ⟨x10, hx10, h⟩ := h
    refine rv 41 rfl rfl rfl (q_load (T := T90) (u := x10) (a := a6) rfl ok91 rfl hx10) ?_
    obtain ⟨w11, hw11, hrw11, h⟩ := st_open h
    refine ro_skip (d := none) rfl (.free rfl) rfl (q_store (T := T90) (u := x10) (a := a2) rfl ok91 rfl rfl hrw11 hw11) ?_
    refine ro_nil ?_
    refine wp_ret ?_
    obtain ⟨x12, hx12, h⟩ := h
    exact ret_ok rfl (.cons (.cell (T := T90) (u := x12) (a := a2) ok91 rfl hx12) .nil) ⟨x12, rfl, h⟩
  · refine wp_seq ?_
    refine wp_text [0, 1] rfl ?_
    refine rv 9 rfl rfl rfl (q_fieldAddr (a := a6) (off := 0) rfl Try.underlying91 rfl rfl ok87 (by decide) rfl) ?_
    obtain ⟨x13, hx13, h⟩ := h
    refine rv 10 rfl rfl rfl (q_load (T := (tInt .i64)) (u := x13) (a := (a6.add 0)) rfl ok87 rfl hx13) ?_
    refine ro_nil ?_
    refine wp_block ?_
    refine wp_seq ?_
    refine wp_text [0, 1] rfl ?_
    refine rv 14 rfl rfl rfl (q_eql (a := x13) (b := (1 : Int)) rfl rfl rfl) ?_
    refine rv 13 rfl rfl rfl (q_assign (v := .bool ((x13 == (1 : Int)))) rfl rfl) ?_
    refine ro_nil ?_
    refine wp_if (b := (x13 == (1 : Int))) rfl h (fun hb30 h => ?_) (fun hb30 h => ?_)
    · refine wp_text [0, 1, 2, 3] rfl ?_
      refine rv 15 rfl rfl rfl (q_move (v := .pointer (r_1)) rfl rfl) ?_
      refine ro_wp rfl (.free rfl) (wp_clp (d := (some 16)) rfl (q_call (k := 62) (l := [.pointer (r_1)]) rfl ent62 rfl) h ?_ ?_)
      · exact fun _ _ h => pan_ok (P := Try.prog) (fn := Try.f51) h
      intro r15 w14 h
      refine rv 17 rfl rfl rfl (q_fieldAddr (a := a6) (off := 1) rfl Try.underlying91 rfl rfl ok88 (by decide) rfl) ?_
      obtain ⟨w16, hw16, hrw16, h⟩ := st_open h
      refine ro_skip (d := none) rfl (.free rfl) rfl (q_store (T := (tInt .u64)) (u := r15) (a := (a6.add 1)) rfl ok88 rfl rfl hrw16 hw16) ?_
      refine ro_nil ?_
      exact ⟨(), _, arr (upd_step (upd_step rfl rfl) rfl), h⟩
    · refine wp_seq ?_
      refine wp_text [0, 1] rfl ?_
      refine rv 19 rfl rfl rfl (q_eql (a := x13) (b := (2 : Int)) rfl rfl rfl) ?_
      refine rv 18 rfl rfl rfl (q_assign (v := .bool ((x13 == (2 : Int)))) rfl rfl) ?_
      refine ro_nil ?_
      refine wp_if (b := (x13 == (2 : Int))) rfl h (fun hb29 h => ?_) (fun hb29 h => ?_)
      · refine wp_seq ?_
        refine wp_text [0, 1, 2] rfl ?_
        refine rv 20 rfl rfl rfl (q_move (v := .pointer (r_1)) rfl rfl) ?_
        refine ro_wp rfl (.free rfl) (wp_clp (d := (some 21)) rfl (q_call (k := 62) (l := [.pointer (r_1)]) rfl ent62 rfl) h ?_ ?_)
        · exact fun _ _ h => pan_ok (P := Try.prog) (fn := Try.f51) h
        intro r18 w17 h
        refine rv 4 rfl rfl rfl (q_assign (v := .int .u64 (r18)) rfl rfl) ?_
        refine ro_nil ?_
        refine wp_text [0, 1, 2, 3, 4, 5, 6, 7, 8, 9] rfl ?_
        refine rv 22 rfl rfl rfl (q_move (v := .int .u64 (r18)) rfl rfl) ?_
        obtain ⟨d19, hd19, h⟩ := h
        refine rv 23 rfl rfl rfl (q_shr (a := r18) (b := (1 : Int)) (r := d19) rfl rfl rfl hd19) ?_
        refine rv 24 rfl rfl rfl (q_cvtI (a := d19) rfl Try.underlying88 Try.underlying2 rfl) ?_
        refine rv 25 rfl rfl rfl (q_move (v := .int .u64 (r18)) rfl rfl) ?_
        refine rv 26 rfl rfl rfl (q_and (a := r18) (b := (1 : Int)) rfl rfl rfl) ?_
        refine rv 27 rfl rfl rfl (q_cvtI (a := (bits .and .u64 r18 (1 : Int))) rfl Try.underlying88 Try.underlying2 rfl) ?_
        refine rv 28 rfl rfl rfl (q_neg (a := (IntKind.i64.wrap (bits .and .u64 r18 (1 : Int)))) rfl rfl) ?_
        refine rv 29 rfl rfl rfl (q_xor (a := (IntKind.i64.wrap d19)) (b := (IntKind.i64.wrap (0 - (IntKind.i64.wrap (bits .and .u64 r18 (1 : Int)))))) rfl rfl rfl) ?_
        refine rv 30 rfl rfl rfl (q_fieldAddr (a := a6) (off := 2) rfl Try.underlying91 rfl rfl ok2 (by decide) rfl) ?_
        obtain ⟨w20, hw20, hrw20, h⟩ := st_open h
        refine ro_skip (d := none) rfl (.free rfl) rfl (q_store (T := (tInt .i64)) (u := (bits .xor .i64 (IntKind.i64.wrap d19) (IntKind.i64.wrap (0 - (IntKind.i64.wrap (bits .and .u64 r18 (1 : Int))))))) (a := (a6.add 2)) rfl ok2 rfl rfl hrw20 hw20) ?_
        refine ro_nil ?_
        exact ⟨(), _, arr (upd_step (upd_step rfl rfl) rfl), h⟩
      · refine wp_seq ?_
        refine wp_text [0, 1] rfl ?_
        refine rv 32 rfl rfl rfl (q_eql (a := x13) (b := (3 : Int)) rfl rfl rfl) ?_
        refine rv 31 rfl rfl rfl (q_assign (v := .bool ((x13 == (3 : Int)))) rfl rfl) ?_
        refine ro_nil ?_
        refine wp_if (b := (x13 == (3 : Int))) rfl h (fun hb28 h => ?_) (fun hb28 h => ?_)
        · refine wp_text [0, 1, 2, 3] rfl ?_
          refine rv 33 rfl rfl rfl (q_move (v := .pointer (r_1)) rfl rfl) ?_
          refine ro_wp rfl (.free rfl) (wp_clp (d := (some 34)) rfl (q_call (k := 63) (l := [.pointer (r_1)]) rfl ent63 rfl) h ?_ ?_)
          · exact fun _ _ h => pan_ok (P := Try.prog) (fn := Try.f51) h
          intro r22 w21 h
          refine rv 35 rfl rfl rfl (q_fieldAddr (a := a6) (off := 3) rfl Try.underlying91 rfl rfl ok89 (by decide) rfl) ?_
          obtain ⟨w23, hw23, hrw23, h⟩ := st_open h
          refine ro_skip (d := none) rfl (.free rfl) rfl (q_store (T := tFlt) (u := r22) (a := (a6.add 3)) rfl ok89 rfl rfl hrw23 hw23) ?_
          refine ro_nil ?_
          exact ⟨(), _, arr (upd_step (upd_step rfl rfl) rfl), h⟩
        · refine wp_seq ?_
          refine wp_text [0, 1] rfl ?_
          refine rv 37 rfl rfl rfl (q_eql (a := x13) (b := (4 : Int)) rfl rfl rfl) ?_
          refine rv 36 rfl rfl rfl (q_assign (v := .bool ((x13 == (4 : Int)))) rfl rfl) ?_
          refine ro_nil ?_
          refine wp_if (b := (x13 == (4 : Int))) rfl h (fun hb27 h => ?_) (fun hb27 h => ?_)
          · refine wp_text [0, 1, 2, 3] rfl ?_
            refine rv 38 rfl rfl rfl (q_move (v := .pointer (r_1)) rfl rfl) ?_
            refine ro_wp rfl (.free rfl) (wp_clp (d := (some 39)) rfl (q_call (k := 64) (l := [.pointer (r_1)]) rfl ent64 rfl) h ?_ ?_)
            · exact fun _ _ h => pan_ok (P := Try.prog) (fn := Try.f51) h
            intro r25 w24 h
            refine rv 40 rfl rfl rfl (q_fieldAddr (a := a6) (off := 4) rfl Try.underlying91 rfl rfl ok9 (by decide) rfl) ?_
            obtain ⟨w26, hw26, hrw26, h⟩ := st_open h
            refine ro_skip (d := none) rfl (.free rfl) rfl (q_store (T := tStr) (u := r25) (a := (a6.add 4)) rfl ok9 rfl rfl hrw26 hw26) ?_
            refine ro_nil ?_
            exact ⟨(), _, arr (upd_step (upd_step rfl rfl) rfl), h⟩
          · refine wp_text [0, 1, 2] rfl ?_
            refine rv 11 rfl rfl rfl (q_build127_0 (v0 := (21 : Int)) rfl rfl) ?_
            refine rv 12 rfl rfl rfl (q_mkI (v := T126.enc ((⟨(21 : Int)⟩ : S126))) rfl Try.underlying127 rfl rfl) ?_
            refine ro_wp rfl (.free rfl) (wp_panic (v := (Iv.mk 127 (T126.enc ((⟨(21 : Int)⟩ : S126))))) rfl rfl ⟨_, _, rfl⟩ ?_)
            exact pan_ok (P := Try.prog) (fn := Try.f51) h

-- moiety/wire.Valid
def F52 (v_1 : S90) (w : World) (R : Int → World → Prop) : Prop :=
  nw 91 T90 v_1 w fun a2 w3 =>
  ex (RdAt T90 a2 w3) fun x4 =>
  cl Try.prog 65 [T90.enc (x4)] tBool w3 fun r6 w5 =>
  if (!r6) = true then (
    R (21 : Int) w5
  ) else (
    ex (RdAt tStr (a2.add 4) w5) fun x7 =>
    if (decide ((x7.length : Int) > (1000 : Int))) = true then (
      R (24 : Int) w5
    ) else (
      R (0 : Int) w5
    )
  )
theorem F52_ok {v_1 : S90} {w : World} {R : Int → World → Prop} (h : F52 v_1 w R) : cl Try.prog 52 [T90.enc (v_1)] (tInt .i64) w R := by
  unfold F52 at h
  refine calls_start 12 Try.func52 rfl rfl (Nat.le_of_ble_eq_true rfl) ?_
  refine wp_seq ?_
  refine wp_text [0, 1] rfl ?_
  obtain ⟨a2, w3, ha2, hw3, h⟩ := nw_open h
  refine rv 1 rfl rfl rfl (q_box (u := v_1) rfl ok91 rfl ha2 hw3) ?_
  refine rv 2 rfl rfl rfl (q_assign (v := .int .i64 ((0 : Int))) rfl rfl) ?_
  refine ro_nil ?_
  refine wp_seq ?_
  refine wp_block ?_
  refine wp_seq ?_
  refine wp_text [0, 1, 2, 3] rfl ?_
  obtain ⟨x4, hx4, h⟩ := h
  refine rv 4 rfl rfl rfl (q_load (T := T90) (u := x4) (a := a2) rfl ok91 rfl hx4) ?_
  refine ro_wp rfl (.free rfl) (wp_cl (d := (some 5)) rfl (q_call (k := 65) (l := [T90.enc (x4)]) rfl ent65 rfl) h ?_)
  intro r6 w5 h
  refine rv 6 rfl rfl rfl (q_not (b := r6) rfl rfl) ?_
  refine rv 3 rfl rfl rfl (q_assign (v := .bool ((!r6))) rfl rfl) ?_
  refine ro_nil ?_
  refine wp_if (b := (!r6)) rfl h (fun hb9 h => ?_) (fun hb9 h => ?_)
  · refine wp_seq ?_
    refine wp_text [0] rfl ?_
    refine rv 2 rfl rfl rfl (q_assign (v := .int .i64 ((21 : Int))) rfl rfl) ?_
    refine ro_nil ?_
    refine wp_ret ?_
    exact ret_ok rfl (.cons (.tmp (v := .int .i64 ((21 : Int))) rfl) .nil) ⟨(21 : Int), rfl, h⟩
  · refine wp_seq ?_
    refine wp_text [0, 1, 2, 3, 4] rfl ?_
    refine rv 8 rfl rfl rfl (q_fieldAddr (a := a2) (off := 4) rfl Try.underlying91 rfl rfl ok9 (by decide) rfl) ?_
    obtain ⟨x7, hx7, h⟩ := h
    refine rv 9 rfl rfl rfl (q_load (T := tStr) (u := x7) (a := (a2.add 4)) rfl ok9 rfl hx7) ?_
    refine rv 10 rfl rfl rfl (q_lenS (s := x7) rfl Try.underlying9 rfl) ?_
    refine rv 11 rfl rfl rfl (q_gtr (a := (x7.length : Int)) (b := (1000 : Int)) rfl rfl rfl) ?_
    refine rv 7 rfl rfl rfl (q_assign (v := .bool ((decide ((x7.length : Int) > (1000 : Int))))) rfl rfl) ?_
    refine ro_nil ?_
    refine wp_if (b := (decide ((x7.length : Int) > (1000 : Int)))) rfl h (fun hb8 h => ?_) (fun hb8 h => ?_)
    · refine wp_seq ?_
      refine wp_text [0] rfl ?_
      refine rv 2 rfl rfl rfl (q_assign (v := .int .i64 ((24 : Int))) rfl rfl) ?_
      refine ro_nil ?_
      refine wp_ret ?_
      exact ret_ok rfl (.cons (.tmp (v := .int .i64 ((24 : Int))) rfl) .nil) ⟨(24 : Int), rfl, h⟩
    · refine wp_skip ?_
      refine wp_seq ?_
      refine wp_text [0] rfl ?_
      refine rv 2 rfl rfl rfl (q_assign (v := .int .i64 ((0 : Int))) rfl rfl) ?_
      refine ro_nil ?_
      refine wp_ret ?_
      exact ret_ok rfl (.cons (.tmp (v := .int .i64 ((0 : Int))) rfl) .nil) ⟨(0 : Int), rfl, h⟩

end Go.Proofs.Ytjkmeooncmhonaa.Cf
