/- Characteristic formulae of Go functions, and that they are. Printed by gen.py (own tool). -/
import Derived.Test.YtleehieomicicaaTy
namespace Go.Proofs.Ytleehieomicicaa.Cf
open Go
set_option maxRecDepth 100000
set_option maxHeartbeats 1000000
set_option linter.unusedVariables false
set_option linter.unusedSimpArgs false

-- moiety/audit.collect$2
def F32_j1 (t_2 : Addr) (t_3 : Addr) (a4 : Addr) (t_11 : Bool) (w12 : World) (R : Int → World → Prop) : Prop :=
  if t_11 = true then (
    R (183 : Int) w12
  ) else (
    ex (RdAt (tInt .i64) (a4.add 1) w12) fun x13 =>
    ex (RdAt (tInt .i64) t_3 w12) fun x14 =>
    if (decide (x13 > (IntKind.i64.wrap ((4611686018427387904 : Int) - x14)))) = true then (
      R (184 : Int) w12
    ) else (
      dr w12 fun w15 =>
      ex (RdAt tMap t_2 w15) fun x16 =>
      ex (RdAt (tInt .i64) (a4.add 0) w15) fun x17 =>
      ex (RdAt (tInt .i64) (a4.add 1) w15) fun x18 =>
      ex (RdAt (tInt .i64) t_3 w15) fun x19 =>
      ex (RdAt (tInt .i64) (a4.add 1) w15) fun x20 =>
      mput (tInt .i64) .i64 x16 x17 x18 w15 fun w21 =>
      kp ((RdAt (tInt .i64) t_3 w21) x19) <|
      kp ((RdAt (tInt .i64) (a4.add 1) w21) x20) <|
      st (tInt .i64) t_3 (IntKind.i64.wrap (x19 + x20)) w21 fun w24 =>
      R (0 : Int) w24
    )
  )
def F32 (x_1 : S36) (t_2 : Addr) (t_3 : Addr) (w : World) (R : Int → World → Prop) : Prop :=
  nw 37 T36 x_1 w fun a4 w5 =>
  ex (RdAt tMap t_2 w5) fun x6 =>
  ex (RdAt (tInt .i64) (a4.add 0) w5) fun x7 =>
  ex (MapGet (tInt .i64) .i64 x6 x7 w5) fun m8 =>
  ex (RdAt (tInt .i64) (a4.add 0) w5) fun x9 =>
  ex (fun x => (!(decide (x9 < (0 : Int)))) = true → (RdAt (tInt .i64) (a4.add 0) w5) x) fun x10 =>
  if ((decide (x9 < (0 : Int))) || (decide (x10 ≥ (8192 : Int)))) = true then (
    R (181 : Int) w5
  ) else (
    if ((m8.getD (0 : Int), m8.isSome)).2 = true then (
      R (182 : Int) w5
    ) else (
      dr w5 fun w27 =>
      ex (RdAt (tInt .i64) (a4.add 1) w27) fun x28 =>
      if (decide (x28 < (0 : Int))) = true then (
        F32_j1 t_2 t_3 a4 true w27 R
      ) else (
        ex (RdAt (tInt .i64) (a4.add 1) w27) fun x30 =>
        ex (RdAt (tInt .i64) (a4.add 0) w27) fun x31 =>
        cl Try.prog 33 [.int .i64 (x31)] (tInt .i64) w27 fun r33 w32 =>
        kp ((RdAt (tInt .i64) (a4.add 1) w32) x28) <|
        kp ((RdAt (tInt .i64) (a4.add 1) w32) x30) <|
        F32_j1 t_2 t_3 a4 (decide (x30 > r33)) w32 R
      )
    )
  )
theorem F32_ok {x_1 : S36} {t_2 : Addr} {t_3 : Addr} {w : World} {R : Int → World → Prop} (h : F32 x_1 t_2 t_3 w R) : cl Try.prog 32 [T36.enc (x_1), .pointer (some t_2), .pointer (some t_3)] (tInt .i64) w R := by
  unfold F32 at h
  refine calls_start 52 Try.func32 rfl rfl (Nat.le_of_ble_eq_true rfl) ?_
  refine wp_seq ?_
  refine wp_text [0, 1] rfl ?_
  obtain ⟨a4, w5, ha4, hw5, h⟩ := nw_open h
  refine ro_val (d := (some 3)) rfl (.free rfl) rfl (q_box (u := x_1) rfl ok37 rfl ha4 hw5) ?_
  refine ro_val (d := (some 4)) rfl (.free rfl) rfl (q_assign (v := .int .i64 ((0 : Int))) rfl rfl) ?_
  refine ro_nil ?_
  refine wp_seq ?_
  refine wp_text [0, 1, 2, 3, 4, 5, 6, 7, 8] rfl ?_
  obtain ⟨x6, hx6, h⟩ := h
  refine ro_val (d := (some 8)) rfl (.free rfl) rfl (q_load (T := tMap) (u := x6) (a := t_2) rfl ok43 rfl hx6) ?_
  refine ro_val (d := (some 9)) rfl (.free rfl) rfl (q_fieldAddr (a := a4) (off := 0) rfl Try.underlying37 rfl rfl ok3 (by decide) rfl) ?_
  obtain ⟨x7, hx7, h⟩ := h
  refine ro_val (d := (some 10)) rfl (.free rfl) rfl (q_load (T := (tInt .i64)) (u := x7) (a := (a4.add 0)) rfl ok3 rfl hx7) ?_
  obtain ⟨m8, hm8, h⟩ := h
  refine ro_val (d := (some 11)) rfl (.free rfl) rfl (q_lookup2 (T := (tInt .i64)) (r := x6) (key := x7) (u := m8) (z := (0 : Int)) rfl Try.underlying43 Try.underlying3 (inf2) rfl rfl hm8) ?_
  refine ro_val (d := (some 7)) rfl (.free rfl) rfl (q_move (v := (tTup2 (tInt .i64) tBool).enc (((m8.getD (0 : Int), m8.isSome)))) rfl rfl) ?_
  refine ro_val (d := (some 12)) rfl (.free rfl) rfl (q_extract (vs := #[.int .i64 (((m8.getD (0 : Int), m8.isSome)).1), .bool (((m8.getD (0 : Int), m8.isSome)).2)]) (v := .int .i64 (((m8.getD (0 : Int), m8.isSome)).1)) rfl rfl rfl) ?_
  refine ro_val (d := (some 13)) rfl (.free rfl) rfl (q_extract (vs := #[.int .i64 (((m8.getD (0 : Int), m8.isSome)).1), .bool (((m8.getD (0 : Int), m8.isSome)).2)]) (v := .bool (((m8.getD (0 : Int), m8.isSome)).2)) rfl rfl rfl) ?_
  refine ro_val (d := (some 5)) rfl (.free rfl) rfl (q_assign (v := .int .i64 (((m8.getD (0 : Int), m8.isSome)).1)) rfl rfl) ?_
  refine ro_val (d := (some 6)) rfl (.free rfl) rfl (q_assign (v := .bool (((m8.getD (0 : Int), m8.isSome)).2)) rfl rfl) ?_
  refine ro_nil ?_
  refine wp_seq ?_
  refine wp_block ?_
  refine wp_seq ?_
  refine wp_text [0, 1, 2, 3, 4, 5, 6, 7, 8] rfl ?_
  refine ro_val (d := (some 15)) rfl (.free rfl) rfl (q_fieldAddr (a := a4) (off := 0) rfl Try.underlying37 rfl rfl ok3 (by decide) rfl) ?_
  obtain ⟨x9, hx9, h⟩ := h
  refine ro_val (d := (some 16)) rfl (.free rfl) rfl (q_load (T := (tInt .i64)) (u := x9) (a := (a4.add 0)) rfl ok3 rfl hx9) ?_
  refine ro_val (d := (some 17)) rfl (.free rfl) rfl (q_lss (a := x9) (b := (0 : Int)) rfl rfl rfl) ?_
  refine ro_val (d := (some 18)) rfl (.free rfl) rfl (q_move (v := .bool ((decide (x9 < (0 : Int))))) rfl rfl) ?_
  refine ro_gval (g := (!(decide (x9 < (0 : Int))))) (d := (some 19)) rfl (.no 3 18 true (decide (x9 < (0 : Int))) rfl rfl rfl rfl) rfl (fun hg => q_fieldAddr (a := a4) (off := 0) rfl Try.underlying37 rfl rfl ok3 (by decide) rfl) ?_
  obtain ⟨x10, hx10, h⟩ := h
  refine ro_gval (g := (!(decide (x9 < (0 : Int))))) (d := (some 20)) rfl (.no 3 18 true (decide (x9 < (0 : Int))) rfl rfl rfl rfl) rfl (fun hg => q_load (T := (tInt .i64)) (u := x10) (a := (a4.add 0)) rfl ok3 (gvb_yes hg) (hx10 hg)) ?_
  refine ro_gval (g := (!(decide (x9 < (0 : Int))))) (d := (some 21)) rfl (.no 3 18 true (decide (x9 < (0 : Int))) rfl rfl rfl rfl) rfl (fun hg => q_geq (a := x10) (b := (8192 : Int)) rfl (gvb_yes hg) rfl) ?_
  refine ro_val (d := (some 22)) rfl (.free rfl) rfl (q_pickGF (a := (decide (x9 < (0 : Int)))) (c := (decide (x10 ≥ (8192 : Int)))) rfl rfl rfl rfl) ?_
  refine ro_val (d := (some 14)) rfl (.free rfl) rfl (q_assign (v := .bool (((decide (x9 < (0 : Int))) || (decide (x10 ≥ (8192 : Int)))))) rfl rfl) ?_
  refine ro_nil ?_
  refine wp_if (b := ((decide (x9 < (0 : Int))) || (decide (x10 ≥ (8192 : Int))))) rfl h (fun hb37 h => ?_) (fun hb37 h => ?_)
  · refine wp_seq ?_
    refine wp_text [0] rfl ?_
    refine ro_val (d := (some 4)) rfl (.free rfl) rfl (q_assign (v := .int .i64 ((181 : Int))) rfl rfl) ?_
    refine ro_nil ?_
    refine wp_ret ?_
    exact ret_ok rfl (.cons (.tmp (v := .int .i64 ((181 : Int))) rfl) .nil) ⟨(181 : Int), rfl, h⟩
  · refine wp_seq ?_
    refine wp_text [0, 1] rfl ?_
    refine ro_val (d := (some 24)) rfl (.free rfl) rfl (q_move (v := .bool (((m8.getD (0 : Int), m8.isSome)).2)) rfl rfl) ?_
    refine ro_val (d := (some 23)) rfl (.free rfl) rfl (q_assign (v := .bool (((m8.getD (0 : Int), m8.isSome)).2)) rfl rfl) ?_
    refine ro_nil ?_
    refine wp_if (b := ((m8.getD (0 : Int), m8.isSome)).2) rfl h (fun hb36 h => ?_) (fun hb36 h => ?_)
    · refine wp_seq ?_
      refine wp_text [0] rfl ?_
      refine ro_val (d := (some 4)) rfl (.free rfl) rfl (q_assign (v := .int .i64 ((182 : Int))) rfl rfl) ?_
      refine ro_nil ?_
      refine wp_ret ?_
      exact ret_ok rfl (.cons (.tmp (v := .int .i64 ((182 : Int))) rfl) .nil) ⟨(182 : Int), rfl, h⟩
    · refine seq_join (σ := Bool) (J := fun (s : Bool) w => F32_j1 t_2 t_3 a4 s w R) (fr := fun g (s : Bool) => upd (upd (upd (upd (g) 1 (.pointer (some t_2))) 2 (.pointer (some t_3))) 3 (.pointer (some a4))) 25 (.bool (s))) ?_ ?_
      · rintro t_11 g w12 h
        unfold F32_j1 at h
        refine wp_if (b := t_11) rfl h (fun hb26 h => ?_) (fun hb26 h => ?_)
        · refine wp_seq ?_
          refine wp_text [0] rfl ?_
          refine ro_val (d := (some 4)) rfl (.free rfl) rfl (q_assign (v := .int .i64 ((183 : Int))) rfl rfl) ?_
          refine ro_nil ?_
          refine wp_ret ?_
          exact ret_ok rfl (.cons (.tmp (v := .int .i64 ((183 : Int))) rfl) .nil) ⟨(183 : Int), rfl, h⟩
        · refine wp_seq ?_
          refine wp_text [0, 1, 2, 3, 4, 5] rfl ?_
          refine ro_val (d := (some 38)) rfl (.free rfl) rfl (q_fieldAddr (a := a4) (off := 1) rfl Try.underlying37 rfl rfl ok2 (by decide) rfl) ?_
          obtain ⟨x13, hx13, h⟩ := h
          refine ro_val (d := (some 39)) rfl (.free rfl) rfl (q_load (T := (tInt .i64)) (u := x13) (a := (a4.add 1)) rfl ok2 rfl hx13) ?_
          obtain ⟨x14, hx14, h⟩ := h
          refine ro_val (d := (some 40)) rfl (.free rfl) rfl (q_load (T := (tInt .i64)) (u := x14) (a := t_3) rfl ok2 rfl hx14) ?_
          refine ro_val (d := (some 41)) rfl (.free rfl) rfl (q_sub (a := (4611686018427387904 : Int)) (b := x14) rfl rfl rfl) ?_
          refine ro_val (d := (some 42)) rfl (.free rfl) rfl (q_gtr (a := x13) (b := (IntKind.i64.wrap ((4611686018427387904 : Int) - x14))) rfl rfl rfl) ?_
          refine ro_val (d := (some 37)) rfl (.free rfl) rfl (q_assign (v := .bool ((decide (x13 > (IntKind.i64.wrap ((4611686018427387904 : Int) - x14)))))) rfl rfl) ?_
          refine ro_nil ?_
          refine wp_if (b := (decide (x13 > (IntKind.i64.wrap ((4611686018427387904 : Int) - x14))))) rfl h (fun hb25 h => ?_) (fun hb25 h => ?_)
          · refine wp_seq ?_
            refine wp_text [0] rfl ?_
            refine ro_val (d := (some 4)) rfl (.free rfl) rfl (q_assign (v := .int .i64 ((184 : Int))) rfl rfl) ?_
            refine ro_nil ?_
            refine wp_ret ?_
            exact ret_ok rfl (.cons (.tmp (v := .int .i64 ((184 : Int))) rfl) .nil) ⟨(184 : Int), rfl, h⟩
          · refine wp_skip ?_
            refine wp_seq ?_
            obtain ⟨w15, hw15, h⟩ := dr_open h
            refine wp_drawn 11 mixed rfl (by kernel_rfl) (by intro c a d v w h; cases d <;> exact h) hw15 (fun hD => ?_)
            refine rd_pure (i := 1) (d := (some 44)) hD (by kernel_rfl) (by kernel_rfl) rfl (.free rfl) rfl (fun _ => q_fieldAddr (a := a4) (off := 0) rfl Try.underlying37 rfl rfl ok3 (by decide) rfl) ?_
            refine rd_pure (i := 3) (d := (some 46)) hD (by kernel_rfl) (by kernel_rfl) rfl (.free rfl) rfl (fun _ => q_fieldAddr (a := a4) (off := 1) rfl Try.underlying37 rfl rfl ok2 (by decide) rfl) ?_
            refine rd_pure (i := 6) (d := (some 49)) hD (by kernel_rfl) (by kernel_rfl) rfl (.free rfl) rfl (fun _ => q_fieldAddr (a := a4) (off := 1) rfl Try.underlying37 rfl rfl ok2 (by decide) rfl) ?_
            obtain ⟨x16, hx16, h⟩ := h
            refine rd_read (i := 0) (d := (some 43)) (fun W => (RdAt tMap t_2 W) x16) hD (by kernel_rfl) (by kernel_rfl) rfl (.free rfl) rfl (fun W hr => q_load (T := tMap) (u := x16) (a := t_2) rfl ok43 rfl hr) hx16 ?_
            obtain ⟨x17, hx17, h⟩ := h
            refine rd_read (i := 2) (d := (some 45)) (fun W => (RdAt (tInt .i64) (a4.add 0) W) x17) hD (by kernel_rfl) (by kernel_rfl) rfl (.free rfl) rfl (fun W hr => q_load (T := (tInt .i64)) (u := x17) (a := (a4.add 0)) rfl ok3 rfl hr) hx17 ?_
            obtain ⟨x18, hx18, h⟩ := h
            refine rd_read (i := 4) (d := (some 47)) (fun W => (RdAt (tInt .i64) (a4.add 1) W) x18) hD (by kernel_rfl) (by kernel_rfl) rfl (.free rfl) rfl (fun W hr => q_load (T := (tInt .i64)) (u := x18) (a := (a4.add 1)) rfl ok2 rfl hr) hx18 ?_
            obtain ⟨x19, hx19, h⟩ := h
            refine rd_read (i := 5) (d := (some 48)) (fun W => (RdAt (tInt .i64) t_3 W) x19) hD (by kernel_rfl) (by kernel_rfl) rfl (.free rfl) rfl (fun W hr => q_load (T := (tInt .i64)) (u := x19) (a := t_3) rfl ok2 rfl hr) hx19 ?_
            obtain ⟨x20, hx20, h⟩ := h
            refine rd_read (i := 7) (d := (some 50)) (fun W => (RdAt (tInt .i64) (a4.add 1) W) x20) hD (by kernel_rfl) (by kernel_rfl) rfl (.free rfl) rfl (fun W hr => q_load (T := (tInt .i64)) (u := x20) (a := (a4.add 1)) rfl ok2 rfl hr) hx20 ?_
            refine rd_pure (i := 8) (d := (some 51)) hD (by kernel_rfl) (by kernel_rfl) rfl (.free rfl) rfl (fun _ => q_add (a := x19) (b := x20) rfl rfl rfl) ?_
            refine rd_one (i := 9) (by kernel_rfl) ?_
            refine po_wp rfl (.free rfl) (wp_mput (T := (tInt .i64)) (r := x16) (key := x17) (v := x18) (d := none) rfl (.inl rfl) Try.underlying43 Try.underlying3 rfl rfl rfl h ?_)
            intro w21 h
            obtain ⟨hk22, h⟩ := h
            obtain ⟨hk23, h⟩ := h
            refine ⟨(hk_keep (fun _ => hk23) (hk_keep (fun _ => hk22) (hk_wait (by kernel_rfl) (hk_wait (by kernel_rfl) (hk_wait (by kernel_rfl) hk_nil))))), ?_⟩
            refine rd_one (i := 10) (by kernel_rfl) ?_
            obtain ⟨w24, hw24, hrw24, h⟩ := st_open h
            refine po_skip (d := none) rfl (.free rfl) rfl (q_store (T := (tInt .i64)) (u := (IntKind.i64.wrap (x19 + x20))) (a := t_3) rfl ok2 rfl rfl hrw24 hw24) ⟨(hk_wait (by kernel_rfl) (hk_wait (by kernel_rfl) (hk_wait (by kernel_rfl) (hk_wait (by kernel_rfl) (hk_wait (by kernel_rfl) hk_nil))))), ?_⟩
            refine rd_nil (by kernel_rfl) ?_
            refine wp_seq ?_
            refine wp_text [0] rfl ?_
            refine ro_val (d := (some 4)) rfl (.free rfl) rfl (q_assign (v := .int .i64 ((0 : Int))) rfl rfl) ?_
            refine ro_nil ?_
            refine wp_ret ?_
            exact ret_ok rfl (.cons (.tmp (v := .int .i64 ((0 : Int))) rfl) .nil) ⟨(0 : Int), rfl, h⟩
      · obtain ⟨w27, hw27, h⟩ := dr_open h
        refine wp_drawn 12 mixed rfl (by kernel_rfl) (by intro c a d v w h; cases d <;> exact h) hw27 (fun hD => ?_)
        refine rd_pure (i := 0) (d := (some 26)) hD (by kernel_rfl) (by kernel_rfl) rfl (.free rfl) rfl (fun _ => q_fieldAddr (a := a4) (off := 1) rfl Try.underlying37 rfl rfl ok2 (by decide) rfl) ?_
        obtain ⟨x28, hx28, h⟩ := h
        refine rd_read (i := 1) (d := (some 27)) (fun W => (RdAt (tInt .i64) (a4.add 1) W) x28) hD (by kernel_rfl) (by kernel_rfl) rfl (.free rfl) rfl (fun W hr => q_load (T := (tInt .i64)) (u := x28) (a := (a4.add 1)) rfl ok2 rfl hr) hx28 ?_
        refine rd_pure (i := 2) (d := (some 28)) hD (by kernel_rfl) (by kernel_rfl) rfl (.free rfl) rfl (fun _ => q_lss (a := x28) (b := (0 : Int)) rfl rfl rfl) ?_
        refine rd_pure (i := 3) (d := (some 29)) hD (by kernel_rfl) (by kernel_rfl) rfl (.free rfl) rfl (fun _ => q_move (v := .bool ((decide (x28 < (0 : Int))))) rfl rfl) ?_
        refine ro_if (b := (decide (x28 < (0 : Int)))) h (fun hb29 h => ?_) (fun hb29 h => ?_)
        · refine rd_bar (i := 4) (d := (some 30)) hD (by kernel_rfl) (by kernel_rfl) rfl (.by_ 3 false 29 (decide (x28 < (0 : Int))) rfl rfl rfl hb29) rfl ?_
          refine rd_bar (i := 6) (d := (some 32)) hD (by kernel_rfl) (by kernel_rfl) rfl (.by_ 3 false 29 (decide (x28 < (0 : Int))) rfl rfl rfl hb29) rfl ?_
          refine rd_bar (i := 5) (d := (some 31)) hD (by kernel_rfl) (by kernel_rfl) rfl (.by_ 3 false 29 (decide (x28 < (0 : Int))) rfl rfl rfl hb29) rfl ?_
          refine rd_bar (i := 7) (d := (some 33)) hD (by kernel_rfl) (by kernel_rfl) rfl (.by_ 3 false 29 (decide (x28 < (0 : Int))) rfl rfl rfl hb29) rfl ?_
          refine rd_one (i := 8) (by kernel_rfl) ?_
          refine po_bar (d := (some 34)) rfl (.by_ 3 false 29 (decide (x28 < (0 : Int))) rfl rfl rfl hb29) rfl ⟨fun _ _ _ h => h, ?_⟩
          refine rd_bar (i := 9) (d := (some 35)) hD (by kernel_rfl) (by kernel_rfl) rfl (.by_ 3 false 29 (decide (x28 < (0 : Int))) rfl rfl rfl hb29) rfl ?_
          refine rd_pure (i := 10) (d := (some 36)) hD (by kernel_rfl) (by kernel_rfl) rfl (.free rfl) rfl (fun _ => q_pickT (v := .bool (true)) (b := (decide (x28 < (0 : Int)))) rfl rfl hb29 rfl) ?_
          refine rd_pure (i := 11) (d := (some 25)) hD (by kernel_rfl) (by kernel_rfl) rfl (.free rfl) rfl (fun _ => q_assign (v := .bool (true)) rfl rfl) ?_
          refine rd_nil (by kernel_rfl) ?_
          exact ⟨(true), _, arr (upd_step (upd_step (upd_step (upd_step rfl rfl) rfl) rfl) rfl), h⟩
        · refine rd_pure (i := 4) (d := (some 30)) hD (by kernel_rfl) (by kernel_rfl) rfl (.by_ 3 false 29 (decide (x28 < (0 : Int))) rfl rfl rfl hb29) rfl (fun _ => q_fieldAddr (a := a4) (off := 1) rfl Try.underlying37 rfl rfl ok2 (by decide) rfl) ?_
          refine rd_pure (i := 6) (d := (some 32)) hD (by kernel_rfl) (by kernel_rfl) rfl (.by_ 3 false 29 (decide (x28 < (0 : Int))) rfl rfl rfl hb29) rfl (fun _ => q_fieldAddr (a := a4) (off := 0) rfl Try.underlying37 rfl rfl ok3 (by decide) rfl) ?_
          obtain ⟨x30, hx30, h⟩ := h
          refine rd_read (i := 5) (d := (some 31)) (fun W => (RdAt (tInt .i64) (a4.add 1) W) x30) hD (by kernel_rfl) (by kernel_rfl) rfl (.by_ 3 false 29 (decide (x28 < (0 : Int))) rfl rfl rfl hb29) rfl (fun W hr => q_load (T := (tInt .i64)) (u := x30) (a := (a4.add 1)) rfl ok2 rfl hr) hx30 ?_
          obtain ⟨x31, hx31, h⟩ := h
          refine rd_read (i := 7) (d := (some 33)) (fun W => (RdAt (tInt .i64) (a4.add 0) W) x31) hD (by kernel_rfl) (by kernel_rfl) rfl (.by_ 3 false 29 (decide (x28 < (0 : Int))) rfl rfl rfl hb29) rfl (fun W hr => q_load (T := (tInt .i64)) (u := x31) (a := (a4.add 0)) rfl ok3 rfl hr) hx31 ?_
          refine rd_one (i := 8) (by kernel_rfl) ?_
          refine po_wp rfl (.by_ 3 false 29 (decide (x28 < (0 : Int))) rfl rfl rfl hb29) (wp_cl (d := (some 34)) rfl (q_call (k := 33) (l := [.int .i64 (x31)]) rfl ent33 rfl) h ?_)
          intro r33 w32 h
          obtain ⟨hk34, h⟩ := h
          obtain ⟨hk35, h⟩ := h
          refine ⟨(hk_wait (by kernel_rfl) (hk_keep (fun _ => hk35) (hk_keep (fun _ => hk34) hk_nil))), ?_⟩
          refine rd_pure (i := 9) (d := (some 35)) hD (by kernel_rfl) (by kernel_rfl) rfl (.by_ 3 false 29 (decide (x28 < (0 : Int))) rfl rfl rfl hb29) rfl (fun _ => q_gtr (a := x30) (b := r33) rfl rfl rfl) ?_
          refine rd_pure (i := 10) (d := (some 36)) hD (by kernel_rfl) (by kernel_rfl) rfl (.free rfl) rfl (fun _ => q_pickF (v := .bool ((decide (x30 > r33)))) (b := (decide (x28 < (0 : Int)))) rfl rfl hb29 rfl) ?_
          refine rd_pure (i := 11) (d := (some 25)) hD (by kernel_rfl) (by kernel_rfl) rfl (.free rfl) rfl (fun _ => q_assign (v := .bool ((decide (x30 > r33)))) rfl rfl) ?_
          refine rd_nil (by kernel_rfl) ?_
          exact ⟨((decide (x30 > r33))), _, arr (upd_step (upd_step (upd_step (upd_step rfl rfl) rfl) rfl) rfl), h⟩

-- moiety/audit.most
def F33 (key_1 : Int) (w : World) (R : Int → World → Prop) : Prop :=
  if (decide (key_1 < (4096 : Int))) = true then (
    R (1000000000000000 : Int) w
  ) else (
    R (4611686018427387904 : Int) w
  )
theorem F33_ok {key_1 : Int} {w : World} {R : Int → World → Prop} (h : F33 key_1 w R) : cl Try.prog 33 [.int .i64 (key_1)] (tInt .i64) w R := by
  unfold F33 at h
  refine calls_start 5 Try.func33 rfl rfl (Nat.le_of_ble_eq_true rfl) ?_
  refine wp_seq ?_
  refine wp_text [0] rfl ?_
  refine ro_val (d := (some 2)) rfl (.free rfl) rfl (q_assign (v := .int .i64 ((0 : Int))) rfl rfl) ?_
  refine ro_nil ?_
  refine wp_seq ?_
  refine wp_seq ?_
  refine wp_text [0, 1] rfl ?_
  refine ro_val (d := (some 3)) rfl (.free rfl) rfl (q_move (v := .int .i64 (key_1)) rfl rfl) ?_
  refine ro_val (d := (some 4)) rfl (.free rfl) rfl (q_lss (a := key_1) (b := (4096 : Int)) rfl rfl rfl) ?_
  refine ro_nil ?_
  refine wp_if (b := (decide (key_1 < (4096 : Int)))) rfl h (fun hb2 h => ?_) (fun hb2 h => ?_)
  · refine wp_seq ?_
    refine wp_text [0] rfl ?_
    refine ro_val (d := (some 2)) rfl (.free rfl) rfl (q_assign (v := .int .i64 ((1000000000000000 : Int))) rfl rfl) ?_
    refine ro_nil ?_
    refine wp_ret ?_
    exact ret_ok rfl (.cons (.tmp (v := .int .i64 ((1000000000000000 : Int))) rfl) .nil) ⟨(1000000000000000 : Int), rfl, h⟩
  · refine wp_skip ?_
    refine wp_seq ?_
    refine wp_text [0] rfl ?_
    refine ro_val (d := (some 2)) rfl (.free rfl) rfl (q_assign (v := .int .i64 ((4611686018427387904 : Int))) rfl rfl) ?_
    refine ro_nil ?_
    refine wp_ret ?_
    exact ret_ok rfl (.cons (.tmp (v := .int .i64 ((4611686018427387904 : Int))) rfl) .nil) ⟨(4611686018427387904 : Int), rfl, h⟩

-- maps.Keys[map[int]int64,int,int64]
def F35 (m_1 : (Option Nat)) (w : World) (R : Fv → World → Prop) : Prop :=
  nw 43 tMap m_1 w fun a2 w3 =>
  R (Fv.mk (.func 41) (List.toArray []) (List.toArray [.pointer (some a2)])) w3
theorem F35_ok {m_1 : (Option Nat)} {w : World} {R : Fv → World → Prop} (h : F35 m_1 w R) : cl Try.prog 35 [.map (m_1)] tFun w R := by
  unfold F35 at h
  refine calls_start 4 Try.func35 rfl rfl (Nat.le_of_ble_eq_true rfl) ?_
  refine wp_seq ?_
  refine wp_text [0, 1] rfl ?_
  obtain ⟨a2, w3, ha2, hw3, h⟩ := nw_open h
  refine ro_val (d := (some 1)) rfl (.free rfl) rfl (q_box (u := m_1) rfl ok43 rfl ha2 hw3) ?_
  refine ro_val (d := (some 2)) rfl (.free rfl) rfl (q_assign (v := (Fv.nil).enc) rfl rfl) ?_
  refine ro_nil ?_
  refine wp_seq ?_
  refine wp_text [0, 1] rfl ?_
  refine ro_val (d := (some 3)) rfl (.free rfl) rfl (q_makeFunc (fn := .func 41) (va := []) (vc := [.pointer (some a2)]) rfl rfl rfl) ?_
  refine ro_val (d := (some 2)) rfl (.free rfl) rfl (q_assign (v := ((Fv.mk (.func 41) (List.toArray []) (List.toArray [.pointer (some a2)]))).enc) rfl rfl) ?_
  refine ro_nil ?_
  refine wp_ret ?_
  exact ret_ok rfl (.cons (.tmp (v := ((Fv.mk (.func 41) (List.toArray []) (List.toArray [.pointer (some a2)]))).enc) rfl) .nil) ⟨(Fv.mk (.func 41) (List.toArray []) (List.toArray [.pointer (some a2)])), rfl, h⟩

-- slices.ContainsFunc[[]moiety/api.Entry,moiety/api.Entry]
def F36 (s_1 : Slc) (f_2 : Fv) (w : World) (R : Bool → World → Prop) : Prop :=
  cl Try.prog 42 [tSlc.enc (s_1), (f_2).enc] (tInt .i64) w fun r4 w3 =>
  R (decide (r4 ≥ (0 : Int))) w3
theorem F36_ok {s_1 : Slc} {f_2 : Fv} {w : World} {R : Bool → World → Prop} (h : F36 s_1 f_2 w R) : cl Try.prog 36 [tSlc.enc (s_1), (f_2).enc] tBool w R := by
  unfold F36 at h
  refine calls_start 9 Try.func36 rfl rfl (Nat.le_of_ble_eq_true rfl) ?_
  refine wp_seq ?_
  refine wp_text [0] rfl ?_
  refine ro_val (d := (some 4)) rfl (.free rfl) rfl (q_assign (v := .bool (false)) rfl rfl) ?_
  refine ro_nil ?_
  refine wp_seq ?_
  refine wp_text [0, 1, 2, 3, 4] rfl ?_
  refine ro_val (d := (some 5)) rfl (.free rfl) rfl (q_move (v := tSlc.enc (s_1)) rfl rfl) ?_
  refine ro_val (d := (some 6)) rfl (.free rfl) rfl (q_move (v := (f_2).enc) rfl rfl) ?_
  refine ro_wp rfl (.free rfl) (wp_cl (d := (some 7)) rfl (q_call (k := 42) (l := [tSlc.enc (s_1), (f_2).enc]) rfl ent42 rfl) h ?_)
  intro r4 w3 h
  refine ro_val (d := (some 8)) rfl (.free rfl) rfl (q_geq (a := r4) (b := (0 : Int)) rfl rfl rfl) ?_
  refine ro_val (d := (some 4)) rfl (.free rfl) rfl (q_assign (v := .bool ((decide (r4 ≥ (0 : Int))))) rfl rfl) ?_
  refine ro_nil ?_
  refine wp_ret ?_
  exact ret_ok rfl (.cons (.tmp (v := .bool ((decide (r4 ≥ (0 : Int))))) rfl) .nil) ⟨(decide (r4 ≥ (0 : Int))), rfl, h⟩

-- moiety/audit.may$1
def F37 (x_1 : S36) (w : World) (R : Bool → World → Prop) : Prop :=
  nw 37 T36 x_1 w fun a2 w3 =>
  ex (RdAt (tInt .i64) (a2.add 1) w3) fun x4 =>
  ex (fun x => (!(decide (x4 < (0 : Int)))) = true → (RdAt (tInt .i64) (a2.add 1) w3) x) fun x5 =>
  R ((decide (x4 < (0 : Int))) || (decide (x5 > (4611686018427387904 : Int)))) w3
theorem F37_ok {x_1 : S36} {w : World} {R : Bool → World → Prop} (h : F37 x_1 w R) : cl Try.prog 37 [T36.enc (x_1)] tBool w R := by
  unfold F37 at h
  refine calls_start 11 Try.func37 rfl rfl (Nat.le_of_ble_eq_true rfl) ?_
  refine wp_seq ?_
  refine wp_text [0, 1] rfl ?_
  obtain ⟨a2, w3, ha2, hw3, h⟩ := nw_open h
  refine ro_val (d := (some 1)) rfl (.free rfl) rfl (q_box (u := x_1) rfl ok37 rfl ha2 hw3) ?_
  refine ro_val (d := (some 2)) rfl (.free rfl) rfl (q_assign (v := .bool (false)) rfl rfl) ?_
  refine ro_nil ?_
  refine wp_seq ?_
  refine wp_text [0, 1, 2, 3, 4, 5, 6, 7, 8] rfl ?_
  refine ro_val (d := (some 3)) rfl (.free rfl) rfl (q_fieldAddr (a := a2) (off := 1) rfl Try.underlying37 rfl rfl ok2 (by decide) rfl) ?_
  obtain ⟨x4, hx4, h⟩ := h
  refine ro_val (d := (some 4)) rfl (.free rfl) rfl (q_load (T := (tInt .i64)) (u := x4) (a := (a2.add 1)) rfl ok2 rfl hx4) ?_
  refine ro_val (d := (some 5)) rfl (.free rfl) rfl (q_lss (a := x4) (b := (0 : Int)) rfl rfl rfl) ?_
  refine ro_val (d := (some 6)) rfl (.free rfl) rfl (q_move (v := .bool ((decide (x4 < (0 : Int))))) rfl rfl) ?_
  refine ro_gval (g := (!(decide (x4 < (0 : Int))))) (d := (some 7)) rfl (.no 3 6 true (decide (x4 < (0 : Int))) rfl rfl rfl rfl) rfl (fun hg => q_fieldAddr (a := a2) (off := 1) rfl Try.underlying37 rfl rfl ok2 (by decide) rfl) ?_
  obtain ⟨x5, hx5, h⟩ := h
  refine ro_gval (g := (!(decide (x4 < (0 : Int))))) (d := (some 8)) rfl (.no 3 6 true (decide (x4 < (0 : Int))) rfl rfl rfl rfl) rfl (fun hg => q_load (T := (tInt .i64)) (u := x5) (a := (a2.add 1)) rfl ok2 (gvb_yes hg) (hx5 hg)) ?_
  refine ro_gval (g := (!(decide (x4 < (0 : Int))))) (d := (some 9)) rfl (.no 3 6 true (decide (x4 < (0 : Int))) rfl rfl rfl rfl) rfl (fun hg => q_gtr (a := x5) (b := (4611686018427387904 : Int)) rfl (gvb_yes hg) rfl) ?_
  refine ro_val (d := (some 10)) rfl (.free rfl) rfl (q_pickGF (a := (decide (x4 < (0 : Int)))) (c := (decide (x5 > (4611686018427387904 : Int)))) rfl rfl rfl rfl) ?_
  refine ro_val (d := (some 2)) rfl (.free rfl) rfl (q_assign (v := .bool (((decide (x4 < (0 : Int))) || (decide (x5 > (4611686018427387904 : Int)))))) rfl rfl) ?_
  refine ro_nil ?_
  refine wp_ret ?_
  exact ret_ok rfl (.cons (.tmp (v := .bool (((decide (x4 < (0 : Int))) || (decide (x5 > (4611686018427387904 : Int)))))) rfl) .nil) ⟨((decide (x4 < (0 : Int))) || (decide (x5 > (4611686018427387904 : Int)))), rfl, h⟩

-- slices.IndexFunc[[]moiety/api.Report,moiety/api.Report]
def F38_l1 (s_1 : Slc) (f_2 : Fv) (t_3 : Int) (w4 : World) (K5 : Int → World → Prop) (R : Int → World → Prop) : Prop :=
  if (decide (t_3 < (s_1.len : Int))) = true then (
    ex (IxA s_1 2 t_3) fun a6 =>
    ex (RdAt T38 a6 w4) fun x7 =>
    clv Try.prog f_2 [T38.enc (x7)] tBool w4 fun r9 w8 =>
    if r9 = true then (
      R t_3 w8
    ) else (
      K5 ((IntKind.i64.wrap (t_3 + (1 : Int)))) w8
    )
  ) else (
    R (-1 : Int) w4
  )
def F38 (s_1 : Slc) (f_2 : Fv) (w : World) (R : Int → World → Prop) : Prop :=
  lp (fun (s : Int) w K => F38_l1 s_1 f_2 s w K R) ((0 : Int)) w
theorem F38_ok {s_1 : Slc} {f_2 : Fv} {w : World} {R : Int → World → Prop} (h : F38 s_1 f_2 w R) : cl Try.prog 38 [tSlc.enc (s_1), (f_2).enc] (tInt .i64) w R := by
  unfold F38 at h
  refine calls_start 19 Try.func38 rfl rfl (Nat.le_of_ble_eq_true rfl) ?_
  refine wp_seq ?_
  refine wp_text [0] rfl ?_
  refine ro_val (d := (some 4)) rfl (.free rfl) rfl (q_assign (v := .int .i64 ((0 : Int))) rfl rfl) ?_
  refine ro_nil ?_
  refine wp_seq ?_
  refine wp_seq ?_
  refine wp_text [0, 1, 2] rfl ?_
  refine ro_val (d := (some 6)) rfl (.free rfl) rfl (q_move (v := tSlc.enc (s_1)) rfl rfl) ?_
  refine ro_val (d := (some 7)) rfl (.free rfl) rfl (q_len (s := s_1) rfl Try.underlying22 rfl) ?_
  refine ro_val (d := (some 8)) rfl (.free rfl) rfl (q_move (v := .int .i64 ((0 : Int))) rfl rfl) ?_
  refine ro_nil ?_
  refine wp_block ?_
  refine loop_at (σ := Int) (fr := fun g (s : Int) => upd (upd (upd (upd (g) 0 (tSlc.enc (s_1))) 1 ((f_2).enc)) 7 (.int .i64 ((s_1.len : Int)))) 8 (.int .i64 (s))) (s0 := ((0 : Int))) (upd_step (upd_step (upd_step (upd_step rfl rfl) rfl) rfl) rfl) h ?_
  rintro t_3 g w4 K5 h
  unfold F38_l1 at h
  refine wp_seq ?_
  refine wp_text [0] rfl ?_
  refine ro_val (d := (some 9)) rfl (.free rfl) rfl (q_lss (a := t_3) (b := (s_1.len : Int)) rfl rfl rfl) ?_
  refine ro_nil ?_
  refine wp_seq ?_
  refine wp_if (b := (decide (t_3 < (s_1.len : Int)))) rfl h (fun hb11 h => ?_) (fun hb11 h => ?_)
  · refine wp_skip ?_
    refine wp_seq ?_
    refine wp_block ?_
    refine wp_seq ?_
    refine wp_text [0, 1] rfl ?_
    refine ro_val (d := (some 10)) rfl (.free rfl) rfl (q_move (v := .int .i64 (t_3)) rfl rfl) ?_
    refine ro_val (d := (some 5)) rfl (.free rfl) rfl (q_assign (v := .int .i64 (t_3)) rfl rfl) ?_
    refine ro_nil ?_
    refine wp_seq ?_
    refine wp_text [0, 1, 2, 3, 4, 5] rfl ?_
    refine ro_val (d := (some 11)) rfl (.free rfl) rfl (q_move (v := (f_2).enc) rfl rfl) ?_
    refine ro_val (d := (some 12)) rfl (.free rfl) rfl (q_move (v := tSlc.enc (s_1)) rfl rfl) ?_
    refine ro_val (d := (some 13)) rfl (.free rfl) rfl (q_move (v := .int .i64 (t_3)) rfl rfl) ?_
    obtain ⟨a6, ha6, h⟩ := h
    refine ro_val (d := (some 14)) rfl (.free rfl) rfl (q_indexAddr (s := s_1) (i := t_3) rfl Try.underlying22 ok39 rfl rfl ha6) ?_
    obtain ⟨x7, hx7, h⟩ := h
    refine ro_val (d := (some 15)) rfl (.free rfl) rfl (q_load (T := T38) (u := x7) (a := a6) rfl ok39 rfl hx7) ?_
    refine ro_wp rfl (.free rfl) (wp_clv (d := (some 16)) (l := [T38.enc (x7)]) (fv := f_2) rfl rfl rfl rfl h ?_)
    intro r9 w8 h
    refine ro_nil ?_
    refine wp_if (b := r9) rfl h (fun hb10 h => ?_) (fun hb10 h => ?_)
    · refine wp_seq ?_
      refine wp_text [0, 1] rfl ?_
      refine ro_val (d := (some 17)) rfl (.free rfl) rfl (q_move (v := .int .i64 (t_3)) rfl rfl) ?_
      refine ro_val (d := (some 4)) rfl (.free rfl) rfl (q_assign (v := .int .i64 (t_3)) rfl rfl) ?_
      refine ro_nil ?_
      refine wp_ret ?_
      exact ret_ok rfl (.cons (.tmp (v := .int .i64 (t_3)) rfl) .nil) ⟨t_3, rfl, h⟩
    · refine wp_skip ?_
      refine wp_text [0, 1] rfl ?_
      refine ro_val (d := (some 18)) rfl (.free rfl) rfl (q_add (a := t_3) (b := (1 : Int)) rfl rfl rfl) ?_
      refine ro_val (d := (some 8)) rfl (.free rfl) rfl (q_move (v := .int .i64 ((IntKind.i64.wrap (t_3 + (1 : Int))))) rfl rfl) ?_
      refine ro_nil ?_
      exact ⟨((IntKind.i64.wrap (t_3 + (1 : Int)))), _, arr (upd_step (upd_step (upd_step (upd_step rfl rfl) rfl) rfl) rfl), h⟩
  · refine wp_exit ?_
    refine wp_seq ?_
    refine wp_text [0] rfl ?_
    refine ro_val (d := (some 4)) rfl (.free rfl) rfl (q_assign (v := .int .i64 ((-1 : Int))) rfl rfl) ?_
    refine ro_nil ?_
    refine wp_ret ?_
    exact ret_ok rfl (.cons (.tmp (v := .int .i64 ((-1 : Int))) rfl) .nil) ⟨(-1 : Int), rfl, h⟩

-- slices.IndexFunc[[]moiety/api.Entry,moiety/api.Entry]
def F42_l1 (s_1 : Slc) (f_2 : Fv) (t_3 : Int) (w4 : World) (K5 : Int → World → Prop) (R : Int → World → Prop) : Prop :=
  if (decide (t_3 < (s_1.len : Int))) = true then (
    ex (IxA s_1 2 t_3) fun a6 =>
    ex (RdAt T36 a6 w4) fun x7 =>
    clv Try.prog f_2 [T36.enc (x7)] tBool w4 fun r9 w8 =>
    if r9 = true then (
      R t_3 w8
    ) else (
      K5 ((IntKind.i64.wrap (t_3 + (1 : Int)))) w8
    )
  ) else (
    R (-1 : Int) w4
  )
def F42 (s_1 : Slc) (f_2 : Fv) (w : World) (R : Int → World → Prop) : Prop :=
  lp (fun (s : Int) w K => F42_l1 s_1 f_2 s w K R) ((0 : Int)) w
theorem F42_ok {s_1 : Slc} {f_2 : Fv} {w : World} {R : Int → World → Prop} (h : F42 s_1 f_2 w R) : cl Try.prog 42 [tSlc.enc (s_1), (f_2).enc] (tInt .i64) w R := by
  unfold F42 at h
  refine calls_start 19 Try.func42 rfl rfl (Nat.le_of_ble_eq_true rfl) ?_
  refine wp_seq ?_
  refine wp_text [0] rfl ?_
  refine ro_val (d := (some 4)) rfl (.free rfl) rfl (q_assign (v := .int .i64 ((0 : Int))) rfl rfl) ?_
  refine ro_nil ?_
  refine wp_seq ?_
  refine wp_seq ?_
  refine wp_text [0, 1, 2] rfl ?_
  refine ro_val (d := (some 6)) rfl (.free rfl) rfl (q_move (v := tSlc.enc (s_1)) rfl rfl) ?_
  refine ro_val (d := (some 7)) rfl (.free rfl) rfl (q_len (s := s_1) rfl Try.underlying31 rfl) ?_
  refine ro_val (d := (some 8)) rfl (.free rfl) rfl (q_move (v := .int .i64 ((0 : Int))) rfl rfl) ?_
  refine ro_nil ?_
  refine wp_block ?_
  refine loop_at (σ := Int) (fr := fun g (s : Int) => upd (upd (upd (upd (g) 0 (tSlc.enc (s_1))) 1 ((f_2).enc)) 7 (.int .i64 ((s_1.len : Int)))) 8 (.int .i64 (s))) (s0 := ((0 : Int))) (upd_step (upd_step (upd_step (upd_step rfl rfl) rfl) rfl) rfl) h ?_
  rintro t_3 g w4 K5 h
  unfold F42_l1 at h
  refine wp_seq ?_
  refine wp_text [0] rfl ?_
  refine ro_val (d := (some 9)) rfl (.free rfl) rfl (q_lss (a := t_3) (b := (s_1.len : Int)) rfl rfl rfl) ?_
  refine ro_nil ?_
  refine wp_seq ?_
  refine wp_if (b := (decide (t_3 < (s_1.len : Int)))) rfl h (fun hb11 h => ?_) (fun hb11 h => ?_)
  · refine wp_skip ?_
    refine wp_seq ?_
    refine wp_block ?_
    refine wp_seq ?_
    refine wp_text [0, 1] rfl ?_
    refine ro_val (d := (some 10)) rfl (.free rfl) rfl (q_move (v := .int .i64 (t_3)) rfl rfl) ?_
    refine ro_val (d := (some 5)) rfl (.free rfl) rfl (q_assign (v := .int .i64 (t_3)) rfl rfl) ?_
    refine ro_nil ?_
    refine wp_seq ?_
    refine wp_text [0, 1, 2, 3, 4, 5] rfl ?_
    refine ro_val (d := (some 11)) rfl (.free rfl) rfl (q_move (v := (f_2).enc) rfl rfl) ?_
    refine ro_val (d := (some 12)) rfl (.free rfl) rfl (q_move (v := tSlc.enc (s_1)) rfl rfl) ?_
    refine ro_val (d := (some 13)) rfl (.free rfl) rfl (q_move (v := .int .i64 (t_3)) rfl rfl) ?_
    obtain ⟨a6, ha6, h⟩ := h
    refine ro_val (d := (some 14)) rfl (.free rfl) rfl (q_indexAddr (s := s_1) (i := t_3) rfl Try.underlying31 ok37 rfl rfl ha6) ?_
    obtain ⟨x7, hx7, h⟩ := h
    refine ro_val (d := (some 15)) rfl (.free rfl) rfl (q_load (T := T36) (u := x7) (a := a6) rfl ok37 rfl hx7) ?_
    refine ro_wp rfl (.free rfl) (wp_clv (d := (some 16)) (l := [T36.enc (x7)]) (fv := f_2) rfl rfl rfl rfl h ?_)
    intro r9 w8 h
    refine ro_nil ?_
    refine wp_if (b := r9) rfl h (fun hb10 h => ?_) (fun hb10 h => ?_)
    · refine wp_seq ?_
      refine wp_text [0, 1] rfl ?_
      refine ro_val (d := (some 17)) rfl (.free rfl) rfl (q_move (v := .int .i64 (t_3)) rfl rfl) ?_
      refine ro_val (d := (some 4)) rfl (.free rfl) rfl (q_assign (v := .int .i64 (t_3)) rfl rfl) ?_
      refine ro_nil ?_
      refine wp_ret ?_
      exact ret_ok rfl (.cons (.tmp (v := .int .i64 (t_3)) rfl) .nil) ⟨t_3, rfl, h⟩
    · refine wp_skip ?_
      refine wp_text [0, 1] rfl ?_
      refine ro_val (d := (some 18)) rfl (.free rfl) rfl (q_add (a := t_3) (b := (1 : Int)) rfl rfl rfl) ?_
      refine ro_val (d := (some 8)) rfl (.free rfl) rfl (q_move (v := .int .i64 ((IntKind.i64.wrap (t_3 + (1 : Int))))) rfl rfl) ?_
      refine ro_nil ?_
      exact ⟨((IntKind.i64.wrap (t_3 + (1 : Int)))), _, arr (upd_step (upd_step (upd_step (upd_step rfl rfl) rfl) rfl) rfl), h⟩
  · refine wp_exit ?_
    refine wp_seq ?_
    refine wp_text [0] rfl ?_
    refine ro_val (d := (some 4)) rfl (.free rfl) rfl (q_assign (v := .int .i64 ((-1 : Int))) rfl rfl) ?_
    refine ro_nil ?_
    refine wp_ret ?_
    exact ret_ok rfl (.cons (.tmp (v := .int .i64 ((-1 : Int))) rfl) .nil) ⟨(-1 : Int), rfl, h⟩

end Go.Proofs.Ytleehieomicicaa.Cf
