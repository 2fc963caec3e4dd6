/- Characteristic formulae of Go functions, and that they are. Printed by gen.py (own tool). -/
import Derived.Test.YtpdaapffkdejoaaGreatTy
namespace Go.Proofs.YtpdaapffkdejoaaGreat.Cf
open Go
set_option maxRecDepth 100000
set_option maxHeartbeats 1000000
set_option linter.unusedVariables false
set_option linter.unusedSimpArgs false

-- moiety/num.Class
def F59 (f_1 : Nat) (w : World) (R : Int → World → Prop) : Prop :=
  if (fcmp .neq f_1 f_1) = true then (
    R (0 : Int) w
  ) else (
    if ((f_1 : Int) == (0 : Int)) = true then (
      R (4 : Int) w
    ) else (
      if ((f_1 : Int) == (9223372036854775808 : Int)) = true then (
        R (3 : Int) w
      ) else (
        cl Tryz.prog 73 [.float .f64 (f_1), .int .i64 ((-1 : Int))] tBool w fun r3 w2 =>
        if r3 = true then (
          R (1 : Int) w2
        ) else (
          cl Tryz.prog 73 [.float .f64 (f_1), .int .i64 ((1 : Int))] tBool w2 fun r5 w4 =>
          if r5 = true then (
            R (6 : Int) w4
          ) else (
            if (fcmp .lss f_1 (0 : Nat)) = true then (
              R (2 : Int) w4
            ) else (
              R (5 : Int) w4
            )
          )
        )
      )
    )
  )
theorem F59_ok {f_1 : Nat} {w : World} {R : Int → World → Prop} (h : F59 f_1 w R) : cl Tryz.prog 59 [.float .f64 (f_1)] (tInt .i64) w R := by
  unfold F59 at h
  refine calls_start 25 Tryz.func59 rfl rfl (Nat.le_of_ble_eq_true rfl) ?_
  refine wp_seq ?_
  refine wp_text [0] rfl ?_
  refine rv 2 rfl rfl rfl (q_assign (v := .int .i64 ((0 : Int))) rfl rfl) ?_
  refine ro_nil ?_
  refine wp_seq ?_
  refine wp_text [0, 1, 2] rfl ?_
  refine rv 4 rfl rfl rfl (q_move (v := .float .f64 (f_1)) rfl rfl) ?_
  refine rv 5 rfl rfl rfl (q_f64bits (b := f_1) rfl ext72 rfl) ?_
  refine rv 3 rfl rfl rfl (q_assign (v := .int .u64 ((f_1 : Int))) rfl rfl) ?_
  refine ro_nil ?_
  refine wp_seq ?_
  refine wp_block ?_
  refine wp_seq ?_
  refine wp_text [0, 1, 2, 3] rfl ?_
  refine rv 7 rfl rfl rfl (q_move (v := .float .f64 (f_1)) rfl rfl) ?_
  refine rv 8 rfl rfl rfl (q_move (v := .float .f64 (f_1)) rfl rfl) ?_
  refine rv 9 rfl rfl rfl (q_fcmp (op := .neq) (a := f_1) (b := f_1) rfl (by decide) rfl rfl) ?_
  refine rv 6 rfl rfl rfl (q_assign (v := .bool ((fcmp .neq f_1 f_1))) rfl rfl) ?_
  refine ro_nil ?_
  refine wp_if (b := (fcmp .neq f_1 f_1)) rfl h (fun hb11 h => ?_) (fun hb11 h => ?_)
  · refine wp_seq ?_
    refine wp_text [0] rfl ?_
    refine rv 2 rfl rfl rfl (q_assign (v := .int .i64 ((0 : Int))) rfl rfl) ?_
    refine ro_nil ?_
    refine wp_ret ?_
    exact ret_ok rfl (.cons (.tmp (v := .int .i64 ((0 : Int))) rfl) .nil) ⟨(0 : Int), rfl, h⟩
  · refine wp_seq ?_
    refine wp_text [0, 1, 2] rfl ?_
    refine rv 11 rfl rfl rfl (q_move (v := .int .u64 ((f_1 : Int))) rfl rfl) ?_
    refine rv 12 rfl rfl rfl (q_eql (a := (f_1 : Int)) (b := (0 : Int)) rfl rfl rfl) ?_
    refine rv 10 rfl rfl rfl (q_assign (v := .bool (((f_1 : Int) == (0 : Int)))) rfl rfl) ?_
    refine ro_nil ?_
    refine wp_if (b := ((f_1 : Int) == (0 : Int))) rfl h (fun hb10 h => ?_) (fun hb10 h => ?_)
    · refine wp_seq ?_
      refine wp_text [0] rfl ?_
      refine rv 2 rfl rfl rfl (q_assign (v := .int .i64 ((4 : Int))) rfl rfl) ?_
      refine ro_nil ?_
      refine wp_ret ?_
      exact ret_ok rfl (.cons (.tmp (v := .int .i64 ((4 : Int))) rfl) .nil) ⟨(4 : Int), rfl, h⟩
    · refine wp_seq ?_
      refine wp_text [0, 1, 2] rfl ?_
      refine rv 14 rfl rfl rfl (q_move (v := .int .u64 ((f_1 : Int))) rfl rfl) ?_
      refine rv 15 rfl rfl rfl (q_eql (a := (f_1 : Int)) (b := (9223372036854775808 : Int)) rfl rfl rfl) ?_
      refine rv 13 rfl rfl rfl (q_assign (v := .bool (((f_1 : Int) == (9223372036854775808 : Int)))) rfl rfl) ?_
      refine ro_nil ?_
      refine wp_if (b := ((f_1 : Int) == (9223372036854775808 : Int))) rfl h (fun hb9 h => ?_) (fun hb9 h => ?_)
      · refine wp_seq ?_
        refine wp_text [0] rfl ?_
        refine rv 2 rfl rfl rfl (q_assign (v := .int .i64 ((3 : Int))) rfl rfl) ?_
        refine ro_nil ?_
        refine wp_ret ?_
        exact ret_ok rfl (.cons (.tmp (v := .int .i64 ((3 : Int))) rfl) .nil) ⟨(3 : Int), rfl, h⟩
      · refine wp_seq ?_
        refine wp_text [0, 1, 2] rfl ?_
        refine rv 17 rfl rfl rfl (q_move (v := .float .f64 (f_1)) rfl rfl) ?_
        refine ro_wp rfl (.free rfl) (wp_cl (d := (some 18)) rfl (q_call (k := 73) (l := [.float .f64 (f_1), .int .i64 ((-1 : Int))]) rfl ent73 rfl) h ?_)
        intro r3 w2 h
        refine rv 16 rfl rfl rfl (q_assign (v := .bool (r3)) rfl rfl) ?_
        refine ro_nil ?_
        refine wp_if (b := r3) rfl h (fun hb8 h => ?_) (fun hb8 h => ?_)
        · refine wp_seq ?_
          refine wp_text [0] rfl ?_
          refine rv 2 rfl rfl rfl (q_assign (v := .int .i64 ((1 : Int))) rfl rfl) ?_
          refine ro_nil ?_
          refine wp_ret ?_
          exact ret_ok rfl (.cons (.tmp (v := .int .i64 ((1 : Int))) rfl) .nil) ⟨(1 : Int), rfl, h⟩
        · refine wp_seq ?_
          refine wp_text [0, 1, 2] rfl ?_
          refine rv 20 rfl rfl rfl (q_move (v := .float .f64 (f_1)) rfl rfl) ?_
          refine ro_wp rfl (.free rfl) (wp_cl (d := (some 21)) rfl (q_call (k := 73) (l := [.float .f64 (f_1), .int .i64 ((1 : Int))]) rfl ent73 rfl) h ?_)
          intro r5 w4 h
          refine rv 19 rfl rfl rfl (q_assign (v := .bool (r5)) rfl rfl) ?_
          refine ro_nil ?_
          refine wp_if (b := r5) rfl h (fun hb7 h => ?_) (fun hb7 h => ?_)
          · refine wp_seq ?_
            refine wp_text [0] rfl ?_
            refine rv 2 rfl rfl rfl (q_assign (v := .int .i64 ((6 : Int))) rfl rfl) ?_
            refine ro_nil ?_
            refine wp_ret ?_
            exact ret_ok rfl (.cons (.tmp (v := .int .i64 ((6 : Int))) rfl) .nil) ⟨(6 : Int), rfl, h⟩
          · refine wp_seq ?_
            refine wp_text [0, 1, 2] rfl ?_
            refine rv 23 rfl rfl rfl (q_move (v := .float .f64 (f_1)) rfl rfl) ?_
            refine rv 24 rfl rfl rfl (q_fcmp (op := .lss) (a := f_1) (b := (0 : Nat)) rfl (by decide) rfl rfl) ?_
            refine rv 22 rfl rfl rfl (q_assign (v := .bool ((fcmp .lss f_1 (0 : Nat)))) rfl rfl) ?_
            refine ro_nil ?_
            refine wp_if (b := (fcmp .lss f_1 (0 : Nat))) rfl h (fun hb6 h => ?_) (fun hb6 h => ?_)
            · refine wp_seq ?_
              refine wp_text [0] rfl ?_
              refine rv 2 rfl rfl rfl (q_assign (v := .int .i64 ((2 : Int))) rfl rfl) ?_
              refine ro_nil ?_
              refine wp_ret ?_
              exact ret_ok rfl (.cons (.tmp (v := .int .i64 ((2 : Int))) rfl) .nil) ⟨(2 : Int), rfl, h⟩
            · refine wp_skip ?_
              refine wp_seq ?_
              refine wp_text [0] rfl ?_
              refine rv 2 rfl rfl rfl (q_assign (v := .int .i64 ((5 : Int))) rfl rfl) ?_
              refine ro_nil ?_
              refine wp_ret ?_
              exact ret_ok rfl (.cons (.tmp (v := .int .i64 ((5 : Int))) rfl) .nil) ⟨(5 : Int), rfl, h⟩

-- moiety/num.Cmp
def F60 (a_1 : Nat) (b_2 : Nat) (w : World) (R : Int → World → Prop) : Prop :=
  cl Tryz.prog 74 [.float .f64 (a_1)] (tInt .u64) w fun r4 w3 =>
  cl Tryz.prog 74 [.float .f64 (b_2)] (tInt .u64) w3 fun r6 w5 =>
  if (decide (r4 < r6)) = true then (
    R (-1 : Int) w5
  ) else (
    if (decide (r4 > r6)) = true then (
      R (1 : Int) w5
    ) else (
      R (0 : Int) w5
    )
  )
theorem F60_ok {a_1 : Nat} {b_2 : Nat} {w : World} {R : Int → World → Prop} (h : F60 a_1 b_2 w R) : cl Tryz.prog 60 [.float .f64 (a_1), .float .f64 (b_2)] (tInt .i64) w R := by
  unfold F60 at h
  refine calls_start 19 Tryz.func60 rfl rfl (Nat.le_of_ble_eq_true rfl) ?_
  refine wp_seq ?_
  refine wp_text [0] rfl ?_
  refine rv 4 rfl rfl rfl (q_assign (v := .int .i64 ((0 : Int))) rfl rfl) ?_
  refine ro_nil ?_
  refine wp_seq ?_
  refine wp_text [0, 1, 2, 3, 4, 5] rfl ?_
  refine rv 7 rfl rfl rfl (q_move (v := .float .f64 (a_1)) rfl rfl) ?_
  refine ro_wp rfl (.free rfl) (wp_cl (d := (some 8)) rfl (q_call (k := 74) (l := [.float .f64 (a_1)]) rfl ent74 rfl) h ?_)
  intro r4 w3 h
  refine rv 9 rfl rfl rfl (q_move (v := .float .f64 (b_2)) rfl rfl) ?_
  refine ro_wp rfl (.free rfl) (wp_cl (d := (some 10)) rfl (q_call (k := 74) (l := [.float .f64 (b_2)]) rfl ent74 rfl) h ?_)
  intro r6 w5 h
  refine rv 5 rfl rfl rfl (q_assign (v := .int .u64 (r4)) rfl rfl) ?_
  refine rv 6 rfl rfl rfl (q_assign (v := .int .u64 (r6)) rfl rfl) ?_
  refine ro_nil ?_
  refine wp_seq ?_
  refine wp_block ?_
  refine wp_seq ?_
  refine wp_text [0, 1, 2, 3] rfl ?_
  refine rv 12 rfl rfl rfl (q_move (v := .int .u64 (r4)) rfl rfl) ?_
  refine rv 13 rfl rfl rfl (q_move (v := .int .u64 (r6)) rfl rfl) ?_
  refine rv 14 rfl rfl rfl (q_lss (a := r4) (b := r6) rfl rfl rfl) ?_
  refine rv 11 rfl rfl rfl (q_assign (v := .bool ((decide (r4 < r6)))) rfl rfl) ?_
  refine ro_nil ?_
  refine wp_if (b := (decide (r4 < r6))) rfl h (fun hb8 h => ?_) (fun hb8 h => ?_)
  · refine wp_seq ?_
    refine wp_text [0] rfl ?_
    refine rv 4 rfl rfl rfl (q_assign (v := .int .i64 ((-1 : Int))) rfl rfl) ?_
    refine ro_nil ?_
    refine wp_ret ?_
    exact ret_ok rfl (.cons (.tmp (v := .int .i64 ((-1 : Int))) rfl) .nil) ⟨(-1 : Int), rfl, h⟩
  · refine wp_seq ?_
    refine wp_text [0, 1, 2, 3] rfl ?_
    refine rv 16 rfl rfl rfl (q_move (v := .int .u64 (r4)) rfl rfl) ?_
    refine rv 17 rfl rfl rfl (q_move (v := .int .u64 (r6)) rfl rfl) ?_
    refine rv 18 rfl rfl rfl (q_gtr (a := r4) (b := r6) rfl rfl rfl) ?_
    refine rv 15 rfl rfl rfl (q_assign (v := .bool ((decide (r4 > r6)))) rfl rfl) ?_
    refine ro_nil ?_
    refine wp_if (b := (decide (r4 > r6))) rfl h (fun hb7 h => ?_) (fun hb7 h => ?_)
    · refine wp_seq ?_
      refine wp_text [0] rfl ?_
      refine rv 4 rfl rfl rfl (q_assign (v := .int .i64 ((1 : Int))) rfl rfl) ?_
      refine ro_nil ?_
      refine wp_ret ?_
      exact ret_ok rfl (.cons (.tmp (v := .int .i64 ((1 : Int))) rfl) .nil) ⟨(1 : Int), rfl, h⟩
    · refine wp_skip ?_
      refine wp_seq ?_
      refine wp_text [0] rfl ?_
      refine rv 4 rfl rfl rfl (q_assign (v := .int .i64 ((0 : Int))) rfl rfl) ?_
      refine ro_nil ?_
      refine wp_ret ?_
      exact ret_ok rfl (.cons (.tmp (v := .int .i64 ((0 : Int))) rfl) .nil) ⟨(0 : Int), rfl, h⟩

-- (*moiety/chain.Chain).Last
def F61 (c_1 : (Option Addr)) (w : World) (R : (S86 × Bool) → World → Prop) : Prop :=
  nw 87 T86 Z86 w fun a2 w3 =>
  ex (NC c_1) fun a4 =>
  ex (RdAt tSlc (a4.add 0) w3) fun x5 =>
  if ((x5.len : Int) == (0 : Int)) = true then (
    st T86 a2 (⟨(0 : Int), (0 : Int)⟩ : S86) w3 fun w6 =>
    ex (RdAt T86 a2 w6) fun x7 =>
    R (x7, false) w6
  ) else (
    dr w3 fun w8 =>
    ex (RdAt tSlc (a4.add 0) w8) fun x9 =>
    ex (RdAt tSlc (a4.add 0) w8) fun x10 =>
    ex (IxA x9 2 (IntKind.i64.wrap ((x10.len : Int) - (1 : Int)))) fun a11 =>
    ex (RdAt T86 a11 w8) fun x12 =>
    st T86 a2 x12 w8 fun w13 =>
    ex (RdAt T86 a2 w13) fun x14 =>
    R (x14, true) w13
  )
theorem F61_ok {c_1 : (Option Addr)} {w : World} {R : (S86 × Bool) → World → Prop} (h : F61 c_1 w R) : cl Tryz.prog 61 [.pointer (c_1)] (tTup2 T86 tBool) w R := by
  unfold F61 at h
  refine calls_start 23 Tryz.func61 rfl rfl (Nat.le_of_ble_eq_true rfl) ?_
  refine wp_seq ?_
  refine wp_text [0, 1] rfl ?_
  obtain ⟨a2, w3, ha2, hw3, h⟩ := nw_open h
  refine rv 2 rfl rfl rfl (q_alloc (u := Z86) rfl ok87 inf87 ha2 hw3) ?_
  refine rv 3 rfl rfl rfl (q_assign (v := .bool (false)) rfl rfl) ?_
  refine ro_nil ?_
  refine wp_seq ?_
  refine wp_seq ?_
  refine wp_text [0, 1, 2, 3, 4, 5] rfl ?_
  refine rv 4 rfl rfl rfl (q_move (v := .pointer (c_1)) rfl rfl) ?_
  obtain ⟨a4, ha4, h⟩ := h
  refine rv 5 rfl rfl rfl (q_nilCheck (a := a4) rfl (congrArg Value.pointer ha4)) ?_
  refine rv 6 rfl rfl rfl (q_fieldAddr (a := a4) (off := 0) rfl Tryz.underlying112 rfl rfl ok110 (by decide) rfl) ?_
  obtain ⟨x5, hx5, h⟩ := h
  refine rv 7 rfl rfl rfl (q_load (T := tSlc) (u := x5) (a := (a4.add 0)) rfl ok110 rfl hx5) ?_
  refine rv 8 rfl rfl rfl (q_len (s := x5) rfl Tryz.underlying110 rfl) ?_
  refine rv 9 rfl rfl rfl (q_eql (a := (x5.len : Int)) (b := (0 : Int)) rfl rfl rfl) ?_
  refine ro_nil ?_
  refine wp_if (b := ((x5.len : Int) == (0 : Int))) rfl h (fun hb15 h => ?_) (fun hb15 h => ?_)
  · refine wp_seq ?_
    refine wp_text [0, 1, 2] rfl ?_
    refine rv 10 rfl rfl rfl (q_build87_  rfl ) ?_
    obtain ⟨w6, hw6, hrw6, h⟩ := st_open h
    refine ro_skip (d := none) rfl (.free rfl) rfl (q_store (T := T86) (u := (⟨(0 : Int), (0 : Int)⟩ : S86)) (a := a2) rfl ok87 rfl rfl hrw6 hw6) ?_
    refine rv 3 rfl rfl rfl (q_assign (v := .bool (false)) rfl rfl) ?_
    refine ro_nil ?_
    refine wp_ret ?_
    obtain ⟨x7, hx7, h⟩ := h
    exact ret_ok rfl (.cons (.cell (T := T86) (u := x7) (a := a2) ok87 rfl hx7) (.cons (.tmp (v := .bool (false)) rfl) .nil)) ⟨(x7, false), rfl, h⟩
  · refine wp_skip ?_
    refine wp_seq ?_
    obtain ⟨w8, hw8, h⟩ := dr_open h
    refine wp_drawn 14 mixed rfl (by kernel_rfl) (by intro c a d v w h; cases d <;> exact h) hw8 (fun hD => ?_)
    refine rp 0 11 hD rfl rfl rfl (fun _ => q_move (v := .pointer (c_1)) rfl rfl) ?_
    refine rp 1 12 hD rfl rfl rfl (fun _ => q_nilCheck (a := a4) rfl (congrArg Value.pointer ha4)) ?_
    refine rp 2 13 hD rfl rfl rfl (fun _ => q_fieldAddr (a := a4) (off := 0) rfl Tryz.underlying112 rfl rfl ok110 (by decide) rfl) ?_
    refine rp 4 15 hD rfl rfl rfl (fun _ => q_move (v := .pointer (c_1)) rfl rfl) ?_
    refine rp 5 16 hD rfl rfl rfl (fun _ => q_nilCheck (a := a4) rfl (congrArg Value.pointer ha4)) ?_
    refine rp 6 17 hD rfl rfl rfl (fun _ => q_fieldAddr (a := a4) (off := 0) rfl Tryz.underlying112 rfl rfl ok110 (by decide) rfl) ?_
    obtain ⟨x9, hx9, h⟩ := h
    refine rd_read (i := 3) (d := (some 14)) (fun W => (RdAt tSlc (a4.add 0) W) x9) hD (by kernel_rfl) (by kernel_rfl) rfl (.free rfl) rfl (fun W hr => q_load (T := tSlc) (u := x9) (a := (a4.add 0)) rfl ok110 rfl hr) hx9 ?_
    obtain ⟨x10, hx10, h⟩ := h
    refine rd_read (i := 7) (d := (some 18)) (fun W => (RdAt tSlc (a4.add 0) W) x10) hD (by kernel_rfl) (by kernel_rfl) rfl (.free rfl) rfl (fun W hr => q_load (T := tSlc) (u := x10) (a := (a4.add 0)) rfl ok110 rfl hr) hx10 ?_
    refine rp 8 19 hD rfl rfl rfl (fun _ => q_len (s := x10) rfl Tryz.underlying110 rfl) ?_
    refine rp 9 20 hD rfl rfl rfl (fun _ => q_sub (a := (x10.len : Int)) (b := (1 : Int)) rfl rfl rfl) ?_
    obtain ⟨a11, ha11, h⟩ := h
    refine rp 10 21 hD rfl rfl rfl (fun _ => q_indexAddr (s := x9) (k := .i64) (i := (IntKind.i64.wrap ((x10.len : Int) - (1 : Int)))) rfl Tryz.underlying110 ok87 rfl rfl ha11) ?_
    obtain ⟨x12, hx12, h⟩ := h
    refine rd_read (i := 11) (d := (some 22)) (fun W => (RdAt T86 a11 W) x12) hD (by kernel_rfl) (by kernel_rfl) rfl (.free rfl) rfl (fun W hr => q_load (T := T86) (u := x12) (a := a11) rfl ok87 rfl hr) hx12 ?_
    refine rd_one (i := 12) (by kernel_rfl) ?_
    obtain ⟨w13, hw13, hrw13, h⟩ := st_open h
    refine po_skip (d := none) rfl (.free rfl) rfl (q_store (T := T86) (u := x12) (a := a2) rfl ok87 rfl rfl hrw13 hw13) ⟨(hk_wait (by kernel_rfl) (hk_wait (by kernel_rfl) (hk_wait (by kernel_rfl) hk_nil))), ?_⟩
    refine rp 13 3 hD rfl rfl rfl (fun _ => q_assign (v := .bool (true)) rfl rfl) ?_
    refine rd_nil (by kernel_rfl) ?_
    refine wp_ret ?_
    obtain ⟨x14, hx14, h⟩ := h
    exact ret_ok rfl (.cons (.cell (T := T86) (u := x14) (a := a2) ok87 rfl hx14) (.cons (.tmp (v := .bool (true)) rfl) .nil)) ⟨(x14, true), rfl, h⟩

-- moiety/store.is
def F62 (key_1 : Int) (w : World) (R : Bool → World → Prop) : Prop :=
  R ((decide (key_1 ≥ (0 : Int))) && (decide (key_1 < (8192 : Int)))) w
theorem F62_ok {key_1 : Int} {w : World} {R : Bool → World → Prop} (h : F62 key_1 w R) : cl Tryz.prog 62 [.int .i64 (key_1)] tBool w R := by
  unfold F62 at h
  refine calls_start 9 Tryz.func62 rfl rfl (Nat.le_of_ble_eq_true rfl) ?_
  refine wp_seq ?_
  refine wp_text [0] rfl ?_
  refine rv 2 rfl rfl rfl (q_assign (v := .bool (false)) rfl rfl) ?_
  refine ro_nil ?_
  refine wp_seq ?_
  refine wp_text [0, 1, 2, 3, 4, 5, 6] rfl ?_
  refine rv 3 rfl rfl rfl (q_move (v := .int .i64 (key_1)) rfl rfl) ?_
  refine rv 4 rfl rfl rfl (q_geq (a := key_1) (b := (0 : Int)) rfl rfl rfl) ?_
  refine rv 5 rfl rfl rfl (q_move (v := .bool ((decide (key_1 ≥ (0 : Int))))) rfl rfl) ?_
  refine ro_gval (g := (decide (key_1 ≥ (0 : Int)))) (d := (some 6)) rfl (.yes 2 5 true (decide (key_1 ≥ (0 : Int))) rfl rfl rfl rfl) rfl (fun hg => q_move (v := .int .i64 (key_1)) rfl rfl) ?_
  refine ro_gval (g := (decide (key_1 ≥ (0 : Int)))) (d := (some 7)) rfl (.yes 2 5 true (decide (key_1 ≥ (0 : Int))) rfl rfl rfl rfl) rfl (fun hg => q_lss (k := .i64) (a := key_1) (b := (8192 : Int)) rfl (gvb_yes hg) rfl) ?_
  refine rv 8 rfl rfl rfl (q_pickGT (a := (decide (key_1 ≥ (0 : Int)))) (b := (decide (key_1 < (8192 : Int)))) rfl rfl rfl rfl) ?_
  refine rv 2 rfl rfl rfl (q_assign (v := .bool (((decide (key_1 ≥ (0 : Int))) && (decide (key_1 < (8192 : Int)))))) rfl rfl) ?_
  refine ro_nil ?_
  refine wp_ret ?_
  exact ret_ok rfl (.cons (.tmp (v := .bool (((decide (key_1 ≥ (0 : Int))) && (decide (key_1 < (8192 : Int)))))) rfl) .nil) ⟨((decide (key_1 ≥ (0 : Int))) && (decide (key_1 < (8192 : Int)))), rfl, h⟩

-- (*moiety/chain.Chain).Prune
def F63 (c_1 : (Option Addr)) (mark_2 : Int) (w : World) (R : Int → World → Prop) : Prop :=
  if ((decide (mark_2 < (0 : Int))) || (decide (mark_2 > (1125899906842624 : Int)))) = true then (
    R (110 : Int) w
  ) else (
    ex (NC c_1) fun a3 =>
    ex (RdAt (tInt .i64) (a3.add 1) w) fun x4 =>
    st (tInt .i64) (a3.add 1) (max x4 mark_2) w fun w5 =>
    ex (RdAt (tInt .i64) (a3.add 1) w5) fun x6 =>
    cl Tryz.prog 65 [.pointer (c_1), .int .i64 (x6)] (tInt .i64) w5 fun r8 w7 =>
    ex (RdAt tSlc (a3.add 0) w7) fun x9 =>
    mkS 87 T86 16 Z86 (IntKind.i64.wrap ((x9.len : Int) - (max (IntKind.i64.wrap (r8 - (1 : Int))) (0 : Int)))) (IntKind.i64.wrap ((x9.len : Int) - (max (IntKind.i64.wrap (r8 - (1 : Int))) (0 : Int)))) w7 fun r11 w10 =>
    ex (RdAt tSlc (a3.add 0) w10) fun x12 =>
    ex (Sub x12 2 (max (IntKind.i64.wrap (r8 - (1 : Int))) (0 : Int)) ((x12).len : Int) ((x12).cap : Int)) fun s13 =>
    cpy T86 2 r11 s13 w10 fun r15 w14 =>
    ex (Sub r11 2 0 (r11.len : Int) (r11.len : Int)) fun s16 =>
    st tSlc (a3.add 0) s16 w14 fun w17 =>
    R (0 : Int) w17
  )
theorem F63_ok {c_1 : (Option Addr)} {mark_2 : Int} {w : World} {R : Int → World → Prop} (h : F63 c_1 mark_2 w R) : cl Tryz.prog 63 [.pointer (c_1), .int .i64 (mark_2)] (tInt .i64) w R := by
  unfold F63 at h
  refine calls_start 55 Tryz.func63 rfl rfl (Nat.le_of_ble_eq_true rfl) ?_
  refine wp_seq ?_
  refine wp_text [0] rfl ?_
  refine rv 4 rfl rfl rfl (q_assign (v := .int .i64 ((0 : Int))) rfl rfl) ?_
  refine ro_nil ?_
  refine wp_seq ?_
  refine wp_seq ?_
  refine wp_text [0, 1, 2, 3, 4, 5] rfl ?_
  refine rv 7 rfl rfl rfl (q_move (v := .int .i64 (mark_2)) rfl rfl) ?_
  refine rv 8 rfl rfl rfl (q_lss (a := mark_2) (b := (0 : Int)) rfl rfl rfl) ?_
  refine rv 9 rfl rfl rfl (q_move (v := .bool ((decide (mark_2 < (0 : Int))))) rfl rfl) ?_
  refine ro_gval (g := (!(decide (mark_2 < (0 : Int))))) (d := (some 10)) rfl (.no 2 9 true (decide (mark_2 < (0 : Int))) rfl rfl rfl rfl) rfl (fun hg => q_move (v := .int .i64 (mark_2)) rfl rfl) ?_
  refine ro_gval (g := (!(decide (mark_2 < (0 : Int))))) (d := (some 11)) rfl (.no 2 9 true (decide (mark_2 < (0 : Int))) rfl rfl rfl rfl) rfl (fun hg => q_gtr (k := .i64) (a := mark_2) (b := (1125899906842624 : Int)) rfl (gvb_yes hg) rfl) ?_
  refine rv 12 rfl rfl rfl (q_pickGF (a := (decide (mark_2 < (0 : Int)))) (c := (decide (mark_2 > (1125899906842624 : Int)))) rfl rfl rfl rfl) ?_
  refine ro_nil ?_
  refine wp_if (b := ((decide (mark_2 < (0 : Int))) || (decide (mark_2 > (1125899906842624 : Int))))) rfl h (fun hb18 h => ?_) (fun hb18 h => ?_)
  · refine wp_seq ?_
    refine wp_text [0] rfl ?_
    refine rv 4 rfl rfl rfl (q_assign (v := .int .i64 ((110 : Int))) rfl rfl) ?_
    refine ro_nil ?_
    refine wp_ret ?_
    exact ret_ok rfl (.cons (.tmp (v := .int .i64 ((110 : Int))) rfl) .nil) ⟨(110 : Int), rfl, h⟩
  · refine wp_skip ?_
    refine wp_seq ?_
    refine wp_text [0, 1, 2, 3, 4, 5, 6, 7, 8, 9] rfl ?_
    refine rv 13 rfl rfl rfl (q_move (v := .pointer (c_1)) rfl rfl) ?_
    refine rv 14 rfl rfl rfl (q_move (v := .pointer (c_1)) rfl rfl) ?_
    obtain ⟨a3, ha3, h⟩ := h
    refine rv 15 rfl rfl rfl (q_nilCheck (a := a3) rfl (congrArg Value.pointer ha3)) ?_
    refine rv 16 rfl rfl rfl (q_fieldAddr (a := a3) (off := 1) rfl Tryz.underlying112 rfl rfl ok2 (by decide) rfl) ?_
    obtain ⟨x4, hx4, h⟩ := h
    refine rv 17 rfl rfl rfl (q_load (T := (tInt .i64)) (u := x4) (a := (a3.add 1)) rfl ok2 rfl hx4) ?_
    refine rv 18 rfl rfl rfl (q_move (v := .int .i64 (mark_2)) rfl rfl) ?_
    refine rv 19 rfl rfl rfl (q_max (a := x4) (b := mark_2) rfl rfl rfl) ?_
    refine rv 20 rfl rfl rfl (q_nilCheck (a := a3) rfl (congrArg Value.pointer ha3)) ?_
    refine rv 21 rfl rfl rfl (q_fieldAddr (a := a3) (off := 1) rfl Tryz.underlying112 rfl rfl ok2 (by decide) rfl) ?_
    obtain ⟨w5, hw5, hrw5, h⟩ := st_open h
    refine ro_skip (d := none) rfl (.free rfl) rfl (q_store (T := (tInt .i64)) (u := (max x4 mark_2)) (a := (a3.add 1)) rfl ok2 rfl rfl hrw5 hw5) ?_
    refine ro_nil ?_
    refine wp_seq ?_
    refine wp_text [0, 1, 2, 3, 4, 5, 6, 7, 8] rfl ?_
    refine rv 22 rfl rfl rfl (q_move (v := .pointer (c_1)) rfl rfl) ?_
    refine rv 23 rfl rfl rfl (q_move (v := .pointer (c_1)) rfl rfl) ?_
    refine rv 24 rfl rfl rfl (q_nilCheck (a := a3) rfl (congrArg Value.pointer ha3)) ?_
    refine rv 25 rfl rfl rfl (q_fieldAddr (a := a3) (off := 1) rfl Tryz.underlying112 rfl rfl ok2 (by decide) rfl) ?_
    obtain ⟨x6, hx6, h⟩ := h
    refine rv 26 rfl rfl rfl (q_load (T := (tInt .i64)) (u := x6) (a := (a3.add 1)) rfl ok2 rfl hx6) ?_
    refine ro_wp rfl (.free rfl) (wp_cl (d := (some 27)) rfl (q_call (k := 65) (l := [.pointer (c_1), .int .i64 (x6)]) rfl ent65 rfl) h ?_)
    intro r8 w7 h
    refine rv 28 rfl rfl rfl (q_sub (a := r8) (b := (1 : Int)) rfl rfl rfl) ?_
    refine rv 29 rfl rfl rfl (q_max (a := (IntKind.i64.wrap (r8 - (1 : Int)))) (b := (0 : Int)) rfl rfl rfl) ?_
    refine rv 5 rfl rfl rfl (q_assign (v := .int .i64 ((max (IntKind.i64.wrap (r8 - (1 : Int))) (0 : Int)))) rfl rfl) ?_
    refine ro_nil ?_
    refine wp_seq ?_
    refine wp_text [0, 1, 2, 3, 4, 5, 6, 7, 8] rfl ?_
    refine rv 30 rfl rfl rfl (q_move (v := .pointer (c_1)) rfl rfl) ?_
    refine rv 31 rfl rfl rfl (q_nilCheck (a := a3) rfl (congrArg Value.pointer ha3)) ?_
    refine rv 32 rfl rfl rfl (q_fieldAddr (a := a3) (off := 0) rfl Tryz.underlying112 rfl rfl ok110 (by decide) rfl) ?_
    obtain ⟨x9, hx9, h⟩ := h
    refine rv 33 rfl rfl rfl (q_load (T := tSlc) (u := x9) (a := (a3.add 0)) rfl ok110 rfl hx9) ?_
    refine rv 34 rfl rfl rfl (q_len (s := x9) rfl Tryz.underlying110 rfl) ?_
    refine rv 35 rfl rfl rfl (q_move (v := .int .i64 ((max (IntKind.i64.wrap (r8 - (1 : Int))) (0 : Int)))) rfl rfl) ?_
    refine rv 36 rfl rfl rfl (q_sub (a := (x9.len : Int)) (b := (max (IntKind.i64.wrap (r8 - (1 : Int))) (0 : Int))) rfl rfl rfl) ?_
    refine ro_wp rfl (.free rfl) (wp_mkS (T := T86) (z := Z86) (l := (IntKind.i64.wrap ((x9.len : Int) - (max (IntKind.i64.wrap (r8 - (1 : Int))) (0 : Int))))) (c := (IntKind.i64.wrap ((x9.len : Int) - (max (IntKind.i64.wrap (r8 - (1 : Int))) (0 : Int))))) (d := (some 37)) rfl rfl Tryz.underlying110 ok87 inf87 rfl rfl h ?_)
    intro r11 w10 h
    refine rv 6 rfl rfl rfl (q_assign (v := tSlc.enc (r11)) rfl rfl) ?_
    refine ro_nil ?_
    refine wp_seq ?_
    refine wp_text [0, 1, 2, 3, 4, 5, 6, 7] rfl ?_
    refine rv 38 rfl rfl rfl (q_move (v := tSlc.enc (r11)) rfl rfl) ?_
    refine rv 39 rfl rfl rfl (q_move (v := .pointer (c_1)) rfl rfl) ?_
    refine rv 40 rfl rfl rfl (q_nilCheck (a := a3) rfl (congrArg Value.pointer ha3)) ?_
    refine rv 41 rfl rfl rfl (q_fieldAddr (a := a3) (off := 0) rfl Tryz.underlying112 rfl rfl ok110 (by decide) rfl) ?_
    obtain ⟨x12, hx12, h⟩ := h
    refine rv 42 rfl rfl rfl (q_load (T := tSlc) (u := x12) (a := (a3.add 0)) rfl ok110 rfl hx12) ?_
    refine rv 43 rfl rfl rfl (q_move (v := .int .i64 ((max (IntKind.i64.wrap (r8 - (1 : Int))) (0 : Int)))) rfl rfl) ?_
    obtain ⟨s13, hs13, h⟩ := h
    refine rv 44 rfl rfl rfl (q_sliceL (s := x12) (l := (max (IntKind.i64.wrap (r8 - (1 : Int))) (0 : Int))) rfl Tryz.underlying110 ok87 rfl rfl hs13) ?_
    refine ro_wp rfl (.free rfl) (wp_cpy (T := T86) (s := r11) (b := s13) (d := (some 45)) rfl rfl Tryz.underlying110 ok87 rfl rfl h ?_)
    intro r15 w14 h
    refine ro_nil ?_
    refine wp_seq ?_
    refine wp_text [0, 1, 2, 3, 4, 5, 6, 7, 8, 9] rfl ?_
    refine rv 46 rfl rfl rfl (q_move (v := .pointer (c_1)) rfl rfl) ?_
    refine rv 47 rfl rfl rfl (q_move (v := tSlc.enc (r11)) rfl rfl) ?_
    refine rv 48 rfl rfl rfl (q_move (v := tSlc.enc (r11)) rfl rfl) ?_
    refine rv 49 rfl rfl rfl (q_len (s := r11) rfl Tryz.underlying110 rfl) ?_
    refine rv 50 rfl rfl rfl (q_move (v := tSlc.enc (r11)) rfl rfl) ?_
    refine rv 51 rfl rfl rfl (q_len (s := r11) rfl Tryz.underlying110 rfl) ?_
    obtain ⟨s16, hs16, h⟩ := h
    refine rv 52 rfl rfl rfl (q_sliceHM (s := r11) (h := (r11.len : Int)) (m := (r11.len : Int)) rfl Tryz.underlying110 ok87 rfl rfl rfl hs16) ?_
    refine rv 53 rfl rfl rfl (q_nilCheck (a := a3) rfl (congrArg Value.pointer ha3)) ?_
    refine rv 54 rfl rfl rfl (q_fieldAddr (a := a3) (off := 0) rfl Tryz.underlying112 rfl rfl ok110 (by decide) rfl) ?_
    obtain ⟨w17, hw17, hrw17, h⟩ := st_open h
    refine ro_skip (d := none) rfl (.free rfl) rfl (q_store (T := tSlc) (u := s16) (a := (a3.add 0)) rfl ok110 rfl rfl hrw17 hw17) ?_
    refine ro_nil ?_
    refine wp_seq ?_
    refine wp_text [0] rfl ?_
    refine rv 4 rfl rfl rfl (q_assign (v := .int .i64 ((0 : Int))) rfl rfl) ?_
    refine ro_nil ?_
    refine wp_ret ?_
    exact ret_ok rfl (.cons (.tmp (v := .int .i64 ((0 : Int))) rfl) .nil) ⟨(0 : Int), rfl, h⟩

-- (*moiety/chain.Chain).place
def F65 (c_1 : (Option Addr)) (at_2 : Int) (w : World) (R : Int → World → Prop) : Prop :=
  nw 97 tPtr c_1 w fun a3 w4 =>
  nw 2 (tInt .i64) at_2 w4 fun a5 w6 =>
  ex (RdAt tPtr a3 w6) fun x7 =>
  ex (NC x7) fun a8 =>
  ex (RdAt tSlc (a8.add 0) w6) fun x9 =>
  cl Tryz.prog 75 [.int .i64 ((x9.len : Int)), ((Fv.mk (.func 76) (List.toArray []) (List.toArray [.pointer (some a3), .pointer (some a5)]))).enc] (tInt .i64) w6 fun r11 w10 =>
  R r11 w10
theorem F65_ok {c_1 : (Option Addr)} {at_2 : Int} {w : World} {R : Int → World → Prop} (h : F65 c_1 at_2 w R) : cl Tryz.prog 65 [.pointer (c_1), .int .i64 (at_2)] (tInt .i64) w R := by
  unfold F65 at h
  refine calls_start 12 Tryz.func65 rfl rfl (Nat.le_of_ble_eq_true rfl) ?_
  refine wp_seq ?_
  refine wp_text [0, 1, 2] rfl ?_
  obtain ⟨a3, w4, ha3, hw4, h⟩ := nw_open h
  refine rv 2 rfl rfl rfl (q_box (u := c_1) rfl ok97 rfl ha3 hw4) ?_
  obtain ⟨a5, w6, ha5, hw6, h⟩ := nw_open h
  refine rv 3 rfl rfl rfl (q_box (u := at_2) rfl ok2 rfl ha5 hw6) ?_
  refine rv 4 rfl rfl rfl (q_assign (v := .int .i64 ((0 : Int))) rfl rfl) ?_
  refine ro_nil ?_
  refine wp_seq ?_
  refine wp_text [0, 1, 2, 3, 4, 5, 6, 7] rfl ?_
  obtain ⟨x7, hx7, h⟩ := h
  refine rv 5 rfl rfl rfl (q_load (T := tPtr) (u := x7) (a := a3) rfl ok97 rfl hx7) ?_
  obtain ⟨a8, ha8, h⟩ := h
  refine rv 6 rfl rfl rfl (q_nilCheck (a := a8) rfl (congrArg Value.pointer ha8)) ?_
  refine rv 7 rfl rfl rfl (q_fieldAddr (a := a8) (off := 0) rfl Tryz.underlying112 rfl rfl ok110 (by decide) rfl) ?_
  obtain ⟨x9, hx9, h⟩ := h
  refine rv 8 rfl rfl rfl (q_load (T := tSlc) (u := x9) (a := (a8.add 0)) rfl ok110 rfl hx9) ?_
  refine rv 9 rfl rfl rfl (q_len (s := x9) rfl Tryz.underlying110 rfl) ?_
  refine rv 10 rfl rfl rfl (q_makeFunc (fn := .func 76) (va := []) (vc := [.pointer (some a3), .pointer (some a5)]) rfl rfl rfl) ?_
  refine ro_wp rfl (.free rfl) (wp_cl (d := (some 11)) rfl (q_call (k := 75) (l := [.int .i64 ((x9.len : Int)), ((Fv.mk (.func 76) (List.toArray []) (List.toArray [.pointer (some a3), .pointer (some a5)]))).enc]) rfl ent75 rfl) h ?_)
  intro r11 w10 h
  refine rv 4 rfl rfl rfl (q_assign (v := .int .i64 (r11)) rfl rfl) ?_
  refine ro_nil ?_
  refine wp_ret ?_
  exact ret_ok rfl (.cons (.tmp (v := .int .i64 (r11)) rfl) .nil) ⟨r11, rfl, h⟩

-- (*moiety/store.Store).full
def F66_j1 (t_6 : Bool) (w7 : World) (R : Bool → World → Prop) : Prop :=
  R t_6 w7
def F66 (s_1 : (Option Addr)) (key_2 : Int) (w : World) (R : Bool → World → Prop) : Prop :=
  ex (NC s_1) fun a3 =>
  ex (RdAt tMap (a3.add 0) w) fun x4 =>
  ex (MapGet tPtr .i64 x4 key_2 w) fun m5 =>
  if ((m5.getD (none : Option Addr), m5.isSome)).2 = true then (
    cl Tryz.prog 77 [.pointer (((m5.getD (none : Option Addr), m5.isSome)).1)] tSlc w fun r10 w9 =>
    F66_j1 (decide ((r10.len : Int) ≥ (10000 : Int))) w9 R
  ) else (
    F66_j1 false w R
  )
theorem F66_ok {s_1 : (Option Addr)} {key_2 : Int} {w : World} {R : Bool → World → Prop} (h : F66 s_1 key_2 w R) : cl Tryz.prog 66 [.pointer (s_1), .int .i64 (key_2)] tBool w R := by
  unfold F66 at h
  refine calls_start 23 Tryz.func66 rfl rfl (Nat.le_of_ble_eq_true rfl) ?_
  refine wp_seq ?_
  refine wp_text [0] rfl ?_
  refine rv 4 rfl rfl rfl (q_assign (v := .bool (false)) rfl rfl) ?_
  refine ro_nil ?_
  refine wp_seq ?_
  refine wp_text [0, 1, 2, 3, 4, 5, 6, 7, 8, 9, 10] rfl ?_
  refine rv 8 rfl rfl rfl (q_move (v := .pointer (s_1)) rfl rfl) ?_
  obtain ⟨a3, ha3, h⟩ := h
  refine rv 9 rfl rfl rfl (q_nilCheck (a := a3) rfl (congrArg Value.pointer ha3)) ?_
  refine rv 10 rfl rfl rfl (q_fieldAddr (a := a3) (off := 0) rfl Tryz.underlying95 rfl rfl ok93 (by decide) rfl) ?_
  obtain ⟨x4, hx4, h⟩ := h
  refine rv 11 rfl rfl rfl (q_load (T := tMap) (u := x4) (a := (a3.add 0)) rfl ok93 rfl hx4) ?_
  refine rv 12 rfl rfl rfl (q_move (v := .int .i64 (key_2)) rfl rfl) ?_
  obtain ⟨m5, hm5, h⟩ := h
  refine rv 13 rfl rfl rfl (q_lookup2 (T := tPtr) (r := x4) (key := key_2) (u := m5) (z := (none : Option Addr)) rfl Tryz.underlying93 Tryz.underlying3 (inf97) rfl rfl hm5) ?_
  refine rv 7 rfl rfl rfl (q_move (v := (tTup2 tPtr tBool).enc (((m5.getD (none : Option Addr), m5.isSome)))) rfl rfl) ?_
  refine rv 14 rfl rfl rfl (q_extract (vs := #[.pointer (((m5.getD (none : Option Addr), m5.isSome)).1), .bool (((m5.getD (none : Option Addr), m5.isSome)).2)]) (v := .pointer (((m5.getD (none : Option Addr), m5.isSome)).1)) rfl rfl rfl) ?_
  refine rv 15 rfl rfl rfl (q_extract (vs := #[.pointer (((m5.getD (none : Option Addr), m5.isSome)).1), .bool (((m5.getD (none : Option Addr), m5.isSome)).2)]) (v := .bool (((m5.getD (none : Option Addr), m5.isSome)).2)) rfl rfl rfl) ?_
  refine rv 5 rfl rfl rfl (q_assign (v := .pointer (((m5.getD (none : Option Addr), m5.isSome)).1)) rfl rfl) ?_
  refine rv 6 rfl rfl rfl (q_assign (v := .bool (((m5.getD (none : Option Addr), m5.isSome)).2)) rfl rfl) ?_
  refine ro_nil ?_
  refine wp_seq ?_
  refine wp_text [0, 1, 2, 3, 4, 5, 6, 7] rfl ?_
  refine rv 16 rfl rfl rfl (q_move (v := .bool (((m5.getD (none : Option Addr), m5.isSome)).2)) rfl rfl) ?_
  refine rv 17 rfl rfl rfl (q_move (v := .bool (((m5.getD (none : Option Addr), m5.isSome)).2)) rfl rfl) ?_
  refine ro_join (σ := Bool) (J := fun (s : Bool) w => F66_j1 s w R) (fr := fun g (s : Bool) => upd (g) 22 (.bool (s))) [2, 3, 4, 5, 6] [7] ?_ ?_
  · rintro t_6 g w7 h
    unfold F66_j1 at h
    refine rv 4 rfl rfl rfl (q_assign (v := .bool (t_6)) rfl rfl) ?_
    refine ro_nil ?_
    refine wp_ret ?_
    exact ret_ok rfl (.cons (.tmp (v := .bool (t_6)) rfl) .nil) ⟨t_6, rfl, h⟩
  · refine ro_if (b := ((m5.getD (none : Option Addr), m5.isSome)).2) h (fun hb8 h => ?_) (fun hb8 h => ?_)
    · refine ro_val (d := (some 18)) rfl (.by_ 1 true 17 (((m5.getD (none : Option Addr), m5.isSome)).2) rfl rfl rfl hb8) rfl (q_move (v := .pointer (((m5.getD (none : Option Addr), m5.isSome)).1)) rfl rfl) ?_
      refine ro_wp rfl (.by_ 1 true 17 (((m5.getD (none : Option Addr), m5.isSome)).2) rfl rfl rfl hb8) (wp_cl (d := (some 19)) rfl (q_call (k := 77) (l := [.pointer (((m5.getD (none : Option Addr), m5.isSome)).1)]) rfl ent77 rfl) h ?_)
      intro r10 w9 h
      refine ro_val (d := (some 20)) rfl (.by_ 1 true 17 (((m5.getD (none : Option Addr), m5.isSome)).2) rfl rfl rfl hb8) rfl (q_len (s := r10) rfl Tryz.underlying110 rfl) ?_
      refine ro_val (d := (some 21)) rfl (.by_ 1 true 17 (((m5.getD (none : Option Addr), m5.isSome)).2) rfl rfl rfl hb8) rfl (q_geq (a := (r10.len : Int)) (b := (10000 : Int)) rfl rfl rfl) ?_
      refine rv 22 rfl rfl rfl (q_pickT (v := .bool ((decide ((r10.len : Int) ≥ (10000 : Int))))) (b := ((m5.getD (none : Option Addr), m5.isSome)).2) rfl rfl hb8 rfl) ?_
      refine ro_nil ?_
      exact ⟨((decide ((r10.len : Int) ≥ (10000 : Int)))), _, arr (upd_step rfl rfl), h⟩
    · refine ro_bar (d := (some 18)) rfl (.by_ 1 true 17 (((m5.getD (none : Option Addr), m5.isSome)).2) rfl rfl rfl hb8) rfl ?_
      refine ro_bar (d := (some 19)) rfl (.by_ 1 true 17 (((m5.getD (none : Option Addr), m5.isSome)).2) rfl rfl rfl hb8) rfl ?_
      refine ro_bar (d := (some 20)) rfl (.by_ 1 true 17 (((m5.getD (none : Option Addr), m5.isSome)).2) rfl rfl rfl hb8) rfl ?_
      refine ro_bar (d := (some 21)) rfl (.by_ 1 true 17 (((m5.getD (none : Option Addr), m5.isSome)).2) rfl rfl rfl hb8) rfl ?_
      refine rv 22 rfl rfl rfl (q_pickF (v := .bool (false)) (b := ((m5.getD (none : Option Addr), m5.isSome)).2) rfl rfl hb8 rfl) ?_
      refine ro_nil ?_
      exact ⟨(false), _, arr (upd_step rfl rfl), h⟩

-- moiety/amount.Total
def F70_j2 (t_3 : Int) (sum_6 : Int) (w7 : World) (K5 : Int × Int → World → Prop) (R : (Int × Int) → World → Prop) : Prop :=
  K5 (sum_6, (IntKind.i64.wrap (t_3 + (1 : Int)))) w7
def F70_l1 (l_1 : Slc) (sum_2 : Int) (t_3 : Int) (w4 : World) (K5 : Int × Int → World → Prop) (R : (Int × Int) → World → Prop) : Prop :=
  if (decide (t_3 < (l_1.len : Int))) = true then (
    ex (IxA l_1 1 t_3) fun a8 =>
    ex (RdAt (tInt .i64) a8 w4) fun x9 =>
    cl Tryz.prog 44 [.int .i64 (x9)] (tInt .i64) w4 fun r11 w10 =>
    if (r11 != (0 : Int)) = true then (
      R ((0 : Int), (40 : Int)) w10
    ) else (
      if (decide (sum_2 ≤ (1000000000000000 : Int))) = true then (
        F70_j2 t_3 (IntKind.i64.wrap (sum_2 + x9)) w10 K5 R
      ) else (
        F70_j2 t_3 sum_2 w10 K5 R
      )
    )
  ) else (
    cl Tryz.prog 44 [.int .i64 (sum_2)] (tInt .i64) w4 fun r15 w14 =>
    if (r15 != (0 : Int)) = true then (
      R ((0 : Int), (40 : Int)) w14
    ) else (
      R (sum_2, (0 : Int)) w14
    )
  )
def F70 (l_1 : Slc) (w : World) (R : (Int × Int) → World → Prop) : Prop :=
  lp (fun (s : Int × Int) w K => F70_l1 l_1 s.1 s.2 w K R) ((0 : Int), (0 : Int)) w
theorem F70_ok {l_1 : Slc} {w : World} {R : (Int × Int) → World → Prop} (h : F70 l_1 w R) : cl Tryz.prog 70 [tSlc.enc (l_1)] (tTup2 (tInt .i64) (tInt .i64)) w R := by
  unfold F70 at h
  refine calls_start 26 Tryz.func70 rfl rfl (Nat.le_of_ble_eq_true rfl) ?_
  refine wp_seq ?_
  refine wp_text [0, 1] rfl ?_
  refine rv 2 rfl rfl rfl (q_assign (v := .int .i64 ((0 : Int))) rfl rfl) ?_
  refine rv 3 rfl rfl rfl (q_assign (v := .int .i64 ((0 : Int))) rfl rfl) ?_
  refine ro_nil ?_
  refine wp_seq ?_
  refine wp_text [0] rfl ?_
  refine rv 4 rfl rfl rfl (q_assign (v := .int .i64 ((0 : Int))) rfl rfl) ?_
  refine ro_nil ?_
  refine wp_seq ?_
  refine wp_seq ?_
  refine wp_text [0, 1, 2] rfl ?_
  refine rv 7 rfl rfl rfl (q_move (v := tSlc.enc (l_1)) rfl rfl) ?_
  refine rv 8 rfl rfl rfl (q_len (s := l_1) rfl Tryz.underlying138 rfl) ?_
  refine rv 9 rfl rfl rfl (q_move (v := .int .i64 ((0 : Int))) rfl rfl) ?_
  refine ro_nil ?_
  refine wp_block ?_
  refine loop_at (σ := Int × Int) (fr := fun g (s : Int × Int) => upd (upd (upd (upd (g) 7 (tSlc.enc (l_1))) 8 (.int .i64 ((l_1.len : Int)))) 4 (.int .i64 (s.1))) 9 (.int .i64 (s.2))) (s0 := ((0 : Int), (0 : Int))) (upd_step (upd_step (upd_step (upd_step rfl rfl) rfl) rfl) rfl) h ?_
  rintro ⟨sum_2, t_3⟩ g w4 K5 h
  unfold F70_l1 at h
  refine wp_seq ?_
  refine wp_text [0] rfl ?_
  refine rv 10 rfl rfl rfl (q_lss (a := t_3) (b := (l_1.len : Int)) rfl rfl rfl) ?_
  refine ro_nil ?_
  refine wp_seq ?_
  refine wp_if (b := (decide (t_3 < (l_1.len : Int)))) rfl h (fun hb17 h => ?_) (fun hb17 h => ?_)
  · refine wp_skip ?_
    refine seq_join (σ := Int) (J := fun (s : Int) w => F70_j2 t_3 s w K5 R) (fr := fun g (s : Int) => upd (upd (upd (upd (g) 7 (tSlc.enc (l_1))) 8 (.int .i64 ((l_1.len : Int)))) 9 (.int .i64 (t_3))) 4 (.int .i64 (s))) ?_ ?_
    · rintro sum_6 g w7 h
      unfold F70_j2 at h
      refine wp_text [0, 1] rfl ?_
      refine rv 21 rfl rfl rfl (q_add (a := t_3) (b := (1 : Int)) rfl rfl rfl) ?_
      refine rv 9 rfl rfl rfl (q_move (v := .int .i64 ((IntKind.i64.wrap (t_3 + (1 : Int))))) rfl rfl) ?_
      refine ro_nil ?_
      exact ⟨(sum_6, (IntKind.i64.wrap (t_3 + (1 : Int)))), _, arr (upd_step (upd_step (upd_step (upd_step rfl rfl) rfl) rfl) rfl), h⟩
    · refine wp_block ?_
      refine wp_seq ?_
      refine wp_text [0, 1, 2] rfl ?_
      obtain ⟨a8, ha8, h⟩ := h
      refine rv 11 rfl rfl rfl (q_indexAddr (s := l_1) (k := .i64) (i := t_3) rfl Tryz.underlying138 ok2 rfl rfl ha8) ?_
      obtain ⟨x9, hx9, h⟩ := h
      refine rv 12 rfl rfl rfl (q_load (T := (tInt .i64)) (u := x9) (a := a8) rfl ok2 rfl hx9) ?_
      refine rv 6 rfl rfl rfl (q_assign (v := .int .i64 (x9)) rfl rfl) ?_
      refine ro_nil ?_
      refine wp_seq ?_
      refine wp_seq ?_
      refine wp_text [0, 1, 2] rfl ?_
      refine rv 13 rfl rfl rfl (q_move (v := .int .i64 (x9)) rfl rfl) ?_
      refine ro_wp rfl (.free rfl) (wp_cl (d := (some 14)) rfl (q_call (k := 44) (l := [.int .i64 (x9)]) rfl ent44 rfl) h ?_)
      intro r11 w10 h
      refine rv 15 rfl rfl rfl (q_neq (a := r11) (b := (0 : Int)) rfl rfl rfl) ?_
      refine ro_nil ?_
      refine wp_if (b := (r11 != (0 : Int))) rfl h (fun hb13 h => ?_) (fun hb13 h => ?_)
      · refine wp_seq ?_
        refine wp_text [0, 1] rfl ?_
        refine rv 2 rfl rfl rfl (q_assign (v := .int .i64 ((0 : Int))) rfl rfl) ?_
        refine rv 3 rfl rfl rfl (q_assign (v := .int .i64 ((40 : Int))) rfl rfl) ?_
        refine ro_nil ?_
        refine wp_ret ?_
        exact ret_ok rfl (.cons (.tmp (v := .int .i64 ((0 : Int))) rfl) (.cons (.tmp (v := .int .i64 ((40 : Int))) rfl) .nil)) ⟨((0 : Int), (40 : Int)), rfl, h⟩
      · refine wp_skip ?_
        refine wp_seq ?_
        refine wp_text [0, 1] rfl ?_
        refine rv 16 rfl rfl rfl (q_move (v := .int .i64 (sum_2)) rfl rfl) ?_
        refine rv 17 rfl rfl rfl (q_leq (a := sum_2) (b := (1000000000000000 : Int)) rfl rfl rfl) ?_
        refine ro_nil ?_
        refine wp_if (b := (decide (sum_2 ≤ (1000000000000000 : Int)))) rfl h (fun hb12 h => ?_) (fun hb12 h => ?_)
        · refine wp_text [0, 1, 2, 3] rfl ?_
          refine rv 18 rfl rfl rfl (q_move (v := .int .i64 (sum_2)) rfl rfl) ?_
          refine rv 19 rfl rfl rfl (q_move (v := .int .i64 (x9)) rfl rfl) ?_
          refine rv 20 rfl rfl rfl (q_add (a := sum_2) (b := x9) rfl rfl rfl) ?_
          refine rv 4 rfl rfl rfl (q_assign (v := .int .i64 ((IntKind.i64.wrap (sum_2 + x9)))) rfl rfl) ?_
          refine ro_nil ?_
          exact ⟨((IntKind.i64.wrap (sum_2 + x9))), _, arr (upd_step (upd_step (upd_step (upd_step rfl rfl) rfl) rfl) rfl), h⟩
        · refine wp_skip ?_
          exact ⟨(sum_2), _, arr (upd_step (upd_step (upd_step (upd_step rfl rfl) rfl) rfl) rfl), h⟩
  · refine wp_exit ?_
    refine wp_seq ?_
    refine wp_seq ?_
    refine wp_text [0, 1, 2] rfl ?_
    refine rv 22 rfl rfl rfl (q_move (v := .int .i64 (sum_2)) rfl rfl) ?_
    refine ro_wp rfl (.free rfl) (wp_cl (d := (some 23)) rfl (q_call (k := 44) (l := [.int .i64 (sum_2)]) rfl ent44 rfl) h ?_)
    intro r15 w14 h
    refine rv 24 rfl rfl rfl (q_neq (a := r15) (b := (0 : Int)) rfl rfl rfl) ?_
    refine ro_nil ?_
    refine wp_if (b := (r15 != (0 : Int))) rfl h (fun hb16 h => ?_) (fun hb16 h => ?_)
    · refine wp_seq ?_
      refine wp_text [0, 1] rfl ?_
      refine rv 2 rfl rfl rfl (q_assign (v := .int .i64 ((0 : Int))) rfl rfl) ?_
      refine rv 3 rfl rfl rfl (q_assign (v := .int .i64 ((40 : Int))) rfl rfl) ?_
      refine ro_nil ?_
      refine wp_ret ?_
      exact ret_ok rfl (.cons (.tmp (v := .int .i64 ((0 : Int))) rfl) (.cons (.tmp (v := .int .i64 ((40 : Int))) rfl) .nil)) ⟨((0 : Int), (40 : Int)), rfl, h⟩
    · refine wp_skip ?_
      refine wp_seq ?_
      refine wp_text [0, 1, 2] rfl ?_
      refine rv 25 rfl rfl rfl (q_move (v := .int .i64 (sum_2)) rfl rfl) ?_
      refine rv 2 rfl rfl rfl (q_assign (v := .int .i64 (sum_2)) rfl rfl) ?_
      refine rv 3 rfl rfl rfl (q_assign (v := .int .i64 ((0 : Int))) rfl rfl) ?_
      refine ro_nil ?_
      refine wp_ret ?_
      exact ret_ok rfl (.cons (.tmp (v := .int .i64 (sum_2)) rfl) (.cons (.tmp (v := .int .i64 ((0 : Int))) rfl) .nil)) ⟨(sum_2, (0 : Int)), rfl, h⟩

end Go.Proofs.YtpdaapffkdejoaaGreat.Cf
