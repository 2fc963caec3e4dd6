/- Characteristic formulae of Go functions, and that they are. Printed by gen.py (own tool). -/
import Derived.Test.YtjhenlajkhckfaaTy
namespace Go.Proofs.Ytjhenlajkhckfaa.Cf
open Go
set_option maxRecDepth 100000
set_option maxHeartbeats 1000000
set_option linter.unusedVariables false
set_option linter.unusedSimpArgs false

-- moiety/num.Class
def F36 (f_1 : Nat) (w : World) (R : Int → World → Prop) : Prop :=
  if (fcmp .neq f_1 f_1) = true then (
    R (0 : Int) w
  ) else (
    if ((f_1 : Int) == (0 : Int)) = true then (
      R (4 : Int) w
    ) else (
      if ((f_1 : Int) == (9223372036854775808 : Int)) = true then (
        R (3 : Int) w
      ) else (
        cl Try.prog 39 [.float .f64 (f_1), .int .i64 ((-1 : Int))] tBool w fun r3 w2 =>
        if r3 = true then (
          R (1 : Int) w2
        ) else (
          cl Try.prog 39 [.float .f64 (f_1), .int .i64 ((1 : Int))] tBool w2 fun r5 w4 =>
          if r5 = true then (
            R (6 : Int) w4
          ) else (
            if (fcmp .lss f_1 (0 : Nat)) = true then (
              R (2 : Int) w4
            ) else (
              R (5 : Int) w4
            )
          )
        )
      )
    )
  )
theorem F36_ok {f_1 : Nat} {w : World} {R : Int → World → Prop} (h : F36 f_1 w R) : cl Try.prog 36 [.float .f64 (f_1)] (tInt .i64) w R := by
  unfold F36 at h
  refine calls_start 25 Try.func36 rfl rfl (Nat.le_of_ble_eq_true rfl) ?_
  refine wp_seq ?_
  refine wp_text [0] rfl ?_
  refine ro_val (d := (some 2)) rfl (.free rfl) rfl (q_assign (v := .int .i64 ((0 : Int))) rfl rfl) ?_
  refine ro_nil ?_
  refine wp_seq ?_
  refine wp_text [0, 1, 2] rfl ?_
  refine ro_val (d := (some 4)) rfl (.free rfl) rfl (q_move (v := .float .f64 (f_1)) rfl rfl) ?_
  refine ro_val (d := (some 5)) rfl (.free rfl) rfl (q_f64bits (b := f_1) rfl ext23 rfl) ?_
  refine ro_val (d := (some 3)) rfl (.free rfl) rfl (q_assign (v := .int .u64 ((f_1 : Int))) rfl rfl) ?_
  refine ro_nil ?_
  refine wp_seq ?_
  refine wp_block ?_
  refine wp_seq ?_
  refine wp_text [0, 1, 2, 3] rfl ?_
  refine ro_val (d := (some 7)) rfl (.free rfl) rfl (q_move (v := .float .f64 (f_1)) rfl rfl) ?_
  refine ro_val (d := (some 8)) rfl (.free rfl) rfl (q_move (v := .float .f64 (f_1)) rfl rfl) ?_
  refine ro_val (d := (some 9)) rfl (.free rfl) rfl (q_fcmp (op := .neq) (a := f_1) (b := f_1) rfl (by decide) rfl rfl) ?_
  refine ro_val (d := (some 6)) rfl (.free rfl) rfl (q_assign (v := .bool ((fcmp .neq f_1 f_1))) rfl rfl) ?_
  refine ro_nil ?_
  refine wp_if (b := (fcmp .neq f_1 f_1)) rfl h (fun hb11 h => ?_) (fun hb11 h => ?_)
  · refine wp_seq ?_
    refine wp_text [0] rfl ?_
    refine ro_val (d := (some 2)) rfl (.free rfl) rfl (q_assign (v := .int .i64 ((0 : Int))) rfl rfl) ?_
    refine ro_nil ?_
    refine wp_ret ?_
    exact ret_ok rfl (.cons (.tmp (v := .int .i64 ((0 : Int))) rfl) .nil) ⟨(0 : Int), rfl, h⟩
  · refine wp_seq ?_
    refine wp_text [0, 1, 2] rfl ?_
    refine ro_val (d := (some 11)) rfl (.free rfl) rfl (q_move (v := .int .u64 ((f_1 : Int))) rfl rfl) ?_
    refine ro_val (d := (some 12)) rfl (.free rfl) rfl (q_eql (a := (f_1 : Int)) (b := (0 : Int)) rfl rfl rfl) ?_
    refine ro_val (d := (some 10)) rfl (.free rfl) rfl (q_assign (v := .bool (((f_1 : Int) == (0 : Int)))) rfl rfl) ?_
    refine ro_nil ?_
    refine wp_if (b := ((f_1 : Int) == (0 : Int))) rfl h (fun hb10 h => ?_) (fun hb10 h => ?_)
    · refine wp_seq ?_
      refine wp_text [0] rfl ?_
      refine ro_val (d := (some 2)) rfl (.free rfl) rfl (q_assign (v := .int .i64 ((4 : Int))) rfl rfl) ?_
      refine ro_nil ?_
      refine wp_ret ?_
      exact ret_ok rfl (.cons (.tmp (v := .int .i64 ((4 : Int))) rfl) .nil) ⟨(4 : Int), rfl, h⟩
    · refine wp_seq ?_
      refine wp_text [0, 1, 2] rfl ?_
      refine ro_val (d := (some 14)) rfl (.free rfl) rfl (q_move (v := .int .u64 ((f_1 : Int))) rfl rfl) ?_
      refine ro_val (d := (some 15)) rfl (.free rfl) rfl (q_eql (a := (f_1 : Int)) (b := (9223372036854775808 : Int)) rfl rfl rfl) ?_
      refine ro_val (d := (some 13)) rfl (.free rfl) rfl (q_assign (v := .bool (((f_1 : Int) == (9223372036854775808 : Int)))) rfl rfl) ?_
      refine ro_nil ?_
      refine wp_if (b := ((f_1 : Int) == (9223372036854775808 : Int))) rfl h (fun hb9 h => ?_) (fun hb9 h => ?_)
      · refine wp_seq ?_
        refine wp_text [0] rfl ?_
        refine ro_val (d := (some 2)) rfl (.free rfl) rfl (q_assign (v := .int .i64 ((3 : Int))) rfl rfl) ?_
        refine ro_nil ?_
        refine wp_ret ?_
        exact ret_ok rfl (.cons (.tmp (v := .int .i64 ((3 : Int))) rfl) .nil) ⟨(3 : Int), rfl, h⟩
      · refine wp_seq ?_
        refine wp_text [0, 1, 2] rfl ?_
        refine ro_val (d := (some 17)) rfl (.free rfl) rfl (q_move (v := .float .f64 (f_1)) rfl rfl) ?_
        refine ro_wp rfl (.free rfl) (wp_cl (d := (some 18)) rfl (q_call (k := 39) (l := [.float .f64 (f_1), .int .i64 ((-1 : Int))]) rfl ent39 rfl) h ?_)
        intro r3 w2 h
        refine ro_val (d := (some 16)) rfl (.free rfl) rfl (q_assign (v := .bool (r3)) rfl rfl) ?_
        refine ro_nil ?_
        refine wp_if (b := r3) rfl h (fun hb8 h => ?_) (fun hb8 h => ?_)
        · refine wp_seq ?_
          refine wp_text [0] rfl ?_
          refine ro_val (d := (some 2)) rfl (.free rfl) rfl (q_assign (v := .int .i64 ((1 : Int))) rfl rfl) ?_
          refine ro_nil ?_
          refine wp_ret ?_
          exact ret_ok rfl (.cons (.tmp (v := .int .i64 ((1 : Int))) rfl) .nil) ⟨(1 : Int), rfl, h⟩
        · refine wp_seq ?_
          refine wp_text [0, 1, 2] rfl ?_
          refine ro_val (d := (some 20)) rfl (.free rfl) rfl (q_move (v := .float .f64 (f_1)) rfl rfl) ?_
          refine ro_wp rfl (.free rfl) (wp_cl (d := (some 21)) rfl (q_call (k := 39) (l := [.float .f64 (f_1), .int .i64 ((1 : Int))]) rfl ent39 rfl) h ?_)
          intro r5 w4 h
          refine ro_val (d := (some 19)) rfl (.free rfl) rfl (q_assign (v := .bool (r5)) rfl rfl) ?_
          refine ro_nil ?_
          refine wp_if (b := r5) rfl h (fun hb7 h => ?_) (fun hb7 h => ?_)
          · refine wp_seq ?_
            refine wp_text [0] rfl ?_
            refine ro_val (d := (some 2)) rfl (.free rfl) rfl (q_assign (v := .int .i64 ((6 : Int))) rfl rfl) ?_
            refine ro_nil ?_
            refine wp_ret ?_
            exact ret_ok rfl (.cons (.tmp (v := .int .i64 ((6 : Int))) rfl) .nil) ⟨(6 : Int), rfl, h⟩
          · refine wp_seq ?_
            refine wp_text [0, 1, 2] rfl ?_
            refine ro_val (d := (some 23)) rfl (.free rfl) rfl (q_move (v := .float .f64 (f_1)) rfl rfl) ?_
            refine ro_val (d := (some 24)) rfl (.free rfl) rfl (q_fcmp (op := .lss) (a := f_1) (b := (0 : Nat)) rfl (by decide) rfl rfl) ?_
            refine ro_val (d := (some 22)) rfl (.free rfl) rfl (q_assign (v := .bool ((fcmp .lss f_1 (0 : Nat)))) rfl rfl) ?_
            refine ro_nil ?_
            refine wp_if (b := (fcmp .lss f_1 (0 : Nat))) rfl h (fun hb6 h => ?_) (fun hb6 h => ?_)
            · refine wp_seq ?_
              refine wp_text [0] rfl ?_
              refine ro_val (d := (some 2)) rfl (.free rfl) rfl (q_assign (v := .int .i64 ((2 : Int))) rfl rfl) ?_
              refine ro_nil ?_
              refine wp_ret ?_
              exact ret_ok rfl (.cons (.tmp (v := .int .i64 ((2 : Int))) rfl) .nil) ⟨(2 : Int), rfl, h⟩
            · refine wp_skip ?_
              refine wp_seq ?_
              refine wp_text [0] rfl ?_
              refine ro_val (d := (some 2)) rfl (.free rfl) rfl (q_assign (v := .int .i64 ((5 : Int))) rfl rfl) ?_
              refine ro_nil ?_
              refine wp_ret ?_
              exact ret_ok rfl (.cons (.tmp (v := .int .i64 ((5 : Int))) rfl) .nil) ⟨(5 : Int), rfl, h⟩

-- moiety/num.Of
def F37_j1 (b_2 : Int) (w3 : World) (R : (Nat × Bool) → World → Prop) : Prop :=
  if (fcmp .neq (Int.toNat b_2) (Int.toNat b_2)) = true then (
    R ((0 : Nat), false) w3
  ) else (
    R ((Int.toNat b_2), true) w3
  )
def F37 (k_1 : Int) (w : World) (R : (Nat × Bool) → World → Prop) : Prop :=
  if (k_1 == (0 : Int)) = true then (
    R ((Int.toNat (9221120237041090561 : Int)), true) w
  ) else (
    ex (Shift (63 : Int) (Int.fdiv k_1 (2 ^ (min ((63 : Int)).toNat IntKind.u64.bits)))) fun d5 =>
    if (d5 == (1 : Int)) = true then (
      F37_j1 (bits .andNot .u64 k_1 (9223372036854775808 : Int)) w R
    ) else (
      F37_j1 (bits .xor .u64 IntKind.u64.max k_1) w R
    )
  )
theorem F37_ok {k_1 : Int} {w : World} {R : (Nat × Bool) → World → Prop} (h : F37 k_1 w R) : cl Try.prog 37 [.int .u64 (k_1)] (tTup2 tFlt tBool) w R := by
  unfold F37 at h
  refine calls_start 22 Try.func37 rfl rfl (Nat.le_of_ble_eq_true rfl) ?_
  refine wp_seq ?_
  refine wp_text [0, 1] rfl ?_
  refine ro_val (d := (some 2)) rfl (.free rfl) rfl (q_assign (v := .float .f64 ((0 : Nat))) rfl rfl) ?_
  refine ro_val (d := (some 3)) rfl (.free rfl) rfl (q_assign (v := .bool (false)) rfl rfl) ?_
  refine ro_nil ?_
  refine wp_seq ?_
  refine wp_seq ?_
  refine wp_text [0, 1] rfl ?_
  refine ro_val (d := (some 6)) rfl (.free rfl) rfl (q_move (v := .int .u64 (k_1)) rfl rfl) ?_
  refine ro_val (d := (some 7)) rfl (.free rfl) rfl (q_eql (a := k_1) (b := (0 : Int)) rfl rfl rfl) ?_
  refine ro_nil ?_
  refine wp_if (b := (k_1 == (0 : Int))) rfl h (fun hb7 h => ?_) (fun hb7 h => ?_)
  · refine wp_seq ?_
    refine wp_text [0, 1, 2] rfl ?_
    refine ro_val (d := (some 8)) rfl (.free rfl) rfl (q_f64from (b := (9221120237041090561 : Int)) rfl ext38 rfl) ?_
    refine ro_val (d := (some 2)) rfl (.free rfl) rfl (q_assign (v := .float .f64 ((Int.toNat (9221120237041090561 : Int)))) rfl rfl) ?_
    refine ro_val (d := (some 3)) rfl (.free rfl) rfl (q_assign (v := .bool (true)) rfl rfl) ?_
    refine ro_nil ?_
    refine wp_ret ?_
    exact ret_ok rfl (.cons (.tmp (v := .float .f64 ((Int.toNat (9221120237041090561 : Int)))) rfl) (.cons (.tmp (v := .bool (true)) rfl) .nil)) ⟨((Int.toNat (9221120237041090561 : Int)), true), rfl, h⟩
  · refine wp_skip ?_
    refine wp_seq ?_
    refine wp_text [0, 1, 2] rfl ?_
    refine ro_val (d := (some 9)) rfl (.free rfl) rfl (q_move (v := .int .u64 (k_1)) rfl rfl) ?_
    refine ro_val (d := (some 10)) rfl (.free rfl) rfl (q_notU (a := k_1) rfl rfl rfl) ?_
    refine ro_val (d := (some 4)) rfl (.free rfl) rfl (q_assign (v := .int .u64 ((bits .xor .u64 IntKind.u64.max k_1))) rfl rfl) ?_
    refine ro_nil ?_
    refine seq_join (σ := Int) (J := fun (s : Int) w => F37_j1 s w R) (fr := fun g (s : Int) => upd (g) 4 (.int .u64 (s))) ?_ ?_
    · rintro b_2 g w3 h
      unfold F37_j1 at h
      refine wp_seq ?_
      refine wp_text [0, 1, 2] rfl ?_
      refine ro_val (d := (some 16)) rfl (.free rfl) rfl (q_move (v := .int .u64 (b_2)) rfl rfl) ?_
      refine ro_val (d := (some 17)) rfl (.free rfl) rfl (q_f64from (b := b_2) rfl ext38 rfl) ?_
      refine ro_val (d := (some 5)) rfl (.free rfl) rfl (q_assign (v := .float .f64 ((Int.toNat b_2))) rfl rfl) ?_
      refine ro_nil ?_
      refine wp_seq ?_
      refine wp_seq ?_
      refine wp_text [0, 1, 2] rfl ?_
      refine ro_val (d := (some 18)) rfl (.free rfl) rfl (q_move (v := .float .f64 ((Int.toNat b_2))) rfl rfl) ?_
      refine ro_val (d := (some 19)) rfl (.free rfl) rfl (q_move (v := .float .f64 ((Int.toNat b_2))) rfl rfl) ?_
      refine ro_val (d := (some 20)) rfl (.free rfl) rfl (q_fcmp (op := .neq) (a := (Int.toNat b_2)) (b := (Int.toNat b_2)) rfl (by decide) rfl rfl) ?_
      refine ro_nil ?_
      refine wp_if (b := (fcmp .neq (Int.toNat b_2) (Int.toNat b_2))) rfl h (fun hb4 h => ?_) (fun hb4 h => ?_)
      · refine wp_seq ?_
        refine wp_text [0, 1] rfl ?_
        refine ro_val (d := (some 2)) rfl (.free rfl) rfl (q_assign (v := .float .f64 ((0 : Nat))) rfl rfl) ?_
        refine ro_val (d := (some 3)) rfl (.free rfl) rfl (q_assign (v := .bool (false)) rfl rfl) ?_
        refine ro_nil ?_
        refine wp_ret ?_
        exact ret_ok rfl (.cons (.tmp (v := .float .f64 ((0 : Nat))) rfl) (.cons (.tmp (v := .bool (false)) rfl) .nil)) ⟨((0 : Nat), false), rfl, h⟩
      · refine wp_skip ?_
        refine wp_seq ?_
        refine wp_text [0, 1, 2] rfl ?_
        refine ro_val (d := (some 21)) rfl (.free rfl) rfl (q_move (v := .float .f64 ((Int.toNat b_2))) rfl rfl) ?_
        refine ro_val (d := (some 2)) rfl (.free rfl) rfl (q_assign (v := .float .f64 ((Int.toNat b_2))) rfl rfl) ?_
        refine ro_val (d := (some 3)) rfl (.free rfl) rfl (q_assign (v := .bool (true)) rfl rfl) ?_
        refine ro_nil ?_
        refine wp_ret ?_
        exact ret_ok rfl (.cons (.tmp (v := .float .f64 ((Int.toNat b_2))) rfl) (.cons (.tmp (v := .bool (true)) rfl) .nil)) ⟨((Int.toNat b_2), true), rfl, h⟩
    · refine wp_seq ?_
      refine wp_text [0, 1, 2] rfl ?_
      refine ro_val (d := (some 11)) rfl (.free rfl) rfl (q_move (v := .int .u64 (k_1)) rfl rfl) ?_
      obtain ⟨d5, hd5, h⟩ := h
      refine ro_val (d := (some 12)) rfl (.free rfl) rfl (q_shr (a := k_1) (b := (63 : Int)) (r := d5) rfl rfl rfl hd5) ?_
      refine ro_val (d := (some 13)) rfl (.free rfl) rfl (q_eql (a := d5) (b := (1 : Int)) rfl rfl rfl) ?_
      refine ro_nil ?_
      refine wp_if (b := (d5 == (1 : Int))) rfl h (fun hb6 h => ?_) (fun hb6 h => ?_)
      · refine wp_text [0, 1, 2] rfl ?_
        refine ro_val (d := (some 14)) rfl (.free rfl) rfl (q_move (v := .int .u64 (k_1)) rfl rfl) ?_
        refine ro_val (d := (some 15)) rfl (.free rfl) rfl (q_andNot (a := k_1) (b := (9223372036854775808 : Int)) rfl rfl rfl) ?_
        refine ro_val (d := (some 4)) rfl (.free rfl) rfl (q_assign (v := .int .u64 ((bits .andNot .u64 k_1 (9223372036854775808 : Int)))) rfl rfl) ?_
        refine ro_nil ?_
        exact ⟨((bits .andNot .u64 k_1 (9223372036854775808 : Int))), _, arr (upd_step rfl rfl), h⟩
      · refine wp_skip ?_
        exact ⟨((bits .xor .u64 IntKind.u64.max k_1)), _, arr (upd_step rfl rfl), h⟩

-- math.IsInf
def F39_j1 (f_3 : Nat) (w4 : World) (R : Bool → World → Prop) : Prop :=
  R (fcmp .gtr f_3 (9218868437227405311 : Nat)) w4
def F39 (f_1 : Nat) (sign_2 : Int) (w : World) (R : Bool → World → Prop) : Prop :=
  if (sign_2 == (0 : Int)) = true then (
    cl Try.prog 40 [.float .f64 (f_1)] tFlt w fun r6 w5 =>
    F39_j1 r6 w5 R
  ) else (
    if (decide (sign_2 < (0 : Int))) = true then (
      F39_j1 (Op.negFloat .f64 f_1) w R
    ) else (
      F39_j1 f_1 w R
    )
  )
theorem F39_ok {f_1 : Nat} {sign_2 : Int} {w : World} {R : Bool → World → Prop} (h : F39 f_1 sign_2 w R) : cl Try.prog 39 [.float .f64 (f_1), .int .i64 (sign_2)] tBool w R := by
  unfold F39 at h
  refine calls_start 15 Try.func39 rfl rfl (Nat.le_of_ble_eq_true rfl) ?_
  refine wp_seq ?_
  refine wp_text [0] rfl ?_
  refine ro_val (d := (some 4)) rfl (.free rfl) rfl (q_assign (v := .bool (false)) rfl rfl) ?_
  refine ro_nil ?_
  refine seq_join (σ := Nat) (J := fun (s : Nat) w => F39_j1 s w R) (fr := fun g (s : Nat) => upd (g) 0 (.float .f64 (s))) ?_ ?_
  · rintro f_3 g w4 h
    unfold F39_j1 at h
    refine wp_seq ?_
    refine wp_text [0, 1, 2] rfl ?_
    refine ro_val (d := (some 13)) rfl (.free rfl) rfl (q_move (v := .float .f64 (f_3)) rfl rfl) ?_
    refine ro_val (d := (some 14)) rfl (.free rfl) rfl (q_fcmp (op := .gtr) (a := f_3) (b := (9218868437227405311 : Nat)) rfl (by decide) rfl rfl) ?_
    refine ro_val (d := (some 4)) rfl (.free rfl) rfl (q_assign (v := .bool ((fcmp .gtr f_3 (9218868437227405311 : Nat)))) rfl rfl) ?_
    refine ro_nil ?_
    refine wp_ret ?_
    exact ret_ok rfl (.cons (.tmp (v := .bool ((fcmp .gtr f_3 (9218868437227405311 : Nat)))) rfl) .nil) ⟨(fcmp .gtr f_3 (9218868437227405311 : Nat)), rfl, h⟩
  · refine wp_seq ?_
    refine wp_text [0, 1] rfl ?_
    refine ro_val (d := (some 5)) rfl (.free rfl) rfl (q_move (v := .int .i64 (sign_2)) rfl rfl) ?_
    refine ro_val (d := (some 6)) rfl (.free rfl) rfl (q_eql (a := sign_2) (b := (0 : Int)) rfl rfl rfl) ?_
    refine ro_nil ?_
    refine wp_if (b := (sign_2 == (0 : Int))) rfl h (fun hb8 h => ?_) (fun hb8 h => ?_)
    · refine wp_text [0, 1, 2] rfl ?_
      refine ro_val (d := (some 7)) rfl (.free rfl) rfl (q_move (v := .float .f64 (f_1)) rfl rfl) ?_
      refine ro_wp rfl (.free rfl) (wp_cl (d := (some 8)) rfl (q_call (k := 40) (l := [.float .f64 (f_1)]) rfl ent40 rfl) h ?_)
      intro r6 w5 h
      refine ro_val (d := (some 0)) rfl (.free rfl) rfl (q_assign (v := .float .f64 (r6)) rfl rfl) ?_
      refine ro_nil ?_
      exact ⟨(r6), _, arr (upd_step rfl rfl), h⟩
    · refine wp_seq ?_
      refine wp_text [0, 1] rfl ?_
      refine ro_val (d := (some 9)) rfl (.free rfl) rfl (q_move (v := .int .i64 (sign_2)) rfl rfl) ?_
      refine ro_val (d := (some 10)) rfl (.free rfl) rfl (q_lss (a := sign_2) (b := (0 : Int)) rfl rfl rfl) ?_
      refine ro_nil ?_
      refine wp_if (b := (decide (sign_2 < (0 : Int)))) rfl h (fun hb7 h => ?_) (fun hb7 h => ?_)
      · refine wp_text [0, 1, 2] rfl ?_
        refine ro_val (d := (some 11)) rfl (.free rfl) rfl (q_move (v := .float .f64 (f_1)) rfl rfl) ?_
        refine ro_val (d := (some 12)) rfl (.free rfl) rfl (q_negF (a := f_1) rfl rfl) ?_
        refine ro_val (d := (some 0)) rfl (.free rfl) rfl (q_assign (v := .float .f64 ((Op.negFloat .f64 f_1))) rfl rfl) ?_
        refine ro_nil ?_
        exact ⟨((Op.negFloat .f64 f_1)), _, arr (upd_step rfl rfl), h⟩
      · refine wp_skip ?_
        exact ⟨(f_1), _, arr (upd_step rfl rfl), h⟩

-- math.Abs
def F40 (x_1 : Nat) (w : World) (R : Nat → World → Prop) : Prop :=
  R (Int.toNat (bits .andNot .u64 (x_1 : Int) (9223372036854775808 : Int))) w
theorem F40_ok {x_1 : Nat} {w : World} {R : Nat → World → Prop} (h : F40 x_1 w R) : cl Try.prog 40 [.float .f64 (x_1)] tFlt w R := by
  unfold F40 at h
  refine calls_start 7 Try.func40 rfl rfl (Nat.le_of_ble_eq_true rfl) ?_
  refine wp_seq ?_
  refine wp_text [0] rfl ?_
  refine ro_val (d := (some 2)) rfl (.free rfl) rfl (q_assign (v := .float .f64 ((0 : Nat))) rfl rfl) ?_
  refine ro_nil ?_
  refine wp_seq ?_
  refine wp_text [0, 1, 2, 3, 4] rfl ?_
  refine ro_val (d := (some 3)) rfl (.free rfl) rfl (q_move (v := .float .f64 (x_1)) rfl rfl) ?_
  refine ro_val (d := (some 4)) rfl (.free rfl) rfl (q_f64bits (b := x_1) rfl ext23 rfl) ?_
  refine ro_val (d := (some 5)) rfl (.free rfl) rfl (q_andNot (a := (x_1 : Int)) (b := (9223372036854775808 : Int)) rfl rfl rfl) ?_
  refine ro_val (d := (some 6)) rfl (.free rfl) rfl (q_f64from (b := (bits .andNot .u64 (x_1 : Int) (9223372036854775808 : Int))) rfl ext38 rfl) ?_
  refine ro_val (d := (some 2)) rfl (.free rfl) rfl (q_assign (v := .float .f64 ((Int.toNat (bits .andNot .u64 (x_1 : Int) (9223372036854775808 : Int))))) rfl rfl) ?_
  refine ro_nil ?_
  refine wp_ret ?_
  exact ret_ok rfl (.cons (.tmp (v := .float .f64 ((Int.toNat (bits .andNot .u64 (x_1 : Int) (9223372036854775808 : Int))))) rfl) .nil) ⟨(Int.toNat (bits .andNot .u64 (x_1 : Int) (9223372036854775808 : Int))), rfl, h⟩

end Go.Proofs.Ytjhenlajkhckfaa.Cf
